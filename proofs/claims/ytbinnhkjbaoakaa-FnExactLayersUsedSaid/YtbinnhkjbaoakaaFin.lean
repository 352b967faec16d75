/- The given statement FnExactLayersUsedSaid holds (no condition). -/
import Derived.Test.YtbinnhkjbaoakaaPlain
import Derived.Test.YtbinnhkjbaoakaaWalk
namespace Go.Proofs.Ytbinnhkjbaoakaa
open KF Go

theorem own : ownKnob Try.prog.godebug = none := by kernel_rfl

set_option maxRecDepth 100000 in
theorem layersUsed_lifted (os : Os) (started : os.Started) (H : Type) (enc : TypeId × Value → H) :
    ReturnsInHanded {} Try.checked os 5 .any (Rows.fnExactLayersUsedSpec.pre6 enc Try.prog Try.f5 Rows.fnExactLayersUsedRow.domain Rows.fnExactLayersUsedRow.apart)
      (Rows.fnExactLayersUsedSpec.post enc Try.prog Try.f5 Rows.fnExactLayersUsedRow.apart Rows.fnExactLayersUsedRow.fresh Rows.fnExactLayersUsedRow.handsOn Rows.fnExactLayersUsedRow.again) :=
  law_lifted (C := Try.checked) (s := Rows.fnExactLayersUsedSpec) (fn := Try.f5) (tb := 4) (pt := (.p tKeymap .u)) (fl := true) (F := fun x => laws_FnExactLayersUsed x.1) own started (by kernel_rfl) Try.func5
      (ChangeSpec.witness6 (enc := enc) (C := Try.checked) false ⟨#[], #[.agg #[.int .i64 0, .slice none 0 0]], []⟩ 8 (by kernel_rfl) (by kernel_rfl) (by kernel_rfl) (by kernel_rfl))
      rfl (fun ds h => by
        match ds, h with
        | [_], _ => rfl) (by kernel_rfl) (by kernel_rfl) (by kernel_rfl) laws_FnExactLayersUsed_snd
      (fun x hx => law_LayersUsed x.1 hx.1)

theorem layersUsed_holds : Rows.FnExactLayersUsedSaid :=
  OpenClaim.holds_of_wide 5 Try.f5 rfl rfl rfl rfl rfl rfl rfl ⟨rfl, rfl, rfl, rfl, rfl⟩ rfl rfl rfl rfl rfl (by kernel_rfl) Try.func5 (by kernel_rfl)
    (of_decide_eq_true (by kernel_rfl)) (by unfold Func.isWrapper; rw [if_neg (by decide +kernel)]; exact ⟨rfl, rfl⟩)
    (fun os started H enc _ => layersUsed_lifted os started H enc)
end Go.Proofs.Ytbinnhkjbaoakaa
