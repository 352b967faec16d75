/- The given statement FnExactSaveOpsSaid holds (no condition). -/
import Derived.Test.YtokklojkcoeooaaPlain
import Derived.Test.YtokklojkcoeooaaWalk
namespace Go.Proofs.Ytokklojkcoeooaa
open KF Go

theorem own : ownKnob Try.prog.godebug = none := by kernel_rfl

set_option maxRecDepth 100000 in
theorem saveOps_lifted (os : Os) (started : os.Started) (H : Type) (enc : TypeId × Value → H) :
    ReturnsInHanded {} Try.checked os 5 .any (Rows.fnExactSaveOpsSpec.pre6 enc Try.prog Try.f5 Rows.fnExactSaveOpsRow.domain Rows.fnExactSaveOpsRow.apart)
      (Rows.fnExactSaveOpsSpec.post enc Try.prog Try.f5 Rows.fnExactSaveOpsRow.apart Rows.fnExactSaveOpsRow.fresh Rows.fnExactSaveOpsRow.handsOn Rows.fnExactSaveOpsRow.again) :=
  law_lifted (C := Try.checked) (s := Rows.fnExactSaveOpsSpec) (fn := Try.f5) (tb := 4) (pt := (.p tFlash (.p tStep .u))) (fl := true) (F := fun x => laws_FnExactSaveOps x.1 x.2.1) own started (by kernel_rfl) Try.func5
      (ChangeSpec.witness6 (enc := enc) (C := Try.checked) false ⟨#[], #[.agg #[.slice none 0 0, .slice none 0 0], .agg #[.int .i64 0, .int .i64 0, .int .i64 0]], []⟩ 8 (by kernel_rfl) (by kernel_rfl) (by kernel_rfl) (by kernel_rfl))
      rfl (fun ds h => by
        match ds, h with
        | [_, _], _ => rfl) (by kernel_rfl) (by kernel_rfl) (by kernel_rfl) laws_FnExactSaveOps_snd
      (fun x hx => law_SaveOps x.1 x.2.1 hx.1 hx.2.1)

theorem saveOps_holds : Rows.FnExactSaveOpsSaid :=
  OpenClaim.holds_of_wide 5 Try.f5 rfl rfl rfl rfl rfl rfl rfl ⟨rfl, rfl, rfl, rfl, rfl⟩ rfl rfl rfl rfl rfl (by kernel_rfl) Try.func5 (by kernel_rfl)
    (of_decide_eq_true (by kernel_rfl)) (by unfold Func.isWrapper; rw [if_neg (by decide +kernel)]; exact ⟨rfl, rfl⟩)
    (fun os started H enc _ => saveOps_lifted os started H enc)
end Go.Proofs.Ytokklojkcoeooaa
