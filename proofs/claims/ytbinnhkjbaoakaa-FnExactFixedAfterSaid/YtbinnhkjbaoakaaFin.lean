/- The given statement FnExactFixedAfterSaid holds (no condition). -/
import Derived.Test.YtbinnhkjbaoakaaPlain
import Derived.Test.YtbinnhkjbaoakaaWalk
namespace Go.Proofs.Ytbinnhkjbaoakaa
open KF Go

theorem own : ownKnob Try.prog.godebug = none := by kernel_rfl

set_option maxRecDepth 100000 in
theorem fixedAfter_lifted (os : Os) (started : os.Started) (H : Type) (enc : TypeId × Value → H) :
    ReturnsInHanded {} Try.checked os 6 .any (Rows.fnExactFixedAfterSpec.pre6 enc Try.prog Try.f6 Rows.fnExactFixedAfterRow.domain Rows.fnExactFixedAfterRow.apart)
      (Rows.fnExactFixedAfterSpec.post enc Try.prog Try.f6 Rows.fnExactFixedAfterRow.apart Rows.fnExactFixedAfterRow.fresh Rows.fnExactFixedAfterRow.handsOn Rows.fnExactFixedAfterRow.again) :=
  law_lifted (C := Try.checked) (s := Rows.fnExactFixedAfterSpec) (fn := Try.f6) (tb := 4) (pt := (.p tKeymap tCombo)) (fl := true) (F := fun x => laws_FnExactFixedAfter x.1 x.2.1 x.2.2.1) own started (by kernel_rfl) Try.func6
      (ChangeSpec.witness6 (enc := enc) (C := Try.checked) false ⟨#[], #[.agg #[.int .i64 0, .slice none 0 0], .int .i64 0, .int .i64 0], []⟩ 8 (by kernel_rfl) (by kernel_rfl) (by kernel_rfl) (by kernel_rfl))
      rfl (fun ds h => by
        match ds, h with
        | [_, _, _], _ => rfl) (by kernel_rfl) (by kernel_rfl) (by kernel_rfl) laws_FnExactFixedAfter_snd
      (fun x hx => law_FixedAfter x.1 x.2.1 x.2.2.1 hx.1 hx.2.1 hx.2.2.1)

theorem fixedAfter_holds : Rows.FnExactFixedAfterSaid :=
  OpenClaim.holds_of_wide 6 Try.f6 rfl rfl rfl rfl rfl rfl rfl ⟨rfl, rfl, rfl, rfl, rfl⟩ rfl rfl rfl rfl rfl (by kernel_rfl) Try.func6 (by kernel_rfl)
    (of_decide_eq_true (by kernel_rfl)) (by unfold Func.isWrapper; rw [if_neg (by decide +kernel)]; exact ⟨rfl, rfl⟩)
    (fun os started H enc _ => fixedAfter_lifted os started H enc)
end Go.Proofs.Ytbinnhkjbaoakaa
