/- The given statement holds (no condition). -/
import Derived.Test.YtabfbdolbfnfcaaPlain
import Derived.Test.YtabfbdolbfnfcaaWalk
namespace Go.Proofs.Ytabfbdolbfnfcaa
open KF Go

theorem own : ownKnob Try.prog.godebug = none := by kernel_rfl

set_option maxRecDepth 100000 in
theorem isFixed_lifted (os : Os) (started : os.Started) (H : Type) (enc : TypeId × Value → H) :
    ReturnsInHanded {} Try.checked os 7 .any (Rows.fnExactIsFixedSpec.pre6 enc Try.prog Try.f7 Rows.fnExactIsFixedRow.domain Rows.fnExactIsFixedRow.apart)
      (Rows.fnExactIsFixedSpec.post enc Try.prog Try.f7 Rows.fnExactIsFixedRow.apart Rows.fnExactIsFixedRow.fresh Rows.fnExactIsFixedRow.handsOn Rows.fnExactIsFixedRow.again) :=
  law_lifted (C := Try.checked) (s := Rows.fnExactIsFixedSpec) (fn := Try.f7) (tb := 4) (pt := .p tKeymap (.p int .u)) (fl := true) (F := fun x => laws_FnExactIsFixed x.1 x.2.1) own started (by kernel_rfl) Try.func7
      (ChangeSpec.witness6 (enc := enc) (C := Try.checked) false ⟨#[], #[.agg #[.int .i64 0, .slice none 0 0], .int .i64 0], []⟩ 8 (by kernel_rfl) (by kernel_rfl) (by kernel_rfl) (by kernel_rfl))
      rfl (fun ds h => by
        match ds, h with
        | [_, _], _ => rfl) (by kernel_rfl) (by kernel_rfl) (by kernel_rfl) laws_FnExactIsFixed_snd
      (fun x hx => law_IsFixed x.1 x.2.1 hx.1)

theorem isFixed_holds : Rows.FnExactIsFixedSaid :=
  OpenClaim.holds_of_wide 7 Try.f7 rfl rfl rfl rfl rfl rfl rfl ⟨rfl, rfl, rfl, rfl, rfl⟩ rfl rfl rfl rfl rfl (by kernel_rfl) Try.func7 (by kernel_rfl)
    (of_decide_eq_true (by kernel_rfl)) (by unfold Func.isWrapper; rw [if_neg (by decide +kernel)]; exact ⟨rfl, rfl⟩)
    (fun os started H enc _ => isFixed_lifted os started H enc)
#print axioms isFixed_holds
end Go.Proofs.Ytabfbdolbfnfcaa
