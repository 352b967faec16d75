/- The given statement FnHoldsSaid holds (no condition). -/
import Derived.Test.YtkddlfhcedaggaaE
set_option linter.unusedSimpArgs false
set_option linter.unusedVariables false
namespace Go.Proofs.Ytkddlfhcedaggaa
open KF Go
theorem own : ownKnob Try.prog.godebug = none := by kernel_rfl
set_option maxRecDepth 100000 in
theorem holds_lifted (os : Os) (started : os.Started) (H : Type) (enc : TypeId × Value → H) :
 ReturnsInHanded {} Try.checked os 4 .any (Rows.fnHoldsSpec.pre6 enc Try.prog Try.f4 Rows.fnHoldsRow.domain Rows.fnHoldsRow.apart)
  (Rows.fnHoldsSpec.post enc Try.prog Try.f4 Rows.fnHoldsRow.apart Rows.fnHoldsRow.fresh Rows.fnHoldsRow.handsOn Rows.fnHoldsRow.again) :=
 UM (C := Try.checked) (s := Rows.fnHoldsSpec) (fn := Try.f4) (tb := 4) (pt := (.p (.sl Cu) .u)) (fl := true) (F := fun x => Ok x.1) own started (by kernel_rfl) Try.func4
  (ChangeSpec.witness6 (enc := enc) (C := Try.checked) false ⟨#[], #[.slice none 0 0], []⟩ 8 (by kernel_rfl) (by kernel_rfl) (by kernel_rfl) (by kernel_rfl))
  rfl (fun ds h => by
   match ds, h with
   | [_], _ => rfl) (by kernel_rfl) (by kernel_rfl) (by kernel_rfl) CC
  (fun x hx => OJ x.1)
set_option maxHeartbeats 0 in
theorem named : Try.pinned.checked.prog.funcNamed Rows.fnHoldsRow.func = some 4 := by kernel_rfl
set_option maxHeartbeats 0 in
theorem closed : joinedFacts Try.prog 4 Try.f4 Rows.fnHoldsSpec Rows.fnHoldsRow = true := by
 simp only [joinedFacts, Bool.and_eq_true]
 and_intros
 all_goals as_aux_lemma => kernel_rfl
theorem holds_holds : Rows.FnHoldsSaid :=
 OpenClaim.holds_of_wide 4 Try.f4 rfl rfl rfl rfl rfl rfl rfl ⟨rfl, rfl, rfl, rfl, rfl⟩ rfl rfl rfl rfl rfl named Try.func4 closed
  (of_decide_eq_true (by kernel_rfl)) (by unfold Func.isWrapper; rw [if_neg (by decide +kernel)]; exact ⟨rfl, rfl⟩)
  (fun os started H enc _ => holds_lifted os started H enc)
end Go.Proofs.Ytkddlfhcedaggaa
