/- The given statement FnPrunedSaid holds (no condition). -/
import Derived.Test.YtkddlfhcedaggaaE
set_option linter.unusedSimpArgs false
set_option linter.unusedVariables false
namespace Go.Proofs.Ytkddlfhcedaggaa
open KF Go
theorem own : ownKnob Try.prog.godebug = none := by kernel_rfl
set_option maxRecDepth 100000 in
theorem pruned_lifted (os : Os) (started : os.Started) (H : Type) (enc : TypeId × Value → H) :
 ReturnsInHanded {} Try.checked os 3 .any (Rows.fnPrunedSpec.pre6 enc Try.prog Try.f3 Rows.fnPrunedRow.domain Rows.fnPrunedRow.apart)
  (Rows.fnPrunedSpec.post enc Try.prog Try.f3 Rows.fnPrunedRow.apart Rows.fnPrunedRow.fresh Rows.fnPrunedRow.handsOn Rows.fnPrunedRow.again) :=
 JM (C := Try.checked) (s := Rows.fnPrunedSpec) (fn := Try.f3) (tb := 4) (pt := (.p (.sl Ps) .u)) (fl := true) (F := fun x => Hl x.1) own started (by kernel_rfl) Try.func3
  (ChangeSpec.witness6 (enc := enc) (C := Try.checked) false ⟨#[], #[.slice none 0 0], []⟩ 8 (by kernel_rfl) (by kernel_rfl) (by kernel_rfl) (by kernel_rfl))
  rfl (fun ds h => by
   match ds, h with
   | [_], _ => rfl) (by kernel_rfl) (by kernel_rfl) (by kernel_rfl) Az
  (fun x hx => YH x.1)
set_option maxHeartbeats 0 in
theorem named : Try.pinned.checked.prog.funcNamed Rows.fnPrunedRow.func = some 3 := by kernel_rfl
set_option maxHeartbeats 0 in
theorem closed : joinedFacts Try.prog 3 Try.f3 Rows.fnPrunedSpec Rows.fnPrunedRow = true := by
 simp only [joinedFacts, Bool.and_eq_true]
 and_intros
 all_goals as_aux_lemma => kernel_rfl
theorem pruned_holds : Rows.FnPrunedSaid :=
 OpenClaim.holds_of_wide 3 Try.f3 rfl rfl rfl rfl rfl rfl rfl ⟨rfl, rfl, rfl, rfl, rfl⟩ rfl rfl rfl rfl rfl named Try.func3 closed
  (of_decide_eq_true (by kernel_rfl)) (by unfold Func.isWrapper; rw [if_neg (by decide +kernel)]; exact ⟨rfl, rfl⟩)
  (fun os started H enc _ => pruned_lifted os started H enc)
end Go.Proofs.Ytkddlfhcedaggaa
