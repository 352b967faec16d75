/- The given statement FnWaysSaid holds (no condition). -/
import Derived.Test.YtdgeblmmmffgfaaE
set_option linter.unusedSimpArgs false
set_option linter.unusedVariables false
namespace Go.Proofs.Ytdgeblmmmffgfaa
open KF Go
theorem own : ownKnob Try.prog.godebug = none := by kernel_rfl
set_option maxRecDepth 100000 in
theorem ways_lifted (os : Os) (started : os.Started) (H : Type) (enc : TypeId × Value → H) :
 ReturnsInHanded {} Try.checked os 5 .any (Rows.fnWaysSpec.pre6 enc Try.prog Try.f5 Rows.fnWaysRow.domain Rows.fnWaysRow.apart)
  (Rows.fnWaysSpec.post enc Try.prog Try.f5 Rows.fnWaysRow.apart Rows.fnWaysRow.fresh Rows.fnWaysRow.handsOn Rows.fnWaysRow.again) :=
 KL (C := Try.checked) (s := Rows.fnWaysSpec) (fn := Try.f5) (tb := 4) (pt := (.p (.sl Wt) .u)) (fl := true) (F := fun x => Bn x.1) own started (by kernel_rfl) Try.func5
  (ChangeSpec.witness6 (enc := enc) (C := Try.checked) false ⟨#[], #[.slice none 0 0], []⟩ 8 (by kernel_rfl) (by kernel_rfl) (by kernel_rfl) (by kernel_rfl))
  rfl (fun ds h => by
   match ds, h with
   | [_], _ => rfl) (by kernel_rfl) (by kernel_rfl) (by kernel_rfl) GC
  (fun x hx => JL x.1)
set_option maxHeartbeats 0 in
theorem named : Try.pinned.checked.prog.funcNamed Rows.fnWaysRow.func = some 5 := by kernel_rfl
set_option maxHeartbeats 0 in
theorem closed : joinedFacts Try.prog 5 Try.f5 Rows.fnWaysSpec Rows.fnWaysRow = true := by
 simp only [joinedFacts, Bool.and_eq_true]
 and_intros
 all_goals as_aux_lemma => kernel_rfl
theorem ways_holds : Rows.FnWaysSaid :=
 OpenClaim.holds_of_wide 5 Try.f5 rfl rfl rfl rfl rfl rfl rfl ⟨rfl, rfl, rfl, rfl, rfl⟩ rfl rfl rfl rfl rfl named Try.func5 closed
  (of_decide_eq_true (by kernel_rfl)) (by unfold Func.isWrapper; rw [if_neg (by decide +kernel)]; exact ⟨rfl, rfl⟩)
  (fun os started H enc _ => ways_lifted os started H enc)
end Go.Proofs.Ytdgeblmmmffgfaa
