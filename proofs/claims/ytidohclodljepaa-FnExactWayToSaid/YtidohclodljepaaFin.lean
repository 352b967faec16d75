/- The given statement FnExactWayToSaid holds (no condition). -/
import Derived.Test.YtidohclodljepaaD
set_option linter.unusedSimpArgs false
set_option linter.unusedVariables false
namespace Go.Proofs.Ytidohclodljepaa
open KF Go
theorem own : ownKnob Try.prog.godebug = none := by kernel_rfl
set_option maxRecDepth 100000 in
theorem wayTo_holds_lifted (os : Os) (started : os.Started) (H : Type) (enc : TypeId × Value → H) :
 ReturnsInHanded {} Try.checked os 3 .any (Rows.fnExactWayToSpec.pre6 enc Try.prog Try.f3 Rows.fnExactWayToRow.domain Rows.fnExactWayToRow.apart)
  (Rows.fnExactWayToSpec.post enc Try.prog Try.f3 Rows.fnExactWayToRow.apart Rows.fnExactWayToRow.fresh Rows.fnExactWayToRow.handsOn Rows.fnExactWayToRow.again) :=
 CD (C := Try.checked) (s := Rows.fnExactWayToSpec) (fn := Try.f3) (tb := 4) (pt := (.p Sa Ew)) (fl := true) (F := fun x => Yg x.1 x.2.1 x.2.2.1) own started (by kernel_rfl) Try.func3
  (ChangeSpec.witness6 (enc := enc) (C := Try.checked) false ⟨#[], #[.agg #[.int .i64 0, .slice none 0 0], .int .i64 0, .int .i64 0], []⟩ 8 (by kernel_rfl) (by kernel_rfl) (by kernel_rfl) (by kernel_rfl))
  rfl (fun ds h => by
   match ds, h with
   | [_, _, _], _ => rfl) (by kernel_rfl) (by kernel_rfl) (by kernel_rfl) Aq
  (fun x hx => FF x.1 x.2.1 x.2.2.1 hx.1 hx.2.1 hx.2.2.1)
set_option maxHeartbeats 0 in
theorem named : Try.pinned.checked.prog.funcNamed Rows.fnExactWayToRow.func = some 3 := by kernel_rfl
set_option maxHeartbeats 0 in
theorem closed : joinedFacts Try.prog 3 Try.f3 Rows.fnExactWayToSpec Rows.fnExactWayToRow = true := by
 simp only [joinedFacts, Bool.and_eq_true]
 and_intros
 all_goals as_aux_lemma => kernel_rfl
theorem wayTo_holds_holds : Rows.FnExactWayToSaid :=
 OpenClaim.holds_of_wide 3 Try.f3 rfl rfl rfl rfl rfl rfl rfl ⟨rfl, rfl, rfl, rfl, rfl⟩ rfl rfl rfl rfl rfl named Try.func3 closed
  (of_decide_eq_true (by kernel_rfl)) (by unfold Func.isWrapper; rw [if_neg (by decide +kernel)]; exact ⟨rfl, rfl⟩)
  (fun os started H enc _ => wayTo_holds_lifted os started H enc)
end Go.Proofs.Ytidohclodljepaa
