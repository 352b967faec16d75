/- The given statement FnExactFixedReachedSaid holds (no condition). -/
import Derived.Test.YtdgeblmmmffgfaaD
set_option linter.unusedSimpArgs false
set_option linter.unusedVariables false
namespace Go.Proofs.Ytdgeblmmmffgfaa
open KF Go
theorem own : ownKnob Try.prog.godebug = none := by kernel_rfl
set_option maxRecDepth 100000 in
theorem fixedReached_lifted (os : Os) (started : os.Started) (H : Type) (enc : TypeId × Value → H) :
 ReturnsInHanded {} Try.checked os 4 .any (Rows.fnExactFixedReachedSpec.pre6 enc Try.prog Try.f4 Rows.fnExactFixedReachedRow.domain Rows.fnExactFixedReachedRow.apart)
  (Rows.fnExactFixedReachedSpec.post enc Try.prog Try.f4 Rows.fnExactFixedReachedRow.apart Rows.fnExactFixedReachedRow.fresh Rows.fnExactFixedReachedRow.handsOn Rows.fnExactFixedReachedRow.again) :=
 GD (C := Try.checked) (s := Rows.fnExactFixedReachedSpec) (fn := Try.f4) (tb := 4) (pt := (.p Ra (.p int .u))) (fl := true) (F := fun x => Ge x.1 x.2.1) own started (by kernel_rfl) Try.func4
  (ChangeSpec.witness6 (enc := enc) (C := Try.checked) false ⟨#[], #[.agg #[.int .i64 0, .slice none 0 0], .int .i64 0], []⟩ 8 (by kernel_rfl) (by kernel_rfl) (by kernel_rfl) (by kernel_rfl))
  rfl (fun ds h => by
   match ds, h with
   | [_, _], _ => rfl) (by kernel_rfl) (by kernel_rfl) (by kernel_rfl) Fm
  (fun x hx => Ku x.1 x.2.1 hx.1 hx.2.1)
set_option maxHeartbeats 0 in
theorem named : Try.pinned.checked.prog.funcNamed Rows.fnExactFixedReachedRow.func = some 4 := by kernel_rfl
set_option maxHeartbeats 0 in
theorem closed : joinedFacts Try.prog 4 Try.f4 Rows.fnExactFixedReachedSpec Rows.fnExactFixedReachedRow = true := by
 simp only [joinedFacts, Bool.and_eq_true]
 and_intros
 all_goals as_aux_lemma => kernel_rfl
theorem fixedReached_holds : Rows.FnExactFixedReachedSaid :=
 OpenClaim.holds_of_wide 4 Try.f4 rfl rfl rfl rfl rfl rfl rfl ⟨rfl, rfl, rfl, rfl, rfl⟩ rfl rfl rfl rfl rfl named Try.func4 closed
  (of_decide_eq_true (by kernel_rfl)) (by unfold Func.isWrapper; rw [if_neg (by decide +kernel)]; exact ⟨rfl, rfl⟩)
  (fun os started H enc _ => fixedReached_lifted os started H enc)
end Go.Proofs.Ytdgeblmmmffgfaa
