/- The given statement FnExactBoardTickSaid holds (no condition). -/
import Derived.Test.YtoncbegnhhcgmaaGreatG
set_option linter.unusedSimpArgs false
set_option linter.unusedVariables false
namespace Go.Proofs.YtoncbegnhhcgmaaGreat
open KF Go
theorem own : ownKnob Tryz.prog.godebug = none := by kernel_rfl
set_option maxRecDepth 100000 in
theorem boardTick_lifted (os : Os) (started : os.Started) (H : Type) (enc : TypeId × Value → H) :
 ReturnsInHanded {} Tryz.checked os 4 .any (Rows.fnExactBoardTickSpec.pre6 enc Tryz.prog Tryz.f4 Rows.fnExactBoardTickRow.domain Rows.fnExactBoardTickRow.apart)
  (Rows.fnExactBoardTickSpec.post enc Tryz.prog Tryz.f4 Rows.fnExactBoardTickRow.apart Rows.fnExactBoardTickRow.fresh Rows.fnExactBoardTickRow.handsOn Rows.fnExactBoardTickRow.again) :=
 Faq (C := Tryz.checked) (s := Rows.fnExactBoardTickSpec) (fn := Tryz.f4) (tb := 4) (pt := (.p Ad (.p int .u))) (fl := true) (F := fun x => Jl x.1 x.2.1) own started (by kernel_rfl) Tryz.func4
  (ChangeSpec.witness6 (enc := enc) (C := Tryz.checked) false ⟨#[], #[.agg #[.int .i64 0, .int .i64 0, .bool false, .int .i64 0, .int .i64 0, .int .i64 0, .int .i64 0, .int .i64 0, .slice none 0 0, .slice none 0 0, .int .i64 0, .slice none 0 0, .int .i64 0, .int .i64 0, .int .i64 0, .slice none 0 0, .int .i64 0, .slice none 0 0, .slice none 0 0, .int .i64 0, .slice none 0 0, .int .i64 0, .bool false, .int .i64 0, .int .i64 0, .int .i64 0, .slice none 0 0, .int .i64 0, .int .i64 0, .int .i64 0, .int .i64 0, .int .i64 0, .int .i64 0], .int .i64 0], []⟩ 8 (by kernel_rfl) (by kernel_rfl) (by kernel_rfl) (by kernel_rfl))
  rfl (fun ds h => by
   match ds, h with
   | [_, _], _ => rfl) (by kernel_rfl) (by kernel_rfl) (by kernel_rfl) CO
  (fun x hx => V8 x.1 x.2.1 hx.1 hx.2.1)
set_option maxHeartbeats 0 in
theorem named : Tryz.pinned.checked.prog.funcNamed Rows.fnExactBoardTickRow.func = some 4 := by kernel_rfl
set_option maxHeartbeats 0 in
theorem closed : joinedFacts Tryz.prog 4 Tryz.f4 Rows.fnExactBoardTickSpec Rows.fnExactBoardTickRow = true := by
 simp only [joinedFacts, Bool.and_eq_true]
 and_intros
 all_goals as_aux_lemma => kernel_rfl
theorem boardTick_holds : Rows.FnExactBoardTickSaid :=
 OpenClaim.holds_of_wide 4 Tryz.f4 rfl rfl rfl rfl rfl rfl rfl ⟨rfl, rfl, rfl, rfl, rfl⟩ rfl rfl rfl rfl rfl named Tryz.func4 closed
  (of_decide_eq_true (by kernel_rfl)) (by unfold Func.isWrapper; rw [if_neg (by decide +kernel)]; exact ⟨rfl, rfl⟩)
  (fun os started H enc _ => boardTick_lifted os started H enc)
end Go.Proofs.YtoncbegnhhcgmaaGreat
