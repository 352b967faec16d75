/- The given statement FnExactBoardRunSaid holds (no condition). -/
import Derived.Test.YtoncbegnhhcgmaaGreatG
set_option linter.unusedSimpArgs false
set_option linter.unusedVariables false
namespace Go.Proofs.YtoncbegnhhcgmaaGreat
open KF Go
theorem own : ownKnob Tryz.prog.godebug = none := by kernel_rfl
set_option maxRecDepth 100000 in
theorem boardRun_lifted (os : Os) (started : os.Started) (H : Type) (enc : TypeId × Value → H) :
 ReturnsInHanded {} Tryz.checked os 5 .any (Rows.fnExactBoardRunSpec.pre6 enc Tryz.prog Tryz.f5 Rows.fnExactBoardRunRow.domain Rows.fnExactBoardRunRow.apart)
  (Rows.fnExactBoardRunSpec.post enc Tryz.prog Tryz.f5 Rows.fnExactBoardRunRow.apart Rows.fnExactBoardRunRow.fresh Rows.fnExactBoardRunRow.handsOn Rows.fnExactBoardRunRow.again) :=
 Far (C := Tryz.checked) (s := Rows.fnExactBoardRunSpec) (fn := Tryz.f5) (tb := 4) (pt := (.p Jc (.p (.sl int) .u))) (fl := true) (F := fun x => Um x.1 x.2.1) own started (by kernel_rfl) Tryz.func5
  (ChangeSpec.witness6 (enc := enc) (C := Tryz.checked) false ⟨#[], #[.agg #[.int .i64 0, .int .i64 0, .bool false, .int .i64 0, .int .i64 0, .int .i64 0, .int .i64 0, .int .i64 0, .slice none 0 0, .slice none 0 0, .int .i64 0, .slice none 0 0, .int .i64 0, .int .i64 0, .int .i64 0, .slice none 0 0, .int .i64 0, .slice none 0 0, .slice none 0 0, .int .i64 0, .slice none 0 0, .int .i64 0, .bool false, .int .i64 0, .int .i64 0, .int .i64 0, .slice none 0 0, .int .i64 0, .int .i64 0, .int .i64 0, .int .i64 0, .int .i64 0, .int .i64 0], .slice none 0 0], []⟩ 8 (by kernel_rfl) (by kernel_rfl) (by kernel_rfl) (by kernel_rfl))
  rfl (fun ds h => by
   match ds, h with
   | [_, _], _ => rfl) (by kernel_rfl) (by kernel_rfl) (by kernel_rfl) VP
  (fun x hx => Xad x.1 x.2.1 hx.1 hx.2.1)
set_option maxHeartbeats 0 in
theorem named : Tryz.pinned.checked.prog.funcNamed Rows.fnExactBoardRunRow.func = some 5 := by kernel_rfl
set_option maxHeartbeats 0 in
theorem closed : joinedFacts Tryz.prog 5 Tryz.f5 Rows.fnExactBoardRunSpec Rows.fnExactBoardRunRow = true := by
 simp only [joinedFacts, Bool.and_eq_true]
 and_intros
 all_goals as_aux_lemma => kernel_rfl
theorem boardRun_holds : Rows.FnExactBoardRunSaid :=
 OpenClaim.holds_of_wide 5 Tryz.f5 rfl rfl rfl rfl rfl rfl rfl ⟨rfl, rfl, rfl, rfl, rfl⟩ rfl rfl rfl rfl rfl named Tryz.func5 closed
  (of_decide_eq_true (by kernel_rfl)) (by unfold Func.isWrapper; rw [if_neg (by decide +kernel)]; exact ⟨rfl, rfl⟩)
  (fun os started H enc _ => boardRun_lifted os started H enc)
end Go.Proofs.YtoncbegnhhcgmaaGreat
