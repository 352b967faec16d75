/- The given statement FnExactHalvesRunSaid holds (no condition). -/
import Derived.Test.YtoncbegnhhcgmaaGreatG
set_option linter.unusedSimpArgs false
set_option linter.unusedVariables false
namespace Go.Proofs.YtoncbegnhhcgmaaGreat
open KF Go
theorem own : ownKnob Tryz.prog.godebug = none := by kernel_rfl
set_option maxRecDepth 100000 in
theorem halvesRun_lifted (os : Os) (started : os.Started) (H : Type) (enc : TypeId × Value → H) :
 ReturnsInHanded {} Tryz.checked os 7 .any (Rows.fnExactHalvesRunSpec.pre6 enc Tryz.prog Tryz.f7 Rows.fnExactHalvesRunRow.domain Rows.fnExactHalvesRunRow.apart)
  (Rows.fnExactHalvesRunSpec.post enc Tryz.prog Tryz.f7 Rows.fnExactHalvesRunRow.apart Rows.fnExactHalvesRunRow.fresh Rows.fnExactHalvesRunRow.handsOn Rows.fnExactHalvesRunRow.again) :=
 Yay (C := Tryz.checked) (s := Rows.fnExactHalvesRunSpec) (fn := Tryz.f7) (tb := 4) (pt := (.p Bd (.p (.sl int) (.p (.sl int) (.p (.sl (.sl Tf)) .u))))) (fl := true) (F := fun x => Om x.1 x.2.1 x.2.2.1 x.2.2.2.1) own started (by kernel_rfl) Tryz.func7
  (ChangeSpec.witness6 (enc := enc) (C := Tryz.checked) false ⟨#[], #[.agg #[.int .i64 0, .int .i64 0, .bool false, .int .i64 0, .int .i64 0, .int .i64 0, .int .i64 0, .int .i64 0, .slice none 0 0, .slice none 0 0, .int .i64 0, .slice none 0 0, .int .i64 0, .int .i64 0, .int .i64 0, .slice none 0 0, .int .i64 0, .slice none 0 0, .slice none 0 0, .int .i64 0, .slice none 0 0, .int .i64 0, .bool false, .int .i64 0, .int .i64 0, .int .i64 0, .slice none 0 0, .int .i64 0, .int .i64 0, .int .i64 0, .int .i64 0, .int .i64 0, .int .i64 0, .slice none 0 0, .int .i64 0, .int .i64 0, .int .i64 0, .int .i64 0], .slice none 0 0, .slice none 0 0, .slice none 0 0], []⟩ 8 (by kernel_rfl) (by kernel_rfl) (by kernel_rfl) (by kernel_rfl))
  rfl (fun ds h => by
   match ds, h with
   | [_, _, _, _], _ => rfl) (by kernel_rfl) (by kernel_rfl) (by kernel_rfl) KT
  (fun x hx => Cag x.1 x.2.1 x.2.2.1 x.2.2.2.1 hx.1 hx.2.1 hx.2.2.1 hx.2.2.2.1)
set_option maxHeartbeats 0 in
theorem named : Tryz.pinned.checked.prog.funcNamed Rows.fnExactHalvesRunRow.func = some 7 := by kernel_rfl
set_option maxHeartbeats 0 in
theorem closed : joinedFacts Tryz.prog 7 Tryz.f7 Rows.fnExactHalvesRunSpec Rows.fnExactHalvesRunRow = true := by
 simp only [joinedFacts, Bool.and_eq_true]
 and_intros
 all_goals as_aux_lemma => kernel_rfl
theorem halvesRun_holds : Rows.FnExactHalvesRunSaid :=
 OpenClaim.holds_of_wide 7 Tryz.f7 rfl rfl rfl rfl rfl rfl rfl ⟨rfl, rfl, rfl, rfl, rfl⟩ rfl rfl rfl rfl rfl named Tryz.func7 closed
  (of_decide_eq_true (by kernel_rfl)) (by unfold Func.isWrapper; rw [if_neg (by decide +kernel)]; exact ⟨rfl, rfl⟩)
  (fun os started H enc _ => halvesRun_lifted os started H enc)
end Go.Proofs.YtoncbegnhhcgmaaGreat
