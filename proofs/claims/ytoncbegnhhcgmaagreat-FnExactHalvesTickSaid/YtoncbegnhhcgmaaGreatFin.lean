/- The given statement FnExactHalvesTickSaid holds (no condition). -/
import Derived.Test.YtoncbegnhhcgmaaGreatG
set_option linter.unusedSimpArgs false
set_option linter.unusedVariables false
namespace Go.Proofs.YtoncbegnhhcgmaaGreat
open KF Go
theorem own : ownKnob Tryz.prog.godebug = none := by kernel_rfl
set_option maxRecDepth 100000 in
theorem halvesTick_lifted (os : Os) (started : os.Started) (H : Type) (enc : TypeId × Value → H) :
 ReturnsInHanded {} Tryz.checked os 6 .any (Rows.fnExactHalvesTickSpec.pre6 enc Tryz.prog Tryz.f6 Rows.fnExactHalvesTickRow.domain Rows.fnExactHalvesTickRow.apart)
  (Rows.fnExactHalvesTickSpec.post enc Tryz.prog Tryz.f6 Rows.fnExactHalvesTickRow.apart Rows.fnExactHalvesTickRow.fresh Rows.fnExactHalvesTickRow.handsOn Rows.fnExactHalvesTickRow.again) :=
 Zaw (C := Tryz.checked) (s := Rows.fnExactHalvesTickSpec) (fn := Tryz.f6) (tb := 4) (pt := (.p Fe (.p int (.p int (.p (.sl Uh) .u))))) (fl := true) (F := fun x => Ol x.1 x.2.1 x.2.2.1 x.2.2.2.1) own started (by kernel_rfl) Tryz.func6
  (ChangeSpec.witness6 (enc := enc) (C := Tryz.checked) false ⟨#[], #[.agg #[.int .i64 0, .int .i64 0, .bool false, .int .i64 0, .int .i64 0, .int .i64 0, .int .i64 0, .int .i64 0, .slice none 0 0, .slice none 0 0, .int .i64 0, .slice none 0 0, .int .i64 0, .int .i64 0, .int .i64 0, .slice none 0 0, .int .i64 0, .slice none 0 0, .slice none 0 0, .int .i64 0, .slice none 0 0, .int .i64 0, .bool false, .int .i64 0, .int .i64 0, .int .i64 0, .slice none 0 0, .int .i64 0, .int .i64 0, .int .i64 0, .int .i64 0, .int .i64 0, .int .i64 0, .slice none 0 0, .int .i64 0, .int .i64 0, .int .i64 0, .int .i64 0], .int .i64 0, .int .i64 0, .slice none 0 0], []⟩ 8 (by kernel_rfl) (by kernel_rfl) (by kernel_rfl) (by kernel_rfl))
  rfl (fun ds h => by
   match ds, h with
   | [_, _, _, _], _ => rfl) (by kernel_rfl) (by kernel_rfl) (by kernel_rfl) JR
  (fun x hx => Qab x.1 x.2.1 x.2.2.1 x.2.2.2.1 hx.1 hx.2.1 hx.2.2.1 hx.2.2.2.1)
set_option maxHeartbeats 0 in
theorem named : Tryz.pinned.checked.prog.funcNamed Rows.fnExactHalvesTickRow.func = some 6 := by kernel_rfl
set_option maxHeartbeats 0 in
theorem closed : joinedFacts Tryz.prog 6 Tryz.f6 Rows.fnExactHalvesTickSpec Rows.fnExactHalvesTickRow = true := by
 simp only [joinedFacts, Bool.and_eq_true]
 and_intros
 all_goals as_aux_lemma => kernel_rfl
theorem halvesTick_holds : Rows.FnExactHalvesTickSaid :=
 OpenClaim.holds_of_wide 6 Tryz.f6 rfl rfl rfl rfl rfl rfl rfl ⟨rfl, rfl, rfl, rfl, rfl⟩ rfl rfl rfl rfl rfl named Tryz.func6 closed
  (of_decide_eq_true (by kernel_rfl)) (by unfold Func.isWrapper; rw [if_neg (by decide +kernel)]; exact ⟨rfl, rfl⟩)
  (fun os started H enc _ => halvesTick_lifted os started H enc)
end Go.Proofs.YtoncbegnhhcgmaaGreat
