/- The given statement FnTopSaid holds (no condition). -/
import Derived.Test.YthipacpeljffpaaGreatG
set_option linter.unusedSimpArgs false
set_option linter.unusedVariables false
namespace Go.Proofs.YthipacpeljffpaaGreat
open KF Go
theorem own : ownKnob Tryz.prog.godebug = none := by kernel_rfl
set_option maxRecDepth 100000 in
theorem top_holds_lifted (os : Os) (started : os.Started) (H : Type) (enc : TypeId × Value → H) :
 ReturnsInHanded {} Tryz.checked os 3 .any (Rows.fnTopSpec.pre6 enc Tryz.prog Tryz.f3 Rows.fnTopRow.domain Rows.fnTopRow.apart)
  (Rows.fnTopSpec.post enc Tryz.prog Tryz.f3 Rows.fnTopRow.apart Rows.fnTopRow.fresh Rows.fnTopRow.handsOn Rows.fnTopRow.again) :=
 Pah (C := Tryz.checked) (s := Rows.fnTopSpec) (fn := Tryz.f3) (tb := 4) (pt := (.p (.sl DJ) .u)) (fl := true) (F := fun x => LI x.1) own started (by kernel_rfl) Tryz.func3
  (ChangeSpec.witness6 (enc := enc) (C := Tryz.checked) false ⟨#[], #[.slice none 0 0], []⟩ 8 (by kernel_rfl) (by kernel_rfl) (by kernel_rfl) (by kernel_rfl))
  rfl (fun ds h => by
   match ds, h with
   | [_], _ => rfl) (by kernel_rfl) (by kernel_rfl) (by kernel_rfl) V1
  (fun x hx => Fam x.1)
set_option maxHeartbeats 0 in
theorem named : Tryz.pinned.checked.prog.funcNamed Rows.fnTopRow.func = some 3 := by kernel_rfl
set_option maxHeartbeats 0 in
theorem closed : joinedFacts Tryz.prog 3 Tryz.f3 Rows.fnTopSpec Rows.fnTopRow = true := by
 simp only [joinedFacts, Bool.and_eq_true]
 and_intros
 all_goals as_aux_lemma => kernel_rfl
theorem top_holds_holds : Rows.FnTopSaid :=
 OpenClaim.holds_of_wide 3 Tryz.f3 rfl rfl rfl rfl rfl rfl rfl ⟨rfl, rfl, rfl, rfl, rfl⟩ rfl rfl rfl rfl rfl named Tryz.func3 closed
  (of_decide_eq_true (by kernel_rfl)) (by unfold Func.isWrapper; rw [if_neg (by decide +kernel)]; exact ⟨rfl, rfl⟩)
  (fun os started H enc _ => top_holds_lifted os started H enc)
end Go.Proofs.YthipacpeljffpaaGreat
