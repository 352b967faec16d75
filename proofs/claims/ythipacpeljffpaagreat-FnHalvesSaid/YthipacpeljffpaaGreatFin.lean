/- The given statement FnHalvesSaid holds (no condition). -/
import Derived.Test.YthipacpeljffpaaGreatG
set_option linter.unusedSimpArgs false
set_option linter.unusedVariables false
namespace Go.Proofs.YthipacpeljffpaaGreat
open KF Go
theorem own : ownKnob Tryz.prog.godebug = none := by kernel_rfl
set_option maxRecDepth 100000 in
theorem halves_lifted (os : Os) (started : os.Started) (H : Type) (enc : TypeId × Value → H) :
 ReturnsInHanded {} Tryz.checked os 4 .any (Rows.fnHalvesSpec.pre6 enc Tryz.prog Tryz.f4 Rows.fnHalvesRow.domain Rows.fnHalvesRow.apart)
  (Rows.fnHalvesSpec.post enc Tryz.prog Tryz.f4 Rows.fnHalvesRow.apart Rows.fnHalvesRow.fresh Rows.fnHalvesRow.handsOn Rows.fnHalvesRow.again) :=
 Qak (C := Tryz.checked) (s := Rows.fnHalvesSpec) (fn := Tryz.f4) (tb := 4) (pt := (.p (.sl Cx) .u)) (fl := true) (F := fun x => MD x.1) own started (by kernel_rfl) Tryz.func4
  (ChangeSpec.witness6 (enc := enc) (C := Tryz.checked) false ⟨#[], #[.slice none 0 0], []⟩ 8 (by kernel_rfl) (by kernel_rfl) (by kernel_rfl) (by kernel_rfl))
  rfl (fun ds h => by
   match ds, h with
   | [_], _ => rfl) (by kernel_rfl) (by kernel_rfl) (by kernel_rfl) SW
  (fun x hx => Nab x.1)
set_option maxHeartbeats 0 in
theorem named : Tryz.pinned.checked.prog.funcNamed Rows.fnHalvesRow.func = some 4 := by kernel_rfl
set_option maxHeartbeats 0 in
theorem closed : joinedFacts Tryz.prog 4 Tryz.f4 Rows.fnHalvesSpec Rows.fnHalvesRow = true := by
 simp only [joinedFacts, Bool.and_eq_true]
 and_intros
 all_goals as_aux_lemma => kernel_rfl
theorem halves_holds : Rows.FnHalvesSaid :=
 OpenClaim.holds_of_wide 4 Tryz.f4 rfl rfl rfl rfl rfl rfl rfl ⟨rfl, rfl, rfl, rfl, rfl⟩ rfl rfl rfl rfl rfl named Tryz.func4 closed
  (of_decide_eq_true (by kernel_rfl)) (by unfold Func.isWrapper; rw [if_neg (by decide +kernel)]; exact ⟨rfl, rfl⟩)
  (fun os started H enc _ => halves_lifted os started H enc)
end Go.Proofs.YthipacpeljffpaaGreat
