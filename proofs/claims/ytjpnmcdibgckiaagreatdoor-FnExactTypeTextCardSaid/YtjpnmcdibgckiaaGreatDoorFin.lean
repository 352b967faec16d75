/- The given statement FnExactTypeTextSaid holds (no condition). -/
import Derived.Test.YtjpnmcdibgckiaaGreatDoorF
import Derived.Test.YtjpnmcdibgckiaaGreatDoorCards
import Derived.Test.YtjpnmcdibgckiaaGreatDoorTie
import Derived.SevenTiedAt
import Derived.LaidMore
set_option linter.unusedSimpArgs false
set_option linter.unusedVariables false
namespace Go.Proofs.YtjpnmcdibgckiaaGreatDoor
open KF Go
theorem own : ownKnob Tryz.prog.godebug = none := by kernel_rfl
theorem door_met (os : Os) (args : Array Value) : laidMetH Tryz.prog Rows.fnExactTypeTextRow.laid ((Hac Tryz.prog os Rows.fnExactTypeTextRow.laid).forCall (fun _ _ => 0) ⟨#[], args, []⟩).memory := by
 rw [LH (by kernel_rfl)]
 exact laidMet_of_run' 8 (by kernel_rfl) (by kernel_rfl)
set_option maxRecDepth 100000 in
theorem typeText_lifted (os : Os) (started : os.Started) (H : Type) (enc : TypeId × Value → H) :
 ReturnsInHanded {} Tryz.checked os 3 .any (fun w args => (Rows.fnExactTypeTextSpec.pre enc Tryz.prog Tryz.f3 [] Rows.fnExactTypeTextRow.apart w args ∧ laidMetH Tryz.prog Rows.fnExactTypeTextRow.laid w) ∧ sizedMet enc Tryz.prog Tryz.f3 (OpenSpec.ofChange Rows.fnExactTypeTextSpec) Rows.fnExactTypeTextRow.apart w args)
  (Rows.fnExactTypeTextSpec.post enc Tryz.prog Tryz.f3 Rows.fnExactTypeTextRow.apart Rows.fnExactTypeTextRow.fresh Rows.fnExactTypeTextRow.handsOn Rows.fnExactTypeTextRow.again) :=
 MV (C := Tryz.checked) (s := Rows.fnExactTypeTextSpec) (fn := Tryz.f3) (tb := 4) (pt := (.p Bb (.p Ec (.p .s .u)))) (fl := true) (F := fun x => Gk x.1 x.2.1 x.2.2.1) (I := II) own started (by kernel_rfl) Tryz.func3
  (ChangeSpec.witness_shaped (enc := enc) (C := Tryz.checked) (os := os) (X := fun w _ => laidMetH Tryz.prog Rows.fnExactTypeTextRow.laid w) false (Hac Tryz.prog os Rows.fnExactTypeTextRow.laid) #[.agg #[.int .i64 0, .slice none 0 0], .agg #[.int .i64 0, .int .i64 0, .int .i64 0], .string ⟨#[]⟩] 8 rfl (World.shaped_of_RefB (by kernel_rfl) (by kernel_rfl)) (by kernel_rfl) (by kernel_rfl) (by kernel_rfl) (door_met os _))
  rfl (fun ds h => by
   match ds, h with
   | [_, _, _], _ => rfl) (by kernel_rfl) (by kernel_rfl) (by kernel_rfl) TC
  (fun x hx => LV x.1 x.2.1 x.2.2.1 hx.1 hx.2.1 hx.2.2.1)
  (fun W hs _ => have h := Tryz.lays_strings_Split.s1_3 W hs; ⟨h, W4 h⟩) (by kernel_rfl)
set_option maxHeartbeats 0 in
theorem named : Tryz.pinned.checked.prog.funcNamed Rows.fnExactTypeTextRow.func = some 3 := by kernel_rfl
set_option maxHeartbeats 0 in
theorem closed : joinedFacts Tryz.prog 3 Tryz.f3 Rows.fnExactTypeTextSpec Rows.fnExactTypeTextRow = true := by
 simp only [joinedFacts, Bool.and_eq_true]
 and_intros
 all_goals as_aux_lemma => kernel_rfl
theorem typeText_row : Rows.FnExactTypeTextSaid :=
 OpenClaim.holds_of_wide 3 Tryz.f3 rfl rfl rfl rfl rfl rfl rfl ⟨rfl, rfl, rfl, rfl, rfl⟩ rfl rfl rfl rfl rfl named Tryz.func3 closed
  (of_decide_eq_true (by kernel_rfl)) (by unfold Func.isWrapper; rw [if_neg (by decide +kernel)]; exact ⟨rfl, rfl⟩)
  (fun os started H enc _ => typeText_lifted os started H enc)
set_option maxHeartbeats 0 in
theorem typeText_holds : Rows.FnExactTypeTextCardSaid :=
 Claim7.holds_tied_plain_at .later [] [.data, .pinned] true (true, "f9362e1e0b5d9191afca329748231960981d49cfbac9d3e34ff8cf8299b4c392") false
  typeText_row (fun _ h => by cases h) (by kernel_rfl) (fun _ h => by cases h) fnExactTypeText_row_tie rfl ⟨rfl, rfl⟩ (by kernel_rfl) rfl
  (fun f fn hf hfn => by
   obtain rfl : f = 3 := (Option.some.inj (named.symm.trans hf)).symm
   obtain rfl : fn = Tryz.f3 := (Option.some.inj (Tryz.func3.symm.trans hfn)).symm
   exact ⟨by kernel_rfl, fun j t ht => by
    rw [show Tryz.f3.params = #[24, 26, 9] by kernel_rfl] at ht
    have hm : t ∈ [24, 26, 9] := by simpa using Array.mem_of_getElem? ht
    have hall : ([24, 26, 9].all fun u => !Tryz.prog.wantsStandIn u) = true := by kernel_rfl
    exact (show Tryz.prog.wantsStandIn t = false by simpa using List.all_eq_true.1 hall t hm)⟩)
  (by kernel_rfl)
end Go.Proofs.YtjpnmcdibgckiaaGreatDoor
