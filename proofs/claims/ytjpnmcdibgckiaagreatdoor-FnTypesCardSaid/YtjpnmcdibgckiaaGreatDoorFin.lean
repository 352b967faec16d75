/- The given statement FnTypesSaid holds (no condition). -/
import Derived.Test.YtjpnmcdibgckiaaGreatDoorE
import Derived.Test.YtjpnmcdibgckiaaGreatDoorCards
import Derived.Test.YtjpnmcdibgckiaaGreatDoorTie
import Derived.SevenTiedAt
import Derived.LaidMore
set_option linter.unusedSimpArgs false
set_option linter.unusedVariables false
namespace Go.Proofs.YtjpnmcdibgckiaaGreatDoor
open KF Go
theorem own : ownKnob Tryz.prog.godebug = none := by kernel_rfl
theorem door_met (os : Os) (args : Array Value) : laidMetH Tryz.prog Rows.fnTypesRow.laid ((A9 Tryz.prog os Rows.fnTypesRow.laid).forCall (fun _ _ => 0) ⟨#[], args, []⟩).memory := by
 rw [GE (by kernel_rfl)]
 exact laidMet_of_run' 8 (by kernel_rfl) (by kernel_rfl)
set_option maxRecDepth 100000 in
theorem types_lifted (os : Os) (started : os.Started) (H : Type) (enc : TypeId × Value → H) :
 ReturnsInHanded {} Tryz.checked os 4 .any (fun w args => (Rows.fnTypesSpec.pre enc Tryz.prog Tryz.f4 [] Rows.fnTypesRow.apart w args ∧ laidMetH Tryz.prog Rows.fnTypesRow.laid w) ∧ sizedMet enc Tryz.prog Tryz.f4 (OpenSpec.ofChange Rows.fnTypesSpec) Rows.fnTypesRow.apart w args)
  (Rows.fnTypesSpec.post enc Tryz.prog Tryz.f4 Rows.fnTypesRow.apart Rows.fnTypesRow.fresh Rows.fnTypesRow.handsOn Rows.fnTypesRow.again) :=
 QR (C := Tryz.checked) (s := Rows.fnTypesSpec) (fn := Tryz.f4) (tb := 4) (pt := (.p (.sl Aj) .u)) (fl := true) (F := fun x => Tr x.1) (I := II) own started (by kernel_rfl) Tryz.func4
  (ChangeSpec.witness_shaped (enc := enc) (C := Tryz.checked) (os := os) (X := fun w _ => laidMetH Tryz.prog Rows.fnTypesRow.laid w) false (A9 Tryz.prog os Rows.fnTypesRow.laid) #[.slice none 0 0] 8 rfl (World.shaped_of_RefB (by kernel_rfl) (by kernel_rfl)) (by kernel_rfl) (by kernel_rfl) (by kernel_rfl) (door_met os _))
  rfl (fun ds h => by
   match ds, h with
   | [_], _ => rfl) (by kernel_rfl) (by kernel_rfl) (by kernel_rfl) XJ
  (fun x hx => AT x.1)
  (fun W hs _ => have h := Tryz.lays_strings_Split.s1_3 W hs; ⟨h, V0 h⟩) (by kernel_rfl)
set_option maxHeartbeats 0 in
theorem named : Tryz.pinned.checked.prog.funcNamed Rows.fnTypesRow.func = some 4 := by kernel_rfl
set_option maxHeartbeats 0 in
theorem closed : joinedFacts Tryz.prog 4 Tryz.f4 Rows.fnTypesSpec Rows.fnTypesRow = true := by
 simp only [joinedFacts, Bool.and_eq_true]
 and_intros
 all_goals as_aux_lemma => kernel_rfl
theorem types_row : Rows.FnTypesSaid :=
 OpenClaim.holds_of_wide 4 Tryz.f4 rfl rfl rfl rfl rfl rfl rfl ⟨rfl, rfl, rfl, rfl, rfl⟩ rfl rfl rfl rfl rfl named Tryz.func4 closed
  (of_decide_eq_true (by kernel_rfl)) (by unfold Func.isWrapper; rw [if_neg (by decide +kernel)]; exact ⟨rfl, rfl⟩)
  (fun os started H enc _ => types_lifted os started H enc)
set_option maxHeartbeats 0 in
theorem types_holds : Rows.FnTypesCardSaid :=
 Claim7.holds_tied_plain_at .later [] [.data, .pinned] true (true, "f9362e1e0b5d9191afca329748231960981d49cfbac9d3e34ff8cf8299b4c392") false
  types_row (fun _ h => by cases h) (by kernel_rfl) (fun _ h => by cases h) fnTypes_row_tie rfl ⟨rfl, rfl⟩ (by kernel_rfl) rfl
  (fun f fn hf hfn => by
   obtain rfl : f = 4 := (Option.some.inj (named.symm.trans hf)).symm
   obtain rfl : fn = Tryz.f4 := (Option.some.inj (Tryz.func4.symm.trans hfn)).symm
   exact ⟨by kernel_rfl, fun j t ht => by
    rw [show Tryz.f4.params = #[38] by kernel_rfl] at ht
    have hm : t ∈ [38] := by simpa using Array.mem_of_getElem? ht
    have hall : ([38].all fun u => !Tryz.prog.wantsStandIn u) = true := by kernel_rfl
    exact (show Tryz.prog.wantsStandIn t = false by simpa using List.all_eq_true.1 hall t hm)⟩)
  (by kernel_rfl)
end Go.Proofs.YtjpnmcdibgckiaaGreatDoor
