/- The given statement FnExactEventsForSaid holds (no condition). -/
import Derived.Test.YtenekdhofnoalaaDoorD
import Derived.Test.YtenekdhofnoalaaDoorCards
import Derived.Test.YtenekdhofnoalaaDoorTie
import Derived.SevenTiedAt
import Derived.LaidMore
set_option linter.unusedSimpArgs false
set_option linter.unusedVariables false
namespace Go.Proofs.YtenekdhofnoalaaDoor
open KF Go
theorem own : ownKnob Tryd.prog.godebug = none := by kernel_rfl
theorem door_met (os : Os) (args : Array Value) : laidMetH Tryd.prog Rows.fnExactEventsForRow.laid ((PF Tryd.prog os Rows.fnExactEventsForRow.laid).forCall (fun _ _ => 0) ⟨#[], args, []⟩).memory := by
 rw [Gq (by kernel_rfl)]
 exact laidMet_of_run' 8 (by kernel_rfl) (by kernel_rfl)
set_option maxRecDepth 100000 in
theorem eventsFor_lifted (os : Os) (started : os.Started) (H : Type) (enc : TypeId × Value → H) :
 ReturnsInHanded {} Tryd.checked os 4 .any (fun w args => (Rows.fnExactEventsForSpec.pre enc Tryd.prog Tryd.f4 [] Rows.fnExactEventsForRow.apart w args ∧ laidMetH Tryd.prog Rows.fnExactEventsForRow.laid w) ∧ sizedMet enc Tryd.prog Tryd.f4 (OpenSpec.ofChange Rows.fnExactEventsForSpec) Rows.fnExactEventsForRow.apart w args)
  (Rows.fnExactEventsForSpec.post enc Tryd.prog Tryd.f4 Rows.fnExactEventsForRow.apart Rows.fnExactEventsForRow.fresh Rows.fnExactEventsForRow.handsOn Rows.fnExactEventsForRow.again) :=
 Ux (C := Tryd.checked) (s := Rows.fnExactEventsForSpec) (fn := Tryd.f4) (tb := 4) (pt := (.p Ra (.p .s .u))) (fl := true) (F := fun x => Af x.1 x.2.1) (I := II) own started (by kernel_rfl) Tryd.func4
  (ChangeSpec.witness_shaped (enc := enc) (C := Tryd.checked) (os := os) (X := fun w _ => laidMetH Tryd.prog Rows.fnExactEventsForRow.laid w) false (PF Tryd.prog os Rows.fnExactEventsForRow.laid) #[.agg #[.int .i64 0, .slice none 0 0], .string ⟨#[]⟩] 8 rfl (World.shaped_of_RefB (by kernel_rfl) (by kernel_rfl)) (by kernel_rfl) (by kernel_rfl) (by kernel_rfl) (door_met os _))
  rfl (fun ds h => by
   match ds, h with
   | [_, _], _ => rfl) (by kernel_rfl) (by kernel_rfl) (by kernel_rfl) An
  (fun x hx => Ew x.1 x.2.1 hx.1 hx.2.1)
  (fun W hs _ => have h := Tryd.lays_strings_Split.s1_3 W hs; ⟨h, ZB h⟩) (by kernel_rfl)
set_option maxHeartbeats 0 in
theorem named : Tryd.pinned.checked.prog.funcNamed Rows.fnExactEventsForRow.func = some 4 := by kernel_rfl
set_option maxHeartbeats 0 in
theorem closed : joinedFacts Tryd.prog 4 Tryd.f4 Rows.fnExactEventsForSpec Rows.fnExactEventsForRow = true := by
 simp only [joinedFacts, Bool.and_eq_true]
 and_intros
 all_goals as_aux_lemma => kernel_rfl
theorem eventsFor_row : Rows.FnExactEventsForSaid :=
 OpenClaim.holds_of_wide 4 Tryd.f4 rfl rfl rfl rfl rfl rfl rfl ⟨rfl, rfl, rfl, rfl, rfl⟩ rfl rfl rfl rfl rfl named Tryd.func4 closed
  (of_decide_eq_true (by kernel_rfl)) (by unfold Func.isWrapper; rw [if_neg (by decide +kernel)]; exact ⟨rfl, rfl⟩)
  (fun os started H enc _ => eventsFor_lifted os started H enc)
set_option maxHeartbeats 0 in
theorem eventsFor_holds : Rows.FnExactEventsForCardSaid :=
 Claim7.holds_tied_plain_at .later [] [.data, .pinned] true (true, "692b43fb85621d98ec08d82fc3dccfe64dc9c31333391d4e64e0996cd6ec3af1") false
  eventsFor_row (fun _ h => by cases h) (by kernel_rfl) (fun _ h => by cases h) fnExactEventsFor_row_tie rfl ⟨rfl, rfl⟩ (by kernel_rfl) rfl
  (fun f fn hf hfn => by
   obtain rfl : f = 4 := (Option.some.inj (named.symm.trans hf)).symm
   obtain rfl : fn = Tryd.f4 := (Option.some.inj (Tryd.func4.symm.trans hfn)).symm
   exact ⟨by kernel_rfl, fun j t ht => by
    rw [show Tryd.f4.params = #[24, 9] by kernel_rfl] at ht
    have hm : t ∈ [24, 9] := by simpa using Array.mem_of_getElem? ht
    have hall : ([24, 9].all fun u => !Tryd.prog.wantsStandIn u) = true := by kernel_rfl
    exact (show Tryd.prog.wantsStandIn t = false by simpa using List.all_eq_true.1 hall t hm)⟩)
  (by kernel_rfl)
end Go.Proofs.YtenekdhofnoalaaDoor
