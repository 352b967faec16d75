/- The given statement FnExactNewSessionSaid holds (no condition). -/
import Derived.Test.YtdgeblmmmffgfaaGreatDoorE
import Derived.Test.YtdgeblmmmffgfaaGreatDoorCards
import Derived.Test.YtdgeblmmmffgfaaGreatDoorTie
import Derived.SevenTiedAt
import Derived.LaidMore
import Derived.Lay
set_option linter.unusedSimpArgs false
set_option linter.unusedVariables false
namespace Go.Proofs.YtdgeblmmmffgfaaGreatDoor
open KF Go
theorem own : ownKnob Tryz.prog.godebug = none := by kernel_rfl
theorem door_met (os : Os) (args : Array Value) : laidMetH Tryz.prog Rows.fnExactNewSessionRow.laid ((World.laidAll Tryz.prog os Rows.fnExactNewSessionRow.laid).forCall (fun _ _ => 0) ⟨#[], args, []⟩).memory := by
 rw [Hx (by kernel_rfl)]
 exact laidMet_laidAll args (by kernel_rfl) (by kernel_rfl)
set_option maxRecDepth 100000 in
theorem newSession_lifted (os : Os) (started : os.Started) (H : Type) (enc : TypeId × Value → H) :
 ReturnsInHanded {} Tryz.checked os 3 .any (fun w args => (Rows.fnExactNewSessionSpec.pre enc Tryz.prog Tryz.f3 [] Rows.fnExactNewSessionRow.apart w args ∧ laidMetH Tryz.prog Rows.fnExactNewSessionRow.laid w) ∧ sizedMet enc Tryz.prog Tryz.f3 (OpenSpec.ofChange Rows.fnExactNewSessionSpec) Rows.fnExactNewSessionRow.apart w args)
  (Rows.fnExactNewSessionSpec.post enc Tryz.prog Tryz.f3 Rows.fnExactNewSessionRow.apart Rows.fnExactNewSessionRow.fresh Rows.fnExactNewSessionRow.handsOn Rows.fnExactNewSessionRow.again) :=
 MP (C := Tryz.checked) (s := Rows.fnExactNewSessionSpec) (fn := Tryz.f3) (tb := 4) (pt := .u) (fl := true) (F := fun x => Ih ) (I := II) own started (by kernel_rfl) Tryz.func3
  (ChangeSpec.witness_shaped (enc := enc) (C := Tryz.checked) (os := os) (X := fun w _ => laidMetH Tryz.prog Rows.fnExactNewSessionRow.laid w) false (World.laidAll Tryz.prog os Rows.fnExactNewSessionRow.laid) #[] 8 (World.laidAll_os _ _ _) (World.shaped_of_RefB (by kernel_rfl) (by kernel_rfl)) (by kernel_rfl) (by kernel_rfl) (by kernel_rfl) (door_met os _))
  rfl (fun ds h => by
   match ds, h with
   | [], _ => rfl) (by kernel_rfl) (by kernel_rfl) (by kernel_rfl) Ix
  (fun x hx => MK  )
  (fun W hs hl => by
  rw [Hx (by kernel_rfl)] at hl
  obtain ⟨_, hv, _⟩ := hl
  obtain ⟨_, hv0⟩ := Gn hv
  obtain ⟨_, hv1⟩ := Gn hv0
  obtain ⟨_, hv2⟩ := Gn hv1
  obtain ⟨_, hv3⟩ := Gn hv2
  obtain ⟨_, hv4⟩ := Gn hv3
  have h : II.p W := ⟨⟨Tryz.lays_strings_Split.s1_3 W hs, EN (P := Tryz.prog) (k := .u64) (zs := Lib.pow10Tab) (n := 20) (t := 232) (e := 213) Tryz.lays_strconv_Itoa.m17 (by kernel_rfl) (by kernel_rfl) (by kernel_rfl) (by kernel_rfl) (by kernel_rfl) hv1⟩, N9 (P := Tryz.prog) (g := Tryz.lays_strconv_Atoi_ren.g 15) (by kernel_rfl) (by kernel_rfl) hv4⟩
  exact ⟨h, HY h⟩) (by kernel_rfl)
set_option maxHeartbeats 0 in
theorem named : Tryz.pinned.checked.prog.funcNamed Rows.fnExactNewSessionRow.func = some 3 := by kernel_rfl
set_option maxHeartbeats 0 in
theorem closed : joinedFacts Tryz.prog 3 Tryz.f3 Rows.fnExactNewSessionSpec Rows.fnExactNewSessionRow = true := by
 simp only [joinedFacts, Bool.and_eq_true]
 and_intros
 all_goals as_aux_lemma => kernel_rfl
theorem newSession_row : Rows.FnExactNewSessionSaid :=
 OpenClaim.holds_of_wide 3 Tryz.f3 rfl rfl rfl rfl rfl rfl rfl ⟨rfl, rfl, rfl, rfl, rfl⟩ rfl rfl rfl rfl rfl named Tryz.func3 closed
  (of_decide_eq_true (by kernel_rfl)) (by unfold Func.isWrapper; rw [if_neg (by decide +kernel)]; exact ⟨rfl, rfl⟩)
  (fun os started H enc _ => newSession_lifted os started H enc)
set_option maxHeartbeats 0 in
theorem newSession_holds : Rows.FnExactNewSessionCardSaid :=
 Claim7.holds_tied_plain_at .later [] [.data, .data, .data, .data, .sentinel, .sentinel, .pinned] true (true, "a5296193ce5a1bfd2e656a0aab81d6f0b6b621fc8394df496f9d443c454c6a1f") true
  newSession_row (fun _ h => by cases h) (by kernel_rfl) (fun _ h => by cases h) fnExactNewSession_row_tie rfl ⟨rfl, rfl⟩ (by kernel_rfl) rfl
  (fun f fn hf hfn => by
   obtain rfl : f = 3 := (Option.some.inj (named.symm.trans hf)).symm
   obtain rfl : fn = Tryz.f3 := (Option.some.inj (Tryz.func3.symm.trans hfn)).symm
   exact ⟨by kernel_rfl, fun j t ht => by
    rw [show Tryz.f3.params = #[] by kernel_rfl] at ht
    have hm : t ∈ [] := by simpa using Array.mem_of_getElem? ht
    have hall : ([].all fun u => !Tryz.prog.wantsStandIn u) = true := by kernel_rfl
    exact (show Tryz.prog.wantsStandIn t = false by simpa using List.all_eq_true.1 hall t hm)⟩)
  (by kernel_rfl)
end Go.Proofs.YtdgeblmmmffgfaaGreatDoor
