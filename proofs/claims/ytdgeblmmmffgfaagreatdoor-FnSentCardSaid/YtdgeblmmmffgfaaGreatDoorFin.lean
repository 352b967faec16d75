/- The given statement FnSentSaid holds (no condition). -/
import Derived.Test.YtdgeblmmmffgfaaGreatDoorF
import Derived.Test.YtdgeblmmmffgfaaGreatDoorCards
import Derived.Test.YtdgeblmmmffgfaaGreatDoorTie
import Derived.SevenTiedAt
import Derived.LaidMore
set_option linter.unusedSimpArgs false
set_option linter.unusedVariables false
namespace Go.Proofs.YtdgeblmmmffgfaaGreatDoor
open KF Go
theorem own : ownKnob Tryz.prog.godebug = none := by kernel_rfl
theorem door_met (os : Os) (args : Array Value) : laidMetH Tryz.prog Rows.fnSentRow.laid ((Eaf Tryz.prog os Rows.fnSentRow.laid).forCall (fun _ _ => 0) ⟨#[], args, []⟩).memory := by
 rw [SB (by kernel_rfl)]
 exact laidMet_of_run' 8 (by kernel_rfl) (by kernel_rfl)
set_option maxRecDepth 100000 in
theorem sent_lifted (os : Os) (started : os.Started) (H : Type) (enc : TypeId × Value → H) :
 ReturnsInHanded {} Tryz.checked os 4 .any (fun w args => (Rows.fnSentSpec.pre enc Tryz.prog Tryz.f4 [] Rows.fnSentRow.apart w args ∧ laidMetH Tryz.prog Rows.fnSentRow.laid w) ∧ sizedMet enc Tryz.prog Tryz.f4 (OpenSpec.ofChange Rows.fnSentSpec) Rows.fnSentRow.apart w args)
  (Rows.fnSentSpec.post enc Tryz.prog Tryz.f4 Rows.fnSentRow.apart Rows.fnSentRow.fresh Rows.fnSentRow.handsOn Rows.fnSentRow.again) :=
 FX (C := Tryz.checked) (s := Rows.fnSentSpec) (fn := Tryz.f4) (tb := 4) (pt := (.p (.sl Zo) .u)) (fl := true) (F := fun x => Mw x.1) (I := II) own started (by kernel_rfl) Tryz.func4
  (ChangeSpec.witness_shaped (enc := enc) (C := Tryz.checked) (os := os) (X := fun w _ => laidMetH Tryz.prog Rows.fnSentRow.laid w) false (Eaf Tryz.prog os Rows.fnSentRow.laid) #[.slice none 0 0] 8 rfl (World.shaped_of_RefB (by kernel_rfl) (by kernel_rfl)) (by kernel_rfl) (by kernel_rfl) (by kernel_rfl) (door_met os _))
  rfl (fun ds h => by
   match ds, h with
   | [_], _ => rfl) (by kernel_rfl) (by kernel_rfl) (by kernel_rfl) HQ
  (fun x hx => S4 x.1)
  (fun W hs hl => by
  rw [SB (by kernel_rfl)] at hl
  obtain ⟨_, hv, _⟩ := hl
  obtain ⟨_, hv0⟩ := EI hv
  obtain ⟨_, hv1⟩ := EI hv0
  have h : II.p W := ⟨Tryz.lays_strings_Split.s1_3 W hs, LU (P := Tryz.prog) (k := .u64) (zs := Lib.pow10Tab) (n := 20) (t := 232) (e := 213) Tryz.lays_strconv_Itoa.m17 (by kernel_rfl) (by kernel_rfl) (by kernel_rfl) (by kernel_rfl) (by kernel_rfl) hv1⟩
  exact ⟨h, D7 h⟩) (by kernel_rfl)
set_option maxHeartbeats 0 in
theorem named : Tryz.pinned.checked.prog.funcNamed Rows.fnSentRow.func = some 4 := by kernel_rfl
set_option maxHeartbeats 0 in
theorem closed : joinedFacts Tryz.prog 4 Tryz.f4 Rows.fnSentSpec Rows.fnSentRow = true := by
 simp only [joinedFacts, Bool.and_eq_true]
 and_intros
 all_goals as_aux_lemma => kernel_rfl
theorem sent_row : Rows.FnSentSaid :=
 OpenClaim.holds_of_wide 4 Tryz.f4 rfl rfl rfl rfl rfl rfl rfl ⟨rfl, rfl, rfl, rfl, rfl⟩ rfl rfl rfl rfl rfl named Tryz.func4 closed
  (of_decide_eq_true (by kernel_rfl)) (by unfold Func.isWrapper; rw [if_neg (by decide +kernel)]; exact ⟨rfl, rfl⟩)
  (fun os started H enc _ => sent_lifted os started H enc)
set_option maxHeartbeats 0 in
theorem sent_holds : Rows.FnSentCardSaid :=
 Claim7.holds_tied_plain_at .later [] [.data, .data, .data, .data, .pinned] true (true, "a5296193ce5a1bfd2e656a0aab81d6f0b6b621fc8394df496f9d443c454c6a1f") true
  sent_row (fun _ h => by cases h) (by kernel_rfl) (fun _ h => by cases h) fnSent_row_tie rfl ⟨rfl, rfl⟩ (by kernel_rfl) rfl
  (fun f fn hf hfn => by
   obtain rfl : f = 4 := (Option.some.inj (named.symm.trans hf)).symm
   obtain rfl : fn = Tryz.f4 := (Option.some.inj (Tryz.func4.symm.trans hfn)).symm
   exact ⟨by kernel_rfl, fun j t ht => by
    rw [show Tryz.f4.params = #[41] by kernel_rfl] at ht
    have hm : t ∈ [41] := by simpa using Array.mem_of_getElem? ht
    have hall : ([41].all fun u => !Tryz.prog.wantsStandIn u) = true := by kernel_rfl
    exact (show Tryz.prog.wantsStandIn t = false by simpa using List.all_eq_true.1 hall t hm)⟩)
  (by kernel_rfl)
end Go.Proofs.YtdgeblmmmffgfaaGreatDoor
