/- The given statement FnConsoleSaid holds (no condition). -/
import Derived.Test.YticcaclccdakbaaGreatDoorF
import Derived.Test.YticcaclccdakbaaGreatDoorCards
import Derived.Test.YticcaclccdakbaaGreatDoorTie
import Derived.SevenTiedAt
import Derived.LaidMore
import Derived.Lay
set_option linter.unusedSimpArgs false
set_option linter.unusedVariables false
namespace Go.Proofs.YticcaclccdakbaaGreatDoor
open KF Go
theorem own : ownKnob Tryz.prog.godebug = none := by kernel_rfl
theorem door_met (os : Os) (args : Array Value) : laidMetH Tryz.prog Rows.fnConsoleRow.laid ((World.laidAll Tryz.prog os Rows.fnConsoleRow.laid).forCall (fun _ _ => 0) ⟨#[], args, []⟩).memory := by
 rw [CF (by kernel_rfl)]
 exact laidMet_laidAll args (by kernel_rfl) (by kernel_rfl)
set_option maxRecDepth 100000 in
theorem console_lifted (os : Os) (started : os.Started) (H : Type) (enc : TypeId × Value → H) :
 ReturnsInHanded {} Tryz.checked os 6 .any (fun w args => (Rows.fnConsoleSpec.pre enc Tryz.prog Tryz.f6 [] Rows.fnConsoleRow.apart w args ∧ laidMetH Tryz.prog Rows.fnConsoleRow.laid w) ∧ sizedMet enc Tryz.prog Tryz.f6 (OpenSpec.ofChange Rows.fnConsoleSpec) Rows.fnConsoleRow.apart w args)
  (Rows.fnConsoleSpec.post enc Tryz.prog Tryz.f6 Rows.fnConsoleRow.apart Rows.fnConsoleRow.fresh Rows.fnConsoleRow.handsOn Rows.fnConsoleRow.again) :=
 T4 (C := Tryz.checked) (s := Rows.fnConsoleSpec) (fn := Tryz.f6) (tb := 4) (pt := (.p (.sl Kq) .u)) (fl := true) (F := fun x => Js x.1) (I := II) own started (by kernel_rfl) Tryz.func6
  (ChangeSpec.witness_shaped (enc := enc) (C := Tryz.checked) (os := os) (X := fun w _ => laidMetH Tryz.prog Rows.fnConsoleRow.laid w) false (World.laidAll Tryz.prog os Rows.fnConsoleRow.laid) #[.slice none 0 0] 8 (World.laidAll_os _ _ _) (World.shaped_of_RefB (by kernel_rfl) (by kernel_rfl)) (by kernel_rfl) (by kernel_rfl) (by kernel_rfl) (door_met os _))
  rfl (fun ds h => by
   match ds, h with
   | [_], _ => rfl) (by kernel_rfl) (by kernel_rfl) (by kernel_rfl) NO
  (fun x hx => J0 x.1)
  (fun W hs hl => by
  rw [CF (by kernel_rfl)] at hl
  obtain ⟨_, hv, _⟩ := hl
  obtain ⟨_, hv0⟩ := Qu hv
  obtain ⟨_, hv1⟩ := Qu hv0
  obtain ⟨_, hv2⟩ := Qu hv1
  obtain ⟨_, hv3⟩ := Qu hv2
  obtain ⟨_, hv4⟩ := Qu hv3
  have h : II.p W := ⟨⟨Tryz.lays_strings_Split.s1_3 W hs, V0 (P := Tryz.prog) (k := .u64) (zs := Lib.pow10Tab) (n := 20) (t := 358) (e := 341) Tryz.lays_strconv_Itoa.m17 (by kernel_rfl) (by kernel_rfl) (by kernel_rfl) (by kernel_rfl) (by kernel_rfl) hv1⟩, Pat (P := Tryz.prog) (g := Tryz.lays_strconv_Atoi_ren.g 15) (by kernel_rfl) (by kernel_rfl) hv4⟩
  exact ⟨h, Bag h⟩) (by kernel_rfl)
set_option maxHeartbeats 0 in
theorem named : Tryz.pinned.checked.prog.funcNamed Rows.fnConsoleRow.func = some 6 := by kernel_rfl
set_option maxHeartbeats 0 in
theorem closed : joinedFacts Tryz.prog 6 Tryz.f6 Rows.fnConsoleSpec Rows.fnConsoleRow = true := by
 simp only [joinedFacts, Bool.and_eq_true]
 and_intros
 all_goals as_aux_lemma => kernel_rfl
theorem console_row : Rows.FnConsoleSaid :=
 OpenClaim.holds_of_wide 6 Tryz.f6 rfl rfl rfl rfl rfl rfl rfl ⟨rfl, rfl, rfl, rfl, rfl⟩ rfl rfl rfl rfl rfl named Tryz.func6 closed
  (of_decide_eq_true (by kernel_rfl)) (by unfold Func.isWrapper; rw [if_neg (by decide +kernel)]; exact ⟨rfl, rfl⟩)
  (fun os started H enc _ => console_lifted os started H enc)
set_option maxHeartbeats 0 in
theorem console_holds : Rows.FnConsoleCardSaid :=
 Claim7.holds_tied_plain_at .later [] [.data, .data, .data, .data, .sentinel, .sentinel, .pinned] true (true, "79f4cd365bb6ca10990cee56988de67521ba8bb7400836ec70e579008731fd8d") true
  console_row (fun _ h => by cases h) (by kernel_rfl) (fun _ h => by cases h) fnConsole_row_tie rfl ⟨rfl, rfl⟩ (by kernel_rfl) rfl
  (fun f fn hf hfn => by
   obtain rfl : f = 6 := (Option.some.inj (named.symm.trans hf)).symm
   obtain rfl : fn = Tryz.f6 := (Option.some.inj (Tryz.func6.symm.trans hfn)).symm
   exact ⟨by kernel_rfl, fun j t ht => by
    rw [show Tryz.f6.params = #[22] by kernel_rfl] at ht
    have hm : t ∈ [22] := by simpa using Array.mem_of_getElem? ht
    have hall : ([22].all fun u => !Tryz.prog.wantsStandIn u) = true := by kernel_rfl
    exact (show Tryz.prog.wantsStandIn t = false by simpa using List.all_eq_true.1 hall t hm)⟩)
  (by kernel_rfl)
end Go.Proofs.YticcaclccdakbaaGreatDoor
