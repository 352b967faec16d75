/- The given statement FnExactRunLinesSaid holds (no condition). -/
import Derived.Test.YteooipbgmfmhfaaGreatDoorG
import Derived.Test.YteooipbgmfmhfaaGreatDoorCards
import Derived.Test.YteooipbgmfmhfaaGreatDoorTie
import Derived.SevenTiedAt
import Derived.LaidMore
import Derived.Lay
set_option linter.unusedSimpArgs false
set_option linter.unusedVariables false
namespace Go.Proofs.YteooipbgmfmhfaaGreatDoor
open KF Go
theorem own : ownKnob Tryz.prog.godebug = none := by kernel_rfl
theorem door_met (os : Os) (args : Array Value) : laidMetH Tryz.prog Rows.fnExactRunLinesRow.laid ((World.laidAll Tryz.prog os Rows.fnExactRunLinesRow.laid).forCall (fun _ _ => 0) ⟨#[], args, []⟩).memory := by
 rw [HN (by kernel_rfl)]
 exact laidMet_laidAll args (by kernel_rfl) (by kernel_rfl)
set_option maxRecDepth 100000 in
theorem runLines_lifted (os : Os) (started : os.Started) (H : Type) (enc : TypeId × Value → H) :
 ReturnsInHanded {} Tryz.checked os 6 .any (fun w args => (Rows.fnExactRunLinesSpec.pre enc Tryz.prog Tryz.f6 [] Rows.fnExactRunLinesRow.apart w args ∧ laidMetH Tryz.prog Rows.fnExactRunLinesRow.laid w) ∧ sizedMet enc Tryz.prog Tryz.f6 (OpenSpec.ofChange Rows.fnExactRunLinesSpec) Rows.fnExactRunLinesRow.apart w args)
  (Rows.fnExactRunLinesSpec.post enc Tryz.prog Tryz.f6 Rows.fnExactRunLinesRow.apart Rows.fnExactRunLinesRow.fresh Rows.fnExactRunLinesRow.handsOn Rows.fnExactRunLinesRow.again) :=
 Caf (C := Tryz.checked) (s := Rows.fnExactRunLinesSpec) (fn := Tryz.f6) (tb := 4) (pt := (.p .s .u)) (fl := true) (F := fun x => Hq x.1) (I := II) own started (by kernel_rfl) Tryz.func6
  (ChangeSpec.witness_shaped (enc := enc) (C := Tryz.checked) (os := os) (X := fun w _ => laidMetH Tryz.prog Rows.fnExactRunLinesRow.laid w) false (World.laidAll Tryz.prog os Rows.fnExactRunLinesRow.laid) #[.string ⟨#[]⟩] 8 (World.laidAll_os _ _ _) (World.shaped_of_RefB (by kernel_rfl) (by kernel_rfl)) (by kernel_rfl) (by kernel_rfl) (by kernel_rfl) (door_met os _))
  rfl (fun ds h => by
   match ds, h with
   | [_], _ => rfl) (by kernel_rfl) (by kernel_rfl) (by kernel_rfl) RP
  (fun x hx => Baf x.1 hx.1)
  (fun W hs hl => by
  rw [HN (by kernel_rfl)] at hl
  obtain ⟨_, hv, _⟩ := hl
  obtain ⟨_, hv0⟩ := PA hv
  obtain ⟨_, hv1⟩ := PA hv0
  obtain ⟨_, hv2⟩ := PA hv1
  obtain ⟨_, hv3⟩ := PA hv2
  obtain ⟨_, hv4⟩ := PA hv3
  have h : II.p W := ⟨⟨Tryz.lays_strings_Split.s1_3 W hs, Mab (P := Tryz.prog) (k := .u64) (zs := Lib.pow10Tab) (n := 20) (t := 355) (e := 339) Tryz.lays_strconv_Itoa.m17 (by kernel_rfl) (by kernel_rfl) (by kernel_rfl) (by kernel_rfl) (by kernel_rfl) hv1⟩, HaK (P := Tryz.prog) (g := Tryz.lays_strconv_Atoi_ren.g 15) (by kernel_rfl) (by kernel_rfl) hv4⟩
  exact ⟨h, Oat h⟩) (by kernel_rfl)
set_option maxHeartbeats 0 in
theorem named : Tryz.pinned.checked.prog.funcNamed Rows.fnExactRunLinesRow.func = some 6 := by kernel_rfl
set_option maxHeartbeats 0 in
theorem closed : joinedFacts Tryz.prog 6 Tryz.f6 Rows.fnExactRunLinesSpec Rows.fnExactRunLinesRow = true := by
 simp only [joinedFacts, Bool.and_eq_true]
 and_intros
 all_goals as_aux_lemma => kernel_rfl
theorem runLines_row : Rows.FnExactRunLinesSaid :=
 OpenClaim.holds_of_wide 6 Tryz.f6 rfl rfl rfl rfl rfl rfl rfl ⟨rfl, rfl, rfl, rfl, rfl⟩ rfl rfl rfl rfl rfl named Tryz.func6 closed
  (of_decide_eq_true (by kernel_rfl)) (by unfold Func.isWrapper; rw [if_neg (by decide +kernel)]; exact ⟨rfl, rfl⟩)
  (fun os started H enc _ => runLines_lifted os started H enc)
set_option maxHeartbeats 0 in
theorem runLines_holds : Rows.FnExactRunLinesCardSaid :=
 Claim7.holds_tied_plain_at .later [] [.data, .data, .data, .data, .sentinel, .sentinel, .pinned] true (true, "3bb214f9f8eba14cd51e4e62b5960825a4891918c3c39f70b6098ec1f02f2520") true
  runLines_row (fun _ h => by cases h) (by kernel_rfl) (fun _ h => by cases h) fnExactRunLines_row_tie rfl ⟨rfl, rfl⟩ (by kernel_rfl) rfl
  (fun f fn hf hfn => by
   obtain rfl : f = 6 := (Option.some.inj (named.symm.trans hf)).symm
   obtain rfl : fn = Tryz.f6 := (Option.some.inj (Tryz.func6.symm.trans hfn)).symm
   exact ⟨by kernel_rfl, fun j t ht => by
    rw [show Tryz.f6.params = #[9] by kernel_rfl] at ht
    have hm : t ∈ [9] := by simpa using Array.mem_of_getElem? ht
    have hall : ([9].all fun u => !Tryz.prog.wantsStandIn u) = true := by kernel_rfl
    exact (show Tryz.prog.wantsStandIn t = false by simpa using List.all_eq_true.1 hall t hm)⟩)
  (by kernel_rfl)
end Go.Proofs.YteooipbgmfmhfaaGreatDoor
