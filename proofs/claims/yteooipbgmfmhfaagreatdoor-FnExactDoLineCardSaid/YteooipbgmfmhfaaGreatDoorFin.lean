/- The given statement FnExactDoLineSaid holds (no condition). -/
import Derived.Test.YteooipbgmfmhfaaGreatDoorG
import Derived.Test.YteooipbgmfmhfaaGreatDoorCards
import Derived.Test.YteooipbgmfmhfaaGreatDoorTie
import Derived.SevenTiedAt
import Derived.LaidMore
import Derived.Lay
set_option linter.unusedSimpArgs false
set_option linter.unusedVariables false
namespace Go.Proofs.YteooipbgmfmhfaaGreatDoor
open KF Go
theorem own : ownKnob Tryz.prog.godebug = none := by kernel_rfl
theorem door_met (os : Os) (args : Array Value) : laidMetH Tryz.prog Rows.fnExactDoLineRow.laid ((World.laidAll Tryz.prog os Rows.fnExactDoLineRow.laid).forCall (fun _ _ => 0) ⟨#[], args, []⟩).memory := by
 rw [AT (by kernel_rfl)]
 exact laidMet_laidAll args (by kernel_rfl) (by kernel_rfl)
set_option maxRecDepth 100000 in
theorem doLine_lifted (os : Os) (started : os.Started) (H : Type) (enc : TypeId × Value → H) :
 ReturnsInHanded {} Tryz.checked os 7 .any (fun w args => (Rows.fnExactDoLineSpec.pre enc Tryz.prog Tryz.f7 [] Rows.fnExactDoLineRow.apart w args ∧ laidMetH Tryz.prog Rows.fnExactDoLineRow.laid w) ∧ sizedMet enc Tryz.prog Tryz.f7 (OpenSpec.ofChange Rows.fnExactDoLineSpec) Rows.fnExactDoLineRow.apart w args)
  (Rows.fnExactDoLineSpec.post enc Tryz.prog Tryz.f7 Rows.fnExactDoLineRow.apart Rows.fnExactDoLineRow.fresh Rows.fnExactDoLineRow.handsOn Rows.fnExactDoLineRow.again) :=
 Xal (C := Tryz.checked) (s := Rows.fnExactDoLineSpec) (fn := Tryz.f7) (tb := 4) (pt := (.p Bc (.p .s .u))) (fl := true) (F := fun x => Uu x.1 x.2.1) (I := II) own started (by kernel_rfl) Tryz.func7
  (ChangeSpec.witness_shaped (enc := enc) (C := Tryz.checked) (os := os) (X := fun w _ => laidMetH Tryz.prog Rows.fnExactDoLineRow.laid w) false (World.laidAll Tryz.prog os Rows.fnExactDoLineRow.laid) #[.agg #[.int .i64 0, .slice none 0 0, .slice none 0 0, .int .i64 0, .slice none 0 0, .int .i64 0, .bool false, .int .i64 0, .int .i64 0, .int .i64 0, .slice none 0 0, .int .i64 0, .int .i64 0, .int .i64 0, .int .i64 0, .slice none 0 0], .string ⟨#[]⟩] 8 (World.laidAll_os _ _ _) (World.shaped_of_RefB (by kernel_rfl) (by kernel_rfl)) (by kernel_rfl) (by kernel_rfl) (by kernel_rfl) (door_met os _))
  rfl (fun ds h => by
   match ds, h with
   | [_, _], _ => rfl) (by kernel_rfl) (by kernel_rfl) (by kernel_rfl) YX
  (fun x hx => CaA x.1 x.2.1 hx.1 hx.2.1)
  (fun W hs hl => by
  rw [AT (by kernel_rfl)] at hl
  obtain ⟨_, hv, _⟩ := hl
  obtain ⟨_, hv0⟩ := LB hv
  obtain ⟨_, hv1⟩ := LB hv0
  obtain ⟨_, hv2⟩ := LB hv1
  obtain ⟨_, hv3⟩ := LB hv2
  obtain ⟨_, hv4⟩ := LB hv3
  have h : II.p W := ⟨⟨Tryz.lays_strings_Split.s1_3 W hs, Zah (P := Tryz.prog) (k := .u64) (zs := Lib.pow10Tab) (n := 20) (t := 355) (e := 339) Tryz.lays_strconv_Itoa.m17 (by kernel_rfl) (by kernel_rfl) (by kernel_rfl) (by kernel_rfl) (by kernel_rfl) hv1⟩, VaX (P := Tryz.prog) (g := Tryz.lays_strconv_Atoi_ren.g 15) (by kernel_rfl) (by kernel_rfl) hv4⟩
  exact ⟨h, SaD h⟩) (by kernel_rfl)
set_option maxHeartbeats 0 in
theorem named : Tryz.pinned.checked.prog.funcNamed Rows.fnExactDoLineRow.func = some 7 := by kernel_rfl
set_option maxHeartbeats 0 in
theorem closed : joinedFacts Tryz.prog 7 Tryz.f7 Rows.fnExactDoLineSpec Rows.fnExactDoLineRow = true := by
 simp only [joinedFacts, Bool.and_eq_true]
 and_intros
 all_goals as_aux_lemma => kernel_rfl
theorem doLine_row : Rows.FnExactDoLineSaid :=
 OpenClaim.holds_of_wide 7 Tryz.f7 rfl rfl rfl rfl rfl rfl rfl ⟨rfl, rfl, rfl, rfl, rfl⟩ rfl rfl rfl rfl rfl named Tryz.func7 closed
  (of_decide_eq_true (by kernel_rfl)) (by unfold Func.isWrapper; rw [if_neg (by decide +kernel)]; exact ⟨rfl, rfl⟩)
  (fun os started H enc _ => doLine_lifted os started H enc)
set_option maxHeartbeats 0 in
theorem doLine_holds : Rows.FnExactDoLineCardSaid :=
 Claim7.holds_tied_plain_at .later [] [.data, .data, .data, .data, .sentinel, .sentinel, .pinned] true (true, "3bb214f9f8eba14cd51e4e62b5960825a4891918c3c39f70b6098ec1f02f2520") true
  doLine_row (fun _ h => by cases h) (by kernel_rfl) (fun _ h => by cases h) fnExactDoLine_row_tie rfl ⟨rfl, rfl⟩ (by kernel_rfl) rfl
  (fun f fn hf hfn => by
   obtain rfl : f = 7 := (Option.some.inj (named.symm.trans hf)).symm
   obtain rfl : fn = Tryz.f7 := (Option.some.inj (Tryz.func7.symm.trans hfn)).symm
   exact ⟨by kernel_rfl, fun j t ht => by
    rw [show Tryz.f7.params = #[62, 9] by kernel_rfl] at ht
    have hm : t ∈ [62, 9] := by simpa using Array.mem_of_getElem? ht
    have hall : ([62, 9].all fun u => !Tryz.prog.wantsStandIn u) = true := by kernel_rfl
    exact (show Tryz.prog.wantsStandIn t = false by simpa using List.all_eq_true.1 hall t hm)⟩)
  (by kernel_rfl)
end Go.Proofs.YteooipbgmfmhfaaGreatDoor
