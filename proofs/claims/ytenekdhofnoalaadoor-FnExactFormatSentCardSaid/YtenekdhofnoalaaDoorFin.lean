/- The given statement FnExactFormatSentSaid holds (no condition). -/
import Derived.Test.YtenekdhofnoalaaDoorD
import Derived.Test.YtenekdhofnoalaaDoorCards
import Derived.Test.YtenekdhofnoalaaDoorTie
import Derived.SevenTiedAt
import Derived.LaidMore
set_option linter.unusedSimpArgs false
set_option linter.unusedVariables false
namespace Go.Proofs.YtenekdhofnoalaaDoor
open KF Go
theorem own : ownKnob Tryd.prog.godebug = none := by kernel_rfl
theorem door_met (os : Os) (args : Array Value) : laidMetH Tryd.prog Rows.fnExactFormatSentRow.laid ((TC Tryd.prog os Rows.fnExactFormatSentRow.laid).forCall (fun _ _ => 0) ⟨#[], args, []⟩).memory := by
 rw [Nk (by kernel_rfl)]
 exact laidMet_of_run' 8 (by kernel_rfl) (by kernel_rfl)
set_option maxRecDepth 100000 in
theorem formatSent_lifted (os : Os) (started : os.Started) (H : Type) (enc : TypeId × Value → H) :
 ReturnsInHanded {} Tryd.checked os 5 .any (fun w args => (Rows.fnExactFormatSentSpec.pre enc Tryd.prog Tryd.f5 [] Rows.fnExactFormatSentRow.apart w args ∧ laidMetH Tryd.prog Rows.fnExactFormatSentRow.laid w) ∧ sizedMet enc Tryd.prog Tryd.f5 (OpenSpec.ofChange Rows.fnExactFormatSentSpec) Rows.fnExactFormatSentRow.apart w args)
  (Rows.fnExactFormatSentSpec.post enc Tryd.prog Tryd.f5 Rows.fnExactFormatSentRow.apart Rows.fnExactFormatSentRow.fresh Rows.fnExactFormatSentRow.handsOn Rows.fnExactFormatSentRow.again) :=
 Wu (C := Tryd.checked) (s := Rows.fnExactFormatSentSpec) (fn := Tryd.f5) (tb := 4) (pt := (.p (.sl Vb) .u)) (fl := true) (F := fun x => Td x.1) (I := II) own started (by kernel_rfl) Tryd.func5
  (ChangeSpec.witness_shaped (enc := enc) (C := Tryd.checked) (os := os) (X := fun w _ => laidMetH Tryd.prog Rows.fnExactFormatSentRow.laid w) false (TC Tryd.prog os Rows.fnExactFormatSentRow.laid) #[.slice none 0 0] 8 rfl (World.shaped_of_RefB (by kernel_rfl) (by kernel_rfl)) (by kernel_rfl) (by kernel_rfl) (by kernel_rfl) (door_met os _))
  rfl (fun ds h => by
   match ds, h with
   | [_], _ => rfl) (by kernel_rfl) (by kernel_rfl) (by kernel_rfl) Ok
  (fun x hx => Js x.1 hx.1)
  (fun W hs hl => by
  rw [Nk (by kernel_rfl)] at hl
  obtain ⟨_, hv, _⟩ := hl
  obtain ⟨_, hv0⟩ := On hv
  obtain ⟨_, hv1⟩ := On hv0
  have h : II.p W := ⟨Tryd.lays_strings_Split.s1_3 W hs, Qt (P := Tryd.prog) (k := .u64) (zs := Lib.pow10Tab) (n := 20) (t := 127) (e := 115) Tryd.lays_strconv_Itoa.m17 (by kernel_rfl) (by kernel_rfl) (by kernel_rfl) (by kernel_rfl) (by kernel_rfl) hv1⟩
  exact ⟨h, Ez h⟩) (by kernel_rfl)
set_option maxHeartbeats 0 in
theorem named : Tryd.pinned.checked.prog.funcNamed Rows.fnExactFormatSentRow.func = some 5 := by kernel_rfl
set_option maxHeartbeats 0 in
theorem closed : joinedFacts Tryd.prog 5 Tryd.f5 Rows.fnExactFormatSentSpec Rows.fnExactFormatSentRow = true := by
 simp only [joinedFacts, Bool.and_eq_true]
 and_intros
 all_goals as_aux_lemma => kernel_rfl
theorem formatSent_row : Rows.FnExactFormatSentSaid :=
 OpenClaim.holds_of_wide 5 Tryd.f5 rfl rfl rfl rfl rfl rfl rfl ⟨rfl, rfl, rfl, rfl, rfl⟩ rfl rfl rfl rfl rfl named Tryd.func5 closed
  (of_decide_eq_true (by kernel_rfl)) (by unfold Func.isWrapper; rw [if_neg (by decide +kernel)]; exact ⟨rfl, rfl⟩)
  (fun os started H enc _ => formatSent_lifted os started H enc)
set_option maxHeartbeats 0 in
theorem formatSent_holds : Rows.FnExactFormatSentCardSaid :=
 Claim7.holds_tied_plain_at .later [] [.data, .data, .data, .data, .pinned] true (true, "692b43fb85621d98ec08d82fc3dccfe64dc9c31333391d4e64e0996cd6ec3af1") false
  formatSent_row (fun _ h => by cases h) (by kernel_rfl) (fun _ h => by cases h) fnExactFormatSent_row_tie rfl ⟨rfl, rfl⟩ (by kernel_rfl) rfl
  (fun f fn hf hfn => by
   obtain rfl : f = 5 := (Option.some.inj (named.symm.trans hf)).symm
   obtain rfl : fn = Tryd.f5 := (Option.some.inj (Tryd.func5.symm.trans hfn)).symm
   exact ⟨by kernel_rfl, fun j t ht => by
    rw [show Tryd.f5.params = #[39] by kernel_rfl] at ht
    have hm : t ∈ [39] := by simpa using Array.mem_of_getElem? ht
    have hall : ([39].all fun u => !Tryd.prog.wantsStandIn u) = true := by kernel_rfl
    exact (show Tryd.prog.wantsStandIn t = false by simpa using List.all_eq_true.1 hall t hm)⟩)
  (by kernel_rfl)
end Go.Proofs.YtenekdhofnoalaaDoor
