/- The given statement FnAlikeSaid holds (no condition). -/
import Derived.Test.YteooipbgmfmhfaaGreatDoorF
import Derived.Test.YteooipbgmfmhfaaGreatDoorCards
import Derived.Test.YteooipbgmfmhfaaGreatDoorTie
import Derived.SevenTiedAt
import Derived.LaidMore
set_option linter.unusedSimpArgs false
set_option linter.unusedVariables false
namespace Go.Proofs.YteooipbgmfmhfaaGreatDoor
open KF Go
theorem own : ownKnob Tryz.prog.godebug = none := by kernel_rfl
theorem door_met (os : Os) (args : Array Value) : laidMetH Tryz.prog Rows.fnAlikeRow.laid ((Kag Tryz.prog os Rows.fnAlikeRow.laid).forCall (fun _ _ => 0) ⟨#[], args, []⟩).memory := by
 rw [KI (by kernel_rfl)]
 exact laidMet_of_run' 8 (by kernel_rfl) (by kernel_rfl)
set_option maxRecDepth 100000 in
theorem alike_lifted (os : Os) (started : os.Started) (H : Type) (enc : TypeId × Value → H) :
 ReturnsInHanded {} Tryz.checked os 3 .any (fun w args => (Rows.fnAlikeSpec.pre enc Tryz.prog Tryz.f3 [] Rows.fnAlikeRow.apart w args ∧ laidMetH Tryz.prog Rows.fnAlikeRow.laid w) ∧ sizedMet enc Tryz.prog Tryz.f3 (OpenSpec.ofChange Rows.fnAlikeSpec) Rows.fnAlikeRow.apart w args)
  (Rows.fnAlikeSpec.post enc Tryz.prog Tryz.f3 Rows.fnAlikeRow.apart Rows.fnAlikeRow.fresh Rows.fnAlikeRow.handsOn Rows.fnAlikeRow.again) :=
 EY (C := Tryz.checked) (s := Rows.fnAlikeSpec) (fn := Tryz.f3) (tb := 4) (pt := (.p (.sl PB) .u)) (fl := true) (F := fun x => Nu x.1) (I := II) own started (by kernel_rfl) Tryz.func3
  (ChangeSpec.witness_shaped (enc := enc) (C := Tryz.checked) (os := os) (X := fun w _ => laidMetH Tryz.prog Rows.fnAlikeRow.laid w) false (Kag Tryz.prog os Rows.fnAlikeRow.laid) #[.slice none 0 0] 8 rfl (World.shaped_of_RefB (by kernel_rfl) (by kernel_rfl)) (by kernel_rfl) (by kernel_rfl) (by kernel_rfl) (door_met os _))
  rfl (fun ds h => by
   match ds, h with
   | [_], _ => rfl) (by kernel_rfl) (by kernel_rfl) (by kernel_rfl) JN
  (fun x hx => NZ x.1)
  (fun W hs _ => have h := Tryz.lays_strings_Split.s1_3 W hs; ⟨h, W8 h⟩) (by kernel_rfl)
set_option maxHeartbeats 0 in
theorem named : Tryz.pinned.checked.prog.funcNamed Rows.fnAlikeRow.func = some 3 := by kernel_rfl
set_option maxHeartbeats 0 in
theorem closed : joinedFacts Tryz.prog 3 Tryz.f3 Rows.fnAlikeSpec Rows.fnAlikeRow = true := by
 simp only [joinedFacts, Bool.and_eq_true]
 and_intros
 all_goals as_aux_lemma => kernel_rfl
theorem alike_row : Rows.FnAlikeSaid :=
 OpenClaim.holds_of_wide 3 Tryz.f3 rfl rfl rfl rfl rfl rfl rfl ⟨rfl, rfl, rfl, rfl, rfl⟩ rfl rfl rfl rfl rfl named Tryz.func3 closed
  (of_decide_eq_true (by kernel_rfl)) (by unfold Func.isWrapper; rw [if_neg (by decide +kernel)]; exact ⟨rfl, rfl⟩)
  (fun os started H enc _ => alike_lifted os started H enc)
set_option maxHeartbeats 0 in
theorem alike_holds : Rows.FnAlikeCardSaid :=
 Claim7.holds_tied_plain_at .later [] [.data, .pinned] true (true, "3bb214f9f8eba14cd51e4e62b5960825a4891918c3c39f70b6098ec1f02f2520") true
  alike_row (fun _ h => by cases h) (by kernel_rfl) (fun _ h => by cases h) fnAlike_row_tie rfl ⟨rfl, rfl⟩ (by kernel_rfl) rfl
  (fun f fn hf hfn => by
   obtain rfl : f = 3 := (Option.some.inj (named.symm.trans hf)).symm
   obtain rfl : fn = Tryz.f3 := (Option.some.inj (Tryz.func3.symm.trans hfn)).symm
   exact ⟨by kernel_rfl, fun j t ht => by
    rw [show Tryz.f3.params = #[22] by kernel_rfl] at ht
    have hm : t ∈ [22] := by simpa using Array.mem_of_getElem? ht
    have hall : ([22].all fun u => !Tryz.prog.wantsStandIn u) = true := by kernel_rfl
    exact (show Tryz.prog.wantsStandIn t = false by simpa using List.all_eq_true.1 hall t hm)⟩)
  (by kernel_rfl)
end Go.Proofs.YteooipbgmfmhfaaGreatDoor
