/- The given statement FnExactAreAlikeSaid holds (no condition). -/
import Derived.Test.YteooipbgmfmhfaaGreatDoorF
import Derived.Test.YteooipbgmfmhfaaGreatDoorCards
import Derived.Test.YteooipbgmfmhfaaGreatDoorTie
import Derived.SevenTiedAt
import Derived.LaidMore
set_option linter.unusedSimpArgs false
set_option linter.unusedVariables false
namespace Go.Proofs.YteooipbgmfmhfaaGreatDoor
open KF Go
theorem own : ownKnob Tryz.prog.godebug = none := by kernel_rfl
theorem door_met (os : Os) (args : Array Value) : laidMetH Tryz.prog Rows.fnExactAreAlikeRow.laid ((D5 Tryz.prog os Rows.fnExactAreAlikeRow.laid).forCall (fun _ _ => 0) ⟨#[], args, []⟩).memory := by
 rw [DC (by kernel_rfl)]
 exact laidMet_of_run' 8 (by kernel_rfl) (by kernel_rfl)
set_option maxRecDepth 100000 in
theorem areAlike_lifted (os : Os) (started : os.Started) (H : Type) (enc : TypeId × Value → H) :
 ReturnsInHanded {} Tryz.checked os 4 .any (fun w args => (Rows.fnExactAreAlikeSpec.pre enc Tryz.prog Tryz.f4 [] Rows.fnExactAreAlikeRow.apart w args ∧ laidMetH Tryz.prog Rows.fnExactAreAlikeRow.laid w) ∧ sizedMet enc Tryz.prog Tryz.f4 (OpenSpec.ofChange Rows.fnExactAreAlikeSpec) Rows.fnExactAreAlikeRow.apart w args)
  (Rows.fnExactAreAlikeSpec.post enc Tryz.prog Tryz.f4 Rows.fnExactAreAlikeRow.apart Rows.fnExactAreAlikeRow.fresh Rows.fnExactAreAlikeRow.handsOn Rows.fnExactAreAlikeRow.again) :=
 RP (C := Tryz.checked) (s := Rows.fnExactAreAlikeSpec) (fn := Tryz.f4) (tb := 4) (pt := (.p Oa (.p Oa .u))) (fl := true) (F := fun x => Ui x.1 x.2.1) (I := II) own started (by kernel_rfl) Tryz.func4
  (ChangeSpec.witness_shaped (enc := enc) (C := Tryz.checked) (os := os) (X := fun w _ => laidMetH Tryz.prog Rows.fnExactAreAlikeRow.laid w) false (D5 Tryz.prog os Rows.fnExactAreAlikeRow.laid) #[.agg #[.int .i64 0, .slice none 0 0], .agg #[.int .i64 0, .slice none 0 0]] 8 rfl (World.shaped_of_RefB (by kernel_rfl) (by kernel_rfl)) (by kernel_rfl) (by kernel_rfl) (by kernel_rfl) (door_met os _))
  rfl (fun ds h => by
   match ds, h with
   | [_, _], _ => rfl) (by kernel_rfl) (by kernel_rfl) (by kernel_rfl) Px
  (fun x hx => QP x.1 x.2.1 hx.1 hx.2.1)
  (fun W hs _ => have h := Tryz.lays_strings_Split.s1_3 W hs; ⟨h, RY h⟩) (by kernel_rfl)
set_option maxHeartbeats 0 in
theorem named : Tryz.pinned.checked.prog.funcNamed Rows.fnExactAreAlikeRow.func = some 4 := by kernel_rfl
set_option maxHeartbeats 0 in
theorem closed : joinedFacts Tryz.prog 4 Tryz.f4 Rows.fnExactAreAlikeSpec Rows.fnExactAreAlikeRow = true := by
 simp only [joinedFacts, Bool.and_eq_true]
 and_intros
 all_goals as_aux_lemma => kernel_rfl
theorem areAlike_row : Rows.FnExactAreAlikeSaid :=
 OpenClaim.holds_of_wide 4 Tryz.f4 rfl rfl rfl rfl rfl rfl rfl ⟨rfl, rfl, rfl, rfl, rfl⟩ rfl rfl rfl rfl rfl named Tryz.func4 closed
  (of_decide_eq_true (by kernel_rfl)) (by unfold Func.isWrapper; rw [if_neg (by decide +kernel)]; exact ⟨rfl, rfl⟩)
  (fun os started H enc _ => areAlike_lifted os started H enc)
set_option maxHeartbeats 0 in
theorem areAlike_holds : Rows.FnExactAreAlikeCardSaid :=
 Claim7.holds_tied_plain_at .later [] [.data, .pinned] true (true, "3bb214f9f8eba14cd51e4e62b5960825a4891918c3c39f70b6098ec1f02f2520") true
  areAlike_row (fun _ h => by cases h) (by kernel_rfl) (fun _ h => by cases h) fnExactAreAlike_row_tie rfl ⟨rfl, rfl⟩ (by kernel_rfl) rfl
  (fun f fn hf hfn => by
   obtain rfl : f = 4 := (Option.some.inj (named.symm.trans hf)).symm
   obtain rfl : fn = Tryz.f4 := (Option.some.inj (Tryz.func4.symm.trans hfn)).symm
   exact ⟨by kernel_rfl, fun j t ht => by
    rw [show Tryz.f4.params = #[41, 41] by kernel_rfl] at ht
    have hm : t ∈ [41, 41] := by simpa using Array.mem_of_getElem? ht
    have hall : ([41, 41].all fun u => !Tryz.prog.wantsStandIn u) = true := by kernel_rfl
    exact (show Tryz.prog.wantsStandIn t = false by simpa using List.all_eq_true.1 hall t hm)⟩)
  (by kernel_rfl)
end Go.Proofs.YteooipbgmfmhfaaGreatDoor
