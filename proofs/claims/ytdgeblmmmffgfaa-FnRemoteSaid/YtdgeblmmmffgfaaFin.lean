/- The given statement FnRemoteSaid holds (no condition). -/
import Derived.Test.YtdgeblmmmffgfaaE
set_option linter.unusedSimpArgs false
set_option linter.unusedVariables false
namespace Go.Proofs.Ytdgeblmmmffgfaa
open KF Go
theorem own : ownKnob Try.prog.godebug = none := by kernel_rfl
set_option maxRecDepth 100000 in
theorem remote_lifted (os : Os) (started : os.Started) (H : Type) (enc : TypeId × Value → H) :
 ReturnsInHanded {} Try.checked os 6 .any (Rows.fnRemoteSpec.pre6 enc Try.prog Try.f6 Rows.fnRemoteRow.domain Rows.fnRemoteRow.apart)
  (Rows.fnRemoteSpec.post enc Try.prog Try.f6 Rows.fnRemoteRow.apart Rows.fnRemoteRow.fresh Rows.fnRemoteRow.handsOn Rows.fnRemoteRow.again) :=
 ZG (C := Try.checked) (s := Rows.fnRemoteSpec) (fn := Try.f6) (tb := 4) (pt := (.p (.sl Zf) .u)) (fl := true) (F := fun x => Ak x.1) own started (by kernel_rfl) Try.func6
  (ChangeSpec.witness6 (enc := enc) (C := Try.checked) false ⟨#[], #[.slice none 0 0], []⟩ 8 (by kernel_rfl) (by kernel_rfl) (by kernel_rfl) (by kernel_rfl))
  rfl (fun ds h => by
   match ds, h with
   | [_], _ => rfl) (by kernel_rfl) (by kernel_rfl) (by kernel_rfl) Jv
  (fun x hx => GD x.1)
set_option maxHeartbeats 0 in
theorem named : Try.pinned.checked.prog.funcNamed Rows.fnRemoteRow.func = some 6 := by kernel_rfl
set_option maxHeartbeats 0 in
theorem closed : joinedFacts Try.prog 6 Try.f6 Rows.fnRemoteSpec Rows.fnRemoteRow = true := by
 simp only [joinedFacts, Bool.and_eq_true]
 and_intros
 all_goals as_aux_lemma => kernel_rfl
theorem remote_holds : Rows.FnRemoteSaid :=
 OpenClaim.holds_of_wide 6 Try.f6 rfl rfl rfl rfl rfl rfl rfl ⟨rfl, rfl, rfl, rfl, rfl⟩ rfl rfl rfl rfl rfl named Try.func6 closed
  (of_decide_eq_true (by kernel_rfl)) (by unfold Func.isWrapper; rw [if_neg (by decide +kernel)]; exact ⟨rfl, rfl⟩)
  (fun os started H enc _ => remote_lifted os started H enc)
end Go.Proofs.Ytdgeblmmmffgfaa
