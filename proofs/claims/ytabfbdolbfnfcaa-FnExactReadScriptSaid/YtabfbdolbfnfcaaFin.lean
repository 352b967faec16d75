/- The given statement FnExactReadScriptSaid holds (no condition). -/
import Derived.Test.YtabfbdolbfnfcaaPlain
import Derived.Test.YtabfbdolbfnfcaaWalk
namespace Go.Proofs.Ytabfbdolbfnfcaa
open KF Go

theorem own : ownKnob Try.prog.godebug = none := by kernel_rfl

set_option maxRecDepth 100000 in
theorem readScript_lifted (os : Os) (started : os.Started) (H : Type) (enc : TypeId × Value → H) :
    ReturnsInHanded {} Try.checked os 5 .any (Rows.fnExactReadScriptSpec.pre6 enc Try.prog Try.f5 Rows.fnExactReadScriptRow.domain Rows.fnExactReadScriptRow.apart)
      (Rows.fnExactReadScriptSpec.post enc Try.prog Try.f5 Rows.fnExactReadScriptRow.apart Rows.fnExactReadScriptRow.fresh Rows.fnExactReadScriptRow.handsOn Rows.fnExactReadScriptRow.again) :=
  law_lifted (C := Try.checked) (s := Rows.fnExactReadScriptSpec) (fn := Try.f5) (tb := 4) (pt := tCombo) (fl := true) (F := fun x => laws_FnExactReadScript x.1 x.2.1) own started (by kernel_rfl) Try.func5
      (ChangeSpec.witness6 (enc := enc) (C := Try.checked) false ⟨#[], #[.int .i64 0, .int .i64 0], []⟩ 8 (by kernel_rfl) (by kernel_rfl) (by kernel_rfl) (by kernel_rfl))
      rfl (fun ds h => by
        match ds, h with
        | [_, _], _ => rfl) (by kernel_rfl) (by kernel_rfl) (by kernel_rfl) laws_FnExactReadScript_snd
      (fun x hx => law_ReadScript x.1 x.2.1 hx.1 hx.2.1)

theorem readScript_holds : Rows.FnExactReadScriptSaid :=
  OpenClaim.holds_of_wide 5 Try.f5 rfl rfl rfl rfl rfl rfl rfl ⟨rfl, rfl, rfl, rfl, rfl⟩ rfl rfl rfl rfl rfl (by kernel_rfl) Try.func5 (by kernel_rfl)
    (of_decide_eq_true (by kernel_rfl)) (by unfold Func.isWrapper; rw [if_neg (by decide +kernel)]; exact ⟨rfl, rfl⟩)
    (fun os started H enc _ => readScript_lifted os started H enc)
end Go.Proofs.Ytabfbdolbfnfcaa
