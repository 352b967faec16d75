/- The given statement FnExactWriteScriptSaid holds (no condition). -/
import Derived.Test.YtnlnkfkpmcpbdaaPlain
import Derived.Test.YtnlnkfkpmcpbdaaWalk
namespace Go.Proofs.Ytnlnkfkpmcpbdaa
open KF Go

theorem own : ownKnob Try.prog.godebug = none := by kernel_rfl

set_option maxRecDepth 100000 in
theorem writeScript_lifted (os : Os) (started : os.Started) (H : Type) (enc : TypeId × Value → H) :
    ReturnsInHanded {} Try.checked os 3 .any (Rows.fnExactWriteScriptSpec.pre6 enc Try.prog Try.f3 Rows.fnExactWriteScriptRow.domain Rows.fnExactWriteScriptRow.apart)
      (Rows.fnExactWriteScriptSpec.post enc Try.prog Try.f3 Rows.fnExactWriteScriptRow.apart Rows.fnExactWriteScriptRow.fresh Rows.fnExactWriteScriptRow.handsOn Rows.fnExactWriteScriptRow.again) :=
  law_lifted (C := Try.checked) (s := Rows.fnExactWriteScriptSpec) (fn := Try.f3) (tb := 4) (pt := (.p tKeymap .u)) (fl := true) (F := fun x => laws_FnExactWriteScript x.1) own started (by kernel_rfl) Try.func3
      (ChangeSpec.witness6 (enc := enc) (C := Try.checked) false ⟨#[], #[.agg #[.int .i64 0, .slice none 0 0]], []⟩ 8 (by kernel_rfl) (by kernel_rfl) (by kernel_rfl) (by kernel_rfl))
      rfl (fun ds h => by
        match ds, h with
        | [_], _ => rfl) (by kernel_rfl) (by kernel_rfl) (by kernel_rfl) laws_FnExactWriteScript_snd
      (fun x hx => law_WriteScript x.1 hx.1)

theorem writeScript_holds : Rows.FnExactWriteScriptSaid :=
  OpenClaim.holds_of_wide 3 Try.f3 rfl rfl rfl rfl rfl rfl rfl ⟨rfl, rfl, rfl, rfl, rfl⟩ rfl rfl rfl rfl rfl (by kernel_rfl) Try.func3 (by kernel_rfl)
    (of_decide_eq_true (by kernel_rfl)) (by unfold Func.isWrapper; rw [if_neg (by decide +kernel)]; exact ⟨rfl, rfl⟩)
    (fun os started H enc _ => writeScript_lifted os started H enc)
end Go.Proofs.Ytnlnkfkpmcpbdaa
