/- The given statement FnExactAcceptedRunSaid holds (no condition). -/
import Derived.Test.YtkjfpnojgaceoaaPlain
import Derived.Test.YtkjfpnojgaceoaaWalk
namespace Go.Proofs.Ytkjfpnojgaceoaa
open KF Go

theorem own : ownKnob Try.prog.godebug = none := by kernel_rfl

set_option maxRecDepth 100000 in
theorem acceptedRun_lifted (os : Os) (started : os.Started) (H : Type) (enc : TypeId × Value → H) :
    ReturnsInHanded {} Try.checked os 3 .any (Rows.fnExactAcceptedRunSpec.pre6 enc Try.prog Try.f3 Rows.fnExactAcceptedRunRow.domain Rows.fnExactAcceptedRunRow.apart)
      (Rows.fnExactAcceptedRunSpec.post enc Try.prog Try.f3 Rows.fnExactAcceptedRunRow.apart Rows.fnExactAcceptedRunRow.fresh Rows.fnExactAcceptedRunRow.handsOn Rows.fnExactAcceptedRunRow.again) :=
  law_lifted (C := Try.checked) (s := Rows.fnExactAcceptedRunSpec) (fn := Try.f3) (tb := 4) (pt := (.p tEvent tReport)) (fl := true) (F := fun x => laws_FnExactAcceptedRun x.1 x.2.1 x.2.2.1) own started (by kernel_rfl) Try.func3
      (ChangeSpec.witness6 (enc := enc) (C := Try.checked) false ⟨#[], #[.agg #[.int .i64 0, .int .i64 0, .bool false], .int .i64 0, .slice none 0 0], []⟩ 8 (by kernel_rfl) (by kernel_rfl) (by kernel_rfl) (by kernel_rfl))
      rfl (fun ds h => by
        match ds, h with
        | [_, _, _], _ => rfl) (by kernel_rfl) (by kernel_rfl) (by kernel_rfl) laws_FnExactAcceptedRun_snd
      (fun x hx => law_AcceptedRun x.1 x.2.1 x.2.2.1 hx.1 hx.2.1 hx.2.2.1)

theorem acceptedRun_holds : Rows.FnExactAcceptedRunSaid :=
  OpenClaim.holds_of_wide 3 Try.f3 rfl rfl rfl rfl rfl rfl rfl ⟨rfl, rfl, rfl, rfl, rfl⟩ rfl rfl rfl rfl rfl (by kernel_rfl) Try.func3 (by kernel_rfl)
    (of_decide_eq_true (by kernel_rfl)) (by unfold Func.isWrapper; rw [if_neg (by decide +kernel)]; exact ⟨rfl, rfl⟩)
    (fun os started H enc _ => acceptedRun_lifted os started H enc)
end Go.Proofs.Ytkjfpnojgaceoaa
