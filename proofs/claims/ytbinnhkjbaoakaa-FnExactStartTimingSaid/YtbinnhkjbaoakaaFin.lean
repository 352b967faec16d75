/- The given statement FnExactStartTimingSaid holds (no condition). -/
import Derived.Test.YtbinnhkjbaoakaaPlain
import Derived.Test.YtbinnhkjbaoakaaWalk
namespace Go.Proofs.Ytbinnhkjbaoakaa
open KF Go

theorem own : ownKnob Try.prog.godebug = none := by kernel_rfl

set_option maxRecDepth 100000 in
theorem startTiming_lifted (os : Os) (started : os.Started) (H : Type) (enc : TypeId × Value → H) :
    ReturnsInHanded {} Try.checked os 3 .any (Rows.fnExactStartTimingSpec.pre6 enc Try.prog Try.f3 Rows.fnExactStartTimingRow.domain Rows.fnExactStartTimingRow.apart)
      (Rows.fnExactStartTimingSpec.post enc Try.prog Try.f3 Rows.fnExactStartTimingRow.apart Rows.fnExactStartTimingRow.fresh Rows.fnExactStartTimingRow.handsOn Rows.fnExactStartTimingRow.again) :=
  law_lifted (C := Try.checked) (s := Rows.fnExactStartTimingSpec) (fn := Try.f3) (tb := 4) (pt := (.p tFlash .u)) (fl := true) (F := fun x => laws_FnExactStartTiming x.1) own started (by kernel_rfl) Try.func3
      (ChangeSpec.witness6 (enc := enc) (C := Try.checked) false ⟨#[], #[.agg #[.slice none 0 0, .slice none 0 0]], []⟩ 8 (by kernel_rfl) (by kernel_rfl) (by kernel_rfl) (by kernel_rfl))
      rfl (fun ds h => by
        match ds, h with
        | [_], _ => rfl) (by kernel_rfl) (by kernel_rfl) (by kernel_rfl) laws_FnExactStartTiming_snd
      (fun x hx => law_StartTiming x.1 hx.1)

theorem startTiming_holds : Rows.FnExactStartTimingSaid :=
  OpenClaim.holds_of_wide 3 Try.f3 rfl rfl rfl rfl rfl rfl rfl ⟨rfl, rfl, rfl, rfl, rfl⟩ rfl rfl rfl rfl rfl (by kernel_rfl) Try.func3 (by kernel_rfl)
    (of_decide_eq_true (by kernel_rfl)) (by unfold Func.isWrapper; rw [if_neg (by decide +kernel)]; exact ⟨rfl, rfl⟩)
    (fun os started H enc _ => startTiming_lifted os started H enc)
end Go.Proofs.Ytbinnhkjbaoakaa
