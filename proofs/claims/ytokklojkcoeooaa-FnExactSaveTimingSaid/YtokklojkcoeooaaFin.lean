/- The given statement FnExactSaveTimingSaid holds (no condition). -/
import Derived.Test.YtokklojkcoeooaaPlain
import Derived.Test.YtokklojkcoeooaaWalk
namespace Go.Proofs.Ytokklojkcoeooaa
open KF Go

theorem own : ownKnob Try.prog.godebug = none := by kernel_rfl

set_option maxRecDepth 100000 in
theorem saveTiming_lifted (os : Os) (started : os.Started) (H : Type) (enc : TypeId × Value → H) :
    ReturnsInHanded {} Try.checked os 4 .any (Rows.fnExactSaveTimingSpec.pre6 enc Try.prog Try.f4 Rows.fnExactSaveTimingRow.domain Rows.fnExactSaveTimingRow.apart)
      (Rows.fnExactSaveTimingSpec.post enc Try.prog Try.f4 Rows.fnExactSaveTimingRow.apart Rows.fnExactSaveTimingRow.fresh Rows.fnExactSaveTimingRow.handsOn Rows.fnExactSaveTimingRow.again) :=
  law_lifted (C := Try.checked) (s := Rows.fnExactSaveTimingSpec) (fn := Try.f4) (tb := 4) (pt := (.p tFlash (.p tStep .u))) (fl := true) (F := fun x => laws_FnExactSaveTiming x.1 x.2.1) own started (by kernel_rfl) Try.func4
      (ChangeSpec.witness6 (enc := enc) (C := Try.checked) false ⟨#[], #[.agg #[.slice none 0 0, .slice none 0 0], .agg #[.int .i64 0, .int .i64 0, .int .i64 0]], []⟩ 8 (by kernel_rfl) (by kernel_rfl) (by kernel_rfl) (by kernel_rfl))
      rfl (fun ds h => by
        match ds, h with
        | [_, _], _ => rfl) (by kernel_rfl) (by kernel_rfl) (by kernel_rfl) laws_FnExactSaveTiming_snd
      (fun x hx => law_SaveTiming x.1 x.2.1 hx.1 hx.2.1)

theorem saveTiming_holds : Rows.FnExactSaveTimingSaid :=
  OpenClaim.holds_of_wide 4 Try.f4 rfl rfl rfl rfl rfl rfl rfl ⟨rfl, rfl, rfl, rfl, rfl⟩ rfl rfl rfl rfl rfl (by kernel_rfl) Try.func4 (by kernel_rfl)
    (of_decide_eq_true (by kernel_rfl)) (by unfold Func.isWrapper; rw [if_neg (by decide +kernel)]; exact ⟨rfl, rfl⟩)
    (fun os started H enc _ => saveTiming_lifted os started H enc)
end Go.Proofs.Ytokklojkcoeooaa
