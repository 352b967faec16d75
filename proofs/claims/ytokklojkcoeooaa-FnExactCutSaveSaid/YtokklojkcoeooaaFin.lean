/- The given statement FnExactCutSaveSaid holds (no condition). -/
import Derived.Test.YtokklojkcoeooaaPlain
import Derived.Test.YtokklojkcoeooaaWalk
namespace Go.Proofs.Ytokklojkcoeooaa
open KF Go

theorem own : ownKnob Try.prog.godebug = none := by kernel_rfl

set_option maxRecDepth 100000 in
theorem cutSave_lifted (os : Os) (started : os.Started) (H : Type) (enc : TypeId × Value → H) :
    ReturnsInHanded {} Try.checked os 3 .any (Rows.fnExactCutSaveSpec.pre6 enc Try.prog Try.f3 Rows.fnExactCutSaveRow.domain Rows.fnExactCutSaveRow.apart)
      (Rows.fnExactCutSaveSpec.post enc Try.prog Try.f3 Rows.fnExactCutSaveRow.apart Rows.fnExactCutSaveRow.fresh Rows.fnExactCutSaveRow.handsOn Rows.fnExactCutSaveRow.again) :=
  law_lifted (C := Try.checked) (s := Rows.fnExactCutSaveSpec) (fn := Try.f3) (tb := 4) (pt := (.p tFlash (.p tStep (.p int .u)))) (fl := true) (F := fun x => laws_FnExactCutSave x.1 x.2.1 x.2.2.1) own started (by kernel_rfl) Try.func3
      (ChangeSpec.witness6 (enc := enc) (C := Try.checked) false ⟨#[], #[.agg #[.slice none 0 0, .slice none 0 0], .agg #[.int .i64 0, .int .i64 0, .int .i64 0], .int .i64 0], []⟩ 8 (by kernel_rfl) (by kernel_rfl) (by kernel_rfl) (by kernel_rfl))
      rfl (fun ds h => by
        match ds, h with
        | [_, _, _], _ => rfl) (by kernel_rfl) (by kernel_rfl) (by kernel_rfl) laws_FnExactCutSave_snd
      (fun x hx => law_CutSave x.1 x.2.1 x.2.2.1 hx.1 hx.2.1 hx.2.2.1)

theorem cutSave_holds : Rows.FnExactCutSaveSaid :=
  OpenClaim.holds_of_wide 3 Try.f3 rfl rfl rfl rfl rfl rfl rfl ⟨rfl, rfl, rfl, rfl, rfl⟩ rfl rfl rfl rfl rfl (by kernel_rfl) Try.func3 (by kernel_rfl)
    (of_decide_eq_true (by kernel_rfl)) (by unfold Func.isWrapper; rw [if_neg (by decide +kernel)]; exact ⟨rfl, rfl⟩)
    (fun os started H enc _ => cutSave_lifted os started H enc)
end Go.Proofs.Ytokklojkcoeooaa
