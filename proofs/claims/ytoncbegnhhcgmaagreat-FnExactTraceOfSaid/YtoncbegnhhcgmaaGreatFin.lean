/- The given statement FnExactTraceOfSaid holds (no condition). -/
import Derived.Test.YtoncbegnhhcgmaaGreatPlainB
import Derived.Test.YtoncbegnhhcgmaaGreatWalk
namespace Go.Proofs.YtoncbegnhhcgmaaGreat
open KF Go

theorem own : ownKnob Tryz.prog.godebug = none := by kernel_rfl

set_option maxRecDepth 100000 in
theorem traceOf_lifted (os : Os) (started : os.Started) (H : Type) (enc : TypeId × Value → H) :
    ReturnsInHanded {} Tryz.checked os 3 .any (Rows.fnExactTraceOfSpec.pre6 enc Tryz.prog Tryz.f3 Rows.fnExactTraceOfRow.domain Rows.fnExactTraceOfRow.apart)
      (Rows.fnExactTraceOfSpec.post enc Tryz.prog Tryz.f3 Rows.fnExactTraceOfRow.apart Rows.fnExactTraceOfRow.fresh Rows.fnExactTraceOfRow.handsOn Rows.fnExactTraceOfRow.again) :=
  law_lifted (C := Tryz.checked) (s := Rows.fnExactTraceOfSpec) (fn := Tryz.f3) (tb := 4) (pt := (.p tKeymap (.p (.sl int) .u))) (fl := true) (F := fun x => laws_FnExactTraceOf x.1 x.2.1) own started (by kernel_rfl) Tryz.func3
      (ChangeSpec.witness6 (enc := enc) (C := Tryz.checked) false ⟨#[], #[.agg #[.int .i64 0, .slice none 0 0], .slice none 0 0], []⟩ 8 (by kernel_rfl) (by kernel_rfl) (by kernel_rfl) (by kernel_rfl))
      rfl (fun ds h => by
        match ds, h with
        | [_, _], _ => rfl) (by kernel_rfl) (by kernel_rfl) (by kernel_rfl) laws_FnExactTraceOf_snd
      (fun x hx => law_TraceOf x.1 x.2.1 hx.1 hx.2.1)

theorem traceOf_holds : Rows.FnExactTraceOfSaid :=
  OpenClaim.holds_of_wide 3 Tryz.f3 rfl rfl rfl rfl rfl rfl rfl ⟨rfl, rfl, rfl, rfl, rfl⟩ rfl rfl rfl rfl rfl (by kernel_rfl) Tryz.func3 (by kernel_rfl)
    (of_decide_eq_true (by kernel_rfl)) (by unfold Func.isWrapper; rw [if_neg (by decide +kernel)]; exact ⟨rfl, rfl⟩)
    (fun os started H enc _ => traceOf_lifted os started H enc)
end Go.Proofs.YtoncbegnhhcgmaaGreat
