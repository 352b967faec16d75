/- The given statement FnExactIsSessionSaid holds (no condition). -/
import Derived.Test.YtjijklfhnlfpjaaPlain
import Derived.Test.YtjijklfhnlfpjaaWalk
namespace Go.Proofs.Ytjijklfhnlfpjaa
open KF Go

theorem own : ownKnob Try.prog.godebug = none := by kernel_rfl

set_option maxRecDepth 100000 in
theorem isSession_lifted (os : Os) (started : os.Started) (H : Type) (enc : TypeId × Value → H) :
    ReturnsInHanded {} Try.checked os 4 .any (Rows.fnExactIsSessionSpec.pre6 enc Try.prog Try.f4 Rows.fnExactIsSessionRow.domain Rows.fnExactIsSessionRow.apart)
      (Rows.fnExactIsSessionSpec.post enc Try.prog Try.f4 Rows.fnExactIsSessionRow.apart Rows.fnExactIsSessionRow.fresh Rows.fnExactIsSessionRow.handsOn Rows.fnExactIsSessionRow.again) :=
  law_lifted (C := Try.checked) (s := Rows.fnExactIsSessionSpec) (fn := Try.f4) (tb := 4) (pt := (.p tSession .u)) (fl := true) (F := fun x => laws_FnExactIsSession x.1) own started (by kernel_rfl) Try.func4
      (ChangeSpec.witness6 (enc := enc) (C := Try.checked) false ⟨#[], #[.agg #[.int .i64 0, .slice none 0 0, .slice none 0 0, .int .i64 0, .slice none 0 0, .int .i64 0, .bool false, .int .i64 0, .int .i64 0, .int .i64 0, .slice none 0 0, .int .i64 0, .int .i64 0, .int .i64 0, .int .i64 0, .slice none 0 0]], []⟩ 8 (by kernel_rfl) (by kernel_rfl) (by kernel_rfl) (by kernel_rfl))
      rfl (fun ds h => by
        match ds, h with
        | [_], _ => rfl) (by kernel_rfl) (by kernel_rfl) (by kernel_rfl) laws_FnExactIsSession_snd
      (fun x hx => law_IsSession x.1 hx.1)

theorem isSession_holds : Rows.FnExactIsSessionSaid :=
  OpenClaim.holds_of_wide 4 Try.f4 rfl rfl rfl rfl rfl rfl rfl ⟨rfl, rfl, rfl, rfl, rfl⟩ rfl rfl rfl rfl rfl (by kernel_rfl) Try.func4 (by kernel_rfl)
    (of_decide_eq_true (by kernel_rfl)) (by unfold Func.isWrapper; rw [if_neg (by decide +kernel)]; exact ⟨rfl, rfl⟩)
    (fun os started H enc _ => isSession_lifted os started H enc)
end Go.Proofs.Ytjijklfhnlfpjaa
