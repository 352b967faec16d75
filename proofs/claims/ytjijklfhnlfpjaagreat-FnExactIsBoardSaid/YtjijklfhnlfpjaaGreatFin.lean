/- The given statement FnExactIsBoardSaid holds (no condition). -/
import Derived.Test.YtjijklfhnlfpjaaGreatPlain
import Derived.Test.YtjijklfhnlfpjaaGreatWalk
namespace Go.Proofs.YtjijklfhnlfpjaaGreat
open KF Go

theorem own : ownKnob Tryz.prog.godebug = none := by kernel_rfl

set_option maxRecDepth 100000 in
theorem isBoard_lifted (os : Os) (started : os.Started) (H : Type) (enc : TypeId × Value → H) :
    ReturnsInHanded {} Tryz.checked os 3 .any (Rows.fnExactIsBoardSpec.pre6 enc Tryz.prog Tryz.f3 Rows.fnExactIsBoardRow.domain Rows.fnExactIsBoardRow.apart)
      (Rows.fnExactIsBoardSpec.post enc Tryz.prog Tryz.f3 Rows.fnExactIsBoardRow.apart Rows.fnExactIsBoardRow.fresh Rows.fnExactIsBoardRow.handsOn Rows.fnExactIsBoardRow.again) :=
  law_lifted (C := Tryz.checked) (s := Rows.fnExactIsBoardSpec) (fn := Tryz.f3) (tb := 4) (pt := (.p tBoard .u)) (fl := true) (F := fun x => laws_FnExactIsBoard x.1) own started (by kernel_rfl) Tryz.func3
      (ChangeSpec.witness6 (enc := enc) (C := Tryz.checked) false ⟨#[], #[.agg #[.int .i64 0, .int .i64 0, .bool false, .int .i64 0, .int .i64 0, .int .i64 0, .int .i64 0, .int .i64 0, .slice none 0 0, .slice none 0 0, .int .i64 0, .slice none 0 0, .int .i64 0, .int .i64 0, .int .i64 0, .slice none 0 0, .int .i64 0, .slice none 0 0, .slice none 0 0, .int .i64 0, .slice none 0 0, .int .i64 0, .bool false, .int .i64 0, .int .i64 0, .int .i64 0, .slice none 0 0, .int .i64 0, .int .i64 0, .int .i64 0, .int .i64 0, .int .i64 0, .int .i64 0]], []⟩ 8 (by kernel_rfl) (by kernel_rfl) (by kernel_rfl) (by kernel_rfl))
      rfl (fun ds h => by
        match ds, h with
        | [_], _ => rfl) (by kernel_rfl) (by kernel_rfl) (by kernel_rfl) laws_FnExactIsBoard_snd
      (fun x hx => law_IsBoard x.1 hx.1)

theorem isBoard_holds : Rows.FnExactIsBoardSaid :=
  OpenClaim.holds_of_wide 3 Tryz.f3 rfl rfl rfl rfl rfl rfl rfl ⟨rfl, rfl, rfl, rfl, rfl⟩ rfl rfl rfl rfl rfl (by kernel_rfl) Tryz.func3 (by kernel_rfl)
    (of_decide_eq_true (by kernel_rfl)) (by unfold Func.isWrapper; rw [if_neg (by decide +kernel)]; exact ⟨rfl, rfl⟩)
    (fun os started H enc _ => isBoard_lifted os started H enc)
end Go.Proofs.YtjijklfhnlfpjaaGreat
