/- The given statement FnExactNewBoardSaid holds (no condition). -/
import Derived.Test.YtjijklfhnlfpjaaGreatPlain
import Derived.Test.YtjijklfhnlfpjaaGreatWalk
namespace Go.Proofs.YtjijklfhnlfpjaaGreat
open KF Go

theorem own : ownKnob Tryz.prog.godebug = none := by kernel_rfl

set_option maxRecDepth 100000 in
theorem newBoard_lifted (os : Os) (started : os.Started) (H : Type) (enc : TypeId × Value → H) :
    ReturnsInHanded {} Tryz.checked os 5 .any (Rows.fnExactNewBoardSpec.pre6 enc Tryz.prog Tryz.f5 Rows.fnExactNewBoardRow.domain Rows.fnExactNewBoardRow.apart)
      (Rows.fnExactNewBoardSpec.post enc Tryz.prog Tryz.f5 Rows.fnExactNewBoardRow.apart Rows.fnExactNewBoardRow.fresh Rows.fnExactNewBoardRow.handsOn Rows.fnExactNewBoardRow.again) :=
  law_lifted (C := Tryz.checked) (s := Rows.fnExactNewBoardSpec) (fn := Tryz.f5) (tb := 4) (pt := (.p tEvent (.p tDebouncer (.p tCombiner (.p tDecider .u))))) (fl := true) (F := fun x => laws_FnExactNewBoard x.1 x.2.1 x.2.2.1 x.2.2.2.1) own started (by kernel_rfl) Tryz.func5
      (ChangeSpec.witness6 (enc := enc) (C := Tryz.checked) false ⟨#[], #[.agg #[.int .i64 0, .int .i64 0, .bool false], .agg #[.int .i64 0, .int .i64 0, .int .i64 0, .int .i64 0, .int .i64 0, .slice none 0 0], .agg #[.slice none 0 0, .int .i64 0, .slice none 0 0, .int .i64 0, .int .i64 0, .int .i64 0, .slice none 0 0], .agg #[.int .i64 0, .slice none 0 0, .slice none 0 0, .int .i64 0, .slice none 0 0, .int .i64 0, .bool false, .int .i64 0, .int .i64 0, .int .i64 0, .slice none 0 0, .int .i64 0, .int .i64 0, .int .i64 0, .int .i64 0]], []⟩ 8 (by kernel_rfl) (by kernel_rfl) (by kernel_rfl) (by kernel_rfl))
      rfl (fun ds h => by
        match ds, h with
        | [_, _, _, _], _ => rfl) (by kernel_rfl) (by kernel_rfl) (by kernel_rfl) laws_FnExactNewBoard_snd
      (fun x hx => law_NewBoard x.1 x.2.1 x.2.2.1 x.2.2.2.1 hx.1 hx.2.1 hx.2.2.1 hx.2.2.2.1)

theorem newBoard_holds : Rows.FnExactNewBoardSaid :=
  OpenClaim.holds_of_wide 5 Tryz.f5 rfl rfl rfl rfl rfl rfl rfl ⟨rfl, rfl, rfl, rfl, rfl⟩ rfl rfl rfl rfl rfl (by kernel_rfl) Tryz.func5 (by kernel_rfl)
    (of_decide_eq_true (by kernel_rfl)) (by unfold Func.isWrapper; rw [if_neg (by decide +kernel)]; exact ⟨rfl, rfl⟩)
    (fun os started H enc _ => newBoard_lifted os started H enc)
end Go.Proofs.YtjijklfhnlfpjaaGreat
