/- The given statement FnExactNewHalvesSaid holds (no condition). -/
import Derived.Test.YtjijklfhnlfpjaaGreatPlain
import Derived.Test.YtjijklfhnlfpjaaGreatWalk
namespace Go.Proofs.YtjijklfhnlfpjaaGreat
open KF Go

theorem own : ownKnob Tryz.prog.godebug = none := by kernel_rfl

set_option maxRecDepth 100000 in
theorem newHalves_lifted (os : Os) (started : os.Started) (H : Type) (enc : TypeId × Value → H) :
    ReturnsInHanded {} Tryz.checked os 6 .any (Rows.fnExactNewHalvesSpec.pre6 enc Tryz.prog Tryz.f6 Rows.fnExactNewHalvesRow.domain Rows.fnExactNewHalvesRow.apart)
      (Rows.fnExactNewHalvesSpec.post enc Tryz.prog Tryz.f6 Rows.fnExactNewHalvesRow.apart Rows.fnExactNewHalvesRow.fresh Rows.fnExactNewHalvesRow.handsOn Rows.fnExactNewHalvesRow.again) :=
  law_lifted (C := Tryz.checked) (s := Rows.fnExactNewHalvesSpec) (fn := Tryz.f6) (tb := 4) (pt := (.p tBoard .u)) (fl := true) (F := fun x => laws_FnExactNewHalves x.1) own started (by kernel_rfl) Tryz.func6
      (ChangeSpec.witness6 (enc := enc) (C := Tryz.checked) false ⟨#[], #[.agg #[.int .i64 0, .int .i64 0, .bool false, .int .i64 0, .int .i64 0, .int .i64 0, .int .i64 0, .int .i64 0, .slice none 0 0, .slice none 0 0, .int .i64 0, .slice none 0 0, .int .i64 0, .int .i64 0, .int .i64 0, .slice none 0 0, .int .i64 0, .slice none 0 0, .slice none 0 0, .int .i64 0, .slice none 0 0, .int .i64 0, .bool false, .int .i64 0, .int .i64 0, .int .i64 0, .slice none 0 0, .int .i64 0, .int .i64 0, .int .i64 0, .int .i64 0, .int .i64 0, .int .i64 0]], []⟩ 8 (by kernel_rfl) (by kernel_rfl) (by kernel_rfl) (by kernel_rfl))
      rfl (fun ds h => by
        match ds, h with
        | [_], _ => rfl) (by kernel_rfl) (by kernel_rfl) (by kernel_rfl) laws_FnExactNewHalves_snd
      (fun x hx => law_NewHalves x.1 hx.1)

theorem newHalves_holds : Rows.FnExactNewHalvesSaid :=
  OpenClaim.holds_of_wide 6 Tryz.f6 rfl rfl rfl rfl rfl rfl rfl ⟨rfl, rfl, rfl, rfl, rfl⟩ rfl rfl rfl rfl rfl (by kernel_rfl) Tryz.func6 (by kernel_rfl)
    (of_decide_eq_true (by kernel_rfl)) (by unfold Func.isWrapper; rw [if_neg (by decide +kernel)]; exact ⟨rfl, rfl⟩)
    (fun os started H enc _ => newHalves_lifted os started H enc)
end Go.Proofs.YtjijklfhnlfpjaaGreat
