/- The given statement FnExactIsHalvesSaid holds (no condition). -/
import Derived.Test.YtjijklfhnlfpjaaGreatPlain
import Derived.Test.YtjijklfhnlfpjaaGreatWalk
namespace Go.Proofs.YtjijklfhnlfpjaaGreat
open KF Go

theorem own : ownKnob Tryz.prog.godebug = none := by kernel_rfl

set_option maxRecDepth 100000 in
theorem isHalves_lifted (os : Os) (started : os.Started) (H : Type) (enc : TypeId × Value → H) :
    ReturnsInHanded {} Tryz.checked os 4 .any (Rows.fnExactIsHalvesSpec.pre6 enc Tryz.prog Tryz.f4 Rows.fnExactIsHalvesRow.domain Rows.fnExactIsHalvesRow.apart)
      (Rows.fnExactIsHalvesSpec.post enc Tryz.prog Tryz.f4 Rows.fnExactIsHalvesRow.apart Rows.fnExactIsHalvesRow.fresh Rows.fnExactIsHalvesRow.handsOn Rows.fnExactIsHalvesRow.again) :=
  law_lifted (C := Tryz.checked) (s := Rows.fnExactIsHalvesSpec) (fn := Tryz.f4) (tb := 4) (pt := (.p tHalves .u)) (fl := true) (F := fun x => laws_FnExactIsHalves x.1) own started (by kernel_rfl) Tryz.func4
      (ChangeSpec.witness6 (enc := enc) (C := Tryz.checked) false ⟨#[], #[.agg #[.int .i64 0, .int .i64 0, .bool false, .int .i64 0, .int .i64 0, .int .i64 0, .int .i64 0, .int .i64 0, .slice none 0 0, .slice none 0 0, .int .i64 0, .slice none 0 0, .int .i64 0, .int .i64 0, .int .i64 0, .slice none 0 0, .int .i64 0, .slice none 0 0, .slice none 0 0, .int .i64 0, .slice none 0 0, .int .i64 0, .bool false, .int .i64 0, .int .i64 0, .int .i64 0, .slice none 0 0, .int .i64 0, .int .i64 0, .int .i64 0, .int .i64 0, .int .i64 0, .int .i64 0, .slice none 0 0, .int .i64 0, .int .i64 0, .int .i64 0, .int .i64 0]], []⟩ 8 (by kernel_rfl) (by kernel_rfl) (by kernel_rfl) (by kernel_rfl))
      rfl (fun ds h => by
        match ds, h with
        | [_], _ => rfl) (by kernel_rfl) (by kernel_rfl) (by kernel_rfl) laws_FnExactIsHalves_snd
      (fun x hx => law_IsHalves x.1 hx.1)

theorem isHalves_holds : Rows.FnExactIsHalvesSaid :=
  OpenClaim.holds_of_wide 4 Tryz.f4 rfl rfl rfl rfl rfl rfl rfl ⟨rfl, rfl, rfl, rfl, rfl⟩ rfl rfl rfl rfl rfl (by kernel_rfl) Tryz.func4 (by kernel_rfl)
    (of_decide_eq_true (by kernel_rfl)) (by unfold Func.isWrapper; rw [if_neg (by decide +kernel)]; exact ⟨rfl, rfl⟩)
    (fun os started H enc _ => isHalves_lifted os started H enc)
end Go.Proofs.YtjijklfhnlfpjaaGreat
