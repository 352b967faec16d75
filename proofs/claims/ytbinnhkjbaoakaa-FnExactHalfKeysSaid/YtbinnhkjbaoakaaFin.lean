/- The given statement FnExactHalfKeysSaid holds (no condition). -/
import Derived.Test.YtbinnhkjbaoakaaPlain
import Derived.Test.YtbinnhkjbaoakaaWalk
namespace Go.Proofs.Ytbinnhkjbaoakaa
open KF Go

theorem own : ownKnob Try.prog.godebug = none := by kernel_rfl

set_option maxRecDepth 100000 in
theorem halfKeys_lifted (os : Os) (started : os.Started) (H : Type) (enc : TypeId × Value → H) :
    ReturnsInHanded {} Try.checked os 7 .any (Rows.fnExactHalfKeysSpec.pre6 enc Try.prog Try.f7 Rows.fnExactHalfKeysRow.domain Rows.fnExactHalfKeysRow.apart)
      (Rows.fnExactHalfKeysSpec.post enc Try.prog Try.f7 Rows.fnExactHalfKeysRow.apart Rows.fnExactHalfKeysRow.fresh Rows.fnExactHalfKeysRow.handsOn Rows.fnExactHalfKeysRow.again) :=
  law_lifted (C := Try.checked) (s := Rows.fnExactHalfKeysSpec) (fn := Try.f7) (tb := 4) (pt := (.p tHalves .u)) (fl := true) (F := fun x => laws_FnExactHalfKeys x.1) own started (by kernel_rfl) Try.func7
      (ChangeSpec.witness6 (enc := enc) (C := Try.checked) false ⟨#[], #[.agg #[.int .i64 0, .int .i64 0, .bool false, .int .i64 0, .int .i64 0, .int .i64 0, .int .i64 0, .int .i64 0, .slice none 0 0, .slice none 0 0, .int .i64 0, .slice none 0 0, .int .i64 0, .int .i64 0, .int .i64 0, .slice none 0 0, .int .i64 0, .slice none 0 0, .slice none 0 0, .int .i64 0, .slice none 0 0, .int .i64 0, .bool false, .int .i64 0, .int .i64 0, .int .i64 0, .slice none 0 0, .int .i64 0, .int .i64 0, .int .i64 0, .int .i64 0, .int .i64 0, .int .i64 0, .slice none 0 0, .int .i64 0, .int .i64 0, .int .i64 0, .int .i64 0]], []⟩ 8 (by kernel_rfl) (by kernel_rfl) (by kernel_rfl) (by kernel_rfl))
      rfl (fun ds h => by
        match ds, h with
        | [_], _ => rfl) (by kernel_rfl) (by kernel_rfl) (by kernel_rfl) laws_FnExactHalfKeys_snd
      (fun x hx => law_HalfKeys x.1 hx.1)

theorem halfKeys_holds : Rows.FnExactHalfKeysSaid :=
  OpenClaim.holds_of_wide 7 Try.f7 rfl rfl rfl rfl rfl rfl rfl ⟨rfl, rfl, rfl, rfl, rfl⟩ rfl rfl rfl rfl rfl (by kernel_rfl) Try.func7 (by kernel_rfl)
    (of_decide_eq_true (by kernel_rfl)) (by unfold Func.isWrapper; rw [if_neg (by decide +kernel)]; exact ⟨rfl, rfl⟩)
    (fun os started H enc _ => halfKeys_lifted os started H enc)
end Go.Proofs.Ytbinnhkjbaoakaa
