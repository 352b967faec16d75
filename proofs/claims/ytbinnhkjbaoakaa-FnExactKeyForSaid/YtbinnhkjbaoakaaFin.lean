/- The given statement FnExactKeyForSaid holds (no condition). -/
import Derived.Test.YtbinnhkjbaoakaaPlain
import Derived.Test.YtbinnhkjbaoakaaWalk
namespace Go.Proofs.Ytbinnhkjbaoakaa
open KF Go

theorem own : ownKnob Try.prog.godebug = none := by kernel_rfl

set_option maxRecDepth 100000 in
theorem keyFor_lifted (os : Os) (started : os.Started) (H : Type) (enc : TypeId × Value → H) :
    ReturnsInHanded {} Try.checked os 4 .any (Rows.fnExactKeyForSpec.pre6 enc Try.prog Try.f4 Rows.fnExactKeyForRow.domain Rows.fnExactKeyForRow.apart)
      (Rows.fnExactKeyForSpec.post enc Try.prog Try.f4 Rows.fnExactKeyForRow.apart Rows.fnExactKeyForRow.fresh Rows.fnExactKeyForRow.handsOn Rows.fnExactKeyForRow.again) :=
  law_lifted (C := Try.checked) (s := Rows.fnExactKeyForSpec) (fn := Try.f4) (tb := 4) (pt := (.p tKeymap tCombo)) (fl := true) (F := fun x => laws_FnExactKeyFor x.1 x.2.1 x.2.2.1) own started (by kernel_rfl) Try.func4
      (ChangeSpec.witness6 (enc := enc) (C := Try.checked) false ⟨#[], #[.agg #[.int .i64 0, .slice none 0 0], .int .i64 0, .int .i64 0], []⟩ 8 (by kernel_rfl) (by kernel_rfl) (by kernel_rfl) (by kernel_rfl))
      rfl (fun ds h => by
        match ds, h with
        | [_, _, _], _ => rfl) (by kernel_rfl) (by kernel_rfl) (by kernel_rfl) laws_FnExactKeyFor_snd
      (fun x hx => law_KeyFor x.1 x.2.1 x.2.2.1 hx.1 hx.2.1 hx.2.2.1)

theorem keyFor_holds : Rows.FnExactKeyForSaid :=
  OpenClaim.holds_of_wide 4 Try.f4 rfl rfl rfl rfl rfl rfl rfl ⟨rfl, rfl, rfl, rfl, rfl⟩ rfl rfl rfl rfl rfl (by kernel_rfl) Try.func4 (by kernel_rfl)
    (of_decide_eq_true (by kernel_rfl)) (by unfold Func.isWrapper; rw [if_neg (by decide +kernel)]; exact ⟨rfl, rfl⟩)
    (fun os started H enc _ => keyFor_lifted os started H enc)
end Go.Proofs.Ytbinnhkjbaoakaa
