/- The given statement FnExactReportsOfSaid holds (no condition). -/
import Derived.Test.YtabfbdolbfnfcaaPlain
import Derived.Test.YtabfbdolbfnfcaaWalk
namespace Go.Proofs.Ytabfbdolbfnfcaa
open KF Go

theorem own : ownKnob Try.prog.godebug = none := by kernel_rfl

set_option maxRecDepth 100000 in
theorem reportsOf_lifted (os : Os) (started : os.Started) (H : Type) (enc : TypeId × Value → H) :
    ReturnsInHanded {} Try.checked os 6 .any (Rows.fnExactReportsOfSpec.pre6 enc Try.prog Try.f6 Rows.fnExactReportsOfRow.domain Rows.fnExactReportsOfRow.apart)
      (Rows.fnExactReportsOfSpec.post enc Try.prog Try.f6 Rows.fnExactReportsOfRow.apart Rows.fnExactReportsOfRow.fresh Rows.fnExactReportsOfRow.handsOn Rows.fnExactReportsOfRow.again) :=
  law_lifted (C := Try.checked) (s := Rows.fnExactReportsOfSpec) (fn := Try.f6) (tb := 4) (pt := (.p (.sl tSent) .u)) (fl := true) (F := fun x => laws_FnExactReportsOf x.1) own started (by kernel_rfl) Try.func6
      (ChangeSpec.witness6 (enc := enc) (C := Try.checked) false ⟨#[], #[.slice none 0 0], []⟩ 8 (by kernel_rfl) (by kernel_rfl) (by kernel_rfl) (by kernel_rfl))
      rfl (fun ds h => by
        match ds, h with
        | [_], _ => rfl) (by kernel_rfl) (by kernel_rfl) (by kernel_rfl) laws_FnExactReportsOf_snd
      (fun x hx => law_ReportsOf x.1 hx.1)

theorem reportsOf_holds : Rows.FnExactReportsOfSaid :=
  OpenClaim.holds_of_wide 6 Try.f6 rfl rfl rfl rfl rfl rfl rfl ⟨rfl, rfl, rfl, rfl, rfl⟩ rfl rfl rfl rfl rfl (by kernel_rfl) Try.func6 (by kernel_rfl)
    (of_decide_eq_true (by kernel_rfl)) (by unfold Func.isWrapper; rw [if_neg (by decide +kernel)]; exact ⟨rfl, rfl⟩)
    (fun os started H enc _ => reportsOf_lifted os started H enc)
end Go.Proofs.Ytabfbdolbfnfcaa
