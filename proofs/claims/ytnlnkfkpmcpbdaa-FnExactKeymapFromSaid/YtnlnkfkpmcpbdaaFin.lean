/- The given statement FnExactKeymapFromSaid holds (no condition). -/
import Derived.Test.YtnlnkfkpmcpbdaaPlain
import Derived.Test.YtnlnkfkpmcpbdaaWalk
namespace Go.Proofs.Ytnlnkfkpmcpbdaa
open KF Go

theorem own : ownKnob Try.prog.godebug = none := by kernel_rfl

set_option maxRecDepth 100000 in
theorem keymapFrom_lifted (os : Os) (started : os.Started) (H : Type) (enc : TypeId × Value → H) :
    ReturnsInHanded {} Try.checked os 5 .any (Rows.fnExactKeymapFromSpec.pre6 enc Try.prog Try.f5 Rows.fnExactKeymapFromRow.domain Rows.fnExactKeymapFromRow.apart)
      (Rows.fnExactKeymapFromSpec.post enc Try.prog Try.f5 Rows.fnExactKeymapFromRow.apart Rows.fnExactKeymapFromRow.fresh Rows.fnExactKeymapFromRow.handsOn Rows.fnExactKeymapFromRow.again) :=
  law_lifted (C := Try.checked) (s := Rows.fnExactKeymapFromSpec) (fn := Try.f5) (tb := 4) (pt := (.p int (.p (.sl (.sl byte)) .u))) (fl := true) (F := fun x => laws_FnExactKeymapFrom x.1 x.2.1) own started (by kernel_rfl) Try.func5
      (ChangeSpec.witness6 (enc := enc) (C := Try.checked) false ⟨#[], #[.int .i64 0, .slice none 0 0], []⟩ 8 (by kernel_rfl) (by kernel_rfl) (by kernel_rfl) (by kernel_rfl))
      rfl (fun ds h => by
        match ds, h with
        | [_, _], _ => rfl) (by kernel_rfl) (by kernel_rfl) (by kernel_rfl) laws_FnExactKeymapFrom_snd
      (fun x hx => law_KeymapFrom x.1 x.2.1 hx.1 hx.2.1)

theorem keymapFrom_holds : Rows.FnExactKeymapFromSaid :=
  OpenClaim.holds_of_wide 5 Try.f5 rfl rfl rfl rfl rfl rfl rfl ⟨rfl, rfl, rfl, rfl, rfl⟩ rfl rfl rfl rfl rfl (by kernel_rfl) Try.func5 (by kernel_rfl)
    (of_decide_eq_true (by kernel_rfl)) (by unfold Func.isWrapper; rw [if_neg (by decide +kernel)]; exact ⟨rfl, rfl⟩)
    (fun os started H enc _ => keymapFrom_lifted os started H enc)
end Go.Proofs.Ytnlnkfkpmcpbdaa
