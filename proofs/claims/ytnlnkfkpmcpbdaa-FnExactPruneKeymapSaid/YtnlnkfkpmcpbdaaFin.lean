/- The given statement FnExactPruneKeymapSaid holds (no condition). -/
import Derived.Test.YtnlnkfkpmcpbdaaPlain
import Derived.Test.YtnlnkfkpmcpbdaaWalk
namespace Go.Proofs.Ytnlnkfkpmcpbdaa
open KF Go

theorem own : ownKnob Try.prog.godebug = none := by kernel_rfl

set_option maxRecDepth 100000 in
theorem pruneKeymap_lifted (os : Os) (started : os.Started) (H : Type) (enc : TypeId × Value → H) :
    ReturnsInHanded {} Try.checked os 4 .any (Rows.fnExactPruneKeymapSpec.pre6 enc Try.prog Try.f4 Rows.fnExactPruneKeymapRow.domain Rows.fnExactPruneKeymapRow.apart)
      (Rows.fnExactPruneKeymapSpec.post enc Try.prog Try.f4 Rows.fnExactPruneKeymapRow.apart Rows.fnExactPruneKeymapRow.fresh Rows.fnExactPruneKeymapRow.handsOn Rows.fnExactPruneKeymapRow.again) :=
  law_lifted (C := Try.checked) (s := Rows.fnExactPruneKeymapSpec) (fn := Try.f4) (tb := 4) (pt := (.p tKeymap .u)) (fl := true) (F := fun x => laws_FnExactPruneKeymap x.1) own started (by kernel_rfl) Try.func4
      (ChangeSpec.witness6 (enc := enc) (C := Try.checked) false ⟨#[], #[.agg #[.int .i64 0, .slice none 0 0]], []⟩ 8 (by kernel_rfl) (by kernel_rfl) (by kernel_rfl) (by kernel_rfl))
      rfl (fun ds h => by
        match ds, h with
        | [_], _ => rfl) (by kernel_rfl) (by kernel_rfl) (by kernel_rfl) laws_FnExactPruneKeymap_snd
      (fun x hx => law_PruneKeymap x.1 hx.1)

theorem pruneKeymap_holds : Rows.FnExactPruneKeymapSaid :=
  OpenClaim.holds_of_wide 4 Try.f4 rfl rfl rfl rfl rfl rfl rfl ⟨rfl, rfl, rfl, rfl, rfl⟩ rfl rfl rfl rfl rfl (by kernel_rfl) Try.func4 (by kernel_rfl)
    (of_decide_eq_true (by kernel_rfl)) (by unfold Func.isWrapper; rw [if_neg (by decide +kernel)]; exact ⟨rfl, rfl⟩)
    (fun os started H enc _ => pruneKeymap_lifted os started H enc)
end Go.Proofs.Ytnlnkfkpmcpbdaa
