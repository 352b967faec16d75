/- The given statement holds (no condition). -/
import Derived.Test.YtabfbdolbfnfcaaPlain
import Derived.Test.YtabfbdolbfnfcaaWalk
namespace Go.Proofs.Ytabfbdolbfnfcaa
open KF Go

theorem own : ownKnob Try.prog.godebug = none := by kernel_rfl

set_option maxRecDepth 100000 in
theorem isPacket_lifted (os : Os) (started : os.Started) (H : Type) (enc : TypeId × Value → H) :
    ReturnsInHanded {} Try.checked os 3 .any (Rows.fnExactIsPacketSpec.pre6 enc Try.prog Try.f3 Rows.fnExactIsPacketRow.domain Rows.fnExactIsPacketRow.apart)
      (Rows.fnExactIsPacketSpec.post enc Try.prog Try.f3 Rows.fnExactIsPacketRow.apart Rows.fnExactIsPacketRow.fresh Rows.fnExactIsPacketRow.handsOn Rows.fnExactIsPacketRow.again) :=
  law_lifted (C := Try.checked) (s := Rows.fnExactIsPacketSpec) (fn := Try.f3) (tb := 4) (pt := (.p (.sl byte) .u)) (fl := true) (F := fun x => laws_FnExactIsPacket x.1) own started (by kernel_rfl) Try.func3
      (ChangeSpec.witness6 (enc := enc) (C := Try.checked) false ⟨#[], #[.slice none 0 0], []⟩ 8 (by kernel_rfl) (by kernel_rfl) (by kernel_rfl) (by kernel_rfl))
      rfl (fun ds h => by
        match ds, h with
        | [_], _ => rfl) (by kernel_rfl) (by kernel_rfl) (by kernel_rfl) laws_FnExactIsPacket_snd
      (fun x _ => law_IsPacket x.1)

theorem isPacket_holds : Rows.FnExactIsPacketSaid :=
  OpenClaim.holds_of_wide 3 Try.f3 rfl rfl rfl rfl rfl rfl rfl ⟨rfl, rfl, rfl, rfl, rfl⟩ rfl rfl rfl rfl rfl (by kernel_rfl) Try.func3 (by kernel_rfl)
    (of_decide_eq_true (by kernel_rfl)) (by unfold Func.isWrapper; rw [if_neg (by decide +kernel)]; exact ⟨rfl, rfl⟩)
    (fun os started H enc _ => isPacket_lifted os started H enc)
end Go.Proofs.Ytabfbdolbfnfcaa
