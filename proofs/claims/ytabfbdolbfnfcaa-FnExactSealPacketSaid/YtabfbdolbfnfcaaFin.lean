/- The given statement FnExactSealPacketSaid holds (no condition). -/
import Derived.Test.YtabfbdolbfnfcaaPlain
import Derived.Test.YtabfbdolbfnfcaaWalk
namespace Go.Proofs.Ytabfbdolbfnfcaa
open KF Go

theorem own : ownKnob Try.prog.godebug = none := by kernel_rfl

set_option maxRecDepth 100000 in
theorem sealPacket_lifted (os : Os) (started : os.Started) (H : Type) (enc : TypeId × Value → H) :
    ReturnsInHanded {} Try.checked os 4 .any (Rows.fnExactSealPacketSpec.pre6 enc Try.prog Try.f4 Rows.fnExactSealPacketRow.domain Rows.fnExactSealPacketRow.apart)
      (Rows.fnExactSealPacketSpec.post enc Try.prog Try.f4 Rows.fnExactSealPacketRow.apart Rows.fnExactSealPacketRow.fresh Rows.fnExactSealPacketRow.handsOn Rows.fnExactSealPacketRow.again) :=
  law_lifted (C := Try.checked) (s := Rows.fnExactSealPacketSpec) (fn := Try.f4) (tb := 4) (pt := (.p (.sl byte) .u)) (fl := true) (F := fun x => laws_FnExactSealPacket x.1) own started (by kernel_rfl) Try.func4
      (ChangeSpec.witness6 (enc := enc) (C := Try.checked) false ⟨#[], #[.slice none 0 0], []⟩ 8 (by kernel_rfl) (by kernel_rfl) (by kernel_rfl) (by kernel_rfl))
      rfl (fun ds h => by
        match ds, h with
        | [_], _ => rfl) (by kernel_rfl) (by kernel_rfl) (by kernel_rfl) laws_FnExactSealPacket_snd
      (fun x hx => law_SealPacket x.1 hx.1)

theorem sealPacket_holds : Rows.FnExactSealPacketSaid :=
  OpenClaim.holds_of_wide 4 Try.f4 rfl rfl rfl rfl rfl rfl rfl ⟨rfl, rfl, rfl, rfl, rfl⟩ rfl rfl rfl rfl rfl (by kernel_rfl) Try.func4 (by kernel_rfl)
    (of_decide_eq_true (by kernel_rfl)) (by unfold Func.isWrapper; rw [if_neg (by decide +kernel)]; exact ⟨rfl, rfl⟩)
    (fun os started H enc _ => sealPacket_lifted os started H enc)
end Go.Proofs.Ytabfbdolbfnfcaa
