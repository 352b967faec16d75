/- The given statement FnExactAnswerPacketSaid holds (no condition). -/
import Derived.Test.YtnlnkfkpmcpbdaaPlain
import Derived.Test.YtnlnkfkpmcpbdaaWalk
namespace Go.Proofs.Ytnlnkfkpmcpbdaa
open KF Go

theorem own : ownKnob Try.prog.godebug = none := by kernel_rfl

set_option maxRecDepth 100000 in
theorem answerPacket_lifted (os : Os) (started : os.Started) (H : Type) (enc : TypeId × Value → H) :
    ReturnsInHanded {} Try.checked os 6 .any (Rows.fnExactAnswerPacketSpec.pre6 enc Try.prog Try.f6 Rows.fnExactAnswerPacketRow.domain Rows.fnExactAnswerPacketRow.apart)
      (Rows.fnExactAnswerPacketSpec.post enc Try.prog Try.f6 Rows.fnExactAnswerPacketRow.apart Rows.fnExactAnswerPacketRow.fresh Rows.fnExactAnswerPacketRow.handsOn Rows.fnExactAnswerPacketRow.again) :=
  law_lifted (C := Try.checked) (s := Rows.fnExactAnswerPacketSpec) (fn := Try.f6) (tb := 4) (pt := (.p tKeymap (.p (.sl byte) .u))) (fl := true) (F := fun x => laws_FnExactAnswerPacket x.1 x.2.1) own started (by kernel_rfl) Try.func6
      (ChangeSpec.witness6 (enc := enc) (C := Try.checked) false ⟨#[], #[.agg #[.int .i64 0, .slice none 0 0], .slice none 0 0], []⟩ 8 (by kernel_rfl) (by kernel_rfl) (by kernel_rfl) (by kernel_rfl))
      rfl (fun ds h => by
        match ds, h with
        | [_, _], _ => rfl) (by kernel_rfl) (by kernel_rfl) (by kernel_rfl) laws_FnExactAnswerPacket_snd
      (fun x hx => law_AnswerPacket x.1 x.2.1 hx.1 hx.2.1)

theorem answerPacket_holds : Rows.FnExactAnswerPacketSaid :=
  OpenClaim.holds_of_wide 6 Try.f6 rfl rfl rfl rfl rfl rfl rfl ⟨rfl, rfl, rfl, rfl, rfl⟩ rfl rfl rfl rfl rfl (by kernel_rfl) Try.func6 (by kernel_rfl)
    (of_decide_eq_true (by kernel_rfl)) (by unfold Func.isWrapper; rw [if_neg (by decide +kernel)]; exact ⟨rfl, rfl⟩)
    (fun os started H enc _ => answerPacket_lifted os started H enc)
end Go.Proofs.Ytnlnkfkpmcpbdaa
