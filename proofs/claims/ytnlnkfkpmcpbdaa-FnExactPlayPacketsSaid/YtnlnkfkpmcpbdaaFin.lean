/- The given statement FnExactPlayPacketsSaid holds (no condition). -/
import Derived.Test.YtnlnkfkpmcpbdaaPlain
import Derived.Test.YtnlnkfkpmcpbdaaWalk
namespace Go.Proofs.Ytnlnkfkpmcpbdaa
open KF Go

theorem own : ownKnob Try.prog.godebug = none := by kernel_rfl

set_option maxRecDepth 100000 in
theorem playPackets_lifted (os : Os) (started : os.Started) (H : Type) (enc : TypeId × Value → H) :
    ReturnsInHanded {} Try.checked os 7 .any (Rows.fnExactPlayPacketsSpec.pre6 enc Try.prog Try.f7 Rows.fnExactPlayPacketsRow.domain Rows.fnExactPlayPacketsRow.apart)
      (Rows.fnExactPlayPacketsSpec.post enc Try.prog Try.f7 Rows.fnExactPlayPacketsRow.apart Rows.fnExactPlayPacketsRow.fresh Rows.fnExactPlayPacketsRow.handsOn Rows.fnExactPlayPacketsRow.again) :=
  law_lifted (C := Try.checked) (s := Rows.fnExactPlayPacketsSpec) (fn := Try.f7) (tb := 4) (pt := (.p tKeymap (.p (.sl (.sl byte)) .u))) (fl := true) (F := fun x => laws_FnExactPlayPackets x.1 x.2.1) own started (by kernel_rfl) Try.func7
      (ChangeSpec.witness6 (enc := enc) (C := Try.checked) false ⟨#[], #[.agg #[.int .i64 0, .slice none 0 0], .slice none 0 0], []⟩ 8 (by kernel_rfl) (by kernel_rfl) (by kernel_rfl) (by kernel_rfl))
      rfl (fun ds h => by
        match ds, h with
        | [_, _], _ => rfl) (by kernel_rfl) (by kernel_rfl) (by kernel_rfl) laws_FnExactPlayPackets_snd
      (fun x hx => law_PlayPackets x.1 x.2.1 hx.1 hx.2.1)

theorem playPackets_holds : Rows.FnExactPlayPacketsSaid :=
  OpenClaim.holds_of_wide 7 Try.f7 rfl rfl rfl rfl rfl rfl rfl ⟨rfl, rfl, rfl, rfl, rfl⟩ rfl rfl rfl rfl rfl (by kernel_rfl) Try.func7 (by kernel_rfl)
    (of_decide_eq_true (by kernel_rfl)) (by unfold Func.isWrapper; rw [if_neg (by decide +kernel)]; exact ⟨rfl, rfl⟩)
    (fun os started H enc _ => playPackets_lifted os started H enc)
end Go.Proofs.Ytnlnkfkpmcpbdaa
