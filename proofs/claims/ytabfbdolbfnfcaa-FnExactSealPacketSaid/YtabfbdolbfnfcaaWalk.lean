/- Each Go function computes its plain function (no condition). -/
import Derived.Test.YtabfbdolbfnfcaaFns
import Derived.Test.YtabfbdolbfnfcaaRows
namespace KF
open Go Go.Proofs
def GT : List (Nat × Ty) := [(3, int), (4, .b), (5, byte), (22, (.sl byte))]
theorem GT_ok : (GT.all fun x => tokB Try.prog x.2 x.1) = true := by kernel_rfl
theorem mixed : Try.prog.follows .mixedOrders = true := by kernel_rfl

@[reducible] noncomputable def laws_toByteS_sem : FnSem := .pu (.p (.sl byte) .u) (.p (.sl byte) .u) [true] (fun x => laws_toByteS x.1)
noncomputable def laws_toByteS_G : Env := ⟨GT, []⟩
theorem laws_toByteS_env : EnvOk Try.prog laws_toByteS_G := envOk_nil GT_ok
noncomputable def laws_toByteS_3_ls : LoopSem := ⟨22, ⟨[(0, (.data (.sl byte))), (3, (.own 200001 byte true)), (4, (.data int))], []⟩, 0, ⟨[(3, (.own 200001 byte true))], []⟩, ⟨[], []⟩, laws_toByteS_3_loop⟩
noncomputable def laws_toByteS_L : List (Nat × LoopSem) := [(3, laws_toByteS_3_ls)]
theorem laws_toByteS_3_lok : LoopOk laws_toByteS_G laws_toByteS_L (lp Try.f10 0) := loopOk_of (r := 3) (ls := laws_toByteS_3_ls) (R := fun x => laws_toByteS_3_R x.1.1 x.1.2.1 x.1.2.2.1) (by kernel_rfl) (by kernel_rfl) rfl (fun x => by kernel_rfl)
theorem laws_toByteS_snd : Sound Try.prog 10 laws_toByteS_sem := sound_pu' (L := laws_toByteS_L) (k := 1) laws_toByteS_env mixed Try.func10 (by kernel_rfl) (below_succ laws_toByteS_3_lok below_zero) (fun x => by kernel_rfl)

@[reducible] noncomputable def spec_SealPacket_sem : FnSem := .pu (.p (.sl byte) .u) (.p (.sl byte) .u) [true] (fun x => spec_SealPacket x.1)
noncomputable def spec_SealPacket_G : Env := ⟨GT, []⟩
theorem spec_SealPacket_env : EnvOk Try.prog spec_SealPacket_G := envOk_nil GT_ok
noncomputable def spec_SealPacket_6_ls : LoopSem := ⟨40, ⟨[(0, (.data (.sl byte))), (3, (.own 200001 byte true)), (4, (.data int)), (5, (.data int))], []⟩, 0, ⟨[(3, (.own 200001 byte true)), (4, (.data int))], []⟩, ⟨[], []⟩, spec_SealPacket_6_loop⟩
noncomputable def spec_SealPacket_L : List (Nat × LoopSem) := [(6, spec_SealPacket_6_ls)]
theorem spec_SealPacket_6_lok : LoopOk spec_SealPacket_G spec_SealPacket_L (lp Try.f13 0) := loopOk_of (r := 6) (ls := spec_SealPacket_6_ls) (R := fun x => spec_SealPacket_6_R x.1.1 x.1.2.1 x.1.2.2.1 x.1.2.2.2.1) (by kernel_rfl) (by kernel_rfl) rfl (fun x => by kernel_rfl)
theorem spec_SealPacket_snd : Sound Try.prog 13 spec_SealPacket_sem := sound_pu' (L := spec_SealPacket_L) (k := 1) spec_SealPacket_env mixed Try.func13 (by kernel_rfl) (below_succ spec_SealPacket_6_lok below_zero) (fun x => by kernel_rfl)

@[reducible] noncomputable def impl_SealPacket_sem : FnSem := .pu (.p (.sl byte) .u) (.p (.sl byte) .u) [true] (fun x => impl_SealPacket x.1)
noncomputable def impl_SealPacket_G : Env := ⟨GT, []⟩
theorem impl_SealPacket_env : EnvOk Try.prog impl_SealPacket_G := envOk_nil GT_ok
noncomputable def impl_SealPacket_7_ls : LoopSem := ⟨35, ⟨[(3, (.own 200001 byte true)), (4, (.data int)), (14, (.data (.sl byte))), (15, (.data int)), (16, (.data int))], []⟩, 0, ⟨[(3, (.own 200001 byte true)), (4, (.data int))], []⟩, ⟨[], []⟩, impl_SealPacket_7_loop⟩
noncomputable def impl_SealPacket_L : List (Nat × LoopSem) := [(7, impl_SealPacket_7_ls)]
theorem impl_SealPacket_7_lok : LoopOk impl_SealPacket_G impl_SealPacket_L (lp Try.f14 0) := loopOk_of (r := 7) (ls := impl_SealPacket_7_ls) (R := fun x => impl_SealPacket_7_R x.1.1 x.1.2.1 x.1.2.2.1 x.1.2.2.2.1 x.1.2.2.2.2.1) (by kernel_rfl) (by kernel_rfl) rfl (fun x => by kernel_rfl)
theorem impl_SealPacket_snd : Sound Try.prog 14 impl_SealPacket_sem := sound_pu' (L := impl_SealPacket_L) (k := 1) impl_SealPacket_env mixed Try.func14 (by kernel_rfl) (below_succ impl_SealPacket_7_lok below_zero) (fun x => by kernel_rfl)

@[reducible] noncomputable def laws_eqByteS_sem : FnSem := .pu (.p (.sl byte) (.p (.sl byte) .u)) (.p .b .u) [true] (fun x => laws_eqByteS x.1 x.2.1)
noncomputable def laws_eqByteS_G : Env := ⟨GT, []⟩
theorem laws_eqByteS_env : EnvOk Try.prog laws_eqByteS_G := envOk_nil GT_ok
noncomputable def laws_eqByteS_4_ls : LoopSem := ⟨26, ⟨[(0, (.data (.sl byte))), (1, (.data (.sl byte))), (5, (.data int))], []⟩, 0, ⟨[], []⟩, ⟨[(4, (.data .b))], []⟩, laws_eqByteS_4_loop⟩
noncomputable def laws_eqByteS_L : List (Nat × LoopSem) := [(4, laws_eqByteS_4_ls)]
theorem laws_eqByteS_4_lok : LoopOk laws_eqByteS_G laws_eqByteS_L (lp Try.f12 0) := loopOk_of (r := 4) (ls := laws_eqByteS_4_ls) (R := fun x => laws_eqByteS_4_R x.1.1 x.1.2.1 x.1.2.2.1) (by kernel_rfl) (by kernel_rfl) rfl (fun x => by kernel_rfl)
theorem laws_eqByteS_snd : Sound Try.prog 12 laws_eqByteS_sem := sound_pu' (L := laws_eqByteS_L) (k := 1) laws_eqByteS_env mixed Try.func12 (by kernel_rfl) (below_succ laws_eqByteS_4_lok below_zero) (fun x => by kernel_rfl)

@[reducible] noncomputable def laws_markByteS_sem : FnSem := .io (.sl byte) (.p int .u) (.p int .u) [true] (fun x0 x => laws_markByteS x0 x.1)
noncomputable def laws_markByteS_G : Env := ⟨GT, []⟩
theorem laws_markByteS_env : EnvOk Try.prog laws_markByteS_G := envOk_nil GT_ok
noncomputable def laws_markByteS_2_ls : LoopSem := ⟨20, ⟨[(0, (.own 500000 byte true)), (1, (.data int)), (5, (.data int))], []⟩, 0, ⟨[(0, (.own 500000 byte true)), (1, (.data int))], []⟩, ⟨[], []⟩, laws_markByteS_2_loop⟩
noncomputable def laws_markByteS_L : List (Nat × LoopSem) := [(2, laws_markByteS_2_ls)]
theorem laws_markByteS_2_lok : LoopOk laws_markByteS_G laws_markByteS_L (lp Try.f15 0) := loopOk_of (r := 2) (ls := laws_markByteS_2_ls) (R := fun x => laws_markByteS_2_R x.1.1 x.1.2.1 x.1.2.2.1) (by kernel_rfl) (by kernel_rfl) rfl (fun x => by kernel_rfl)
theorem laws_markByteS_snd : Sound Try.prog 15 laws_markByteS_sem := sound_io' (L := laws_markByteS_L) (k := 1) laws_markByteS_env mixed Try.func15 (by kernel_rfl) (below_succ laws_markByteS_2_lok below_zero) (fun x0 x => by kernel_rfl)

@[reducible] noncomputable def laws_heldByteS_sem : FnSem := .pu (.p (.sl byte) (.p int .u)) (.p int .u) [true] (fun x => laws_heldByteS x.1 x.2.1)
noncomputable def laws_heldByteS_G : Env := ⟨GT, []⟩
theorem laws_heldByteS_env : EnvOk Try.prog laws_heldByteS_G := envOk_nil GT_ok
noncomputable def laws_heldByteS_2_ls : LoopSem := ⟨22, ⟨[(0, (.data (.sl byte))), (1, (.data int)), (5, (.data int))], []⟩, 0, ⟨[(1, (.data int))], []⟩, ⟨[(4, (.data int))], []⟩, laws_heldByteS_2_loop⟩
noncomputable def laws_heldByteS_L : List (Nat × LoopSem) := [(2, laws_heldByteS_2_ls)]
theorem laws_heldByteS_2_lok : LoopOk laws_heldByteS_G laws_heldByteS_L (lp Try.f16 0) := loopOk_of (r := 2) (ls := laws_heldByteS_2_ls) (R := fun x => laws_heldByteS_2_R x.1.1 x.1.2.1 x.1.2.2.1) (by kernel_rfl) (by kernel_rfl) rfl (fun x => by kernel_rfl)
theorem laws_heldByteS_snd : Sound Try.prog 16 laws_heldByteS_sem := sound_pu' (L := laws_heldByteS_L) (k := 1) laws_heldByteS_env mixed Try.func16 (by kernel_rfl) (below_succ laws_heldByteS_2_lok below_zero) (fun x => by kernel_rfl)

@[reducible] noncomputable def laws_FnExactSealPacket_sem : FnSem := .pu (.p (.sl byte) .u) (.p .b .u) [true] (fun x => laws_FnExactSealPacket x.1)
noncomputable def laws_FnExactSealPacket_G : Env := ⟨GT, [(10, laws_toByteS_sem), (13, spec_SealPacket_sem), (14, impl_SealPacket_sem), (12, laws_eqByteS_sem), (15, laws_markByteS_sem), (16, laws_heldByteS_sem)]⟩
theorem laws_FnExactSealPacket_env : EnvOk Try.prog laws_FnExactSealPacket_G := EnvOk.cons laws_toByteS_snd (EnvOk.cons spec_SealPacket_snd (EnvOk.cons impl_SealPacket_snd (EnvOk.cons laws_eqByteS_snd (EnvOk.cons laws_markByteS_snd (EnvOk.cons laws_heldByteS_snd (envOk_nil GT_ok))))))
noncomputable def laws_FnExactSealPacket_L : List (Nat × LoopSem) := []
theorem laws_FnExactSealPacket_snd : Sound Try.prog 4 laws_FnExactSealPacket_sem := sound_pu' (L := laws_FnExactSealPacket_L) (k := 0) laws_FnExactSealPacket_env mixed Try.func4 (by kernel_rfl) below_zero (fun x => by kernel_rfl)
end KF
