/- Each Go function computes its plain function (no condition). -/
import Derived.Test.YtabfbdolbfnfcaaFns
import Derived.Test.YtabfbdolbfnfcaaRows
namespace KF
open Go Go.Proofs
def GT : List (Nat × Ty) := [(3, int), (4, .b), (5, byte), (22, (.sl byte)), (27, (.sl (.sl byte)))]
theorem GT_ok : (GT.all fun x => tokB Try.prog x.2 x.1) = true := by kernel_rfl
theorem mixed : Try.prog.follows .mixedOrders = true := by kernel_rfl

@[reducible] noncomputable def spec_l1In_sem : FnSem := .pu tStep (.p .b .u) [true] (fun x => spec_l1In x.1 x.2.1 x.2.2.1)
noncomputable def spec_l1In_G : Env := ⟨GT, [], []⟩
theorem spec_l1In_env : EnvOk Try.prog spec_l1In_G := envOk_nil GT_ok
noncomputable def spec_l1In_L : List (Nat × LoopSem) := []
theorem spec_l1In_snd : Sound Try.prog 43 spec_l1In_sem := sound_pu' (L := spec_l1In_L) (k := 0) spec_l1In_env mixed Try.func43 (by kernel_rfl) below_zero (fun x => by kernel_rfl)

@[reducible] noncomputable def spec_SealPacket_sem : FnSem := .pu (.p (.sl byte) .u) (.p (.sl byte) .u) [true] (fun x => spec_SealPacket x.1)
noncomputable def spec_SealPacket_G : Env := ⟨GT, [], []⟩
theorem spec_SealPacket_env : EnvOk Try.prog spec_SealPacket_G := envOk_nil GT_ok
noncomputable def spec_SealPacket_6_ls : LoopSem := ⟨40, ⟨[(0, (.data (.sl byte))), (3, (.own 200001 byte true)), (4, (.data int)), (5, (.data int))], []⟩, 0, ⟨[(3, (.own 200001 byte true)), (4, (.data int))], []⟩, ⟨[], []⟩, spec_SealPacket_6_loop⟩
noncomputable def spec_SealPacket_L : List (Nat × LoopSem) := [(6, spec_SealPacket_6_ls)]
theorem spec_SealPacket_6_lok : LoopOk spec_SealPacket_G spec_SealPacket_L (lp Try.f13 0) := loopOk_of (r := 6) (ls := spec_SealPacket_6_ls) (R := fun x => spec_SealPacket_6_R x.1.1 x.1.2.1 x.1.2.2.1 x.1.2.2.2.1) (by kernel_rfl) (by kernel_rfl) rfl (fun x => by kernel_rfl)
theorem spec_SealPacket_snd : Sound Try.prog 13 spec_SealPacket_sem := sound_pu' (L := spec_SealPacket_L) (k := 1) spec_SealPacket_env mixed Try.func13 (by kernel_rfl) (below_succ spec_SealPacket_6_lok below_zero) (fun x => by kernel_rfl)

@[reducible] noncomputable def spec_ReadScript_sem : FnSem := .pu tCombo (.p (.sl (.sl byte)) .u) [true] (fun x => spec_ReadScript x.1 x.2.1)
noncomputable def spec_ReadScript_G : Env := ⟨GT, [(43, spec_l1In_sem), (13, spec_SealPacket_sem)], []⟩
theorem spec_ReadScript_env : EnvOk Try.prog spec_ReadScript_G := EnvOk.cons spec_l1In_snd (EnvOk.cons spec_SealPacket_snd (envOk_nil GT_ok))
noncomputable def spec_ReadScript_6_ls : LoopSem := ⟨37, ⟨[(0, (.data int)), (1, (.data int)), (5, (.own 200101 (.sl byte) true)), (6, (.data int)), (7, (.data int))], []⟩, 2, ⟨[(0, (.data int)), (1, (.data int)), (5, (.own 200101 (.sl byte) true)), (6, (.data int))], []⟩, ⟨[], []⟩, spec_ReadScript_6_loop⟩
noncomputable def spec_ReadScript_3_ls : LoopSem := ⟨37, ⟨[(0, (.data int)), (1, (.data int)), (5, (.own 200001 (.sl byte) true)), (6, (.data int))], []⟩, 0, ⟨[(5, (.own 200001 (.sl byte) true))], []⟩, ⟨[], []⟩, spec_ReadScript_3_loop⟩
noncomputable def spec_ReadScript_L : List (Nat × LoopSem) := [(6, spec_ReadScript_6_ls), (3, spec_ReadScript_3_ls)]
theorem spec_ReadScript_6_lok : LoopOk spec_ReadScript_G spec_ReadScript_L (lp Try.f17 1) := loopOk_of (r := 6) (ls := spec_ReadScript_6_ls) (R := fun x => spec_ReadScript_6_R x.1.1 x.1.2.1 x.1.2.2.1 x.1.2.2.2.1 x.1.2.2.2.2.1) (by kernel_rfl) (by kernel_rfl) rfl (fun x => by kernel_rfl)
theorem spec_ReadScript_3_lok : LoopOk spec_ReadScript_G spec_ReadScript_L (lp Try.f17 0) := loopOk_of (r := 3) (ls := spec_ReadScript_3_ls) (R := fun x => spec_ReadScript_3_R x.1.1 x.1.2.1 x.1.2.2.1 x.1.2.2.2.1) (by kernel_rfl) (by kernel_rfl) rfl (fun x => by kernel_rfl)
theorem spec_ReadScript_snd : Sound Try.prog 17 spec_ReadScript_sem := sound_pu' (L := spec_ReadScript_L) (k := 2) spec_ReadScript_env mixed Try.func17 (by kernel_rfl) (below_succ spec_ReadScript_6_lok (below_succ spec_ReadScript_3_lok below_zero)) (fun x => by kernel_rfl)

@[reducible] noncomputable def impl_SealPacket_sem : FnSem := .pu (.p (.sl byte) .u) (.p (.sl byte) .u) [true] (fun x => impl_SealPacket x.1)
noncomputable def impl_SealPacket_G : Env := ⟨GT, [], []⟩
theorem impl_SealPacket_env : EnvOk Try.prog impl_SealPacket_G := envOk_nil GT_ok
noncomputable def impl_SealPacket_7_ls : LoopSem := ⟨35, ⟨[(3, (.own 200001 byte true)), (4, (.data int)), (14, (.data (.sl byte))), (15, (.data int)), (16, (.data int))], []⟩, 0, ⟨[(3, (.own 200001 byte true)), (4, (.data int))], []⟩, ⟨[], []⟩, impl_SealPacket_7_loop⟩
noncomputable def impl_SealPacket_L : List (Nat × LoopSem) := [(7, impl_SealPacket_7_ls)]
theorem impl_SealPacket_7_lok : LoopOk impl_SealPacket_G impl_SealPacket_L (lp Try.f14 0) := loopOk_of (r := 7) (ls := impl_SealPacket_7_ls) (R := fun x => impl_SealPacket_7_R x.1.1 x.1.2.1 x.1.2.2.1 x.1.2.2.2.1 x.1.2.2.2.2.1) (by kernel_rfl) (by kernel_rfl) rfl (fun x => by kernel_rfl)
theorem impl_SealPacket_snd : Sound Try.prog 14 impl_SealPacket_sem := sound_pu' (L := impl_SealPacket_L) (k := 1) impl_SealPacket_env mixed Try.func14 (by kernel_rfl) (below_succ impl_SealPacket_7_lok below_zero) (fun x => by kernel_rfl)

@[reducible] noncomputable def impl_ReadScript_sem : FnSem := .pu tCombo (.p (.sl (.sl byte)) .u) [true] (fun x => impl_ReadScript x.1 x.2.1)
noncomputable def impl_ReadScript_G : Env := ⟨GT, [(14, impl_SealPacket_sem)], []⟩
theorem impl_ReadScript_env : EnvOk Try.prog impl_ReadScript_G := EnvOk.cons impl_SealPacket_snd (envOk_nil GT_ok)
noncomputable def impl_ReadScript_8_ls : LoopSem := ⟨42, ⟨[(0, (.data int)), (5, (.own 200101 (.sl byte) true)), (6, (.data int)), (22, (.data int)), (23, (.data int)), (26, (.data int)), (27, (.data int))], []⟩, 2, ⟨[(0, (.data int)), (5, (.own 200101 (.sl byte) true)), (22, (.data int)), (23, (.data int))], []⟩, ⟨[], []⟩, impl_ReadScript_8_loop⟩
noncomputable def impl_ReadScript_5_ls : LoopSem := ⟨42, ⟨[(0, (.data int)), (5, (.own 200001 (.sl byte) true)), (22, (.data int)), (23, (.data int))], []⟩, 0, ⟨[(5, (.own 200001 (.sl byte) true))], []⟩, ⟨[], []⟩, impl_ReadScript_5_loop⟩
noncomputable def impl_ReadScript_L : List (Nat × LoopSem) := [(8, impl_ReadScript_8_ls), (5, impl_ReadScript_5_ls)]
theorem impl_ReadScript_8_lok : LoopOk impl_ReadScript_G impl_ReadScript_L (lp Try.f18 1) := loopOk_of (r := 8) (ls := impl_ReadScript_8_ls) (R := fun x => impl_ReadScript_8_R x.1.1 x.1.2.1 x.1.2.2.1 x.1.2.2.2.1 x.1.2.2.2.2.1 x.1.2.2.2.2.2.1 x.1.2.2.2.2.2.2.1) (by kernel_rfl) (by kernel_rfl) rfl (fun x => by kernel_rfl)
theorem impl_ReadScript_5_lok : LoopOk impl_ReadScript_G impl_ReadScript_L (lp Try.f18 0) := loopOk_of (r := 5) (ls := impl_ReadScript_5_ls) (R := fun x => impl_ReadScript_5_R x.1.1 x.1.2.1 x.1.2.2.1 x.1.2.2.2.1) (by kernel_rfl) (by kernel_rfl) rfl (fun x => by kernel_rfl)
theorem impl_ReadScript_snd : Sound Try.prog 18 impl_ReadScript_sem := sound_pu' (L := impl_ReadScript_L) (k := 2) impl_ReadScript_env mixed Try.func18 (by kernel_rfl) (below_succ impl_ReadScript_8_lok (below_succ impl_ReadScript_5_lok below_zero)) (fun x => by kernel_rfl)

@[reducible] noncomputable def laws_eqByteS_sem : FnSem := .pu (.p (.sl byte) (.p (.sl byte) .u)) (.p .b .u) [true] (fun x => laws_eqByteS x.1 x.2.1)
noncomputable def laws_eqByteS_G : Env := ⟨GT, [], []⟩
theorem laws_eqByteS_env : EnvOk Try.prog laws_eqByteS_G := envOk_nil GT_ok
noncomputable def laws_eqByteS_4_ls : LoopSem := ⟨26, ⟨[(0, (.data (.sl byte))), (1, (.data (.sl byte))), (5, (.data int))], []⟩, 0, ⟨[], []⟩, ⟨[(4, (.data .b))], []⟩, laws_eqByteS_4_loop⟩
noncomputable def laws_eqByteS_L : List (Nat × LoopSem) := [(4, laws_eqByteS_4_ls)]
theorem laws_eqByteS_4_lok : LoopOk laws_eqByteS_G laws_eqByteS_L (lp Try.f12 0) := loopOk_of (r := 4) (ls := laws_eqByteS_4_ls) (R := fun x => laws_eqByteS_4_R x.1.1 x.1.2.1 x.1.2.2.1) (by kernel_rfl) (by kernel_rfl) rfl (fun x => by kernel_rfl)
theorem laws_eqByteS_snd : Sound Try.prog 12 laws_eqByteS_sem := sound_pu' (L := laws_eqByteS_L) (k := 1) laws_eqByteS_env mixed Try.func12 (by kernel_rfl) (below_succ laws_eqByteS_4_lok below_zero) (fun x => by kernel_rfl)

@[reducible] noncomputable def laws_eqByteSS_sem : FnSem := .pu (.p (.sl (.sl byte)) (.p (.sl (.sl byte)) .u)) (.p .b .u) [true] (fun x => laws_eqByteSS x.1 x.2.1)
noncomputable def laws_eqByteSS_G : Env := ⟨GT, [(12, laws_eqByteS_sem)], []⟩
theorem laws_eqByteSS_env : EnvOk Try.prog laws_eqByteSS_G := EnvOk.cons laws_eqByteS_snd (envOk_nil GT_ok)
noncomputable def laws_eqByteSS_4_ls : LoopSem := ⟨27, ⟨[(0, (.data (.sl (.sl byte)))), (1, (.data (.sl (.sl byte)))), (5, (.data int))], []⟩, 0, ⟨[], []⟩, ⟨[(4, (.data .b))], []⟩, laws_eqByteSS_4_loop⟩
noncomputable def laws_eqByteSS_L : List (Nat × LoopSem) := [(4, laws_eqByteSS_4_ls)]
theorem laws_eqByteSS_4_lok : LoopOk laws_eqByteSS_G laws_eqByteSS_L (lp Try.f19 0) := loopOk_of (r := 4) (ls := laws_eqByteSS_4_ls) (R := fun x => laws_eqByteSS_4_R x.1.1 x.1.2.1 x.1.2.2.1) (by kernel_rfl) (by kernel_rfl) rfl (fun x => by kernel_rfl)
theorem laws_eqByteSS_snd : Sound Try.prog 19 laws_eqByteSS_sem := sound_pu' (L := laws_eqByteSS_L) (k := 1) laws_eqByteSS_env mixed Try.func19 (by kernel_rfl) (below_succ laws_eqByteSS_4_lok below_zero) (fun x => by kernel_rfl)

@[reducible] noncomputable def laws_markByteS_sem : FnSem := .io (.sl byte) (.p int .u) (.p int .u) [true] (fun x0 x => laws_markByteS x0 x.1)
noncomputable def laws_markByteS_G : Env := ⟨GT, [], []⟩
theorem laws_markByteS_env : EnvOk Try.prog laws_markByteS_G := envOk_nil GT_ok
noncomputable def laws_markByteS_2_ls : LoopSem := ⟨20, ⟨[(0, (.own 500000 byte true)), (1, (.data int)), (5, (.data int))], []⟩, 0, ⟨[(0, (.own 500000 byte true)), (1, (.data int))], []⟩, ⟨[], []⟩, laws_markByteS_2_loop⟩
noncomputable def laws_markByteS_L : List (Nat × LoopSem) := [(2, laws_markByteS_2_ls)]
theorem laws_markByteS_2_lok : LoopOk laws_markByteS_G laws_markByteS_L (lp Try.f15 0) := loopOk_of (r := 2) (ls := laws_markByteS_2_ls) (R := fun x => laws_markByteS_2_R x.1.1 x.1.2.1 x.1.2.2.1) (by kernel_rfl) (by kernel_rfl) rfl (fun x => by kernel_rfl)
theorem laws_markByteS_snd : Sound Try.prog 15 laws_markByteS_sem := sound_io' (L := laws_markByteS_L) (k := 1) laws_markByteS_env mixed Try.func15 (by kernel_rfl) (below_succ laws_markByteS_2_lok below_zero) (fun x0 x => by kernel_rfl)

@[reducible] noncomputable def laws_markByteSS_sem : FnSem := .io (.sl (.sl byte)) (.p int .u) (.p int .u) [true] (fun x0 x => laws_markByteSS x0 x.1)
noncomputable def laws_markByteSS_G : Env := ⟨GT, [(15, laws_markByteS_sem)], [(7, 500000)]⟩
theorem laws_markByteSS_env : EnvOk Try.prog laws_markByteSS_G := EnvOk.cons laws_markByteS_snd (envOk_nil GT_ok)
noncomputable def laws_markByteSS_2_ls : LoopSem := ⟨19, ⟨[(0, (.own 500000 (.sl byte) true)), (1, (.data int)), (5, (.data int))], []⟩, 0, ⟨[(0, (.own 500000 (.sl byte) true)), (1, (.data int))], []⟩, ⟨[], []⟩, laws_markByteSS_2_loop⟩
noncomputable def laws_markByteSS_L : List (Nat × LoopSem) := [(2, laws_markByteSS_2_ls)]
theorem laws_markByteSS_2_lok : LoopOk laws_markByteSS_G laws_markByteSS_L (lp Try.f20 0) := loopOk_of (r := 2) (ls := laws_markByteSS_2_ls) (R := fun x => laws_markByteSS_2_R x.1.1 x.1.2.1 x.1.2.2.1) (by kernel_rfl) (by kernel_rfl) rfl (fun x => by kernel_rfl)
theorem laws_markByteSS_snd : Sound Try.prog 20 laws_markByteSS_sem := sound_io' (L := laws_markByteSS_L) (k := 1) laws_markByteSS_env mixed Try.func20 (by kernel_rfl) (below_succ laws_markByteSS_2_lok below_zero) (fun x0 x => by kernel_rfl)

@[reducible] noncomputable def laws_heldByteS_sem : FnSem := .pu (.p (.sl byte) (.p int .u)) (.p int .u) [true] (fun x => laws_heldByteS x.1 x.2.1)
noncomputable def laws_heldByteS_G : Env := ⟨GT, [], []⟩
theorem laws_heldByteS_env : EnvOk Try.prog laws_heldByteS_G := envOk_nil GT_ok
noncomputable def laws_heldByteS_2_ls : LoopSem := ⟨22, ⟨[(0, (.data (.sl byte))), (1, (.data int)), (5, (.data int))], []⟩, 0, ⟨[(1, (.data int))], []⟩, ⟨[(4, (.data int))], []⟩, laws_heldByteS_2_loop⟩
noncomputable def laws_heldByteS_L : List (Nat × LoopSem) := [(2, laws_heldByteS_2_ls)]
theorem laws_heldByteS_2_lok : LoopOk laws_heldByteS_G laws_heldByteS_L (lp Try.f16 0) := loopOk_of (r := 2) (ls := laws_heldByteS_2_ls) (R := fun x => laws_heldByteS_2_R x.1.1 x.1.2.1 x.1.2.2.1) (by kernel_rfl) (by kernel_rfl) rfl (fun x => by kernel_rfl)
theorem laws_heldByteS_snd : Sound Try.prog 16 laws_heldByteS_sem := sound_pu' (L := laws_heldByteS_L) (k := 1) laws_heldByteS_env mixed Try.func16 (by kernel_rfl) (below_succ laws_heldByteS_2_lok below_zero) (fun x => by kernel_rfl)

@[reducible] noncomputable def laws_heldByteSS_sem : FnSem := .pu (.p (.sl (.sl byte)) (.p int .u)) (.p int .u) [true] (fun x => laws_heldByteSS x.1 x.2.1)
noncomputable def laws_heldByteSS_G : Env := ⟨GT, [(16, laws_heldByteS_sem)], []⟩
theorem laws_heldByteSS_env : EnvOk Try.prog laws_heldByteSS_G := EnvOk.cons laws_heldByteS_snd (envOk_nil GT_ok)
noncomputable def laws_heldByteSS_2_ls : LoopSem := ⟨21, ⟨[(0, (.data (.sl (.sl byte)))), (1, (.data int)), (5, (.data int))], []⟩, 0, ⟨[(1, (.data int))], []⟩, ⟨[(4, (.data int))], []⟩, laws_heldByteSS_2_loop⟩
noncomputable def laws_heldByteSS_L : List (Nat × LoopSem) := [(2, laws_heldByteSS_2_ls)]
theorem laws_heldByteSS_2_lok : LoopOk laws_heldByteSS_G laws_heldByteSS_L (lp Try.f21 0) := loopOk_of (r := 2) (ls := laws_heldByteSS_2_ls) (R := fun x => laws_heldByteSS_2_R x.1.1 x.1.2.1 x.1.2.2.1) (by kernel_rfl) (by kernel_rfl) rfl (fun x => by kernel_rfl)
theorem laws_heldByteSS_snd : Sound Try.prog 21 laws_heldByteSS_sem := sound_pu' (L := laws_heldByteSS_L) (k := 1) laws_heldByteSS_env mixed Try.func21 (by kernel_rfl) (below_succ laws_heldByteSS_2_lok below_zero) (fun x => by kernel_rfl)

@[reducible] noncomputable def laws_FnExactReadScript_sem : FnSem := .pu tCombo (.p .b .u) [true] (fun x => laws_FnExactReadScript x.1 x.2.1)
noncomputable def laws_FnExactReadScript_G : Env := ⟨GT, [(17, spec_ReadScript_sem), (18, impl_ReadScript_sem), (19, laws_eqByteSS_sem), (20, laws_markByteSS_sem), (21, laws_heldByteSS_sem)], []⟩
theorem laws_FnExactReadScript_env : EnvOk Try.prog laws_FnExactReadScript_G := EnvOk.cons spec_ReadScript_snd (EnvOk.cons impl_ReadScript_snd (EnvOk.cons laws_eqByteSS_snd (EnvOk.cons laws_markByteSS_snd (EnvOk.cons laws_heldByteSS_snd (envOk_nil GT_ok)))))
noncomputable def laws_FnExactReadScript_L : List (Nat × LoopSem) := []
theorem laws_FnExactReadScript_snd : Sound Try.prog 5 laws_FnExactReadScript_sem := sound_pu' (L := laws_FnExactReadScript_L) (k := 0) laws_FnExactReadScript_env mixed Try.func5 (by kernel_rfl) below_zero (fun x => by kernel_rfl)
end KF
