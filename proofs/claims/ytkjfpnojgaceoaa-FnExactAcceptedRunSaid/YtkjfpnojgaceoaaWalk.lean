/- Each Go function computes its plain function (no condition). -/
import Derived.Test.YtkjfpnojgaceoaaFns
import Derived.Test.YtkjfpnojgaceoaaRows
namespace KF
open Go Go.Proofs
def GT : List (Nat × Ty) := [(3, int), (4, .b), (23, tEvent), (24, (.sl int)), (27, tEvent)]
def GA : List (Nat × Ty × Nat) := [(75, int, 4)]
theorem GT_ok : ((GT.all fun x => tokB Try.prog x.2 x.1) && (GA.all fun x => arrB Try.prog x.1 x.2.1 x.2.2)) = true := by kernel_rfl
theorem mixed : Try.prog.follows .mixedOrders = true := by kernel_rfl
noncomputable abbrev II : Inv := noI

@[reducible] noncomputable def laws_toMatrix_sem : FnSem := .pu (.p tEvent .u) (.p tEvent .u) [true] (fun x => laws_toMatrix x.1)
noncomputable def laws_toMatrix_G : Env := ⟨GT, [], [], true, GA, [], []⟩
theorem laws_toMatrix_env : EnvOk Try.prog II laws_toMatrix_G := envOk_nil GT_ok
noncomputable def laws_toMatrix_L : List (Nat × LoopSem) := []
theorem laws_toMatrix_snd : Sound Try.prog II 7 laws_toMatrix_sem := sound_pu' (L := laws_toMatrix_L) (k := 0) laws_toMatrix_env mixed Try.func7 (by kernel_rfl) below_zero (fun x => by kernel_rfl)

@[reducible] noncomputable def laws_toIntS_sem : FnSem := .pu (.p (.sl int) .u) (.p (.sl int) .u) [true] (fun x => laws_toIntS x.1)
noncomputable def laws_toIntS_G : Env := ⟨GT, [], [], true, GA, [], []⟩
theorem laws_toIntS_env : EnvOk Try.prog II laws_toIntS_G := envOk_nil GT_ok
noncomputable def laws_toIntS_3_ls : LoopSem := ⟨22, ⟨[(0, (.data (.sl int))), (3, (.own 200001 int true)), (4, (.data int))], []⟩, 0, ⟨[(3, (.own 200001 int true))], []⟩, ⟨[], []⟩, laws_toIntS_3_loop⟩
noncomputable def laws_toIntS_L : List (Nat × LoopSem) := [(3, laws_toIntS_3_ls)]
theorem laws_toIntS_3_lok : LoopOk laws_toIntS_G laws_toIntS_L (lp Try.f8 0) := loopOk_of (r := 3) (ls := laws_toIntS_3_ls) (R := fun x => laws_toIntS_3_R x.1.1 x.1.2.1 x.1.2.2.1) (by kernel_rfl) (by kernel_rfl) rfl (fun x => by kernel_rfl)
theorem laws_toIntS_snd : Sound Try.prog II 8 laws_toIntS_sem := sound_pu' (L := laws_toIntS_L) (k := 1) laws_toIntS_env mixed Try.func8 (by kernel_rfl) (below_succ laws_toIntS_3_lok below_zero) (fun x => by kernel_rfl)

@[reducible] noncomputable def spec_l1In_sem : FnSem := .pu tStep (.p .b .u) [true] (fun x => spec_l1In x.1 x.2.1 x.2.2.1)
noncomputable def spec_l1In_G : Env := ⟨GT, [], [], true, GA, [], []⟩
theorem spec_l1In_env : EnvOk Try.prog II spec_l1In_G := envOk_nil GT_ok
noncomputable def spec_l1In_L : List (Nat × LoopSem) := []
theorem spec_l1In_snd : Sound Try.prog II 39 spec_l1In_sem := sound_pu' (L := spec_l1In_L) (k := 0) spec_l1In_env mixed Try.func39 (by kernel_rfl) below_zero (fun x => by kernel_rfl)

@[reducible] noncomputable def spec_IsMatrix_sem : FnSem := .pu (.p tEvent .u) (.p .b .u) [true] (fun x => spec_IsMatrix x.1)
noncomputable def spec_IsMatrix_G : Env := ⟨GT, [(39, spec_l1In_sem)], [], true, GA, [], []⟩
theorem spec_IsMatrix_env : EnvOk Try.prog II spec_IsMatrix_G := EnvOk.cons spec_l1In_snd (envOk_nil GT_ok)
noncomputable def spec_IsMatrix_L : List (Nat × LoopSem) := []
theorem spec_IsMatrix_snd : Sound Try.prog II 38 spec_IsMatrix_sem := sound_pu' (L := spec_IsMatrix_L) (k := 0) spec_IsMatrix_env mixed Try.func38 (by kernel_rfl) below_zero (fun x => by kernel_rfl)

@[reducible] noncomputable def spec_KeyCount_sem : FnSem := .pu (.p tEvent .u) (.p int .u) [true] (fun x => spec_KeyCount x.1)
noncomputable def spec_KeyCount_G : Env := ⟨GT, [(38, spec_IsMatrix_sem)], [], true, GA, [], []⟩
theorem spec_KeyCount_env : EnvOk Try.prog II spec_KeyCount_G := EnvOk.cons spec_IsMatrix_snd (envOk_nil GT_ok)
noncomputable def spec_KeyCount_L : List (Nat × LoopSem) := []
theorem spec_KeyCount_snd : Sound Try.prog II 40 spec_KeyCount_sem := sound_pu' (L := spec_KeyCount_L) (k := 0) spec_KeyCount_env mixed Try.func40 (by kernel_rfl) below_zero (fun x => by kernel_rfl)

@[reducible] noncomputable def spec_IsMask_sem : FnSem := .pu (.p tEvent (.p int .u)) (.p .b .u) [true] (fun x => spec_IsMask x.1 x.2.1)
noncomputable def spec_IsMask_G : Env := ⟨GT, [(38, spec_IsMatrix_sem), (40, spec_KeyCount_sem), (39, spec_l1In_sem)], [], true, GA, [], []⟩
theorem spec_IsMask_env : EnvOk Try.prog II spec_IsMask_G := EnvOk.cons spec_IsMatrix_snd (EnvOk.cons spec_KeyCount_snd (EnvOk.cons spec_l1In_snd (envOk_nil GT_ok)))
noncomputable def spec_IsMask_L : List (Nat × LoopSem) := []
theorem spec_IsMask_snd : Sound Try.prog II 23 spec_IsMask_sem := sound_pu' (L := spec_IsMask_L) (k := 0) spec_IsMask_env mixed Try.func23 (by kernel_rfl) below_zero (fun x => by kernel_rfl)

@[reducible] noncomputable def spec_l2Row_sem : FnSem := .pu (.p tEvent tCombo) (.p int .u) [true] (fun x => spec_l2Row x.1 x.2.1 x.2.2.1)
noncomputable def spec_l2Row_G : Env := ⟨GT, [], [], true, GA, [], []⟩
theorem spec_l2Row_env : EnvOk Try.prog II spec_l2Row_G := envOk_nil GT_ok
noncomputable def spec_l2Row_L : List (Nat × LoopSem) := []
theorem spec_l2Row_snd : Sound Try.prog II 55 spec_l2Row_sem := sound_pu' (L := spec_l2Row_L) (k := 0) spec_l2Row_env mixed Try.func55 (by kernel_rfl) below_zero (fun x => by kernel_rfl)

@[reducible] noncomputable def spec_l2Read_sem : FnSem := .pu (.p tEvent (.p int .u)) (.p int .u) [true] (fun x => spec_l2Read x.1 x.2.1)
noncomputable def spec_l2Read_G : Env := ⟨GT, [(55, spec_l2Row_sem)], [], true, GA, [], []⟩
theorem spec_l2Read_env : EnvOk Try.prog II spec_l2Read_G := EnvOk.cons spec_l2Row_snd (envOk_nil GT_ok)
noncomputable def spec_l2Read_11_ls : LoopSem := ⟨53, ⟨[(2, (.ptr 2 [])), (5, (.data int)), (6, (.data int)), (7, (.data int)), (8, (.data int))], [(2, tEvent, (.data tEvent))]⟩, 4, ⟨[(2, (.ptr 2 [])), (5, (.data int)), (6, (.data int)), (7, (.data int))], [(2, tEvent, (.data tEvent))]⟩, ⟨[], []⟩, spec_l2Read_11_loop⟩
noncomputable def spec_l2Read_8_ls : LoopSem := ⟨53, ⟨[(2, (.ptr 2 [])), (5, (.data int)), (6, (.data int)), (7, (.data int))], [(2, tEvent, (.data tEvent))]⟩, 2, ⟨[(2, (.ptr 2 [])), (5, (.data int)), (6, (.data int))], [(2, tEvent, (.data tEvent))]⟩, ⟨[], []⟩, spec_l2Read_8_loop⟩
noncomputable def spec_l2Read_5_ls : LoopSem := ⟨53, ⟨[(2, (.ptr 2 [])), (5, (.data int)), (6, (.data int))], [(2, tEvent, (.data tEvent))]⟩, 0, ⟨[(5, (.data int))], []⟩, ⟨[], []⟩, spec_l2Read_5_loop⟩
noncomputable def spec_l2Read_L : List (Nat × LoopSem) := [(11, spec_l2Read_11_ls), (8, spec_l2Read_8_ls), (5, spec_l2Read_5_ls)]
theorem spec_l2Read_11_lok : LoopOk spec_l2Read_G spec_l2Read_L (lp Try.f35 2) := loopOk_of (r := 11) (ls := spec_l2Read_11_ls) (R := fun x => spec_l2Read_11_R x.1.1 x.1.2.1 x.1.2.2.1 x.1.2.2.2.1 x.1.2.2.2.2.1 x.2.1) (by kernel_rfl) (by kernel_rfl) rfl (fun x => by kernel_rfl)
theorem spec_l2Read_8_lok : LoopOk spec_l2Read_G spec_l2Read_L (lp Try.f35 1) := loopOk_of (r := 8) (ls := spec_l2Read_8_ls) (R := fun x => spec_l2Read_8_R x.1.1 x.1.2.1 x.1.2.2.1 x.1.2.2.2.1 x.2.1) (by kernel_rfl) (by kernel_rfl) rfl (fun x => by kernel_rfl)
theorem spec_l2Read_5_lok : LoopOk spec_l2Read_G spec_l2Read_L (lp Try.f35 0) := loopOk_of (r := 5) (ls := spec_l2Read_5_ls) (R := fun x => spec_l2Read_5_R x.1.1 x.1.2.1 x.1.2.2.1 x.2.1) (by kernel_rfl) (by kernel_rfl) rfl (fun x => by kernel_rfl)
theorem spec_l2Read_snd : Sound Try.prog II 35 spec_l2Read_sem := sound_pu' (L := spec_l2Read_L) (k := 3) spec_l2Read_env mixed Try.func35 (by kernel_rfl) (below_succ spec_l2Read_11_lok (below_succ spec_l2Read_8_lok (below_succ spec_l2Read_5_lok below_zero))) (fun x => by kernel_rfl)

@[reducible] noncomputable def spec_ReadMatrix_sem : FnSem := .pu (.p tEvent (.p int .u)) (.p int (.p .b .u)) [true, true] (fun x => spec_ReadMatrix x.1 x.2.1)
noncomputable def spec_ReadMatrix_G : Env := ⟨GT, [(23, spec_IsMask_sem), (35, spec_l2Read_sem)], [], true, GA, [], []⟩
theorem spec_ReadMatrix_env : EnvOk Try.prog II spec_ReadMatrix_G := EnvOk.cons spec_IsMask_snd (EnvOk.cons spec_l2Read_snd (envOk_nil GT_ok))
noncomputable def spec_ReadMatrix_L : List (Nat × LoopSem) := []
theorem spec_ReadMatrix_snd : Sound Try.prog II 21 spec_ReadMatrix_sem := sound_pu' (L := spec_ReadMatrix_L) (k := 0) spec_ReadMatrix_env mixed Try.func21 (by kernel_rfl) below_zero (fun x => by kernel_rfl)

@[reducible] noncomputable def spec_IsReading_sem : FnSem := .pu (.p tEvent (.p int .u)) (.p .b .u) [true] (fun x => spec_IsReading x.1 x.2.1)
noncomputable def spec_IsReading_G : Env := ⟨GT, [(23, spec_IsMask_sem), (35, spec_l2Read_sem)], [], true, GA, [], []⟩
theorem spec_IsReading_env : EnvOk Try.prog II spec_IsReading_G := EnvOk.cons spec_IsMask_snd (EnvOk.cons spec_l2Read_snd (envOk_nil GT_ok))
noncomputable def spec_IsReading_L : List (Nat × LoopSem) := []
theorem spec_IsReading_snd : Sound Try.prog II 36 spec_IsReading_sem := sound_pu' (L := spec_IsReading_L) (k := 0) spec_IsReading_env mixed Try.func36 (by kernel_rfl) below_zero (fun x => by kernel_rfl)

@[reducible] noncomputable def spec_Alternative_sem : FnSem := .pu (.p tEvent tCombo) (.p int (.p .b .u)) [true, true] (fun x => spec_Alternative x.1 x.2.1 x.2.2.1)
noncomputable def spec_Alternative_G : Env := ⟨GT, [(36, spec_IsReading_sem), (40, spec_KeyCount_sem), (39, spec_l1In_sem), (35, spec_l2Read_sem)], [], true, GA, [], []⟩
theorem spec_Alternative_env : EnvOk Try.prog II spec_Alternative_G := EnvOk.cons spec_IsReading_snd (EnvOk.cons spec_KeyCount_snd (EnvOk.cons spec_l1In_snd (EnvOk.cons spec_l2Read_snd (envOk_nil GT_ok))))
noncomputable def spec_Alternative_L : List (Nat × LoopSem) := []
theorem spec_Alternative_snd : Sound Try.prog II 56 spec_Alternative_sem := sound_pu' (L := spec_Alternative_L) (k := 0) spec_Alternative_env mixed Try.func56 (by kernel_rfl) below_zero (fun x => by kernel_rfl)

@[reducible] noncomputable def spec_ClearKeys_sem : FnSem := .pu (.p tEvent (.p int .u)) (.p int .u) [true] (fun x => spec_ClearKeys x.1 x.2.1)
noncomputable def spec_ClearKeys_G : Env := ⟨GT, [(40, spec_KeyCount_sem), (36, spec_IsReading_sem), (56, spec_Alternative_sem)], [], true, GA, [], []⟩
theorem spec_ClearKeys_env : EnvOk Try.prog II spec_ClearKeys_G := EnvOk.cons spec_KeyCount_snd (EnvOk.cons spec_IsReading_snd (EnvOk.cons spec_Alternative_snd (envOk_nil GT_ok)))
noncomputable def spec_ClearKeys_3_ls : LoopSem := ⟨41, ⟨[(1, (.data int)), (2, (.ptr 2 [])), (5, (.data int)), (6, (.data int))], [(2, tEvent, (.data tEvent))]⟩, 0, ⟨[(5, (.data int))], []⟩, ⟨[], []⟩, spec_ClearKeys_3_loop⟩
noncomputable def spec_ClearKeys_L : List (Nat × LoopSem) := [(3, spec_ClearKeys_3_ls)]
theorem spec_ClearKeys_3_lok : LoopOk spec_ClearKeys_G spec_ClearKeys_L (lp Try.f37 0) := loopOk_of (r := 3) (ls := spec_ClearKeys_3_ls) (R := fun x => spec_ClearKeys_3_R x.1.1 x.1.2.1 x.1.2.2.1 x.1.2.2.2.1 x.2.1) (by kernel_rfl) (by kernel_rfl) rfl (fun x => by kernel_rfl)
theorem spec_ClearKeys_snd : Sound Try.prog II 37 spec_ClearKeys_sem := sound_pu' (L := spec_ClearKeys_L) (k := 1) spec_ClearKeys_env mixed Try.func37 (by kernel_rfl) (below_succ spec_ClearKeys_3_lok below_zero) (fun x => by kernel_rfl)

@[reducible] noncomputable def spec_AcceptReading_sem : FnSem := .pu (.p tEvent tCombo) (.p int (.p .b .u)) [true, true] (fun x => spec_AcceptReading x.1 x.2.1 x.2.2.1)
noncomputable def spec_AcceptReading_G : Env := ⟨GT, [(23, spec_IsMask_sem), (36, spec_IsReading_sem), (37, spec_ClearKeys_sem)], [], true, GA, [], []⟩
theorem spec_AcceptReading_env : EnvOk Try.prog II spec_AcceptReading_G := EnvOk.cons spec_IsMask_snd (EnvOk.cons spec_IsReading_snd (EnvOk.cons spec_ClearKeys_snd (envOk_nil GT_ok)))
noncomputable def spec_AcceptReading_L : List (Nat × LoopSem) := []
theorem spec_AcceptReading_snd : Sound Try.prog II 22 spec_AcceptReading_sem := sound_pu' (L := spec_AcceptReading_L) (k := 0) spec_AcceptReading_env mixed Try.func22 (by kernel_rfl) below_zero (fun x => by kernel_rfl)

@[reducible] noncomputable def spec_AcceptedRun_sem : FnSem := .pu (.p tEvent tReport) (.p (.sl int) (.p .b .u)) [true, true] (fun x => spec_AcceptedRun x.1 x.2.1 x.2.2.1)
noncomputable def spec_AcceptedRun_G : Env := ⟨GT, [(21, spec_ReadMatrix_sem), (22, spec_AcceptReading_sem), (23, spec_IsMask_sem)], [], true, GA, [], []⟩
theorem spec_AcceptedRun_env : EnvOk Try.prog II spec_AcceptedRun_G := EnvOk.cons spec_ReadMatrix_snd (EnvOk.cons spec_AcceptReading_snd (EnvOk.cons spec_IsMask_snd (envOk_nil GT_ok)))
noncomputable def spec_AcceptedRun_3_ls : LoopSem := ⟨53, ⟨[(1, (.data int)), (2, (.data (.sl int))), (3, (.ptr 3 [])), (8, (.own 200001 int true)), (9, (.data int))], [(3, tEvent, (.data tEvent))]⟩, 0, ⟨[(1, (.data int)), (3, (.ptr 3 [])), (8, (.own 200001 int true))], [(3, tEvent, (.data tEvent))]⟩, ⟨[(6, (.own 200001 int true)), (7, (.data .b))], []⟩, spec_AcceptedRun_3_loop⟩
noncomputable def spec_AcceptedRun_L : List (Nat × LoopSem) := [(3, spec_AcceptedRun_3_ls)]
theorem spec_AcceptedRun_3_lok : LoopOk spec_AcceptedRun_G spec_AcceptedRun_L (lp Try.f6 0) := loopOk_of (r := 3) (ls := spec_AcceptedRun_3_ls) (R := fun x => spec_AcceptedRun_3_R x.1.1 x.1.2.1 x.1.2.2.1 x.1.2.2.2.1 x.1.2.2.2.2.1 x.2.1) (by kernel_rfl) (by kernel_rfl) rfl (fun x => by kernel_rfl)
theorem spec_AcceptedRun_snd : Sound Try.prog II 6 spec_AcceptedRun_sem := sound_pu' (L := spec_AcceptedRun_L) (k := 1) spec_AcceptedRun_env mixed Try.func6 (by kernel_rfl) (below_succ spec_AcceptedRun_3_lok below_zero) (fun x => by kernel_rfl)

@[reducible] noncomputable def impl_IsMatrix_sem : FnSem := .pu (.p tEvent .u) (.p .b .u) [true] (fun x => impl_IsMatrix x.1)
noncomputable def impl_IsMatrix_G : Env := ⟨GT, [], [], true, GA, [], []⟩
theorem impl_IsMatrix_env : EnvOk Try.prog II impl_IsMatrix_G := envOk_nil GT_ok
noncomputable def impl_IsMatrix_L : List (Nat × LoopSem) := []
theorem impl_IsMatrix_snd : Sound Try.prog II 41 impl_IsMatrix_sem := sound_pu' (L := impl_IsMatrix_L) (k := 0) impl_IsMatrix_env mixed Try.func41 (by kernel_rfl) below_zero (fun x => by kernel_rfl)

@[reducible] noncomputable def impl_KeyCount_sem : FnSem := .pu (.p tEvent .u) (.p int .u) [true] (fun x => impl_KeyCount x.1)
noncomputable def impl_KeyCount_G : Env := ⟨GT, [(41, impl_IsMatrix_sem)], [], true, GA, [], []⟩
theorem impl_KeyCount_env : EnvOk Try.prog II impl_KeyCount_G := EnvOk.cons impl_IsMatrix_snd (envOk_nil GT_ok)
noncomputable def impl_KeyCount_L : List (Nat × LoopSem) := []
theorem impl_KeyCount_snd : Sound Try.prog II 42 impl_KeyCount_sem := sound_pu' (L := impl_KeyCount_L) (k := 0) impl_KeyCount_env mixed Try.func42 (by kernel_rfl) below_zero (fun x => by kernel_rfl)

@[reducible] noncomputable def impl_IsMask_sem : FnSem := .pu (.p tEvent (.p int .u)) (.p .b .u) [true] (fun x => impl_IsMask x.1 x.2.1)
noncomputable def impl_IsMask_G : Env := ⟨GT, [(41, impl_IsMatrix_sem), (42, impl_KeyCount_sem)], [], true, GA, [], []⟩
theorem impl_IsMask_env : EnvOk Try.prog II impl_IsMask_G := EnvOk.cons impl_IsMatrix_snd (EnvOk.cons impl_KeyCount_snd (envOk_nil GT_ok))
noncomputable def impl_IsMask_L : List (Nat × LoopSem) := []
theorem impl_IsMask_snd : Sound Try.prog II 24 impl_IsMask_sem := sound_pu' (L := impl_IsMask_L) (k := 0) impl_IsMask_env mixed Try.func24 (by kernel_rfl) below_zero (fun x => by kernel_rfl)

@[reducible] noncomputable def impl_read_sem : FnSem := .pu (.p tEvent (.p int .u)) (.p int .u) [true] (fun x => impl_read x.1 x.2.1)
noncomputable def impl_read_G : Env := ⟨GT, [], [], true, GA, [], []⟩
theorem impl_read_env : EnvOk Try.prog II impl_read_G := envOk_nil GT_ok
noncomputable def impl_read_5_ls : LoopSem := ⟨83, ⟨[(1, (.data int)), (2, (.ptr 2 [])), (5, (.arr 200001 int)), (15, (.data int)), (16, (.data int))], [(2, tEvent, (.data tEvent))]⟩, 0, ⟨[(2, (.ptr 2 [])), (5, (.arr 200001 int))], [(2, tEvent, (.data tEvent))]⟩, ⟨[], []⟩, impl_read_5_loop⟩
noncomputable def impl_read_15_ls : LoopSem := ⟨83, ⟨[(2, (.ptr 2 [])), (5, (.arr 200301 int)), (7, (.data int)), (34, (.data int)), (35, (.data int)), (38, (.data int)), (39, (.data int)), (43, (.data int)), (44, (.data int))], [(2, tEvent, (.data tEvent))]⟩, 6, ⟨[(2, (.ptr 2 [])), (5, (.arr 200301 int)), (34, (.data int)), (35, (.data int)), (38, (.data int)), (39, (.data int))], [(2, tEvent, (.data tEvent))]⟩, ⟨[], []⟩, impl_read_15_loop⟩
noncomputable def impl_read_12_ls : LoopSem := ⟨83, ⟨[(2, (.ptr 2 [])), (5, (.arr 200201 int)), (34, (.data int)), (35, (.data int)), (38, (.data int)), (39, (.data int))], [(2, tEvent, (.data tEvent))]⟩, 4, ⟨[(2, (.ptr 2 [])), (5, (.arr 200201 int)), (34, (.data int)), (35, (.data int))], [(2, tEvent, (.data tEvent))]⟩, ⟨[], []⟩, impl_read_12_loop⟩
noncomputable def impl_read_10_ls : LoopSem := ⟨83, ⟨[(2, (.ptr 2 [])), (5, (.arr 200101 int)), (34, (.data int)), (35, (.data int))], [(2, tEvent, (.data tEvent))]⟩, 2, ⟨[(2, (.ptr 2 [])), (5, (.arr 200101 int))], [(2, tEvent, (.data tEvent))]⟩, ⟨[], []⟩, impl_read_10_loop⟩
noncomputable def impl_read_24_ls : LoopSem := ⟨83, ⟨[(2, (.ptr 2 [])), (5, (.arr 200401 int)), (9, (.data int)), (67, (.data int)), (68, (.data int))], [(2, tEvent, (.data tEvent))]⟩, 8, ⟨[(9, (.data int))], []⟩, ⟨[], []⟩, impl_read_24_loop⟩
noncomputable def impl_read_L : List (Nat × LoopSem) := [(5, impl_read_5_ls), (15, impl_read_15_ls), (12, impl_read_12_ls), (10, impl_read_10_ls), (24, impl_read_24_ls)]
theorem impl_read_5_lok : LoopOk impl_read_G impl_read_L (lp Try.f43 0) := loopOk_of (r := 5) (ls := impl_read_5_ls) (R := fun x => impl_read_5_R x.1.1 x.1.2.1 x.1.2.2.1 x.1.2.2.2.1 x.1.2.2.2.2.1 x.2.1) (by kernel_rfl) (by kernel_rfl) rfl (fun x => by kernel_rfl)
theorem impl_read_15_lok : LoopOk impl_read_G impl_read_L (lp Try.f43 3) := loopOk_of (r := 15) (ls := impl_read_15_ls) (R := fun x => impl_read_15_R x.1.1 x.1.2.1 x.1.2.2.1 x.1.2.2.2.1 x.1.2.2.2.2.1 x.1.2.2.2.2.2.1 x.1.2.2.2.2.2.2.1 x.1.2.2.2.2.2.2.2.1 x.1.2.2.2.2.2.2.2.2.1 x.2.1) (by kernel_rfl) (by kernel_rfl) rfl (fun x => by kernel_rfl)
theorem impl_read_12_lok : LoopOk impl_read_G impl_read_L (lp Try.f43 2) := loopOk_of (r := 12) (ls := impl_read_12_ls) (R := fun x => impl_read_12_R x.1.1 x.1.2.1 x.1.2.2.1 x.1.2.2.2.1 x.1.2.2.2.2.1 x.1.2.2.2.2.2.1 x.2.1) (by kernel_rfl) (by kernel_rfl) rfl (fun x => by kernel_rfl)
theorem impl_read_10_lok : LoopOk impl_read_G impl_read_L (lp Try.f43 1) := loopOk_of (r := 10) (ls := impl_read_10_ls) (R := fun x => impl_read_10_R x.1.1 x.1.2.1 x.1.2.2.1 x.1.2.2.2.1 x.2.1) (by kernel_rfl) (by kernel_rfl) rfl (fun x => by kernel_rfl)
theorem impl_read_24_lok : LoopOk impl_read_G impl_read_L (lp Try.f43 4) := loopOk_of (r := 24) (ls := impl_read_24_ls) (R := fun x => impl_read_24_R x.1.1 x.1.2.1 x.1.2.2.1 x.1.2.2.2.1 x.1.2.2.2.2.1 x.2.1) (by kernel_rfl) (by kernel_rfl) rfl (fun x => by kernel_rfl)
theorem impl_read_snd : Sound Try.prog II 43 impl_read_sem := sound_pu' (L := impl_read_L) (k := 5) impl_read_env mixed Try.func43 (by kernel_rfl) (below_succ impl_read_24_lok (below_succ impl_read_15_lok (below_succ impl_read_12_lok (below_succ impl_read_10_lok (below_succ impl_read_5_lok below_zero))))) (fun x => by kernel_rfl)

@[reducible] noncomputable def impl_ReadMatrix_sem : FnSem := .pu (.p tEvent (.p int .u)) (.p int (.p .b .u)) [true, true] (fun x => impl_ReadMatrix x.1 x.2.1)
noncomputable def impl_ReadMatrix_G : Env := ⟨GT, [(24, impl_IsMask_sem), (43, impl_read_sem)], [], true, GA, [], []⟩
theorem impl_ReadMatrix_env : EnvOk Try.prog II impl_ReadMatrix_G := EnvOk.cons impl_IsMask_snd (EnvOk.cons impl_read_snd (envOk_nil GT_ok))
noncomputable def impl_ReadMatrix_L : List (Nat × LoopSem) := []
theorem impl_ReadMatrix_snd : Sound Try.prog II 25 impl_ReadMatrix_sem := sound_pu' (L := impl_ReadMatrix_L) (k := 0) impl_ReadMatrix_env mixed Try.func25 (by kernel_rfl) below_zero (fun x => by kernel_rfl)

@[reducible] noncomputable def impl_IsReading_sem : FnSem := .pu (.p tEvent (.p int .u)) (.p .b .u) [true] (fun x => impl_IsReading x.1 x.2.1)
noncomputable def impl_IsReading_G : Env := ⟨GT, [(24, impl_IsMask_sem), (43, impl_read_sem)], [], true, GA, [], []⟩
theorem impl_IsReading_env : EnvOk Try.prog II impl_IsReading_G := EnvOk.cons impl_IsMask_snd (EnvOk.cons impl_read_snd (envOk_nil GT_ok))
noncomputable def impl_IsReading_L : List (Nat × LoopSem) := []
theorem impl_IsReading_snd : Sound Try.prog II 44 impl_IsReading_sem := sound_pu' (L := impl_IsReading_L) (k := 0) impl_IsReading_env mixed Try.func44 (by kernel_rfl) below_zero (fun x => by kernel_rfl)

@[reducible] noncomputable def impl_Alternative_sem : FnSem := .pu (.p tEvent tCombo) (.p int (.p .b .u)) [true, true] (fun x => impl_Alternative x.1 x.2.1 x.2.2.1)
noncomputable def impl_Alternative_G : Env := ⟨GT, [(44, impl_IsReading_sem), (42, impl_KeyCount_sem), (43, impl_read_sem)], [], true, GA, [], []⟩
theorem impl_Alternative_env : EnvOk Try.prog II impl_Alternative_G := EnvOk.cons impl_IsReading_snd (EnvOk.cons impl_KeyCount_snd (EnvOk.cons impl_read_snd (envOk_nil GT_ok)))
noncomputable def impl_Alternative_L : List (Nat × LoopSem) := []
theorem impl_Alternative_snd : Sound Try.prog II 57 impl_Alternative_sem := sound_pu' (L := impl_Alternative_L) (k := 0) impl_Alternative_env mixed Try.func57 (by kernel_rfl) below_zero (fun x => by kernel_rfl)

@[reducible] noncomputable def impl_ClearKeys_sem : FnSem := .pu (.p tEvent (.p int .u)) (.p int .u) [true] (fun x => impl_ClearKeys x.1 x.2.1)
noncomputable def impl_ClearKeys_G : Env := ⟨GT, [(44, impl_IsReading_sem), (42, impl_KeyCount_sem), (57, impl_Alternative_sem)], [], true, GA, [], []⟩
theorem impl_ClearKeys_env : EnvOk Try.prog II impl_ClearKeys_G := EnvOk.cons impl_IsReading_snd (EnvOk.cons impl_KeyCount_snd (EnvOk.cons impl_Alternative_snd (envOk_nil GT_ok)))
noncomputable def impl_ClearKeys_5_ls : LoopSem := ⟨38, ⟨[(1, (.data int)), (2, (.ptr 2 [])), (5, (.data int)), (14, (.data int)), (15, (.data int))], [(2, tEvent, (.data tEvent))]⟩, 0, ⟨[(5, (.data int))], []⟩, ⟨[], []⟩, impl_ClearKeys_5_loop⟩
noncomputable def impl_ClearKeys_L : List (Nat × LoopSem) := [(5, impl_ClearKeys_5_ls)]
theorem impl_ClearKeys_5_lok : LoopOk impl_ClearKeys_G impl_ClearKeys_L (lp Try.f45 0) := loopOk_of (r := 5) (ls := impl_ClearKeys_5_ls) (R := fun x => impl_ClearKeys_5_R x.1.1 x.1.2.1 x.1.2.2.1 x.1.2.2.2.1 x.1.2.2.2.2.1 x.2.1) (by kernel_rfl) (by kernel_rfl) rfl (fun x => by kernel_rfl)
theorem impl_ClearKeys_snd : Sound Try.prog II 45 impl_ClearKeys_sem := sound_pu' (L := impl_ClearKeys_L) (k := 1) impl_ClearKeys_env mixed Try.func45 (by kernel_rfl) (below_succ impl_ClearKeys_5_lok below_zero) (fun x => by kernel_rfl)

@[reducible] noncomputable def impl_AcceptReading_sem : FnSem := .pu (.p tEvent tCombo) (.p int (.p .b .u)) [true, true] (fun x => impl_AcceptReading x.1 x.2.1 x.2.2.1)
noncomputable def impl_AcceptReading_G : Env := ⟨GT, [(24, impl_IsMask_sem), (44, impl_IsReading_sem), (45, impl_ClearKeys_sem)], [], true, GA, [], []⟩
theorem impl_AcceptReading_env : EnvOk Try.prog II impl_AcceptReading_G := EnvOk.cons impl_IsMask_snd (EnvOk.cons impl_IsReading_snd (EnvOk.cons impl_ClearKeys_snd (envOk_nil GT_ok)))
noncomputable def impl_AcceptReading_L : List (Nat × LoopSem) := []
theorem impl_AcceptReading_snd : Sound Try.prog II 26 impl_AcceptReading_sem := sound_pu' (L := impl_AcceptReading_L) (k := 0) impl_AcceptReading_env mixed Try.func26 (by kernel_rfl) below_zero (fun x => by kernel_rfl)

@[reducible] noncomputable def impl_AcceptedRun_sem : FnSem := .pu (.p tEvent tReport) (.p (.sl int) (.p .b .u)) [true, true] (fun x => impl_AcceptedRun x.1 x.2.1 x.2.2.1)
noncomputable def impl_AcceptedRun_G : Env := ⟨GT, [(24, impl_IsMask_sem), (25, impl_ReadMatrix_sem), (26, impl_AcceptReading_sem)], [], true, GA, [], []⟩
theorem impl_AcceptedRun_env : EnvOk Try.prog II impl_AcceptedRun_G := EnvOk.cons impl_IsMask_snd (EnvOk.cons impl_ReadMatrix_snd (EnvOk.cons impl_AcceptReading_snd (envOk_nil GT_ok)))
noncomputable def impl_AcceptedRun_5_ls : LoopSem := ⟨51, ⟨[(1, (.data int)), (3, (.ptr 3 [])), (8, (.own 200001 int true)), (19, (.data (.sl int))), (20, (.data int)), (21, (.data int))], [(3, tEvent, (.data tEvent))]⟩, 0, ⟨[(8, (.own 200001 int true))], []⟩, ⟨[(6, (.own 200001 int true)), (7, (.data .b))], []⟩, impl_AcceptedRun_5_loop⟩
noncomputable def impl_AcceptedRun_L : List (Nat × LoopSem) := [(5, impl_AcceptedRun_5_ls)]
theorem impl_AcceptedRun_5_lok : LoopOk impl_AcceptedRun_G impl_AcceptedRun_L (lp Try.f9 0) := loopOk_of (r := 5) (ls := impl_AcceptedRun_5_ls) (R := fun x => impl_AcceptedRun_5_R x.1.1 x.1.2.1 x.1.2.2.1 x.1.2.2.2.1 x.1.2.2.2.2.1 x.1.2.2.2.2.2.1 x.2.1) (by kernel_rfl) (by kernel_rfl) rfl (fun x => by kernel_rfl)
theorem impl_AcceptedRun_snd : Sound Try.prog II 9 impl_AcceptedRun_sem := sound_pu' (L := impl_AcceptedRun_L) (k := 1) impl_AcceptedRun_env mixed Try.func9 (by kernel_rfl) (below_succ impl_AcceptedRun_5_lok below_zero) (fun x => by kernel_rfl)

@[reducible] noncomputable def laws_eqIntS_sem : FnSem := .pu (.p (.sl int) (.p (.sl int) .u)) (.p .b .u) [true] (fun x => laws_eqIntS x.1 x.2.1)
noncomputable def laws_eqIntS_G : Env := ⟨GT, [], [], true, GA, [], []⟩
theorem laws_eqIntS_env : EnvOk Try.prog II laws_eqIntS_G := envOk_nil GT_ok
noncomputable def laws_eqIntS_4_ls : LoopSem := ⟨26, ⟨[(0, (.data (.sl int))), (1, (.data (.sl int))), (5, (.data int))], []⟩, 0, ⟨[], []⟩, ⟨[(4, (.data .b))], []⟩, laws_eqIntS_4_loop⟩
noncomputable def laws_eqIntS_L : List (Nat × LoopSem) := [(4, laws_eqIntS_4_ls)]
theorem laws_eqIntS_4_lok : LoopOk laws_eqIntS_G laws_eqIntS_L (lp Try.f10 0) := loopOk_of (r := 4) (ls := laws_eqIntS_4_ls) (R := fun x => laws_eqIntS_4_R x.1.1 x.1.2.1 x.1.2.2.1) (by kernel_rfl) (by kernel_rfl) rfl (fun x => by kernel_rfl)
theorem laws_eqIntS_snd : Sound Try.prog II 10 laws_eqIntS_sem := sound_pu' (L := laws_eqIntS_L) (k := 1) laws_eqIntS_env mixed Try.func10 (by kernel_rfl) (below_succ laws_eqIntS_4_lok below_zero) (fun x => by kernel_rfl)

@[reducible] noncomputable def laws_markIntS_sem : FnSem := .io (.sl int) (.p int .u) (.p int .u) [true] (fun x0 x => laws_markIntS x0 x.1)
noncomputable def laws_markIntS_G : Env := ⟨GT, [], [], false, GA, [], []⟩
theorem laws_markIntS_env : EnvOk Try.prog II laws_markIntS_G := envOk_nil GT_ok
noncomputable def laws_markIntS_2_ls : LoopSem := ⟨19, ⟨[(0, (.own 500000 int true)), (1, (.data int)), (5, (.data int))], []⟩, 0, ⟨[(0, (.own 500000 int true)), (1, (.data int))], []⟩, ⟨[], []⟩, laws_markIntS_2_loop⟩
noncomputable def laws_markIntS_L : List (Nat × LoopSem) := [(2, laws_markIntS_2_ls)]
theorem laws_markIntS_2_lok : LoopOk laws_markIntS_G laws_markIntS_L (lp Try.f11 0) := loopOk_of (r := 2) (ls := laws_markIntS_2_ls) (R := fun x => laws_markIntS_2_R x.1.1 x.1.2.1 x.1.2.2.1) (by kernel_rfl) (by kernel_rfl) rfl (fun x => by kernel_rfl)
theorem laws_markIntS_snd : Sound Try.prog II 11 laws_markIntS_sem := sound_io' (L := laws_markIntS_L) (k := 1) laws_markIntS_env rfl mixed Try.func11 (by kernel_rfl) (below_succ laws_markIntS_2_lok below_zero) (fun x0 x => by kernel_rfl)

@[reducible] noncomputable def laws_heldIntS_sem : FnSem := .pu (.p (.sl int) (.p int .u)) (.p int .u) [true] (fun x => laws_heldIntS x.1 x.2.1)
noncomputable def laws_heldIntS_G : Env := ⟨GT, [], [], true, GA, [], []⟩
theorem laws_heldIntS_env : EnvOk Try.prog II laws_heldIntS_G := envOk_nil GT_ok
noncomputable def laws_heldIntS_2_ls : LoopSem := ⟨21, ⟨[(0, (.data (.sl int))), (1, (.data int)), (5, (.data int))], []⟩, 0, ⟨[(1, (.data int))], []⟩, ⟨[(4, (.data int))], []⟩, laws_heldIntS_2_loop⟩
noncomputable def laws_heldIntS_L : List (Nat × LoopSem) := [(2, laws_heldIntS_2_ls)]
theorem laws_heldIntS_2_lok : LoopOk laws_heldIntS_G laws_heldIntS_L (lp Try.f12 0) := loopOk_of (r := 2) (ls := laws_heldIntS_2_ls) (R := fun x => laws_heldIntS_2_R x.1.1 x.1.2.1 x.1.2.2.1) (by kernel_rfl) (by kernel_rfl) rfl (fun x => by kernel_rfl)
theorem laws_heldIntS_snd : Sound Try.prog II 12 laws_heldIntS_sem := sound_pu' (L := laws_heldIntS_L) (k := 1) laws_heldIntS_env mixed Try.func12 (by kernel_rfl) (below_succ laws_heldIntS_2_lok below_zero) (fun x => by kernel_rfl)

@[reducible] noncomputable def laws_FnExactAcceptedRun_sem : FnSem := .pu (.p tEvent tReport) (.p .b .u) [true] (fun x => laws_FnExactAcceptedRun x.1 x.2.1 x.2.2.1)
noncomputable def laws_FnExactAcceptedRun_G : Env := ⟨GT, [(7, laws_toMatrix_sem), (8, laws_toIntS_sem), (6, spec_AcceptedRun_sem), (9, impl_AcceptedRun_sem), (10, laws_eqIntS_sem), (11, laws_markIntS_sem), (12, laws_heldIntS_sem)], [], true, GA, [], []⟩
theorem laws_FnExactAcceptedRun_env : EnvOk Try.prog II laws_FnExactAcceptedRun_G := EnvOk.cons laws_toMatrix_snd (EnvOk.cons laws_toIntS_snd (EnvOk.cons spec_AcceptedRun_snd (EnvOk.cons impl_AcceptedRun_snd (EnvOk.cons laws_eqIntS_snd (EnvOk.cons laws_markIntS_snd (EnvOk.cons laws_heldIntS_snd (envOk_nil GT_ok)))))))
noncomputable def laws_FnExactAcceptedRun_L : List (Nat × LoopSem) := []
theorem laws_FnExactAcceptedRun_snd : Sound Try.prog II 3 laws_FnExactAcceptedRun_sem := sound_pu' (L := laws_FnExactAcceptedRun_L) (k := 0) laws_FnExactAcceptedRun_env mixed Try.func3 (by kernel_rfl) below_zero (fun x => by kernel_rfl)
end KF
