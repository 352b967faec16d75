/- Each Go function computes its plain function (no condition). -/
import Derived.Test.YtnlnkfkpmcpbdaaFns
import Derived.Test.YtnlnkfkpmcpbdaaRows
namespace KF
open Go Go.Proofs
def GT : List (Nat × Ty) := [(3, int), (4, .b), (5, byte), (9, .s), (26, (.sl (.sl byte))), (28, (.sl (.sl tAction))), (30, tKeymap), (42, (.sl byte)), (56, tAction), (57, (.sl tAction))]
theorem GT_ok : (GT.all fun x => tokB Try.prog x.2 x.1) = true := by kernel_rfl
theorem mixed : Try.prog.follows .mixedOrders = true := by kernel_rfl

@[reducible] noncomputable def laws_szByteS_sem : FnSem := .pu (.p (.sl byte) (.p int .u)) (.p int .u) [true] (fun x => laws_szByteS x.1 x.2.1)
noncomputable def laws_szByteS_G : Env := ⟨GT, [], []⟩
theorem laws_szByteS_env : EnvOk Try.prog laws_szByteS_G := envOk_nil GT_ok
noncomputable def laws_szByteS_L : List (Nat × LoopSem) := []
theorem laws_szByteS_snd : Sound Try.prog 48 laws_szByteS_sem := sound_pu' (L := laws_szByteS_L) (k := 0) laws_szByteS_env mixed Try.func48 (by kernel_rfl) below_zero (fun x => by kernel_rfl)

@[reducible] noncomputable def laws_szByteSS_sem : FnSem := .pu (.p (.sl (.sl byte)) (.p int .u)) (.p int .u) [true] (fun x => laws_szByteSS x.1 x.2.1)
noncomputable def laws_szByteSS_G : Env := ⟨GT, [(48, laws_szByteS_sem)], []⟩
theorem laws_szByteSS_env : EnvOk Try.prog laws_szByteSS_G := EnvOk.cons laws_szByteS_snd (envOk_nil GT_ok)
noncomputable def laws_szByteSS_5_ls : LoopSem := ⟨27, ⟨[(0, (.data (.sl (.sl byte)))), (1, (.data int)), (5, (.data int))], []⟩, 0, ⟨[(1, (.data int))], []⟩, ⟨[(4, (.data int))], []⟩, laws_szByteSS_5_loop⟩
noncomputable def laws_szByteSS_L : List (Nat × LoopSem) := [(5, laws_szByteSS_5_ls)]
theorem laws_szByteSS_5_lok : LoopOk laws_szByteSS_G laws_szByteSS_L (lp Try.f20 0) := loopOk_of (r := 5) (ls := laws_szByteSS_5_ls) (R := fun x => laws_szByteSS_5_R x.1.1 x.1.2.1 x.1.2.2.1) (by kernel_rfl) (by kernel_rfl) rfl (fun x => by kernel_rfl)
theorem laws_szByteSS_snd : Sound Try.prog 20 laws_szByteSS_sem := sound_pu' (L := laws_szByteSS_L) (k := 1) laws_szByteSS_env mixed Try.func20 (by kernel_rfl) (below_succ laws_szByteSS_5_lok below_zero) (fun x => by kernel_rfl)

@[reducible] noncomputable def laws_toByteS_sem : FnSem := .pu (.p (.sl byte) .u) (.p (.sl byte) .u) [true] (fun x => laws_toByteS x.1)
noncomputable def laws_toByteS_G : Env := ⟨GT, [], []⟩
theorem laws_toByteS_env : EnvOk Try.prog laws_toByteS_G := envOk_nil GT_ok
noncomputable def laws_toByteS_3_ls : LoopSem := ⟨22, ⟨[(0, (.data (.sl byte))), (3, (.own 200001 byte true)), (4, (.data int))], []⟩, 0, ⟨[(3, (.own 200001 byte true))], []⟩, ⟨[], []⟩, laws_toByteS_3_loop⟩
noncomputable def laws_toByteS_L : List (Nat × LoopSem) := [(3, laws_toByteS_3_ls)]
theorem laws_toByteS_3_lok : LoopOk laws_toByteS_G laws_toByteS_L (lp Try.f25 0) := loopOk_of (r := 3) (ls := laws_toByteS_3_ls) (R := fun x => laws_toByteS_3_R x.1.1 x.1.2.1 x.1.2.2.1) (by kernel_rfl) (by kernel_rfl) rfl (fun x => by kernel_rfl)
theorem laws_toByteS_snd : Sound Try.prog 25 laws_toByteS_sem := sound_pu' (L := laws_toByteS_L) (k := 1) laws_toByteS_env mixed Try.func25 (by kernel_rfl) (below_succ laws_toByteS_3_lok below_zero) (fun x => by kernel_rfl)

@[reducible] noncomputable def laws_toByteSS_sem : FnSem := .pu (.p (.sl (.sl byte)) .u) (.p (.sl (.sl byte)) .u) [true] (fun x => laws_toByteSS x.1)
noncomputable def laws_toByteSS_G : Env := ⟨GT, [(25, laws_toByteS_sem)], []⟩
theorem laws_toByteSS_env : EnvOk Try.prog laws_toByteSS_G := EnvOk.cons laws_toByteS_snd (envOk_nil GT_ok)
noncomputable def laws_toByteSS_3_ls : LoopSem := ⟨23, ⟨[(0, (.data (.sl (.sl byte)))), (3, (.own 200001 (.sl byte) true)), (4, (.data int))], []⟩, 0, ⟨[(3, (.own 200001 (.sl byte) true))], []⟩, ⟨[], []⟩, laws_toByteSS_3_loop⟩
noncomputable def laws_toByteSS_L : List (Nat × LoopSem) := [(3, laws_toByteSS_3_ls)]
theorem laws_toByteSS_3_lok : LoopOk laws_toByteSS_G laws_toByteSS_L (lp Try.f22 0) := loopOk_of (r := 3) (ls := laws_toByteSS_3_ls) (R := fun x => laws_toByteSS_3_R x.1.1 x.1.2.1 x.1.2.2.1) (by kernel_rfl) (by kernel_rfl) rfl (fun x => by kernel_rfl)
theorem laws_toByteSS_snd : Sound Try.prog 22 laws_toByteSS_sem := sound_pu' (L := laws_toByteSS_L) (k := 1) laws_toByteSS_env mixed Try.func22 (by kernel_rfl) (below_succ laws_toByteSS_3_lok below_zero) (fun x => by kernel_rfl)

@[reducible] noncomputable def spec_SealPacket_sem : FnSem := .pu (.p (.sl byte) .u) (.p (.sl byte) .u) [true] (fun x => spec_SealPacket x.1)
noncomputable def spec_SealPacket_G : Env := ⟨GT, [], []⟩
theorem spec_SealPacket_env : EnvOk Try.prog spec_SealPacket_G := envOk_nil GT_ok
noncomputable def spec_SealPacket_6_ls : LoopSem := ⟨40, ⟨[(0, (.data (.sl byte))), (3, (.own 200001 byte true)), (4, (.data int)), (5, (.data int))], []⟩, 0, ⟨[(3, (.own 200001 byte true)), (4, (.data int))], []⟩, ⟨[], []⟩, spec_SealPacket_6_loop⟩
noncomputable def spec_SealPacket_L : List (Nat × LoopSem) := [(6, spec_SealPacket_6_ls)]
theorem spec_SealPacket_6_lok : LoopOk spec_SealPacket_G spec_SealPacket_L (lp Try.f34 0) := loopOk_of (r := 6) (ls := spec_SealPacket_6_ls) (R := fun x => spec_SealPacket_6_R x.1.1 x.1.2.1 x.1.2.2.1 x.1.2.2.2.1) (by kernel_rfl) (by kernel_rfl) rfl (fun x => by kernel_rfl)
theorem spec_SealPacket_snd : Sound Try.prog 34 spec_SealPacket_sem := sound_pu' (L := spec_SealPacket_L) (k := 1) spec_SealPacket_env mixed Try.func34 (by kernel_rfl) (below_succ spec_SealPacket_6_lok below_zero) (fun x => by kernel_rfl)

@[reducible] noncomputable def spec_IsPacket_sem : FnSem := .pu (.p (.sl byte) .u) (.p .b .u) [true] (fun x => spec_IsPacket x.1)
noncomputable def spec_IsPacket_G : Env := ⟨GT, [(34, spec_SealPacket_sem)], []⟩
theorem spec_IsPacket_env : EnvOk Try.prog spec_IsPacket_G := EnvOk.cons spec_SealPacket_snd (envOk_nil GT_ok)
noncomputable def spec_IsPacket_L : List (Nat × LoopSem) := []
theorem spec_IsPacket_snd : Sound Try.prog 49 spec_IsPacket_sem := sound_pu' (L := spec_IsPacket_L) (k := 0) spec_IsPacket_env mixed Try.func49 (by kernel_rfl) below_zero (fun x => by kernel_rfl)

@[reducible] noncomputable def spec_l1In_sem : FnSem := .pu tStep (.p .b .u) [true] (fun x => spec_l1In x.1 x.2.1 x.2.2.1)
noncomputable def spec_l1In_G : Env := ⟨GT, [], []⟩
theorem spec_l1In_env : EnvOk Try.prog spec_l1In_G := envOk_nil GT_ok
noncomputable def spec_l1In_L : List (Nat × LoopSem) := []
theorem spec_l1In_snd : Sound Try.prog 57 spec_l1In_sem := sound_pu' (L := spec_l1In_L) (k := 0) spec_l1In_env mixed Try.func57 (by kernel_rfl) below_zero (fun x => by kernel_rfl)

@[reducible] noncomputable def spec_IsAction_sem : FnSem := .pu (.p tAction .u) (.p .b .u) [true] (fun x => spec_IsAction x.1)
noncomputable def spec_IsAction_G : Env := ⟨GT, [(57, spec_l1In_sem)], []⟩
theorem spec_IsAction_env : EnvOk Try.prog spec_IsAction_G := EnvOk.cons spec_l1In_snd (envOk_nil GT_ok)
noncomputable def spec_IsAction_L : List (Nat × LoopSem) := []
theorem spec_IsAction_snd : Sound Try.prog 56 spec_IsAction_sem := sound_pu' (L := spec_IsAction_L) (k := 0) spec_IsAction_env mixed Try.func56 (by kernel_rfl) below_zero (fun x => by kernel_rfl)

@[reducible] noncomputable def spec_UnpackAction_sem : FnSem := .pu (.p (.sl byte) .u) (.p tAction (.p .b .u)) [true, true] (fun x => spec_UnpackAction x.1)
noncomputable def spec_UnpackAction_G : Env := ⟨GT, [(56, spec_IsAction_sem)], []⟩
theorem spec_UnpackAction_env : EnvOk Try.prog spec_UnpackAction_G := EnvOk.cons spec_IsAction_snd (envOk_nil GT_ok)
noncomputable def spec_UnpackAction_L : List (Nat × LoopSem) := []
theorem spec_UnpackAction_snd : Sound Try.prog 50 spec_UnpackAction_sem := sound_pu' (L := spec_UnpackAction_L) (k := 0) spec_UnpackAction_env mixed Try.func50 (by kernel_rfl) below_zero (fun x => by kernel_rfl)

@[reducible] noncomputable def spec_IsKeymap_sem : FnSem := .pu (.p tKeymap .u) (.p .b .u) [true] (fun x => spec_IsKeymap x.1)
noncomputable def spec_IsKeymap_G : Env := ⟨GT, [(56, spec_IsAction_sem), (57, spec_l1In_sem)], []⟩
theorem spec_IsKeymap_env : EnvOk Try.prog spec_IsKeymap_G := EnvOk.cons spec_IsAction_snd (EnvOk.cons spec_l1In_snd (envOk_nil GT_ok))
noncomputable def spec_IsKeymap_7_ls : LoopSem := ⟨74, ⟨[(1, (.ptr 1 [])), (3, (.data int)), (4, (.data int))], [(1, tKeymap, (.data tKeymap))]⟩, 2, ⟨[(1, (.ptr 1 [])), (3, (.data int))], [(1, tKeymap, (.data tKeymap))]⟩, ⟨[(2, (.data .b))], []⟩, spec_IsKeymap_7_loop⟩
noncomputable def spec_IsKeymap_2_ls : LoopSem := ⟨74, ⟨[(1, (.ptr 1 [])), (3, (.data int))], [(1, tKeymap, (.data tKeymap))]⟩, 0, ⟨[(1, (.ptr 1 []))], [(1, tKeymap, (.data tKeymap))]⟩, ⟨[(2, (.data .b))], []⟩, spec_IsKeymap_2_loop⟩
noncomputable def spec_IsKeymap_L : List (Nat × LoopSem) := [(7, spec_IsKeymap_7_ls), (2, spec_IsKeymap_2_ls)]
theorem spec_IsKeymap_7_lok : LoopOk spec_IsKeymap_G spec_IsKeymap_L (lp Try.f33 1) := loopOk_of (r := 7) (ls := spec_IsKeymap_7_ls) (R := fun x => spec_IsKeymap_7_R x.1.1 x.1.2.1 x.1.2.2.1 x.2.1) (by kernel_rfl) (by kernel_rfl) rfl (fun x => by kernel_rfl)
theorem spec_IsKeymap_2_lok : LoopOk spec_IsKeymap_G spec_IsKeymap_L (lp Try.f33 0) := loopOk_of (r := 2) (ls := spec_IsKeymap_2_ls) (R := fun x => spec_IsKeymap_2_R x.1.1 x.1.2.1 x.2.1) (by kernel_rfl) (by kernel_rfl) rfl (fun x => by kernel_rfl)
theorem spec_IsKeymap_snd : Sound Try.prog 33 spec_IsKeymap_sem := sound_pu' (L := spec_IsKeymap_L) (k := 2) spec_IsKeymap_env mixed Try.func33 (by kernel_rfl) (below_succ spec_IsKeymap_7_lok (below_succ spec_IsKeymap_2_lok below_zero)) (fun x => by kernel_rfl)

@[reducible] noncomputable def spec_KeymapFrom_sem : FnSem := .pu (.p int (.p (.sl (.sl byte)) .u)) (.p tKeymap (.p .b .u)) [true, true] (fun x => spec_KeymapFrom x.1 x.2.1)
noncomputable def spec_KeymapFrom_G : Env := ⟨GT, [(49, spec_IsPacket_sem), (50, spec_UnpackAction_sem), (33, spec_IsKeymap_sem)], []⟩
theorem spec_KeymapFrom_env : EnvOk Try.prog spec_KeymapFrom_G := EnvOk.cons spec_IsPacket_snd (EnvOk.cons spec_UnpackAction_snd (EnvOk.cons spec_IsKeymap_snd (envOk_nil GT_ok)))
noncomputable def spec_KeymapFrom_4_ls : LoopSem := ⟨88, ⟨[(0, (.data int)), (1, (.data (.sl (.sl byte)))), (4, (.ptr 4 [])), (6, (.ptr 6 [])), (7, (.own 200001 tAction true)), (8, (.data int))], [(4, tKeymap, (.pr (.data int) (.pr (.own 200002 (.sl tAction) true) .un))), (6, tKeymap, (.pr (.data int) (.pr (.own 200003 (.sl tAction) true) .un)))]⟩, 0, ⟨[(4, (.ptr 4 [])), (6, (.ptr 6 [])), (7, (.own 200001 tAction true))], [(4, tKeymap, (.pr (.data int) (.pr (.own 200002 (.sl tAction) true) .un))), (6, tKeymap, (.pr (.data int) (.pr (.own 200003 (.sl tAction) true) .un)))]⟩, ⟨[(4, (.ptr 4 [])), (5, (.data .b))], [(4, tKeymap, (.pr (.data int) (.pr (.own 200001 (.sl tAction) true) .un)))]⟩, spec_KeymapFrom_4_loop⟩
noncomputable def spec_KeymapFrom_L : List (Nat × LoopSem) := [(4, spec_KeymapFrom_4_ls)]
theorem spec_KeymapFrom_4_lok : LoopOk spec_KeymapFrom_G spec_KeymapFrom_L (lp Try.f21 0) := loopOk_of (r := 4) (ls := spec_KeymapFrom_4_ls) (R := fun x => spec_KeymapFrom_4_R x.1.1 x.1.2.1 x.1.2.2.1 x.1.2.2.2.1 x.1.2.2.2.2.1 x.1.2.2.2.2.2.1 x.2.1 x.2.2.1) (by kernel_rfl) (by kernel_rfl) rfl (fun x => by kernel_rfl)
theorem spec_KeymapFrom_snd : Sound Try.prog 21 spec_KeymapFrom_sem := sound_pu' (L := spec_KeymapFrom_L) (k := 1) spec_KeymapFrom_env mixed Try.func21 (by kernel_rfl) (below_succ spec_KeymapFrom_4_lok below_zero) (fun x => by kernel_rfl)

@[reducible] noncomputable def impl_SealPacket_sem : FnSem := .pu (.p (.sl byte) .u) (.p (.sl byte) .u) [true] (fun x => impl_SealPacket x.1)
noncomputable def impl_SealPacket_G : Env := ⟨GT, [], []⟩
theorem impl_SealPacket_env : EnvOk Try.prog impl_SealPacket_G := envOk_nil GT_ok
noncomputable def impl_SealPacket_7_ls : LoopSem := ⟨35, ⟨[(3, (.own 200001 byte true)), (4, (.data int)), (14, (.data (.sl byte))), (15, (.data int)), (16, (.data int))], []⟩, 0, ⟨[(3, (.own 200001 byte true)), (4, (.data int))], []⟩, ⟨[], []⟩, impl_SealPacket_7_loop⟩
noncomputable def impl_SealPacket_L : List (Nat × LoopSem) := [(7, impl_SealPacket_7_ls)]
theorem impl_SealPacket_7_lok : LoopOk impl_SealPacket_G impl_SealPacket_L (lp Try.f38 0) := loopOk_of (r := 7) (ls := impl_SealPacket_7_ls) (R := fun x => impl_SealPacket_7_R x.1.1 x.1.2.1 x.1.2.2.1 x.1.2.2.2.1 x.1.2.2.2.2.1) (by kernel_rfl) (by kernel_rfl) rfl (fun x => by kernel_rfl)
theorem impl_SealPacket_snd : Sound Try.prog 38 impl_SealPacket_sem := sound_pu' (L := impl_SealPacket_L) (k := 1) impl_SealPacket_env mixed Try.func38 (by kernel_rfl) (below_succ impl_SealPacket_7_lok below_zero) (fun x => by kernel_rfl)

@[reducible] noncomputable def impl_IsPacket_sem : FnSem := .pu (.p (.sl byte) .u) (.p .b .u) [true] (fun x => impl_IsPacket x.1)
noncomputable def impl_IsPacket_G : Env := ⟨GT, [(38, impl_SealPacket_sem)], []⟩
theorem impl_IsPacket_env : EnvOk Try.prog impl_IsPacket_G := EnvOk.cons impl_SealPacket_snd (envOk_nil GT_ok)
noncomputable def impl_IsPacket_L : List (Nat × LoopSem) := []
theorem impl_IsPacket_snd : Sound Try.prog 51 impl_IsPacket_sem := sound_pu' (L := impl_IsPacket_L) (k := 0) impl_IsPacket_env mixed Try.func51 (by kernel_rfl) below_zero (fun x => by kernel_rfl)

@[reducible] noncomputable def impl_isCode_sem : FnSem := .pu (.p int .u) (.p .b .u) [true] (fun x => impl_isCode x.1)
noncomputable def impl_isCode_G : Env := ⟨GT, [], []⟩
theorem impl_isCode_env : EnvOk Try.prog impl_isCode_G := envOk_nil GT_ok
noncomputable def impl_isCode_L : List (Nat × LoopSem) := []
theorem impl_isCode_snd : Sound Try.prog 65 impl_isCode_sem := sound_pu' (L := impl_isCode_L) (k := 0) impl_isCode_env mixed Try.func65 (by kernel_rfl) below_zero (fun x => by kernel_rfl)

@[reducible] noncomputable def impl_isMods_sem : FnSem := .pu (.p int .u) (.p .b .u) [true] (fun x => impl_isMods x.1)
noncomputable def impl_isMods_G : Env := ⟨GT, [], []⟩
theorem impl_isMods_env : EnvOk Try.prog impl_isMods_G := envOk_nil GT_ok
noncomputable def impl_isMods_L : List (Nat × LoopSem) := []
theorem impl_isMods_snd : Sound Try.prog 66 impl_isMods_sem := sound_pu' (L := impl_isMods_L) (k := 0) impl_isMods_env mixed Try.func66 (by kernel_rfl) below_zero (fun x => by kernel_rfl)

@[reducible] noncomputable def impl_isUpper_sem : FnSem := .pu (.p int .u) (.p .b .u) [true] (fun x => impl_isUpper x.1)
noncomputable def impl_isUpper_G : Env := ⟨GT, [], []⟩
theorem impl_isUpper_env : EnvOk Try.prog impl_isUpper_G := envOk_nil GT_ok
noncomputable def impl_isUpper_L : List (Nat × LoopSem) := []
theorem impl_isUpper_snd : Sound Try.prog 67 impl_isUpper_sem := sound_pu' (L := impl_isUpper_L) (k := 0) impl_isUpper_env mixed Try.func67 (by kernel_rfl) below_zero (fun x => by kernel_rfl)

@[reducible] noncomputable def impl_IsAction_sem : FnSem := .pu (.p tAction .u) (.p .b .u) [true] (fun x => impl_IsAction x.1)
noncomputable def impl_IsAction_G : Env := ⟨GT, [(65, impl_isCode_sem), (66, impl_isMods_sem), (67, impl_isUpper_sem)], []⟩
theorem impl_IsAction_env : EnvOk Try.prog impl_IsAction_G := EnvOk.cons impl_isCode_snd (EnvOk.cons impl_isMods_snd (EnvOk.cons impl_isUpper_snd (envOk_nil GT_ok)))
noncomputable def impl_IsAction_L : List (Nat × LoopSem) := []
theorem impl_IsAction_snd : Sound Try.prog 59 impl_IsAction_sem := sound_pu' (L := impl_IsAction_L) (k := 0) impl_IsAction_env mixed Try.func59 (by kernel_rfl) below_zero (fun x => by kernel_rfl)

@[reducible] noncomputable def impl_UnpackAction_sem : FnSem := .pu (.p (.sl byte) .u) (.p tAction (.p .b .u)) [true, true] (fun x => impl_UnpackAction x.1)
noncomputable def impl_UnpackAction_G : Env := ⟨GT, [(59, impl_IsAction_sem)], []⟩
theorem impl_UnpackAction_env : EnvOk Try.prog impl_UnpackAction_G := EnvOk.cons impl_IsAction_snd (envOk_nil GT_ok)
noncomputable def impl_UnpackAction_L : List (Nat × LoopSem) := []
theorem impl_UnpackAction_snd : Sound Try.prog 52 impl_UnpackAction_sem := sound_pu' (L := impl_UnpackAction_L) (k := 0) impl_UnpackAction_env mixed Try.func52 (by kernel_rfl) below_zero (fun x => by kernel_rfl)

@[reducible] noncomputable def impl_IsKeymap_sem : FnSem := .pu (.p tKeymap .u) (.p .b .u) [true] (fun x => impl_IsKeymap x.1)
noncomputable def impl_IsKeymap_G : Env := ⟨GT, [(59, impl_IsAction_sem)], []⟩
theorem impl_IsKeymap_env : EnvOk Try.prog impl_IsKeymap_G := EnvOk.cons impl_IsAction_snd (envOk_nil GT_ok)
noncomputable def impl_IsKeymap_9_ls : LoopSem := ⟨73, ⟨[(1, (.ptr 1 [])), (3, (.data int)), (28, (.data (.sl (.sl tAction)))), (29, (.data int)), (30, (.data int)), (40, (.data (.sl tAction))), (41, (.data int)), (42, (.data int))], [(1, tKeymap, (.data tKeymap))]⟩, 2, ⟨[(1, (.ptr 1 [])), (28, (.data (.sl (.sl tAction)))), (29, (.data int)), (30, (.data int))], [(1, tKeymap, (.data tKeymap))]⟩, ⟨[(2, (.data .b))], []⟩, impl_IsKeymap_9_loop⟩
noncomputable def impl_IsKeymap_4_ls : LoopSem := ⟨73, ⟨[(1, (.ptr 1 [])), (28, (.data (.sl (.sl tAction)))), (29, (.data int)), (30, (.data int))], [(1, tKeymap, (.data tKeymap))]⟩, 0, ⟨[], []⟩, ⟨[(2, (.data .b))], []⟩, impl_IsKeymap_4_loop⟩
noncomputable def impl_IsKeymap_L : List (Nat × LoopSem) := [(9, impl_IsKeymap_9_ls), (4, impl_IsKeymap_4_ls)]
theorem impl_IsKeymap_9_lok : LoopOk impl_IsKeymap_G impl_IsKeymap_L (lp Try.f37 1) := loopOk_of (r := 9) (ls := impl_IsKeymap_9_ls) (R := fun x => impl_IsKeymap_9_R x.1.1 x.1.2.1 x.1.2.2.1 x.1.2.2.2.1 x.1.2.2.2.2.1 x.1.2.2.2.2.2.1 x.1.2.2.2.2.2.2.1 x.1.2.2.2.2.2.2.2.1 x.2.1) (by kernel_rfl) (by kernel_rfl) rfl (fun x => by kernel_rfl)
theorem impl_IsKeymap_4_lok : LoopOk impl_IsKeymap_G impl_IsKeymap_L (lp Try.f37 0) := loopOk_of (r := 4) (ls := impl_IsKeymap_4_ls) (R := fun x => impl_IsKeymap_4_R x.1.1 x.1.2.1 x.1.2.2.1 x.1.2.2.2.1 x.2.1) (by kernel_rfl) (by kernel_rfl) rfl (fun x => by kernel_rfl)
theorem impl_IsKeymap_snd : Sound Try.prog 37 impl_IsKeymap_sem := sound_pu' (L := impl_IsKeymap_L) (k := 2) impl_IsKeymap_env mixed Try.func37 (by kernel_rfl) (below_succ impl_IsKeymap_9_lok (below_succ impl_IsKeymap_4_lok below_zero)) (fun x => by kernel_rfl)

@[reducible] noncomputable def impl_KeymapFrom_sem : FnSem := .pu (.p int (.p (.sl (.sl byte)) .u)) (.p tKeymap (.p .b .u)) [true, true] (fun x => impl_KeymapFrom x.1 x.2.1)
noncomputable def impl_KeymapFrom_G : Env := ⟨GT, [(51, impl_IsPacket_sem), (52, impl_UnpackAction_sem), (37, impl_IsKeymap_sem)], []⟩
theorem impl_KeymapFrom_env : EnvOk Try.prog impl_KeymapFrom_G := EnvOk.cons impl_IsPacket_snd (EnvOk.cons impl_UnpackAction_snd (EnvOk.cons impl_IsKeymap_snd (envOk_nil GT_ok)))
noncomputable def impl_KeymapFrom_5_ls : LoopSem := ⟨109, ⟨[(0, (.data int)), (4, (.ptr 4 [])), (6, (.ptr 6 [])), (36, (.data (.sl (.sl byte)))), (37, (.data int)), (38, (.data int))], [(4, tKeymap, (.pr (.data int) (.pr (.own 200001 (.sl tAction) true) .un))), (6, tKeymap, (.pr (.data int) (.pr (.own 200002 (.sl tAction) true) .un)))]⟩, 0, ⟨[(4, (.ptr 4 [])), (6, (.ptr 6 []))], [(4, tKeymap, (.pr (.data int) (.pr (.own 200001 (.sl tAction) true) .un))), (6, tKeymap, (.pr (.data int) (.pr (.own 200002 (.sl tAction) true) .un)))]⟩, ⟨[(4, (.ptr 4 [])), (5, (.data .b))], [(4, tKeymap, (.pr (.data int) (.pr (.own 200001 (.sl tAction) true) .un)))]⟩, impl_KeymapFrom_5_loop⟩
noncomputable def impl_KeymapFrom_L : List (Nat × LoopSem) := [(5, impl_KeymapFrom_5_ls)]
theorem impl_KeymapFrom_5_lok : LoopOk impl_KeymapFrom_G impl_KeymapFrom_L (lp Try.f23 0) := loopOk_of (r := 5) (ls := impl_KeymapFrom_5_ls) (R := fun x => impl_KeymapFrom_5_R x.1.1 x.1.2.1 x.1.2.2.1 x.1.2.2.2.1 x.1.2.2.2.2.1 x.1.2.2.2.2.2.1 x.2.1 x.2.2.1) (by kernel_rfl) (by kernel_rfl) rfl (fun x => by kernel_rfl)
theorem impl_KeymapFrom_snd : Sound Try.prog 23 impl_KeymapFrom_sem := sound_pu' (L := impl_KeymapFrom_L) (k := 1) impl_KeymapFrom_env mixed Try.func23 (by kernel_rfl) (below_succ impl_KeymapFrom_5_lok below_zero) (fun x => by kernel_rfl)

@[reducible] noncomputable def laws_eqAction_sem : FnSem := .pu (.p tAction (.p tAction .u)) (.p .b .u) [true] (fun x => laws_eqAction x.1 x.2.1)
noncomputable def laws_eqAction_G : Env := ⟨GT, [], []⟩
theorem laws_eqAction_env : EnvOk Try.prog laws_eqAction_G := envOk_nil GT_ok
noncomputable def laws_eqAction_L : List (Nat × LoopSem) := []
theorem laws_eqAction_snd : Sound Try.prog 68 laws_eqAction_sem := sound_pu' (L := laws_eqAction_L) (k := 0) laws_eqAction_env mixed Try.func68 (by kernel_rfl) below_zero (fun x => by kernel_rfl)

@[reducible] noncomputable def laws_eqActionS_sem : FnSem := .pu (.p (.sl tAction) (.p (.sl tAction) .u)) (.p .b .u) [true] (fun x => laws_eqActionS x.1 x.2.1)
noncomputable def laws_eqActionS_G : Env := ⟨GT, [(68, laws_eqAction_sem)], []⟩
theorem laws_eqActionS_env : EnvOk Try.prog laws_eqActionS_G := EnvOk.cons laws_eqAction_snd (envOk_nil GT_ok)
noncomputable def laws_eqActionS_4_ls : LoopSem := ⟨27, ⟨[(0, (.data (.sl tAction))), (1, (.data (.sl tAction))), (5, (.data int))], []⟩, 0, ⟨[], []⟩, ⟨[(4, (.data .b))], []⟩, laws_eqActionS_4_loop⟩
noncomputable def laws_eqActionS_L : List (Nat × LoopSem) := [(4, laws_eqActionS_4_ls)]
theorem laws_eqActionS_4_lok : LoopOk laws_eqActionS_G laws_eqActionS_L (lp Try.f60 0) := loopOk_of (r := 4) (ls := laws_eqActionS_4_ls) (R := fun x => laws_eqActionS_4_R x.1.1 x.1.2.1 x.1.2.2.1) (by kernel_rfl) (by kernel_rfl) rfl (fun x => by kernel_rfl)
theorem laws_eqActionS_snd : Sound Try.prog 60 laws_eqActionS_sem := sound_pu' (L := laws_eqActionS_L) (k := 1) laws_eqActionS_env mixed Try.func60 (by kernel_rfl) (below_succ laws_eqActionS_4_lok below_zero) (fun x => by kernel_rfl)

@[reducible] noncomputable def laws_eqActionSS_sem : FnSem := .pu (.p (.sl (.sl tAction)) (.p (.sl (.sl tAction)) .u)) (.p .b .u) [true] (fun x => laws_eqActionSS x.1 x.2.1)
noncomputable def laws_eqActionSS_G : Env := ⟨GT, [(60, laws_eqActionS_sem)], []⟩
theorem laws_eqActionSS_env : EnvOk Try.prog laws_eqActionSS_G := EnvOk.cons laws_eqActionS_snd (envOk_nil GT_ok)
noncomputable def laws_eqActionSS_4_ls : LoopSem := ⟨27, ⟨[(0, (.data (.sl (.sl tAction)))), (1, (.data (.sl (.sl tAction)))), (5, (.data int))], []⟩, 0, ⟨[], []⟩, ⟨[(4, (.data .b))], []⟩, laws_eqActionSS_4_loop⟩
noncomputable def laws_eqActionSS_L : List (Nat × LoopSem) := [(4, laws_eqActionSS_4_ls)]
theorem laws_eqActionSS_4_lok : LoopOk laws_eqActionSS_G laws_eqActionSS_L (lp Try.f40 0) := loopOk_of (r := 4) (ls := laws_eqActionSS_4_ls) (R := fun x => laws_eqActionSS_4_R x.1.1 x.1.2.1 x.1.2.2.1) (by kernel_rfl) (by kernel_rfl) rfl (fun x => by kernel_rfl)
theorem laws_eqActionSS_snd : Sound Try.prog 40 laws_eqActionSS_sem := sound_pu' (L := laws_eqActionSS_L) (k := 1) laws_eqActionSS_env mixed Try.func40 (by kernel_rfl) (below_succ laws_eqActionSS_4_lok below_zero) (fun x => by kernel_rfl)

@[reducible] noncomputable def laws_eqKeymap_sem : FnSem := .pu (.p tKeymap (.p tKeymap .u)) (.p .b .u) [true] (fun x => laws_eqKeymap x.1 x.2.1)
noncomputable def laws_eqKeymap_G : Env := ⟨GT, [(40, laws_eqActionSS_sem)], []⟩
theorem laws_eqKeymap_env : EnvOk Try.prog laws_eqKeymap_G := EnvOk.cons laws_eqActionSS_snd (envOk_nil GT_ok)
noncomputable def laws_eqKeymap_L : List (Nat × LoopSem) := []
theorem laws_eqKeymap_snd : Sound Try.prog 13 laws_eqKeymap_sem := sound_pu' (L := laws_eqKeymap_L) (k := 0) laws_eqKeymap_env mixed Try.func13 (by kernel_rfl) below_zero (fun x => by kernel_rfl)

@[reducible] noncomputable def laws_eqByteS_sem : FnSem := .pu (.p (.sl byte) (.p (.sl byte) .u)) (.p .b .u) [true] (fun x => laws_eqByteS x.1 x.2.1)
noncomputable def laws_eqByteS_G : Env := ⟨GT, [], []⟩
theorem laws_eqByteS_env : EnvOk Try.prog laws_eqByteS_G := envOk_nil GT_ok
noncomputable def laws_eqByteS_4_ls : LoopSem := ⟨26, ⟨[(0, (.data (.sl byte))), (1, (.data (.sl byte))), (5, (.data int))], []⟩, 0, ⟨[], []⟩, ⟨[(4, (.data .b))], []⟩, laws_eqByteS_4_loop⟩
noncomputable def laws_eqByteS_L : List (Nat × LoopSem) := [(4, laws_eqByteS_4_ls)]
theorem laws_eqByteS_4_lok : LoopOk laws_eqByteS_G laws_eqByteS_L (lp Try.f27 0) := loopOk_of (r := 4) (ls := laws_eqByteS_4_ls) (R := fun x => laws_eqByteS_4_R x.1.1 x.1.2.1 x.1.2.2.1) (by kernel_rfl) (by kernel_rfl) rfl (fun x => by kernel_rfl)
theorem laws_eqByteS_snd : Sound Try.prog 27 laws_eqByteS_sem := sound_pu' (L := laws_eqByteS_L) (k := 1) laws_eqByteS_env mixed Try.func27 (by kernel_rfl) (below_succ laws_eqByteS_4_lok below_zero) (fun x => by kernel_rfl)

@[reducible] noncomputable def laws_eqByteSS_sem : FnSem := .pu (.p (.sl (.sl byte)) (.p (.sl (.sl byte)) .u)) (.p .b .u) [true] (fun x => laws_eqByteSS x.1 x.2.1)
noncomputable def laws_eqByteSS_G : Env := ⟨GT, [(27, laws_eqByteS_sem)], []⟩
theorem laws_eqByteSS_env : EnvOk Try.prog laws_eqByteSS_G := EnvOk.cons laws_eqByteS_snd (envOk_nil GT_ok)
noncomputable def laws_eqByteSS_4_ls : LoopSem := ⟨27, ⟨[(0, (.data (.sl (.sl byte)))), (1, (.data (.sl (.sl byte)))), (5, (.data int))], []⟩, 0, ⟨[], []⟩, ⟨[(4, (.data .b))], []⟩, laws_eqByteSS_4_loop⟩
noncomputable def laws_eqByteSS_L : List (Nat × LoopSem) := [(4, laws_eqByteSS_4_ls)]
theorem laws_eqByteSS_4_lok : LoopOk laws_eqByteSS_G laws_eqByteSS_L (lp Try.f12 0) := loopOk_of (r := 4) (ls := laws_eqByteSS_4_ls) (R := fun x => laws_eqByteSS_4_R x.1.1 x.1.2.1 x.1.2.2.1) (by kernel_rfl) (by kernel_rfl) rfl (fun x => by kernel_rfl)
theorem laws_eqByteSS_snd : Sound Try.prog 12 laws_eqByteSS_sem := sound_pu' (L := laws_eqByteSS_L) (k := 1) laws_eqByteSS_env mixed Try.func12 (by kernel_rfl) (below_succ laws_eqByteSS_4_lok below_zero) (fun x => by kernel_rfl)

@[reducible] noncomputable def laws_markByteS_sem : FnSem := .io (.sl byte) (.p int .u) (.p int .u) [true] (fun x0 x => laws_markByteS x0 x.1)
noncomputable def laws_markByteS_G : Env := ⟨GT, [], []⟩
theorem laws_markByteS_env : EnvOk Try.prog laws_markByteS_G := envOk_nil GT_ok
noncomputable def laws_markByteS_2_ls : LoopSem := ⟨20, ⟨[(0, (.own 500000 byte true)), (1, (.data int)), (5, (.data int))], []⟩, 0, ⟨[(0, (.own 500000 byte true)), (1, (.data int))], []⟩, ⟨[], []⟩, laws_markByteS_2_loop⟩
noncomputable def laws_markByteS_L : List (Nat × LoopSem) := [(2, laws_markByteS_2_ls)]
theorem laws_markByteS_2_lok : LoopOk laws_markByteS_G laws_markByteS_L (lp Try.f28 0) := loopOk_of (r := 2) (ls := laws_markByteS_2_ls) (R := fun x => laws_markByteS_2_R x.1.1 x.1.2.1 x.1.2.2.1) (by kernel_rfl) (by kernel_rfl) rfl (fun x => by kernel_rfl)
theorem laws_markByteS_snd : Sound Try.prog 28 laws_markByteS_sem := sound_io' (L := laws_markByteS_L) (k := 1) laws_markByteS_env mixed Try.func28 (by kernel_rfl) (below_succ laws_markByteS_2_lok below_zero) (fun x0 x => by kernel_rfl)

@[reducible] noncomputable def laws_markByteSS_sem : FnSem := .io (.sl (.sl byte)) (.p int .u) (.p int .u) [true] (fun x0 x => laws_markByteSS x0 x.1)
noncomputable def laws_markByteSS_G : Env := ⟨GT, [(28, laws_markByteS_sem)], [(3999, 500000)]⟩
theorem laws_markByteSS_env : EnvOk Try.prog laws_markByteSS_G := EnvOk.cons laws_markByteS_snd (envOk_nil GT_ok)
noncomputable def laws_markByteSS_2_ls : LoopSem := ⟨19, ⟨[(0, (.own 500000 (.sl byte) true)), (1, (.data int)), (5, (.data int))], []⟩, 0, ⟨[(0, (.own 500000 (.sl byte) true)), (1, (.data int))], []⟩, ⟨[], []⟩, laws_markByteSS_2_loop⟩
noncomputable def laws_markByteSS_L : List (Nat × LoopSem) := [(2, laws_markByteSS_2_ls)]
theorem laws_markByteSS_2_lok : LoopOk laws_markByteSS_G laws_markByteSS_L (lp Try.f15 0) := loopOk_of (r := 2) (ls := laws_markByteSS_2_ls) (R := fun x => laws_markByteSS_2_R x.1.1 x.1.2.1 x.1.2.2.1) (by kernel_rfl) (by kernel_rfl) rfl (fun x => by kernel_rfl)
theorem laws_markByteSS_snd : Sound Try.prog 15 laws_markByteSS_sem := sound_io' (L := laws_markByteSS_L) (k := 1) laws_markByteSS_env mixed Try.func15 (by kernel_rfl) (below_succ laws_markByteSS_2_lok below_zero) (fun x0 x => by kernel_rfl)

@[reducible] noncomputable def laws_markActionS_sem : FnSem := .io (.sl tAction) (.p int .u) (.p int .u) [true] (fun x0 x => laws_markActionS x0 x.1)
noncomputable def laws_markActionS_G : Env := ⟨GT, [], []⟩
theorem laws_markActionS_env : EnvOk Try.prog laws_markActionS_G := envOk_nil GT_ok
noncomputable def laws_markActionS_2_ls : LoopSem := ⟨41, ⟨[(0, (.own 500000 tAction true)), (1, (.data int)), (5, (.data int))], []⟩, 0, ⟨[(0, (.own 500000 tAction true)), (1, (.data int))], []⟩, ⟨[], []⟩, laws_markActionS_2_loop⟩
noncomputable def laws_markActionS_L : List (Nat × LoopSem) := [(2, laws_markActionS_2_ls)]
theorem laws_markActionS_2_lok : LoopOk laws_markActionS_G laws_markActionS_L (lp Try.f61 0) := loopOk_of (r := 2) (ls := laws_markActionS_2_ls) (R := fun x => laws_markActionS_2_R x.1.1 x.1.2.1 x.1.2.2.1) (by kernel_rfl) (by kernel_rfl) rfl (fun x => by kernel_rfl)
theorem laws_markActionS_snd : Sound Try.prog 61 laws_markActionS_sem := sound_io' (L := laws_markActionS_L) (k := 1) laws_markActionS_env mixed Try.func61 (by kernel_rfl) (below_succ laws_markActionS_2_lok below_zero) (fun x0 x => by kernel_rfl)

@[reducible] noncomputable def laws_markActionSS_sem : FnSem := .io (.sl (.sl tAction)) (.p int .u) (.p int .u) [true] (fun x0 x => laws_markActionSS x0 x.1)
noncomputable def laws_markActionSS_G : Env := ⟨GT, [(61, laws_markActionS_sem)], [(3999, 500000)]⟩
theorem laws_markActionSS_env : EnvOk Try.prog laws_markActionSS_G := EnvOk.cons laws_markActionS_snd (envOk_nil GT_ok)
noncomputable def laws_markActionSS_2_ls : LoopSem := ⟨19, ⟨[(0, (.own 500000 (.sl tAction) true)), (1, (.data int)), (5, (.data int))], []⟩, 0, ⟨[(0, (.own 500000 (.sl tAction) true)), (1, (.data int))], []⟩, ⟨[], []⟩, laws_markActionSS_2_loop⟩
noncomputable def laws_markActionSS_L : List (Nat × LoopSem) := [(2, laws_markActionSS_2_ls)]
theorem laws_markActionSS_2_lok : LoopOk laws_markActionSS_G laws_markActionSS_L (lp Try.f41 0) := loopOk_of (r := 2) (ls := laws_markActionSS_2_ls) (R := fun x => laws_markActionSS_2_R x.1.1 x.1.2.1 x.1.2.2.1) (by kernel_rfl) (by kernel_rfl) rfl (fun x => by kernel_rfl)
theorem laws_markActionSS_snd : Sound Try.prog 41 laws_markActionSS_sem := sound_io' (L := laws_markActionSS_L) (k := 1) laws_markActionSS_env mixed Try.func41 (by kernel_rfl) (below_succ laws_markActionSS_2_lok below_zero) (fun x0 x => by kernel_rfl)

@[reducible] noncomputable def laws_markKeymap_sem : FnSem := .io tKeymap (.p int .u) (.p int .u) [true] (fun x0 x => laws_markKeymap x0 x.1)
noncomputable def laws_markKeymap_G : Env := ⟨GT, [(41, laws_markActionSS_sem)], []⟩
theorem laws_markKeymap_env : EnvOk Try.prog laws_markKeymap_G := EnvOk.cons laws_markActionSS_snd (envOk_nil GT_ok)
noncomputable def laws_markKeymap_L : List (Nat × LoopSem) := []
theorem laws_markKeymap_snd : Sound Try.prog 14 laws_markKeymap_sem := sound_io' (L := laws_markKeymap_L) (k := 0) laws_markKeymap_env mixed Try.func14 (by kernel_rfl) below_zero (fun x0 x => by kernel_rfl)

@[reducible] noncomputable def laws_heldActionS_sem : FnSem := .pu (.p (.sl tAction) (.p int .u)) (.p int .u) [true] (fun x => laws_heldActionS x.1 x.2.1)
noncomputable def laws_heldActionS_G : Env := ⟨GT, [], []⟩
theorem laws_heldActionS_env : EnvOk Try.prog laws_heldActionS_G := envOk_nil GT_ok
noncomputable def laws_heldActionS_2_ls : LoopSem := ⟨49, ⟨[(0, (.data (.sl tAction))), (1, (.data int)), (5, (.data int))], []⟩, 0, ⟨[(1, (.data int))], []⟩, ⟨[(4, (.data int))], []⟩, laws_heldActionS_2_loop⟩
noncomputable def laws_heldActionS_L : List (Nat × LoopSem) := [(2, laws_heldActionS_2_ls)]
theorem laws_heldActionS_2_lok : LoopOk laws_heldActionS_G laws_heldActionS_L (lp Try.f63 0) := loopOk_of (r := 2) (ls := laws_heldActionS_2_ls) (R := fun x => laws_heldActionS_2_R x.1.1 x.1.2.1 x.1.2.2.1) (by kernel_rfl) (by kernel_rfl) rfl (fun x => by kernel_rfl)
theorem laws_heldActionS_snd : Sound Try.prog 63 laws_heldActionS_sem := sound_pu' (L := laws_heldActionS_L) (k := 1) laws_heldActionS_env mixed Try.func63 (by kernel_rfl) (below_succ laws_heldActionS_2_lok below_zero) (fun x => by kernel_rfl)

@[reducible] noncomputable def laws_heldActionSS_sem : FnSem := .pu (.p (.sl (.sl tAction)) (.p int .u)) (.p int .u) [true] (fun x => laws_heldActionSS x.1 x.2.1)
noncomputable def laws_heldActionSS_G : Env := ⟨GT, [(63, laws_heldActionS_sem)], []⟩
theorem laws_heldActionSS_env : EnvOk Try.prog laws_heldActionSS_G := EnvOk.cons laws_heldActionS_snd (envOk_nil GT_ok)
noncomputable def laws_heldActionSS_2_ls : LoopSem := ⟨21, ⟨[(0, (.data (.sl (.sl tAction)))), (1, (.data int)), (5, (.data int))], []⟩, 0, ⟨[(1, (.data int))], []⟩, ⟨[(4, (.data int))], []⟩, laws_heldActionSS_2_loop⟩
noncomputable def laws_heldActionSS_L : List (Nat × LoopSem) := [(2, laws_heldActionSS_2_ls)]
theorem laws_heldActionSS_2_lok : LoopOk laws_heldActionSS_G laws_heldActionSS_L (lp Try.f47 0) := loopOk_of (r := 2) (ls := laws_heldActionSS_2_ls) (R := fun x => laws_heldActionSS_2_R x.1.1 x.1.2.1 x.1.2.2.1) (by kernel_rfl) (by kernel_rfl) rfl (fun x => by kernel_rfl)
theorem laws_heldActionSS_snd : Sound Try.prog 47 laws_heldActionSS_sem := sound_pu' (L := laws_heldActionSS_L) (k := 1) laws_heldActionSS_env mixed Try.func47 (by kernel_rfl) (below_succ laws_heldActionSS_2_lok below_zero) (fun x => by kernel_rfl)

@[reducible] noncomputable def laws_heldKeymap_sem : FnSem := .pu (.p tKeymap (.p int .u)) (.p int .u) [true] (fun x => laws_heldKeymap x.1 x.2.1)
noncomputable def laws_heldKeymap_G : Env := ⟨GT, [(47, laws_heldActionSS_sem)], []⟩
theorem laws_heldKeymap_env : EnvOk Try.prog laws_heldKeymap_G := EnvOk.cons laws_heldActionSS_snd (envOk_nil GT_ok)
noncomputable def laws_heldKeymap_L : List (Nat × LoopSem) := []
theorem laws_heldKeymap_snd : Sound Try.prog 19 laws_heldKeymap_sem := sound_pu' (L := laws_heldKeymap_L) (k := 0) laws_heldKeymap_env mixed Try.func19 (by kernel_rfl) below_zero (fun x => by kernel_rfl)

@[reducible] noncomputable def laws_FnExactKeymapFrom_sem : FnSem := .pu (.p int (.p (.sl (.sl byte)) .u)) (.p .b .u) [true] (fun x => laws_FnExactKeymapFrom x.1 x.2.1)
noncomputable def laws_FnExactKeymapFrom_G : Env := ⟨GT, [(20, laws_szByteSS_sem), (22, laws_toByteSS_sem), (21, spec_KeymapFrom_sem), (23, impl_KeymapFrom_sem), (13, laws_eqKeymap_sem), (12, laws_eqByteSS_sem), (15, laws_markByteSS_sem), (14, laws_markKeymap_sem), (19, laws_heldKeymap_sem)], []⟩
theorem laws_FnExactKeymapFrom_env : EnvOk Try.prog laws_FnExactKeymapFrom_G := EnvOk.cons laws_szByteSS_snd (EnvOk.cons laws_toByteSS_snd (EnvOk.cons spec_KeymapFrom_snd (EnvOk.cons impl_KeymapFrom_snd (EnvOk.cons laws_eqKeymap_snd (EnvOk.cons laws_eqByteSS_snd (EnvOk.cons laws_markByteSS_snd (EnvOk.cons laws_markKeymap_snd (EnvOk.cons laws_heldKeymap_snd (envOk_nil GT_ok)))))))))
noncomputable def laws_FnExactKeymapFrom_L : List (Nat × LoopSem) := []
theorem laws_FnExactKeymapFrom_snd : Sound Try.prog 5 laws_FnExactKeymapFrom_sem := sound_pu' (L := laws_FnExactKeymapFrom_L) (k := 0) laws_FnExactKeymapFrom_env mixed Try.func5 (by kernel_rfl) below_zero (fun x => by kernel_rfl)
end KF
