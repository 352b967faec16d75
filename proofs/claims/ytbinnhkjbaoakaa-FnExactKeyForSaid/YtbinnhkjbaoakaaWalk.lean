/- Each Go function computes its plain function (no condition). -/
import Derived.Test.YtbinnhkjbaoakaaFns
import Derived.Test.YtbinnhkjbaoakaaRows
namespace KF
open Go Go.Proofs
def GT : List (Nat × Ty) := [(3, int), (4, .b), (35, (.sl (.sl tAction))), (37, tKeymap), (40, (.sl (.sl tAction))), (42, tKeymap), (107, tAction), (108, (.sl tAction)), (126, (.sl tAction)), (147, tAction)]
theorem GT_ok : (GT.all fun x => tokB Try.prog x.2 x.1) = true := by kernel_rfl
theorem mixed : Try.prog.follows .mixedOrders = true := by kernel_rfl

@[reducible] noncomputable def laws_szActionS_sem : FnSem := .pu (.p (.sl tAction) (.p int .u)) (.p int .u) [true] (fun x => laws_szActionS x.1 x.2.1)
noncomputable def laws_szActionS_G : Env := ⟨GT, []⟩
theorem laws_szActionS_env : EnvOk Try.prog laws_szActionS_G := envOk_nil GT_ok
noncomputable def laws_szActionS_L : List (Nat × LoopSem) := []
theorem laws_szActionS_snd : Sound Try.prog 62 laws_szActionS_sem := sound_pu' (L := laws_szActionS_L) (k := 0) laws_szActionS_env mixed Try.func62 (by kernel_rfl) below_zero (fun x => by kernel_rfl)

@[reducible] noncomputable def laws_szActionSS_sem : FnSem := .pu (.p (.sl (.sl tAction)) (.p int .u)) (.p int .u) [true] (fun x => laws_szActionSS x.1 x.2.1)
noncomputable def laws_szActionSS_G : Env := ⟨GT, [(62, laws_szActionS_sem)]⟩
theorem laws_szActionSS_env : EnvOk Try.prog laws_szActionSS_G := EnvOk.cons laws_szActionS_snd (envOk_nil GT_ok)
noncomputable def laws_szActionSS_5_ls : LoopSem := ⟨27, ⟨[(0, (.data (.sl (.sl tAction)))), (1, (.data int)), (5, (.data int))], []⟩, 0, ⟨[(1, (.data int))], []⟩, ⟨[(4, (.data int))], []⟩, laws_szActionSS_5_loop⟩
noncomputable def laws_szActionSS_L : List (Nat × LoopSem) := [(5, laws_szActionSS_5_ls)]
theorem laws_szActionSS_5_lok : LoopOk laws_szActionSS_G laws_szActionSS_L (lp Try.f36 0) := loopOk_of (r := 5) (ls := laws_szActionSS_5_ls) (R := fun x => laws_szActionSS_5_R x.1.1 x.1.2.1 x.1.2.2.1) (by kernel_rfl) (by kernel_rfl) rfl (fun x => by kernel_rfl)
theorem laws_szActionSS_snd : Sound Try.prog 36 laws_szActionSS_sem := sound_pu' (L := laws_szActionSS_L) (k := 1) laws_szActionSS_env mixed Try.func36 (by kernel_rfl) (below_succ laws_szActionSS_5_lok below_zero) (fun x => by kernel_rfl)

@[reducible] noncomputable def laws_szKeymap_sem : FnSem := .pu (.p tKeymap (.p int .u)) (.p int .u) [true] (fun x => laws_szKeymap x.1 x.2.1)
noncomputable def laws_szKeymap_G : Env := ⟨GT, [(36, laws_szActionSS_sem)]⟩
theorem laws_szKeymap_env : EnvOk Try.prog laws_szKeymap_G := EnvOk.cons laws_szActionSS_snd (envOk_nil GT_ok)
noncomputable def laws_szKeymap_L : List (Nat × LoopSem) := []
theorem laws_szKeymap_snd : Sound Try.prog 14 laws_szKeymap_sem := sound_pu' (L := laws_szKeymap_L) (k := 0) laws_szKeymap_env mixed Try.func14 (by kernel_rfl) below_zero (fun x => by kernel_rfl)

@[reducible] noncomputable def laws_toAction_sem : FnSem := .pu (.p tAction .u) (.p tAction .u) [true] (fun x => laws_toAction x.1)
noncomputable def laws_toAction_G : Env := ⟨GT, []⟩
theorem laws_toAction_env : EnvOk Try.prog laws_toAction_G := envOk_nil GT_ok
noncomputable def laws_toAction_L : List (Nat × LoopSem) := []
theorem laws_toAction_snd : Sound Try.prog 90 laws_toAction_sem := sound_pu' (L := laws_toAction_L) (k := 0) laws_toAction_env mixed Try.func90 (by kernel_rfl) below_zero (fun x => by kernel_rfl)

@[reducible] noncomputable def laws_toActionS_sem : FnSem := .pu (.p (.sl tAction) .u) (.p (.sl tAction) .u) [true] (fun x => laws_toActionS x.1)
noncomputable def laws_toActionS_G : Env := ⟨GT, [(90, laws_toAction_sem)]⟩
theorem laws_toActionS_env : EnvOk Try.prog laws_toActionS_G := EnvOk.cons laws_toAction_snd (envOk_nil GT_ok)
noncomputable def laws_toActionS_3_ls : LoopSem := ⟨23, ⟨[(0, (.data (.sl tAction))), (3, (.own 200001 tAction true)), (4, (.data int))], []⟩, 0, ⟨[(3, (.own 200001 tAction true))], []⟩, ⟨[], []⟩, laws_toActionS_3_loop⟩
noncomputable def laws_toActionS_L : List (Nat × LoopSem) := [(3, laws_toActionS_3_ls)]
theorem laws_toActionS_3_lok : LoopOk laws_toActionS_G laws_toActionS_L (lp Try.f65 0) := loopOk_of (r := 3) (ls := laws_toActionS_3_ls) (R := fun x => laws_toActionS_3_R x.1.1 x.1.2.1 x.1.2.2.1) (by kernel_rfl) (by kernel_rfl) rfl (fun x => by kernel_rfl)
theorem laws_toActionS_snd : Sound Try.prog 65 laws_toActionS_sem := sound_pu' (L := laws_toActionS_L) (k := 1) laws_toActionS_env mixed Try.func65 (by kernel_rfl) (below_succ laws_toActionS_3_lok below_zero) (fun x => by kernel_rfl)

@[reducible] noncomputable def laws_toActionSS_sem : FnSem := .pu (.p (.sl (.sl tAction)) .u) (.p (.sl (.sl tAction)) .u) [true] (fun x => laws_toActionSS x.1)
noncomputable def laws_toActionSS_G : Env := ⟨GT, [(65, laws_toActionS_sem)]⟩
theorem laws_toActionSS_env : EnvOk Try.prog laws_toActionSS_G := EnvOk.cons laws_toActionS_snd (envOk_nil GT_ok)
noncomputable def laws_toActionSS_3_ls : LoopSem := ⟨23, ⟨[(0, (.data (.sl (.sl tAction)))), (3, (.own 200001 (.sl tAction) true)), (4, (.data int))], []⟩, 0, ⟨[(3, (.own 200001 (.sl tAction) true))], []⟩, ⟨[], []⟩, laws_toActionSS_3_loop⟩
noncomputable def laws_toActionSS_L : List (Nat × LoopSem) := [(3, laws_toActionSS_3_ls)]
theorem laws_toActionSS_3_lok : LoopOk laws_toActionSS_G laws_toActionSS_L (lp Try.f40 0) := loopOk_of (r := 3) (ls := laws_toActionSS_3_ls) (R := fun x => laws_toActionSS_3_R x.1.1 x.1.2.1 x.1.2.2.1) (by kernel_rfl) (by kernel_rfl) rfl (fun x => by kernel_rfl)
theorem laws_toActionSS_snd : Sound Try.prog 40 laws_toActionSS_sem := sound_pu' (L := laws_toActionSS_L) (k := 1) laws_toActionSS_env mixed Try.func40 (by kernel_rfl) (below_succ laws_toActionSS_3_lok below_zero) (fun x => by kernel_rfl)

@[reducible] noncomputable def laws_toKeymap_sem : FnSem := .pu (.p tKeymap .u) (.p tKeymap .u) [true] (fun x => laws_toKeymap x.1)
noncomputable def laws_toKeymap_G : Env := ⟨GT, [(40, laws_toActionSS_sem)]⟩
theorem laws_toKeymap_env : EnvOk Try.prog laws_toKeymap_G := EnvOk.cons laws_toActionSS_snd (envOk_nil GT_ok)
noncomputable def laws_toKeymap_L : List (Nat × LoopSem) := []
theorem laws_toKeymap_snd : Sound Try.prog 16 laws_toKeymap_sem := sound_pu' (L := laws_toKeymap_L) (k := 0) laws_toKeymap_env mixed Try.func16 (by kernel_rfl) below_zero (fun x => by kernel_rfl)

@[reducible] noncomputable def spec_l1In_sem : FnSem := .pu tStep (.p .b .u) [true] (fun x => spec_l1In x.1 x.2.1 x.2.2.1)
noncomputable def spec_l1In_G : Env := ⟨GT, []⟩
theorem spec_l1In_env : EnvOk Try.prog spec_l1In_G := envOk_nil GT_ok
noncomputable def spec_l1In_L : List (Nat × LoopSem) := []
theorem spec_l1In_snd : Sound Try.prog 38 spec_l1In_sem := sound_pu' (L := spec_l1In_L) (k := 0) spec_l1In_env mixed Try.func38 (by kernel_rfl) below_zero (fun x => by kernel_rfl)

@[reducible] noncomputable def spec_IsAction_sem : FnSem := .pu (.p tAction .u) (.p .b .u) [true] (fun x => spec_IsAction x.1)
noncomputable def spec_IsAction_G : Env := ⟨GT, [(38, spec_l1In_sem)]⟩
theorem spec_IsAction_env : EnvOk Try.prog spec_IsAction_G := EnvOk.cons spec_l1In_snd (envOk_nil GT_ok)
noncomputable def spec_IsAction_L : List (Nat × LoopSem) := []
theorem spec_IsAction_snd : Sound Try.prog 63 spec_IsAction_sem := sound_pu' (L := spec_IsAction_L) (k := 0) spec_IsAction_env mixed Try.func63 (by kernel_rfl) below_zero (fun x => by kernel_rfl)

@[reducible] noncomputable def spec_IsKeymap_sem : FnSem := .pu (.p tKeymap .u) (.p .b .u) [true] (fun x => spec_IsKeymap x.1)
noncomputable def spec_IsKeymap_G : Env := ⟨GT, [(63, spec_IsAction_sem), (38, spec_l1In_sem)]⟩
theorem spec_IsKeymap_env : EnvOk Try.prog spec_IsKeymap_G := EnvOk.cons spec_IsAction_snd (EnvOk.cons spec_l1In_snd (envOk_nil GT_ok))
noncomputable def spec_IsKeymap_7_ls : LoopSem := ⟨74, ⟨[(1, (.ptr 1 [])), (3, (.data int)), (4, (.data int))], [(1, tKeymap, (.data tKeymap))]⟩, 2, ⟨[(1, (.ptr 1 [])), (3, (.data int))], [(1, tKeymap, (.data tKeymap))]⟩, ⟨[(2, (.data .b))], []⟩, spec_IsKeymap_7_loop⟩
noncomputable def spec_IsKeymap_2_ls : LoopSem := ⟨74, ⟨[(1, (.ptr 1 [])), (3, (.data int))], [(1, tKeymap, (.data tKeymap))]⟩, 0, ⟨[(1, (.ptr 1 []))], [(1, tKeymap, (.data tKeymap))]⟩, ⟨[(2, (.data .b))], []⟩, spec_IsKeymap_2_loop⟩
noncomputable def spec_IsKeymap_L : List (Nat × LoopSem) := [(7, spec_IsKeymap_7_ls), (2, spec_IsKeymap_2_ls)]
theorem spec_IsKeymap_7_lok : LoopOk spec_IsKeymap_G spec_IsKeymap_L (lp Try.f37 1) := loopOk_of (r := 7) (ls := spec_IsKeymap_7_ls) (R := fun x => spec_IsKeymap_7_R x.1.1 x.1.2.1 x.1.2.2.1 x.2.1) (by kernel_rfl) (by kernel_rfl) rfl (fun x => by kernel_rfl)
theorem spec_IsKeymap_2_lok : LoopOk spec_IsKeymap_G spec_IsKeymap_L (lp Try.f37 0) := loopOk_of (r := 2) (ls := spec_IsKeymap_2_ls) (R := fun x => spec_IsKeymap_2_R x.1.1 x.1.2.1 x.2.1) (by kernel_rfl) (by kernel_rfl) rfl (fun x => by kernel_rfl)
theorem spec_IsKeymap_snd : Sound Try.prog 37 spec_IsKeymap_sem := sound_pu' (L := spec_IsKeymap_L) (k := 2) spec_IsKeymap_env mixed Try.func37 (by kernel_rfl) (below_succ spec_IsKeymap_7_lok (below_succ spec_IsKeymap_2_lok below_zero)) (fun x => by kernel_rfl)

@[reducible] noncomputable def spec_IsTapHold_sem : FnSem := .pu (.p tAction .u) (.p .b .u) [true] (fun x => spec_IsTapHold x.1)
noncomputable def spec_IsTapHold_G : Env := ⟨GT, [(63, spec_IsAction_sem)]⟩
theorem spec_IsTapHold_env : EnvOk Try.prog spec_IsTapHold_G := EnvOk.cons spec_IsAction_snd (envOk_nil GT_ok)
noncomputable def spec_IsTapHold_L : List (Nat × LoopSem) := []
theorem spec_IsTapHold_snd : Sound Try.prog 64 spec_IsTapHold_sem := sound_pu' (L := spec_IsTapHold_L) (k := 0) spec_IsTapHold_env mixed Try.func64 (by kernel_rfl) below_zero (fun x => by kernel_rfl)

@[reducible] noncomputable def spec_TapOf_sem : FnSem := .pu (.p tAction .u) (.p tAction .u) [true] (fun x => spec_TapOf x.1)
noncomputable def spec_TapOf_G : Env := ⟨GT, [(64, spec_IsTapHold_sem)]⟩
theorem spec_TapOf_env : EnvOk Try.prog spec_TapOf_G := EnvOk.cons spec_IsTapHold_snd (envOk_nil GT_ok)
noncomputable def spec_TapOf_L : List (Nat × LoopSem) := []
theorem spec_TapOf_snd : Sound Try.prog 39 spec_TapOf_sem := sound_pu' (L := spec_TapOf_L) (k := 0) spec_TapOf_env mixed Try.func39 (by kernel_rfl) below_zero (fun x => by kernel_rfl)

@[reducible] noncomputable def spec_KeyFor_sem : FnSem := .pu (.p tKeymap tCombo) (.p int .u) [true] (fun x => spec_KeyFor x.1 x.2.1 x.2.2.1)
noncomputable def spec_KeyFor_G : Env := ⟨GT, [(37, spec_IsKeymap_sem), (38, spec_l1In_sem), (39, spec_TapOf_sem)]⟩
theorem spec_KeyFor_env : EnvOk Try.prog spec_KeyFor_G := EnvOk.cons spec_IsKeymap_snd (EnvOk.cons spec_l1In_snd (EnvOk.cons spec_TapOf_snd (envOk_nil GT_ok)))
noncomputable def spec_KeyFor_2_ls : LoopSem := ⟨50, ⟨[(1, (.data int)), (2, (.data int)), (3, (.ptr 3 [])), (7, (.data int))], [(3, tKeymap, (.data tKeymap))]⟩, 0, ⟨[], []⟩, ⟨[(6, (.data int))], []⟩, spec_KeyFor_2_loop⟩
noncomputable def spec_KeyFor_L : List (Nat × LoopSem) := [(2, spec_KeyFor_2_ls)]
theorem spec_KeyFor_2_lok : LoopOk spec_KeyFor_G spec_KeyFor_L (lp Try.f15 0) := loopOk_of (r := 2) (ls := spec_KeyFor_2_ls) (R := fun x => spec_KeyFor_2_R x.1.1 x.1.2.1 x.1.2.2.1 x.1.2.2.2.1 x.2.1) (by kernel_rfl) (by kernel_rfl) rfl (fun x => by kernel_rfl)
theorem spec_KeyFor_snd : Sound Try.prog 15 spec_KeyFor_sem := sound_pu' (L := spec_KeyFor_L) (k := 1) spec_KeyFor_env mixed Try.func15 (by kernel_rfl) (below_succ spec_KeyFor_2_lok below_zero) (fun x => by kernel_rfl)

@[reducible] noncomputable def impl_isCode_sem : FnSem := .pu (.p int .u) (.p .b .u) [true] (fun x => impl_isCode x.1)
noncomputable def impl_isCode_G : Env := ⟨GT, []⟩
theorem impl_isCode_env : EnvOk Try.prog impl_isCode_G := envOk_nil GT_ok
noncomputable def impl_isCode_L : List (Nat × LoopSem) := []
theorem impl_isCode_snd : Sound Try.prog 91 impl_isCode_sem := sound_pu' (L := impl_isCode_L) (k := 0) impl_isCode_env mixed Try.func91 (by kernel_rfl) below_zero (fun x => by kernel_rfl)

@[reducible] noncomputable def impl_isMods_sem : FnSem := .pu (.p int .u) (.p .b .u) [true] (fun x => impl_isMods x.1)
noncomputable def impl_isMods_G : Env := ⟨GT, []⟩
theorem impl_isMods_env : EnvOk Try.prog impl_isMods_G := envOk_nil GT_ok
noncomputable def impl_isMods_L : List (Nat × LoopSem) := []
theorem impl_isMods_snd : Sound Try.prog 92 impl_isMods_sem := sound_pu' (L := impl_isMods_L) (k := 0) impl_isMods_env mixed Try.func92 (by kernel_rfl) below_zero (fun x => by kernel_rfl)

@[reducible] noncomputable def impl_isUpper_sem : FnSem := .pu (.p int .u) (.p .b .u) [true] (fun x => impl_isUpper x.1)
noncomputable def impl_isUpper_G : Env := ⟨GT, []⟩
theorem impl_isUpper_env : EnvOk Try.prog impl_isUpper_G := envOk_nil GT_ok
noncomputable def impl_isUpper_L : List (Nat × LoopSem) := []
theorem impl_isUpper_snd : Sound Try.prog 93 impl_isUpper_sem := sound_pu' (L := impl_isUpper_L) (k := 0) impl_isUpper_env mixed Try.func93 (by kernel_rfl) below_zero (fun x => by kernel_rfl)

@[reducible] noncomputable def impl_IsAction_sem : FnSem := .pu (.p tAction .u) (.p .b .u) [true] (fun x => impl_IsAction x.1)
noncomputable def impl_IsAction_G : Env := ⟨GT, [(91, impl_isCode_sem), (92, impl_isMods_sem), (93, impl_isUpper_sem)]⟩
theorem impl_IsAction_env : EnvOk Try.prog impl_IsAction_G := EnvOk.cons impl_isCode_snd (EnvOk.cons impl_isMods_snd (EnvOk.cons impl_isUpper_snd (envOk_nil GT_ok)))
noncomputable def impl_IsAction_L : List (Nat × LoopSem) := []
theorem impl_IsAction_snd : Sound Try.prog 66 impl_IsAction_sem := sound_pu' (L := impl_IsAction_L) (k := 0) impl_IsAction_env mixed Try.func66 (by kernel_rfl) below_zero (fun x => by kernel_rfl)

@[reducible] noncomputable def impl_IsKeymap_sem : FnSem := .pu (.p tKeymap .u) (.p .b .u) [true] (fun x => impl_IsKeymap x.1)
noncomputable def impl_IsKeymap_G : Env := ⟨GT, [(66, impl_IsAction_sem)]⟩
theorem impl_IsKeymap_env : EnvOk Try.prog impl_IsKeymap_G := EnvOk.cons impl_IsAction_snd (envOk_nil GT_ok)
noncomputable def impl_IsKeymap_9_ls : LoopSem := ⟨73, ⟨[(1, (.ptr 1 [])), (3, (.data int)), (28, (.data (.sl (.sl tAction)))), (29, (.data int)), (30, (.data int)), (40, (.data (.sl tAction))), (41, (.data int)), (42, (.data int))], [(1, tKeymap, (.data tKeymap))]⟩, 2, ⟨[(1, (.ptr 1 [])), (28, (.data (.sl (.sl tAction)))), (29, (.data int)), (30, (.data int))], [(1, tKeymap, (.data tKeymap))]⟩, ⟨[(2, (.data .b))], []⟩, impl_IsKeymap_9_loop⟩
noncomputable def impl_IsKeymap_4_ls : LoopSem := ⟨73, ⟨[(1, (.ptr 1 [])), (28, (.data (.sl (.sl tAction)))), (29, (.data int)), (30, (.data int))], [(1, tKeymap, (.data tKeymap))]⟩, 0, ⟨[], []⟩, ⟨[(2, (.data .b))], []⟩, impl_IsKeymap_4_loop⟩
noncomputable def impl_IsKeymap_L : List (Nat × LoopSem) := [(9, impl_IsKeymap_9_ls), (4, impl_IsKeymap_4_ls)]
theorem impl_IsKeymap_9_lok : LoopOk impl_IsKeymap_G impl_IsKeymap_L (lp Try.f41 1) := loopOk_of (r := 9) (ls := impl_IsKeymap_9_ls) (R := fun x => impl_IsKeymap_9_R x.1.1 x.1.2.1 x.1.2.2.1 x.1.2.2.2.1 x.1.2.2.2.2.1 x.1.2.2.2.2.2.1 x.1.2.2.2.2.2.2.1 x.1.2.2.2.2.2.2.2.1 x.2.1) (by kernel_rfl) (by kernel_rfl) rfl (fun x => by kernel_rfl)
theorem impl_IsKeymap_4_lok : LoopOk impl_IsKeymap_G impl_IsKeymap_L (lp Try.f41 0) := loopOk_of (r := 4) (ls := impl_IsKeymap_4_ls) (R := fun x => impl_IsKeymap_4_R x.1.1 x.1.2.1 x.1.2.2.1 x.1.2.2.2.1 x.2.1) (by kernel_rfl) (by kernel_rfl) rfl (fun x => by kernel_rfl)
theorem impl_IsKeymap_snd : Sound Try.prog 41 impl_IsKeymap_sem := sound_pu' (L := impl_IsKeymap_L) (k := 2) impl_IsKeymap_env mixed Try.func41 (by kernel_rfl) (below_succ impl_IsKeymap_9_lok (below_succ impl_IsKeymap_4_lok below_zero)) (fun x => by kernel_rfl)

@[reducible] noncomputable def impl_IsTapHold_sem : FnSem := .pu (.p tAction .u) (.p .b .u) [true] (fun x => impl_IsTapHold x.1)
noncomputable def impl_IsTapHold_G : Env := ⟨GT, [(66, impl_IsAction_sem)]⟩
theorem impl_IsTapHold_env : EnvOk Try.prog impl_IsTapHold_G := EnvOk.cons impl_IsAction_snd (envOk_nil GT_ok)
noncomputable def impl_IsTapHold_L : List (Nat × LoopSem) := []
theorem impl_IsTapHold_snd : Sound Try.prog 94 impl_IsTapHold_sem := sound_pu' (L := impl_IsTapHold_L) (k := 0) impl_IsTapHold_env mixed Try.func94 (by kernel_rfl) below_zero (fun x => by kernel_rfl)

@[reducible] noncomputable def impl_TapOf_sem : FnSem := .pu (.p tAction .u) (.p tAction .u) [true] (fun x => impl_TapOf x.1)
noncomputable def impl_TapOf_G : Env := ⟨GT, [(94, impl_IsTapHold_sem)]⟩
theorem impl_TapOf_env : EnvOk Try.prog impl_TapOf_G := EnvOk.cons impl_IsTapHold_snd (envOk_nil GT_ok)
noncomputable def impl_TapOf_L : List (Nat × LoopSem) := []
theorem impl_TapOf_snd : Sound Try.prog 67 impl_TapOf_sem := sound_pu' (L := impl_TapOf_L) (k := 0) impl_TapOf_env mixed Try.func67 (by kernel_rfl) below_zero (fun x => by kernel_rfl)

@[reducible] noncomputable def impl_keyFor_sem : FnSem := .pu (.p tKeymap tCombo) (.p int .u) [true] (fun x => impl_keyFor x.1 x.2.1 x.2.2.1)
noncomputable def impl_keyFor_G : Env := ⟨GT, [(67, impl_TapOf_sem)]⟩
theorem impl_keyFor_env : EnvOk Try.prog impl_keyFor_G := EnvOk.cons impl_TapOf_snd (envOk_nil GT_ok)
noncomputable def impl_keyFor_2_ls : LoopSem := ⟨40, ⟨[(1, (.data int)), (2, (.data int)), (12, (.data (.sl tAction))), (13, (.data int)), (14, (.data int))], []⟩, 0, ⟨[], []⟩, ⟨[(6, (.data int))], []⟩, impl_keyFor_2_loop⟩
noncomputable def impl_keyFor_L : List (Nat × LoopSem) := [(2, impl_keyFor_2_ls)]
theorem impl_keyFor_2_lok : LoopOk impl_keyFor_G impl_keyFor_L (lp Try.f42 0) := loopOk_of (r := 2) (ls := impl_keyFor_2_ls) (R := fun x => impl_keyFor_2_R x.1.1 x.1.2.1 x.1.2.2.1 x.1.2.2.2.1 x.1.2.2.2.2.1) (by kernel_rfl) (by kernel_rfl) rfl (fun x => by kernel_rfl)
theorem impl_keyFor_snd : Sound Try.prog 42 impl_keyFor_sem := sound_pu' (L := impl_keyFor_L) (k := 1) impl_keyFor_env mixed Try.func42 (by kernel_rfl) (below_succ impl_keyFor_2_lok below_zero) (fun x => by kernel_rfl)

@[reducible] noncomputable def impl_KeyFor_sem : FnSem := .pu (.p tKeymap tCombo) (.p int .u) [true] (fun x => impl_KeyFor x.1 x.2.1 x.2.2.1)
noncomputable def impl_KeyFor_G : Env := ⟨GT, [(41, impl_IsKeymap_sem), (42, impl_keyFor_sem)]⟩
theorem impl_KeyFor_env : EnvOk Try.prog impl_KeyFor_G := EnvOk.cons impl_IsKeymap_snd (EnvOk.cons impl_keyFor_snd (envOk_nil GT_ok))
noncomputable def impl_KeyFor_L : List (Nat × LoopSem) := []
theorem impl_KeyFor_snd : Sound Try.prog 17 impl_KeyFor_sem := sound_pu' (L := impl_KeyFor_L) (k := 0) impl_KeyFor_env mixed Try.func17 (by kernel_rfl) below_zero (fun x => by kernel_rfl)

@[reducible] noncomputable def laws_eqAction_sem : FnSem := .pu (.p tAction (.p tAction .u)) (.p .b .u) [true] (fun x => laws_eqAction x.1 x.2.1)
noncomputable def laws_eqAction_G : Env := ⟨GT, []⟩
theorem laws_eqAction_env : EnvOk Try.prog laws_eqAction_G := envOk_nil GT_ok
noncomputable def laws_eqAction_L : List (Nat × LoopSem) := []
theorem laws_eqAction_snd : Sound Try.prog 95 laws_eqAction_sem := sound_pu' (L := laws_eqAction_L) (k := 0) laws_eqAction_env mixed Try.func95 (by kernel_rfl) below_zero (fun x => by kernel_rfl)

@[reducible] noncomputable def laws_eqActionS_sem : FnSem := .pu (.p (.sl tAction) (.p (.sl tAction) .u)) (.p .b .u) [true] (fun x => laws_eqActionS x.1 x.2.1)
noncomputable def laws_eqActionS_G : Env := ⟨GT, [(95, laws_eqAction_sem)]⟩
theorem laws_eqActionS_env : EnvOk Try.prog laws_eqActionS_G := EnvOk.cons laws_eqAction_snd (envOk_nil GT_ok)
noncomputable def laws_eqActionS_4_ls : LoopSem := ⟨27, ⟨[(0, (.data (.sl tAction))), (1, (.data (.sl tAction))), (5, (.data int))], []⟩, 0, ⟨[], []⟩, ⟨[(4, (.data .b))], []⟩, laws_eqActionS_4_loop⟩
noncomputable def laws_eqActionS_L : List (Nat × LoopSem) := [(4, laws_eqActionS_4_ls)]
theorem laws_eqActionS_4_lok : LoopOk laws_eqActionS_G laws_eqActionS_L (lp Try.f68 0) := loopOk_of (r := 4) (ls := laws_eqActionS_4_ls) (R := fun x => laws_eqActionS_4_R x.1.1 x.1.2.1 x.1.2.2.1) (by kernel_rfl) (by kernel_rfl) rfl (fun x => by kernel_rfl)
theorem laws_eqActionS_snd : Sound Try.prog 68 laws_eqActionS_sem := sound_pu' (L := laws_eqActionS_L) (k := 1) laws_eqActionS_env mixed Try.func68 (by kernel_rfl) (below_succ laws_eqActionS_4_lok below_zero) (fun x => by kernel_rfl)

@[reducible] noncomputable def laws_eqActionSS_sem : FnSem := .pu (.p (.sl (.sl tAction)) (.p (.sl (.sl tAction)) .u)) (.p .b .u) [true] (fun x => laws_eqActionSS x.1 x.2.1)
noncomputable def laws_eqActionSS_G : Env := ⟨GT, [(68, laws_eqActionS_sem)]⟩
theorem laws_eqActionSS_env : EnvOk Try.prog laws_eqActionSS_G := EnvOk.cons laws_eqActionS_snd (envOk_nil GT_ok)
noncomputable def laws_eqActionSS_4_ls : LoopSem := ⟨27, ⟨[(0, (.data (.sl (.sl tAction)))), (1, (.data (.sl (.sl tAction)))), (5, (.data int))], []⟩, 0, ⟨[], []⟩, ⟨[(4, (.data .b))], []⟩, laws_eqActionSS_4_loop⟩
noncomputable def laws_eqActionSS_L : List (Nat × LoopSem) := [(4, laws_eqActionSS_4_ls)]
theorem laws_eqActionSS_4_lok : LoopOk laws_eqActionSS_G laws_eqActionSS_L (lp Try.f43 0) := loopOk_of (r := 4) (ls := laws_eqActionSS_4_ls) (R := fun x => laws_eqActionSS_4_R x.1.1 x.1.2.1 x.1.2.2.1) (by kernel_rfl) (by kernel_rfl) rfl (fun x => by kernel_rfl)
theorem laws_eqActionSS_snd : Sound Try.prog 43 laws_eqActionSS_sem := sound_pu' (L := laws_eqActionSS_L) (k := 1) laws_eqActionSS_env mixed Try.func43 (by kernel_rfl) (below_succ laws_eqActionSS_4_lok below_zero) (fun x => by kernel_rfl)

@[reducible] noncomputable def laws_eqKeymap_sem : FnSem := .pu (.p tKeymap (.p tKeymap .u)) (.p .b .u) [true] (fun x => laws_eqKeymap x.1 x.2.1)
noncomputable def laws_eqKeymap_G : Env := ⟨GT, [(43, laws_eqActionSS_sem)]⟩
theorem laws_eqKeymap_env : EnvOk Try.prog laws_eqKeymap_G := EnvOk.cons laws_eqActionSS_snd (envOk_nil GT_ok)
noncomputable def laws_eqKeymap_L : List (Nat × LoopSem) := []
theorem laws_eqKeymap_snd : Sound Try.prog 18 laws_eqKeymap_sem := sound_pu' (L := laws_eqKeymap_L) (k := 0) laws_eqKeymap_env mixed Try.func18 (by kernel_rfl) below_zero (fun x => by kernel_rfl)

@[reducible] noncomputable def laws_FnExactKeyFor_sem : FnSem := .pu (.p tKeymap tCombo) (.p .b .u) [true] (fun x => laws_FnExactKeyFor x.1 x.2.1 x.2.2.1)
noncomputable def laws_FnExactKeyFor_G : Env := ⟨GT, [(14, laws_szKeymap_sem), (16, laws_toKeymap_sem), (15, spec_KeyFor_sem), (17, impl_KeyFor_sem), (18, laws_eqKeymap_sem)]⟩
theorem laws_FnExactKeyFor_env : EnvOk Try.prog laws_FnExactKeyFor_G := EnvOk.cons laws_szKeymap_snd (EnvOk.cons laws_toKeymap_snd (EnvOk.cons spec_KeyFor_snd (EnvOk.cons impl_KeyFor_snd (EnvOk.cons laws_eqKeymap_snd (envOk_nil GT_ok)))))
noncomputable def laws_FnExactKeyFor_L : List (Nat × LoopSem) := []
theorem laws_FnExactKeyFor_snd : Sound Try.prog 4 laws_FnExactKeyFor_sem := sound_pu' (L := laws_FnExactKeyFor_L) (k := 0) laws_FnExactKeyFor_env mixed Try.func4 (by kernel_rfl) below_zero (fun x => by kernel_rfl)
end KF
