/- Each Go function computes its plain function (no condition). -/
import Derived.Test.YtbinnhkjbaoakaaFns
import Derived.Test.YtbinnhkjbaoakaaRows
namespace KF
open Go Go.Proofs
def GT : List (Nat × Ty) := [(3, int), (4, .b), (22, (.sl (.sl int))), (23, (.sl int)), (25, tFlash), (28, tStep), (30, tFlash)]
theorem GT_ok : (GT.all fun x => tokB Try.prog x.2 x.1) = true := by kernel_rfl
theorem mixed : Try.prog.follows .mixedOrders = true := by kernel_rfl

@[reducible] noncomputable def laws_szIntS_sem : FnSem := .pu (.p (.sl int) (.p int .u)) (.p int .u) [true] (fun x => laws_szIntS x.1 x.2.1)
noncomputable def laws_szIntS_G : Env := ⟨GT, []⟩
theorem laws_szIntS_env : EnvOk Try.prog laws_szIntS_G := envOk_nil GT_ok
noncomputable def laws_szIntS_L : List (Nat × LoopSem) := []
theorem laws_szIntS_snd : Sound Try.prog 29 laws_szIntS_sem := sound_pu' (L := laws_szIntS_L) (k := 0) laws_szIntS_env mixed Try.func29 (by kernel_rfl) below_zero (fun x => by kernel_rfl)

@[reducible] noncomputable def laws_szIntSS_sem : FnSem := .pu (.p (.sl (.sl int)) (.p int .u)) (.p int .u) [true] (fun x => laws_szIntSS x.1 x.2.1)
noncomputable def laws_szIntSS_G : Env := ⟨GT, [(29, laws_szIntS_sem)]⟩
theorem laws_szIntSS_env : EnvOk Try.prog laws_szIntSS_G := EnvOk.cons laws_szIntS_snd (envOk_nil GT_ok)
noncomputable def laws_szIntSS_5_ls : LoopSem := ⟨27, ⟨[(0, (.data (.sl (.sl int)))), (1, (.data int)), (5, (.data int))], []⟩, 0, ⟨[(1, (.data int))], []⟩, ⟨[(4, (.data int))], []⟩, laws_szIntSS_5_loop⟩
noncomputable def laws_szIntSS_L : List (Nat × LoopSem) := [(5, laws_szIntSS_5_ls)]
theorem laws_szIntSS_5_lok : LoopOk laws_szIntSS_G laws_szIntSS_L (lp Try.f28 0) := loopOk_of (r := 5) (ls := laws_szIntSS_5_ls) (R := fun x => laws_szIntSS_5_R x.1.1 x.1.2.1 x.1.2.2.1) (by kernel_rfl) (by kernel_rfl) rfl (fun x => by kernel_rfl)
theorem laws_szIntSS_snd : Sound Try.prog 28 laws_szIntSS_sem := sound_pu' (L := laws_szIntSS_L) (k := 1) laws_szIntSS_env mixed Try.func28 (by kernel_rfl) (below_succ laws_szIntSS_5_lok below_zero) (fun x => by kernel_rfl)

@[reducible] noncomputable def laws_szFlash_sem : FnSem := .pu (.p tFlash (.p int .u)) (.p int .u) [true] (fun x => laws_szFlash x.1 x.2.1)
noncomputable def laws_szFlash_G : Env := ⟨GT, [(28, laws_szIntSS_sem), (29, laws_szIntS_sem)]⟩
theorem laws_szFlash_env : EnvOk Try.prog laws_szFlash_G := EnvOk.cons laws_szIntSS_snd (EnvOk.cons laws_szIntS_snd (envOk_nil GT_ok))
noncomputable def laws_szFlash_L : List (Nat × LoopSem) := []
theorem laws_szFlash_snd : Sound Try.prog 8 laws_szFlash_sem := sound_pu' (L := laws_szFlash_L) (k := 0) laws_szFlash_env mixed Try.func8 (by kernel_rfl) below_zero (fun x => by kernel_rfl)

@[reducible] noncomputable def laws_toIntS_sem : FnSem := .pu (.p (.sl int) .u) (.p (.sl int) .u) [true] (fun x => laws_toIntS x.1)
noncomputable def laws_toIntS_G : Env := ⟨GT, []⟩
theorem laws_toIntS_env : EnvOk Try.prog laws_toIntS_G := envOk_nil GT_ok
noncomputable def laws_toIntS_3_ls : LoopSem := ⟨22, ⟨[(0, (.data (.sl int))), (3, (.own 200001 int true)), (4, (.data int))], []⟩, 0, ⟨[(3, (.own 200001 int true))], []⟩, ⟨[], []⟩, laws_toIntS_3_loop⟩
noncomputable def laws_toIntS_L : List (Nat × LoopSem) := [(3, laws_toIntS_3_ls)]
theorem laws_toIntS_3_lok : LoopOk laws_toIntS_G laws_toIntS_L (lp Try.f32 0) := loopOk_of (r := 3) (ls := laws_toIntS_3_ls) (R := fun x => laws_toIntS_3_R x.1.1 x.1.2.1 x.1.2.2.1) (by kernel_rfl) (by kernel_rfl) rfl (fun x => by kernel_rfl)
theorem laws_toIntS_snd : Sound Try.prog 32 laws_toIntS_sem := sound_pu' (L := laws_toIntS_L) (k := 1) laws_toIntS_env mixed Try.func32 (by kernel_rfl) (below_succ laws_toIntS_3_lok below_zero) (fun x => by kernel_rfl)

@[reducible] noncomputable def laws_toIntSS_sem : FnSem := .pu (.p (.sl (.sl int)) .u) (.p (.sl (.sl int)) .u) [true] (fun x => laws_toIntSS x.1)
noncomputable def laws_toIntSS_G : Env := ⟨GT, [(32, laws_toIntS_sem)]⟩
theorem laws_toIntSS_env : EnvOk Try.prog laws_toIntSS_G := EnvOk.cons laws_toIntS_snd (envOk_nil GT_ok)
noncomputable def laws_toIntSS_3_ls : LoopSem := ⟨23, ⟨[(0, (.data (.sl (.sl int)))), (3, (.own 200001 (.sl int) true)), (4, (.data int))], []⟩, 0, ⟨[(3, (.own 200001 (.sl int) true))], []⟩, ⟨[], []⟩, laws_toIntSS_3_loop⟩
noncomputable def laws_toIntSS_L : List (Nat × LoopSem) := [(3, laws_toIntSS_3_ls)]
theorem laws_toIntSS_3_lok : LoopOk laws_toIntSS_G laws_toIntSS_L (lp Try.f31 0) := loopOk_of (r := 3) (ls := laws_toIntSS_3_ls) (R := fun x => laws_toIntSS_3_R x.1.1 x.1.2.1 x.1.2.2.1) (by kernel_rfl) (by kernel_rfl) rfl (fun x => by kernel_rfl)
theorem laws_toIntSS_snd : Sound Try.prog 31 laws_toIntSS_sem := sound_pu' (L := laws_toIntSS_L) (k := 1) laws_toIntSS_env mixed Try.func31 (by kernel_rfl) (below_succ laws_toIntSS_3_lok below_zero) (fun x => by kernel_rfl)

@[reducible] noncomputable def laws_toFlash_sem : FnSem := .pu (.p tFlash .u) (.p tFlash .u) [true] (fun x => laws_toFlash x.1)
noncomputable def laws_toFlash_G : Env := ⟨GT, [(31, laws_toIntSS_sem), (32, laws_toIntS_sem)]⟩
theorem laws_toFlash_env : EnvOk Try.prog laws_toFlash_G := EnvOk.cons laws_toIntSS_snd (EnvOk.cons laws_toIntS_snd (envOk_nil GT_ok))
noncomputable def laws_toFlash_L : List (Nat × LoopSem) := []
theorem laws_toFlash_snd : Sound Try.prog 10 laws_toFlash_sem := sound_pu' (L := laws_toFlash_L) (k := 0) laws_toFlash_env mixed Try.func10 (by kernel_rfl) below_zero (fun x => by kernel_rfl)

@[reducible] noncomputable def spec_l1In_sem : FnSem := .pu tStep (.p .b .u) [true] (fun x => spec_l1In x.1 x.2.1 x.2.2.1)
noncomputable def spec_l1In_G : Env := ⟨GT, []⟩
theorem spec_l1In_env : EnvOk Try.prog spec_l1In_G := envOk_nil GT_ok
noncomputable def spec_l1In_L : List (Nat × LoopSem) := []
theorem spec_l1In_snd : Sound Try.prog 38 spec_l1In_sem := sound_pu' (L := spec_l1In_L) (k := 0) spec_l1In_env mixed Try.func38 (by kernel_rfl) below_zero (fun x => by kernel_rfl)

@[reducible] noncomputable def spec_IsFlash_sem : FnSem := .pu (.p tFlash .u) (.p .b .u) [true] (fun x => spec_IsFlash x.1)
noncomputable def spec_IsFlash_G : Env := ⟨GT, [(38, spec_l1In_sem)]⟩
theorem spec_IsFlash_env : EnvOk Try.prog spec_IsFlash_G := EnvOk.cons spec_l1In_snd (envOk_nil GT_ok)
noncomputable def spec_IsFlash_9_ls : LoopSem := ⟨55, ⟨[(1, (.ptr 1 [])), (3, (.data int)), (4, (.data int))], [(1, tFlash, (.data tFlash))]⟩, 2, ⟨[(1, (.ptr 1 [])), (3, (.data int))], [(1, tFlash, (.data tFlash))]⟩, ⟨[(2, (.data .b))], []⟩, spec_IsFlash_9_loop⟩
noncomputable def spec_IsFlash_4_ls : LoopSem := ⟨55, ⟨[(1, (.ptr 1 [])), (3, (.data int))], [(1, tFlash, (.data tFlash))]⟩, 0, ⟨[], []⟩, ⟨[(2, (.data .b))], []⟩, spec_IsFlash_4_loop⟩
noncomputable def spec_IsFlash_L : List (Nat × LoopSem) := [(9, spec_IsFlash_9_ls), (4, spec_IsFlash_4_ls)]
theorem spec_IsFlash_9_lok : LoopOk spec_IsFlash_G spec_IsFlash_L (lp Try.f109 1) := loopOk_of (r := 9) (ls := spec_IsFlash_9_ls) (R := fun x => spec_IsFlash_9_R x.1.1 x.1.2.1 x.1.2.2.1 x.2.1) (by kernel_rfl) (by kernel_rfl) rfl (fun x => by kernel_rfl)
theorem spec_IsFlash_4_lok : LoopOk spec_IsFlash_G spec_IsFlash_L (lp Try.f109 0) := loopOk_of (r := 4) (ls := spec_IsFlash_4_ls) (R := fun x => spec_IsFlash_4_R x.1.1 x.1.2.1 x.2.1) (by kernel_rfl) (by kernel_rfl) rfl (fun x => by kernel_rfl)
theorem spec_IsFlash_snd : Sound Try.prog 109 spec_IsFlash_sem := sound_pu' (L := spec_IsFlash_L) (k := 2) spec_IsFlash_env mixed Try.func109 (by kernel_rfl) (below_succ spec_IsFlash_9_lok (below_succ spec_IsFlash_4_lok below_zero)) (fun x => by kernel_rfl)

@[reducible] noncomputable def spec_ActivePage_sem : FnSem := .pu (.p tFlash .u) (.p int .u) [true] (fun x => spec_ActivePage x.1)
noncomputable def spec_ActivePage_G : Env := ⟨GT, [(109, spec_IsFlash_sem), (38, spec_l1In_sem)]⟩
theorem spec_ActivePage_env : EnvOk Try.prog spec_ActivePage_G := EnvOk.cons spec_IsFlash_snd (EnvOk.cons spec_l1In_snd (envOk_nil GT_ok))
noncomputable def spec_ActivePage_3_ls : LoopSem := ⟨40, ⟨[(1, (.ptr 1 [])), (3, (.data int)), (4, (.data int))], [(1, tFlash, (.data tFlash))]⟩, 0, ⟨[(3, (.data int))], []⟩, ⟨[], []⟩, spec_ActivePage_3_loop⟩
noncomputable def spec_ActivePage_L : List (Nat × LoopSem) := [(3, spec_ActivePage_3_ls)]
theorem spec_ActivePage_3_lok : LoopOk spec_ActivePage_G spec_ActivePage_L (lp Try.f87 0) := loopOk_of (r := 3) (ls := spec_ActivePage_3_ls) (R := fun x => spec_ActivePage_3_R x.1.1 x.1.2.1 x.1.2.2.1 x.2.1) (by kernel_rfl) (by kernel_rfl) rfl (fun x => by kernel_rfl)
theorem spec_ActivePage_snd : Sound Try.prog 87 spec_ActivePage_sem := sound_pu' (L := spec_ActivePage_L) (k := 1) spec_ActivePage_env mixed Try.func87 (by kernel_rfl) (below_succ spec_ActivePage_3_lok below_zero) (fun x => by kernel_rfl)

@[reducible] noncomputable def spec_CheckOf_sem : FnSem := .pu tStep (.p int .u) [true] (fun x => spec_CheckOf x.1 x.2.1 x.2.2.1)
noncomputable def spec_CheckOf_G : Env := ⟨GT, [(38, spec_l1In_sem)]⟩
theorem spec_CheckOf_env : EnvOk Try.prog spec_CheckOf_G := EnvOk.cons spec_l1In_snd (envOk_nil GT_ok)
noncomputable def spec_CheckOf_L : List (Nat × LoopSem) := []
theorem spec_CheckOf_snd : Sound Try.prog 88 spec_CheckOf_sem := sound_pu' (L := spec_CheckOf_L) (k := 0) spec_CheckOf_env mixed Try.func88 (by kernel_rfl) below_zero (fun x => by kernel_rfl)

@[reducible] noncomputable def spec_ReadSetting_sem : FnSem := .pu (.p tFlash (.p int .u)) (.p int (.p .b .u)) [true, true] (fun x => spec_ReadSetting x.1 x.2.1)
noncomputable def spec_ReadSetting_G : Env := ⟨GT, [(87, spec_ActivePage_sem), (38, spec_l1In_sem), (88, spec_CheckOf_sem)]⟩
theorem spec_ReadSetting_env : EnvOk Try.prog spec_ReadSetting_G := EnvOk.cons spec_ActivePage_snd (EnvOk.cons spec_l1In_snd (EnvOk.cons spec_CheckOf_snd (envOk_nil GT_ok)))
noncomputable def spec_ReadSetting_7_ls : LoopSem := ⟨78, ⟨[(1, (.data int)), (2, (.ptr 2 [])), (6, (.data int)), (7, (.data int)), (8, (.data .b)), (9, (.data int))], [(2, tFlash, (.data tFlash))]⟩, 0, ⟨[(7, (.data int)), (8, (.data .b))], []⟩, ⟨[], []⟩, spec_ReadSetting_7_loop⟩
noncomputable def spec_ReadSetting_L : List (Nat × LoopSem) := [(7, spec_ReadSetting_7_ls)]
theorem spec_ReadSetting_7_lok : LoopOk spec_ReadSetting_G spec_ReadSetting_L (lp Try.f58 0) := loopOk_of (r := 7) (ls := spec_ReadSetting_7_ls) (R := fun x => spec_ReadSetting_7_R x.1.1 x.1.2.1 x.1.2.2.1 x.1.2.2.2.1 x.1.2.2.2.2.1 x.1.2.2.2.2.2.1 x.2.1) (by kernel_rfl) (by kernel_rfl) rfl (fun x => by kernel_rfl)
theorem spec_ReadSetting_snd : Sound Try.prog 58 spec_ReadSetting_sem := sound_pu' (L := spec_ReadSetting_L) (k := 1) spec_ReadSetting_env mixed Try.func58 (by kernel_rfl) (below_succ spec_ReadSetting_7_lok below_zero) (fun x => by kernel_rfl)

@[reducible] noncomputable def spec_l23Part_sem : FnSem := .pu (.p tFlash tAction) (.p int .u) [true] (fun x => spec_l23Part x.1 x.2.1 x.2.2.1 x.2.2.2.1 x.2.2.2.2.1)
noncomputable def spec_l23Part_G : Env := ⟨GT, [(58, spec_ReadSetting_sem), (38, spec_l1In_sem)]⟩
theorem spec_l23Part_env : EnvOk Try.prog spec_l23Part_G := EnvOk.cons spec_ReadSetting_snd (EnvOk.cons spec_l1In_snd (envOk_nil GT_ok))
noncomputable def spec_l23Part_L : List (Nat × LoopSem) := []
theorem spec_l23Part_snd : Sound Try.prog 30 spec_l23Part_sem := sound_pu' (L := spec_l23Part_L) (k := 0) spec_l23Part_env mixed Try.func30 (by kernel_rfl) below_zero (fun x => by kernel_rfl)

@[reducible] noncomputable def spec_StartTiming_sem : FnSem := .pu (.p tFlash .u) (.p tStep .u) [true] (fun x => spec_StartTiming x.1)
noncomputable def spec_StartTiming_G : Env := ⟨GT, [(30, spec_l23Part_sem)]⟩
theorem spec_StartTiming_env : EnvOk Try.prog spec_StartTiming_G := EnvOk.cons spec_l23Part_snd (envOk_nil GT_ok)
noncomputable def spec_StartTiming_L : List (Nat × LoopSem) := []
theorem spec_StartTiming_snd : Sound Try.prog 9 spec_StartTiming_sem := sound_pu' (L := spec_StartTiming_L) (k := 0) spec_StartTiming_env mixed Try.func9 (by kernel_rfl) below_zero (fun x => by kernel_rfl)

@[reducible] noncomputable def impl_IsFlash_sem : FnSem := .pu (.p tFlash .u) (.p .b .u) [true] (fun x => impl_IsFlash x.1)
noncomputable def impl_IsFlash_G : Env := ⟨GT, []⟩
theorem impl_IsFlash_env : EnvOk Try.prog impl_IsFlash_G := envOk_nil GT_ok
noncomputable def impl_IsFlash_9_ls : LoopSem := ⟨60, ⟨[(1, (.ptr 1 [])), (16, (.data int)), (46, (.data (.sl int))), (47, (.data int)), (48, (.data int))], [(1, tFlash, (.data tFlash))]⟩, 2, ⟨[(1, (.ptr 1 [])), (16, (.data int))], [(1, tFlash, (.data tFlash))]⟩, ⟨[(2, (.data .b))], []⟩, impl_IsFlash_9_loop⟩
noncomputable def impl_IsFlash_4_ls : LoopSem := ⟨60, ⟨[(1, (.ptr 1 [])), (16, (.data int))], [(1, tFlash, (.data tFlash))]⟩, 0, ⟨[], []⟩, ⟨[(2, (.data .b))], []⟩, impl_IsFlash_4_loop⟩
noncomputable def impl_IsFlash_L : List (Nat × LoopSem) := [(9, impl_IsFlash_9_ls), (4, impl_IsFlash_4_ls)]
theorem impl_IsFlash_9_lok : LoopOk impl_IsFlash_G impl_IsFlash_L (lp Try.f89 1) := loopOk_of (r := 9) (ls := impl_IsFlash_9_ls) (R := fun x => impl_IsFlash_9_R x.1.1 x.1.2.1 x.1.2.2.1 x.1.2.2.2.1 x.1.2.2.2.2.1 x.2.1) (by kernel_rfl) (by kernel_rfl) rfl (fun x => by kernel_rfl)
theorem impl_IsFlash_4_lok : LoopOk impl_IsFlash_G impl_IsFlash_L (lp Try.f89 0) := loopOk_of (r := 4) (ls := impl_IsFlash_4_ls) (R := fun x => impl_IsFlash_4_R x.1.1 x.1.2.1 x.2.1) (by kernel_rfl) (by kernel_rfl) rfl (fun x => by kernel_rfl)
theorem impl_IsFlash_snd : Sound Try.prog 89 impl_IsFlash_sem := sound_pu' (L := impl_IsFlash_L) (k := 2) impl_IsFlash_env mixed Try.func89 (by kernel_rfl) (below_succ impl_IsFlash_9_lok (below_succ impl_IsFlash_4_lok below_zero)) (fun x => by kernel_rfl)

@[reducible] noncomputable def impl_ActivePage_sem : FnSem := .pu (.p tFlash .u) (.p int .u) [true] (fun x => impl_ActivePage x.1)
noncomputable def impl_ActivePage_G : Env := ⟨GT, [(89, impl_IsFlash_sem)]⟩
theorem impl_ActivePage_env : EnvOk Try.prog impl_ActivePage_G := EnvOk.cons impl_IsFlash_snd (envOk_nil GT_ok)
noncomputable def impl_ActivePage_5_ls : LoopSem := ⟨48, ⟨[(1, (.ptr 1 [])), (3, (.data int)), (11, (.data (.sl (.sl int)))), (12, (.data int)), (13, (.data int))], [(1, tFlash, (.data tFlash))]⟩, 0, ⟨[(3, (.data int))], []⟩, ⟨[], []⟩, impl_ActivePage_5_loop⟩
noncomputable def impl_ActivePage_L : List (Nat × LoopSem) := [(5, impl_ActivePage_5_ls)]
theorem impl_ActivePage_5_lok : LoopOk impl_ActivePage_G impl_ActivePage_L (lp Try.f59 0) := loopOk_of (r := 5) (ls := impl_ActivePage_5_ls) (R := fun x => impl_ActivePage_5_R x.1.1 x.1.2.1 x.1.2.2.1 x.1.2.2.2.1 x.1.2.2.2.2.1 x.2.1) (by kernel_rfl) (by kernel_rfl) rfl (fun x => by kernel_rfl)
theorem impl_ActivePage_snd : Sound Try.prog 59 impl_ActivePage_sem := sound_pu' (L := impl_ActivePage_L) (k := 1) impl_ActivePage_env mixed Try.func59 (by kernel_rfl) (below_succ impl_ActivePage_5_lok below_zero) (fun x => by kernel_rfl)

@[reducible] noncomputable def impl_isSetting_sem : FnSem := .pu tCombo (.p .b .u) [true] (fun x => impl_isSetting x.1 x.2.1)
noncomputable def impl_isSetting_G : Env := ⟨GT, []⟩
theorem impl_isSetting_env : EnvOk Try.prog impl_isSetting_G := envOk_nil GT_ok
noncomputable def impl_isSetting_L : List (Nat × LoopSem) := []
theorem impl_isSetting_snd : Sound Try.prog 60 impl_isSetting_sem := sound_pu' (L := impl_isSetting_L) (k := 0) impl_isSetting_env mixed Try.func60 (by kernel_rfl) below_zero (fun x => by kernel_rfl)

@[reducible] noncomputable def impl_CheckOf_sem : FnSem := .pu tStep (.p int .u) [true] (fun x => impl_CheckOf x.1 x.2.1 x.2.2.1)
noncomputable def impl_CheckOf_G : Env := ⟨GT, [(60, impl_isSetting_sem)]⟩
theorem impl_CheckOf_env : EnvOk Try.prog impl_CheckOf_G := EnvOk.cons impl_isSetting_snd (envOk_nil GT_ok)
noncomputable def impl_CheckOf_L : List (Nat × LoopSem) := []
theorem impl_CheckOf_snd : Sound Try.prog 61 impl_CheckOf_sem := sound_pu' (L := impl_CheckOf_L) (k := 0) impl_CheckOf_env mixed Try.func61 (by kernel_rfl) below_zero (fun x => by kernel_rfl)

@[reducible] noncomputable def impl_ReadSetting_sem : FnSem := .pu (.p tFlash (.p int .u)) (.p int (.p .b .u)) [true, true] (fun x => impl_ReadSetting x.1 x.2.1)
noncomputable def impl_ReadSetting_G : Env := ⟨GT, [(59, impl_ActivePage_sem), (60, impl_isSetting_sem), (61, impl_CheckOf_sem)]⟩
theorem impl_ReadSetting_env : EnvOk Try.prog impl_ReadSetting_G := EnvOk.cons impl_ActivePage_snd (EnvOk.cons impl_isSetting_snd (EnvOk.cons impl_CheckOf_snd (envOk_nil GT_ok)))
noncomputable def impl_ReadSetting_6_ls : LoopSem := ⟨64, ⟨[(1, (.data int)), (7, (.data (.sl int))), (8, (.data int))], []⟩, 0, ⟨[], []⟩, ⟨[(4, (.data int)), (5, (.data .b))], []⟩, impl_ReadSetting_6_loop⟩
noncomputable def impl_ReadSetting_L : List (Nat × LoopSem) := [(6, impl_ReadSetting_6_ls)]
theorem impl_ReadSetting_6_lok : LoopOk impl_ReadSetting_G impl_ReadSetting_L (lp Try.f33 0) := loopOk_of (r := 6) (ls := impl_ReadSetting_6_ls) (R := fun x => impl_ReadSetting_6_R x.1.1 x.1.2.1 x.1.2.2.1) (by kernel_rfl) (by kernel_rfl) rfl (fun x => by kernel_rfl)
theorem impl_ReadSetting_snd : Sound Try.prog 33 impl_ReadSetting_sem := sound_pu' (L := impl_ReadSetting_L) (k := 1) impl_ReadSetting_env mixed Try.func33 (by kernel_rfl) (below_succ impl_ReadSetting_6_lok below_zero) (fun x => by kernel_rfl)

@[reducible] noncomputable def impl_StartTiming_sem : FnSem := .pu (.p tFlash .u) (.p tStep .u) [true] (fun x => impl_StartTiming x.1)
noncomputable def impl_StartTiming_G : Env := ⟨GT, [(33, impl_ReadSetting_sem)]⟩
theorem impl_StartTiming_env : EnvOk Try.prog impl_StartTiming_G := EnvOk.cons impl_ReadSetting_snd (envOk_nil GT_ok)
noncomputable def impl_StartTiming_L : List (Nat × LoopSem) := []
theorem impl_StartTiming_snd : Sound Try.prog 11 impl_StartTiming_sem := sound_pu' (L := impl_StartTiming_L) (k := 0) impl_StartTiming_env mixed Try.func11 (by kernel_rfl) below_zero (fun x => by kernel_rfl)

@[reducible] noncomputable def laws_eqTiming_sem : FnSem := .pu (.p tStep (.p tStep .u)) (.p .b .u) [true] (fun x => laws_eqTiming x.1 x.2.1)
noncomputable def laws_eqTiming_G : Env := ⟨GT, []⟩
theorem laws_eqTiming_env : EnvOk Try.prog laws_eqTiming_G := envOk_nil GT_ok
noncomputable def laws_eqTiming_L : List (Nat × LoopSem) := []
theorem laws_eqTiming_snd : Sound Try.prog 12 laws_eqTiming_sem := sound_pu' (L := laws_eqTiming_L) (k := 0) laws_eqTiming_env mixed Try.func12 (by kernel_rfl) below_zero (fun x => by kernel_rfl)

@[reducible] noncomputable def laws_eqIntS_sem : FnSem := .pu (.p (.sl int) (.p (.sl int) .u)) (.p .b .u) [true] (fun x => laws_eqIntS x.1 x.2.1)
noncomputable def laws_eqIntS_G : Env := ⟨GT, []⟩
theorem laws_eqIntS_env : EnvOk Try.prog laws_eqIntS_G := envOk_nil GT_ok
noncomputable def laws_eqIntS_4_ls : LoopSem := ⟨26, ⟨[(0, (.data (.sl int))), (1, (.data (.sl int))), (5, (.data int))], []⟩, 0, ⟨[], []⟩, ⟨[(4, (.data .b))], []⟩, laws_eqIntS_4_loop⟩
noncomputable def laws_eqIntS_L : List (Nat × LoopSem) := [(4, laws_eqIntS_4_ls)]
theorem laws_eqIntS_4_lok : LoopOk laws_eqIntS_G laws_eqIntS_L (lp Try.f35 0) := loopOk_of (r := 4) (ls := laws_eqIntS_4_ls) (R := fun x => laws_eqIntS_4_R x.1.1 x.1.2.1 x.1.2.2.1) (by kernel_rfl) (by kernel_rfl) rfl (fun x => by kernel_rfl)
theorem laws_eqIntS_snd : Sound Try.prog 35 laws_eqIntS_sem := sound_pu' (L := laws_eqIntS_L) (k := 1) laws_eqIntS_env mixed Try.func35 (by kernel_rfl) (below_succ laws_eqIntS_4_lok below_zero) (fun x => by kernel_rfl)

@[reducible] noncomputable def laws_eqIntSS_sem : FnSem := .pu (.p (.sl (.sl int)) (.p (.sl (.sl int)) .u)) (.p .b .u) [true] (fun x => laws_eqIntSS x.1 x.2.1)
noncomputable def laws_eqIntSS_G : Env := ⟨GT, [(35, laws_eqIntS_sem)]⟩
theorem laws_eqIntSS_env : EnvOk Try.prog laws_eqIntSS_G := EnvOk.cons laws_eqIntS_snd (envOk_nil GT_ok)
noncomputable def laws_eqIntSS_4_ls : LoopSem := ⟨27, ⟨[(0, (.data (.sl (.sl int)))), (1, (.data (.sl (.sl int)))), (5, (.data int))], []⟩, 0, ⟨[], []⟩, ⟨[(4, (.data .b))], []⟩, laws_eqIntSS_4_loop⟩
noncomputable def laws_eqIntSS_L : List (Nat × LoopSem) := [(4, laws_eqIntSS_4_ls)]
theorem laws_eqIntSS_4_lok : LoopOk laws_eqIntSS_G laws_eqIntSS_L (lp Try.f34 0) := loopOk_of (r := 4) (ls := laws_eqIntSS_4_ls) (R := fun x => laws_eqIntSS_4_R x.1.1 x.1.2.1 x.1.2.2.1) (by kernel_rfl) (by kernel_rfl) rfl (fun x => by kernel_rfl)
theorem laws_eqIntSS_snd : Sound Try.prog 34 laws_eqIntSS_sem := sound_pu' (L := laws_eqIntSS_L) (k := 1) laws_eqIntSS_env mixed Try.func34 (by kernel_rfl) (below_succ laws_eqIntSS_4_lok below_zero) (fun x => by kernel_rfl)

@[reducible] noncomputable def laws_eqFlash_sem : FnSem := .pu (.p tFlash (.p tFlash .u)) (.p .b .u) [true] (fun x => laws_eqFlash x.1 x.2.1)
noncomputable def laws_eqFlash_G : Env := ⟨GT, [(34, laws_eqIntSS_sem), (35, laws_eqIntS_sem)]⟩
theorem laws_eqFlash_env : EnvOk Try.prog laws_eqFlash_G := EnvOk.cons laws_eqIntSS_snd (EnvOk.cons laws_eqIntS_snd (envOk_nil GT_ok))
noncomputable def laws_eqFlash_L : List (Nat × LoopSem) := []
theorem laws_eqFlash_snd : Sound Try.prog 13 laws_eqFlash_sem := sound_pu' (L := laws_eqFlash_L) (k := 0) laws_eqFlash_env mixed Try.func13 (by kernel_rfl) below_zero (fun x => by kernel_rfl)

@[reducible] noncomputable def laws_FnExactStartTiming_sem : FnSem := .pu (.p tFlash .u) (.p .b .u) [true] (fun x => laws_FnExactStartTiming x.1)
noncomputable def laws_FnExactStartTiming_G : Env := ⟨GT, [(8, laws_szFlash_sem), (10, laws_toFlash_sem), (9, spec_StartTiming_sem), (11, impl_StartTiming_sem), (12, laws_eqTiming_sem), (13, laws_eqFlash_sem)]⟩
theorem laws_FnExactStartTiming_env : EnvOk Try.prog laws_FnExactStartTiming_G := EnvOk.cons laws_szFlash_snd (EnvOk.cons laws_toFlash_snd (EnvOk.cons spec_StartTiming_snd (EnvOk.cons impl_StartTiming_snd (EnvOk.cons laws_eqTiming_snd (EnvOk.cons laws_eqFlash_snd (envOk_nil GT_ok))))))
noncomputable def laws_FnExactStartTiming_L : List (Nat × LoopSem) := []
theorem laws_FnExactStartTiming_snd : Sound Try.prog 3 laws_FnExactStartTiming_sem := sound_pu' (L := laws_FnExactStartTiming_L) (k := 0) laws_FnExactStartTiming_env mixed Try.func3 (by kernel_rfl) below_zero (fun x => by kernel_rfl)
end KF
