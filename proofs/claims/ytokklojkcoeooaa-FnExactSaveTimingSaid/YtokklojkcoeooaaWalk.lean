/- Each Go function computes its plain function (no condition). -/
import Derived.Test.YtokklojkcoeooaaFns
import Derived.Test.YtokklojkcoeooaaRows
namespace KF
open Go Go.Proofs
def GT : List (Nat × Ty) := [(3, int), (4, .b), (22, (.sl (.sl int))), (23, (.sl int)), (25, tFlash), (27, tStep), (29, tFlash), (33, tStep), (40, (.sl tFlashOp)), (51, tFlashOp)]
theorem GT_ok : (GT.all fun x => tokB Try.prog x.2 x.1) = true := by kernel_rfl
theorem mixed : Try.prog.follows .mixedOrders = true := by kernel_rfl

@[reducible] noncomputable def laws_szIntS_sem : FnSem := .pu (.p (.sl int) (.p int .u)) (.p int .u) [true] (fun x => laws_szIntS x.1 x.2.1)
noncomputable def laws_szIntS_G : Env := ⟨GT, [], [], true⟩
theorem laws_szIntS_env : EnvOk Try.prog laws_szIntS_G := envOk_nil GT_ok
noncomputable def laws_szIntS_L : List (Nat × LoopSem) := []
theorem laws_szIntS_snd : Sound Try.prog 22 laws_szIntS_sem := sound_pu' (L := laws_szIntS_L) (k := 0) laws_szIntS_env mixed Try.func22 (by kernel_rfl) below_zero (fun x => by kernel_rfl)

@[reducible] noncomputable def laws_szIntSS_sem : FnSem := .pu (.p (.sl (.sl int)) (.p int .u)) (.p int .u) [true] (fun x => laws_szIntSS x.1 x.2.1)
noncomputable def laws_szIntSS_G : Env := ⟨GT, [(22, laws_szIntS_sem)], [], true⟩
theorem laws_szIntSS_env : EnvOk Try.prog laws_szIntSS_G := EnvOk.cons laws_szIntS_snd (envOk_nil GT_ok)
noncomputable def laws_szIntSS_5_ls : LoopSem := ⟨27, ⟨[(0, (.data (.sl (.sl int)))), (1, (.data int)), (5, (.data int))], []⟩, 0, ⟨[(1, (.data int))], []⟩, ⟨[(4, (.data int))], []⟩, laws_szIntSS_5_loop⟩
noncomputable def laws_szIntSS_L : List (Nat × LoopSem) := [(5, laws_szIntSS_5_ls)]
theorem laws_szIntSS_5_lok : LoopOk laws_szIntSS_G laws_szIntSS_L (lp Try.f21 0) := loopOk_of (r := 5) (ls := laws_szIntSS_5_ls) (R := fun x => laws_szIntSS_5_R x.1.1 x.1.2.1 x.1.2.2.1) (by kernel_rfl) (by kernel_rfl) rfl (fun x => by kernel_rfl)
theorem laws_szIntSS_snd : Sound Try.prog 21 laws_szIntSS_sem := sound_pu' (L := laws_szIntSS_L) (k := 1) laws_szIntSS_env mixed Try.func21 (by kernel_rfl) (below_succ laws_szIntSS_5_lok below_zero) (fun x => by kernel_rfl)

@[reducible] noncomputable def laws_szFlash_sem : FnSem := .pu (.p tFlash (.p int .u)) (.p int .u) [true] (fun x => laws_szFlash x.1 x.2.1)
noncomputable def laws_szFlash_G : Env := ⟨GT, [(21, laws_szIntSS_sem), (22, laws_szIntS_sem)], [], true⟩
theorem laws_szFlash_env : EnvOk Try.prog laws_szFlash_G := EnvOk.cons laws_szIntSS_snd (EnvOk.cons laws_szIntS_snd (envOk_nil GT_ok))
noncomputable def laws_szFlash_L : List (Nat × LoopSem) := []
theorem laws_szFlash_snd : Sound Try.prog 6 laws_szFlash_sem := sound_pu' (L := laws_szFlash_L) (k := 0) laws_szFlash_env mixed Try.func6 (by kernel_rfl) below_zero (fun x => by kernel_rfl)

@[reducible] noncomputable def laws_toIntS_sem : FnSem := .pu (.p (.sl int) .u) (.p (.sl int) .u) [true] (fun x => laws_toIntS x.1)
noncomputable def laws_toIntS_G : Env := ⟨GT, [], [], true⟩
theorem laws_toIntS_env : EnvOk Try.prog laws_toIntS_G := envOk_nil GT_ok
noncomputable def laws_toIntS_3_ls : LoopSem := ⟨22, ⟨[(0, (.data (.sl int))), (3, (.own 200001 int true)), (4, (.data int))], []⟩, 0, ⟨[(3, (.own 200001 int true))], []⟩, ⟨[], []⟩, laws_toIntS_3_loop⟩
noncomputable def laws_toIntS_L : List (Nat × LoopSem) := [(3, laws_toIntS_3_ls)]
theorem laws_toIntS_3_lok : LoopOk laws_toIntS_G laws_toIntS_L (lp Try.f27 0) := loopOk_of (r := 3) (ls := laws_toIntS_3_ls) (R := fun x => laws_toIntS_3_R x.1.1 x.1.2.1 x.1.2.2.1) (by kernel_rfl) (by kernel_rfl) rfl (fun x => by kernel_rfl)
theorem laws_toIntS_snd : Sound Try.prog 27 laws_toIntS_sem := sound_pu' (L := laws_toIntS_L) (k := 1) laws_toIntS_env mixed Try.func27 (by kernel_rfl) (below_succ laws_toIntS_3_lok below_zero) (fun x => by kernel_rfl)

@[reducible] noncomputable def laws_toIntSS_sem : FnSem := .pu (.p (.sl (.sl int)) .u) (.p (.sl (.sl int)) .u) [true] (fun x => laws_toIntSS x.1)
noncomputable def laws_toIntSS_G : Env := ⟨GT, [(27, laws_toIntS_sem)], [], true⟩
theorem laws_toIntSS_env : EnvOk Try.prog laws_toIntSS_G := EnvOk.cons laws_toIntS_snd (envOk_nil GT_ok)
noncomputable def laws_toIntSS_3_ls : LoopSem := ⟨23, ⟨[(0, (.data (.sl (.sl int)))), (3, (.own 200001 (.sl int) true)), (4, (.data int))], []⟩, 0, ⟨[(3, (.own 200001 (.sl int) true))], []⟩, ⟨[], []⟩, laws_toIntSS_3_loop⟩
noncomputable def laws_toIntSS_L : List (Nat × LoopSem) := [(3, laws_toIntSS_3_ls)]
theorem laws_toIntSS_3_lok : LoopOk laws_toIntSS_G laws_toIntSS_L (lp Try.f26 0) := loopOk_of (r := 3) (ls := laws_toIntSS_3_ls) (R := fun x => laws_toIntSS_3_R x.1.1 x.1.2.1 x.1.2.2.1) (by kernel_rfl) (by kernel_rfl) rfl (fun x => by kernel_rfl)
theorem laws_toIntSS_snd : Sound Try.prog 26 laws_toIntSS_sem := sound_pu' (L := laws_toIntSS_L) (k := 1) laws_toIntSS_env mixed Try.func26 (by kernel_rfl) (below_succ laws_toIntSS_3_lok below_zero) (fun x => by kernel_rfl)

@[reducible] noncomputable def laws_toFlash_sem : FnSem := .pu (.p tFlash .u) (.p tFlash .u) [true] (fun x => laws_toFlash x.1)
noncomputable def laws_toFlash_G : Env := ⟨GT, [(26, laws_toIntSS_sem), (27, laws_toIntS_sem)], [], true⟩
theorem laws_toFlash_env : EnvOk Try.prog laws_toFlash_G := EnvOk.cons laws_toIntSS_snd (EnvOk.cons laws_toIntS_snd (envOk_nil GT_ok))
noncomputable def laws_toFlash_L : List (Nat × LoopSem) := []
theorem laws_toFlash_snd : Sound Try.prog 8 laws_toFlash_sem := sound_pu' (L := laws_toFlash_L) (k := 0) laws_toFlash_env mixed Try.func8 (by kernel_rfl) below_zero (fun x => by kernel_rfl)

@[reducible] noncomputable def laws_toTiming_sem : FnSem := .pu (.p tStep .u) (.p tStep .u) [true] (fun x => laws_toTiming x.1)
noncomputable def laws_toTiming_G : Env := ⟨GT, [], [], true⟩
theorem laws_toTiming_env : EnvOk Try.prog laws_toTiming_G := envOk_nil GT_ok
noncomputable def laws_toTiming_L : List (Nat × LoopSem) := []
theorem laws_toTiming_snd : Sound Try.prog 9 laws_toTiming_sem := sound_pu' (L := laws_toTiming_L) (k := 0) laws_toTiming_env mixed Try.func9 (by kernel_rfl) below_zero (fun x => by kernel_rfl)

@[reducible] noncomputable def spec_l1In_sem : FnSem := .pu tStep (.p .b .u) [true] (fun x => spec_l1In x.1 x.2.1 x.2.2.1)
noncomputable def spec_l1In_G : Env := ⟨GT, [], [], true⟩
theorem spec_l1In_env : EnvOk Try.prog spec_l1In_G := envOk_nil GT_ok
noncomputable def spec_l1In_L : List (Nat × LoopSem) := []
theorem spec_l1In_snd : Sound Try.prog 23 spec_l1In_sem := sound_pu' (L := spec_l1In_L) (k := 0) spec_l1In_env mixed Try.func23 (by kernel_rfl) below_zero (fun x => by kernel_rfl)

@[reducible] noncomputable def spec_IsTiming_sem : FnSem := .pu (.p tStep .u) (.p .b .u) [true] (fun x => spec_IsTiming x.1)
noncomputable def spec_IsTiming_G : Env := ⟨GT, [(23, spec_l1In_sem)], [], true⟩
theorem spec_IsTiming_env : EnvOk Try.prog spec_IsTiming_G := EnvOk.cons spec_l1In_snd (envOk_nil GT_ok)
noncomputable def spec_IsTiming_L : List (Nat × LoopSem) := []
theorem spec_IsTiming_snd : Sound Try.prog 35 spec_IsTiming_sem := sound_pu' (L := spec_IsTiming_L) (k := 0) spec_IsTiming_env mixed Try.func35 (by kernel_rfl) below_zero (fun x => by kernel_rfl)

@[reducible] noncomputable def spec_IsFlash_sem : FnSem := .pu (.p tFlash .u) (.p .b .u) [true] (fun x => spec_IsFlash x.1)
noncomputable def spec_IsFlash_G : Env := ⟨GT, [(23, spec_l1In_sem)], [], true⟩
theorem spec_IsFlash_env : EnvOk Try.prog spec_IsFlash_G := EnvOk.cons spec_l1In_snd (envOk_nil GT_ok)
noncomputable def spec_IsFlash_9_ls : LoopSem := ⟨55, ⟨[(1, (.ptr 1 [])), (3, (.data int)), (4, (.data int))], [(1, tFlash, (.data tFlash))]⟩, 2, ⟨[(1, (.ptr 1 [])), (3, (.data int))], [(1, tFlash, (.data tFlash))]⟩, ⟨[(2, (.data .b))], []⟩, spec_IsFlash_9_loop⟩
noncomputable def spec_IsFlash_4_ls : LoopSem := ⟨55, ⟨[(1, (.ptr 1 [])), (3, (.data int))], [(1, tFlash, (.data tFlash))]⟩, 0, ⟨[], []⟩, ⟨[(2, (.data .b))], []⟩, spec_IsFlash_4_loop⟩
noncomputable def spec_IsFlash_L : List (Nat × LoopSem) := [(9, spec_IsFlash_9_ls), (4, spec_IsFlash_4_ls)]
theorem spec_IsFlash_9_lok : LoopOk spec_IsFlash_G spec_IsFlash_L (lp Try.f45 1) := loopOk_of (r := 9) (ls := spec_IsFlash_9_ls) (R := fun x => spec_IsFlash_9_R x.1.1 x.1.2.1 x.1.2.2.1 x.2.1) (by kernel_rfl) (by kernel_rfl) rfl (fun x => by kernel_rfl)
theorem spec_IsFlash_4_lok : LoopOk spec_IsFlash_G spec_IsFlash_L (lp Try.f45 0) := loopOk_of (r := 4) (ls := spec_IsFlash_4_ls) (R := fun x => spec_IsFlash_4_R x.1.1 x.1.2.1 x.2.1) (by kernel_rfl) (by kernel_rfl) rfl (fun x => by kernel_rfl)
theorem spec_IsFlash_snd : Sound Try.prog 45 spec_IsFlash_sem := sound_pu' (L := spec_IsFlash_L) (k := 2) spec_IsFlash_env mixed Try.func45 (by kernel_rfl) (below_succ spec_IsFlash_9_lok (below_succ spec_IsFlash_4_lok below_zero)) (fun x => by kernel_rfl)

@[reducible] noncomputable def spec_ActivePage_sem : FnSem := .pu (.p tFlash .u) (.p int .u) [true] (fun x => spec_ActivePage x.1)
noncomputable def spec_ActivePage_G : Env := ⟨GT, [(45, spec_IsFlash_sem), (23, spec_l1In_sem)], [], true⟩
theorem spec_ActivePage_env : EnvOk Try.prog spec_ActivePage_G := EnvOk.cons spec_IsFlash_snd (EnvOk.cons spec_l1In_snd (envOk_nil GT_ok))
noncomputable def spec_ActivePage_3_ls : LoopSem := ⟨40, ⟨[(1, (.ptr 1 [])), (3, (.data int)), (4, (.data int))], [(1, tFlash, (.data tFlash))]⟩, 0, ⟨[(3, (.data int))], []⟩, ⟨[], []⟩, spec_ActivePage_3_loop⟩
noncomputable def spec_ActivePage_L : List (Nat × LoopSem) := [(3, spec_ActivePage_3_ls)]
theorem spec_ActivePage_3_lok : LoopOk spec_ActivePage_G spec_ActivePage_L (lp Try.f36 0) := loopOk_of (r := 3) (ls := spec_ActivePage_3_ls) (R := fun x => spec_ActivePage_3_R x.1.1 x.1.2.1 x.1.2.2.1 x.2.1) (by kernel_rfl) (by kernel_rfl) rfl (fun x => by kernel_rfl)
theorem spec_ActivePage_snd : Sound Try.prog 36 spec_ActivePage_sem := sound_pu' (L := spec_ActivePage_L) (k := 1) spec_ActivePage_env mixed Try.func36 (by kernel_rfl) (below_succ spec_ActivePage_3_lok below_zero) (fun x => by kernel_rfl)

@[reducible] noncomputable def spec_CheckOf_sem : FnSem := .pu tStep (.p int .u) [true] (fun x => spec_CheckOf x.1 x.2.1 x.2.2.1)
noncomputable def spec_CheckOf_G : Env := ⟨GT, [(23, spec_l1In_sem)], [], true⟩
theorem spec_CheckOf_env : EnvOk Try.prog spec_CheckOf_G := EnvOk.cons spec_l1In_snd (envOk_nil GT_ok)
noncomputable def spec_CheckOf_L : List (Nat × LoopSem) := []
theorem spec_CheckOf_snd : Sound Try.prog 48 spec_CheckOf_sem := sound_pu' (L := spec_CheckOf_L) (k := 0) spec_CheckOf_env mixed Try.func48 (by kernel_rfl) below_zero (fun x => by kernel_rfl)

@[reducible] noncomputable def spec_ReadSetting_sem : FnSem := .pu (.p tFlash (.p int .u)) (.p int (.p .b .u)) [true, true] (fun x => spec_ReadSetting x.1 x.2.1)
noncomputable def spec_ReadSetting_G : Env := ⟨GT, [(36, spec_ActivePage_sem), (23, spec_l1In_sem), (48, spec_CheckOf_sem)], [], true⟩
theorem spec_ReadSetting_env : EnvOk Try.prog spec_ReadSetting_G := EnvOk.cons spec_ActivePage_snd (EnvOk.cons spec_l1In_snd (EnvOk.cons spec_CheckOf_snd (envOk_nil GT_ok)))
noncomputable def spec_ReadSetting_7_ls : LoopSem := ⟨78, ⟨[(1, (.data int)), (2, (.ptr 2 [])), (6, (.data int)), (7, (.data int)), (8, (.data .b)), (9, (.data int))], [(2, tFlash, (.data tFlash))]⟩, 0, ⟨[(7, (.data int)), (8, (.data .b))], []⟩, ⟨[], []⟩, spec_ReadSetting_7_loop⟩
noncomputable def spec_ReadSetting_L : List (Nat × LoopSem) := [(7, spec_ReadSetting_7_ls)]
theorem spec_ReadSetting_7_lok : LoopOk spec_ReadSetting_G spec_ReadSetting_L (lp Try.f37 0) := loopOk_of (r := 7) (ls := spec_ReadSetting_7_ls) (R := fun x => spec_ReadSetting_7_R x.1.1 x.1.2.1 x.1.2.2.1 x.1.2.2.2.1 x.1.2.2.2.2.1 x.1.2.2.2.2.2.1 x.2.1) (by kernel_rfl) (by kernel_rfl) rfl (fun x => by kernel_rfl)
theorem spec_ReadSetting_snd : Sound Try.prog 37 spec_ReadSetting_sem := sound_pu' (L := spec_ReadSetting_L) (k := 1) spec_ReadSetting_env mixed Try.func37 (by kernel_rfl) (below_succ spec_ReadSetting_7_lok below_zero) (fun x => by kernel_rfl)

@[reducible] noncomputable def spec_FreeRecord_sem : FnSem := .pu (.p tFlash (.p int .u)) (.p int .u) [true] (fun x => spec_FreeRecord x.1 x.2.1)
noncomputable def spec_FreeRecord_G : Env := ⟨GT, [(45, spec_IsFlash_sem), (23, spec_l1In_sem)], [], true⟩
theorem spec_FreeRecord_env : EnvOk Try.prog spec_FreeRecord_G := EnvOk.cons spec_IsFlash_snd (EnvOk.cons spec_l1In_snd (envOk_nil GT_ok))
noncomputable def spec_FreeRecord_8_ls : LoopSem := ⟨39, ⟨[(1, (.data int)), (2, (.ptr 2 [])), (5, (.data int)), (6, (.data int)), (7, (.data int))], [(2, tFlash, (.data tFlash))]⟩, 2, ⟨[(1, (.data int)), (2, (.ptr 2 [])), (6, (.data int))], [(2, tFlash, (.data tFlash))]⟩, ⟨[(4, (.data int))], []⟩, spec_FreeRecord_8_loop⟩
noncomputable def spec_FreeRecord_5_ls : LoopSem := ⟨39, ⟨[(1, (.data int)), (2, (.ptr 2 [])), (5, (.data int)), (6, (.data int))], [(2, tFlash, (.data tFlash))]⟩, 0, ⟨[(5, (.data int))], []⟩, ⟨[(4, (.data int))], []⟩, spec_FreeRecord_5_loop⟩
noncomputable def spec_FreeRecord_L : List (Nat × LoopSem) := [(8, spec_FreeRecord_8_ls), (5, spec_FreeRecord_5_ls)]
theorem spec_FreeRecord_8_lok : LoopOk spec_FreeRecord_G spec_FreeRecord_L (lp Try.f49 1) := loopOk_of (r := 8) (ls := spec_FreeRecord_8_ls) (R := fun x => spec_FreeRecord_8_R x.1.1 x.1.2.1 x.1.2.2.1 x.1.2.2.2.1 x.1.2.2.2.2.1 x.2.1) (by kernel_rfl) (by kernel_rfl) rfl (fun x => by kernel_rfl)
theorem spec_FreeRecord_5_lok : LoopOk spec_FreeRecord_G spec_FreeRecord_L (lp Try.f49 0) := loopOk_of (r := 5) (ls := spec_FreeRecord_5_ls) (R := fun x => spec_FreeRecord_5_R x.1.1 x.1.2.1 x.1.2.2.1 x.1.2.2.2.1 x.2.1) (by kernel_rfl) (by kernel_rfl) rfl (fun x => by kernel_rfl)
theorem spec_FreeRecord_snd : Sound Try.prog 49 spec_FreeRecord_sem := sound_pu' (L := spec_FreeRecord_L) (k := 2) spec_FreeRecord_env mixed Try.func49 (by kernel_rfl) (below_succ spec_FreeRecord_8_lok (below_succ spec_FreeRecord_5_lok below_zero)) (fun x => by kernel_rfl)

@[reducible] noncomputable def spec_l14Record_sem : FnSem := .pu (.p int tAction) (.p (.sl tFlashOp) .u) [true] (fun x => spec_l14Record x.1 x.2.1 x.2.2.1 x.2.2.2.1 x.2.2.2.2.1)
noncomputable def spec_l14Record_G : Env := ⟨GT, [(48, spec_CheckOf_sem)], [], true⟩
theorem spec_l14Record_env : EnvOk Try.prog spec_l14Record_G := EnvOk.cons spec_CheckOf_snd (envOk_nil GT_ok)
noncomputable def spec_l14Record_L : List (Nat × LoopSem) := []
theorem spec_l14Record_snd : Sound Try.prog 50 spec_l14Record_sem := sound_pu' (L := spec_l14Record_L) (k := 0) spec_l14Record_env mixed Try.func50 (by kernel_rfl) below_zero (fun x => by kernel_rfl)

@[reducible] noncomputable def spec_SettingOps_sem : FnSem := .pu (.p tFlash tCombo) (.p (.sl tFlashOp) (.p .b .u)) [true, true] (fun x => spec_SettingOps x.1 x.2.1 x.2.2.1)
noncomputable def spec_SettingOps_G : Env := ⟨GT, [(36, spec_ActivePage_sem), (23, spec_l1In_sem), (49, spec_FreeRecord_sem), (50, spec_l14Record_sem), (37, spec_ReadSetting_sem)], [], true⟩
theorem spec_SettingOps_env : EnvOk Try.prog spec_SettingOps_G := EnvOk.cons spec_ActivePage_snd (EnvOk.cons spec_l1In_snd (EnvOk.cons spec_FreeRecord_snd (EnvOk.cons spec_l14Record_snd (EnvOk.cons spec_ReadSetting_snd (envOk_nil GT_ok)))))
noncomputable def spec_SettingOps_13_ls : LoopSem := ⟨105, ⟨[(1, (.data int)), (2, (.data int)), (3, (.ptr 3 [])), (8, (.data int)), (10, (.data int)), (11, (.own 200001 tFlashOp true)), (12, (.data int)), (13, (.data int))], [(3, tFlash, (.data tFlash))]⟩, 0, ⟨[(8, (.data int)), (10, (.data int)), (11, (.own 200001 tFlashOp true))], []⟩, ⟨[], []⟩, spec_SettingOps_13_loop⟩
noncomputable def spec_SettingOps_L : List (Nat × LoopSem) := [(13, spec_SettingOps_13_ls)]
theorem spec_SettingOps_13_lok : LoopOk spec_SettingOps_G spec_SettingOps_L (lp Try.f38 0) := loopOk_of (r := 13) (ls := spec_SettingOps_13_ls) (R := fun x => spec_SettingOps_13_R x.1.1 x.1.2.1 x.1.2.2.1 x.1.2.2.2.1 x.1.2.2.2.2.1 x.1.2.2.2.2.2.1 x.1.2.2.2.2.2.2.1 x.1.2.2.2.2.2.2.2.1 x.2.1) (by kernel_rfl) (by kernel_rfl) rfl (fun x => by kernel_rfl)
theorem spec_SettingOps_snd : Sound Try.prog 38 spec_SettingOps_sem := sound_pu' (L := spec_SettingOps_L) (k := 1) spec_SettingOps_env mixed Try.func38 (by kernel_rfl) (below_succ spec_SettingOps_13_lok below_zero) (fun x => by kernel_rfl)

@[reducible] noncomputable def spec_l14Copy_sem : FnSem := .pu (.p tFlash .u) (.p tFlash .u) [true] (fun x => spec_l14Copy x.1)
noncomputable def spec_l14Copy_G : Env := ⟨GT, [], [], true⟩
theorem spec_l14Copy_env : EnvOk Try.prog spec_l14Copy_G := envOk_nil GT_ok
noncomputable def spec_l14Copy_3_ls : LoopSem := ⟨30, ⟨[(1, (.ptr 1 [])), (2, (.ptr 2 [])), (3, (.ptr 3 [])), (4, (.data int))], [(1, tFlash, (.data tFlash)), (2, tFlash, (.pr (.data (.sl (.sl int))) (.pr (.data (.sl int)) .un))), (3, tFlash, (.pr (.own 200001 (.sl int) true) (.pr (.own 200002 int true) .un)))]⟩, 0, ⟨[(2, (.ptr 2 [])), (3, (.ptr 3 []))], [(2, tFlash, (.pr (.data (.sl (.sl int))) (.pr (.data (.sl int)) .un))), (3, tFlash, (.pr (.own 200001 (.sl int) true) (.pr (.own 200002 int true) .un)))]⟩, ⟨[], []⟩, spec_l14Copy_3_loop⟩
noncomputable def spec_l14Copy_L : List (Nat × LoopSem) := [(3, spec_l14Copy_3_ls)]
theorem spec_l14Copy_3_lok : LoopOk spec_l14Copy_G spec_l14Copy_L (lp Try.f24 0) := loopOk_of (r := 3) (ls := spec_l14Copy_3_ls) (R := fun x => spec_l14Copy_3_R x.1.1 x.1.2.1 x.1.2.2.1 x.1.2.2.2.1 x.2.1 x.2.2.1 x.2.2.2.1) (by kernel_rfl) (by kernel_rfl) rfl (fun x => by kernel_rfl)
theorem spec_l14Copy_snd : Sound Try.prog 24 spec_l14Copy_sem := sound_pu' (L := spec_l14Copy_L) (k := 1) spec_l14Copy_env mixed Try.func24 (by kernel_rfl) (below_succ spec_l14Copy_3_lok below_zero) (fun x => by kernel_rfl)

@[reducible] noncomputable def spec_DoFlash_sem : FnSem := .pu (.p tFlash (.p tFlashOp .u)) (.p tFlash (.p .b .u)) [true, true] (fun x => spec_DoFlash x.1 x.2.1)
noncomputable def spec_DoFlash_G : Env := ⟨GT, [(45, spec_IsFlash_sem), (23, spec_l1In_sem), (24, spec_l14Copy_sem)], [(7999, 200001), (16999, 101216)], true⟩
theorem spec_DoFlash_env : EnvOk Try.prog spec_DoFlash_G := EnvOk.cons spec_IsFlash_snd (EnvOk.cons spec_l1In_snd (EnvOk.cons spec_l14Copy_snd (envOk_nil GT_ok)))
noncomputable def spec_DoFlash_6_ls : LoopSem := ⟨97, ⟨[(3, (.ptr 3 [])), (4, (.ptr 4 [])), (6, (.ptr 6 [])), (7, (.data int))], [(3, tFlashOp, (.data tFlashOp)), (4, tFlash, (.pr (.data (.sl (.sl int))) (.pr (.data (.sl int)) .un))), (6, tFlash, (.pr (.own 200001 (.sl int) true) (.pr (.own 200002 int true) .un)))]⟩, 0, ⟨[(3, (.ptr 3 [])), (4, (.ptr 4 [])), (6, (.ptr 6 []))], [(3, tFlashOp, (.data tFlashOp)), (4, tFlash, (.pr (.data (.sl (.sl int))) (.pr (.data (.sl int)) .un))), (6, tFlash, (.pr (.own 200001 (.sl int) true) (.pr (.own 200002 int true) .un)))]⟩, ⟨[], []⟩, spec_DoFlash_6_loop⟩
noncomputable def spec_DoFlash_L : List (Nat × LoopSem) := [(6, spec_DoFlash_6_ls)]
theorem spec_DoFlash_6_lok : LoopOk spec_DoFlash_G spec_DoFlash_L (lp Try.f25 0) := loopOk_of (r := 6) (ls := spec_DoFlash_6_ls) (R := fun x => spec_DoFlash_6_R x.1.1 x.1.2.1 x.1.2.2.1 x.1.2.2.2.1 x.2.1 x.2.2.1 x.2.2.2.1) (by kernel_rfl) (by kernel_rfl) rfl (fun x => by kernel_rfl)
theorem spec_DoFlash_snd : Sound Try.prog 25 spec_DoFlash_sem := sound_pu' (L := spec_DoFlash_L) (k := 1) spec_DoFlash_env mixed Try.func25 (by kernel_rfl) (below_succ spec_DoFlash_6_lok below_zero) (fun x => by kernel_rfl)

@[reducible] noncomputable def spec_CutSetting_sem : FnSem := .pu (.p tFlash tStep) (.p tFlash (.p .b .u)) [true, true] (fun x => spec_CutSetting x.1 x.2.1 x.2.2.1 x.2.2.2.1)
noncomputable def spec_CutSetting_G : Env := ⟨GT, [(38, spec_SettingOps_sem), (23, spec_l1In_sem), (24, spec_l14Copy_sem), (25, spec_DoFlash_sem)], [], true⟩
theorem spec_CutSetting_env : EnvOk Try.prog spec_CutSetting_G := EnvOk.cons spec_SettingOps_snd (EnvOk.cons spec_l1In_snd (EnvOk.cons spec_l14Copy_snd (EnvOk.cons spec_DoFlash_snd (envOk_nil GT_ok))))
noncomputable def spec_CutSetting_6_ls : LoopSem := ⟨54, ⟨[(3, (.data int)), (8, (.ptr 8 [])), (10, (.own 200001 tFlashOp true)), (12, (.ptr 12 [])), (13, (.data int))], [(8, tFlash, (.pr (.own 200002 (.sl int) true) (.pr (.own 200003 int true) .un))), (12, tFlash, (.pr (.own 200004 (.sl int) true) (.pr (.own 200005 int true) .un)))]⟩, 0, ⟨[(8, (.ptr 8 [])), (12, (.ptr 12 []))], [(8, tFlash, (.pr (.own 200001 (.sl int) true) (.pr (.own 200002 int true) .un))), (12, tFlash, (.pr (.own 200003 (.sl int) true) (.pr (.own 200004 int true) .un)))]⟩, ⟨[(8, (.ptr 8 [])), (9, (.data .b))], [(8, tFlash, (.pr (.own 200001 (.sl int) true) (.pr (.own 200002 int true) .un)))]⟩, spec_CutSetting_6_loop⟩
noncomputable def spec_CutSetting_L : List (Nat × LoopSem) := [(6, spec_CutSetting_6_ls)]
theorem spec_CutSetting_6_lok : LoopOk spec_CutSetting_G spec_CutSetting_L (lp Try.f51 0) := loopOk_of (r := 6) (ls := spec_CutSetting_6_ls) (R := fun x => spec_CutSetting_6_R x.1.1 x.1.2.1 x.1.2.2.1 x.1.2.2.2.1 x.1.2.2.2.2.1 x.2.1 x.2.2.1) (by kernel_rfl) (by kernel_rfl) rfl (fun x => by kernel_rfl)
theorem spec_CutSetting_snd : Sound Try.prog 51 spec_CutSetting_sem := sound_pu' (L := spec_CutSetting_L) (k := 1) spec_CutSetting_env mixed Try.func51 (by kernel_rfl) (below_succ spec_CutSetting_6_lok below_zero) (fun x => by kernel_rfl)

@[reducible] noncomputable def spec_WriteSetting_sem : FnSem := .pu (.p tFlash tCombo) (.p tFlash (.p .b .u)) [true, true] (fun x => spec_WriteSetting x.1 x.2.1 x.2.2.1)
noncomputable def spec_WriteSetting_G : Env := ⟨GT, [(38, spec_SettingOps_sem), (51, spec_CutSetting_sem)], [], true⟩
theorem spec_WriteSetting_env : EnvOk Try.prog spec_WriteSetting_G := EnvOk.cons spec_SettingOps_snd (EnvOk.cons spec_CutSetting_snd (envOk_nil GT_ok))
noncomputable def spec_WriteSetting_L : List (Nat × LoopSem) := []
theorem spec_WriteSetting_snd : Sound Try.prog 39 spec_WriteSetting_sem := sound_pu' (L := spec_WriteSetting_L) (k := 0) spec_WriteSetting_env mixed Try.func39 (by kernel_rfl) below_zero (fun x => by kernel_rfl)

@[reducible] noncomputable def spec_SaveOps_sem : FnSem := .pu (.p tFlash (.p tStep .u)) (.p (.sl tFlashOp) (.p .b .u)) [true, true] (fun x => spec_SaveOps x.1 x.2.1)
noncomputable def spec_SaveOps_G : Env := ⟨GT, [(35, spec_IsTiming_sem), (36, spec_ActivePage_sem), (37, spec_ReadSetting_sem), (38, spec_SettingOps_sem), (39, spec_WriteSetting_sem)], [(8999, 1000104608), (8999, 1000104609)], true⟩
theorem spec_SaveOps_env : EnvOk Try.prog spec_SaveOps_G := EnvOk.cons spec_IsTiming_snd (EnvOk.cons spec_ActivePage_snd (EnvOk.cons spec_ReadSetting_snd (EnvOk.cons spec_SettingOps_snd (EnvOk.cons spec_WriteSetting_snd (envOk_nil GT_ok)))))
noncomputable def spec_SaveOps_7_ls : LoopSem := ⟨87, ⟨[(6, (.own 200001 tFlashOp true)), (7, (.ptr 7 [])), (8, (.own 200002 int true)), (9, (.data int))], [(7, tFlash, (.pr (.data (.sl (.sl int))) (.pr (.data (.sl int)) (.data .u))))]⟩, 0, ⟨[(6, (.own 200001 tFlashOp true))], []⟩, ⟨[(4, (.own 200001 tFlashOp true)), (5, (.data .b))], []⟩, spec_SaveOps_7_loop⟩
noncomputable def spec_SaveOps_L : List (Nat × LoopSem) := [(7, spec_SaveOps_7_ls)]
theorem spec_SaveOps_7_lok : LoopOk spec_SaveOps_G spec_SaveOps_L (lp Try.f16 0) := loopOk_of (r := 7) (ls := spec_SaveOps_7_ls) (R := fun x => spec_SaveOps_7_R x.1.1 x.1.2.1 x.1.2.2.1 x.1.2.2.2.1 x.2.1) (by kernel_rfl) (by kernel_rfl) rfl (fun x => by kernel_rfl)
theorem spec_SaveOps_snd : Sound Try.prog 16 spec_SaveOps_sem := sound_pu' (L := spec_SaveOps_L) (k := 1) spec_SaveOps_env mixed Try.func16 (by kernel_rfl) (below_succ spec_SaveOps_7_lok below_zero) (fun x => by kernel_rfl)

@[reducible] noncomputable def spec_CutSave_sem : FnSem := .pu (.p tFlash (.p tStep (.p int .u))) (.p tFlash (.p .b .u)) [true, true] (fun x => spec_CutSave x.1 x.2.1 x.2.2.1)
noncomputable def spec_CutSave_G : Env := ⟨GT, [(16, spec_SaveOps_sem), (23, spec_l1In_sem), (24, spec_l14Copy_sem), (25, spec_DoFlash_sem)], [], true⟩
theorem spec_CutSave_env : EnvOk Try.prog spec_CutSave_G := EnvOk.cons spec_SaveOps_snd (EnvOk.cons spec_l1In_snd (EnvOk.cons spec_l14Copy_snd (EnvOk.cons spec_DoFlash_snd (envOk_nil GT_ok))))
noncomputable def spec_CutSave_6_ls : LoopSem := ⟨51, ⟨[(2, (.data int)), (6, (.ptr 6 [])), (8, (.own 200001 tFlashOp true)), (10, (.ptr 10 [])), (11, (.data int))], [(6, tFlash, (.pr (.own 200002 (.sl int) true) (.pr (.own 200003 int true) .un))), (10, tFlash, (.pr (.own 200004 (.sl int) true) (.pr (.own 200005 int true) .un)))]⟩, 0, ⟨[(6, (.ptr 6 [])), (10, (.ptr 10 []))], [(6, tFlash, (.pr (.own 200001 (.sl int) true) (.pr (.own 200002 int true) .un))), (10, tFlash, (.pr (.own 200003 (.sl int) true) (.pr (.own 200004 int true) .un)))]⟩, ⟨[(6, (.ptr 6 [])), (7, (.data .b))], [(6, tFlash, (.pr (.own 200001 (.sl int) true) (.pr (.own 200002 int true) .un)))]⟩, spec_CutSave_6_loop⟩
noncomputable def spec_CutSave_L : List (Nat × LoopSem) := [(6, spec_CutSave_6_ls)]
theorem spec_CutSave_6_lok : LoopOk spec_CutSave_G spec_CutSave_L (lp Try.f7 0) := loopOk_of (r := 6) (ls := spec_CutSave_6_ls) (R := fun x => spec_CutSave_6_R x.1.1 x.1.2.1 x.1.2.2.1 x.1.2.2.2.1 x.1.2.2.2.2.1 x.2.1 x.2.2.1) (by kernel_rfl) (by kernel_rfl) rfl (fun x => by kernel_rfl)
theorem spec_CutSave_snd : Sound Try.prog 7 spec_CutSave_sem := sound_pu' (L := spec_CutSave_L) (k := 1) spec_CutSave_env mixed Try.func7 (by kernel_rfl) (below_succ spec_CutSave_6_lok below_zero) (fun x => by kernel_rfl)

@[reducible] noncomputable def spec_SaveTiming_sem : FnSem := .pu (.p tFlash (.p tStep .u)) (.p tFlash (.p .b .u)) [true, true] (fun x => spec_SaveTiming x.1 x.2.1)
noncomputable def spec_SaveTiming_G : Env := ⟨GT, [(16, spec_SaveOps_sem), (7, spec_CutSave_sem)], [], true⟩
theorem spec_SaveTiming_env : EnvOk Try.prog spec_SaveTiming_G := EnvOk.cons spec_SaveOps_snd (EnvOk.cons spec_CutSave_snd (envOk_nil GT_ok))
noncomputable def spec_SaveTiming_L : List (Nat × LoopSem) := []
theorem spec_SaveTiming_snd : Sound Try.prog 14 spec_SaveTiming_sem := sound_pu' (L := spec_SaveTiming_L) (k := 0) spec_SaveTiming_env mixed Try.func14 (by kernel_rfl) below_zero (fun x => by kernel_rfl)

@[reducible] noncomputable def impl_IsTiming_sem : FnSem := .pu (.p tStep .u) (.p .b .u) [true] (fun x => impl_IsTiming x.1)
noncomputable def impl_IsTiming_G : Env := ⟨GT, [], [], true⟩
theorem impl_IsTiming_env : EnvOk Try.prog impl_IsTiming_G := envOk_nil GT_ok
noncomputable def impl_IsTiming_L : List (Nat × LoopSem) := []
theorem impl_IsTiming_snd : Sound Try.prog 40 impl_IsTiming_sem := sound_pu' (L := impl_IsTiming_L) (k := 0) impl_IsTiming_env mixed Try.func40 (by kernel_rfl) below_zero (fun x => by kernel_rfl)

@[reducible] noncomputable def impl_IsFlash_sem : FnSem := .pu (.p tFlash .u) (.p .b .u) [true] (fun x => impl_IsFlash x.1)
noncomputable def impl_IsFlash_G : Env := ⟨GT, [], [], true⟩
theorem impl_IsFlash_env : EnvOk Try.prog impl_IsFlash_G := envOk_nil GT_ok
noncomputable def impl_IsFlash_9_ls : LoopSem := ⟨60, ⟨[(1, (.ptr 1 [])), (16, (.data int)), (46, (.data (.sl int))), (47, (.data int)), (48, (.data int))], [(1, tFlash, (.data tFlash))]⟩, 2, ⟨[(1, (.ptr 1 [])), (16, (.data int))], [(1, tFlash, (.data tFlash))]⟩, ⟨[(2, (.data .b))], []⟩, impl_IsFlash_9_loop⟩
noncomputable def impl_IsFlash_4_ls : LoopSem := ⟨60, ⟨[(1, (.ptr 1 [])), (16, (.data int))], [(1, tFlash, (.data tFlash))]⟩, 0, ⟨[], []⟩, ⟨[(2, (.data .b))], []⟩, impl_IsFlash_4_loop⟩
noncomputable def impl_IsFlash_L : List (Nat × LoopSem) := [(9, impl_IsFlash_9_ls), (4, impl_IsFlash_4_ls)]
theorem impl_IsFlash_9_lok : LoopOk impl_IsFlash_G impl_IsFlash_L (lp Try.f52 1) := loopOk_of (r := 9) (ls := impl_IsFlash_9_ls) (R := fun x => impl_IsFlash_9_R x.1.1 x.1.2.1 x.1.2.2.1 x.1.2.2.2.1 x.1.2.2.2.2.1 x.2.1) (by kernel_rfl) (by kernel_rfl) rfl (fun x => by kernel_rfl)
theorem impl_IsFlash_4_lok : LoopOk impl_IsFlash_G impl_IsFlash_L (lp Try.f52 0) := loopOk_of (r := 4) (ls := impl_IsFlash_4_ls) (R := fun x => impl_IsFlash_4_R x.1.1 x.1.2.1 x.2.1) (by kernel_rfl) (by kernel_rfl) rfl (fun x => by kernel_rfl)
theorem impl_IsFlash_snd : Sound Try.prog 52 impl_IsFlash_sem := sound_pu' (L := impl_IsFlash_L) (k := 2) impl_IsFlash_env mixed Try.func52 (by kernel_rfl) (below_succ impl_IsFlash_9_lok (below_succ impl_IsFlash_4_lok below_zero)) (fun x => by kernel_rfl)

@[reducible] noncomputable def impl_ActivePage_sem : FnSem := .pu (.p tFlash .u) (.p int .u) [true] (fun x => impl_ActivePage x.1)
noncomputable def impl_ActivePage_G : Env := ⟨GT, [(52, impl_IsFlash_sem)], [], true⟩
theorem impl_ActivePage_env : EnvOk Try.prog impl_ActivePage_G := EnvOk.cons impl_IsFlash_snd (envOk_nil GT_ok)
noncomputable def impl_ActivePage_5_ls : LoopSem := ⟨48, ⟨[(1, (.ptr 1 [])), (3, (.data int)), (11, (.data (.sl (.sl int)))), (12, (.data int)), (13, (.data int))], [(1, tFlash, (.data tFlash))]⟩, 0, ⟨[(3, (.data int))], []⟩, ⟨[], []⟩, impl_ActivePage_5_loop⟩
noncomputable def impl_ActivePage_L : List (Nat × LoopSem) := [(5, impl_ActivePage_5_ls)]
theorem impl_ActivePage_5_lok : LoopOk impl_ActivePage_G impl_ActivePage_L (lp Try.f41 0) := loopOk_of (r := 5) (ls := impl_ActivePage_5_ls) (R := fun x => impl_ActivePage_5_R x.1.1 x.1.2.1 x.1.2.2.1 x.1.2.2.2.1 x.1.2.2.2.2.1 x.2.1) (by kernel_rfl) (by kernel_rfl) rfl (fun x => by kernel_rfl)
theorem impl_ActivePage_snd : Sound Try.prog 41 impl_ActivePage_sem := sound_pu' (L := impl_ActivePage_L) (k := 1) impl_ActivePage_env mixed Try.func41 (by kernel_rfl) (below_succ impl_ActivePage_5_lok below_zero) (fun x => by kernel_rfl)

@[reducible] noncomputable def impl_isSetting_sem : FnSem := .pu tCombo (.p .b .u) [true] (fun x => impl_isSetting x.1 x.2.1)
noncomputable def impl_isSetting_G : Env := ⟨GT, [], [], true⟩
theorem impl_isSetting_env : EnvOk Try.prog impl_isSetting_G := envOk_nil GT_ok
noncomputable def impl_isSetting_L : List (Nat × LoopSem) := []
theorem impl_isSetting_snd : Sound Try.prog 53 impl_isSetting_sem := sound_pu' (L := impl_isSetting_L) (k := 0) impl_isSetting_env mixed Try.func53 (by kernel_rfl) below_zero (fun x => by kernel_rfl)

@[reducible] noncomputable def impl_CheckOf_sem : FnSem := .pu tStep (.p int .u) [true] (fun x => impl_CheckOf x.1 x.2.1 x.2.2.1)
noncomputable def impl_CheckOf_G : Env := ⟨GT, [(53, impl_isSetting_sem)], [], true⟩
theorem impl_CheckOf_env : EnvOk Try.prog impl_CheckOf_G := EnvOk.cons impl_isSetting_snd (envOk_nil GT_ok)
noncomputable def impl_CheckOf_L : List (Nat × LoopSem) := []
theorem impl_CheckOf_snd : Sound Try.prog 54 impl_CheckOf_sem := sound_pu' (L := impl_CheckOf_L) (k := 0) impl_CheckOf_env mixed Try.func54 (by kernel_rfl) below_zero (fun x => by kernel_rfl)

@[reducible] noncomputable def impl_ReadSetting_sem : FnSem := .pu (.p tFlash (.p int .u)) (.p int (.p .b .u)) [true, true] (fun x => impl_ReadSetting x.1 x.2.1)
noncomputable def impl_ReadSetting_G : Env := ⟨GT, [(41, impl_ActivePage_sem), (53, impl_isSetting_sem), (54, impl_CheckOf_sem)], [], true⟩
theorem impl_ReadSetting_env : EnvOk Try.prog impl_ReadSetting_G := EnvOk.cons impl_ActivePage_snd (EnvOk.cons impl_isSetting_snd (EnvOk.cons impl_CheckOf_snd (envOk_nil GT_ok)))
noncomputable def impl_ReadSetting_6_ls : LoopSem := ⟨64, ⟨[(1, (.data int)), (7, (.data (.sl int))), (8, (.data int))], []⟩, 0, ⟨[], []⟩, ⟨[(4, (.data int)), (5, (.data .b))], []⟩, impl_ReadSetting_6_loop⟩
noncomputable def impl_ReadSetting_L : List (Nat × LoopSem) := [(6, impl_ReadSetting_6_ls)]
theorem impl_ReadSetting_6_lok : LoopOk impl_ReadSetting_G impl_ReadSetting_L (lp Try.f42 0) := loopOk_of (r := 6) (ls := impl_ReadSetting_6_ls) (R := fun x => impl_ReadSetting_6_R x.1.1 x.1.2.1 x.1.2.2.1) (by kernel_rfl) (by kernel_rfl) rfl (fun x => by kernel_rfl)
theorem impl_ReadSetting_snd : Sound Try.prog 42 impl_ReadSetting_sem := sound_pu' (L := impl_ReadSetting_L) (k := 1) impl_ReadSetting_env mixed Try.func42 (by kernel_rfl) (below_succ impl_ReadSetting_6_lok below_zero) (fun x => by kernel_rfl)

@[reducible] noncomputable def impl_FreeRecord_sem : FnSem := .pu (.p tFlash (.p int .u)) (.p int .u) [true] (fun x => impl_FreeRecord x.1 x.2.1)
noncomputable def impl_FreeRecord_G : Env := ⟨GT, [(52, impl_IsFlash_sem)], [], true⟩
theorem impl_FreeRecord_env : EnvOk Try.prog impl_FreeRecord_G := EnvOk.cons impl_IsFlash_snd (envOk_nil GT_ok)
noncomputable def impl_FreeRecord_4_ls : LoopSem := ⟨51, ⟨[(1, (.data int)), (2, (.ptr 2 [])), (5, (.data int))], [(2, tFlash, (.data tFlash))]⟩, 0, ⟨[(5, (.data int))], []⟩, ⟨[], []⟩, impl_FreeRecord_4_loop⟩
noncomputable def impl_FreeRecord_L : List (Nat × LoopSem) := [(4, impl_FreeRecord_4_ls)]
theorem impl_FreeRecord_4_lok : LoopOk impl_FreeRecord_G impl_FreeRecord_L (lp Try.f55 0) := loopOk_of (r := 4) (ls := impl_FreeRecord_4_ls) (R := fun x => impl_FreeRecord_4_R x.1.1 x.1.2.1 x.1.2.2.1 x.2.1) (by kernel_rfl) (by kernel_rfl) rfl (fun x => by kernel_rfl)
theorem impl_FreeRecord_snd : Sound Try.prog 55 impl_FreeRecord_sem := sound_pu' (L := impl_FreeRecord_L) (k := 1) impl_FreeRecord_env mixed Try.func55 (by kernel_rfl) (below_succ impl_FreeRecord_4_lok below_zero) (fun x => by kernel_rfl)

@[reducible] noncomputable def impl_recordOps_sem : FnSem := .pu (.p int tAction) (.p (.sl tFlashOp) .u) [true] (fun x => impl_recordOps x.1 x.2.1 x.2.2.1 x.2.2.2.1 x.2.2.2.2.1)
noncomputable def impl_recordOps_G : Env := ⟨GT, [(54, impl_CheckOf_sem)], [], true⟩
theorem impl_recordOps_env : EnvOk Try.prog impl_recordOps_G := EnvOk.cons impl_CheckOf_snd (envOk_nil GT_ok)
noncomputable def impl_recordOps_3_ls : LoopSem := ⟨40, ⟨[(0, (.data int)), (1, (.data int)), (11, (.own 200001 tFlashOp true)), (20, (.own 200002 int true)), (21, (.data int)), (22, (.data int))], []⟩, 0, ⟨[(11, (.own 200001 tFlashOp true))], []⟩, ⟨[], []⟩, impl_recordOps_3_loop⟩
noncomputable def impl_recordOps_L : List (Nat × LoopSem) := [(3, impl_recordOps_3_ls)]
theorem impl_recordOps_3_lok : LoopOk impl_recordOps_G impl_recordOps_L (lp Try.f56 0) := loopOk_of (r := 3) (ls := impl_recordOps_3_ls) (R := fun x => impl_recordOps_3_R x.1.1 x.1.2.1 x.1.2.2.1 x.1.2.2.2.1 x.1.2.2.2.2.1 x.1.2.2.2.2.2.1) (by kernel_rfl) (by kernel_rfl) rfl (fun x => by kernel_rfl)
theorem impl_recordOps_snd : Sound Try.prog 56 impl_recordOps_sem := sound_pu' (L := impl_recordOps_L) (k := 1) impl_recordOps_env mixed Try.func56 (by kernel_rfl) (below_succ impl_recordOps_3_lok below_zero) (fun x => by kernel_rfl)

@[reducible] noncomputable def impl_SettingOps_sem : FnSem := .pu (.p tFlash tCombo) (.p (.sl tFlashOp) (.p .b .u)) [true, true] (fun x => impl_SettingOps x.1 x.2.1 x.2.2.1)
noncomputable def impl_SettingOps_G : Env := ⟨GT, [(41, impl_ActivePage_sem), (53, impl_isSetting_sem), (55, impl_FreeRecord_sem), (56, impl_recordOps_sem), (42, impl_ReadSetting_sem)], [], true⟩
theorem impl_SettingOps_env : EnvOk Try.prog impl_SettingOps_G := EnvOk.cons impl_ActivePage_snd (EnvOk.cons impl_isSetting_snd (EnvOk.cons impl_FreeRecord_snd (EnvOk.cons impl_recordOps_snd (EnvOk.cons impl_ReadSetting_snd (envOk_nil GT_ok)))))
noncomputable def impl_SettingOps_14_ls : LoopSem := ⟨93, ⟨[(1, (.data int)), (2, (.data int)), (3, (.ptr 3 [])), (9, (.data int)), (11, (.data int)), (12, (.own 200001 tFlashOp true)), (13, (.data int)), (60, (.data int))], [(3, tFlash, (.data tFlash))]⟩, 0, ⟨[(9, (.data int)), (11, (.data int)), (12, (.own 200001 tFlashOp true))], []⟩, ⟨[], []⟩, impl_SettingOps_14_loop⟩
noncomputable def impl_SettingOps_L : List (Nat × LoopSem) := [(14, impl_SettingOps_14_ls)]
theorem impl_SettingOps_14_lok : LoopOk impl_SettingOps_G impl_SettingOps_L (lp Try.f43 0) := loopOk_of (r := 14) (ls := impl_SettingOps_14_ls) (R := fun x => impl_SettingOps_14_R x.1.1 x.1.2.1 x.1.2.2.1 x.1.2.2.2.1 x.1.2.2.2.2.1 x.1.2.2.2.2.2.1 x.1.2.2.2.2.2.2.1 x.1.2.2.2.2.2.2.2.1 x.2.1) (by kernel_rfl) (by kernel_rfl) rfl (fun x => by kernel_rfl)
theorem impl_SettingOps_snd : Sound Try.prog 43 impl_SettingOps_sem := sound_pu' (L := impl_SettingOps_L) (k := 1) impl_SettingOps_env mixed Try.func43 (by kernel_rfl) (below_succ impl_SettingOps_14_lok below_zero) (fun x => by kernel_rfl)

@[reducible] noncomputable def impl_copyInts_sem : FnSem := .pu (.p (.sl int) .u) (.p (.sl int) .u) [true] (fun x => impl_copyInts x.1)
noncomputable def impl_copyInts_G : Env := ⟨GT, [], [], true⟩
theorem impl_copyInts_env : EnvOk Try.prog impl_copyInts_G := envOk_nil GT_ok
noncomputable def impl_copyInts_L : List (Nat × LoopSem) := []
theorem impl_copyInts_snd : Sound Try.prog 57 impl_copyInts_sem := sound_pu' (L := impl_copyInts_L) (k := 0) impl_copyInts_env mixed Try.func57 (by kernel_rfl) below_zero (fun x => by kernel_rfl)

@[reducible] noncomputable def impl_copyFlash_sem : FnSem := .pu (.p tFlash .u) (.p tFlash .u) [true] (fun x => impl_copyFlash x.1)
noncomputable def impl_copyFlash_G : Env := ⟨GT, [(57, impl_copyInts_sem)], [], true⟩
theorem impl_copyFlash_env : EnvOk Try.prog impl_copyFlash_G := EnvOk.cons impl_copyInts_snd (envOk_nil GT_ok)
noncomputable def impl_copyFlash_3_ls : LoopSem := ⟨26, ⟨[(2, (.ptr 2 [])), (3, (.ptr 3 [])), (11, (.data (.sl (.sl int)))), (12, (.data int)), (13, (.data int))], [(2, tFlash, (.pr (.data (.sl (.sl int))) (.pr (.data (.sl int)) .un))), (3, tFlash, (.pr (.own 200001 (.sl int) true) (.pr (.own 200002 int true) .un)))]⟩, 0, ⟨[(2, (.ptr 2 [])), (3, (.ptr 3 []))], [(2, tFlash, (.pr (.data (.sl (.sl int))) (.pr (.data (.sl int)) .un))), (3, tFlash, (.pr (.own 200001 (.sl int) true) (.pr (.own 200002 int true) .un)))]⟩, ⟨[], []⟩, impl_copyFlash_3_loop⟩
noncomputable def impl_copyFlash_L : List (Nat × LoopSem) := [(3, impl_copyFlash_3_ls)]
theorem impl_copyFlash_3_lok : LoopOk impl_copyFlash_G impl_copyFlash_L (lp Try.f46 0) := loopOk_of (r := 3) (ls := impl_copyFlash_3_ls) (R := fun x => impl_copyFlash_3_R x.1.1 x.1.2.1 x.1.2.2.1 x.1.2.2.2.1 x.1.2.2.2.2.1 x.2.1 x.2.2.1) (by kernel_rfl) (by kernel_rfl) rfl (fun x => by kernel_rfl)
theorem impl_copyFlash_snd : Sound Try.prog 46 impl_copyFlash_sem := sound_pu' (L := impl_copyFlash_L) (k := 1) impl_copyFlash_env mixed Try.func46 (by kernel_rfl) (below_succ impl_copyFlash_3_lok below_zero) (fun x => by kernel_rfl)

@[reducible] noncomputable def impl_DoFlash_sem : FnSem := .pu (.p tFlash (.p tFlashOp .u)) (.p tFlash (.p .b .u)) [true, true] (fun x => impl_DoFlash x.1 x.2.1)
noncomputable def impl_DoFlash_G : Env := ⟨GT, [(52, impl_IsFlash_sem), (46, impl_copyFlash_sem)], [(14999, 200001), (18999, 101536)], true⟩
theorem impl_DoFlash_env : EnvOk Try.prog impl_DoFlash_G := EnvOk.cons impl_IsFlash_snd (EnvOk.cons impl_copyFlash_snd (envOk_nil GT_ok))
noncomputable def impl_DoFlash_9_ls : LoopSem := ⟨110, ⟨[(3, (.ptr 3 [])), (4, (.ptr 4 [])), (6, (.ptr 6 [])), (7, (.own 200001 int true)), (58, (.data int)), (59, (.data int))], [(3, tFlashOp, (.data tFlashOp)), (4, tFlash, (.pr (.data (.sl (.sl int))) (.pr (.data (.sl int)) .un))), (6, tFlash, (.pr (.hol 200002 (.sl int) [] (.sl int) (.own 200001 int true)) (.pr (.own 200003 int true) .un)))]⟩, 1, ⟨[(3, (.ptr 3 [])), (4, (.ptr 4 [])), (6, (.ptr 6 []))], [(3, tFlashOp, (.data tFlashOp)), (4, tFlash, (.pr (.data (.sl (.sl int))) (.pr (.data (.sl int)) .un))), (6, tFlash, (.pr (.hol 200001 (.sl int) [] (.sl int) (.own 200002 int true)) (.pr (.own 200003 int true) .un)))]⟩, ⟨[], []⟩, impl_DoFlash_9_loop⟩
noncomputable def impl_DoFlash_L : List (Nat × LoopSem) := [(9, impl_DoFlash_9_ls)]
theorem impl_DoFlash_9_lok : LoopOk impl_DoFlash_G impl_DoFlash_L (lp Try.f47 0) := loopOk_of (r := 9) (ls := impl_DoFlash_9_ls) (R := fun x => impl_DoFlash_9_R x.1.1 x.1.2.1 x.1.2.2.1 x.1.2.2.2.1 x.1.2.2.2.2.1 x.1.2.2.2.2.2.1 x.2.1 x.2.2.1 x.2.2.2.1) (by kernel_rfl) (by kernel_rfl) rfl (fun x => by kernel_rfl)
theorem impl_DoFlash_snd : Sound Try.prog 47 impl_DoFlash_sem := sound_pu' (L := impl_DoFlash_L) (k := 1) impl_DoFlash_env mixed Try.func47 (by kernel_rfl) (below_succ impl_DoFlash_9_lok below_zero) (fun x => by kernel_rfl)

@[reducible] noncomputable def impl_doOps_sem : FnSem := .pu (.p tFlash (.p (.sl tFlashOp) .u)) (.p tFlash (.p .b .u)) [true, true] (fun x => impl_doOps x.1 x.2.1)
noncomputable def impl_doOps_G : Env := ⟨GT, [(46, impl_copyFlash_sem), (47, impl_DoFlash_sem)], [], true⟩
theorem impl_doOps_env : EnvOk Try.prog impl_doOps_G := EnvOk.cons impl_copyFlash_snd (EnvOk.cons impl_DoFlash_snd (envOk_nil GT_ok))
noncomputable def impl_doOps_3_ls : LoopSem := ⟨31, ⟨[(4, (.ptr 4 [])), (6, (.ptr 6 [])), (13, (.data (.sl tFlashOp))), (14, (.data int)), (15, (.data int))], [(4, tFlash, (.pr (.own 200001 (.sl int) true) (.pr (.own 200002 int true) .un))), (6, tFlash, (.pr (.own 200003 (.sl int) true) (.pr (.own 200004 int true) .un)))]⟩, 0, ⟨[(4, (.ptr 4 [])), (6, (.ptr 6 []))], [(4, tFlash, (.pr (.own 200001 (.sl int) true) (.pr (.own 200002 int true) .un))), (6, tFlash, (.pr (.own 200003 (.sl int) true) (.pr (.own 200004 int true) .un)))]⟩, ⟨[(4, (.ptr 4 [])), (5, (.data .b))], [(4, tFlash, (.pr (.own 200001 (.sl int) true) (.pr (.own 200002 int true) .un)))]⟩, impl_doOps_3_loop⟩
noncomputable def impl_doOps_L : List (Nat × LoopSem) := [(3, impl_doOps_3_ls)]
theorem impl_doOps_3_lok : LoopOk impl_doOps_G impl_doOps_L (lp Try.f28 0) := loopOk_of (r := 3) (ls := impl_doOps_3_ls) (R := fun x => impl_doOps_3_R x.1.1 x.1.2.1 x.1.2.2.1 x.1.2.2.2.1 x.1.2.2.2.2.1 x.2.1 x.2.2.1) (by kernel_rfl) (by kernel_rfl) rfl (fun x => by kernel_rfl)
theorem impl_doOps_snd : Sound Try.prog 28 impl_doOps_sem := sound_pu' (L := impl_doOps_L) (k := 1) impl_doOps_env mixed Try.func28 (by kernel_rfl) (below_succ impl_doOps_3_lok below_zero) (fun x => by kernel_rfl)

@[reducible] noncomputable def impl_SaveOps_sem : FnSem := .pu (.p tFlash (.p tStep .u)) (.p (.sl tFlashOp) (.p .b .u)) [true, true] (fun x => impl_SaveOps x.1 x.2.1)
noncomputable def impl_SaveOps_G : Env := ⟨GT, [(40, impl_IsTiming_sem), (41, impl_ActivePage_sem), (42, impl_ReadSetting_sem), (43, impl_SettingOps_sem), (28, impl_doOps_sem)], [(14999, 1000103904), (14999, 1000103905)], true⟩
theorem impl_SaveOps_env : EnvOk Try.prog impl_SaveOps_G := EnvOk.cons impl_IsTiming_snd (EnvOk.cons impl_ActivePage_snd (EnvOk.cons impl_ReadSetting_snd (EnvOk.cons impl_SettingOps_snd (EnvOk.cons impl_doOps_snd (envOk_nil GT_ok)))))
noncomputable def impl_SaveOps_5_ls : LoopSem := ⟨66, ⟨[(2, (.ptr 2 [])), (6, (.own 200001 tFlashOp true)), (27, (.own 200002 int true)), (28, (.data int)), (29, (.data int))], [(2, tFlash, (.pr (.data (.sl (.sl int))) (.pr (.data (.sl int)) (.data .u))))]⟩, 0, ⟨[(6, (.own 200001 tFlashOp true))], []⟩, ⟨[(4, (.own 200001 tFlashOp true)), (5, (.data .b))], []⟩, impl_SaveOps_5_loop⟩
noncomputable def impl_SaveOps_L : List (Nat × LoopSem) := [(5, impl_SaveOps_5_ls)]
theorem impl_SaveOps_5_lok : LoopOk impl_SaveOps_G impl_SaveOps_L (lp Try.f17 0) := loopOk_of (r := 5) (ls := impl_SaveOps_5_ls) (R := fun x => impl_SaveOps_5_R x.1.1 x.1.2.1 x.1.2.2.1 x.1.2.2.2.1 x.1.2.2.2.2.1 x.2.1) (by kernel_rfl) (by kernel_rfl) rfl (fun x => by kernel_rfl)
theorem impl_SaveOps_snd : Sound Try.prog 17 impl_SaveOps_sem := sound_pu' (L := impl_SaveOps_L) (k := 1) impl_SaveOps_env mixed Try.func17 (by kernel_rfl) (below_succ impl_SaveOps_5_lok below_zero) (fun x => by kernel_rfl)

@[reducible] noncomputable def impl_SaveTiming_sem : FnSem := .pu (.p tFlash (.p tStep .u)) (.p tFlash (.p .b .u)) [true, true] (fun x => impl_SaveTiming x.1 x.2.1)
noncomputable def impl_SaveTiming_G : Env := ⟨GT, [(17, impl_SaveOps_sem), (28, impl_doOps_sem)], [], true⟩
theorem impl_SaveTiming_env : EnvOk Try.prog impl_SaveTiming_G := EnvOk.cons impl_SaveOps_snd (EnvOk.cons impl_doOps_snd (envOk_nil GT_ok))
noncomputable def impl_SaveTiming_L : List (Nat × LoopSem) := []
theorem impl_SaveTiming_snd : Sound Try.prog 15 impl_SaveTiming_sem := sound_pu' (L := impl_SaveTiming_L) (k := 0) impl_SaveTiming_env mixed Try.func15 (by kernel_rfl) below_zero (fun x => by kernel_rfl)

@[reducible] noncomputable def laws_eqIntS_sem : FnSem := .pu (.p (.sl int) (.p (.sl int) .u)) (.p .b .u) [true] (fun x => laws_eqIntS x.1 x.2.1)
noncomputable def laws_eqIntS_G : Env := ⟨GT, [], [], true⟩
theorem laws_eqIntS_env : EnvOk Try.prog laws_eqIntS_G := envOk_nil GT_ok
noncomputable def laws_eqIntS_4_ls : LoopSem := ⟨26, ⟨[(0, (.data (.sl int))), (1, (.data (.sl int))), (5, (.data int))], []⟩, 0, ⟨[], []⟩, ⟨[(4, (.data .b))], []⟩, laws_eqIntS_4_loop⟩
noncomputable def laws_eqIntS_L : List (Nat × LoopSem) := [(4, laws_eqIntS_4_ls)]
theorem laws_eqIntS_4_lok : LoopOk laws_eqIntS_G laws_eqIntS_L (lp Try.f30 0) := loopOk_of (r := 4) (ls := laws_eqIntS_4_ls) (R := fun x => laws_eqIntS_4_R x.1.1 x.1.2.1 x.1.2.2.1) (by kernel_rfl) (by kernel_rfl) rfl (fun x => by kernel_rfl)
theorem laws_eqIntS_snd : Sound Try.prog 30 laws_eqIntS_sem := sound_pu' (L := laws_eqIntS_L) (k := 1) laws_eqIntS_env mixed Try.func30 (by kernel_rfl) (below_succ laws_eqIntS_4_lok below_zero) (fun x => by kernel_rfl)

@[reducible] noncomputable def laws_eqIntSS_sem : FnSem := .pu (.p (.sl (.sl int)) (.p (.sl (.sl int)) .u)) (.p .b .u) [true] (fun x => laws_eqIntSS x.1 x.2.1)
noncomputable def laws_eqIntSS_G : Env := ⟨GT, [(30, laws_eqIntS_sem)], [], true⟩
theorem laws_eqIntSS_env : EnvOk Try.prog laws_eqIntSS_G := EnvOk.cons laws_eqIntS_snd (envOk_nil GT_ok)
noncomputable def laws_eqIntSS_4_ls : LoopSem := ⟨27, ⟨[(0, (.data (.sl (.sl int)))), (1, (.data (.sl (.sl int)))), (5, (.data int))], []⟩, 0, ⟨[], []⟩, ⟨[(4, (.data .b))], []⟩, laws_eqIntSS_4_loop⟩
noncomputable def laws_eqIntSS_L : List (Nat × LoopSem) := [(4, laws_eqIntSS_4_ls)]
theorem laws_eqIntSS_4_lok : LoopOk laws_eqIntSS_G laws_eqIntSS_L (lp Try.f29 0) := loopOk_of (r := 4) (ls := laws_eqIntSS_4_ls) (R := fun x => laws_eqIntSS_4_R x.1.1 x.1.2.1 x.1.2.2.1) (by kernel_rfl) (by kernel_rfl) rfl (fun x => by kernel_rfl)
theorem laws_eqIntSS_snd : Sound Try.prog 29 laws_eqIntSS_sem := sound_pu' (L := laws_eqIntSS_L) (k := 1) laws_eqIntSS_env mixed Try.func29 (by kernel_rfl) (below_succ laws_eqIntSS_4_lok below_zero) (fun x => by kernel_rfl)

@[reducible] noncomputable def laws_eqFlash_sem : FnSem := .pu (.p tFlash (.p tFlash .u)) (.p .b .u) [true] (fun x => laws_eqFlash x.1 x.2.1)
noncomputable def laws_eqFlash_G : Env := ⟨GT, [(29, laws_eqIntSS_sem), (30, laws_eqIntS_sem)], [], true⟩
theorem laws_eqFlash_env : EnvOk Try.prog laws_eqFlash_G := EnvOk.cons laws_eqIntSS_snd (EnvOk.cons laws_eqIntS_snd (envOk_nil GT_ok))
noncomputable def laws_eqFlash_L : List (Nat × LoopSem) := []
theorem laws_eqFlash_snd : Sound Try.prog 11 laws_eqFlash_sem := sound_pu' (L := laws_eqFlash_L) (k := 0) laws_eqFlash_env mixed Try.func11 (by kernel_rfl) below_zero (fun x => by kernel_rfl)

@[reducible] noncomputable def laws_markIntS_sem : FnSem := .io (.sl int) (.p int .u) (.p int .u) [true] (fun x0 x => laws_markIntS x0 x.1)
noncomputable def laws_markIntS_G : Env := ⟨GT, [], [], false⟩
theorem laws_markIntS_env : EnvOk Try.prog laws_markIntS_G := envOk_nil GT_ok
noncomputable def laws_markIntS_2_ls : LoopSem := ⟨19, ⟨[(0, (.own 500000 int true)), (1, (.data int)), (5, (.data int))], []⟩, 0, ⟨[(0, (.own 500000 int true)), (1, (.data int))], []⟩, ⟨[], []⟩, laws_markIntS_2_loop⟩
noncomputable def laws_markIntS_L : List (Nat × LoopSem) := [(2, laws_markIntS_2_ls)]
theorem laws_markIntS_2_lok : LoopOk laws_markIntS_G laws_markIntS_L (lp Try.f32 0) := loopOk_of (r := 2) (ls := laws_markIntS_2_ls) (R := fun x => laws_markIntS_2_R x.1.1 x.1.2.1 x.1.2.2.1) (by kernel_rfl) (by kernel_rfl) rfl (fun x => by kernel_rfl)
theorem laws_markIntS_snd : Sound Try.prog 32 laws_markIntS_sem := sound_io' (L := laws_markIntS_L) (k := 1) laws_markIntS_env rfl mixed Try.func32 (by kernel_rfl) (below_succ laws_markIntS_2_lok below_zero) (fun x0 x => by kernel_rfl)

@[reducible] noncomputable def laws_markIntSS_sem : FnSem := .io (.sl (.sl int)) (.p int .u) (.p int .u) [true] (fun x0 x => laws_markIntSS x0 x.1)
noncomputable def laws_markIntSS_G : Env := ⟨GT, [(32, laws_markIntS_sem)], [(3999, 500000)], false⟩
theorem laws_markIntSS_env : EnvOk Try.prog laws_markIntSS_G := EnvOk.cons laws_markIntS_snd (envOk_nil GT_ok)
noncomputable def laws_markIntSS_2_ls : LoopSem := ⟨19, ⟨[(0, (.own 500000 (.sl int) true)), (1, (.data int)), (5, (.data int))], []⟩, 0, ⟨[(0, (.own 500000 (.sl int) true)), (1, (.data int))], []⟩, ⟨[], []⟩, laws_markIntSS_2_loop⟩
noncomputable def laws_markIntSS_L : List (Nat × LoopSem) := [(2, laws_markIntSS_2_ls)]
theorem laws_markIntSS_2_lok : LoopOk laws_markIntSS_G laws_markIntSS_L (lp Try.f31 0) := loopOk_of (r := 2) (ls := laws_markIntSS_2_ls) (R := fun x => laws_markIntSS_2_R x.1.1 x.1.2.1 x.1.2.2.1) (by kernel_rfl) (by kernel_rfl) rfl (fun x => by kernel_rfl)
theorem laws_markIntSS_snd : Sound Try.prog 31 laws_markIntSS_sem := sound_io' (L := laws_markIntSS_L) (k := 1) laws_markIntSS_env rfl mixed Try.func31 (by kernel_rfl) (below_succ laws_markIntSS_2_lok below_zero) (fun x0 x => by kernel_rfl)

@[reducible] noncomputable def laws_markFlash_sem : FnSem := .io tFlash (.p int .u) (.p int .u) [true] (fun x0 x => laws_markFlash x0 x.1)
noncomputable def laws_markFlash_G : Env := ⟨GT, [(31, laws_markIntSS_sem), (32, laws_markIntS_sem)], [], false⟩
theorem laws_markFlash_env : EnvOk Try.prog laws_markFlash_G := EnvOk.cons laws_markIntSS_snd (EnvOk.cons laws_markIntS_snd (envOk_nil GT_ok))
noncomputable def laws_markFlash_L : List (Nat × LoopSem) := []
theorem laws_markFlash_snd : Sound Try.prog 12 laws_markFlash_sem := sound_io' (L := laws_markFlash_L) (k := 0) laws_markFlash_env rfl mixed Try.func12 (by kernel_rfl) below_zero (fun x0 x => by kernel_rfl)

@[reducible] noncomputable def laws_heldIntS_sem : FnSem := .pu (.p (.sl int) (.p int .u)) (.p int .u) [true] (fun x => laws_heldIntS x.1 x.2.1)
noncomputable def laws_heldIntS_G : Env := ⟨GT, [], [], true⟩
theorem laws_heldIntS_env : EnvOk Try.prog laws_heldIntS_G := envOk_nil GT_ok
noncomputable def laws_heldIntS_2_ls : LoopSem := ⟨21, ⟨[(0, (.data (.sl int))), (1, (.data int)), (5, (.data int))], []⟩, 0, ⟨[(1, (.data int))], []⟩, ⟨[(4, (.data int))], []⟩, laws_heldIntS_2_loop⟩
noncomputable def laws_heldIntS_L : List (Nat × LoopSem) := [(2, laws_heldIntS_2_ls)]
theorem laws_heldIntS_2_lok : LoopOk laws_heldIntS_G laws_heldIntS_L (lp Try.f34 0) := loopOk_of (r := 2) (ls := laws_heldIntS_2_ls) (R := fun x => laws_heldIntS_2_R x.1.1 x.1.2.1 x.1.2.2.1) (by kernel_rfl) (by kernel_rfl) rfl (fun x => by kernel_rfl)
theorem laws_heldIntS_snd : Sound Try.prog 34 laws_heldIntS_sem := sound_pu' (L := laws_heldIntS_L) (k := 1) laws_heldIntS_env mixed Try.func34 (by kernel_rfl) (below_succ laws_heldIntS_2_lok below_zero) (fun x => by kernel_rfl)

@[reducible] noncomputable def laws_heldIntSS_sem : FnSem := .pu (.p (.sl (.sl int)) (.p int .u)) (.p int .u) [true] (fun x => laws_heldIntSS x.1 x.2.1)
noncomputable def laws_heldIntSS_G : Env := ⟨GT, [(34, laws_heldIntS_sem)], [], true⟩
theorem laws_heldIntSS_env : EnvOk Try.prog laws_heldIntSS_G := EnvOk.cons laws_heldIntS_snd (envOk_nil GT_ok)
noncomputable def laws_heldIntSS_2_ls : LoopSem := ⟨21, ⟨[(0, (.data (.sl (.sl int)))), (1, (.data int)), (5, (.data int))], []⟩, 0, ⟨[(1, (.data int))], []⟩, ⟨[(4, (.data int))], []⟩, laws_heldIntSS_2_loop⟩
noncomputable def laws_heldIntSS_L : List (Nat × LoopSem) := [(2, laws_heldIntSS_2_ls)]
theorem laws_heldIntSS_2_lok : LoopOk laws_heldIntSS_G laws_heldIntSS_L (lp Try.f33 0) := loopOk_of (r := 2) (ls := laws_heldIntSS_2_ls) (R := fun x => laws_heldIntSS_2_R x.1.1 x.1.2.1 x.1.2.2.1) (by kernel_rfl) (by kernel_rfl) rfl (fun x => by kernel_rfl)
theorem laws_heldIntSS_snd : Sound Try.prog 33 laws_heldIntSS_sem := sound_pu' (L := laws_heldIntSS_L) (k := 1) laws_heldIntSS_env mixed Try.func33 (by kernel_rfl) (below_succ laws_heldIntSS_2_lok below_zero) (fun x => by kernel_rfl)

@[reducible] noncomputable def laws_heldFlash_sem : FnSem := .pu (.p tFlash (.p int .u)) (.p int .u) [true] (fun x => laws_heldFlash x.1 x.2.1)
noncomputable def laws_heldFlash_G : Env := ⟨GT, [(33, laws_heldIntSS_sem), (34, laws_heldIntS_sem)], [], true⟩
theorem laws_heldFlash_env : EnvOk Try.prog laws_heldFlash_G := EnvOk.cons laws_heldIntSS_snd (EnvOk.cons laws_heldIntS_snd (envOk_nil GT_ok))
noncomputable def laws_heldFlash_L : List (Nat × LoopSem) := []
theorem laws_heldFlash_snd : Sound Try.prog 13 laws_heldFlash_sem := sound_pu' (L := laws_heldFlash_L) (k := 0) laws_heldFlash_env mixed Try.func13 (by kernel_rfl) below_zero (fun x => by kernel_rfl)

@[reducible] noncomputable def laws_FnExactSaveTiming_sem : FnSem := .pu (.p tFlash (.p tStep .u)) (.p .b .u) [true] (fun x => laws_FnExactSaveTiming x.1 x.2.1)
noncomputable def laws_FnExactSaveTiming_G : Env := ⟨GT, [(6, laws_szFlash_sem), (8, laws_toFlash_sem), (9, laws_toTiming_sem), (14, spec_SaveTiming_sem), (15, impl_SaveTiming_sem), (11, laws_eqFlash_sem), (12, laws_markFlash_sem), (13, laws_heldFlash_sem)], [], true⟩
theorem laws_FnExactSaveTiming_env : EnvOk Try.prog laws_FnExactSaveTiming_G := EnvOk.cons laws_szFlash_snd (EnvOk.cons laws_toFlash_snd (EnvOk.cons laws_toTiming_snd (EnvOk.cons spec_SaveTiming_snd (EnvOk.cons impl_SaveTiming_snd (EnvOk.cons laws_eqFlash_snd (EnvOk.cons laws_markFlash_snd (EnvOk.cons laws_heldFlash_snd (envOk_nil GT_ok))))))))
noncomputable def laws_FnExactSaveTiming_L : List (Nat × LoopSem) := []
theorem laws_FnExactSaveTiming_snd : Sound Try.prog 4 laws_FnExactSaveTiming_sem := sound_pu' (L := laws_FnExactSaveTiming_L) (k := 0) laws_FnExactSaveTiming_env mixed Try.func4 (by kernel_rfl) below_zero (fun x => by kernel_rfl)
end KF
