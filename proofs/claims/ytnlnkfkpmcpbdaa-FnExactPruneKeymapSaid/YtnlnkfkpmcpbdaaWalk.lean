/- Each Go function computes its plain function (no condition). -/
import Derived.Test.YtnlnkfkpmcpbdaaFns
import Derived.Test.YtnlnkfkpmcpbdaaRows
namespace KF
open Go Go.Proofs
def GT : List (Nat × Ty) := [(3, int), (4, .b), (22, (.sl (.sl tAction))), (24, tKeymap), (28, (.sl (.sl tAction))), (30, tKeymap), (56, tAction), (57, (.sl tAction)), (68, (.sl tAction)), (76, tAction)]
theorem GT_ok : (GT.all fun x => tokB Try.prog x.2 x.1) = true := by kernel_rfl
theorem mixed : Try.prog.follows .mixedOrders = true := by kernel_rfl

@[reducible] noncomputable def laws_szActionS_sem : FnSem := .pu (.p (.sl tAction) (.p int .u)) (.p int .u) [true] (fun x => laws_szActionS x.1 x.2.1)
noncomputable def laws_szActionS_G : Env := ⟨GT, [], []⟩
theorem laws_szActionS_env : EnvOk Try.prog laws_szActionS_G := envOk_nil GT_ok
noncomputable def laws_szActionS_L : List (Nat × LoopSem) := []
theorem laws_szActionS_snd : Sound Try.prog 55 laws_szActionS_sem := sound_pu' (L := laws_szActionS_L) (k := 0) laws_szActionS_env mixed Try.func55 (by kernel_rfl) below_zero (fun x => by kernel_rfl)

@[reducible] noncomputable def laws_szActionSS_sem : FnSem := .pu (.p (.sl (.sl tAction)) (.p int .u)) (.p int .u) [true] (fun x => laws_szActionSS x.1 x.2.1)
noncomputable def laws_szActionSS_G : Env := ⟨GT, [(55, laws_szActionS_sem)], []⟩
theorem laws_szActionSS_env : EnvOk Try.prog laws_szActionSS_G := EnvOk.cons laws_szActionS_snd (envOk_nil GT_ok)
noncomputable def laws_szActionSS_5_ls : LoopSem := ⟨27, ⟨[(0, (.data (.sl (.sl tAction)))), (1, (.data int)), (5, (.data int))], []⟩, 0, ⟨[(1, (.data int))], []⟩, ⟨[(4, (.data int))], []⟩, laws_szActionSS_5_loop⟩
noncomputable def laws_szActionSS_L : List (Nat × LoopSem) := [(5, laws_szActionSS_5_ls)]
theorem laws_szActionSS_5_lok : LoopOk laws_szActionSS_G laws_szActionSS_L (lp Try.f32 0) := loopOk_of (r := 5) (ls := laws_szActionSS_5_ls) (R := fun x => laws_szActionSS_5_R x.1.1 x.1.2.1 x.1.2.2.1) (by kernel_rfl) (by kernel_rfl) rfl (fun x => by kernel_rfl)
theorem laws_szActionSS_snd : Sound Try.prog 32 laws_szActionSS_sem := sound_pu' (L := laws_szActionSS_L) (k := 1) laws_szActionSS_env mixed Try.func32 (by kernel_rfl) (below_succ laws_szActionSS_5_lok below_zero) (fun x => by kernel_rfl)

@[reducible] noncomputable def laws_szKeymap_sem : FnSem := .pu (.p tKeymap (.p int .u)) (.p int .u) [true] (fun x => laws_szKeymap x.1 x.2.1)
noncomputable def laws_szKeymap_G : Env := ⟨GT, [(32, laws_szActionSS_sem)], []⟩
theorem laws_szKeymap_env : EnvOk Try.prog laws_szKeymap_G := EnvOk.cons laws_szActionSS_snd (envOk_nil GT_ok)
noncomputable def laws_szKeymap_L : List (Nat × LoopSem) := []
theorem laws_szKeymap_snd : Sound Try.prog 8 laws_szKeymap_sem := sound_pu' (L := laws_szKeymap_L) (k := 0) laws_szKeymap_env mixed Try.func8 (by kernel_rfl) below_zero (fun x => by kernel_rfl)

@[reducible] noncomputable def laws_toAction_sem : FnSem := .pu (.p tAction .u) (.p tAction .u) [true] (fun x => laws_toAction x.1)
noncomputable def laws_toAction_G : Env := ⟨GT, [], []⟩
theorem laws_toAction_env : EnvOk Try.prog laws_toAction_G := envOk_nil GT_ok
noncomputable def laws_toAction_L : List (Nat × LoopSem) := []
theorem laws_toAction_snd : Sound Try.prog 64 laws_toAction_sem := sound_pu' (L := laws_toAction_L) (k := 0) laws_toAction_env mixed Try.func64 (by kernel_rfl) below_zero (fun x => by kernel_rfl)

@[reducible] noncomputable def laws_toActionS_sem : FnSem := .pu (.p (.sl tAction) .u) (.p (.sl tAction) .u) [true] (fun x => laws_toActionS x.1)
noncomputable def laws_toActionS_G : Env := ⟨GT, [(64, laws_toAction_sem)], []⟩
theorem laws_toActionS_env : EnvOk Try.prog laws_toActionS_G := EnvOk.cons laws_toAction_snd (envOk_nil GT_ok)
noncomputable def laws_toActionS_3_ls : LoopSem := ⟨23, ⟨[(0, (.data (.sl tAction))), (3, (.own 200001 tAction true)), (4, (.data int))], []⟩, 0, ⟨[(3, (.own 200001 tAction true))], []⟩, ⟨[], []⟩, laws_toActionS_3_loop⟩
noncomputable def laws_toActionS_L : List (Nat × LoopSem) := [(3, laws_toActionS_3_ls)]
theorem laws_toActionS_3_lok : LoopOk laws_toActionS_G laws_toActionS_L (lp Try.f58 0) := loopOk_of (r := 3) (ls := laws_toActionS_3_ls) (R := fun x => laws_toActionS_3_R x.1.1 x.1.2.1 x.1.2.2.1) (by kernel_rfl) (by kernel_rfl) rfl (fun x => by kernel_rfl)
theorem laws_toActionS_snd : Sound Try.prog 58 laws_toActionS_sem := sound_pu' (L := laws_toActionS_L) (k := 1) laws_toActionS_env mixed Try.func58 (by kernel_rfl) (below_succ laws_toActionS_3_lok below_zero) (fun x => by kernel_rfl)

@[reducible] noncomputable def laws_toActionSS_sem : FnSem := .pu (.p (.sl (.sl tAction)) .u) (.p (.sl (.sl tAction)) .u) [true] (fun x => laws_toActionSS x.1)
noncomputable def laws_toActionSS_G : Env := ⟨GT, [(58, laws_toActionS_sem)], []⟩
theorem laws_toActionSS_env : EnvOk Try.prog laws_toActionSS_G := EnvOk.cons laws_toActionS_snd (envOk_nil GT_ok)
noncomputable def laws_toActionSS_3_ls : LoopSem := ⟨23, ⟨[(0, (.data (.sl (.sl tAction)))), (3, (.own 200001 (.sl tAction) true)), (4, (.data int))], []⟩, 0, ⟨[(3, (.own 200001 (.sl tAction) true))], []⟩, ⟨[], []⟩, laws_toActionSS_3_loop⟩
noncomputable def laws_toActionSS_L : List (Nat × LoopSem) := [(3, laws_toActionSS_3_ls)]
theorem laws_toActionSS_3_lok : LoopOk laws_toActionSS_G laws_toActionSS_L (lp Try.f36 0) := loopOk_of (r := 3) (ls := laws_toActionSS_3_ls) (R := fun x => laws_toActionSS_3_R x.1.1 x.1.2.1 x.1.2.2.1) (by kernel_rfl) (by kernel_rfl) rfl (fun x => by kernel_rfl)
theorem laws_toActionSS_snd : Sound Try.prog 36 laws_toActionSS_sem := sound_pu' (L := laws_toActionSS_L) (k := 1) laws_toActionSS_env mixed Try.func36 (by kernel_rfl) (below_succ laws_toActionSS_3_lok below_zero) (fun x => by kernel_rfl)

@[reducible] noncomputable def laws_toKeymap_sem : FnSem := .pu (.p tKeymap .u) (.p tKeymap .u) [true] (fun x => laws_toKeymap x.1)
noncomputable def laws_toKeymap_G : Env := ⟨GT, [(36, laws_toActionSS_sem)], []⟩
theorem laws_toKeymap_env : EnvOk Try.prog laws_toKeymap_G := EnvOk.cons laws_toActionSS_snd (envOk_nil GT_ok)
noncomputable def laws_toKeymap_L : List (Nat × LoopSem) := []
theorem laws_toKeymap_snd : Sound Try.prog 10 laws_toKeymap_sem := sound_pu' (L := laws_toKeymap_L) (k := 0) laws_toKeymap_env mixed Try.func10 (by kernel_rfl) below_zero (fun x => by kernel_rfl)

@[reducible] noncomputable def spec_l6Copy_sem : FnSem := .pu (.p tKeymap .u) (.p tKeymap .u) [true] (fun x => spec_l6Copy x.1)
noncomputable def spec_l6Copy_G : Env := ⟨GT, [], []⟩
theorem spec_l6Copy_env : EnvOk Try.prog spec_l6Copy_G := envOk_nil GT_ok
noncomputable def spec_l6Copy_3_ls : LoopSem := ⟨28, ⟨[(1, (.ptr 1 [])), (2, (.ptr 2 [])), (3, (.ptr 3 [])), (4, (.data int))], [(1, tKeymap, (.data tKeymap)), (2, tKeymap, (.pr (.data int) (.pr (.data (.sl (.sl tAction))) .un))), (3, tKeymap, (.pr (.data int) (.pr (.own 200001 (.sl tAction) true) .un)))]⟩, 0, ⟨[(2, (.ptr 2 [])), (3, (.ptr 3 []))], [(2, tKeymap, (.pr (.data int) (.pr (.data (.sl (.sl tAction))) .un))), (3, tKeymap, (.pr (.data int) (.pr (.own 200001 (.sl tAction) true) .un)))]⟩, ⟨[], []⟩, spec_l6Copy_3_loop⟩
noncomputable def spec_l6Copy_L : List (Nat × LoopSem) := [(3, spec_l6Copy_3_ls)]
theorem spec_l6Copy_3_lok : LoopOk spec_l6Copy_G spec_l6Copy_L (lp Try.f42 0) := loopOk_of (r := 3) (ls := spec_l6Copy_3_ls) (R := fun x => spec_l6Copy_3_R x.1.1 x.1.2.1 x.1.2.2.1 x.1.2.2.2.1 x.2.1 x.2.2.1 x.2.2.2.1) (by kernel_rfl) (by kernel_rfl) rfl (fun x => by kernel_rfl)
theorem spec_l6Copy_snd : Sound Try.prog 42 spec_l6Copy_sem := sound_pu' (L := spec_l6Copy_L) (k := 1) spec_l6Copy_env mixed Try.func42 (by kernel_rfl) (below_succ spec_l6Copy_3_lok below_zero) (fun x => by kernel_rfl)

@[reducible] noncomputable def spec_l1In_sem : FnSem := .pu tStep (.p .b .u) [true] (fun x => spec_l1In x.1 x.2.1 x.2.2.1)
noncomputable def spec_l1In_G : Env := ⟨GT, [], []⟩
theorem spec_l1In_env : EnvOk Try.prog spec_l1In_G := envOk_nil GT_ok
noncomputable def spec_l1In_L : List (Nat × LoopSem) := []
theorem spec_l1In_snd : Sound Try.prog 57 spec_l1In_sem := sound_pu' (L := spec_l1In_L) (k := 0) spec_l1In_env mixed Try.func57 (by kernel_rfl) below_zero (fun x => by kernel_rfl)

@[reducible] noncomputable def spec_IsAction_sem : FnSem := .pu (.p tAction .u) (.p .b .u) [true] (fun x => spec_IsAction x.1)
noncomputable def spec_IsAction_G : Env := ⟨GT, [(57, spec_l1In_sem)], []⟩
theorem spec_IsAction_env : EnvOk Try.prog spec_IsAction_G := EnvOk.cons spec_l1In_snd (envOk_nil GT_ok)
noncomputable def spec_IsAction_L : List (Nat × LoopSem) := []
theorem spec_IsAction_snd : Sound Try.prog 56 spec_IsAction_sem := sound_pu' (L := spec_IsAction_L) (k := 0) spec_IsAction_env mixed Try.func56 (by kernel_rfl) below_zero (fun x => by kernel_rfl)

@[reducible] noncomputable def spec_IsKeymap_sem : FnSem := .pu (.p tKeymap .u) (.p .b .u) [true] (fun x => spec_IsKeymap x.1)
noncomputable def spec_IsKeymap_G : Env := ⟨GT, [(56, spec_IsAction_sem), (57, spec_l1In_sem)], []⟩
theorem spec_IsKeymap_env : EnvOk Try.prog spec_IsKeymap_G := EnvOk.cons spec_IsAction_snd (EnvOk.cons spec_l1In_snd (envOk_nil GT_ok))
noncomputable def spec_IsKeymap_7_ls : LoopSem := ⟨74, ⟨[(1, (.ptr 1 [])), (3, (.data int)), (4, (.data int))], [(1, tKeymap, (.data tKeymap))]⟩, 2, ⟨[(1, (.ptr 1 [])), (3, (.data int))], [(1, tKeymap, (.data tKeymap))]⟩, ⟨[(2, (.data .b))], []⟩, spec_IsKeymap_7_loop⟩
noncomputable def spec_IsKeymap_2_ls : LoopSem := ⟨74, ⟨[(1, (.ptr 1 [])), (3, (.data int))], [(1, tKeymap, (.data tKeymap))]⟩, 0, ⟨[(1, (.ptr 1 []))], [(1, tKeymap, (.data tKeymap))]⟩, ⟨[(2, (.data .b))], []⟩, spec_IsKeymap_2_loop⟩
noncomputable def spec_IsKeymap_L : List (Nat × LoopSem) := [(7, spec_IsKeymap_7_ls), (2, spec_IsKeymap_2_ls)]
theorem spec_IsKeymap_7_lok : LoopOk spec_IsKeymap_G spec_IsKeymap_L (lp Try.f33 1) := loopOk_of (r := 7) (ls := spec_IsKeymap_7_ls) (R := fun x => spec_IsKeymap_7_R x.1.1 x.1.2.1 x.1.2.2.1 x.2.1) (by kernel_rfl) (by kernel_rfl) rfl (fun x => by kernel_rfl)
theorem spec_IsKeymap_2_lok : LoopOk spec_IsKeymap_G spec_IsKeymap_L (lp Try.f33 0) := loopOk_of (r := 2) (ls := spec_IsKeymap_2_ls) (R := fun x => spec_IsKeymap_2_R x.1.1 x.1.2.1 x.2.1) (by kernel_rfl) (by kernel_rfl) rfl (fun x => by kernel_rfl)
theorem spec_IsKeymap_snd : Sound Try.prog 33 spec_IsKeymap_sem := sound_pu' (L := spec_IsKeymap_L) (k := 2) spec_IsKeymap_env mixed Try.func33 (by kernel_rfl) (below_succ spec_IsKeymap_7_lok (below_succ spec_IsKeymap_2_lok below_zero)) (fun x => by kernel_rfl)

@[reducible] noncomputable def spec_IsTapHold_sem : FnSem := .pu (.p tAction .u) (.p .b .u) [true] (fun x => spec_IsTapHold x.1)
noncomputable def spec_IsTapHold_G : Env := ⟨GT, [(56, spec_IsAction_sem)], []⟩
theorem spec_IsTapHold_env : EnvOk Try.prog spec_IsTapHold_G := EnvOk.cons spec_IsAction_snd (envOk_nil GT_ok)
noncomputable def spec_IsTapHold_L : List (Nat × LoopSem) := []
theorem spec_IsTapHold_snd : Sound Try.prog 69 spec_IsTapHold_sem := sound_pu' (L := spec_IsTapHold_L) (k := 0) spec_IsTapHold_env mixed Try.func69 (by kernel_rfl) below_zero (fun x => by kernel_rfl)

@[reducible] noncomputable def spec_HoldOf_sem : FnSem := .pu (.p tAction .u) (.p tAction .u) [true] (fun x => spec_HoldOf x.1)
noncomputable def spec_HoldOf_G : Env := ⟨GT, [(69, spec_IsTapHold_sem)], []⟩
theorem spec_HoldOf_env : EnvOk Try.prog spec_HoldOf_G := EnvOk.cons spec_IsTapHold_snd (envOk_nil GT_ok)
noncomputable def spec_HoldOf_L : List (Nat × LoopSem) := []
theorem spec_HoldOf_snd : Sound Try.prog 62 spec_HoldOf_sem := sound_pu' (L := spec_HoldOf_L) (k := 0) spec_HoldOf_env mixed Try.func62 (by kernel_rfl) below_zero (fun x => by kernel_rfl)

@[reducible] noncomputable def spec_LayersUsed_sem : FnSem := .pu (.p tKeymap .u) (.p int .u) [true] (fun x => spec_LayersUsed x.1)
noncomputable def spec_LayersUsed_G : Env := ⟨GT, [(33, spec_IsKeymap_sem), (62, spec_HoldOf_sem)], []⟩
theorem spec_LayersUsed_env : EnvOk Try.prog spec_LayersUsed_G := EnvOk.cons spec_IsKeymap_snd (EnvOk.cons spec_HoldOf_snd (envOk_nil GT_ok))
noncomputable def spec_LayersUsed_11_ls : LoopSem := ⟨66, ⟨[(1, (.ptr 1 [])), (3, (.data int)), (4, (.data int)), (5, (.data int)), (6, (.data int))], [(1, tKeymap, (.data tKeymap))]⟩, 4, ⟨[(1, (.ptr 1 [])), (3, (.data int)), (4, (.data int)), (5, (.data int))], [(1, tKeymap, (.data tKeymap))]⟩, ⟨[], []⟩, spec_LayersUsed_11_loop⟩
noncomputable def spec_LayersUsed_8_ls : LoopSem := ⟨66, ⟨[(1, (.ptr 1 [])), (3, (.data int)), (4, (.data int)), (5, (.data int))], [(1, tKeymap, (.data tKeymap))]⟩, 2, ⟨[(1, (.ptr 1 [])), (3, (.data int)), (4, (.data int))], [(1, tKeymap, (.data tKeymap))]⟩, ⟨[], []⟩, spec_LayersUsed_8_loop⟩
noncomputable def spec_LayersUsed_5_ls : LoopSem := ⟨66, ⟨[(1, (.ptr 1 [])), (3, (.data int)), (4, (.data int))], [(1, tKeymap, (.data tKeymap))]⟩, 0, ⟨[(3, (.data int))], []⟩, ⟨[], []⟩, spec_LayersUsed_5_loop⟩
noncomputable def spec_LayersUsed_L : List (Nat × LoopSem) := [(11, spec_LayersUsed_11_ls), (8, spec_LayersUsed_8_ls), (5, spec_LayersUsed_5_ls)]
theorem spec_LayersUsed_11_lok : LoopOk spec_LayersUsed_G spec_LayersUsed_L (lp Try.f43 2) := loopOk_of (r := 11) (ls := spec_LayersUsed_11_ls) (R := fun x => spec_LayersUsed_11_R x.1.1 x.1.2.1 x.1.2.2.1 x.1.2.2.2.1 x.1.2.2.2.2.1 x.2.1) (by kernel_rfl) (by kernel_rfl) rfl (fun x => by kernel_rfl)
theorem spec_LayersUsed_8_lok : LoopOk spec_LayersUsed_G spec_LayersUsed_L (lp Try.f43 1) := loopOk_of (r := 8) (ls := spec_LayersUsed_8_ls) (R := fun x => spec_LayersUsed_8_R x.1.1 x.1.2.1 x.1.2.2.1 x.1.2.2.2.1 x.2.1) (by kernel_rfl) (by kernel_rfl) rfl (fun x => by kernel_rfl)
theorem spec_LayersUsed_5_lok : LoopOk spec_LayersUsed_G spec_LayersUsed_L (lp Try.f43 0) := loopOk_of (r := 5) (ls := spec_LayersUsed_5_ls) (R := fun x => spec_LayersUsed_5_R x.1.1 x.1.2.1 x.1.2.2.1 x.2.1) (by kernel_rfl) (by kernel_rfl) rfl (fun x => by kernel_rfl)
theorem spec_LayersUsed_snd : Sound Try.prog 43 spec_LayersUsed_sem := sound_pu' (L := spec_LayersUsed_L) (k := 3) spec_LayersUsed_env mixed Try.func43 (by kernel_rfl) (below_succ spec_LayersUsed_11_lok (below_succ spec_LayersUsed_8_lok (below_succ spec_LayersUsed_5_lok below_zero))) (fun x => by kernel_rfl)

@[reducible] noncomputable def spec_PruneKeymap_sem : FnSem := .pu (.p tKeymap .u) (.p tKeymap .u) [true] (fun x => spec_PruneKeymap x.1)
noncomputable def spec_PruneKeymap_G : Env := ⟨GT, [(42, spec_l6Copy_sem), (43, spec_LayersUsed_sem)], [(8999, 200101)]⟩
theorem spec_PruneKeymap_env : EnvOk Try.prog spec_PruneKeymap_G := EnvOk.cons spec_l6Copy_snd (EnvOk.cons spec_LayersUsed_snd (envOk_nil GT_ok))
noncomputable def spec_PruneKeymap_7_ls : LoopSem := ⟨44, ⟨[(1, (.ptr 1 [])), (2, (.ptr 2 [])), (3, (.ptr 3 [])), (4, (.data int)), (5, (.data int)), (6, (.data int))], [(1, tKeymap, (.data tKeymap)), (2, tKeymap, (.pr (.data int) (.pr (.data (.sl (.sl tAction))) .un))), (3, tKeymap, (.pr (.data int) (.pr (.own 200101 (.sl tAction) true) .un)))]⟩, 2, ⟨[(1, (.ptr 1 [])), (2, (.ptr 2 [])), (3, (.ptr 3 [])), (4, (.data int)), (5, (.data int))], [(1, tKeymap, (.data tKeymap)), (2, tKeymap, (.pr (.data int) (.pr (.data (.sl (.sl tAction))) .un))), (3, tKeymap, (.pr (.data int) (.pr (.own 200101 (.sl tAction) true) .un)))]⟩, ⟨[], []⟩, spec_PruneKeymap_7_loop⟩
noncomputable def spec_PruneKeymap_4_ls : LoopSem := ⟨44, ⟨[(1, (.ptr 1 [])), (2, (.ptr 2 [])), (3, (.ptr 3 [])), (4, (.data int)), (5, (.data int))], [(1, tKeymap, (.data tKeymap)), (2, tKeymap, (.pr (.data int) (.pr (.data (.sl (.sl tAction))) .un))), (3, tKeymap, (.pr (.data int) (.pr (.own 200001 (.sl tAction) true) .un)))]⟩, 0, ⟨[(2, (.ptr 2 [])), (3, (.ptr 3 []))], [(2, tKeymap, (.pr (.data int) (.pr (.data (.sl (.sl tAction))) .un))), (3, tKeymap, (.pr (.data int) (.pr (.own 200001 (.sl tAction) true) .un)))]⟩, ⟨[], []⟩, spec_PruneKeymap_4_loop⟩
noncomputable def spec_PruneKeymap_L : List (Nat × LoopSem) := [(7, spec_PruneKeymap_7_ls), (4, spec_PruneKeymap_4_ls)]
theorem spec_PruneKeymap_7_lok : LoopOk spec_PruneKeymap_G spec_PruneKeymap_L (lp Try.f17 1) := loopOk_of (r := 7) (ls := spec_PruneKeymap_7_ls) (R := fun x => spec_PruneKeymap_7_R x.1.1 x.1.2.1 x.1.2.2.1 x.1.2.2.2.1 x.1.2.2.2.2.1 x.1.2.2.2.2.2.1 x.2.1 x.2.2.1 x.2.2.2.1) (by kernel_rfl) (by kernel_rfl) rfl (fun x => by kernel_rfl)
theorem spec_PruneKeymap_4_lok : LoopOk spec_PruneKeymap_G spec_PruneKeymap_L (lp Try.f17 0) := loopOk_of (r := 4) (ls := spec_PruneKeymap_4_ls) (R := fun x => spec_PruneKeymap_4_R x.1.1 x.1.2.1 x.1.2.2.1 x.1.2.2.2.1 x.1.2.2.2.2.1 x.2.1 x.2.2.1 x.2.2.2.1) (by kernel_rfl) (by kernel_rfl) rfl (fun x => by kernel_rfl)
theorem spec_PruneKeymap_snd : Sound Try.prog 17 spec_PruneKeymap_sem := sound_pu' (L := spec_PruneKeymap_L) (k := 2) spec_PruneKeymap_env mixed Try.func17 (by kernel_rfl) (below_succ spec_PruneKeymap_7_lok (below_succ spec_PruneKeymap_4_lok below_zero)) (fun x => by kernel_rfl)

@[reducible] noncomputable def impl_copyKeymap_sem : FnSem := .pu (.p tKeymap .u) (.p tKeymap .u) [true] (fun x => impl_copyKeymap x.1)
noncomputable def impl_copyKeymap_G : Env := ⟨GT, [], []⟩
theorem impl_copyKeymap_env : EnvOk Try.prog impl_copyKeymap_G := envOk_nil GT_ok
noncomputable def impl_copyKeymap_3_ls : LoopSem := ⟨25, ⟨[(2, (.ptr 2 [])), (3, (.ptr 3 [])), (10, (.data (.sl (.sl tAction)))), (11, (.data int)), (12, (.data int))], [(2, tKeymap, (.pr (.data int) (.pr (.data (.sl (.sl tAction))) .un))), (3, tKeymap, (.pr (.data int) (.pr (.own 200001 (.sl tAction) true) .un)))]⟩, 0, ⟨[(2, (.ptr 2 [])), (3, (.ptr 3 []))], [(2, tKeymap, (.pr (.data int) (.pr (.data (.sl (.sl tAction))) .un))), (3, tKeymap, (.pr (.data int) (.pr (.own 200001 (.sl tAction) true) .un)))]⟩, ⟨[], []⟩, impl_copyKeymap_3_loop⟩
noncomputable def impl_copyKeymap_L : List (Nat × LoopSem) := [(3, impl_copyKeymap_3_ls)]
theorem impl_copyKeymap_3_lok : LoopOk impl_copyKeymap_G impl_copyKeymap_L (lp Try.f44 0) := loopOk_of (r := 3) (ls := impl_copyKeymap_3_ls) (R := fun x => impl_copyKeymap_3_R x.1.1 x.1.2.1 x.1.2.2.1 x.1.2.2.2.1 x.1.2.2.2.2.1 x.2.1 x.2.2.1) (by kernel_rfl) (by kernel_rfl) rfl (fun x => by kernel_rfl)
theorem impl_copyKeymap_snd : Sound Try.prog 44 impl_copyKeymap_sem := sound_pu' (L := impl_copyKeymap_L) (k := 1) impl_copyKeymap_env mixed Try.func44 (by kernel_rfl) (below_succ impl_copyKeymap_3_lok below_zero) (fun x => by kernel_rfl)

@[reducible] noncomputable def impl_isCode_sem : FnSem := .pu (.p int .u) (.p .b .u) [true] (fun x => impl_isCode x.1)
noncomputable def impl_isCode_G : Env := ⟨GT, [], []⟩
theorem impl_isCode_env : EnvOk Try.prog impl_isCode_G := envOk_nil GT_ok
noncomputable def impl_isCode_L : List (Nat × LoopSem) := []
theorem impl_isCode_snd : Sound Try.prog 65 impl_isCode_sem := sound_pu' (L := impl_isCode_L) (k := 0) impl_isCode_env mixed Try.func65 (by kernel_rfl) below_zero (fun x => by kernel_rfl)

@[reducible] noncomputable def impl_isMods_sem : FnSem := .pu (.p int .u) (.p .b .u) [true] (fun x => impl_isMods x.1)
noncomputable def impl_isMods_G : Env := ⟨GT, [], []⟩
theorem impl_isMods_env : EnvOk Try.prog impl_isMods_G := envOk_nil GT_ok
noncomputable def impl_isMods_L : List (Nat × LoopSem) := []
theorem impl_isMods_snd : Sound Try.prog 66 impl_isMods_sem := sound_pu' (L := impl_isMods_L) (k := 0) impl_isMods_env mixed Try.func66 (by kernel_rfl) below_zero (fun x => by kernel_rfl)

@[reducible] noncomputable def impl_isUpper_sem : FnSem := .pu (.p int .u) (.p .b .u) [true] (fun x => impl_isUpper x.1)
noncomputable def impl_isUpper_G : Env := ⟨GT, [], []⟩
theorem impl_isUpper_env : EnvOk Try.prog impl_isUpper_G := envOk_nil GT_ok
noncomputable def impl_isUpper_L : List (Nat × LoopSem) := []
theorem impl_isUpper_snd : Sound Try.prog 67 impl_isUpper_sem := sound_pu' (L := impl_isUpper_L) (k := 0) impl_isUpper_env mixed Try.func67 (by kernel_rfl) below_zero (fun x => by kernel_rfl)

@[reducible] noncomputable def impl_IsAction_sem : FnSem := .pu (.p tAction .u) (.p .b .u) [true] (fun x => impl_IsAction x.1)
noncomputable def impl_IsAction_G : Env := ⟨GT, [(65, impl_isCode_sem), (66, impl_isMods_sem), (67, impl_isUpper_sem)], []⟩
theorem impl_IsAction_env : EnvOk Try.prog impl_IsAction_G := EnvOk.cons impl_isCode_snd (EnvOk.cons impl_isMods_snd (EnvOk.cons impl_isUpper_snd (envOk_nil GT_ok)))
noncomputable def impl_IsAction_L : List (Nat × LoopSem) := []
theorem impl_IsAction_snd : Sound Try.prog 59 impl_IsAction_sem := sound_pu' (L := impl_IsAction_L) (k := 0) impl_IsAction_env mixed Try.func59 (by kernel_rfl) below_zero (fun x => by kernel_rfl)

@[reducible] noncomputable def impl_IsKeymap_sem : FnSem := .pu (.p tKeymap .u) (.p .b .u) [true] (fun x => impl_IsKeymap x.1)
noncomputable def impl_IsKeymap_G : Env := ⟨GT, [(59, impl_IsAction_sem)], []⟩
theorem impl_IsKeymap_env : EnvOk Try.prog impl_IsKeymap_G := EnvOk.cons impl_IsAction_snd (envOk_nil GT_ok)
noncomputable def impl_IsKeymap_9_ls : LoopSem := ⟨73, ⟨[(1, (.ptr 1 [])), (3, (.data int)), (28, (.data (.sl (.sl tAction)))), (29, (.data int)), (30, (.data int)), (40, (.data (.sl tAction))), (41, (.data int)), (42, (.data int))], [(1, tKeymap, (.data tKeymap))]⟩, 2, ⟨[(1, (.ptr 1 [])), (28, (.data (.sl (.sl tAction)))), (29, (.data int)), (30, (.data int))], [(1, tKeymap, (.data tKeymap))]⟩, ⟨[(2, (.data .b))], []⟩, impl_IsKeymap_9_loop⟩
noncomputable def impl_IsKeymap_4_ls : LoopSem := ⟨73, ⟨[(1, (.ptr 1 [])), (28, (.data (.sl (.sl tAction)))), (29, (.data int)), (30, (.data int))], [(1, tKeymap, (.data tKeymap))]⟩, 0, ⟨[], []⟩, ⟨[(2, (.data .b))], []⟩, impl_IsKeymap_4_loop⟩
noncomputable def impl_IsKeymap_L : List (Nat × LoopSem) := [(9, impl_IsKeymap_9_ls), (4, impl_IsKeymap_4_ls)]
theorem impl_IsKeymap_9_lok : LoopOk impl_IsKeymap_G impl_IsKeymap_L (lp Try.f37 1) := loopOk_of (r := 9) (ls := impl_IsKeymap_9_ls) (R := fun x => impl_IsKeymap_9_R x.1.1 x.1.2.1 x.1.2.2.1 x.1.2.2.2.1 x.1.2.2.2.2.1 x.1.2.2.2.2.2.1 x.1.2.2.2.2.2.2.1 x.1.2.2.2.2.2.2.2.1 x.2.1) (by kernel_rfl) (by kernel_rfl) rfl (fun x => by kernel_rfl)
theorem impl_IsKeymap_4_lok : LoopOk impl_IsKeymap_G impl_IsKeymap_L (lp Try.f37 0) := loopOk_of (r := 4) (ls := impl_IsKeymap_4_ls) (R := fun x => impl_IsKeymap_4_R x.1.1 x.1.2.1 x.1.2.2.1 x.1.2.2.2.1 x.2.1) (by kernel_rfl) (by kernel_rfl) rfl (fun x => by kernel_rfl)
theorem impl_IsKeymap_snd : Sound Try.prog 37 impl_IsKeymap_sem := sound_pu' (L := impl_IsKeymap_L) (k := 2) impl_IsKeymap_env mixed Try.func37 (by kernel_rfl) (below_succ impl_IsKeymap_9_lok (below_succ impl_IsKeymap_4_lok below_zero)) (fun x => by kernel_rfl)

@[reducible] noncomputable def impl_bit_sem : FnSem := .pu tCombo (.p int .u) [true] (fun x => impl_bit x.1 x.2.1)
noncomputable def impl_bit_G : Env := ⟨GT, [], []⟩
theorem impl_bit_env : EnvOk Try.prog impl_bit_G := envOk_nil GT_ok
noncomputable def impl_bit_L : List (Nat × LoopSem) := []
theorem impl_bit_snd : Sound Try.prog 46 impl_bit_sem := sound_pu' (L := impl_bit_L) (k := 0) impl_bit_env mixed Try.func46 (by kernel_rfl) below_zero (fun x => by kernel_rfl)

@[reducible] noncomputable def impl_LayersUsed_sem : FnSem := .pu (.p tKeymap .u) (.p int .u) [true] (fun x => impl_LayersUsed x.1)
noncomputable def impl_LayersUsed_G : Env := ⟨GT, [(37, impl_IsKeymap_sem), (46, impl_bit_sem)], []⟩
theorem impl_LayersUsed_env : EnvOk Try.prog impl_LayersUsed_G := EnvOk.cons impl_IsKeymap_snd (EnvOk.cons impl_bit_snd (envOk_nil GT_ok))
noncomputable def impl_LayersUsed_10_ls : LoopSem := ⟨50, ⟨[(1, (.ptr 1 [])), (3, (.data int)), (4, (.data int)), (13, (.data int)), (14, (.data int)), (17, (.data (.sl (.sl tAction)))), (18, (.data int)), (19, (.data int)), (24, (.data (.sl tAction))), (25, (.data int)), (26, (.data int))], [(1, tKeymap, (.data tKeymap))]⟩, 4, ⟨[(1, (.ptr 1 [])), (3, (.data int)), (13, (.data int)), (14, (.data int)), (17, (.data (.sl (.sl tAction)))), (18, (.data int)), (19, (.data int))], [(1, tKeymap, (.data tKeymap))]⟩, ⟨[], []⟩, impl_LayersUsed_10_loop⟩
noncomputable def impl_LayersUsed_7_ls : LoopSem := ⟨50, ⟨[(1, (.ptr 1 [])), (3, (.data int)), (13, (.data int)), (14, (.data int)), (17, (.data (.sl (.sl tAction)))), (18, (.data int)), (19, (.data int))], [(1, tKeymap, (.data tKeymap))]⟩, 2, ⟨[(1, (.ptr 1 [])), (3, (.data int)), (13, (.data int)), (14, (.data int))], [(1, tKeymap, (.data tKeymap))]⟩, ⟨[], []⟩, impl_LayersUsed_7_loop⟩
noncomputable def impl_LayersUsed_5_ls : LoopSem := ⟨50, ⟨[(1, (.ptr 1 [])), (3, (.data int)), (13, (.data int)), (14, (.data int))], [(1, tKeymap, (.data tKeymap))]⟩, 0, ⟨[(3, (.data int))], []⟩, ⟨[], []⟩, impl_LayersUsed_5_loop⟩
noncomputable def impl_LayersUsed_L : List (Nat × LoopSem) := [(10, impl_LayersUsed_10_ls), (7, impl_LayersUsed_7_ls), (5, impl_LayersUsed_5_ls)]
theorem impl_LayersUsed_10_lok : LoopOk impl_LayersUsed_G impl_LayersUsed_L (lp Try.f45 2) := loopOk_of (r := 10) (ls := impl_LayersUsed_10_ls) (R := fun x => impl_LayersUsed_10_R x.1.1 x.1.2.1 x.1.2.2.1 x.1.2.2.2.1 x.1.2.2.2.2.1 x.1.2.2.2.2.2.1 x.1.2.2.2.2.2.2.1 x.1.2.2.2.2.2.2.2.1 x.1.2.2.2.2.2.2.2.2.1 x.1.2.2.2.2.2.2.2.2.2.1 x.1.2.2.2.2.2.2.2.2.2.2.1 x.2.1) (by kernel_rfl) (by kernel_rfl) rfl (fun x => by kernel_rfl)
theorem impl_LayersUsed_7_lok : LoopOk impl_LayersUsed_G impl_LayersUsed_L (lp Try.f45 1) := loopOk_of (r := 7) (ls := impl_LayersUsed_7_ls) (R := fun x => impl_LayersUsed_7_R x.1.1 x.1.2.1 x.1.2.2.1 x.1.2.2.2.1 x.1.2.2.2.2.1 x.1.2.2.2.2.2.1 x.1.2.2.2.2.2.2.1 x.2.1) (by kernel_rfl) (by kernel_rfl) rfl (fun x => by kernel_rfl)
theorem impl_LayersUsed_5_lok : LoopOk impl_LayersUsed_G impl_LayersUsed_L (lp Try.f45 0) := loopOk_of (r := 5) (ls := impl_LayersUsed_5_ls) (R := fun x => impl_LayersUsed_5_R x.1.1 x.1.2.1 x.1.2.2.1 x.1.2.2.2.1 x.2.1) (by kernel_rfl) (by kernel_rfl) rfl (fun x => by kernel_rfl)
theorem impl_LayersUsed_snd : Sound Try.prog 45 impl_LayersUsed_sem := sound_pu' (L := impl_LayersUsed_L) (k := 3) impl_LayersUsed_env mixed Try.func45 (by kernel_rfl) (below_succ impl_LayersUsed_10_lok (below_succ impl_LayersUsed_7_lok (below_succ impl_LayersUsed_5_lok below_zero))) (fun x => by kernel_rfl)

@[reducible] noncomputable def impl_PruneKeymap_sem : FnSem := .pu (.p tKeymap .u) (.p tKeymap .u) [true] (fun x => impl_PruneKeymap x.1)
noncomputable def impl_PruneKeymap_G : Env := ⟨GT, [(44, impl_copyKeymap_sem), (37, impl_IsKeymap_sem), (45, impl_LayersUsed_sem), (46, impl_bit_sem)], [(14999, 200101)]⟩
theorem impl_PruneKeymap_env : EnvOk Try.prog impl_PruneKeymap_G := EnvOk.cons impl_copyKeymap_snd (EnvOk.cons impl_IsKeymap_snd (EnvOk.cons impl_LayersUsed_snd (EnvOk.cons impl_bit_snd (envOk_nil GT_ok))))
noncomputable def impl_PruneKeymap_9_ls : LoopSem := ⟨40, ⟨[(2, (.ptr 2 [])), (3, (.ptr 3 [])), (4, (.data int)), (5, (.data int)), (6, (.own 200101 tAction true)), (17, (.hol 200102 (.sl tAction) [] (.sl tAction) (.own 200101 tAction true))), (18, (.data int)), (19, (.data int)), (25, (.data int)), (26, (.data int))], [(2, tKeymap, (.pr (.data int) (.pr (.data (.sl (.sl tAction))) .un))), (3, tKeymap, (.pr (.data int) (.pr (.hol 200102 (.sl tAction) [] (.sl tAction) (.own 200101 tAction true)) .un)))]⟩, 2, ⟨[(2, (.ptr 2 [])), (3, (.ptr 3 [])), (4, (.data int)), (17, (.hol 200101 (.sl tAction) [] (.sl tAction) (.own 200102 tAction true))), (18, (.data int)), (19, (.data int))], [(2, tKeymap, (.pr (.data int) (.pr (.data (.sl (.sl tAction))) .un))), (3, tKeymap, (.pr (.data int) (.pr (.hol 200101 (.sl tAction) [] (.sl tAction) (.own 200102 tAction true)) .un)))]⟩, ⟨[], []⟩, impl_PruneKeymap_9_loop⟩
noncomputable def impl_PruneKeymap_6_ls : LoopSem := ⟨40, ⟨[(2, (.ptr 2 [])), (3, (.ptr 3 [])), (4, (.data int)), (17, (.own 200001 (.sl tAction) true)), (18, (.data int)), (19, (.data int))], [(2, tKeymap, (.pr (.data int) (.pr (.data (.sl (.sl tAction))) .un))), (3, tKeymap, (.pr (.data int) (.pr (.own 200001 (.sl tAction) true) .un)))]⟩, 0, ⟨[(2, (.ptr 2 [])), (3, (.ptr 3 []))], [(2, tKeymap, (.pr (.data int) (.pr (.data (.sl (.sl tAction))) .un))), (3, tKeymap, (.pr (.data int) (.pr (.own 200001 (.sl tAction) true) .un)))]⟩, ⟨[], []⟩, impl_PruneKeymap_6_loop⟩
noncomputable def impl_PruneKeymap_L : List (Nat × LoopSem) := [(9, impl_PruneKeymap_9_ls), (6, impl_PruneKeymap_6_ls)]
theorem impl_PruneKeymap_9_lok : LoopOk impl_PruneKeymap_G impl_PruneKeymap_L (lp Try.f18 1) := loopOk_of (r := 9) (ls := impl_PruneKeymap_9_ls) (R := fun x => impl_PruneKeymap_9_R x.1.1 x.1.2.1 x.1.2.2.1 x.1.2.2.2.1 x.1.2.2.2.2.1 x.1.2.2.2.2.2.1 x.1.2.2.2.2.2.2.1 x.1.2.2.2.2.2.2.2.1 x.1.2.2.2.2.2.2.2.2.1 x.1.2.2.2.2.2.2.2.2.2.1 x.2.1 x.2.2.1) (by kernel_rfl) (by kernel_rfl) rfl (fun x => by kernel_rfl)
theorem impl_PruneKeymap_6_lok : LoopOk impl_PruneKeymap_G impl_PruneKeymap_L (lp Try.f18 0) := loopOk_of (r := 6) (ls := impl_PruneKeymap_6_ls) (R := fun x => impl_PruneKeymap_6_R x.1.1 x.1.2.1 x.1.2.2.1 x.1.2.2.2.1 x.1.2.2.2.2.1 x.1.2.2.2.2.2.1 x.2.1 x.2.2.1) (by kernel_rfl) (by kernel_rfl) rfl (fun x => by kernel_rfl)
theorem impl_PruneKeymap_snd : Sound Try.prog 18 impl_PruneKeymap_sem := sound_pu' (L := impl_PruneKeymap_L) (k := 2) impl_PruneKeymap_env mixed Try.func18 (by kernel_rfl) (below_succ impl_PruneKeymap_9_lok (below_succ impl_PruneKeymap_6_lok below_zero)) (fun x => by kernel_rfl)

@[reducible] noncomputable def laws_eqAction_sem : FnSem := .pu (.p tAction (.p tAction .u)) (.p .b .u) [true] (fun x => laws_eqAction x.1 x.2.1)
noncomputable def laws_eqAction_G : Env := ⟨GT, [], []⟩
theorem laws_eqAction_env : EnvOk Try.prog laws_eqAction_G := envOk_nil GT_ok
noncomputable def laws_eqAction_L : List (Nat × LoopSem) := []
theorem laws_eqAction_snd : Sound Try.prog 68 laws_eqAction_sem := sound_pu' (L := laws_eqAction_L) (k := 0) laws_eqAction_env mixed Try.func68 (by kernel_rfl) below_zero (fun x => by kernel_rfl)

@[reducible] noncomputable def laws_eqActionS_sem : FnSem := .pu (.p (.sl tAction) (.p (.sl tAction) .u)) (.p .b .u) [true] (fun x => laws_eqActionS x.1 x.2.1)
noncomputable def laws_eqActionS_G : Env := ⟨GT, [(68, laws_eqAction_sem)], []⟩
theorem laws_eqActionS_env : EnvOk Try.prog laws_eqActionS_G := EnvOk.cons laws_eqAction_snd (envOk_nil GT_ok)
noncomputable def laws_eqActionS_4_ls : LoopSem := ⟨27, ⟨[(0, (.data (.sl tAction))), (1, (.data (.sl tAction))), (5, (.data int))], []⟩, 0, ⟨[], []⟩, ⟨[(4, (.data .b))], []⟩, laws_eqActionS_4_loop⟩
noncomputable def laws_eqActionS_L : List (Nat × LoopSem) := [(4, laws_eqActionS_4_ls)]
theorem laws_eqActionS_4_lok : LoopOk laws_eqActionS_G laws_eqActionS_L (lp Try.f60 0) := loopOk_of (r := 4) (ls := laws_eqActionS_4_ls) (R := fun x => laws_eqActionS_4_R x.1.1 x.1.2.1 x.1.2.2.1) (by kernel_rfl) (by kernel_rfl) rfl (fun x => by kernel_rfl)
theorem laws_eqActionS_snd : Sound Try.prog 60 laws_eqActionS_sem := sound_pu' (L := laws_eqActionS_L) (k := 1) laws_eqActionS_env mixed Try.func60 (by kernel_rfl) (below_succ laws_eqActionS_4_lok below_zero) (fun x => by kernel_rfl)

@[reducible] noncomputable def laws_eqActionSS_sem : FnSem := .pu (.p (.sl (.sl tAction)) (.p (.sl (.sl tAction)) .u)) (.p .b .u) [true] (fun x => laws_eqActionSS x.1 x.2.1)
noncomputable def laws_eqActionSS_G : Env := ⟨GT, [(60, laws_eqActionS_sem)], []⟩
theorem laws_eqActionSS_env : EnvOk Try.prog laws_eqActionSS_G := EnvOk.cons laws_eqActionS_snd (envOk_nil GT_ok)
noncomputable def laws_eqActionSS_4_ls : LoopSem := ⟨27, ⟨[(0, (.data (.sl (.sl tAction)))), (1, (.data (.sl (.sl tAction)))), (5, (.data int))], []⟩, 0, ⟨[], []⟩, ⟨[(4, (.data .b))], []⟩, laws_eqActionSS_4_loop⟩
noncomputable def laws_eqActionSS_L : List (Nat × LoopSem) := [(4, laws_eqActionSS_4_ls)]
theorem laws_eqActionSS_4_lok : LoopOk laws_eqActionSS_G laws_eqActionSS_L (lp Try.f40 0) := loopOk_of (r := 4) (ls := laws_eqActionSS_4_ls) (R := fun x => laws_eqActionSS_4_R x.1.1 x.1.2.1 x.1.2.2.1) (by kernel_rfl) (by kernel_rfl) rfl (fun x => by kernel_rfl)
theorem laws_eqActionSS_snd : Sound Try.prog 40 laws_eqActionSS_sem := sound_pu' (L := laws_eqActionSS_L) (k := 1) laws_eqActionSS_env mixed Try.func40 (by kernel_rfl) (below_succ laws_eqActionSS_4_lok below_zero) (fun x => by kernel_rfl)

@[reducible] noncomputable def laws_eqKeymap_sem : FnSem := .pu (.p tKeymap (.p tKeymap .u)) (.p .b .u) [true] (fun x => laws_eqKeymap x.1 x.2.1)
noncomputable def laws_eqKeymap_G : Env := ⟨GT, [(40, laws_eqActionSS_sem)], []⟩
theorem laws_eqKeymap_env : EnvOk Try.prog laws_eqKeymap_G := EnvOk.cons laws_eqActionSS_snd (envOk_nil GT_ok)
noncomputable def laws_eqKeymap_L : List (Nat × LoopSem) := []
theorem laws_eqKeymap_snd : Sound Try.prog 13 laws_eqKeymap_sem := sound_pu' (L := laws_eqKeymap_L) (k := 0) laws_eqKeymap_env mixed Try.func13 (by kernel_rfl) below_zero (fun x => by kernel_rfl)

@[reducible] noncomputable def laws_markActionS_sem : FnSem := .io (.sl tAction) (.p int .u) (.p int .u) [true] (fun x0 x => laws_markActionS x0 x.1)
noncomputable def laws_markActionS_G : Env := ⟨GT, [], []⟩
theorem laws_markActionS_env : EnvOk Try.prog laws_markActionS_G := envOk_nil GT_ok
noncomputable def laws_markActionS_2_ls : LoopSem := ⟨41, ⟨[(0, (.own 500000 tAction true)), (1, (.data int)), (5, (.data int))], []⟩, 0, ⟨[(0, (.own 500000 tAction true)), (1, (.data int))], []⟩, ⟨[], []⟩, laws_markActionS_2_loop⟩
noncomputable def laws_markActionS_L : List (Nat × LoopSem) := [(2, laws_markActionS_2_ls)]
theorem laws_markActionS_2_lok : LoopOk laws_markActionS_G laws_markActionS_L (lp Try.f61 0) := loopOk_of (r := 2) (ls := laws_markActionS_2_ls) (R := fun x => laws_markActionS_2_R x.1.1 x.1.2.1 x.1.2.2.1) (by kernel_rfl) (by kernel_rfl) rfl (fun x => by kernel_rfl)
theorem laws_markActionS_snd : Sound Try.prog 61 laws_markActionS_sem := sound_io' (L := laws_markActionS_L) (k := 1) laws_markActionS_env mixed Try.func61 (by kernel_rfl) (below_succ laws_markActionS_2_lok below_zero) (fun x0 x => by kernel_rfl)

@[reducible] noncomputable def laws_markActionSS_sem : FnSem := .io (.sl (.sl tAction)) (.p int .u) (.p int .u) [true] (fun x0 x => laws_markActionSS x0 x.1)
noncomputable def laws_markActionSS_G : Env := ⟨GT, [(61, laws_markActionS_sem)], [(3999, 500000)]⟩
theorem laws_markActionSS_env : EnvOk Try.prog laws_markActionSS_G := EnvOk.cons laws_markActionS_snd (envOk_nil GT_ok)
noncomputable def laws_markActionSS_2_ls : LoopSem := ⟨19, ⟨[(0, (.own 500000 (.sl tAction) true)), (1, (.data int)), (5, (.data int))], []⟩, 0, ⟨[(0, (.own 500000 (.sl tAction) true)), (1, (.data int))], []⟩, ⟨[], []⟩, laws_markActionSS_2_loop⟩
noncomputable def laws_markActionSS_L : List (Nat × LoopSem) := [(2, laws_markActionSS_2_ls)]
theorem laws_markActionSS_2_lok : LoopOk laws_markActionSS_G laws_markActionSS_L (lp Try.f41 0) := loopOk_of (r := 2) (ls := laws_markActionSS_2_ls) (R := fun x => laws_markActionSS_2_R x.1.1 x.1.2.1 x.1.2.2.1) (by kernel_rfl) (by kernel_rfl) rfl (fun x => by kernel_rfl)
theorem laws_markActionSS_snd : Sound Try.prog 41 laws_markActionSS_sem := sound_io' (L := laws_markActionSS_L) (k := 1) laws_markActionSS_env mixed Try.func41 (by kernel_rfl) (below_succ laws_markActionSS_2_lok below_zero) (fun x0 x => by kernel_rfl)

@[reducible] noncomputable def laws_markKeymap_sem : FnSem := .io tKeymap (.p int .u) (.p int .u) [true] (fun x0 x => laws_markKeymap x0 x.1)
noncomputable def laws_markKeymap_G : Env := ⟨GT, [(41, laws_markActionSS_sem)], []⟩
theorem laws_markKeymap_env : EnvOk Try.prog laws_markKeymap_G := EnvOk.cons laws_markActionSS_snd (envOk_nil GT_ok)
noncomputable def laws_markKeymap_L : List (Nat × LoopSem) := []
theorem laws_markKeymap_snd : Sound Try.prog 14 laws_markKeymap_sem := sound_io' (L := laws_markKeymap_L) (k := 0) laws_markKeymap_env mixed Try.func14 (by kernel_rfl) below_zero (fun x0 x => by kernel_rfl)

@[reducible] noncomputable def laws_heldActionS_sem : FnSem := .pu (.p (.sl tAction) (.p int .u)) (.p int .u) [true] (fun x => laws_heldActionS x.1 x.2.1)
noncomputable def laws_heldActionS_G : Env := ⟨GT, [], []⟩
theorem laws_heldActionS_env : EnvOk Try.prog laws_heldActionS_G := envOk_nil GT_ok
noncomputable def laws_heldActionS_2_ls : LoopSem := ⟨49, ⟨[(0, (.data (.sl tAction))), (1, (.data int)), (5, (.data int))], []⟩, 0, ⟨[(1, (.data int))], []⟩, ⟨[(4, (.data int))], []⟩, laws_heldActionS_2_loop⟩
noncomputable def laws_heldActionS_L : List (Nat × LoopSem) := [(2, laws_heldActionS_2_ls)]
theorem laws_heldActionS_2_lok : LoopOk laws_heldActionS_G laws_heldActionS_L (lp Try.f63 0) := loopOk_of (r := 2) (ls := laws_heldActionS_2_ls) (R := fun x => laws_heldActionS_2_R x.1.1 x.1.2.1 x.1.2.2.1) (by kernel_rfl) (by kernel_rfl) rfl (fun x => by kernel_rfl)
theorem laws_heldActionS_snd : Sound Try.prog 63 laws_heldActionS_sem := sound_pu' (L := laws_heldActionS_L) (k := 1) laws_heldActionS_env mixed Try.func63 (by kernel_rfl) (below_succ laws_heldActionS_2_lok below_zero) (fun x => by kernel_rfl)

@[reducible] noncomputable def laws_heldActionSS_sem : FnSem := .pu (.p (.sl (.sl tAction)) (.p int .u)) (.p int .u) [true] (fun x => laws_heldActionSS x.1 x.2.1)
noncomputable def laws_heldActionSS_G : Env := ⟨GT, [(63, laws_heldActionS_sem)], []⟩
theorem laws_heldActionSS_env : EnvOk Try.prog laws_heldActionSS_G := EnvOk.cons laws_heldActionS_snd (envOk_nil GT_ok)
noncomputable def laws_heldActionSS_2_ls : LoopSem := ⟨21, ⟨[(0, (.data (.sl (.sl tAction)))), (1, (.data int)), (5, (.data int))], []⟩, 0, ⟨[(1, (.data int))], []⟩, ⟨[(4, (.data int))], []⟩, laws_heldActionSS_2_loop⟩
noncomputable def laws_heldActionSS_L : List (Nat × LoopSem) := [(2, laws_heldActionSS_2_ls)]
theorem laws_heldActionSS_2_lok : LoopOk laws_heldActionSS_G laws_heldActionSS_L (lp Try.f47 0) := loopOk_of (r := 2) (ls := laws_heldActionSS_2_ls) (R := fun x => laws_heldActionSS_2_R x.1.1 x.1.2.1 x.1.2.2.1) (by kernel_rfl) (by kernel_rfl) rfl (fun x => by kernel_rfl)
theorem laws_heldActionSS_snd : Sound Try.prog 47 laws_heldActionSS_sem := sound_pu' (L := laws_heldActionSS_L) (k := 1) laws_heldActionSS_env mixed Try.func47 (by kernel_rfl) (below_succ laws_heldActionSS_2_lok below_zero) (fun x => by kernel_rfl)

@[reducible] noncomputable def laws_heldKeymap_sem : FnSem := .pu (.p tKeymap (.p int .u)) (.p int .u) [true] (fun x => laws_heldKeymap x.1 x.2.1)
noncomputable def laws_heldKeymap_G : Env := ⟨GT, [(47, laws_heldActionSS_sem)], []⟩
theorem laws_heldKeymap_env : EnvOk Try.prog laws_heldKeymap_G := EnvOk.cons laws_heldActionSS_snd (envOk_nil GT_ok)
noncomputable def laws_heldKeymap_L : List (Nat × LoopSem) := []
theorem laws_heldKeymap_snd : Sound Try.prog 19 laws_heldKeymap_sem := sound_pu' (L := laws_heldKeymap_L) (k := 0) laws_heldKeymap_env mixed Try.func19 (by kernel_rfl) below_zero (fun x => by kernel_rfl)

@[reducible] noncomputable def laws_FnExactPruneKeymap_sem : FnSem := .pu (.p tKeymap .u) (.p .b .u) [true] (fun x => laws_FnExactPruneKeymap x.1)
noncomputable def laws_FnExactPruneKeymap_G : Env := ⟨GT, [(8, laws_szKeymap_sem), (10, laws_toKeymap_sem), (17, spec_PruneKeymap_sem), (18, impl_PruneKeymap_sem), (13, laws_eqKeymap_sem), (14, laws_markKeymap_sem), (19, laws_heldKeymap_sem)], []⟩
theorem laws_FnExactPruneKeymap_env : EnvOk Try.prog laws_FnExactPruneKeymap_G := EnvOk.cons laws_szKeymap_snd (EnvOk.cons laws_toKeymap_snd (EnvOk.cons spec_PruneKeymap_snd (EnvOk.cons impl_PruneKeymap_snd (EnvOk.cons laws_eqKeymap_snd (EnvOk.cons laws_markKeymap_snd (EnvOk.cons laws_heldKeymap_snd (envOk_nil GT_ok)))))))
noncomputable def laws_FnExactPruneKeymap_L : List (Nat × LoopSem) := []
theorem laws_FnExactPruneKeymap_snd : Sound Try.prog 4 laws_FnExactPruneKeymap_sem := sound_pu' (L := laws_FnExactPruneKeymap_L) (k := 0) laws_FnExactPruneKeymap_env mixed Try.func4 (by kernel_rfl) below_zero (fun x => by kernel_rfl)
end KF
