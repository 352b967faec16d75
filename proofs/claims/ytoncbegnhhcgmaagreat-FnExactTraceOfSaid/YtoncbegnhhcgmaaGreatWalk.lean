/- Each Go function computes its plain function (no condition). -/
import Derived.Test.YtoncbegnhhcgmaaGreatPlainB
import Derived.Test.YtoncbegnhhcgmaaGreatRows
namespace KF
open Go Go.Proofs
def GT : List (Nat × Ty) := [(3, int), (4, .b), (22, (.sl (.sl tAction))), (24, tKeymap), (25, (.sl int)), (27, (.sl tReport)), (30, (.sl (.sl tAction))), (32, tKeymap), (69, (.sl (.sl tStep))), (70, (.sl tHeld)), (72, tEngine), (121, tReport), (172, (.sl tAction)), (177, (.sl tAction)), (240, (.sl tStep)), (242, tAction), (244, tHeld), (255, tAction), (295, tStep), (301, (.sl tCombo)), (303, tCombo)]
def GA : List (Nat × Ty × Nat) := []
theorem GT_ok : ((GT.all fun x => tokB Tryz.prog x.2 x.1) && (GA.all fun x => arrB Tryz.prog x.1 x.2.1 x.2.2)) = true := by kernel_rfl
theorem mixed : Tryz.prog.follows .mixedOrders = true := by kernel_rfl
noncomputable abbrev II : Inv := noI

@[reducible] noncomputable def laws_szActionS_sem : FnSem := .pu (.p (.sl tAction) (.p int .u)) (.p int .u) [true] (fun x => laws_szActionS x.1 x.2.1)
noncomputable def laws_szActionS_G : Env := ⟨GT, [], [], true, GA, [], []⟩
theorem laws_szActionS_env : EnvOk Tryz.prog II laws_szActionS_G := envOk_nil GT_ok
noncomputable def laws_szActionS_L : List (Nat × LoopSem) := []
theorem laws_szActionS_snd : Sound Tryz.prog II 111 laws_szActionS_sem := sound_pu' (L := laws_szActionS_L) (k := 0) laws_szActionS_env mixed Tryz.func111 (by kernel_rfl) below_zero (fun x => by kernel_rfl)

@[reducible] noncomputable def laws_szActionSS_sem : FnSem := .pu (.p (.sl (.sl tAction)) (.p int .u)) (.p int .u) [true] (fun x => laws_szActionSS x.1 x.2.1)
noncomputable def laws_szActionSS_G : Env := ⟨GT, [(111, laws_szActionS_sem)], [], true, GA, [], []⟩
theorem laws_szActionSS_env : EnvOk Tryz.prog II laws_szActionSS_G := EnvOk.cons laws_szActionS_snd (envOk_nil GT_ok)
noncomputable def laws_szActionSS_5_ls : LoopSem := ⟨27, ⟨[(0, (.data (.sl (.sl tAction)))), (1, (.data int)), (5, (.data int))], []⟩, 0, ⟨[(1, (.data int))], []⟩, ⟨[(4, (.data int))], []⟩, laws_szActionSS_5_loop⟩
noncomputable def laws_szActionSS_L : List (Nat × LoopSem) := [(5, laws_szActionSS_5_ls)]
theorem laws_szActionSS_5_lok : LoopOk laws_szActionSS_G laws_szActionSS_L (lp Tryz.f48 0) := loopOk_of (r := 5) (ls := laws_szActionSS_5_ls) (R := fun x => laws_szActionSS_5_R x.1.1 x.1.2.1 x.1.2.2.1) (by kernel_rfl) (by kernel_rfl) rfl (fun x => by kernel_rfl)
theorem laws_szActionSS_snd : Sound Tryz.prog II 48 laws_szActionSS_sem := sound_pu' (L := laws_szActionSS_L) (k := 1) laws_szActionSS_env mixed Tryz.func48 (by kernel_rfl) (below_succ laws_szActionSS_5_lok below_zero) (fun x => by kernel_rfl)

@[reducible] noncomputable def laws_szKeymap_sem : FnSem := .pu (.p tKeymap (.p int .u)) (.p int .u) [true] (fun x => laws_szKeymap x.1 x.2.1)
noncomputable def laws_szKeymap_G : Env := ⟨GT, [(48, laws_szActionSS_sem)], [], true, GA, [], []⟩
theorem laws_szKeymap_env : EnvOk Tryz.prog II laws_szKeymap_G := EnvOk.cons laws_szActionSS_snd (envOk_nil GT_ok)
noncomputable def laws_szKeymap_L : List (Nat × LoopSem) := []
theorem laws_szKeymap_snd : Sound Tryz.prog II 8 laws_szKeymap_sem := sound_pu' (L := laws_szKeymap_L) (k := 0) laws_szKeymap_env mixed Tryz.func8 (by kernel_rfl) below_zero (fun x => by kernel_rfl)

@[reducible] noncomputable def laws_toAction_sem : FnSem := .pu (.p tAction .u) (.p tAction .u) [true] (fun x => laws_toAction x.1)
noncomputable def laws_toAction_G : Env := ⟨GT, [], [], true, GA, [], []⟩
theorem laws_toAction_env : EnvOk Tryz.prog II laws_toAction_G := envOk_nil GT_ok
noncomputable def laws_toAction_L : List (Nat × LoopSem) := []
theorem laws_toAction_snd : Sound Tryz.prog II 204 laws_toAction_sem := sound_pu' (L := laws_toAction_L) (k := 0) laws_toAction_env mixed Tryz.func204 (by kernel_rfl) below_zero (fun x => by kernel_rfl)

@[reducible] noncomputable def laws_toActionS_sem : FnSem := .pu (.p (.sl tAction) .u) (.p (.sl tAction) .u) [true] (fun x => laws_toActionS x.1)
noncomputable def laws_toActionS_G : Env := ⟨GT, [(204, laws_toAction_sem)], [], true, GA, [], []⟩
theorem laws_toActionS_env : EnvOk Tryz.prog II laws_toActionS_G := EnvOk.cons laws_toAction_snd (envOk_nil GT_ok)
noncomputable def laws_toActionS_3_ls : LoopSem := ⟨23, ⟨[(0, (.data (.sl tAction))), (3, (.own 200001 tAction true)), (4, (.data int))], []⟩, 0, ⟨[(3, (.own 200001 tAction true))], []⟩, ⟨[], []⟩, laws_toActionS_3_loop⟩
noncomputable def laws_toActionS_L : List (Nat × LoopSem) := [(3, laws_toActionS_3_ls)]
theorem laws_toActionS_3_lok : LoopOk laws_toActionS_G laws_toActionS_L (lp Tryz.f116 0) := loopOk_of (r := 3) (ls := laws_toActionS_3_ls) (R := fun x => laws_toActionS_3_R x.1.1 x.1.2.1 x.1.2.2.1) (by kernel_rfl) (by kernel_rfl) rfl (fun x => by kernel_rfl)
theorem laws_toActionS_snd : Sound Tryz.prog II 116 laws_toActionS_sem := sound_pu' (L := laws_toActionS_L) (k := 1) laws_toActionS_env mixed Tryz.func116 (by kernel_rfl) (below_succ laws_toActionS_3_lok below_zero) (fun x => by kernel_rfl)

@[reducible] noncomputable def laws_toActionSS_sem : FnSem := .pu (.p (.sl (.sl tAction)) .u) (.p (.sl (.sl tAction)) .u) [true] (fun x => laws_toActionSS x.1)
noncomputable def laws_toActionSS_G : Env := ⟨GT, [(116, laws_toActionS_sem)], [], true, GA, [], []⟩
theorem laws_toActionSS_env : EnvOk Tryz.prog II laws_toActionSS_G := EnvOk.cons laws_toActionS_snd (envOk_nil GT_ok)
noncomputable def laws_toActionSS_3_ls : LoopSem := ⟨23, ⟨[(0, (.data (.sl (.sl tAction)))), (3, (.own 200001 (.sl tAction) true)), (4, (.data int))], []⟩, 0, ⟨[(3, (.own 200001 (.sl tAction) true))], []⟩, ⟨[], []⟩, laws_toActionSS_3_loop⟩
noncomputable def laws_toActionSS_L : List (Nat × LoopSem) := [(3, laws_toActionSS_3_ls)]
theorem laws_toActionSS_3_lok : LoopOk laws_toActionSS_G laws_toActionSS_L (lp Tryz.f51 0) := loopOk_of (r := 3) (ls := laws_toActionSS_3_ls) (R := fun x => laws_toActionSS_3_R x.1.1 x.1.2.1 x.1.2.2.1) (by kernel_rfl) (by kernel_rfl) rfl (fun x => by kernel_rfl)
theorem laws_toActionSS_snd : Sound Tryz.prog II 51 laws_toActionSS_sem := sound_pu' (L := laws_toActionSS_L) (k := 1) laws_toActionSS_env mixed Tryz.func51 (by kernel_rfl) (below_succ laws_toActionSS_3_lok below_zero) (fun x => by kernel_rfl)

@[reducible] noncomputable def laws_toKeymap_sem : FnSem := .pu (.p tKeymap .u) (.p tKeymap .u) [true] (fun x => laws_toKeymap x.1)
noncomputable def laws_toKeymap_G : Env := ⟨GT, [(51, laws_toActionSS_sem)], [], true, GA, [], []⟩
theorem laws_toKeymap_env : EnvOk Tryz.prog II laws_toKeymap_G := EnvOk.cons laws_toActionSS_snd (envOk_nil GT_ok)
noncomputable def laws_toKeymap_L : List (Nat × LoopSem) := []
theorem laws_toKeymap_snd : Sound Tryz.prog II 10 laws_toKeymap_sem := sound_pu' (L := laws_toKeymap_L) (k := 0) laws_toKeymap_env mixed Tryz.func10 (by kernel_rfl) below_zero (fun x => by kernel_rfl)

@[reducible] noncomputable def laws_toIntS_sem : FnSem := .pu (.p (.sl int) .u) (.p (.sl int) .u) [true] (fun x => laws_toIntS x.1)
noncomputable def laws_toIntS_G : Env := ⟨GT, [], [], true, GA, [], []⟩
theorem laws_toIntS_env : EnvOk Tryz.prog II laws_toIntS_G := envOk_nil GT_ok
noncomputable def laws_toIntS_3_ls : LoopSem := ⟨22, ⟨[(0, (.data (.sl int))), (3, (.own 200001 int true)), (4, (.data int))], []⟩, 0, ⟨[(3, (.own 200001 int true))], []⟩, ⟨[], []⟩, laws_toIntS_3_loop⟩
noncomputable def laws_toIntS_L : List (Nat × LoopSem) := [(3, laws_toIntS_3_ls)]
theorem laws_toIntS_3_lok : LoopOk laws_toIntS_G laws_toIntS_L (lp Tryz.f11 0) := loopOk_of (r := 3) (ls := laws_toIntS_3_ls) (R := fun x => laws_toIntS_3_R x.1.1 x.1.2.1 x.1.2.2.1) (by kernel_rfl) (by kernel_rfl) rfl (fun x => by kernel_rfl)
theorem laws_toIntS_snd : Sound Tryz.prog II 11 laws_toIntS_sem := sound_pu' (L := laws_toIntS_L) (k := 1) laws_toIntS_env mixed Tryz.func11 (by kernel_rfl) (below_succ laws_toIntS_3_lok below_zero) (fun x => by kernel_rfl)

@[reducible] noncomputable def spec_l1In_sem : FnSem := .pu tStep (.p .b .u) [true] (fun x => spec_l1In x.1 x.2.1 x.2.2.1)
noncomputable def spec_l1In_G : Env := ⟨GT, [], [], true, GA, [], []⟩
theorem spec_l1In_env : EnvOk Tryz.prog II spec_l1In_G := envOk_nil GT_ok
noncomputable def spec_l1In_L : List (Nat × LoopSem) := []
theorem spec_l1In_snd : Sound Tryz.prog II 95 spec_l1In_sem := sound_pu' (L := spec_l1In_L) (k := 0) spec_l1In_env mixed Tryz.func95 (by kernel_rfl) below_zero (fun x => by kernel_rfl)

@[reducible] noncomputable def spec_IsAction_sem : FnSem := .pu (.p tAction .u) (.p .b .u) [true] (fun x => spec_IsAction x.1)
noncomputable def spec_IsAction_G : Env := ⟨GT, [(95, spec_l1In_sem)], [], true, GA, [], []⟩
theorem spec_IsAction_env : EnvOk Tryz.prog II spec_IsAction_G := EnvOk.cons spec_l1In_snd (envOk_nil GT_ok)
noncomputable def spec_IsAction_L : List (Nat × LoopSem) := []
theorem spec_IsAction_snd : Sound Tryz.prog II 257 spec_IsAction_sem := sound_pu' (L := spec_IsAction_L) (k := 0) spec_IsAction_env mixed Tryz.func257 (by kernel_rfl) below_zero (fun x => by kernel_rfl)

@[reducible] noncomputable def spec_IsKeymap_sem : FnSem := .pu (.p tKeymap .u) (.p .b .u) [true] (fun x => spec_IsKeymap x.1)
noncomputable def spec_IsKeymap_G : Env := ⟨GT, [(257, spec_IsAction_sem), (95, spec_l1In_sem)], [], true, GA, [], []⟩
theorem spec_IsKeymap_env : EnvOk Tryz.prog II spec_IsKeymap_G := EnvOk.cons spec_IsAction_snd (EnvOk.cons spec_l1In_snd (envOk_nil GT_ok))
noncomputable def spec_IsKeymap_7_ls : LoopSem := ⟨74, ⟨[(1, (.ptr 1 [])), (3, (.data int)), (4, (.data int))], [(1, tKeymap, (.data tKeymap))]⟩, 2, ⟨[(1, (.ptr 1 [])), (3, (.data int))], [(1, tKeymap, (.data tKeymap))]⟩, ⟨[(2, (.data .b))], []⟩, spec_IsKeymap_7_loop⟩
noncomputable def spec_IsKeymap_2_ls : LoopSem := ⟨74, ⟨[(1, (.ptr 1 [])), (3, (.data int))], [(1, tKeymap, (.data tKeymap))]⟩, 0, ⟨[(1, (.ptr 1 []))], [(1, tKeymap, (.data tKeymap))]⟩, ⟨[(2, (.data .b))], []⟩, spec_IsKeymap_2_loop⟩
noncomputable def spec_IsKeymap_L : List (Nat × LoopSem) := [(7, spec_IsKeymap_7_ls), (2, spec_IsKeymap_2_ls)]
theorem spec_IsKeymap_7_lok : LoopOk spec_IsKeymap_G spec_IsKeymap_L (lp Tryz.f190 1) := loopOk_of (r := 7) (ls := spec_IsKeymap_7_ls) (R := fun x => spec_IsKeymap_7_R x.1.1 x.1.2.1 x.1.2.2.1 x.2.1) (by kernel_rfl) (by kernel_rfl) rfl (fun x => by kernel_rfl)
theorem spec_IsKeymap_2_lok : LoopOk spec_IsKeymap_G spec_IsKeymap_L (lp Tryz.f190 0) := loopOk_of (r := 2) (ls := spec_IsKeymap_2_ls) (R := fun x => spec_IsKeymap_2_R x.1.1 x.1.2.1 x.2.1) (by kernel_rfl) (by kernel_rfl) rfl (fun x => by kernel_rfl)
theorem spec_IsKeymap_snd : Sound Tryz.prog II 190 spec_IsKeymap_sem := sound_pu' (L := spec_IsKeymap_L) (k := 2) spec_IsKeymap_env mixed Tryz.func190 (by kernel_rfl) (below_succ spec_IsKeymap_7_lok (below_succ spec_IsKeymap_2_lok below_zero)) (fun x => by kernel_rfl)

@[reducible] noncomputable def spec_IsTapHold_sem : FnSem := .pu (.p tAction .u) (.p .b .u) [true] (fun x => spec_IsTapHold x.1)
noncomputable def spec_IsTapHold_G : Env := ⟨GT, [(257, spec_IsAction_sem)], [], true, GA, [], []⟩
theorem spec_IsTapHold_env : EnvOk Tryz.prog II spec_IsTapHold_G := EnvOk.cons spec_IsAction_snd (envOk_nil GT_ok)
noncomputable def spec_IsTapHold_L : List (Nat × LoopSem) := []
theorem spec_IsTapHold_snd : Sound Tryz.prog II 258 spec_IsTapHold_sem := sound_pu' (L := spec_IsTapHold_L) (k := 0) spec_IsTapHold_env mixed Tryz.func258 (by kernel_rfl) below_zero (fun x => by kernel_rfl)

@[reducible] noncomputable def spec_IsHeld_sem : FnSem := .pu (.p (.sl tHeld) .u) (.p .b .u) [true] (fun x => spec_IsHeld x.1)
noncomputable def spec_IsHeld_G : Env := ⟨GT, [(95, spec_l1In_sem), (257, spec_IsAction_sem), (258, spec_IsTapHold_sem)], [], true, GA, [], []⟩
theorem spec_IsHeld_env : EnvOk Tryz.prog II spec_IsHeld_G := EnvOk.cons spec_l1In_snd (EnvOk.cons spec_IsAction_snd (EnvOk.cons spec_IsTapHold_snd (envOk_nil GT_ok)))
noncomputable def spec_IsHeld_3_ls : LoopSem := ⟨57, ⟨[(0, (.data (.sl tHeld))), (3, (.data int)), (4, (.data int))], []⟩, 0, ⟨[], []⟩, ⟨[(2, (.data .b))], []⟩, spec_IsHeld_3_loop⟩
noncomputable def spec_IsHeld_L : List (Nat × LoopSem) := [(3, spec_IsHeld_3_ls)]
theorem spec_IsHeld_3_lok : LoopOk spec_IsHeld_G spec_IsHeld_L (lp Tryz.f191 0) := loopOk_of (r := 3) (ls := spec_IsHeld_3_ls) (R := fun x => spec_IsHeld_3_R x.1.1 x.1.2.1 x.1.2.2.1) (by kernel_rfl) (by kernel_rfl) rfl (fun x => by kernel_rfl)
theorem spec_IsHeld_snd : Sound Tryz.prog II 191 spec_IsHeld_sem := sound_pu' (L := spec_IsHeld_L) (k := 1) spec_IsHeld_env mixed Tryz.func191 (by kernel_rfl) (below_succ spec_IsHeld_3_lok below_zero) (fun x => by kernel_rfl)

@[reducible] noncomputable def spec_l8Find_sem : FnSem := .pu (.p (.sl tHeld) (.p tStep .u)) (.p int .u) [true] (fun x => spec_l8Find x.1 x.2.1)
noncomputable def spec_l8Find_G : Env := ⟨GT, [], [], true, GA, [], []⟩
theorem spec_l8Find_env : EnvOk Tryz.prog II spec_l8Find_G := envOk_nil GT_ok
noncomputable def spec_l8Find_2_ls : LoopSem := ⟨33, ⟨[(0, (.data (.sl tHeld))), (3, (.ptr 3 [])), (5, (.data int))], [(3, tStep, (.data tStep))]⟩, 0, ⟨[], []⟩, ⟨[(4, (.data int))], []⟩, spec_l8Find_2_loop⟩
noncomputable def spec_l8Find_L : List (Nat × LoopSem) := [(2, spec_l8Find_2_ls)]
theorem spec_l8Find_2_lok : LoopOk spec_l8Find_G spec_l8Find_L (lp Tryz.f259 0) := loopOk_of (r := 2) (ls := spec_l8Find_2_ls) (R := fun x => spec_l8Find_2_R x.1.1 x.1.2.1 x.1.2.2.1 x.2.1) (by kernel_rfl) (by kernel_rfl) rfl (fun x => by kernel_rfl)
theorem spec_l8Find_snd : Sound Tryz.prog II 259 spec_l8Find_sem := sound_pu' (L := spec_l8Find_L) (k := 1) spec_l8Find_env mixed Tryz.func259 (by kernel_rfl) (below_succ spec_l8Find_2_lok below_zero) (fun x => by kernel_rfl)

@[reducible] noncomputable def spec_l8Action_sem : FnSem := .pu (.p tStep .u) (.p tAction .u) [true] (fun x => spec_l8Action x.1)
noncomputable def spec_l8Action_G : Env := ⟨GT, [], [], true, GA, [], []⟩
theorem spec_l8Action_env : EnvOk Tryz.prog II spec_l8Action_G := envOk_nil GT_ok
noncomputable def spec_l8Action_L : List (Nat × LoopSem) := []
theorem spec_l8Action_snd : Sound Tryz.prog II 260 spec_l8Action_sem := sound_pu' (L := spec_l8Action_L) (k := 0) spec_l8Action_env mixed Tryz.func260 (by kernel_rfl) below_zero (fun x => by kernel_rfl)

@[reducible] noncomputable def spec_l8Without_sem : FnSem := .pu (.p (.sl tHeld) (.p int .u)) (.p (.sl tHeld) .u) [true] (fun x => spec_l8Without x.1 x.2.1)
noncomputable def spec_l8Without_G : Env := ⟨GT, [], [], true, GA, [], []⟩
theorem spec_l8Without_env : EnvOk Tryz.prog II spec_l8Without_G := envOk_nil GT_ok
noncomputable def spec_l8Without_L : List (Nat × LoopSem) := []
theorem spec_l8Without_snd : Sound Tryz.prog II 203 spec_l8Without_sem := sound_pu' (L := spec_l8Without_L) (k := 0) spec_l8Without_env mixed Tryz.func203 (by kernel_rfl) below_zero (fun x => by kernel_rfl)

@[reducible] noncomputable def spec_IsMacro_sem : FnSem := .pu (.p (.sl tStep) .u) (.p .b .u) [true] (fun x => spec_IsMacro x.1)
noncomputable def spec_IsMacro_G : Env := ⟨GT, [(259, spec_l8Find_sem), (95, spec_l1In_sem), (260, spec_l8Action_sem), (257, spec_IsAction_sem), (203, spec_l8Without_sem)], [], true, GA, [], []⟩
theorem spec_IsMacro_env : EnvOk Tryz.prog II spec_IsMacro_G := EnvOk.cons spec_l8Find_snd (EnvOk.cons spec_l1In_snd (EnvOk.cons spec_l8Action_snd (EnvOk.cons spec_IsAction_snd (EnvOk.cons spec_l8Without_snd (envOk_nil GT_ok)))))
noncomputable def spec_IsMacro_3_ls : LoopSem := ⟨62, ⟨[(0, (.data (.sl tStep))), (3, (.own 200001 tHeld true)), (4, (.data int))], []⟩, 0, ⟨[(0, (.data (.sl tStep))), (3, (.own 200001 tHeld true))], []⟩, ⟨[(2, (.data .b))], []⟩, spec_IsMacro_3_loop⟩
noncomputable def spec_IsMacro_L : List (Nat × LoopSem) := [(3, spec_IsMacro_3_ls)]
theorem spec_IsMacro_3_lok : LoopOk spec_IsMacro_G spec_IsMacro_L (lp Tryz.f192 0) := loopOk_of (r := 3) (ls := spec_IsMacro_3_ls) (R := fun x => spec_IsMacro_3_R x.1.1 x.1.2.1 x.1.2.2.1) (by kernel_rfl) (by kernel_rfl) rfl (fun x => by kernel_rfl)
theorem spec_IsMacro_snd : Sound Tryz.prog II 192 spec_IsMacro_sem := sound_pu' (L := spec_IsMacro_L) (k := 1) spec_IsMacro_env mixed Tryz.func192 (by kernel_rfl) (below_succ spec_IsMacro_3_lok below_zero) (fun x => by kernel_rfl)

@[reducible] noncomputable def spec_IsEngine_sem : FnSem := .pu (.p tEngine .u) (.p .b .u) [true] (fun x => spec_IsEngine x.1)
noncomputable def spec_IsEngine_G : Env := ⟨GT, [(190, spec_IsKeymap_sem), (191, spec_IsHeld_sem), (192, spec_IsMacro_sem), (95, spec_l1In_sem)], [], true, GA, [], []⟩
theorem spec_IsEngine_env : EnvOk Tryz.prog II spec_IsEngine_G := EnvOk.cons spec_IsKeymap_snd (EnvOk.cons spec_IsHeld_snd (EnvOk.cons spec_IsMacro_snd (EnvOk.cons spec_l1In_snd (envOk_nil GT_ok))))
noncomputable def spec_IsEngine_4_ls : LoopSem := ⟨96, ⟨[(1, (.ptr 1 [])), (3, (.data int))], [(1, tEngine, (.data tEngine))]⟩, 0, ⟨[(1, (.ptr 1 []))], [(1, tEngine, (.data tEngine))]⟩, ⟨[(2, (.data .b))], []⟩, spec_IsEngine_4_loop⟩
noncomputable def spec_IsEngine_9_ls : LoopSem := ⟨96, ⟨[(1, (.ptr 1 [])), (4, (.data int))], [(1, tEngine, (.data tEngine))]⟩, 2, ⟨[(1, (.ptr 1 []))], [(1, tEngine, (.data tEngine))]⟩, ⟨[(2, (.data .b))], []⟩, spec_IsEngine_9_loop⟩
noncomputable def spec_IsEngine_L : List (Nat × LoopSem) := [(4, spec_IsEngine_4_ls), (9, spec_IsEngine_9_ls)]
theorem spec_IsEngine_4_lok : LoopOk spec_IsEngine_G spec_IsEngine_L (lp Tryz.f112 0) := loopOk_of (r := 4) (ls := spec_IsEngine_4_ls) (R := fun x => spec_IsEngine_4_R x.1.1 x.1.2.1 x.2.1) (by kernel_rfl) (by kernel_rfl) rfl (fun x => by kernel_rfl)
theorem spec_IsEngine_9_lok : LoopOk spec_IsEngine_G spec_IsEngine_L (lp Tryz.f112 1) := loopOk_of (r := 9) (ls := spec_IsEngine_9_ls) (R := fun x => spec_IsEngine_9_R x.1.1 x.1.2.1 x.2.1) (by kernel_rfl) (by kernel_rfl) rfl (fun x => by kernel_rfl)
theorem spec_IsEngine_snd : Sound Tryz.prog II 112 spec_IsEngine_sem := sound_pu' (L := spec_IsEngine_L) (k := 2) spec_IsEngine_env mixed Tryz.func112 (by kernel_rfl) (below_succ spec_IsEngine_9_lok (below_succ spec_IsEngine_4_lok below_zero)) (fun x => by kernel_rfl)

@[reducible] noncomputable def spec_l6Copy_sem : FnSem := .pu (.p tKeymap .u) (.p tKeymap .u) [true] (fun x => spec_l6Copy x.1)
noncomputable def spec_l6Copy_G : Env := ⟨GT, [], [], true, GA, [], []⟩
theorem spec_l6Copy_env : EnvOk Tryz.prog II spec_l6Copy_G := envOk_nil GT_ok
noncomputable def spec_l6Copy_3_ls : LoopSem := ⟨28, ⟨[(1, (.ptr 1 [])), (2, (.ptr 2 [])), (3, (.ptr 3 [])), (4, (.data int))], [(1, tKeymap, (.data tKeymap)), (2, tKeymap, (.pr (.data int) (.pr (.data (.sl (.sl tAction))) .un))), (3, tKeymap, (.pr (.data int) (.pr (.own 200001 (.sl tAction) true) .un)))]⟩, 0, ⟨[(2, (.ptr 2 [])), (3, (.ptr 3 []))], [(2, tKeymap, (.pr (.data int) (.pr (.data (.sl (.sl tAction))) .un))), (3, tKeymap, (.pr (.data int) (.pr (.own 200001 (.sl tAction) true) .un)))]⟩, ⟨[], []⟩, spec_l6Copy_3_loop⟩
noncomputable def spec_l6Copy_L : List (Nat × LoopSem) := [(3, spec_l6Copy_3_ls)]
theorem spec_l6Copy_3_lok : LoopOk spec_l6Copy_G spec_l6Copy_L (lp Tryz.f193 0) := loopOk_of (r := 3) (ls := spec_l6Copy_3_ls) (R := fun x => spec_l6Copy_3_R x.1.1 x.1.2.1 x.1.2.2.1 x.1.2.2.2.1 x.2.1 x.2.2.1 x.2.2.2.1) (by kernel_rfl) (by kernel_rfl) rfl (fun x => by kernel_rfl)
theorem spec_l6Copy_snd : Sound Tryz.prog II 193 spec_l6Copy_sem := sound_pu' (L := spec_l6Copy_L) (k := 1) spec_l6Copy_env mixed Tryz.func193 (by kernel_rfl) (below_succ spec_l6Copy_3_lok below_zero) (fun x => by kernel_rfl)

@[reducible] noncomputable def spec_l9Copy_sem : FnSem := .pu (.p tEngine .u) (.p tEngine .u) [true] (fun x => spec_l9Copy x.1)
noncomputable def spec_l9Copy_G : Env := ⟨GT, [(193, spec_l6Copy_sem)], [], true, GA, [], []⟩
theorem spec_l9Copy_env : EnvOk Tryz.prog II spec_l9Copy_G := EnvOk.cons spec_l6Copy_snd (envOk_nil GT_ok)
noncomputable def spec_l9Copy_5_ls : LoopSem := ⟨37, ⟨[(1, (.ptr 1 [])), (2, (.ptr 2 [])), (3, (.ptr 3 [])), (4, (.data int))], [(1, tEngine, (.data tEngine)), (2, tEngine, (.pr (.pr (.data int) (.pr (.data (.sl (.sl tAction))) .un)) (.pr (.data (.sl (.sl tStep))) (.pr (.data int) (.pr (.data (.sl tHeld)) (.data (.p int (.p .b .u)))))))), (3, tEngine, (.pr (.pr (.data int) (.pr (.own 200001 (.sl tAction) true) .un)) (.pr (.own 200002 (.sl tStep) true) (.data (.p int (.p (.sl tHeld) (.p int (.p .b .u))))))))]⟩, 0, ⟨[(1, (.ptr 1 [])), (2, (.ptr 2 [])), (3, (.ptr 3 []))], [(1, tEngine, (.data tEngine)), (2, tEngine, (.pr (.pr (.data int) (.pr (.data (.sl (.sl tAction))) .un)) (.pr (.data (.sl (.sl tStep))) (.pr (.data int) (.pr (.data (.sl tHeld)) (.data (.p int (.p .b .u)))))))), (3, tEngine, (.pr (.pr (.data int) (.pr (.own 200001 (.sl tAction) true) .un)) (.pr (.own 200002 (.sl tStep) true) (.data (.p int (.p (.sl tHeld) (.p int (.p .b .u))))))))]⟩, ⟨[], []⟩, spec_l9Copy_5_loop⟩
noncomputable def spec_l9Copy_L : List (Nat × LoopSem) := [(5, spec_l9Copy_5_ls)]
theorem spec_l9Copy_5_lok : LoopOk spec_l9Copy_G spec_l9Copy_L (lp Tryz.f113 0) := loopOk_of (r := 5) (ls := spec_l9Copy_5_ls) (R := fun x => spec_l9Copy_5_R x.1.1 x.1.2.1 x.1.2.2.1 x.1.2.2.2.1 x.2.1 x.2.2.1 x.2.2.2.1) (by kernel_rfl) (by kernel_rfl) rfl (fun x => by kernel_rfl)
theorem spec_l9Copy_snd : Sound Tryz.prog II 113 spec_l9Copy_sem := sound_pu' (L := spec_l9Copy_L) (k := 1) spec_l9Copy_env mixed Tryz.func113 (by kernel_rfl) (below_succ spec_l9Copy_5_lok below_zero) (fun x => by kernel_rfl)

@[reducible] noncomputable def spec_NewEngine_sem : FnSem := .pu (.p tKeymap (.p (.sl (.sl tStep)) .u)) (.p tEngine (.p .b .u)) [true, true] (fun x => spec_NewEngine x.1 x.2.1)
noncomputable def spec_NewEngine_G : Env := ⟨GT, [(112, spec_IsEngine_sem), (113, spec_l9Copy_sem)], [], true, GA, [], []⟩
theorem spec_NewEngine_env : EnvOk Tryz.prog II spec_NewEngine_G := EnvOk.cons spec_IsEngine_snd (EnvOk.cons spec_l9Copy_snd (envOk_nil GT_ok))
noncomputable def spec_NewEngine_L : List (Nat × LoopSem) := []
theorem spec_NewEngine_snd : Sound Tryz.prog II 49 spec_NewEngine_sem := sound_pu' (L := spec_NewEngine_L) (k := 0) spec_NewEngine_env mixed Tryz.func49 (by kernel_rfl) below_zero (fun x => by kernel_rfl)

@[reducible] noncomputable def spec_HeldAt_sem : FnSem := .pu (.p tEngine (.p int .u)) (.p int .u) [true] (fun x => spec_HeldAt x.1 x.2.1)
noncomputable def spec_HeldAt_G : Env := ⟨GT, [], [], true, GA, [], []⟩
theorem spec_HeldAt_env : EnvOk Tryz.prog II spec_HeldAt_G := envOk_nil GT_ok
noncomputable def spec_HeldAt_2_ls : LoopSem := ⟨22, ⟨[(1, (.data int)), (2, (.ptr 2 [])), (5, (.data int))], [(2, tEngine, (.data tEngine))]⟩, 0, ⟨[], []⟩, ⟨[(4, (.data int))], []⟩, spec_HeldAt_2_loop⟩
noncomputable def spec_HeldAt_L : List (Nat × LoopSem) := [(2, spec_HeldAt_2_ls)]
theorem spec_HeldAt_2_lok : LoopOk spec_HeldAt_G spec_HeldAt_L (lp Tryz.f194 0) := loopOk_of (r := 2) (ls := spec_HeldAt_2_ls) (R := fun x => spec_HeldAt_2_R x.1.1 x.1.2.1 x.1.2.2.1 x.2.1) (by kernel_rfl) (by kernel_rfl) rfl (fun x => by kernel_rfl)
theorem spec_HeldAt_snd : Sound Tryz.prog II 194 spec_HeldAt_sem := sound_pu' (L := spec_HeldAt_L) (k := 1) spec_HeldAt_env mixed Tryz.func194 (by kernel_rfl) (below_succ spec_HeldAt_2_lok below_zero) (fun x => by kernel_rfl)

@[reducible] noncomputable def spec_LayersOn_sem : FnSem := .pu (.p int (.p (.sl tHeld) .u)) (.p int .u) [true] (fun x => spec_LayersOn x.1 x.2.1)
noncomputable def spec_LayersOn_G : Env := ⟨GT, [(95, spec_l1In_sem), (191, spec_IsHeld_sem)], [], true, GA, [], []⟩
theorem spec_LayersOn_env : EnvOk Tryz.prog II spec_LayersOn_G := EnvOk.cons spec_l1In_snd (EnvOk.cons spec_IsHeld_snd (envOk_nil GT_ok))
noncomputable def spec_LayersOn_5_ls : LoopSem := ⟨38, ⟨[(1, (.data (.sl tHeld))), (5, (.data int)), (6, (.data int))], []⟩, 0, ⟨[(5, (.data int))], []⟩, ⟨[], []⟩, spec_LayersOn_5_loop⟩
noncomputable def spec_LayersOn_L : List (Nat × LoopSem) := [(5, spec_LayersOn_5_ls)]
theorem spec_LayersOn_5_lok : LoopOk spec_LayersOn_G spec_LayersOn_L (lp Tryz.f196 0) := loopOk_of (r := 5) (ls := spec_LayersOn_5_ls) (R := fun x => spec_LayersOn_5_R x.1.1 x.1.2.1 x.1.2.2.1) (by kernel_rfl) (by kernel_rfl) rfl (fun x => by kernel_rfl)
theorem spec_LayersOn_snd : Sound Tryz.prog II 196 spec_LayersOn_sem := sound_pu' (L := spec_LayersOn_L) (k := 1) spec_LayersOn_env mixed Tryz.func196 (by kernel_rfl) (below_succ spec_LayersOn_5_lok below_zero) (fun x => by kernel_rfl)

@[reducible] noncomputable def spec_LayerAt_sem : FnSem := .pu (.p tKeymap tCombo) (.p int .u) [true] (fun x => spec_LayerAt x.1 x.2.1 x.2.2.1)
noncomputable def spec_LayerAt_G : Env := ⟨GT, [(190, spec_IsKeymap_sem), (95, spec_l1In_sem)], [], true, GA, [], []⟩
theorem spec_LayerAt_env : EnvOk Tryz.prog II spec_LayerAt_G := EnvOk.cons spec_IsKeymap_snd (EnvOk.cons spec_l1In_snd (envOk_nil GT_ok))
noncomputable def spec_LayerAt_4_ls : LoopSem := ⟨45, ⟨[(1, (.data int)), (2, (.data int)), (3, (.ptr 3 [])), (7, (.data int))], [(3, tKeymap, (.data tKeymap))]⟩, 0, ⟨[], []⟩, ⟨[(6, (.data int))], []⟩, spec_LayerAt_4_loop⟩
noncomputable def spec_LayerAt_L : List (Nat × LoopSem) := [(4, spec_LayerAt_4_ls)]
theorem spec_LayerAt_4_lok : LoopOk spec_LayerAt_G spec_LayerAt_L (lp Tryz.f261 0) := loopOk_of (r := 4) (ls := spec_LayerAt_4_ls) (R := fun x => spec_LayerAt_4_R x.1.1 x.1.2.1 x.1.2.2.1 x.1.2.2.2.1 x.2.1) (by kernel_rfl) (by kernel_rfl) rfl (fun x => by kernel_rfl)
theorem spec_LayerAt_snd : Sound Tryz.prog II 261 spec_LayerAt_sem := sound_pu' (L := spec_LayerAt_L) (k := 1) spec_LayerAt_env mixed Tryz.func261 (by kernel_rfl) (below_succ spec_LayerAt_4_lok below_zero) (fun x => by kernel_rfl)

@[reducible] noncomputable def spec_ActionAt_sem : FnSem := .pu (.p tKeymap tCombo) (.p tAction .u) [true] (fun x => spec_ActionAt x.1 x.2.1 x.2.2.1)
noncomputable def spec_ActionAt_G : Env := ⟨GT, [(261, spec_LayerAt_sem)], [], true, GA, [], []⟩
theorem spec_ActionAt_env : EnvOk Tryz.prog II spec_ActionAt_G := EnvOk.cons spec_LayerAt_snd (envOk_nil GT_ok)
noncomputable def spec_ActionAt_L : List (Nat × LoopSem) := []
theorem spec_ActionAt_snd : Sound Tryz.prog II 195 spec_ActionAt_sem := sound_pu' (L := spec_ActionAt_L) (k := 0) spec_ActionAt_env mixed Tryz.func195 (by kernel_rfl) below_zero (fun x => by kernel_rfl)

@[reducible] noncomputable def spec_HoldOf_sem : FnSem := .pu (.p tAction .u) (.p tAction .u) [true] (fun x => spec_HoldOf x.1)
noncomputable def spec_HoldOf_G : Env := ⟨GT, [(258, spec_IsTapHold_sem)], [], true, GA, [], []⟩
theorem spec_HoldOf_env : EnvOk Tryz.prog II spec_HoldOf_G := EnvOk.cons spec_IsTapHold_snd (envOk_nil GT_ok)
noncomputable def spec_HoldOf_L : List (Nat × LoopSem) := []
theorem spec_HoldOf_snd : Sound Tryz.prog II 197 spec_HoldOf_sem := sound_pu' (L := spec_HoldOf_L) (k := 0) spec_HoldOf_env mixed Tryz.func197 (by kernel_rfl) below_zero (fun x => by kernel_rfl)

@[reducible] noncomputable def spec_TapOf_sem : FnSem := .pu (.p tAction .u) (.p tAction .u) [true] (fun x => spec_TapOf x.1)
noncomputable def spec_TapOf_G : Env := ⟨GT, [(258, spec_IsTapHold_sem)], [], true, GA, [], []⟩
theorem spec_TapOf_env : EnvOk Tryz.prog II spec_TapOf_G := EnvOk.cons spec_IsTapHold_snd (envOk_nil GT_ok)
noncomputable def spec_TapOf_L : List (Nat × LoopSem) := []
theorem spec_TapOf_snd : Sound Tryz.prog II 198 spec_TapOf_sem := sound_pu' (L := spec_TapOf_L) (k := 0) spec_TapOf_env mixed Tryz.func198 (by kernel_rfl) below_zero (fun x => by kernel_rfl)

@[reducible] noncomputable def spec_IsWordCode_sem : FnSem := .pu (.p int .u) (.p .b .u) [true] (fun x => spec_IsWordCode x.1)
noncomputable def spec_IsWordCode_G : Env := ⟨GT, [(95, spec_l1In_sem)], [], true, GA, [], []⟩
theorem spec_IsWordCode_env : EnvOk Tryz.prog II spec_IsWordCode_G := EnvOk.cons spec_l1In_snd (envOk_nil GT_ok)
noncomputable def spec_IsWordCode_L : List (Nat × LoopSem) := []
theorem spec_IsWordCode_snd : Sound Tryz.prog II 294 spec_IsWordCode_sem := sound_pu' (L := spec_IsWordCode_L) (k := 0) spec_IsWordCode_env mixed Tryz.func294 (by kernel_rfl) below_zero (fun x => by kernel_rfl)

@[reducible] noncomputable def spec_l9Key_sem : FnSem := .bx false false tEngine (.p tAction .u) (.p tAction .u) [true] (fun x0 x => spec_l9Key x0 x.1)
noncomputable def spec_l9Key_G : Env := ⟨GT, [(294, spec_IsWordCode_sem)], [], false, GA, [], []⟩
theorem spec_l9Key_env : EnvOk Tryz.prog II spec_l9Key_G := EnvOk.cons spec_IsWordCode_snd (envOk_nil GT_ok)
noncomputable def spec_l9Key_L : List (Nat × LoopSem) := []
theorem spec_l9Key_snd : Sound Tryz.prog II 262 spec_l9Key_sem := sound_bx' (L := spec_l9Key_L) (k := 0) spec_l9Key_env rfl mixed Tryz.func262 (by kernel_rfl) below_zero (fun x0 x => by kernel_rfl)

@[reducible] noncomputable def spec_l9Settle_sem : FnSem := .bx false false tEngine (.p tAction .u) (.p tAction .u) [true] (fun x0 x => spec_l9Settle x0 x.1)
noncomputable def spec_l9Settle_G : Env := ⟨GT, [(262, spec_l9Key_sem)], [], false, GA, [], []⟩
theorem spec_l9Settle_env : EnvOk Tryz.prog II spec_l9Settle_G := EnvOk.cons spec_l9Key_snd (envOk_nil GT_ok)
noncomputable def spec_l9Settle_L : List (Nat × LoopSem) := []
theorem spec_l9Settle_snd : Sound Tryz.prog II 199 spec_l9Settle_sem := sound_bx' (L := spec_l9Settle_L) (k := 0) spec_l9Settle_env rfl mixed Tryz.func199 (by kernel_rfl) below_zero (fun x0 x => by kernel_rfl)

@[reducible] noncomputable def spec_ReportOf_sem : FnSem := .pu (.p (.sl tHeld) .u) (.p tReport .u) [true] (fun x => spec_ReportOf x.1)
noncomputable def spec_ReportOf_G : Env := ⟨GT, [(191, spec_IsHeld_sem)], [], true, GA, [], []⟩
theorem spec_ReportOf_env : EnvOk Tryz.prog II spec_ReportOf_G := EnvOk.cons spec_IsHeld_snd (envOk_nil GT_ok)
noncomputable def spec_ReportOf_5_ls : LoopSem := ⟨70, ⟨[(0, (.data (.sl tHeld))), (2, (.ptr 2 [])), (3, (.ptr 3 [])), (4, (.data int))], [(2, tReport, (.pr (.data int) (.pr (.data (.sl int)) .un))), (3, tReport, (.pr (.data int) (.pr (.own 200001 int true) .un)))]⟩, 0, ⟨[(0, (.data (.sl tHeld))), (2, (.ptr 2 [])), (3, (.ptr 3 []))], [(2, tReport, (.pr (.data int) (.pr (.data (.sl int)) .un))), (3, tReport, (.pr (.data int) (.pr (.own 200001 int true) .un)))]⟩, ⟨[], []⟩, spec_ReportOf_5_loop⟩
noncomputable def spec_ReportOf_13_ls : LoopSem := ⟨70, ⟨[(0, (.data (.sl tHeld))), (2, (.ptr 2 [])), (3, (.ptr 3 [])), (5, (.data int)), (6, (.data int))], [(2, tReport, (.pr (.data int) (.pr (.data (.sl int)) .un))), (3, tReport, (.pr (.data int) (.pr (.own 200201 int true) .un)))]⟩, 4, ⟨[(0, (.data (.sl tHeld))), (2, (.ptr 2 [])), (3, (.ptr 3 [])), (5, (.data int))], [(2, tReport, (.pr (.data int) (.pr (.data (.sl int)) .un))), (3, tReport, (.pr (.data int) (.pr (.own 200201 int true) .un)))]⟩, ⟨[], []⟩, spec_ReportOf_13_loop⟩
noncomputable def spec_ReportOf_10_ls : LoopSem := ⟨70, ⟨[(0, (.data (.sl tHeld))), (2, (.ptr 2 [])), (3, (.ptr 3 [])), (5, (.data int))], [(2, tReport, (.pr (.data int) (.pr (.data (.sl int)) .un))), (3, tReport, (.pr (.data int) (.pr (.own 200101 int true) .un)))]⟩, 2, ⟨[(2, (.ptr 2 [])), (3, (.ptr 3 []))], [(2, tReport, (.pr (.data int) (.pr (.data (.sl int)) .un))), (3, tReport, (.pr (.data int) (.pr (.own 200101 int true) .un)))]⟩, ⟨[], []⟩, spec_ReportOf_10_loop⟩
noncomputable def spec_ReportOf_L : List (Nat × LoopSem) := [(5, spec_ReportOf_5_ls), (13, spec_ReportOf_13_ls), (10, spec_ReportOf_10_ls)]
theorem spec_ReportOf_5_lok : LoopOk spec_ReportOf_G spec_ReportOf_L (lp Tryz.f201 0) := loopOk_of (r := 5) (ls := spec_ReportOf_5_ls) (R := fun x => spec_ReportOf_5_R x.1.1 x.1.2.1 x.1.2.2.1 x.1.2.2.2.1 x.2.1 x.2.2.1) (by kernel_rfl) (by kernel_rfl) rfl (fun x => by kernel_rfl)
theorem spec_ReportOf_13_lok : LoopOk spec_ReportOf_G spec_ReportOf_L (lp Tryz.f201 2) := loopOk_of (r := 13) (ls := spec_ReportOf_13_ls) (R := fun x => spec_ReportOf_13_R x.1.1 x.1.2.1 x.1.2.2.1 x.1.2.2.2.1 x.1.2.2.2.2.1 x.2.1 x.2.2.1) (by kernel_rfl) (by kernel_rfl) rfl (fun x => by kernel_rfl)
theorem spec_ReportOf_10_lok : LoopOk spec_ReportOf_G spec_ReportOf_L (lp Tryz.f201 1) := loopOk_of (r := 10) (ls := spec_ReportOf_10_ls) (R := fun x => spec_ReportOf_10_R x.1.1 x.1.2.1 x.1.2.2.1 x.1.2.2.2.1 x.2.1 x.2.2.1) (by kernel_rfl) (by kernel_rfl) rfl (fun x => by kernel_rfl)
theorem spec_ReportOf_snd : Sound Tryz.prog II 201 spec_ReportOf_sem := sound_pu' (L := spec_ReportOf_L) (k := 3) spec_ReportOf_env mixed Tryz.func201 (by kernel_rfl) (below_succ spec_ReportOf_13_lok (below_succ spec_ReportOf_10_lok (below_succ spec_ReportOf_5_lok below_zero))) (fun x => by kernel_rfl)

@[reducible] noncomputable def spec_l8Report_sem : FnSem := .pu (.p (.sl tHeld) (.p (.sl tHeld) .u)) (.p tReport .u) [true] (fun x => spec_l8Report x.1 x.2.1)
noncomputable def spec_l8Report_G : Env := ⟨GT, [(201, spec_ReportOf_sem)], [], true, GA, [], []⟩
theorem spec_l8Report_env : EnvOk Tryz.prog II spec_l8Report_G := EnvOk.cons spec_ReportOf_snd (envOk_nil GT_ok)
noncomputable def spec_l8Report_3_ls : LoopSem := ⟨77, ⟨[(1, (.data (.sl tHeld))), (4, (.ptr 4 [])), (5, (.ptr 5 [])), (6, (.data int))], [(4, tReport, (.pr (.data int) (.pr (.data (.sl int)) .un))), (5, tReport, (.pr (.data int) (.pr (.own 200001 int true) .un)))]⟩, 0, ⟨[(1, (.data (.sl tHeld))), (4, (.ptr 4 [])), (5, (.ptr 5 []))], [(4, tReport, (.pr (.data int) (.pr (.data (.sl int)) .un))), (5, tReport, (.pr (.data int) (.pr (.own 200001 int true) .un)))]⟩, ⟨[], []⟩, spec_l8Report_3_loop⟩
noncomputable def spec_l8Report_12_ls : LoopSem := ⟨77, ⟨[(1, (.data (.sl tHeld))), (4, (.ptr 4 [])), (5, (.ptr 5 [])), (7, (.own 200201 int true)), (8, (.data int)), (9, (.data .b)), (10, (.data int))], [(4, tReport, (.pr (.data int) (.pr (.data (.sl int)) .un))), (5, tReport, (.pr (.data int) (.pr (.own 200202 int true) .un)))]⟩, 4, ⟨[(1, (.data (.sl tHeld))), (4, (.ptr 4 [])), (5, (.ptr 5 [])), (7, (.own 200201 int true)), (8, (.data int)), (9, (.data .b))], [(4, tReport, (.pr (.data int) (.pr (.data (.sl int)) .un))), (5, tReport, (.pr (.data int) (.pr (.own 200202 int true) .un)))]⟩, ⟨[], []⟩, spec_l8Report_12_loop⟩
noncomputable def spec_l8Report_16_ls : LoopSem := ⟨77, ⟨[(1, (.data (.sl tHeld))), (4, (.ptr 4 [])), (5, (.ptr 5 [])), (7, (.own 200301 int true)), (8, (.data int)), (9, (.data .b)), (11, (.data int))], [(4, tReport, (.pr (.data int) (.pr (.data (.sl int)) .un))), (5, tReport, (.pr (.data int) (.pr (.own 200302 int true) .un)))]⟩, 6, ⟨[(1, (.data (.sl tHeld))), (4, (.ptr 4 [])), (5, (.ptr 5 [])), (7, (.own 200301 int true)), (8, (.data int)), (9, (.data .b))], [(4, tReport, (.pr (.data int) (.pr (.data (.sl int)) .un))), (5, tReport, (.pr (.data int) (.pr (.own 200302 int true) .un)))]⟩, ⟨[], []⟩, spec_l8Report_16_loop⟩
noncomputable def spec_l8Report_8_ls : LoopSem := ⟨77, ⟨[(1, (.data (.sl tHeld))), (4, (.ptr 4 [])), (5, (.ptr 5 [])), (7, (.own 200101 int true)), (8, (.data int))], [(4, tReport, (.pr (.data int) (.pr (.data (.sl int)) .un))), (5, tReport, (.pr (.data int) (.pr (.own 200102 int true) .un)))]⟩, 2, ⟨[(4, (.ptr 4 [])), (5, (.ptr 5 [])), (7, (.own 200101 int true))], [(4, tReport, (.pr (.data int) (.pr (.data (.sl int)) .un))), (5, tReport, (.pr (.data int) (.pr (.own 200102 int true) .un)))]⟩, ⟨[], []⟩, spec_l8Report_8_loop⟩
noncomputable def spec_l8Report_L : List (Nat × LoopSem) := [(3, spec_l8Report_3_ls), (12, spec_l8Report_12_ls), (16, spec_l8Report_16_ls), (8, spec_l8Report_8_ls)]
theorem spec_l8Report_3_lok : LoopOk spec_l8Report_G spec_l8Report_L (lp Tryz.f263 0) := loopOk_of (r := 3) (ls := spec_l8Report_3_ls) (R := fun x => spec_l8Report_3_R x.1.1 x.1.2.1 x.1.2.2.1 x.1.2.2.2.1 x.2.1 x.2.2.1) (by kernel_rfl) (by kernel_rfl) rfl (fun x => by kernel_rfl)
theorem spec_l8Report_12_lok : LoopOk spec_l8Report_G spec_l8Report_L (lp Tryz.f263 2) := loopOk_of (r := 12) (ls := spec_l8Report_12_ls) (R := fun x => spec_l8Report_12_R x.1.1 x.1.2.1 x.1.2.2.1 x.1.2.2.2.1 x.1.2.2.2.2.1 x.1.2.2.2.2.2.1 x.1.2.2.2.2.2.2.1 x.2.1 x.2.2.1) (by kernel_rfl) (by kernel_rfl) rfl (fun x => by kernel_rfl)
theorem spec_l8Report_16_lok : LoopOk spec_l8Report_G spec_l8Report_L (lp Tryz.f263 3) := loopOk_of (r := 16) (ls := spec_l8Report_16_ls) (R := fun x => spec_l8Report_16_R x.1.1 x.1.2.1 x.1.2.2.1 x.1.2.2.2.1 x.1.2.2.2.2.1 x.1.2.2.2.2.2.1 x.1.2.2.2.2.2.2.1 x.2.1 x.2.2.1) (by kernel_rfl) (by kernel_rfl) rfl (fun x => by kernel_rfl)
theorem spec_l8Report_8_lok : LoopOk spec_l8Report_G spec_l8Report_L (lp Tryz.f263 1) := loopOk_of (r := 8) (ls := spec_l8Report_8_ls) (R := fun x => spec_l8Report_8_R x.1.1 x.1.2.1 x.1.2.2.1 x.1.2.2.2.1 x.1.2.2.2.2.1 x.2.1 x.2.2.1) (by kernel_rfl) (by kernel_rfl) rfl (fun x => by kernel_rfl)
theorem spec_l8Report_snd : Sound Tryz.prog II 263 spec_l8Report_sem := sound_pu' (L := spec_l8Report_L) (k := 4) spec_l8Report_env mixed Tryz.func263 (by kernel_rfl) (below_succ spec_l8Report_16_lok (below_succ spec_l8Report_12_lok (below_succ spec_l8Report_8_lok (below_succ spec_l8Report_3_lok below_zero)))) (fun x => by kernel_rfl)

@[reducible] noncomputable def spec_MacroReports_sem : FnSem := .pu (.p (.sl tHeld) (.p (.sl tStep) .u)) (.p (.sl tReport) .u) [true] (fun x => spec_MacroReports x.1 x.2.1)
noncomputable def spec_MacroReports_G : Env := ⟨GT, [(191, spec_IsHeld_sem), (192, spec_IsMacro_sem), (260, spec_l8Action_sem), (263, spec_l8Report_sem), (259, spec_l8Find_sem), (203, spec_l8Without_sem)], [], true, GA, [], []⟩
theorem spec_MacroReports_env : EnvOk Tryz.prog II spec_MacroReports_G := EnvOk.cons spec_IsHeld_snd (EnvOk.cons spec_IsMacro_snd (EnvOk.cons spec_l8Action_snd (EnvOk.cons spec_l8Report_snd (EnvOk.cons spec_l8Find_snd (EnvOk.cons spec_l8Without_snd (envOk_nil GT_ok))))))
noncomputable def spec_MacroReports_6_ls : LoopSem := ⟨60, ⟨[(0, (.data (.sl tHeld))), (1, (.data (.sl tStep))), (5, (.own 200001 tReport true)), (6, (.own 200002 tHeld true)), (7, (.data int))], []⟩, 0, ⟨[(5, (.own 200001 tReport true))], []⟩, ⟨[], []⟩, spec_MacroReports_6_loop⟩
noncomputable def spec_MacroReports_L : List (Nat × LoopSem) := [(6, spec_MacroReports_6_ls)]
theorem spec_MacroReports_6_lok : LoopOk spec_MacroReports_G spec_MacroReports_L (lp Tryz.f200 0) := loopOk_of (r := 6) (ls := spec_MacroReports_6_ls) (R := fun x => spec_MacroReports_6_R x.1.1 x.1.2.1 x.1.2.2.1 x.1.2.2.2.1 x.1.2.2.2.2.1) (by kernel_rfl) (by kernel_rfl) rfl (fun x => by kernel_rfl)
theorem spec_MacroReports_snd : Sound Tryz.prog II 200 spec_MacroReports_sem := sound_pu' (L := spec_MacroReports_L) (k := 1) spec_MacroReports_env mixed Tryz.func200 (by kernel_rfl) (below_succ spec_MacroReports_6_lok below_zero) (fun x => by kernel_rfl)

@[reducible] noncomputable def spec_SameReport_sem : FnSem := .pu (.p tReport (.p tReport .u)) (.p .b .u) [true] (fun x => spec_SameReport x.1 x.2.1)
noncomputable def spec_SameReport_G : Env := ⟨GT, [], [], true, GA, [], []⟩
theorem spec_SameReport_env : EnvOk Tryz.prog II spec_SameReport_G := envOk_nil GT_ok
noncomputable def spec_SameReport_4_ls : LoopSem := ⟨38, ⟨[(2, (.ptr 2 [])), (3, (.ptr 3 [])), (5, (.data int))], [(2, tReport, (.data tReport)), (3, tReport, (.data tReport))]⟩, 0, ⟨[], []⟩, ⟨[(4, (.data .b))], []⟩, spec_SameReport_4_loop⟩
noncomputable def spec_SameReport_L : List (Nat × LoopSem) := [(4, spec_SameReport_4_ls)]
theorem spec_SameReport_4_lok : LoopOk spec_SameReport_G spec_SameReport_L (lp Tryz.f264 0) := loopOk_of (r := 4) (ls := spec_SameReport_4_ls) (R := fun x => spec_SameReport_4_R x.1.1 x.1.2.1 x.1.2.2.1 x.2.1 x.2.2.1) (by kernel_rfl) (by kernel_rfl) rfl (fun x => by kernel_rfl)
theorem spec_SameReport_snd : Sound Tryz.prog II 264 spec_SameReport_sem := sound_pu' (L := spec_SameReport_L) (k := 1) spec_SameReport_env mixed Tryz.func264 (by kernel_rfl) (below_succ spec_SameReport_4_lok below_zero) (fun x => by kernel_rfl)

@[reducible] noncomputable def spec_l7Copy_sem : FnSem := .pu (.p tReport .u) (.p tReport .u) [true] (fun x => spec_l7Copy x.1)
noncomputable def spec_l7Copy_G : Env := ⟨GT, [], [], true, GA, [], []⟩
theorem spec_l7Copy_env : EnvOk Tryz.prog II spec_l7Copy_G := envOk_nil GT_ok
noncomputable def spec_l7Copy_L : List (Nat × LoopSem) := []
theorem spec_l7Copy_snd : Sound Tryz.prog II 265 spec_l7Copy_sem := sound_pu' (L := spec_l7Copy_L) (k := 0) spec_l7Copy_env mixed Tryz.func265 (by kernel_rfl) below_zero (fun x => by kernel_rfl)

@[reducible] noncomputable def spec_l9Changes_sem : FnSem := .pu (.p tReport (.p (.sl tReport) .u)) (.p (.sl tReport) .u) [true] (fun x => spec_l9Changes x.1 x.2.1)
noncomputable def spec_l9Changes_G : Env := ⟨GT, [(264, spec_SameReport_sem), (265, spec_l7Copy_sem)], [], true, GA, [], []⟩
theorem spec_l9Changes_env : EnvOk Tryz.prog II spec_l9Changes_G := EnvOk.cons spec_SameReport_snd (EnvOk.cons spec_l7Copy_snd (envOk_nil GT_ok))
noncomputable def spec_l9Changes_3_ls : LoopSem := ⟨34, ⟨[(1, (.data (.sl tReport))), (2, (.ptr 2 [])), (5, (.own 200001 tReport true)), (6, (.data int))], [(2, tReport, (.data tReport))]⟩, 0, ⟨[(5, (.own 200001 tReport true))], []⟩, ⟨[], []⟩, spec_l9Changes_3_loop⟩
noncomputable def spec_l9Changes_L : List (Nat × LoopSem) := [(3, spec_l9Changes_3_ls)]
theorem spec_l9Changes_3_lok : LoopOk spec_l9Changes_G spec_l9Changes_L (lp Tryz.f202 0) := loopOk_of (r := 3) (ls := spec_l9Changes_3_ls) (R := fun x => spec_l9Changes_3_R x.1.1 x.1.2.1 x.1.2.2.1 x.1.2.2.2.1 x.2.1) (by kernel_rfl) (by kernel_rfl) rfl (fun x => by kernel_rfl)
theorem spec_l9Changes_snd : Sound Tryz.prog II 202 spec_l9Changes_sem := sound_pu' (L := spec_l9Changes_L) (k := 1) spec_l9Changes_env mixed Tryz.func202 (by kernel_rfl) (below_succ spec_l9Changes_3_lok below_zero) (fun x => by kernel_rfl)

@[reducible] noncomputable def spec_Press_sem : FnSem := .pu (.p tEngine (.p int (.p .b .u))) (.p tEngine (.p (.sl tReport) (.p .b .u))) [true, true, true] (fun x => spec_Press x.1 x.2.1 x.2.2.1)
noncomputable def spec_Press_G : Env := ⟨GT, [(112, spec_IsEngine_sem), (95, spec_l1In_sem), (194, spec_HeldAt_sem), (113, spec_l9Copy_sem), (196, spec_LayersOn_sem), (195, spec_ActionAt_sem), (197, spec_HoldOf_sem), (198, spec_TapOf_sem), (199, spec_l9Settle_sem), (200, spec_MacroReports_sem), (201, spec_ReportOf_sem), (202, spec_l9Changes_sem)], [], true, GA, [], []⟩
theorem spec_Press_env : EnvOk Tryz.prog II spec_Press_G := EnvOk.cons spec_IsEngine_snd (EnvOk.cons spec_l1In_snd (EnvOk.cons spec_HeldAt_snd (EnvOk.cons spec_l9Copy_snd (EnvOk.cons spec_LayersOn_snd (EnvOk.cons spec_ActionAt_snd (EnvOk.cons spec_HoldOf_snd (EnvOk.cons spec_TapOf_snd (EnvOk.cons spec_l9Settle_snd (EnvOk.cons spec_MacroReports_snd (EnvOk.cons spec_ReportOf_snd (EnvOk.cons spec_l9Changes_snd (envOk_nil GT_ok))))))))))))
noncomputable def spec_Press_L : List (Nat × LoopSem) := []
theorem spec_Press_snd : Sound Tryz.prog II 114 spec_Press_sem := sound_pu' (L := spec_Press_L) (k := 0) spec_Press_env mixed Tryz.func114 (by kernel_rfl) below_zero (fun x => by kernel_rfl)

@[reducible] noncomputable def spec_Release_sem : FnSem := .pu (.p tEngine (.p int .u)) (.p tEngine (.p (.sl tReport) (.p .b .u))) [true, true, true] (fun x => spec_Release x.1 x.2.1)
noncomputable def spec_Release_G : Env := ⟨GT, [(194, spec_HeldAt_sem), (112, spec_IsEngine_sem), (113, spec_l9Copy_sem), (203, spec_l8Without_sem), (201, spec_ReportOf_sem), (202, spec_l9Changes_sem)], [], true, GA, [], []⟩
theorem spec_Release_env : EnvOk Tryz.prog II spec_Release_G := EnvOk.cons spec_HeldAt_snd (EnvOk.cons spec_IsEngine_snd (EnvOk.cons spec_l9Copy_snd (EnvOk.cons spec_l8Without_snd (EnvOk.cons spec_ReportOf_snd (EnvOk.cons spec_l9Changes_snd (envOk_nil GT_ok))))))
noncomputable def spec_Release_L : List (Nat × LoopSem) := []
theorem spec_Release_snd : Sound Tryz.prog II 115 spec_Release_sem := sound_pu' (L := spec_Release_L) (k := 0) spec_Release_env mixed Tryz.func115 (by kernel_rfl) below_zero (fun x => by kernel_rfl)

@[reducible] noncomputable def spec_TapKeys_sem : FnSem := .pu (.p tEngine (.p (.sl int) .u)) (.p tEngine (.p (.sl tReport) (.p .b .u))) [true, true, true] (fun x => spec_TapKeys x.1 x.2.1)
noncomputable def spec_TapKeys_G : Env := ⟨GT, [(114, spec_Press_sem), (115, spec_Release_sem), (112, spec_IsEngine_sem), (113, spec_l9Copy_sem)], [(5999, 1000102560), (5999, 1000102561), (5999, 1000102562)], true, GA, [], []⟩
theorem spec_TapKeys_env : EnvOk Tryz.prog II spec_TapKeys_G := EnvOk.cons spec_Press_snd (EnvOk.cons spec_Release_snd (EnvOk.cons spec_IsEngine_snd (EnvOk.cons spec_l9Copy_snd (envOk_nil GT_ok))))
noncomputable def spec_TapKeys_4_ls : LoopSem := ⟨66, ⟨[(1, (.data (.sl int))), (4, (.ptr 4 [])), (7, (.own 200001 tReport true)), (8, (.ptr 8 [])), (9, (.data int))], [(4, tEngine, (.pr (.pr (.data int) (.pr (.own 200002 (.sl tAction) true) .un)) (.pr (.own 200003 (.sl tStep) true) (.pr (.data int) (.pr (.own 200004 tHeld true) (.data (.p int (.p .b .u)))))))), (8, tEngine, (.pr (.pr (.data int) (.pr (.data (.sl (.sl tAction))) (.data .u))) (.pr (.data (.sl (.sl tStep))) (.pr (.data int) (.pr (.data (.sl tHeld)) (.data (.p int (.p .b .u))))))))]⟩, 0, ⟨[(4, (.ptr 4 [])), (7, (.own 200001 tReport true)), (8, (.ptr 8 []))], [(4, tEngine, (.pr (.pr (.data int) (.pr (.own 200002 (.sl tAction) true) .un)) (.pr (.own 200003 (.sl tStep) true) (.pr (.data int) (.pr (.own 200004 tHeld true) (.data (.p int (.p .b .u)))))))), (8, tEngine, (.pr (.pr (.data int) (.pr (.data (.sl (.sl tAction))) (.data .u))) (.pr (.data (.sl (.sl tStep))) (.pr (.data int) (.pr (.data (.sl tHeld)) (.data (.p int (.p .b .u))))))))]⟩, ⟨[(4, (.ptr 4 [])), (5, (.own 200001 tReport true)), (6, (.data .b))], [(4, tEngine, (.pr (.pr (.data int) (.pr (.own 200002 (.sl tAction) true) .un)) (.pr (.own 200003 (.sl tStep) true) (.pr (.data int) (.pr (.own 200004 tHeld true) (.data (.p int (.p .b .u))))))))]⟩, spec_TapKeys_4_loop⟩
noncomputable def spec_TapKeys_L : List (Nat × LoopSem) := [(4, spec_TapKeys_4_ls)]
theorem spec_TapKeys_4_lok : LoopOk spec_TapKeys_G spec_TapKeys_L (lp Tryz.f50 0) := loopOk_of (r := 4) (ls := spec_TapKeys_4_ls) (R := fun x => spec_TapKeys_4_R x.1.1 x.1.2.1 x.1.2.2.1 x.1.2.2.2.1 x.1.2.2.2.2.1 x.2.1 x.2.2.1) (by kernel_rfl) (by kernel_rfl) rfl (fun x => by kernel_rfl)
theorem spec_TapKeys_snd : Sound Tryz.prog II 50 spec_TapKeys_sem := sound_pu' (L := spec_TapKeys_L) (k := 1) spec_TapKeys_env mixed Tryz.func50 (by kernel_rfl) (below_succ spec_TapKeys_4_lok below_zero) (fun x => by kernel_rfl)

@[reducible] noncomputable def spec_TraceOf_sem : FnSem := .pu (.p tKeymap (.p (.sl int) .u)) (.p (.sl tReport) (.p .b .u)) [true, true] (fun x => spec_TraceOf x.1 x.2.1)
noncomputable def spec_TraceOf_G : Env := ⟨GT, [(49, spec_NewEngine_sem), (50, spec_TapKeys_sem)], [], true, GA, [], []⟩
theorem spec_TraceOf_env : EnvOk Tryz.prog II spec_TraceOf_G := EnvOk.cons spec_NewEngine_snd (EnvOk.cons spec_TapKeys_snd (envOk_nil GT_ok))
noncomputable def spec_TraceOf_L : List (Nat × LoopSem) := []
theorem spec_TraceOf_snd : Sound Tryz.prog II 9 spec_TraceOf_sem := sound_pu' (L := spec_TraceOf_L) (k := 0) spec_TraceOf_env mixed Tryz.func9 (by kernel_rfl) below_zero (fun x => by kernel_rfl)

@[reducible] noncomputable def impl_copyKeymap_sem : FnSem := .pu (.p tKeymap .u) (.p tKeymap .u) [true] (fun x => impl_copyKeymap x.1)
noncomputable def impl_copyKeymap_G : Env := ⟨GT, [], [], true, GA, [], []⟩
theorem impl_copyKeymap_env : EnvOk Tryz.prog II impl_copyKeymap_G := envOk_nil GT_ok
noncomputable def impl_copyKeymap_3_ls : LoopSem := ⟨25, ⟨[(2, (.ptr 2 [])), (3, (.ptr 3 [])), (10, (.data (.sl (.sl tAction)))), (11, (.data int)), (12, (.data int))], [(2, tKeymap, (.pr (.data int) (.pr (.data (.sl (.sl tAction))) .un))), (3, tKeymap, (.pr (.data int) (.pr (.own 200001 (.sl tAction) true) .un)))]⟩, 0, ⟨[(2, (.ptr 2 [])), (3, (.ptr 3 []))], [(2, tKeymap, (.pr (.data int) (.pr (.data (.sl (.sl tAction))) .un))), (3, tKeymap, (.pr (.data int) (.pr (.own 200001 (.sl tAction) true) .un)))]⟩, ⟨[], []⟩, impl_copyKeymap_3_loop⟩
noncomputable def impl_copyKeymap_L : List (Nat × LoopSem) := [(3, impl_copyKeymap_3_ls)]
theorem impl_copyKeymap_3_lok : LoopOk impl_copyKeymap_G impl_copyKeymap_L (lp Tryz.f117 0) := loopOk_of (r := 3) (ls := impl_copyKeymap_3_ls) (R := fun x => impl_copyKeymap_3_R x.1.1 x.1.2.1 x.1.2.2.1 x.1.2.2.2.1 x.1.2.2.2.2.1 x.2.1 x.2.2.1) (by kernel_rfl) (by kernel_rfl) rfl (fun x => by kernel_rfl)
theorem impl_copyKeymap_snd : Sound Tryz.prog II 117 impl_copyKeymap_sem := sound_pu' (L := impl_copyKeymap_L) (k := 1) impl_copyKeymap_env mixed Tryz.func117 (by kernel_rfl) (below_succ impl_copyKeymap_3_lok below_zero) (fun x => by kernel_rfl)

@[reducible] noncomputable def impl_copyMacros_sem : FnSem := .pu (.p (.sl (.sl tStep)) .u) (.p (.sl (.sl tStep)) .u) [true] (fun x => impl_copyMacros x.1)
noncomputable def impl_copyMacros_G : Env := ⟨GT, [], [], true, GA, [], []⟩
theorem impl_copyMacros_env : EnvOk Tryz.prog II impl_copyMacros_G := envOk_nil GT_ok
noncomputable def impl_copyMacros_3_ls : LoopSem := ⟨19, ⟨[(3, (.own 200001 (.sl tStep) true)), (6, (.data (.sl (.sl tStep)))), (7, (.data int)), (8, (.data int))], []⟩, 0, ⟨[(3, (.own 200001 (.sl tStep) true))], []⟩, ⟨[], []⟩, impl_copyMacros_3_loop⟩
noncomputable def impl_copyMacros_L : List (Nat × LoopSem) := [(3, impl_copyMacros_3_ls)]
theorem impl_copyMacros_3_lok : LoopOk impl_copyMacros_G impl_copyMacros_L (lp Tryz.f118 0) := loopOk_of (r := 3) (ls := impl_copyMacros_3_ls) (R := fun x => impl_copyMacros_3_R x.1.1 x.1.2.1 x.1.2.2.1 x.1.2.2.2.1) (by kernel_rfl) (by kernel_rfl) rfl (fun x => by kernel_rfl)
theorem impl_copyMacros_snd : Sound Tryz.prog II 118 impl_copyMacros_sem := sound_pu' (L := impl_copyMacros_L) (k := 1) impl_copyMacros_env mixed Tryz.func118 (by kernel_rfl) (below_succ impl_copyMacros_3_lok below_zero) (fun x => by kernel_rfl)

@[reducible] noncomputable def impl_isCode_sem : FnSem := .pu (.p int .u) (.p .b .u) [true] (fun x => impl_isCode x.1)
noncomputable def impl_isCode_G : Env := ⟨GT, [], [], true, GA, [], []⟩
theorem impl_isCode_env : EnvOk Tryz.prog II impl_isCode_G := envOk_nil GT_ok
noncomputable def impl_isCode_L : List (Nat × LoopSem) := []
theorem impl_isCode_snd : Sound Tryz.prog II 295 impl_isCode_sem := sound_pu' (L := impl_isCode_L) (k := 0) impl_isCode_env mixed Tryz.func295 (by kernel_rfl) below_zero (fun x => by kernel_rfl)

@[reducible] noncomputable def impl_isMods_sem : FnSem := .pu (.p int .u) (.p .b .u) [true] (fun x => impl_isMods x.1)
noncomputable def impl_isMods_G : Env := ⟨GT, [], [], true, GA, [], []⟩
theorem impl_isMods_env : EnvOk Tryz.prog II impl_isMods_G := envOk_nil GT_ok
noncomputable def impl_isMods_L : List (Nat × LoopSem) := []
theorem impl_isMods_snd : Sound Tryz.prog II 296 impl_isMods_sem := sound_pu' (L := impl_isMods_L) (k := 0) impl_isMods_env mixed Tryz.func296 (by kernel_rfl) below_zero (fun x => by kernel_rfl)

@[reducible] noncomputable def impl_isUpper_sem : FnSem := .pu (.p int .u) (.p .b .u) [true] (fun x => impl_isUpper x.1)
noncomputable def impl_isUpper_G : Env := ⟨GT, [], [], true, GA, [], []⟩
theorem impl_isUpper_env : EnvOk Tryz.prog II impl_isUpper_G := envOk_nil GT_ok
noncomputable def impl_isUpper_L : List (Nat × LoopSem) := []
theorem impl_isUpper_snd : Sound Tryz.prog II 297 impl_isUpper_sem := sound_pu' (L := impl_isUpper_L) (k := 0) impl_isUpper_env mixed Tryz.func297 (by kernel_rfl) below_zero (fun x => by kernel_rfl)

@[reducible] noncomputable def impl_IsAction_sem : FnSem := .pu (.p tAction .u) (.p .b .u) [true] (fun x => impl_IsAction x.1)
noncomputable def impl_IsAction_G : Env := ⟨GT, [(295, impl_isCode_sem), (296, impl_isMods_sem), (297, impl_isUpper_sem)], [], true, GA, [], []⟩
theorem impl_IsAction_env : EnvOk Tryz.prog II impl_IsAction_G := EnvOk.cons impl_isCode_snd (EnvOk.cons impl_isMods_snd (EnvOk.cons impl_isUpper_snd (envOk_nil GT_ok)))
noncomputable def impl_IsAction_L : List (Nat × LoopSem) := []
theorem impl_IsAction_snd : Sound Tryz.prog II 266 impl_IsAction_sem := sound_pu' (L := impl_IsAction_L) (k := 0) impl_IsAction_env mixed Tryz.func266 (by kernel_rfl) below_zero (fun x => by kernel_rfl)

@[reducible] noncomputable def impl_IsKeymap_sem : FnSem := .pu (.p tKeymap .u) (.p .b .u) [true] (fun x => impl_IsKeymap x.1)
noncomputable def impl_IsKeymap_G : Env := ⟨GT, [(266, impl_IsAction_sem)], [], true, GA, [], []⟩
theorem impl_IsKeymap_env : EnvOk Tryz.prog II impl_IsKeymap_G := EnvOk.cons impl_IsAction_snd (envOk_nil GT_ok)
noncomputable def impl_IsKeymap_9_ls : LoopSem := ⟨73, ⟨[(1, (.ptr 1 [])), (3, (.data int)), (28, (.data (.sl (.sl tAction)))), (29, (.data int)), (30, (.data int)), (40, (.data (.sl tAction))), (41, (.data int)), (42, (.data int))], [(1, tKeymap, (.data tKeymap))]⟩, 2, ⟨[(1, (.ptr 1 [])), (28, (.data (.sl (.sl tAction)))), (29, (.data int)), (30, (.data int))], [(1, tKeymap, (.data tKeymap))]⟩, ⟨[(2, (.data .b))], []⟩, impl_IsKeymap_9_loop⟩
noncomputable def impl_IsKeymap_4_ls : LoopSem := ⟨73, ⟨[(1, (.ptr 1 [])), (28, (.data (.sl (.sl tAction)))), (29, (.data int)), (30, (.data int))], [(1, tKeymap, (.data tKeymap))]⟩, 0, ⟨[], []⟩, ⟨[(2, (.data .b))], []⟩, impl_IsKeymap_4_loop⟩
noncomputable def impl_IsKeymap_L : List (Nat × LoopSem) := [(9, impl_IsKeymap_9_ls), (4, impl_IsKeymap_4_ls)]
theorem impl_IsKeymap_9_lok : LoopOk impl_IsKeymap_G impl_IsKeymap_L (lp Tryz.f205 1) := loopOk_of (r := 9) (ls := impl_IsKeymap_9_ls) (R := fun x => impl_IsKeymap_9_R x.1.1 x.1.2.1 x.1.2.2.1 x.1.2.2.2.1 x.1.2.2.2.2.1 x.1.2.2.2.2.2.1 x.1.2.2.2.2.2.2.1 x.1.2.2.2.2.2.2.2.1 x.2.1) (by kernel_rfl) (by kernel_rfl) rfl (fun x => by kernel_rfl)
theorem impl_IsKeymap_4_lok : LoopOk impl_IsKeymap_G impl_IsKeymap_L (lp Tryz.f205 0) := loopOk_of (r := 4) (ls := impl_IsKeymap_4_ls) (R := fun x => impl_IsKeymap_4_R x.1.1 x.1.2.1 x.1.2.2.1 x.1.2.2.2.1 x.2.1) (by kernel_rfl) (by kernel_rfl) rfl (fun x => by kernel_rfl)
theorem impl_IsKeymap_snd : Sound Tryz.prog II 205 impl_IsKeymap_sem := sound_pu' (L := impl_IsKeymap_L) (k := 2) impl_IsKeymap_env mixed Tryz.func205 (by kernel_rfl) (below_succ impl_IsKeymap_9_lok (below_succ impl_IsKeymap_4_lok below_zero)) (fun x => by kernel_rfl)

@[reducible] noncomputable def impl_bit_sem : FnSem := .pu tCombo (.p int .u) [true] (fun x => impl_bit x.1 x.2.1)
noncomputable def impl_bit_G : Env := ⟨GT, [], [], true, GA, [], []⟩
theorem impl_bit_env : EnvOk Tryz.prog II impl_bit_G := envOk_nil GT_ok
noncomputable def impl_bit_L : List (Nat × LoopSem) := []
theorem impl_bit_snd : Sound Tryz.prog II 161 impl_bit_sem := sound_pu' (L := impl_bit_L) (k := 0) impl_bit_env mixed Tryz.func161 (by kernel_rfl) below_zero (fun x => by kernel_rfl)

@[reducible] noncomputable def impl_IsHeld_sem : FnSem := .pu (.p (.sl tHeld) .u) (.p .b .u) [true] (fun x => impl_IsHeld x.1)
noncomputable def impl_IsHeld_G : Env := ⟨GT, [(161, impl_bit_sem), (266, impl_IsAction_sem)], [], true, GA, [], []⟩
theorem impl_IsHeld_env : EnvOk Tryz.prog II impl_IsHeld_G := EnvOk.cons impl_bit_snd (EnvOk.cons impl_IsAction_snd (envOk_nil GT_ok))
noncomputable def impl_IsHeld_3_ls : LoopSem := ⟨46, ⟨[(3, (.data int)), (6, (.data (.sl tHeld))), (7, (.data int)), (8, (.data int))], []⟩, 0, ⟨[], []⟩, ⟨[(2, (.data .b))], []⟩, impl_IsHeld_3_loop⟩
noncomputable def impl_IsHeld_L : List (Nat × LoopSem) := [(3, impl_IsHeld_3_ls)]
theorem impl_IsHeld_3_lok : LoopOk impl_IsHeld_G impl_IsHeld_L (lp Tryz.f206 0) := loopOk_of (r := 3) (ls := impl_IsHeld_3_ls) (R := fun x => impl_IsHeld_3_R x.1.1 x.1.2.1 x.1.2.2.1 x.1.2.2.2.1) (by kernel_rfl) (by kernel_rfl) rfl (fun x => by kernel_rfl)
theorem impl_IsHeld_snd : Sound Tryz.prog II 206 impl_IsHeld_sem := sound_pu' (L := impl_IsHeld_L) (k := 1) impl_IsHeld_env mixed Tryz.func206 (by kernel_rfl) (below_succ impl_IsHeld_3_lok below_zero) (fun x => by kernel_rfl)

@[reducible] noncomputable def impl_pairAt_sem : FnSem := .pu (.p (.sl tCombo) (.p tCombo .u)) (.p int .u) [true] (fun x => impl_pairAt x.1 x.2.1)
noncomputable def impl_pairAt_G : Env := ⟨GT, [], [], true, GA, [], []⟩
theorem impl_pairAt_env : EnvOk Tryz.prog II impl_pairAt_G := envOk_nil GT_ok
noncomputable def impl_pairAt_2_ls : LoopSem := ⟨19, ⟨[(3, (.ptr 3 [])), (7, (.data (.sl tCombo))), (8, (.data int)), (9, (.data int))], [(3, tCombo, (.data tCombo))]⟩, 0, ⟨[], []⟩, ⟨[(4, (.data int))], []⟩, impl_pairAt_2_loop⟩
noncomputable def impl_pairAt_L : List (Nat × LoopSem) := [(2, impl_pairAt_2_ls)]
theorem impl_pairAt_2_lok : LoopOk impl_pairAt_G impl_pairAt_L (lp Tryz.f267 0) := loopOk_of (r := 2) (ls := impl_pairAt_2_ls) (R := fun x => impl_pairAt_2_R x.1.1 x.1.2.1 x.1.2.2.1 x.1.2.2.2.1 x.2.1) (by kernel_rfl) (by kernel_rfl) rfl (fun x => by kernel_rfl)
theorem impl_pairAt_snd : Sound Tryz.prog II 267 impl_pairAt_sem := sound_pu' (L := impl_pairAt_L) (k := 1) impl_pairAt_env mixed Tryz.func267 (by kernel_rfl) (below_succ impl_pairAt_2_lok below_zero) (fun x => by kernel_rfl)

@[reducible] noncomputable def impl_IsMacro_sem : FnSem := .pu (.p (.sl tStep) .u) (.p .b .u) [true] (fun x => impl_IsMacro x.1)
noncomputable def impl_IsMacro_G : Env := ⟨GT, [(267, impl_pairAt_sem), (266, impl_IsAction_sem)], [], true, GA, [], []⟩
theorem impl_IsMacro_env : EnvOk Tryz.prog II impl_IsMacro_G := EnvOk.cons impl_pairAt_snd (EnvOk.cons impl_IsAction_snd (envOk_nil GT_ok))
noncomputable def impl_IsMacro_5_ls : LoopSem := ⟨62, ⟨[(3, (.own 200001 tCombo true)), (11, (.data (.sl tStep))), (12, (.data int)), (13, (.data int))], []⟩, 0, ⟨[(3, (.own 200001 tCombo true))], []⟩, ⟨[(2, (.data .b))], []⟩, impl_IsMacro_5_loop⟩
noncomputable def impl_IsMacro_L : List (Nat × LoopSem) := [(5, impl_IsMacro_5_ls)]
theorem impl_IsMacro_5_lok : LoopOk impl_IsMacro_G impl_IsMacro_L (lp Tryz.f207 0) := loopOk_of (r := 5) (ls := impl_IsMacro_5_ls) (R := fun x => impl_IsMacro_5_R x.1.1 x.1.2.1 x.1.2.2.1 x.1.2.2.2.1) (by kernel_rfl) (by kernel_rfl) rfl (fun x => by kernel_rfl)
theorem impl_IsMacro_snd : Sound Tryz.prog II 207 impl_IsMacro_sem := sound_pu' (L := impl_IsMacro_L) (k := 1) impl_IsMacro_env mixed Tryz.func207 (by kernel_rfl) (below_succ impl_IsMacro_5_lok below_zero) (fun x => by kernel_rfl)

@[reducible] noncomputable def impl_IsEngine_sem : FnSem := .pu (.p tEngine .u) (.p .b .u) [true] (fun x => impl_IsEngine x.1)
noncomputable def impl_IsEngine_G : Env := ⟨GT, [(205, impl_IsKeymap_sem), (206, impl_IsHeld_sem), (207, impl_IsMacro_sem)], [], true, GA, [], []⟩
theorem impl_IsEngine_env : EnvOk Tryz.prog II impl_IsEngine_G := EnvOk.cons impl_IsKeymap_snd (EnvOk.cons impl_IsHeld_snd (EnvOk.cons impl_IsMacro_snd (envOk_nil GT_ok)))
noncomputable def impl_IsEngine_4_ls : LoopSem := ⟨92, ⟨[(1, (.ptr 1 [])), (35, (.data (.sl (.sl tStep)))), (36, (.data int)), (37, (.data int))], [(1, tEngine, (.data tEngine))]⟩, 0, ⟨[(1, (.ptr 1 []))], [(1, tEngine, (.data tEngine))]⟩, ⟨[(2, (.data .b))], []⟩, impl_IsEngine_4_loop⟩
noncomputable def impl_IsEngine_11_ls : LoopSem := ⟨92, ⟨[(1, (.ptr 1 [])), (5, (.data int)), (50, (.data (.sl tHeld))), (51, (.data int)), (52, (.data int))], [(1, tEngine, (.data tEngine))]⟩, 2, ⟨[(1, (.ptr 1 [])), (5, (.data int))], [(1, tEngine, (.data tEngine))]⟩, ⟨[(2, (.data .b))], []⟩, impl_IsEngine_11_loop⟩
noncomputable def impl_IsEngine_L : List (Nat × LoopSem) := [(4, impl_IsEngine_4_ls), (11, impl_IsEngine_11_ls)]
theorem impl_IsEngine_4_lok : LoopOk impl_IsEngine_G impl_IsEngine_L (lp Tryz.f119 0) := loopOk_of (r := 4) (ls := impl_IsEngine_4_ls) (R := fun x => impl_IsEngine_4_R x.1.1 x.1.2.1 x.1.2.2.1 x.1.2.2.2.1 x.2.1) (by kernel_rfl) (by kernel_rfl) rfl (fun x => by kernel_rfl)
theorem impl_IsEngine_11_lok : LoopOk impl_IsEngine_G impl_IsEngine_L (lp Tryz.f119 1) := loopOk_of (r := 11) (ls := impl_IsEngine_11_ls) (R := fun x => impl_IsEngine_11_R x.1.1 x.1.2.1 x.1.2.2.1 x.1.2.2.2.1 x.1.2.2.2.2.1 x.2.1) (by kernel_rfl) (by kernel_rfl) rfl (fun x => by kernel_rfl)
theorem impl_IsEngine_snd : Sound Tryz.prog II 119 impl_IsEngine_sem := sound_pu' (L := impl_IsEngine_L) (k := 2) impl_IsEngine_env mixed Tryz.func119 (by kernel_rfl) (below_succ impl_IsEngine_11_lok (below_succ impl_IsEngine_4_lok below_zero)) (fun x => by kernel_rfl)

@[reducible] noncomputable def impl_NewEngine_sem : FnSem := .pu (.p tKeymap (.p (.sl (.sl tStep)) .u)) (.p tEngine (.p .b .u)) [true, true] (fun x => impl_NewEngine x.1 x.2.1)
noncomputable def impl_NewEngine_G : Env := ⟨GT, [(117, impl_copyKeymap_sem), (118, impl_copyMacros_sem), (119, impl_IsEngine_sem)], [], true, GA, [], []⟩
theorem impl_NewEngine_env : EnvOk Tryz.prog II impl_NewEngine_G := EnvOk.cons impl_copyKeymap_snd (EnvOk.cons impl_copyMacros_snd (EnvOk.cons impl_IsEngine_snd (envOk_nil GT_ok)))
noncomputable def impl_NewEngine_L : List (Nat × LoopSem) := []
theorem impl_NewEngine_snd : Sound Tryz.prog II 52 impl_NewEngine_sem := sound_pu' (L := impl_NewEngine_L) (k := 0) impl_NewEngine_env mixed Tryz.func52 (by kernel_rfl) below_zero (fun x => by kernel_rfl)

@[reducible] noncomputable def impl_copyEngine_sem : FnSem := .pu (.p tEngine .u) (.p tEngine .u) [true] (fun x => impl_copyEngine x.1)
noncomputable def impl_copyEngine_G : Env := ⟨GT, [(117, impl_copyKeymap_sem), (118, impl_copyMacros_sem)], [], true, GA, [], []⟩
theorem impl_copyEngine_env : EnvOk Tryz.prog II impl_copyEngine_G := EnvOk.cons impl_copyKeymap_snd (EnvOk.cons impl_copyMacros_snd (envOk_nil GT_ok))
noncomputable def impl_copyEngine_L : List (Nat × LoopSem) := []
theorem impl_copyEngine_snd : Sound Tryz.prog II 120 impl_copyEngine_sem := sound_pu' (L := impl_copyEngine_L) (k := 0) impl_copyEngine_env mixed Tryz.func120 (by kernel_rfl) below_zero (fun x => by kernel_rfl)

@[reducible] noncomputable def impl_HeldAt_sem : FnSem := .pu (.p tEngine (.p int .u)) (.p int .u) [true] (fun x => impl_HeldAt x.1 x.2.1)
noncomputable def impl_HeldAt_G : Env := ⟨GT, [], [], true, GA, [], []⟩
theorem impl_HeldAt_env : EnvOk Tryz.prog II impl_HeldAt_G := envOk_nil GT_ok
noncomputable def impl_HeldAt_2_ls : LoopSem := ⟨21, ⟨[(1, (.data int)), (8, (.data (.sl tHeld))), (9, (.data int)), (10, (.data int))], []⟩, 0, ⟨[], []⟩, ⟨[(4, (.data int))], []⟩, impl_HeldAt_2_loop⟩
noncomputable def impl_HeldAt_L : List (Nat × LoopSem) := [(2, impl_HeldAt_2_ls)]
theorem impl_HeldAt_2_lok : LoopOk impl_HeldAt_G impl_HeldAt_L (lp Tryz.f208 0) := loopOk_of (r := 2) (ls := impl_HeldAt_2_ls) (R := fun x => impl_HeldAt_2_R x.1.1 x.1.2.1 x.1.2.2.1 x.1.2.2.2.1) (by kernel_rfl) (by kernel_rfl) rfl (fun x => by kernel_rfl)
theorem impl_HeldAt_snd : Sound Tryz.prog II 208 impl_HeldAt_sem := sound_pu' (L := impl_HeldAt_L) (k := 1) impl_HeldAt_env mixed Tryz.func208 (by kernel_rfl) (below_succ impl_HeldAt_2_lok below_zero) (fun x => by kernel_rfl)

@[reducible] noncomputable def impl_LayersOn_sem : FnSem := .pu (.p int (.p (.sl tHeld) .u)) (.p int .u) [true] (fun x => impl_LayersOn x.1 x.2.1)
noncomputable def impl_LayersOn_G : Env := ⟨GT, [(206, impl_IsHeld_sem)], [], true, GA, [], []⟩
theorem impl_LayersOn_env : EnvOk Tryz.prog II impl_LayersOn_G := EnvOk.cons impl_IsHeld_snd (envOk_nil GT_ok)
noncomputable def impl_LayersOn_7_ls : LoopSem := ⟨39, ⟨[(5, (.data int)), (21, (.data (.sl tHeld))), (22, (.data int)), (23, (.data int))], []⟩, 0, ⟨[(5, (.data int))], []⟩, ⟨[], []⟩, impl_LayersOn_7_loop⟩
noncomputable def impl_LayersOn_L : List (Nat × LoopSem) := [(7, impl_LayersOn_7_ls)]
theorem impl_LayersOn_7_lok : LoopOk impl_LayersOn_G impl_LayersOn_L (lp Tryz.f240 0) := loopOk_of (r := 7) (ls := impl_LayersOn_7_ls) (R := fun x => impl_LayersOn_7_R x.1.1 x.1.2.1 x.1.2.2.1 x.1.2.2.2.1) (by kernel_rfl) (by kernel_rfl) rfl (fun x => by kernel_rfl)
theorem impl_LayersOn_snd : Sound Tryz.prog II 240 impl_LayersOn_sem := sound_pu' (L := impl_LayersOn_L) (k := 1) impl_LayersOn_env mixed Tryz.func240 (by kernel_rfl) (below_succ impl_LayersOn_7_lok below_zero) (fun x => by kernel_rfl)

@[reducible] noncomputable def impl_layerAt_sem : FnSem := .pu (.p tKeymap tCombo) (.p int .u) [true] (fun x => impl_layerAt x.1 x.2.1 x.2.2.1)
noncomputable def impl_layerAt_G : Env := ⟨GT, [(161, impl_bit_sem)], [], true, GA, [], []⟩
theorem impl_layerAt_env : EnvOk Tryz.prog II impl_layerAt_G := EnvOk.cons impl_bit_snd (envOk_nil GT_ok)
noncomputable def impl_layerAt_2_ls : LoopSem := ⟨33, ⟨[(1, (.data int)), (2, (.data int)), (3, (.ptr 3 [])), (7, (.data int))], [(3, tKeymap, (.data tKeymap))]⟩, 0, ⟨[], []⟩, ⟨[(6, (.data int))], []⟩, impl_layerAt_2_loop⟩
noncomputable def impl_layerAt_L : List (Nat × LoopSem) := [(2, impl_layerAt_2_ls)]
theorem impl_layerAt_2_lok : LoopOk impl_layerAt_G impl_layerAt_L (lp Tryz.f268 0) := loopOk_of (r := 2) (ls := impl_layerAt_2_ls) (R := fun x => impl_layerAt_2_R x.1.1 x.1.2.1 x.1.2.2.1 x.1.2.2.2.1 x.2.1) (by kernel_rfl) (by kernel_rfl) rfl (fun x => by kernel_rfl)
theorem impl_layerAt_snd : Sound Tryz.prog II 268 impl_layerAt_sem := sound_pu' (L := impl_layerAt_L) (k := 1) impl_layerAt_env mixed Tryz.func268 (by kernel_rfl) (below_succ impl_layerAt_2_lok below_zero) (fun x => by kernel_rfl)

@[reducible] noncomputable def impl_IsTapHold_sem : FnSem := .pu (.p tAction .u) (.p .b .u) [true] (fun x => impl_IsTapHold x.1)
noncomputable def impl_IsTapHold_G : Env := ⟨GT, [(266, impl_IsAction_sem)], [], true, GA, [], []⟩
theorem impl_IsTapHold_env : EnvOk Tryz.prog II impl_IsTapHold_G := EnvOk.cons impl_IsAction_snd (envOk_nil GT_ok)
noncomputable def impl_IsTapHold_L : List (Nat × LoopSem) := []
theorem impl_IsTapHold_snd : Sound Tryz.prog II 241 impl_IsTapHold_sem := sound_pu' (L := impl_IsTapHold_L) (k := 0) impl_IsTapHold_env mixed Tryz.func241 (by kernel_rfl) below_zero (fun x => by kernel_rfl)

@[reducible] noncomputable def impl_HoldOf_sem : FnSem := .pu (.p tAction .u) (.p tAction .u) [true] (fun x => impl_HoldOf x.1)
noncomputable def impl_HoldOf_G : Env := ⟨GT, [(241, impl_IsTapHold_sem)], [], true, GA, [], []⟩
theorem impl_HoldOf_env : EnvOk Tryz.prog II impl_HoldOf_G := EnvOk.cons impl_IsTapHold_snd (envOk_nil GT_ok)
noncomputable def impl_HoldOf_L : List (Nat × LoopSem) := []
theorem impl_HoldOf_snd : Sound Tryz.prog II 269 impl_HoldOf_sem := sound_pu' (L := impl_HoldOf_L) (k := 0) impl_HoldOf_env mixed Tryz.func269 (by kernel_rfl) below_zero (fun x => by kernel_rfl)

@[reducible] noncomputable def impl_TapOf_sem : FnSem := .pu (.p tAction .u) (.p tAction .u) [true] (fun x => impl_TapOf x.1)
noncomputable def impl_TapOf_G : Env := ⟨GT, [(241, impl_IsTapHold_sem)], [], true, GA, [], []⟩
theorem impl_TapOf_env : EnvOk Tryz.prog II impl_TapOf_G := EnvOk.cons impl_IsTapHold_snd (envOk_nil GT_ok)
noncomputable def impl_TapOf_L : List (Nat × LoopSem) := []
theorem impl_TapOf_snd : Sound Tryz.prog II 270 impl_TapOf_sem := sound_pu' (L := impl_TapOf_L) (k := 0) impl_TapOf_env mixed Tryz.func270 (by kernel_rfl) below_zero (fun x => by kernel_rfl)

@[reducible] noncomputable def impl_IsWordCode_sem : FnSem := .pu (.p int .u) (.p .b .u) [true] (fun x => impl_IsWordCode x.1)
noncomputable def impl_IsWordCode_G : Env := ⟨GT, [], [], true, GA, [], []⟩
theorem impl_IsWordCode_env : EnvOk Tryz.prog II impl_IsWordCode_G := envOk_nil GT_ok
noncomputable def impl_IsWordCode_L : List (Nat × LoopSem) := []
theorem impl_IsWordCode_snd : Sound Tryz.prog II 298 impl_IsWordCode_sem := sound_pu' (L := impl_IsWordCode_L) (k := 0) impl_IsWordCode_env mixed Tryz.func298 (by kernel_rfl) below_zero (fun x => by kernel_rfl)

@[reducible] noncomputable def impl_settle_sem : FnSem := .bx false false tEngine (.p tAction .u) (.p tAction .u) [true] (fun x0 x => impl_settle x0 x.1)
noncomputable def impl_settle_G : Env := ⟨GT, [(298, impl_IsWordCode_sem)], [], false, GA, [], []⟩
theorem impl_settle_env : EnvOk Tryz.prog II impl_settle_G := EnvOk.cons impl_IsWordCode_snd (envOk_nil GT_ok)
noncomputable def impl_settle_L : List (Nat × LoopSem) := []
theorem impl_settle_snd : Sound Tryz.prog II 271 impl_settle_sem := sound_bx' (L := impl_settle_L) (k := 0) impl_settle_env rfl mixed Tryz.func271 (by kernel_rfl) below_zero (fun x0 x => by kernel_rfl)

@[reducible] noncomputable def impl_copyInts_sem : FnSem := .pu (.p (.sl int) .u) (.p (.sl int) .u) [true] (fun x => impl_copyInts x.1)
noncomputable def impl_copyInts_G : Env := ⟨GT, [], [], true, GA, [], []⟩
theorem impl_copyInts_env : EnvOk Tryz.prog II impl_copyInts_G := envOk_nil GT_ok
noncomputable def impl_copyInts_L : List (Nat × LoopSem) := []
theorem impl_copyInts_snd : Sound Tryz.prog II 182 impl_copyInts_sem := sound_pu' (L := impl_copyInts_L) (k := 0) impl_copyInts_env mixed Tryz.func182 (by kernel_rfl) below_zero (fun x => by kernel_rfl)

@[reducible] noncomputable def sort_Ints_sem : FnSem := .io (.sl int) .u .u [] (fun x0 x => sort_Ints x0)
end KF
namespace Go.Proofs
open Go.Shelf
def Tryz.lays_sort_Ints_ren : Go.Shelf.Ren := ⟨fun | 191 => 301 | 189 => 308 | 125 => 310 | 257 => 309 | 128 => 320 | 129 => 321 | 294 => 311 | 295 => 312 | 296 => 313 | 297 => 314 | 298 => 315 | 299 => 316 | 216 => 317 | 300 => 318 | 301 => 319 | 328 => 322 | 329 => 323 | 330 => 324 | 331 => 325 | 332 => 326 | 215 => 327 | 343 => 328 | n => n, fun | 28 => 25 | 0 => 0 | 3 => 3 | 46 => 235 | 51 => 325 | 53 => 327 | 4 => 4 | 183 => 332 | 182 => 331 | 131 => 127 | 5 => 5 | 9 => 9 | 218 => 338 | 222 => 342 | 228 => 344 | 229 => 283 | n => n, fun | n => n⟩
theorem Tryz.lays_sort_Ints : Go.Proofs.Lays.n191 Tryz.prog Tryz.lays_sort_Ints_ren := {
  mixed := by kernel_rfl
  f125 := Tryz.func310.trans (congrArg some (by kernel_rfl))
  f128 := Tryz.func320.trans (congrArg some (by kernel_rfl))
  f129 := Tryz.func321.trans (congrArg some (by kernel_rfl))
  f189 := Tryz.func308.trans (congrArg some (by kernel_rfl))
  f191 := Tryz.func301.trans (congrArg some (by kernel_rfl))
  f215 := Tryz.func327.trans (congrArg some (by kernel_rfl))
  f216 := Tryz.func317.trans (congrArg some (by kernel_rfl))
  f257 := Tryz.func309.trans (congrArg some (by kernel_rfl))
  f294 := Tryz.func311.trans (congrArg some (by kernel_rfl))
  f295 := Tryz.func312.trans (congrArg some (by kernel_rfl))
  f296 := Tryz.func313.trans (congrArg some (by kernel_rfl))
  f297 := Tryz.func314.trans (congrArg some (by kernel_rfl))
  f298 := Tryz.func315.trans (congrArg some (by kernel_rfl))
  f299 := Tryz.func316.trans (congrArg some (by kernel_rfl))
  f300 := Tryz.func318.trans (congrArg some (by kernel_rfl))
  f301 := Tryz.func319.trans (congrArg some (by kernel_rfl))
  f328 := Tryz.func322.trans (congrArg some (by kernel_rfl))
  f329 := Tryz.func323.trans (congrArg some (by kernel_rfl))
  f330 := Tryz.func324.trans (congrArg some (by kernel_rfl))
  f331 := Tryz.func325.trans (congrArg some (by kernel_rfl))
  f332 := Tryz.func326.trans (congrArg some (by kernel_rfl))
  f343 := Tryz.func328.trans (congrArg some (by kernel_rfl))
  t0 := Tryz.underlying0
  a0 := Tryz.isAgg0
  z0 := Tryz.sizeOf0
  v0 := Tryz.zeroValue0
  t3 := Tryz.underlying3
  a3 := Tryz.isAgg3
  z3 := Tryz.sizeOf3
  v3 := Tryz.zeroValue3
  t4 := Tryz.underlying4
  a4 := Tryz.isAgg4
  z4 := Tryz.sizeOf4
  v4 := Tryz.zeroValue4
  t5 := Tryz.underlying5
  a5 := Tryz.isAgg5
  z5 := Tryz.sizeOf5
  v5 := Tryz.zeroValue5
  t9 := Tryz.underlying9
  a9 := Tryz.isAgg9
  z9 := Tryz.sizeOf9
  v9 := Tryz.zeroValue9
  t28 := Tryz.underlying25
  a28 := Tryz.isAgg25
  z28 := Tryz.sizeOf25
  v28 := Tryz.zeroValue25
  t46 := Tryz.underlying235
  a46 := Tryz.isAgg235
  z46 := Tryz.sizeOf235
  v46 := Tryz.zeroValue235
  t51 := Tryz.underlying325
  a51 := Tryz.isAgg325
  z51 := Tryz.sizeOf325
  v51 := Tryz.zeroValue325
  t53 := Tryz.underlying327
  a53 := Tryz.isAgg327
  z53 := Tryz.sizeOf327
  v53 := Tryz.zeroValue327
  t131 := Tryz.underlying127
  a131 := Tryz.isAgg127
  z131 := Tryz.sizeOf127
  v131 := Tryz.zeroValue127
  t182 := Tryz.underlying331
  a182 := Tryz.isAgg331
  z182 := Tryz.sizeOf331
  v182 := Tryz.zeroValue331
  t183 := Tryz.underlying332
  a183 := Tryz.isAgg332
  z183 := Tryz.sizeOf332
  v183 := Tryz.zeroValue332
  t218 := Tryz.underlying338
  a218 := Tryz.isAgg338
  z218 := Tryz.sizeOf338
  v218 := Tryz.zeroValue338
  t222 := Tryz.underlying342
  a222 := Tryz.isAgg342
  z222 := Tryz.sizeOf342
  v222 := Tryz.zeroValue342
  t228 := Tryz.underlying344
  a228 := Tryz.isAgg344
  z228 := Tryz.sizeOf344
  v228 := Tryz.zeroValue344
  t229 := Tryz.underlying283
  a229 := Tryz.isAgg283
  z229 := Tryz.sizeOf283
  v229 := Tryz.zeroValue283 }

end Go.Proofs
namespace KF
open Go Go.Proofs
theorem sort_Ints_snd : Sound Tryz.prog II 301 sort_Ints_sem := sort_sound Tryz.lays_sort_Ints (by kernel_rfl)

@[reducible] noncomputable def impl_hasInt_sem : FnSem := .pu (.p (.sl int) (.p int .u)) (.p .b .u) [true] (fun x => impl_hasInt x.1 x.2.1)
noncomputable def impl_hasInt_G : Env := ⟨GT, [], [], true, GA, [], []⟩
theorem impl_hasInt_env : EnvOk Tryz.prog II impl_hasInt_G := envOk_nil GT_ok
noncomputable def impl_hasInt_2_ls : LoopSem := ⟨17, ⟨[(1, (.data int)), (7, (.data (.sl int))), (8, (.data int)), (9, (.data int))], []⟩, 0, ⟨[], []⟩, ⟨[(4, (.data .b))], []⟩, impl_hasInt_2_loop⟩
noncomputable def impl_hasInt_L : List (Nat × LoopSem) := [(2, impl_hasInt_2_ls)]
theorem impl_hasInt_2_lok : LoopOk impl_hasInt_G impl_hasInt_L (lp Tryz.f302 0) := loopOk_of (r := 2) (ls := impl_hasInt_2_ls) (R := fun x => impl_hasInt_2_R x.1.1 x.1.2.1 x.1.2.2.1 x.1.2.2.2.1) (by kernel_rfl) (by kernel_rfl) rfl (fun x => by kernel_rfl)
theorem impl_hasInt_snd : Sound Tryz.prog II 302 impl_hasInt_sem := sound_pu' (L := impl_hasInt_L) (k := 1) impl_hasInt_env mixed Tryz.func302 (by kernel_rfl) (below_succ impl_hasInt_2_lok below_zero) (fun x => by kernel_rfl)

@[reducible] noncomputable def impl_codesOf_sem : FnSem := .pu (.p (.sl int) .u) (.p (.sl int) .u) [true] (fun x => impl_codesOf x.1)
noncomputable def impl_codesOf_G : Env := ⟨GT, [(182, impl_copyInts_sem), (301, sort_Ints_sem), (302, impl_hasInt_sem)], [], true, GA, [], []⟩
theorem impl_codesOf_env : EnvOk Tryz.prog II impl_codesOf_G := EnvOk.cons impl_copyInts_snd (EnvOk.cons sort_Ints_snd (EnvOk.cons impl_hasInt_snd (envOk_nil GT_ok)))
noncomputable def impl_codesOf_5_ls : LoopSem := ⟨31, ⟨[(4, (.own 200001 int true)), (11, (.own 200002 int true)), (12, (.data int)), (13, (.data int))], []⟩, 0, ⟨[(4, (.own 200001 int true))], []⟩, ⟨[], []⟩, impl_codesOf_5_loop⟩
noncomputable def impl_codesOf_L : List (Nat × LoopSem) := [(5, impl_codesOf_5_ls)]
theorem impl_codesOf_5_lok : LoopOk impl_codesOf_G impl_codesOf_L (lp Tryz.f274 0) := loopOk_of (r := 5) (ls := impl_codesOf_5_ls) (R := fun x => impl_codesOf_5_R x.1.1 x.1.2.1 x.1.2.2.1 x.1.2.2.2.1) (by kernel_rfl) (by kernel_rfl) rfl (fun x => by kernel_rfl)
theorem impl_codesOf_snd : Sound Tryz.prog II 274 impl_codesOf_sem := sound_pu' (L := impl_codesOf_L) (k := 1) impl_codesOf_env mixed Tryz.func274 (by kernel_rfl) (below_succ impl_codesOf_5_lok below_zero) (fun x => by kernel_rfl)

@[reducible] noncomputable def impl_ReportOf_sem : FnSem := .pu (.p (.sl tHeld) .u) (.p tReport .u) [true] (fun x => impl_ReportOf x.1)
noncomputable def impl_ReportOf_G : Env := ⟨GT, [(206, impl_IsHeld_sem), (274, impl_codesOf_sem)], [], true, GA, [], []⟩
theorem impl_ReportOf_env : EnvOk Tryz.prog II impl_ReportOf_G := EnvOk.cons impl_IsHeld_snd (EnvOk.cons impl_codesOf_snd (envOk_nil GT_ok))
noncomputable def impl_ReportOf_6_ls : LoopSem := ⟨45, ⟨[(2, (.ptr 2 [])), (3, (.ptr 3 [])), (4, (.own 200001 int true)), (11, (.data (.sl tHeld))), (12, (.data int)), (13, (.data int))], [(2, tReport, (.pr (.data int) (.pr (.data (.sl int)) .un))), (3, tReport, (.pr (.data int) (.pr (.data (.sl int)) .un)))]⟩, 0, ⟨[(2, (.ptr 2 [])), (3, (.ptr 3 [])), (4, (.own 200001 int true))], [(2, tReport, (.pr (.data int) (.pr (.data (.sl int)) .un))), (3, tReport, (.pr (.data int) (.pr (.data (.sl int)) .un)))]⟩, ⟨[], []⟩, impl_ReportOf_6_loop⟩
noncomputable def impl_ReportOf_L : List (Nat × LoopSem) := [(6, impl_ReportOf_6_ls)]
theorem impl_ReportOf_6_lok : LoopOk impl_ReportOf_G impl_ReportOf_L (lp Tryz.f211 0) := loopOk_of (r := 6) (ls := impl_ReportOf_6_ls) (R := fun x => impl_ReportOf_6_R x.1.1 x.1.2.1 x.1.2.2.1 x.1.2.2.2.1 x.1.2.2.2.2.1 x.1.2.2.2.2.2.1 x.2.1 x.2.2.1) (by kernel_rfl) (by kernel_rfl) rfl (fun x => by kernel_rfl)
theorem impl_ReportOf_snd : Sound Tryz.prog II 211 impl_ReportOf_sem := sound_pu' (L := impl_ReportOf_L) (k := 1) impl_ReportOf_env mixed Tryz.func211 (by kernel_rfl) (below_succ impl_ReportOf_6_lok below_zero) (fun x => by kernel_rfl)

@[reducible] noncomputable def impl_withPairs_sem : FnSem := .pu (.p tReport (.p (.sl tCombo) .u)) (.p tReport .u) [true] (fun x => impl_withPairs x.1 x.2.1)
noncomputable def impl_withPairs_G : Env := ⟨GT, [(182, impl_copyInts_sem), (274, impl_codesOf_sem)], [], true, GA, [], []⟩
theorem impl_withPairs_env : EnvOk Tryz.prog II impl_withPairs_G := EnvOk.cons impl_copyInts_snd (EnvOk.cons impl_codesOf_snd (envOk_nil GT_ok))
noncomputable def impl_withPairs_4_ls : LoopSem := ⟨37, ⟨[(4, (.ptr 4 [])), (5, (.ptr 5 [])), (6, (.own 200001 int true)), (15, (.data (.sl tCombo))), (16, (.data int)), (17, (.data int))], [(4, tReport, (.pr (.data int) (.pr (.data (.sl int)) .un))), (5, tReport, (.pr (.data int) (.pr (.data (.sl int)) .un)))]⟩, 0, ⟨[(4, (.ptr 4 [])), (5, (.ptr 5 [])), (6, (.own 200001 int true))], [(4, tReport, (.pr (.data int) (.pr (.data (.sl int)) .un))), (5, tReport, (.pr (.data int) (.pr (.data (.sl int)) .un)))]⟩, ⟨[], []⟩, impl_withPairs_4_loop⟩
noncomputable def impl_withPairs_L : List (Nat × LoopSem) := [(4, impl_withPairs_4_ls)]
theorem impl_withPairs_4_lok : LoopOk impl_withPairs_G impl_withPairs_L (lp Tryz.f299 0) := loopOk_of (r := 4) (ls := impl_withPairs_4_ls) (R := fun x => impl_withPairs_4_R x.1.1 x.1.2.1 x.1.2.2.1 x.1.2.2.2.1 x.1.2.2.2.2.1 x.1.2.2.2.2.2.1 x.2.1 x.2.2.1) (by kernel_rfl) (by kernel_rfl) rfl (fun x => by kernel_rfl)
theorem impl_withPairs_snd : Sound Tryz.prog II 299 impl_withPairs_sem := sound_pu' (L := impl_withPairs_L) (k := 1) impl_withPairs_env mixed Tryz.func299 (by kernel_rfl) (below_succ impl_withPairs_4_lok below_zero) (fun x => by kernel_rfl)

@[reducible] noncomputable def impl_MacroReports_sem : FnSem := .pu (.p (.sl tHeld) (.p (.sl tStep) .u)) (.p (.sl tReport) .u) [true] (fun x => impl_MacroReports x.1 x.2.1)
noncomputable def impl_MacroReports_G : Env := ⟨GT, [(206, impl_IsHeld_sem), (207, impl_IsMacro_sem), (211, impl_ReportOf_sem), (299, impl_withPairs_sem), (267, impl_pairAt_sem)], [], true, GA, [], []⟩
theorem impl_MacroReports_env : EnvOk Tryz.prog II impl_MacroReports_G := EnvOk.cons impl_IsHeld_snd (EnvOk.cons impl_IsMacro_snd (EnvOk.cons impl_ReportOf_snd (EnvOk.cons impl_withPairs_snd (EnvOk.cons impl_pairAt_snd (envOk_nil GT_ok)))))
noncomputable def impl_MacroReports_7_ls : LoopSem := ⟨74, ⟨[(5, (.ptr 5 [])), (6, (.own 200001 tReport true)), (7, (.own 200002 tCombo true)), (22, (.data (.sl tStep))), (23, (.data int)), (24, (.data int))], [(5, tReport, (.pr (.data int) (.pr (.own 200003 int true) .un)))]⟩, 0, ⟨[(6, (.own 200001 tReport true))], []⟩, ⟨[], []⟩, impl_MacroReports_7_loop⟩
noncomputable def impl_MacroReports_L : List (Nat × LoopSem) := [(7, impl_MacroReports_7_ls)]
theorem impl_MacroReports_7_lok : LoopOk impl_MacroReports_G impl_MacroReports_L (lp Tryz.f272 0) := loopOk_of (r := 7) (ls := impl_MacroReports_7_ls) (R := fun x => impl_MacroReports_7_R x.1.1 x.1.2.1 x.1.2.2.1 x.1.2.2.2.1 x.1.2.2.2.2.1 x.1.2.2.2.2.2.1 x.2.1) (by kernel_rfl) (by kernel_rfl) rfl (fun x => by kernel_rfl)
theorem impl_MacroReports_snd : Sound Tryz.prog II 272 impl_MacroReports_sem := sound_pu' (L := impl_MacroReports_L) (k := 1) impl_MacroReports_env mixed Tryz.func272 (by kernel_rfl) (below_succ impl_MacroReports_7_lok below_zero) (fun x => by kernel_rfl)

@[reducible] noncomputable def impl_sameInts_sem : FnSem := .pu (.p (.sl int) (.p (.sl int) .u)) (.p .b .u) [true] (fun x => impl_sameInts x.1 x.2.1)
noncomputable def impl_sameInts_G : Env := ⟨GT, [], [], true, GA, [], []⟩
theorem impl_sameInts_env : EnvOk Tryz.prog II impl_sameInts_G := envOk_nil GT_ok
noncomputable def impl_sameInts_4_ls : LoopSem := ⟨26, ⟨[(0, (.data (.sl int))), (1, (.data (.sl int))), (12, (.data int)), (13, (.data int))], []⟩, 0, ⟨[], []⟩, ⟨[(4, (.data .b))], []⟩, impl_sameInts_4_loop⟩
noncomputable def impl_sameInts_L : List (Nat × LoopSem) := [(4, impl_sameInts_4_ls)]
theorem impl_sameInts_4_lok : LoopOk impl_sameInts_G impl_sameInts_L (lp Tryz.f300 0) := loopOk_of (r := 4) (ls := impl_sameInts_4_ls) (R := fun x => impl_sameInts_4_R x.1.1 x.1.2.1 x.1.2.2.1 x.1.2.2.2.1) (by kernel_rfl) (by kernel_rfl) rfl (fun x => by kernel_rfl)
theorem impl_sameInts_snd : Sound Tryz.prog II 300 impl_sameInts_sem := sound_pu' (L := impl_sameInts_L) (k := 1) impl_sameInts_env mixed Tryz.func300 (by kernel_rfl) (below_succ impl_sameInts_4_lok below_zero) (fun x => by kernel_rfl)

@[reducible] noncomputable def impl_SameReport_sem : FnSem := .pu (.p tReport (.p tReport .u)) (.p .b .u) [true] (fun x => impl_SameReport x.1 x.2.1)
noncomputable def impl_SameReport_G : Env := ⟨GT, [(300, impl_sameInts_sem)], [], true, GA, [], []⟩
theorem impl_SameReport_env : EnvOk Tryz.prog II impl_SameReport_G := EnvOk.cons impl_sameInts_snd (envOk_nil GT_ok)
noncomputable def impl_SameReport_L : List (Nat × LoopSem) := []
theorem impl_SameReport_snd : Sound Tryz.prog II 273 impl_SameReport_sem := sound_pu' (L := impl_SameReport_L) (k := 0) impl_SameReport_env mixed Tryz.func273 (by kernel_rfl) below_zero (fun x => by kernel_rfl)

@[reducible] noncomputable def impl_changedReports_sem : FnSem := .co (.p tReport (.p (.sl tReport) .u)) (.p (.sl tReport) .u) [true] (fun x => impl_changedReports x.1 x.2.1)
def GTo : List (Nat × Ty) := [(3, int), (27, (.sl (.p int (.p .o .u)))), (121, (.p int (.p .o .u)))]
theorem GTo_ok : ((GTo.all fun x => tokB Tryz.prog x.2 x.1) && (([] : List (Nat × Ty × Nat)).all fun x => arrB Tryz.prog x.1 x.2.1 x.2.2)) = true := by kernel_rfl
@[reducible] noncomputable def chgo_sem (c : T rpO → T rpO → Option Bool) : FnSem := .pu (.p (.p int (.p .o .u)) (.p (.sl (.p int (.p .o .u))) .u)) (.p (.sl (.p int (.p .o .u))) .u) [true] (fun x => chgo c x.1 x.2.1)
noncomputable def chgo_G (c : T rpO → T rpO → Option Bool) : Env := ⟨GTo, [(273, semS c)], [], true, [], [], []⟩
theorem chgo_env (I : Inv) (c : T rpO → T rpO → Option Bool) (h : Sound Tryz.prog I 273 (semS c)) : EnvOk Tryz.prog I (chgo_G c) := EnvOk.cons h (envOk_nil GTo_ok)
noncomputable def chgo_3_ls (c : T rpO → T rpO → Option Bool) : LoopSem := ⟨25, ⟨[(2, (.ptr 2 [])), (5, (.own 200001 (.p int (.p .o .u)) true)), (8, (.data (.sl (.p int (.p .o .u))))), (9, (.data int)), (10, (.data int))], [(2, (.p int (.p .o .u)), (.data (.p int (.p .o .u))))]⟩, 0, ⟨[(5, (.own 200001 (.p int (.p .o .u)) true))], []⟩, ⟨[], []⟩, chgo_3_loop c⟩
noncomputable def chgo_L (c : T rpO → T rpO → Option Bool) : List (Nat × LoopSem) := [(3, chgo_3_ls c)]
theorem chgo_3_lok (c : T rpO → T rpO → Option Bool) : LoopOk (chgo_G c) (chgo_L c) (lp Tryz.f210 0) := loopOk_of (r := 3) (ls := chgo_3_ls c) (R := fun x => chgo_3_R c x.1.1 x.1.2.1 x.1.2.2.1 x.1.2.2.2.1 x.1.2.2.2.2.1 x.2.1) (by kernel_rfl) (by kernel_rfl) rfl (fun x => by kernel_rfl)
theorem chgo_snd (I : Inv) (c : T rpO → T rpO → Option Bool) (h : Sound Tryz.prog I 273 (semS c)) : Sound Tryz.prog I 210 (chgo_sem c) := sound_pu' (L := chgo_L c) (k := 1) (chgo_env I c h) mixed Tryz.func210 (by kernel_rfl) (below_succ (chgo_3_lok c) below_zero) (fun x => by kernel_rfl)
theorem impl_changedReports_snd : Sound Tryz.prog II 210 impl_changedReports_sem := sound_chg (f2 := 273) (SR := fun x => impl_SameReport x.1 x.2.1) (same := sameR) sameR_ok impl_SameReport_snd (fun I c h => ⟨_, chgo_snd I c h, chgo_ok c⟩)

@[reducible] noncomputable def impl_press_sem : FnSem := .pu (.p tEngine (.p int (.p .b .u))) (.p tEngine (.p (.sl tReport) .u)) [true, true] (fun x => impl_press x.1 x.2.1 x.2.2.1)
noncomputable def impl_press_G : Env := ⟨GT, [(120, impl_copyEngine_sem), (240, impl_LayersOn_sem), (268, impl_layerAt_sem), (269, impl_HoldOf_sem), (270, impl_TapOf_sem), (271, impl_settle_sem), (272, impl_MacroReports_sem), (211, impl_ReportOf_sem), (210, impl_changedReports_sem)], [], true, GA, [], []⟩
theorem impl_press_env : EnvOk Tryz.prog II impl_press_G := EnvOk.cons impl_copyEngine_snd (EnvOk.cons impl_LayersOn_snd (EnvOk.cons impl_layerAt_snd (EnvOk.cons impl_HoldOf_snd (EnvOk.cons impl_TapOf_snd (EnvOk.cons impl_settle_snd (EnvOk.cons impl_MacroReports_snd (EnvOk.cons impl_ReportOf_snd (EnvOk.cons impl_changedReports_snd (envOk_nil GT_ok)))))))))
noncomputable def impl_press_L : List (Nat × LoopSem) := []
theorem impl_press_snd : Sound Tryz.prog II 209 impl_press_sem := sound_pu' (L := impl_press_L) (k := 0) impl_press_env mixed Tryz.func209 (by kernel_rfl) below_zero (fun x => by kernel_rfl)

@[reducible] noncomputable def impl_Press_sem : FnSem := .pu (.p tEngine (.p int (.p .b .u))) (.p tEngine (.p (.sl tReport) (.p .b .u))) [true, true, true] (fun x => impl_Press x.1 x.2.1 x.2.2.1)
noncomputable def impl_Press_G : Env := ⟨GT, [(119, impl_IsEngine_sem), (208, impl_HeldAt_sem), (209, impl_press_sem)], [], true, GA, [], []⟩
theorem impl_Press_env : EnvOk Tryz.prog II impl_Press_G := EnvOk.cons impl_IsEngine_snd (EnvOk.cons impl_HeldAt_snd (EnvOk.cons impl_press_snd (envOk_nil GT_ok)))
noncomputable def impl_Press_L : List (Nat × LoopSem) := []
theorem impl_Press_snd : Sound Tryz.prog II 121 impl_Press_sem := sound_pu' (L := impl_Press_L) (k := 0) impl_Press_env mixed Tryz.func121 (by kernel_rfl) below_zero (fun x => by kernel_rfl)

@[reducible] noncomputable def impl_release_sem : FnSem := .pu (.p tEngine (.p int .u)) (.p tEngine (.p (.sl tReport) .u)) [true, true] (fun x => impl_release x.1 x.2.1)
noncomputable def impl_release_G : Env := ⟨GT, [(120, impl_copyEngine_sem), (208, impl_HeldAt_sem), (211, impl_ReportOf_sem), (210, impl_changedReports_sem)], [], true, GA, [], []⟩
theorem impl_release_env : EnvOk Tryz.prog II impl_release_G := EnvOk.cons impl_copyEngine_snd (EnvOk.cons impl_HeldAt_snd (EnvOk.cons impl_ReportOf_snd (EnvOk.cons impl_changedReports_snd (envOk_nil GT_ok))))
noncomputable def impl_release_L : List (Nat × LoopSem) := []
theorem impl_release_snd : Sound Tryz.prog II 122 impl_release_sem := sound_pu' (L := impl_release_L) (k := 0) impl_release_env mixed Tryz.func122 (by kernel_rfl) below_zero (fun x => by kernel_rfl)

@[reducible] noncomputable def impl_TapKeys_sem : FnSem := .pu (.p tEngine (.p (.sl int) .u)) (.p tEngine (.p (.sl tReport) (.p .b .u))) [true, true, true] (fun x => impl_TapKeys x.1 x.2.1)
noncomputable def impl_TapKeys_G : Env := ⟨GT, [(119, impl_IsEngine_sem), (120, impl_copyEngine_sem), (121, impl_Press_sem), (122, impl_release_sem)], [], true, GA, [], []⟩
theorem impl_TapKeys_env : EnvOk Tryz.prog II impl_TapKeys_G := EnvOk.cons impl_IsEngine_snd (EnvOk.cons impl_copyEngine_snd (EnvOk.cons impl_Press_snd (EnvOk.cons impl_release_snd (envOk_nil GT_ok))))
noncomputable def impl_TapKeys_6_ls : LoopSem := ⟨52, ⟨[(4, (.ptr 4 [])), (7, (.ptr 7 [])), (8, (.own 200001 tReport true)), (20, (.data (.sl int))), (21, (.data int)), (22, (.data int))], [(4, tEngine, (.pr (.pr (.data int) (.pr (.own 200002 (.sl tAction) true) .un)) (.pr (.own 200003 (.sl tStep) true) (.pr (.data int) (.pr (.own 200004 tHeld true) (.data (.p int (.p .b .u)))))))), (7, tEngine, (.pr (.pr (.data int) (.pr (.own 200005 (.sl tAction) true) .un)) (.pr (.own 200006 (.sl tStep) true) (.pr (.data int) (.pr (.own 200007 tHeld true) (.data (.p int (.p .b .u))))))))]⟩, 0, ⟨[(4, (.ptr 4 [])), (7, (.ptr 7 [])), (8, (.own 200001 tReport true))], [(4, tEngine, (.pr (.pr (.data int) (.pr (.own 200002 (.sl tAction) true) .un)) (.pr (.own 200003 (.sl tStep) true) (.pr (.data int) (.pr (.own 200004 tHeld true) (.data (.p int (.p .b .u)))))))), (7, tEngine, (.pr (.pr (.data int) (.pr (.own 200005 (.sl tAction) true) .un)) (.pr (.own 200006 (.sl tStep) true) (.pr (.data int) (.pr (.own 200007 tHeld true) (.data (.p int (.p .b .u))))))))]⟩, ⟨[(4, (.ptr 4 [])), (5, (.own 200001 tReport true)), (6, (.data .b))], [(4, tEngine, (.pr (.pr (.data int) (.pr (.own 200002 (.sl tAction) true) .un)) (.pr (.own 200003 (.sl tStep) true) (.pr (.data int) (.pr (.own 200004 tHeld true) (.data (.p int (.p .b .u))))))))]⟩, impl_TapKeys_6_loop⟩
noncomputable def impl_TapKeys_L : List (Nat × LoopSem) := [(6, impl_TapKeys_6_ls)]
theorem impl_TapKeys_6_lok : LoopOk impl_TapKeys_G impl_TapKeys_L (lp Tryz.f53 0) := loopOk_of (r := 6) (ls := impl_TapKeys_6_ls) (R := fun x => impl_TapKeys_6_R x.1.1 x.1.2.1 x.1.2.2.1 x.1.2.2.2.1 x.1.2.2.2.2.1 x.1.2.2.2.2.2.1 x.2.1 x.2.2.1) (by kernel_rfl) (by kernel_rfl) rfl (fun x => by kernel_rfl)
theorem impl_TapKeys_snd : Sound Tryz.prog II 53 impl_TapKeys_sem := sound_pu' (L := impl_TapKeys_L) (k := 1) impl_TapKeys_env mixed Tryz.func53 (by kernel_rfl) (below_succ impl_TapKeys_6_lok below_zero) (fun x => by kernel_rfl)

@[reducible] noncomputable def impl_TraceOf_sem : FnSem := .pu (.p tKeymap (.p (.sl int) .u)) (.p (.sl tReport) (.p .b .u)) [true, true] (fun x => impl_TraceOf x.1 x.2.1)
noncomputable def impl_TraceOf_G : Env := ⟨GT, [(52, impl_NewEngine_sem), (53, impl_TapKeys_sem)], [], true, GA, [], []⟩
theorem impl_TraceOf_env : EnvOk Tryz.prog II impl_TraceOf_G := EnvOk.cons impl_NewEngine_snd (EnvOk.cons impl_TapKeys_snd (envOk_nil GT_ok))
noncomputable def impl_TraceOf_L : List (Nat × LoopSem) := []
theorem impl_TraceOf_snd : Sound Tryz.prog II 12 impl_TraceOf_sem := sound_pu' (L := impl_TraceOf_L) (k := 0) impl_TraceOf_env mixed Tryz.func12 (by kernel_rfl) below_zero (fun x => by kernel_rfl)

@[reducible] noncomputable def laws_eqIntS_sem : FnSem := .pu (.p (.sl int) (.p (.sl int) .u)) (.p .b .u) [true] (fun x => laws_eqIntS x.1 x.2.1)
noncomputable def laws_eqIntS_G : Env := ⟨GT, [], [], true, GA, [], []⟩
theorem laws_eqIntS_env : EnvOk Tryz.prog II laws_eqIntS_G := envOk_nil GT_ok
noncomputable def laws_eqIntS_4_ls : LoopSem := ⟨26, ⟨[(0, (.data (.sl int))), (1, (.data (.sl int))), (5, (.data int))], []⟩, 0, ⟨[], []⟩, ⟨[(4, (.data .b))], []⟩, laws_eqIntS_4_loop⟩
noncomputable def laws_eqIntS_L : List (Nat × LoopSem) := [(4, laws_eqIntS_4_ls)]
theorem laws_eqIntS_4_lok : LoopOk laws_eqIntS_G laws_eqIntS_L (lp Tryz.f15 0) := loopOk_of (r := 4) (ls := laws_eqIntS_4_ls) (R := fun x => laws_eqIntS_4_R x.1.1 x.1.2.1 x.1.2.2.1) (by kernel_rfl) (by kernel_rfl) rfl (fun x => by kernel_rfl)
theorem laws_eqIntS_snd : Sound Tryz.prog II 15 laws_eqIntS_sem := sound_pu' (L := laws_eqIntS_L) (k := 1) laws_eqIntS_env mixed Tryz.func15 (by kernel_rfl) (below_succ laws_eqIntS_4_lok below_zero) (fun x => by kernel_rfl)

@[reducible] noncomputable def laws_eqReport_sem : FnSem := .pu (.p tReport (.p tReport .u)) (.p .b .u) [true] (fun x => laws_eqReport x.1 x.2.1)
noncomputable def laws_eqReport_G : Env := ⟨GT, [(15, laws_eqIntS_sem)], [], true, GA, [], []⟩
theorem laws_eqReport_env : EnvOk Tryz.prog II laws_eqReport_G := EnvOk.cons laws_eqIntS_snd (envOk_nil GT_ok)
noncomputable def laws_eqReport_L : List (Nat × LoopSem) := []
theorem laws_eqReport_snd : Sound Tryz.prog II 54 laws_eqReport_sem := sound_pu' (L := laws_eqReport_L) (k := 0) laws_eqReport_env mixed Tryz.func54 (by kernel_rfl) below_zero (fun x => by kernel_rfl)

@[reducible] noncomputable def laws_eqReportS_sem : FnSem := .pu (.p (.sl tReport) (.p (.sl tReport) .u)) (.p .b .u) [true] (fun x => laws_eqReportS x.1 x.2.1)
noncomputable def laws_eqReportS_G : Env := ⟨GT, [(54, laws_eqReport_sem)], [], true, GA, [], []⟩
theorem laws_eqReportS_env : EnvOk Tryz.prog II laws_eqReportS_G := EnvOk.cons laws_eqReport_snd (envOk_nil GT_ok)
noncomputable def laws_eqReportS_4_ls : LoopSem := ⟨27, ⟨[(0, (.data (.sl tReport))), (1, (.data (.sl tReport))), (5, (.data int))], []⟩, 0, ⟨[], []⟩, ⟨[(4, (.data .b))], []⟩, laws_eqReportS_4_loop⟩
noncomputable def laws_eqReportS_L : List (Nat × LoopSem) := [(4, laws_eqReportS_4_ls)]
theorem laws_eqReportS_4_lok : LoopOk laws_eqReportS_G laws_eqReportS_L (lp Tryz.f13 0) := loopOk_of (r := 4) (ls := laws_eqReportS_4_ls) (R := fun x => laws_eqReportS_4_R x.1.1 x.1.2.1 x.1.2.2.1) (by kernel_rfl) (by kernel_rfl) rfl (fun x => by kernel_rfl)
theorem laws_eqReportS_snd : Sound Tryz.prog II 13 laws_eqReportS_sem := sound_pu' (L := laws_eqReportS_L) (k := 1) laws_eqReportS_env mixed Tryz.func13 (by kernel_rfl) (below_succ laws_eqReportS_4_lok below_zero) (fun x => by kernel_rfl)

@[reducible] noncomputable def laws_eqAction_sem : FnSem := .pu (.p tAction (.p tAction .u)) (.p .b .u) [true] (fun x => laws_eqAction x.1 x.2.1)
noncomputable def laws_eqAction_G : Env := ⟨GT, [], [], true, GA, [], []⟩
theorem laws_eqAction_env : EnvOk Tryz.prog II laws_eqAction_G := envOk_nil GT_ok
noncomputable def laws_eqAction_L : List (Nat × LoopSem) := []
theorem laws_eqAction_snd : Sound Tryz.prog II 212 laws_eqAction_sem := sound_pu' (L := laws_eqAction_L) (k := 0) laws_eqAction_env mixed Tryz.func212 (by kernel_rfl) below_zero (fun x => by kernel_rfl)

@[reducible] noncomputable def laws_eqActionS_sem : FnSem := .pu (.p (.sl tAction) (.p (.sl tAction) .u)) (.p .b .u) [true] (fun x => laws_eqActionS x.1 x.2.1)
noncomputable def laws_eqActionS_G : Env := ⟨GT, [(212, laws_eqAction_sem)], [], true, GA, [], []⟩
theorem laws_eqActionS_env : EnvOk Tryz.prog II laws_eqActionS_G := EnvOk.cons laws_eqAction_snd (envOk_nil GT_ok)
noncomputable def laws_eqActionS_4_ls : LoopSem := ⟨27, ⟨[(0, (.data (.sl tAction))), (1, (.data (.sl tAction))), (5, (.data int))], []⟩, 0, ⟨[], []⟩, ⟨[(4, (.data .b))], []⟩, laws_eqActionS_4_loop⟩
noncomputable def laws_eqActionS_L : List (Nat × LoopSem) := [(4, laws_eqActionS_4_ls)]
theorem laws_eqActionS_4_lok : LoopOk laws_eqActionS_G laws_eqActionS_L (lp Tryz.f123 0) := loopOk_of (r := 4) (ls := laws_eqActionS_4_ls) (R := fun x => laws_eqActionS_4_R x.1.1 x.1.2.1 x.1.2.2.1) (by kernel_rfl) (by kernel_rfl) rfl (fun x => by kernel_rfl)
theorem laws_eqActionS_snd : Sound Tryz.prog II 123 laws_eqActionS_sem := sound_pu' (L := laws_eqActionS_L) (k := 1) laws_eqActionS_env mixed Tryz.func123 (by kernel_rfl) (below_succ laws_eqActionS_4_lok below_zero) (fun x => by kernel_rfl)

@[reducible] noncomputable def laws_eqActionSS_sem : FnSem := .pu (.p (.sl (.sl tAction)) (.p (.sl (.sl tAction)) .u)) (.p .b .u) [true] (fun x => laws_eqActionSS x.1 x.2.1)
noncomputable def laws_eqActionSS_G : Env := ⟨GT, [(123, laws_eqActionS_sem)], [], true, GA, [], []⟩
theorem laws_eqActionSS_env : EnvOk Tryz.prog II laws_eqActionSS_G := EnvOk.cons laws_eqActionS_snd (envOk_nil GT_ok)
noncomputable def laws_eqActionSS_4_ls : LoopSem := ⟨27, ⟨[(0, (.data (.sl (.sl tAction)))), (1, (.data (.sl (.sl tAction)))), (5, (.data int))], []⟩, 0, ⟨[], []⟩, ⟨[(4, (.data .b))], []⟩, laws_eqActionSS_4_loop⟩
noncomputable def laws_eqActionSS_L : List (Nat × LoopSem) := [(4, laws_eqActionSS_4_ls)]
theorem laws_eqActionSS_4_lok : LoopOk laws_eqActionSS_G laws_eqActionSS_L (lp Tryz.f55 0) := loopOk_of (r := 4) (ls := laws_eqActionSS_4_ls) (R := fun x => laws_eqActionSS_4_R x.1.1 x.1.2.1 x.1.2.2.1) (by kernel_rfl) (by kernel_rfl) rfl (fun x => by kernel_rfl)
theorem laws_eqActionSS_snd : Sound Tryz.prog II 55 laws_eqActionSS_sem := sound_pu' (L := laws_eqActionSS_L) (k := 1) laws_eqActionSS_env mixed Tryz.func55 (by kernel_rfl) (below_succ laws_eqActionSS_4_lok below_zero) (fun x => by kernel_rfl)

@[reducible] noncomputable def laws_eqKeymap_sem : FnSem := .pu (.p tKeymap (.p tKeymap .u)) (.p .b .u) [true] (fun x => laws_eqKeymap x.1 x.2.1)
noncomputable def laws_eqKeymap_G : Env := ⟨GT, [(55, laws_eqActionSS_sem)], [], true, GA, [], []⟩
theorem laws_eqKeymap_env : EnvOk Tryz.prog II laws_eqKeymap_G := EnvOk.cons laws_eqActionSS_snd (envOk_nil GT_ok)
noncomputable def laws_eqKeymap_L : List (Nat × LoopSem) := []
theorem laws_eqKeymap_snd : Sound Tryz.prog II 14 laws_eqKeymap_sem := sound_pu' (L := laws_eqKeymap_L) (k := 0) laws_eqKeymap_env mixed Tryz.func14 (by kernel_rfl) below_zero (fun x => by kernel_rfl)

@[reducible] noncomputable def laws_markActionS_sem : FnSem := .io (.sl tAction) (.p int .u) (.p int .u) [true] (fun x0 x => laws_markActionS x0 x.1)
noncomputable def laws_markActionS_G : Env := ⟨GT, [], [], false, GA, [], []⟩
theorem laws_markActionS_env : EnvOk Tryz.prog II laws_markActionS_G := envOk_nil GT_ok
noncomputable def laws_markActionS_2_ls : LoopSem := ⟨41, ⟨[(0, (.own 500000 tAction true)), (1, (.data int)), (5, (.data int))], []⟩, 0, ⟨[(0, (.own 500000 tAction true)), (1, (.data int))], []⟩, ⟨[], []⟩, laws_markActionS_2_loop⟩
noncomputable def laws_markActionS_L : List (Nat × LoopSem) := [(2, laws_markActionS_2_ls)]
theorem laws_markActionS_2_lok : LoopOk laws_markActionS_G laws_markActionS_L (lp Tryz.f124 0) := loopOk_of (r := 2) (ls := laws_markActionS_2_ls) (R := fun x => laws_markActionS_2_R x.1.1 x.1.2.1 x.1.2.2.1) (by kernel_rfl) (by kernel_rfl) rfl (fun x => by kernel_rfl)
theorem laws_markActionS_snd : Sound Tryz.prog II 124 laws_markActionS_sem := sound_io' (L := laws_markActionS_L) (k := 1) laws_markActionS_env rfl mixed Tryz.func124 (by kernel_rfl) (below_succ laws_markActionS_2_lok below_zero) (fun x0 x => by kernel_rfl)

@[reducible] noncomputable def laws_markActionSS_sem : FnSem := .io (.sl (.sl tAction)) (.p int .u) (.p int .u) [true] (fun x0 x => laws_markActionSS x0 x.1)
noncomputable def laws_markActionSS_G : Env := ⟨GT, [(124, laws_markActionS_sem)], [(3999, 500000)], false, GA, [], []⟩
theorem laws_markActionSS_env : EnvOk Tryz.prog II laws_markActionSS_G := EnvOk.cons laws_markActionS_snd (envOk_nil GT_ok)
noncomputable def laws_markActionSS_2_ls : LoopSem := ⟨19, ⟨[(0, (.own 500000 (.sl tAction) true)), (1, (.data int)), (5, (.data int))], []⟩, 0, ⟨[(0, (.own 500000 (.sl tAction) true)), (1, (.data int))], []⟩, ⟨[], []⟩, laws_markActionSS_2_loop⟩
noncomputable def laws_markActionSS_L : List (Nat × LoopSem) := [(2, laws_markActionSS_2_ls)]
theorem laws_markActionSS_2_lok : LoopOk laws_markActionSS_G laws_markActionSS_L (lp Tryz.f56 0) := loopOk_of (r := 2) (ls := laws_markActionSS_2_ls) (R := fun x => laws_markActionSS_2_R x.1.1 x.1.2.1 x.1.2.2.1) (by kernel_rfl) (by kernel_rfl) rfl (fun x => by kernel_rfl)
theorem laws_markActionSS_snd : Sound Tryz.prog II 56 laws_markActionSS_sem := sound_io' (L := laws_markActionSS_L) (k := 1) laws_markActionSS_env rfl mixed Tryz.func56 (by kernel_rfl) (below_succ laws_markActionSS_2_lok below_zero) (fun x0 x => by kernel_rfl)

@[reducible] noncomputable def laws_markKeymap_sem : FnSem := .io tKeymap (.p int .u) (.p int .u) [true] (fun x0 x => laws_markKeymap x0 x.1)
noncomputable def laws_markKeymap_G : Env := ⟨GT, [(56, laws_markActionSS_sem)], [], false, GA, [], []⟩
theorem laws_markKeymap_env : EnvOk Tryz.prog II laws_markKeymap_G := EnvOk.cons laws_markActionSS_snd (envOk_nil GT_ok)
noncomputable def laws_markKeymap_L : List (Nat × LoopSem) := []
theorem laws_markKeymap_snd : Sound Tryz.prog II 16 laws_markKeymap_sem := sound_io' (L := laws_markKeymap_L) (k := 0) laws_markKeymap_env rfl mixed Tryz.func16 (by kernel_rfl) below_zero (fun x0 x => by kernel_rfl)

@[reducible] noncomputable def laws_markIntS_sem : FnSem := .io (.sl int) (.p int .u) (.p int .u) [true] (fun x0 x => laws_markIntS x0 x.1)
noncomputable def laws_markIntS_G : Env := ⟨GT, [], [], false, GA, [], []⟩
theorem laws_markIntS_env : EnvOk Tryz.prog II laws_markIntS_G := envOk_nil GT_ok
noncomputable def laws_markIntS_2_ls : LoopSem := ⟨19, ⟨[(0, (.own 500000 int true)), (1, (.data int)), (5, (.data int))], []⟩, 0, ⟨[(0, (.own 500000 int true)), (1, (.data int))], []⟩, ⟨[], []⟩, laws_markIntS_2_loop⟩
noncomputable def laws_markIntS_L : List (Nat × LoopSem) := [(2, laws_markIntS_2_ls)]
theorem laws_markIntS_2_lok : LoopOk laws_markIntS_G laws_markIntS_L (lp Tryz.f17 0) := loopOk_of (r := 2) (ls := laws_markIntS_2_ls) (R := fun x => laws_markIntS_2_R x.1.1 x.1.2.1 x.1.2.2.1) (by kernel_rfl) (by kernel_rfl) rfl (fun x => by kernel_rfl)
theorem laws_markIntS_snd : Sound Tryz.prog II 17 laws_markIntS_sem := sound_io' (L := laws_markIntS_L) (k := 1) laws_markIntS_env rfl mixed Tryz.func17 (by kernel_rfl) (below_succ laws_markIntS_2_lok below_zero) (fun x0 x => by kernel_rfl)

@[reducible] noncomputable def laws_markReportS_sem : FnSem := .io (.sl tReport) (.p int .u) (.p int .u) [true] (fun x0 x => laws_markReportS x0 x.1)
noncomputable def laws_markReportS_G : Env := ⟨GT, [(17, laws_markIntS_sem)], [(3999, 500000)], false, GA, [], []⟩
theorem laws_markReportS_env : EnvOk Tryz.prog II laws_markReportS_G := EnvOk.cons laws_markIntS_snd (envOk_nil GT_ok)
noncomputable def laws_markReportS_2_ls : LoopSem := ⟨27, ⟨[(0, (.own 500000 tReport true)), (1, (.data int)), (5, (.data int))], []⟩, 0, ⟨[(0, (.own 500000 tReport true)), (1, (.data int))], []⟩, ⟨[], []⟩, laws_markReportS_2_loop⟩
noncomputable def laws_markReportS_L : List (Nat × LoopSem) := [(2, laws_markReportS_2_ls)]
theorem laws_markReportS_2_lok : LoopOk laws_markReportS_G laws_markReportS_L (lp Tryz.f18 0) := loopOk_of (r := 2) (ls := laws_markReportS_2_ls) (R := fun x => laws_markReportS_2_R x.1.1 x.1.2.1 x.1.2.2.1) (by kernel_rfl) (by kernel_rfl) rfl (fun x => by kernel_rfl)
theorem laws_markReportS_snd : Sound Tryz.prog II 18 laws_markReportS_sem := sound_io' (L := laws_markReportS_L) (k := 1) laws_markReportS_env rfl mixed Tryz.func18 (by kernel_rfl) (below_succ laws_markReportS_2_lok below_zero) (fun x0 x => by kernel_rfl)

@[reducible] noncomputable def laws_heldIntS_sem : FnSem := .pu (.p (.sl int) (.p int .u)) (.p int .u) [true] (fun x => laws_heldIntS x.1 x.2.1)
noncomputable def laws_heldIntS_G : Env := ⟨GT, [], [], true, GA, [], []⟩
theorem laws_heldIntS_env : EnvOk Tryz.prog II laws_heldIntS_G := envOk_nil GT_ok
noncomputable def laws_heldIntS_2_ls : LoopSem := ⟨21, ⟨[(0, (.data (.sl int))), (1, (.data int)), (5, (.data int))], []⟩, 0, ⟨[(1, (.data int))], []⟩, ⟨[(4, (.data int))], []⟩, laws_heldIntS_2_loop⟩
noncomputable def laws_heldIntS_L : List (Nat × LoopSem) := [(2, laws_heldIntS_2_ls)]
theorem laws_heldIntS_2_lok : LoopOk laws_heldIntS_G laws_heldIntS_L (lp Tryz.f57 0) := loopOk_of (r := 2) (ls := laws_heldIntS_2_ls) (R := fun x => laws_heldIntS_2_R x.1.1 x.1.2.1 x.1.2.2.1) (by kernel_rfl) (by kernel_rfl) rfl (fun x => by kernel_rfl)
theorem laws_heldIntS_snd : Sound Tryz.prog II 57 laws_heldIntS_sem := sound_pu' (L := laws_heldIntS_L) (k := 1) laws_heldIntS_env mixed Tryz.func57 (by kernel_rfl) (below_succ laws_heldIntS_2_lok below_zero) (fun x => by kernel_rfl)

@[reducible] noncomputable def laws_heldReportS_sem : FnSem := .pu (.p (.sl tReport) (.p int .u)) (.p int .u) [true] (fun x => laws_heldReportS x.1 x.2.1)
noncomputable def laws_heldReportS_G : Env := ⟨GT, [(57, laws_heldIntS_sem)], [], true, GA, [], []⟩
theorem laws_heldReportS_env : EnvOk Tryz.prog II laws_heldReportS_G := EnvOk.cons laws_heldIntS_snd (envOk_nil GT_ok)
noncomputable def laws_heldReportS_2_ls : LoopSem := ⟨31, ⟨[(0, (.data (.sl tReport))), (1, (.data int)), (5, (.data int))], []⟩, 0, ⟨[(1, (.data int))], []⟩, ⟨[(4, (.data int))], []⟩, laws_heldReportS_2_loop⟩
noncomputable def laws_heldReportS_L : List (Nat × LoopSem) := [(2, laws_heldReportS_2_ls)]
theorem laws_heldReportS_2_lok : LoopOk laws_heldReportS_G laws_heldReportS_L (lp Tryz.f19 0) := loopOk_of (r := 2) (ls := laws_heldReportS_2_ls) (R := fun x => laws_heldReportS_2_R x.1.1 x.1.2.1 x.1.2.2.1) (by kernel_rfl) (by kernel_rfl) rfl (fun x => by kernel_rfl)
theorem laws_heldReportS_snd : Sound Tryz.prog II 19 laws_heldReportS_sem := sound_pu' (L := laws_heldReportS_L) (k := 1) laws_heldReportS_env mixed Tryz.func19 (by kernel_rfl) (below_succ laws_heldReportS_2_lok below_zero) (fun x => by kernel_rfl)

@[reducible] noncomputable def laws_FnExactTraceOf_sem : FnSem := .pu (.p tKeymap (.p (.sl int) .u)) (.p .b .u) [true] (fun x => laws_FnExactTraceOf x.1 x.2.1)
noncomputable def laws_FnExactTraceOf_G : Env := ⟨GT, [(8, laws_szKeymap_sem), (10, laws_toKeymap_sem), (11, laws_toIntS_sem), (9, spec_TraceOf_sem), (12, impl_TraceOf_sem), (13, laws_eqReportS_sem), (14, laws_eqKeymap_sem), (15, laws_eqIntS_sem), (16, laws_markKeymap_sem), (17, laws_markIntS_sem), (18, laws_markReportS_sem), (19, laws_heldReportS_sem)], [], true, GA, [], []⟩
theorem laws_FnExactTraceOf_env : EnvOk Tryz.prog II laws_FnExactTraceOf_G := EnvOk.cons laws_szKeymap_snd (EnvOk.cons laws_toKeymap_snd (EnvOk.cons laws_toIntS_snd (EnvOk.cons spec_TraceOf_snd (EnvOk.cons impl_TraceOf_snd (EnvOk.cons laws_eqReportS_snd (EnvOk.cons laws_eqKeymap_snd (EnvOk.cons laws_eqIntS_snd (EnvOk.cons laws_markKeymap_snd (EnvOk.cons laws_markIntS_snd (EnvOk.cons laws_markReportS_snd (EnvOk.cons laws_heldReportS_snd (envOk_nil GT_ok))))))))))))
noncomputable def laws_FnExactTraceOf_L : List (Nat × LoopSem) := []
theorem laws_FnExactTraceOf_snd : Sound Tryz.prog II 3 laws_FnExactTraceOf_sem := sound_pu' (L := laws_FnExactTraceOf_L) (k := 0) laws_FnExactTraceOf_env mixed Tryz.func3 (by kernel_rfl) below_zero (fun x => by kernel_rfl)
end KF
