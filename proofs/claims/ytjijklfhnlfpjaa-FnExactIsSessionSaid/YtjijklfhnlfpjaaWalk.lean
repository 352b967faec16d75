/- Each Go function computes its plain function (no condition). -/
import Derived.Test.YtjijklfhnlfpjaaFns
import Derived.Test.YtjijklfhnlfpjaaRows
namespace KF
open Go Go.Proofs
def GT : List (Nat × Ty) := [(3, int), (4, .b), (25, (.sl int)), (30, tStep), (41, (.sl (.sl tAction))), (43, tKeymap), (44, (.sl (.sl tStep))), (45, (.sl tHeld)), (47, tEngine), (48, tStep), (49, (.sl tEvent)), (51, tDecider), (52, (.sl tSent)), (54, tSession), (57, (.sl (.sl tAction))), (59, tKeymap), (60, (.sl (.sl tStep))), (61, (.sl tHeld)), (63, tEngine), (64, (.sl tEvent)), (66, tDecider), (67, (.sl tSent)), (69, tSession), (87, tReport), (89, tSent), (114, tReport), (116, tSent), (121, tEvent), (146, (.sl tStep)), (148, tAction), (150, tHeld), (157, tEvent), (168, (.sl tStep)), (170, (.sl tAction)), (173, tStep), (180, tAction), (182, tHeld), (184, (.sl tCombo)), (186, tCombo), (193, (.sl tAction)), (196, tStep)]
def GA : List (Nat × Ty × Nat) := []
theorem GT_ok : ((GT.all fun x => tokB Try.prog x.2 x.1) && (GA.all fun x => arrB Try.prog x.1 x.2.1 x.2.2)) = true := by kernel_rfl
theorem mixed : Try.prog.follows .mixedOrders = true := by kernel_rfl
noncomputable abbrev II : Inv := noI

@[reducible] noncomputable def laws_szActionS_sem : FnSem := .pu (.p (.sl tAction) (.p int .u)) (.p int .u) [true] (fun x => laws_szActionS x.1 x.2.1)
noncomputable def laws_szActionS_G : Env := ⟨GT, [], [], true, GA, [], []⟩
theorem laws_szActionS_env : EnvOk Try.prog II laws_szActionS_G := envOk_nil GT_ok
noncomputable def laws_szActionS_L : List (Nat × LoopSem) := []
theorem laws_szActionS_snd : Sound Try.prog II 130 laws_szActionS_sem := sound_pu' (L := laws_szActionS_L) (k := 0) laws_szActionS_env mixed Try.func130 (by kernel_rfl) below_zero (fun x => by kernel_rfl)

@[reducible] noncomputable def laws_szActionSS_sem : FnSem := .pu (.p (.sl (.sl tAction)) (.p int .u)) (.p int .u) [true] (fun x => laws_szActionSS x.1 x.2.1)
noncomputable def laws_szActionSS_G : Env := ⟨GT, [(130, laws_szActionS_sem)], [], true, GA, [], []⟩
theorem laws_szActionSS_env : EnvOk Try.prog II laws_szActionSS_G := EnvOk.cons laws_szActionS_snd (envOk_nil GT_ok)
noncomputable def laws_szActionSS_5_ls : LoopSem := ⟨27, ⟨[(0, (.data (.sl (.sl tAction)))), (1, (.data int)), (5, (.data int))], []⟩, 0, ⟨[(1, (.data int))], []⟩, ⟨[(4, (.data int))], []⟩, laws_szActionSS_5_loop⟩
noncomputable def laws_szActionSS_L : List (Nat × LoopSem) := [(5, laws_szActionSS_5_ls)]
theorem laws_szActionSS_5_lok : LoopOk laws_szActionSS_G laws_szActionSS_L (lp Try.f108 0) := loopOk_of (r := 5) (ls := laws_szActionSS_5_ls) (R := fun x => laws_szActionSS_5_R x.1.1 x.1.2.1 x.1.2.2.1) (by kernel_rfl) (by kernel_rfl) rfl (fun x => by kernel_rfl)
theorem laws_szActionSS_snd : Sound Try.prog II 108 laws_szActionSS_sem := sound_pu' (L := laws_szActionSS_L) (k := 1) laws_szActionSS_env mixed Try.func108 (by kernel_rfl) (below_succ laws_szActionSS_5_lok below_zero) (fun x => by kernel_rfl)

@[reducible] noncomputable def laws_szKeymap_sem : FnSem := .pu (.p tKeymap (.p int .u)) (.p int .u) [true] (fun x => laws_szKeymap x.1 x.2.1)
noncomputable def laws_szKeymap_G : Env := ⟨GT, [(108, laws_szActionSS_sem)], [], true, GA, [], []⟩
theorem laws_szKeymap_env : EnvOk Try.prog II laws_szKeymap_G := EnvOk.cons laws_szActionSS_snd (envOk_nil GT_ok)
noncomputable def laws_szKeymap_L : List (Nat × LoopSem) := []
theorem laws_szKeymap_snd : Sound Try.prog II 78 laws_szKeymap_sem := sound_pu' (L := laws_szKeymap_L) (k := 0) laws_szKeymap_env mixed Try.func78 (by kernel_rfl) below_zero (fun x => by kernel_rfl)

@[reducible] noncomputable def laws_szStepS_sem : FnSem := .pu (.p (.sl tStep) (.p int .u)) (.p int .u) [true] (fun x => laws_szStepS x.1 x.2.1)
noncomputable def laws_szStepS_G : Env := ⟨GT, [], [], true, GA, [], []⟩
theorem laws_szStepS_env : EnvOk Try.prog II laws_szStepS_G := envOk_nil GT_ok
noncomputable def laws_szStepS_L : List (Nat × LoopSem) := []
theorem laws_szStepS_snd : Sound Try.prog II 109 laws_szStepS_sem := sound_pu' (L := laws_szStepS_L) (k := 0) laws_szStepS_env mixed Try.func109 (by kernel_rfl) below_zero (fun x => by kernel_rfl)

@[reducible] noncomputable def laws_szStepSS_sem : FnSem := .pu (.p (.sl (.sl tStep)) (.p int .u)) (.p int .u) [true] (fun x => laws_szStepSS x.1 x.2.1)
noncomputable def laws_szStepSS_G : Env := ⟨GT, [(109, laws_szStepS_sem)], [], true, GA, [], []⟩
theorem laws_szStepSS_env : EnvOk Try.prog II laws_szStepSS_G := EnvOk.cons laws_szStepS_snd (envOk_nil GT_ok)
noncomputable def laws_szStepSS_5_ls : LoopSem := ⟨27, ⟨[(0, (.data (.sl (.sl tStep)))), (1, (.data int)), (5, (.data int))], []⟩, 0, ⟨[(1, (.data int))], []⟩, ⟨[(4, (.data int))], []⟩, laws_szStepSS_5_loop⟩
noncomputable def laws_szStepSS_L : List (Nat × LoopSem) := [(5, laws_szStepSS_5_ls)]
theorem laws_szStepSS_5_lok : LoopOk laws_szStepSS_G laws_szStepSS_L (lp Try.f79 0) := loopOk_of (r := 5) (ls := laws_szStepSS_5_ls) (R := fun x => laws_szStepSS_5_R x.1.1 x.1.2.1 x.1.2.2.1) (by kernel_rfl) (by kernel_rfl) rfl (fun x => by kernel_rfl)
theorem laws_szStepSS_snd : Sound Try.prog II 79 laws_szStepSS_sem := sound_pu' (L := laws_szStepSS_L) (k := 1) laws_szStepSS_env mixed Try.func79 (by kernel_rfl) (below_succ laws_szStepSS_5_lok below_zero) (fun x => by kernel_rfl)

@[reducible] noncomputable def laws_szHeldS_sem : FnSem := .pu (.p (.sl tHeld) (.p int .u)) (.p int .u) [true] (fun x => laws_szHeldS x.1 x.2.1)
noncomputable def laws_szHeldS_G : Env := ⟨GT, [], [], true, GA, [], []⟩
theorem laws_szHeldS_env : EnvOk Try.prog II laws_szHeldS_G := envOk_nil GT_ok
noncomputable def laws_szHeldS_L : List (Nat × LoopSem) := []
theorem laws_szHeldS_snd : Sound Try.prog II 80 laws_szHeldS_sem := sound_pu' (L := laws_szHeldS_L) (k := 0) laws_szHeldS_env mixed Try.func80 (by kernel_rfl) below_zero (fun x => by kernel_rfl)

@[reducible] noncomputable def laws_szEngine_sem : FnSem := .pu (.p tEngine (.p int .u)) (.p int .u) [true] (fun x => laws_szEngine x.1 x.2.1)
noncomputable def laws_szEngine_G : Env := ⟨GT, [(78, laws_szKeymap_sem), (79, laws_szStepSS_sem), (80, laws_szHeldS_sem)], [], true, GA, [], []⟩
theorem laws_szEngine_env : EnvOk Try.prog II laws_szEngine_G := EnvOk.cons laws_szKeymap_snd (EnvOk.cons laws_szStepSS_snd (EnvOk.cons laws_szHeldS_snd (envOk_nil GT_ok)))
noncomputable def laws_szEngine_L : List (Nat × LoopSem) := []
theorem laws_szEngine_snd : Sound Try.prog II 51 laws_szEngine_sem := sound_pu' (L := laws_szEngine_L) (k := 0) laws_szEngine_env mixed Try.func51 (by kernel_rfl) below_zero (fun x => by kernel_rfl)

@[reducible] noncomputable def laws_szEventS_sem : FnSem := .pu (.p (.sl tEvent) (.p int .u)) (.p int .u) [true] (fun x => laws_szEventS x.1 x.2.1)
noncomputable def laws_szEventS_G : Env := ⟨GT, [], [], true, GA, [], []⟩
theorem laws_szEventS_env : EnvOk Try.prog II laws_szEventS_G := envOk_nil GT_ok
noncomputable def laws_szEventS_L : List (Nat × LoopSem) := []
theorem laws_szEventS_snd : Sound Try.prog II 52 laws_szEventS_sem := sound_pu' (L := laws_szEventS_L) (k := 0) laws_szEventS_env mixed Try.func52 (by kernel_rfl) below_zero (fun x => by kernel_rfl)

@[reducible] noncomputable def laws_szDecider_sem : FnSem := .pu (.p tDecider (.p int .u)) (.p int .u) [true] (fun x => laws_szDecider x.1 x.2.1)
noncomputable def laws_szDecider_G : Env := ⟨GT, [(51, laws_szEngine_sem), (52, laws_szEventS_sem)], [], true, GA, [], []⟩
theorem laws_szDecider_env : EnvOk Try.prog II laws_szDecider_G := EnvOk.cons laws_szEngine_snd (EnvOk.cons laws_szEventS_snd (envOk_nil GT_ok))
noncomputable def laws_szDecider_L : List (Nat × LoopSem) := []
theorem laws_szDecider_snd : Sound Try.prog II 27 laws_szDecider_sem := sound_pu' (L := laws_szDecider_L) (k := 0) laws_szDecider_env mixed Try.func27 (by kernel_rfl) below_zero (fun x => by kernel_rfl)

@[reducible] noncomputable def laws_szIntS_sem : FnSem := .pu (.p (.sl int) (.p int .u)) (.p int .u) [true] (fun x => laws_szIntS x.1 x.2.1)
noncomputable def laws_szIntS_G : Env := ⟨GT, [], [], true, GA, [], []⟩
theorem laws_szIntS_env : EnvOk Try.prog II laws_szIntS_G := envOk_nil GT_ok
noncomputable def laws_szIntS_L : List (Nat × LoopSem) := []
theorem laws_szIntS_snd : Sound Try.prog II 110 laws_szIntS_sem := sound_pu' (L := laws_szIntS_L) (k := 0) laws_szIntS_env mixed Try.func110 (by kernel_rfl) below_zero (fun x => by kernel_rfl)

@[reducible] noncomputable def laws_szReport_sem : FnSem := .pu (.p tReport (.p int .u)) (.p int .u) [true] (fun x => laws_szReport x.1 x.2.1)
noncomputable def laws_szReport_G : Env := ⟨GT, [(110, laws_szIntS_sem)], [], true, GA, [], []⟩
theorem laws_szReport_env : EnvOk Try.prog II laws_szReport_G := EnvOk.cons laws_szIntS_snd (envOk_nil GT_ok)
noncomputable def laws_szReport_L : List (Nat × LoopSem) := []
theorem laws_szReport_snd : Sound Try.prog II 81 laws_szReport_sem := sound_pu' (L := laws_szReport_L) (k := 0) laws_szReport_env mixed Try.func81 (by kernel_rfl) below_zero (fun x => by kernel_rfl)

@[reducible] noncomputable def laws_szSent_sem : FnSem := .pu (.p tSent (.p int .u)) (.p int .u) [true] (fun x => laws_szSent x.1 x.2.1)
noncomputable def laws_szSent_G : Env := ⟨GT, [(81, laws_szReport_sem)], [], true, GA, [], []⟩
theorem laws_szSent_env : EnvOk Try.prog II laws_szSent_G := EnvOk.cons laws_szReport_snd (envOk_nil GT_ok)
noncomputable def laws_szSent_L : List (Nat × LoopSem) := []
theorem laws_szSent_snd : Sound Try.prog II 53 laws_szSent_sem := sound_pu' (L := laws_szSent_L) (k := 0) laws_szSent_env mixed Try.func53 (by kernel_rfl) below_zero (fun x => by kernel_rfl)

@[reducible] noncomputable def laws_szSentS_sem : FnSem := .pu (.p (.sl tSent) (.p int .u)) (.p int .u) [true] (fun x => laws_szSentS x.1 x.2.1)
noncomputable def laws_szSentS_G : Env := ⟨GT, [(53, laws_szSent_sem)], [], true, GA, [], []⟩
theorem laws_szSentS_env : EnvOk Try.prog II laws_szSentS_G := EnvOk.cons laws_szSent_snd (envOk_nil GT_ok)
noncomputable def laws_szSentS_5_ls : LoopSem := ⟨27, ⟨[(0, (.data (.sl tSent))), (1, (.data int)), (5, (.data int))], []⟩, 0, ⟨[(1, (.data int))], []⟩, ⟨[(4, (.data int))], []⟩, laws_szSentS_5_loop⟩
noncomputable def laws_szSentS_L : List (Nat × LoopSem) := [(5, laws_szSentS_5_ls)]
theorem laws_szSentS_5_lok : LoopOk laws_szSentS_G laws_szSentS_L (lp Try.f28 0) := loopOk_of (r := 5) (ls := laws_szSentS_5_ls) (R := fun x => laws_szSentS_5_R x.1.1 x.1.2.1 x.1.2.2.1) (by kernel_rfl) (by kernel_rfl) rfl (fun x => by kernel_rfl)
theorem laws_szSentS_snd : Sound Try.prog II 28 laws_szSentS_sem := sound_pu' (L := laws_szSentS_L) (k := 1) laws_szSentS_env mixed Try.func28 (by kernel_rfl) (below_succ laws_szSentS_5_lok below_zero) (fun x => by kernel_rfl)

@[reducible] noncomputable def laws_szSession_sem : FnSem := .pu (.p tSession (.p int .u)) (.p int .u) [true] (fun x => laws_szSession x.1 x.2.1)
noncomputable def laws_szSession_G : Env := ⟨GT, [(27, laws_szDecider_sem), (28, laws_szSentS_sem)], [], true, GA, [], []⟩
theorem laws_szSession_env : EnvOk Try.prog II laws_szSession_G := EnvOk.cons laws_szDecider_snd (EnvOk.cons laws_szSentS_snd (envOk_nil GT_ok))
noncomputable def laws_szSession_L : List (Nat × LoopSem) := []
theorem laws_szSession_snd : Sound Try.prog II 14 laws_szSession_sem := sound_pu' (L := laws_szSession_L) (k := 0) laws_szSession_env mixed Try.func14 (by kernel_rfl) below_zero (fun x => by kernel_rfl)

@[reducible] noncomputable def laws_toAction_sem : FnSem := .pu (.p tAction .u) (.p tAction .u) [true] (fun x => laws_toAction x.1)
noncomputable def laws_toAction_G : Env := ⟨GT, [], [], true, GA, [], []⟩
theorem laws_toAction_env : EnvOk Try.prog II laws_toAction_G := envOk_nil GT_ok
noncomputable def laws_toAction_L : List (Nat × LoopSem) := []
theorem laws_toAction_snd : Sound Try.prog II 133 laws_toAction_sem := sound_pu' (L := laws_toAction_L) (k := 0) laws_toAction_env mixed Try.func133 (by kernel_rfl) below_zero (fun x => by kernel_rfl)

@[reducible] noncomputable def laws_toActionS_sem : FnSem := .pu (.p (.sl tAction) .u) (.p (.sl tAction) .u) [true] (fun x => laws_toActionS x.1)
noncomputable def laws_toActionS_G : Env := ⟨GT, [(133, laws_toAction_sem)], [], true, GA, [], []⟩
theorem laws_toActionS_env : EnvOk Try.prog II laws_toActionS_G := EnvOk.cons laws_toAction_snd (envOk_nil GT_ok)
noncomputable def laws_toActionS_3_ls : LoopSem := ⟨23, ⟨[(0, (.data (.sl tAction))), (3, (.own 200001 tAction true)), (4, (.data int))], []⟩, 0, ⟨[(3, (.own 200001 tAction true))], []⟩, ⟨[], []⟩, laws_toActionS_3_loop⟩
noncomputable def laws_toActionS_L : List (Nat × LoopSem) := [(3, laws_toActionS_3_ls)]
theorem laws_toActionS_3_lok : LoopOk laws_toActionS_G laws_toActionS_L (lp Try.f131 0) := loopOk_of (r := 3) (ls := laws_toActionS_3_ls) (R := fun x => laws_toActionS_3_R x.1.1 x.1.2.1 x.1.2.2.1) (by kernel_rfl) (by kernel_rfl) rfl (fun x => by kernel_rfl)
theorem laws_toActionS_snd : Sound Try.prog II 131 laws_toActionS_sem := sound_pu' (L := laws_toActionS_L) (k := 1) laws_toActionS_env mixed Try.func131 (by kernel_rfl) (below_succ laws_toActionS_3_lok below_zero) (fun x => by kernel_rfl)

@[reducible] noncomputable def laws_toActionSS_sem : FnSem := .pu (.p (.sl (.sl tAction)) .u) (.p (.sl (.sl tAction)) .u) [true] (fun x => laws_toActionSS x.1)
noncomputable def laws_toActionSS_G : Env := ⟨GT, [(131, laws_toActionS_sem)], [], true, GA, [], []⟩
theorem laws_toActionSS_env : EnvOk Try.prog II laws_toActionSS_G := EnvOk.cons laws_toActionS_snd (envOk_nil GT_ok)
noncomputable def laws_toActionSS_3_ls : LoopSem := ⟨23, ⟨[(0, (.data (.sl (.sl tAction)))), (3, (.own 200001 (.sl tAction) true)), (4, (.data int))], []⟩, 0, ⟨[(3, (.own 200001 (.sl tAction) true))], []⟩, ⟨[], []⟩, laws_toActionSS_3_loop⟩
noncomputable def laws_toActionSS_L : List (Nat × LoopSem) := [(3, laws_toActionSS_3_ls)]
theorem laws_toActionSS_3_lok : LoopOk laws_toActionSS_G laws_toActionSS_L (lp Try.f116 0) := loopOk_of (r := 3) (ls := laws_toActionSS_3_ls) (R := fun x => laws_toActionSS_3_R x.1.1 x.1.2.1 x.1.2.2.1) (by kernel_rfl) (by kernel_rfl) rfl (fun x => by kernel_rfl)
theorem laws_toActionSS_snd : Sound Try.prog II 116 laws_toActionSS_sem := sound_pu' (L := laws_toActionSS_L) (k := 1) laws_toActionSS_env mixed Try.func116 (by kernel_rfl) (below_succ laws_toActionSS_3_lok below_zero) (fun x => by kernel_rfl)

@[reducible] noncomputable def laws_toKeymap_sem : FnSem := .pu (.p tKeymap .u) (.p tKeymap .u) [true] (fun x => laws_toKeymap x.1)
noncomputable def laws_toKeymap_G : Env := ⟨GT, [(116, laws_toActionSS_sem)], [], true, GA, [], []⟩
theorem laws_toKeymap_env : EnvOk Try.prog II laws_toKeymap_G := EnvOk.cons laws_toActionSS_snd (envOk_nil GT_ok)
noncomputable def laws_toKeymap_L : List (Nat × LoopSem) := []
theorem laws_toKeymap_snd : Sound Try.prog II 87 laws_toKeymap_sem := sound_pu' (L := laws_toKeymap_L) (k := 0) laws_toKeymap_env mixed Try.func87 (by kernel_rfl) below_zero (fun x => by kernel_rfl)

@[reducible] noncomputable def laws_toStep_sem : FnSem := .pu (.p tStep .u) (.p tStep .u) [true] (fun x => laws_toStep x.1)
noncomputable def laws_toStep_G : Env := ⟨GT, [], [], true, GA, [], []⟩
theorem laws_toStep_env : EnvOk Try.prog II laws_toStep_G := envOk_nil GT_ok
noncomputable def laws_toStep_L : List (Nat × LoopSem) := []
theorem laws_toStep_snd : Sound Try.prog II 132 laws_toStep_sem := sound_pu' (L := laws_toStep_L) (k := 0) laws_toStep_env mixed Try.func132 (by kernel_rfl) below_zero (fun x => by kernel_rfl)

@[reducible] noncomputable def laws_toStepS_sem : FnSem := .pu (.p (.sl tStep) .u) (.p (.sl tStep) .u) [true] (fun x => laws_toStepS x.1)
noncomputable def laws_toStepS_G : Env := ⟨GT, [(132, laws_toStep_sem)], [], true, GA, [], []⟩
theorem laws_toStepS_env : EnvOk Try.prog II laws_toStepS_G := EnvOk.cons laws_toStep_snd (envOk_nil GT_ok)
noncomputable def laws_toStepS_3_ls : LoopSem := ⟨23, ⟨[(0, (.data (.sl tStep))), (3, (.own 200001 tStep true)), (4, (.data int))], []⟩, 0, ⟨[(3, (.own 200001 tStep true))], []⟩, ⟨[], []⟩, laws_toStepS_3_loop⟩
noncomputable def laws_toStepS_L : List (Nat × LoopSem) := [(3, laws_toStepS_3_ls)]
theorem laws_toStepS_3_lok : LoopOk laws_toStepS_G laws_toStepS_L (lp Try.f117 0) := loopOk_of (r := 3) (ls := laws_toStepS_3_ls) (R := fun x => laws_toStepS_3_R x.1.1 x.1.2.1 x.1.2.2.1) (by kernel_rfl) (by kernel_rfl) rfl (fun x => by kernel_rfl)
theorem laws_toStepS_snd : Sound Try.prog II 117 laws_toStepS_sem := sound_pu' (L := laws_toStepS_L) (k := 1) laws_toStepS_env mixed Try.func117 (by kernel_rfl) (below_succ laws_toStepS_3_lok below_zero) (fun x => by kernel_rfl)

@[reducible] noncomputable def laws_toStepSS_sem : FnSem := .pu (.p (.sl (.sl tStep)) .u) (.p (.sl (.sl tStep)) .u) [true] (fun x => laws_toStepSS x.1)
noncomputable def laws_toStepSS_G : Env := ⟨GT, [(117, laws_toStepS_sem)], [], true, GA, [], []⟩
theorem laws_toStepSS_env : EnvOk Try.prog II laws_toStepSS_G := EnvOk.cons laws_toStepS_snd (envOk_nil GT_ok)
noncomputable def laws_toStepSS_3_ls : LoopSem := ⟨23, ⟨[(0, (.data (.sl (.sl tStep)))), (3, (.own 200001 (.sl tStep) true)), (4, (.data int))], []⟩, 0, ⟨[(3, (.own 200001 (.sl tStep) true))], []⟩, ⟨[], []⟩, laws_toStepSS_3_loop⟩
noncomputable def laws_toStepSS_L : List (Nat × LoopSem) := [(3, laws_toStepSS_3_ls)]
theorem laws_toStepSS_3_lok : LoopOk laws_toStepSS_G laws_toStepSS_L (lp Try.f88 0) := loopOk_of (r := 3) (ls := laws_toStepSS_3_ls) (R := fun x => laws_toStepSS_3_R x.1.1 x.1.2.1 x.1.2.2.1) (by kernel_rfl) (by kernel_rfl) rfl (fun x => by kernel_rfl)
theorem laws_toStepSS_snd : Sound Try.prog II 88 laws_toStepSS_sem := sound_pu' (L := laws_toStepSS_L) (k := 1) laws_toStepSS_env mixed Try.func88 (by kernel_rfl) (below_succ laws_toStepSS_3_lok below_zero) (fun x => by kernel_rfl)

@[reducible] noncomputable def laws_toHeld_sem : FnSem := .pu (.p tHeld .u) (.p tHeld .u) [true] (fun x => laws_toHeld x.1)
noncomputable def laws_toHeld_G : Env := ⟨GT, [(133, laws_toAction_sem)], [], true, GA, [], []⟩
theorem laws_toHeld_env : EnvOk Try.prog II laws_toHeld_G := EnvOk.cons laws_toAction_snd (envOk_nil GT_ok)
noncomputable def laws_toHeld_L : List (Nat × LoopSem) := []
theorem laws_toHeld_snd : Sound Try.prog II 118 laws_toHeld_sem := sound_pu' (L := laws_toHeld_L) (k := 0) laws_toHeld_env mixed Try.func118 (by kernel_rfl) below_zero (fun x => by kernel_rfl)

@[reducible] noncomputable def laws_toHeldS_sem : FnSem := .pu (.p (.sl tHeld) .u) (.p (.sl tHeld) .u) [true] (fun x => laws_toHeldS x.1)
noncomputable def laws_toHeldS_G : Env := ⟨GT, [(118, laws_toHeld_sem)], [], true, GA, [], []⟩
theorem laws_toHeldS_env : EnvOk Try.prog II laws_toHeldS_G := EnvOk.cons laws_toHeld_snd (envOk_nil GT_ok)
noncomputable def laws_toHeldS_3_ls : LoopSem := ⟨23, ⟨[(0, (.data (.sl tHeld))), (3, (.own 200001 tHeld true)), (4, (.data int))], []⟩, 0, ⟨[(3, (.own 200001 tHeld true))], []⟩, ⟨[], []⟩, laws_toHeldS_3_loop⟩
noncomputable def laws_toHeldS_L : List (Nat × LoopSem) := [(3, laws_toHeldS_3_ls)]
theorem laws_toHeldS_3_lok : LoopOk laws_toHeldS_G laws_toHeldS_L (lp Try.f89 0) := loopOk_of (r := 3) (ls := laws_toHeldS_3_ls) (R := fun x => laws_toHeldS_3_R x.1.1 x.1.2.1 x.1.2.2.1) (by kernel_rfl) (by kernel_rfl) rfl (fun x => by kernel_rfl)
theorem laws_toHeldS_snd : Sound Try.prog II 89 laws_toHeldS_sem := sound_pu' (L := laws_toHeldS_L) (k := 1) laws_toHeldS_env mixed Try.func89 (by kernel_rfl) (below_succ laws_toHeldS_3_lok below_zero) (fun x => by kernel_rfl)

@[reducible] noncomputable def laws_toEngine_sem : FnSem := .pu (.p tEngine .u) (.p tEngine .u) [true] (fun x => laws_toEngine x.1)
noncomputable def laws_toEngine_G : Env := ⟨GT, [(87, laws_toKeymap_sem), (88, laws_toStepSS_sem), (89, laws_toHeldS_sem)], [], true, GA, [], []⟩
theorem laws_toEngine_env : EnvOk Try.prog II laws_toEngine_G := EnvOk.cons laws_toKeymap_snd (EnvOk.cons laws_toStepSS_snd (EnvOk.cons laws_toHeldS_snd (envOk_nil GT_ok)))
noncomputable def laws_toEngine_L : List (Nat × LoopSem) := []
theorem laws_toEngine_snd : Sound Try.prog II 58 laws_toEngine_sem := sound_pu' (L := laws_toEngine_L) (k := 0) laws_toEngine_env mixed Try.func58 (by kernel_rfl) below_zero (fun x => by kernel_rfl)

@[reducible] noncomputable def laws_toTiming_sem : FnSem := .pu (.p tStep .u) (.p tStep .u) [true] (fun x => laws_toTiming x.1)
noncomputable def laws_toTiming_G : Env := ⟨GT, [], [], true, GA, [], []⟩
theorem laws_toTiming_env : EnvOk Try.prog II laws_toTiming_G := envOk_nil GT_ok
noncomputable def laws_toTiming_L : List (Nat × LoopSem) := []
theorem laws_toTiming_snd : Sound Try.prog II 59 laws_toTiming_sem := sound_pu' (L := laws_toTiming_L) (k := 0) laws_toTiming_env mixed Try.func59 (by kernel_rfl) below_zero (fun x => by kernel_rfl)

@[reducible] noncomputable def laws_toEvent_sem : FnSem := .pu (.p tEvent .u) (.p tEvent .u) [true] (fun x => laws_toEvent x.1)
noncomputable def laws_toEvent_G : Env := ⟨GT, [], [], true, GA, [], []⟩
theorem laws_toEvent_env : EnvOk Try.prog II laws_toEvent_G := envOk_nil GT_ok
noncomputable def laws_toEvent_L : List (Nat × LoopSem) := []
theorem laws_toEvent_snd : Sound Try.prog II 90 laws_toEvent_sem := sound_pu' (L := laws_toEvent_L) (k := 0) laws_toEvent_env mixed Try.func90 (by kernel_rfl) below_zero (fun x => by kernel_rfl)

@[reducible] noncomputable def laws_toEventS_sem : FnSem := .pu (.p (.sl tEvent) .u) (.p (.sl tEvent) .u) [true] (fun x => laws_toEventS x.1)
noncomputable def laws_toEventS_G : Env := ⟨GT, [(90, laws_toEvent_sem)], [], true, GA, [], []⟩
theorem laws_toEventS_env : EnvOk Try.prog II laws_toEventS_G := EnvOk.cons laws_toEvent_snd (envOk_nil GT_ok)
noncomputable def laws_toEventS_3_ls : LoopSem := ⟨23, ⟨[(0, (.data (.sl tEvent))), (3, (.own 200001 tEvent true)), (4, (.data int))], []⟩, 0, ⟨[(3, (.own 200001 tEvent true))], []⟩, ⟨[], []⟩, laws_toEventS_3_loop⟩
noncomputable def laws_toEventS_L : List (Nat × LoopSem) := [(3, laws_toEventS_3_ls)]
theorem laws_toEventS_3_lok : LoopOk laws_toEventS_G laws_toEventS_L (lp Try.f60 0) := loopOk_of (r := 3) (ls := laws_toEventS_3_ls) (R := fun x => laws_toEventS_3_R x.1.1 x.1.2.1 x.1.2.2.1) (by kernel_rfl) (by kernel_rfl) rfl (fun x => by kernel_rfl)
theorem laws_toEventS_snd : Sound Try.prog II 60 laws_toEventS_sem := sound_pu' (L := laws_toEventS_L) (k := 1) laws_toEventS_env mixed Try.func60 (by kernel_rfl) (below_succ laws_toEventS_3_lok below_zero) (fun x => by kernel_rfl)

@[reducible] noncomputable def laws_toDecider_sem : FnSem := .pu (.p tDecider .u) (.p tDecider .u) [true] (fun x => laws_toDecider x.1)
noncomputable def laws_toDecider_G : Env := ⟨GT, [(58, laws_toEngine_sem), (59, laws_toTiming_sem), (60, laws_toEventS_sem)], [], true, GA, [], []⟩
theorem laws_toDecider_env : EnvOk Try.prog II laws_toDecider_G := EnvOk.cons laws_toEngine_snd (EnvOk.cons laws_toTiming_snd (EnvOk.cons laws_toEventS_snd (envOk_nil GT_ok)))
noncomputable def laws_toDecider_L : List (Nat × LoopSem) := []
theorem laws_toDecider_snd : Sound Try.prog II 32 laws_toDecider_sem := sound_pu' (L := laws_toDecider_L) (k := 0) laws_toDecider_env mixed Try.func32 (by kernel_rfl) below_zero (fun x => by kernel_rfl)

@[reducible] noncomputable def laws_toIntS_sem : FnSem := .pu (.p (.sl int) .u) (.p (.sl int) .u) [true] (fun x => laws_toIntS x.1)
noncomputable def laws_toIntS_G : Env := ⟨GT, [], [], true, GA, [], []⟩
theorem laws_toIntS_env : EnvOk Try.prog II laws_toIntS_G := envOk_nil GT_ok
noncomputable def laws_toIntS_3_ls : LoopSem := ⟨22, ⟨[(0, (.data (.sl int))), (3, (.own 200001 int true)), (4, (.data int))], []⟩, 0, ⟨[(3, (.own 200001 int true))], []⟩, ⟨[], []⟩, laws_toIntS_3_loop⟩
noncomputable def laws_toIntS_L : List (Nat × LoopSem) := [(3, laws_toIntS_3_ls)]
theorem laws_toIntS_3_lok : LoopOk laws_toIntS_G laws_toIntS_L (lp Try.f119 0) := loopOk_of (r := 3) (ls := laws_toIntS_3_ls) (R := fun x => laws_toIntS_3_R x.1.1 x.1.2.1 x.1.2.2.1) (by kernel_rfl) (by kernel_rfl) rfl (fun x => by kernel_rfl)
theorem laws_toIntS_snd : Sound Try.prog II 119 laws_toIntS_sem := sound_pu' (L := laws_toIntS_L) (k := 1) laws_toIntS_env mixed Try.func119 (by kernel_rfl) (below_succ laws_toIntS_3_lok below_zero) (fun x => by kernel_rfl)

@[reducible] noncomputable def laws_toReport_sem : FnSem := .pu (.p tReport .u) (.p tReport .u) [true] (fun x => laws_toReport x.1)
noncomputable def laws_toReport_G : Env := ⟨GT, [(119, laws_toIntS_sem)], [], true, GA, [], []⟩
theorem laws_toReport_env : EnvOk Try.prog II laws_toReport_G := EnvOk.cons laws_toIntS_snd (envOk_nil GT_ok)
noncomputable def laws_toReport_L : List (Nat × LoopSem) := []
theorem laws_toReport_snd : Sound Try.prog II 91 laws_toReport_sem := sound_pu' (L := laws_toReport_L) (k := 0) laws_toReport_env mixed Try.func91 (by kernel_rfl) below_zero (fun x => by kernel_rfl)

@[reducible] noncomputable def laws_toSent_sem : FnSem := .pu (.p tSent .u) (.p tSent .u) [true] (fun x => laws_toSent x.1)
noncomputable def laws_toSent_G : Env := ⟨GT, [(91, laws_toReport_sem)], [], true, GA, [], []⟩
theorem laws_toSent_env : EnvOk Try.prog II laws_toSent_G := EnvOk.cons laws_toReport_snd (envOk_nil GT_ok)
noncomputable def laws_toSent_L : List (Nat × LoopSem) := []
theorem laws_toSent_snd : Sound Try.prog II 61 laws_toSent_sem := sound_pu' (L := laws_toSent_L) (k := 0) laws_toSent_env mixed Try.func61 (by kernel_rfl) below_zero (fun x => by kernel_rfl)

@[reducible] noncomputable def laws_toSentS_sem : FnSem := .pu (.p (.sl tSent) .u) (.p (.sl tSent) .u) [true] (fun x => laws_toSentS x.1)
noncomputable def laws_toSentS_G : Env := ⟨GT, [(61, laws_toSent_sem)], [], true, GA, [], []⟩
theorem laws_toSentS_env : EnvOk Try.prog II laws_toSentS_G := EnvOk.cons laws_toSent_snd (envOk_nil GT_ok)
noncomputable def laws_toSentS_3_ls : LoopSem := ⟨23, ⟨[(0, (.data (.sl tSent))), (3, (.own 200001 tSent true)), (4, (.data int))], []⟩, 0, ⟨[(3, (.own 200001 tSent true))], []⟩, ⟨[], []⟩, laws_toSentS_3_loop⟩
noncomputable def laws_toSentS_L : List (Nat × LoopSem) := [(3, laws_toSentS_3_ls)]
theorem laws_toSentS_3_lok : LoopOk laws_toSentS_G laws_toSentS_L (lp Try.f33 0) := loopOk_of (r := 3) (ls := laws_toSentS_3_ls) (R := fun x => laws_toSentS_3_R x.1.1 x.1.2.1 x.1.2.2.1) (by kernel_rfl) (by kernel_rfl) rfl (fun x => by kernel_rfl)
theorem laws_toSentS_snd : Sound Try.prog II 33 laws_toSentS_sem := sound_pu' (L := laws_toSentS_L) (k := 1) laws_toSentS_env mixed Try.func33 (by kernel_rfl) (below_succ laws_toSentS_3_lok below_zero) (fun x => by kernel_rfl)

@[reducible] noncomputable def laws_toSession_sem : FnSem := .pu (.p tSession .u) (.p tSession .u) [true] (fun x => laws_toSession x.1)
noncomputable def laws_toSession_G : Env := ⟨GT, [(32, laws_toDecider_sem), (33, laws_toSentS_sem)], [], true, GA, [], []⟩
theorem laws_toSession_env : EnvOk Try.prog II laws_toSession_G := EnvOk.cons laws_toDecider_snd (EnvOk.cons laws_toSentS_snd (envOk_nil GT_ok))
noncomputable def laws_toSession_L : List (Nat × LoopSem) := []
theorem laws_toSession_snd : Sound Try.prog II 16 laws_toSession_sem := sound_pu' (L := laws_toSession_L) (k := 0) laws_toSession_env mixed Try.func16 (by kernel_rfl) below_zero (fun x => by kernel_rfl)

@[reducible] noncomputable def spec_l1In_sem : FnSem := .pu tStep (.p .b .u) [true] (fun x => spec_l1In x.1 x.2.1 x.2.2.1)
noncomputable def spec_l1In_G : Env := ⟨GT, [], [], true, GA, [], []⟩
theorem spec_l1In_env : EnvOk Try.prog II spec_l1In_G := envOk_nil GT_ok
noncomputable def spec_l1In_L : List (Nat × LoopSem) := []
theorem spec_l1In_snd : Sound Try.prog II 29 spec_l1In_sem := sound_pu' (L := spec_l1In_L) (k := 0) spec_l1In_env mixed Try.func29 (by kernel_rfl) below_zero (fun x => by kernel_rfl)

@[reducible] noncomputable def spec_IsReport_sem : FnSem := .pu (.p tReport .u) (.p .b .u) [true] (fun x => spec_IsReport x.1)
noncomputable def spec_IsReport_G : Env := ⟨GT, [(29, spec_l1In_sem)], [], true, GA, [], []⟩
theorem spec_IsReport_env : EnvOk Try.prog II spec_IsReport_G := EnvOk.cons spec_l1In_snd (envOk_nil GT_ok)
noncomputable def spec_IsReport_2_ls : LoopSem := ⟨39, ⟨[(1, (.ptr 1 [])), (3, (.data int))], [(1, tReport, (.data tReport))]⟩, 0, ⟨[(1, (.ptr 1 []))], [(1, tReport, (.data tReport))]⟩, ⟨[(2, (.data .b))], []⟩, spec_IsReport_2_loop⟩
noncomputable def spec_IsReport_L : List (Nat × LoopSem) := [(2, spec_IsReport_2_ls)]
theorem spec_IsReport_2_lok : LoopOk spec_IsReport_G spec_IsReport_L (lp Try.f30 0) := loopOk_of (r := 2) (ls := spec_IsReport_2_ls) (R := fun x => spec_IsReport_2_R x.1.1 x.1.2.1 x.2.1) (by kernel_rfl) (by kernel_rfl) rfl (fun x => by kernel_rfl)
theorem spec_IsReport_snd : Sound Try.prog II 30 spec_IsReport_sem := sound_pu' (L := spec_IsReport_L) (k := 1) spec_IsReport_env mixed Try.func30 (by kernel_rfl) (below_succ spec_IsReport_2_lok below_zero) (fun x => by kernel_rfl)

@[reducible] noncomputable def spec_IsAction_sem : FnSem := .pu (.p tAction .u) (.p .b .u) [true] (fun x => spec_IsAction x.1)
noncomputable def spec_IsAction_G : Env := ⟨GT, [(29, spec_l1In_sem)], [], true, GA, [], []⟩
theorem spec_IsAction_env : EnvOk Try.prog II spec_IsAction_G := EnvOk.cons spec_l1In_snd (envOk_nil GT_ok)
noncomputable def spec_IsAction_L : List (Nat × LoopSem) := []
theorem spec_IsAction_snd : Sound Try.prog II 111 spec_IsAction_sem := sound_pu' (L := spec_IsAction_L) (k := 0) spec_IsAction_env mixed Try.func111 (by kernel_rfl) below_zero (fun x => by kernel_rfl)

@[reducible] noncomputable def spec_IsKeymap_sem : FnSem := .pu (.p tKeymap .u) (.p .b .u) [true] (fun x => spec_IsKeymap x.1)
noncomputable def spec_IsKeymap_G : Env := ⟨GT, [(111, spec_IsAction_sem), (29, spec_l1In_sem)], [], true, GA, [], []⟩
theorem spec_IsKeymap_env : EnvOk Try.prog II spec_IsKeymap_G := EnvOk.cons spec_IsAction_snd (EnvOk.cons spec_l1In_snd (envOk_nil GT_ok))
noncomputable def spec_IsKeymap_7_ls : LoopSem := ⟨74, ⟨[(1, (.ptr 1 [])), (3, (.data int)), (4, (.data int))], [(1, tKeymap, (.data tKeymap))]⟩, 2, ⟨[(1, (.ptr 1 [])), (3, (.data int))], [(1, tKeymap, (.data tKeymap))]⟩, ⟨[(2, (.data .b))], []⟩, spec_IsKeymap_7_loop⟩
noncomputable def spec_IsKeymap_2_ls : LoopSem := ⟨74, ⟨[(1, (.ptr 1 [])), (3, (.data int))], [(1, tKeymap, (.data tKeymap))]⟩, 0, ⟨[(1, (.ptr 1 []))], [(1, tKeymap, (.data tKeymap))]⟩, ⟨[(2, (.data .b))], []⟩, spec_IsKeymap_2_loop⟩
noncomputable def spec_IsKeymap_L : List (Nat × LoopSem) := [(7, spec_IsKeymap_7_ls), (2, spec_IsKeymap_2_ls)]
theorem spec_IsKeymap_7_lok : LoopOk spec_IsKeymap_G spec_IsKeymap_L (lp Try.f82 1) := loopOk_of (r := 7) (ls := spec_IsKeymap_7_ls) (R := fun x => spec_IsKeymap_7_R x.1.1 x.1.2.1 x.1.2.2.1 x.2.1) (by kernel_rfl) (by kernel_rfl) rfl (fun x => by kernel_rfl)
theorem spec_IsKeymap_2_lok : LoopOk spec_IsKeymap_G spec_IsKeymap_L (lp Try.f82 0) := loopOk_of (r := 2) (ls := spec_IsKeymap_2_ls) (R := fun x => spec_IsKeymap_2_R x.1.1 x.1.2.1 x.2.1) (by kernel_rfl) (by kernel_rfl) rfl (fun x => by kernel_rfl)
theorem spec_IsKeymap_snd : Sound Try.prog II 82 spec_IsKeymap_sem := sound_pu' (L := spec_IsKeymap_L) (k := 2) spec_IsKeymap_env mixed Try.func82 (by kernel_rfl) (below_succ spec_IsKeymap_7_lok (below_succ spec_IsKeymap_2_lok below_zero)) (fun x => by kernel_rfl)

@[reducible] noncomputable def spec_IsTapHold_sem : FnSem := .pu (.p tAction .u) (.p .b .u) [true] (fun x => spec_IsTapHold x.1)
noncomputable def spec_IsTapHold_G : Env := ⟨GT, [(111, spec_IsAction_sem)], [], true, GA, [], []⟩
theorem spec_IsTapHold_env : EnvOk Try.prog II spec_IsTapHold_G := EnvOk.cons spec_IsAction_snd (envOk_nil GT_ok)
noncomputable def spec_IsTapHold_L : List (Nat × LoopSem) := []
theorem spec_IsTapHold_snd : Sound Try.prog II 112 spec_IsTapHold_sem := sound_pu' (L := spec_IsTapHold_L) (k := 0) spec_IsTapHold_env mixed Try.func112 (by kernel_rfl) below_zero (fun x => by kernel_rfl)

@[reducible] noncomputable def spec_IsHeld_sem : FnSem := .pu (.p (.sl tHeld) .u) (.p .b .u) [true] (fun x => spec_IsHeld x.1)
noncomputable def spec_IsHeld_G : Env := ⟨GT, [(29, spec_l1In_sem), (111, spec_IsAction_sem), (112, spec_IsTapHold_sem)], [], true, GA, [], []⟩
theorem spec_IsHeld_env : EnvOk Try.prog II spec_IsHeld_G := EnvOk.cons spec_l1In_snd (EnvOk.cons spec_IsAction_snd (EnvOk.cons spec_IsTapHold_snd (envOk_nil GT_ok)))
noncomputable def spec_IsHeld_3_ls : LoopSem := ⟨57, ⟨[(0, (.data (.sl tHeld))), (3, (.data int)), (4, (.data int))], []⟩, 0, ⟨[], []⟩, ⟨[(2, (.data .b))], []⟩, spec_IsHeld_3_loop⟩
noncomputable def spec_IsHeld_L : List (Nat × LoopSem) := [(3, spec_IsHeld_3_ls)]
theorem spec_IsHeld_3_lok : LoopOk spec_IsHeld_G spec_IsHeld_L (lp Try.f83 0) := loopOk_of (r := 3) (ls := spec_IsHeld_3_ls) (R := fun x => spec_IsHeld_3_R x.1.1 x.1.2.1 x.1.2.2.1) (by kernel_rfl) (by kernel_rfl) rfl (fun x => by kernel_rfl)
theorem spec_IsHeld_snd : Sound Try.prog II 83 spec_IsHeld_sem := sound_pu' (L := spec_IsHeld_L) (k := 1) spec_IsHeld_env mixed Try.func83 (by kernel_rfl) (below_succ spec_IsHeld_3_lok below_zero) (fun x => by kernel_rfl)

@[reducible] noncomputable def spec_l8Find_sem : FnSem := .pu (.p (.sl tHeld) (.p tStep .u)) (.p int .u) [true] (fun x => spec_l8Find x.1 x.2.1)
noncomputable def spec_l8Find_G : Env := ⟨GT, [], [], true, GA, [], []⟩
theorem spec_l8Find_env : EnvOk Try.prog II spec_l8Find_G := envOk_nil GT_ok
noncomputable def spec_l8Find_2_ls : LoopSem := ⟨33, ⟨[(0, (.data (.sl tHeld))), (3, (.ptr 3 [])), (5, (.data int))], [(3, tStep, (.data tStep))]⟩, 0, ⟨[], []⟩, ⟨[(4, (.data int))], []⟩, spec_l8Find_2_loop⟩
noncomputable def spec_l8Find_L : List (Nat × LoopSem) := [(2, spec_l8Find_2_ls)]
theorem spec_l8Find_2_lok : LoopOk spec_l8Find_G spec_l8Find_L (lp Try.f113 0) := loopOk_of (r := 2) (ls := spec_l8Find_2_ls) (R := fun x => spec_l8Find_2_R x.1.1 x.1.2.1 x.1.2.2.1 x.2.1) (by kernel_rfl) (by kernel_rfl) rfl (fun x => by kernel_rfl)
theorem spec_l8Find_snd : Sound Try.prog II 113 spec_l8Find_sem := sound_pu' (L := spec_l8Find_L) (k := 1) spec_l8Find_env mixed Try.func113 (by kernel_rfl) (below_succ spec_l8Find_2_lok below_zero) (fun x => by kernel_rfl)

@[reducible] noncomputable def spec_l8Action_sem : FnSem := .pu (.p tStep .u) (.p tAction .u) [true] (fun x => spec_l8Action x.1)
noncomputable def spec_l8Action_G : Env := ⟨GT, [], [], true, GA, [], []⟩
theorem spec_l8Action_env : EnvOk Try.prog II spec_l8Action_G := envOk_nil GT_ok
noncomputable def spec_l8Action_L : List (Nat × LoopSem) := []
theorem spec_l8Action_snd : Sound Try.prog II 114 spec_l8Action_sem := sound_pu' (L := spec_l8Action_L) (k := 0) spec_l8Action_env mixed Try.func114 (by kernel_rfl) below_zero (fun x => by kernel_rfl)

@[reducible] noncomputable def spec_l8Without_sem : FnSem := .pu (.p (.sl tHeld) (.p int .u)) (.p (.sl tHeld) .u) [true] (fun x => spec_l8Without x.1 x.2.1)
noncomputable def spec_l8Without_G : Env := ⟨GT, [], [], true, GA, [], []⟩
theorem spec_l8Without_env : EnvOk Try.prog II spec_l8Without_G := envOk_nil GT_ok
noncomputable def spec_l8Without_L : List (Nat × LoopSem) := []
theorem spec_l8Without_snd : Sound Try.prog II 115 spec_l8Without_sem := sound_pu' (L := spec_l8Without_L) (k := 0) spec_l8Without_env mixed Try.func115 (by kernel_rfl) below_zero (fun x => by kernel_rfl)

@[reducible] noncomputable def spec_IsMacro_sem : FnSem := .pu (.p (.sl tStep) .u) (.p .b .u) [true] (fun x => spec_IsMacro x.1)
noncomputable def spec_IsMacro_G : Env := ⟨GT, [(113, spec_l8Find_sem), (29, spec_l1In_sem), (114, spec_l8Action_sem), (111, spec_IsAction_sem), (115, spec_l8Without_sem)], [], true, GA, [], []⟩
theorem spec_IsMacro_env : EnvOk Try.prog II spec_IsMacro_G := EnvOk.cons spec_l8Find_snd (EnvOk.cons spec_l1In_snd (EnvOk.cons spec_l8Action_snd (EnvOk.cons spec_IsAction_snd (EnvOk.cons spec_l8Without_snd (envOk_nil GT_ok)))))
noncomputable def spec_IsMacro_3_ls : LoopSem := ⟨62, ⟨[(0, (.data (.sl tStep))), (3, (.own 200001 tHeld true)), (4, (.data int))], []⟩, 0, ⟨[(0, (.data (.sl tStep))), (3, (.own 200001 tHeld true))], []⟩, ⟨[(2, (.data .b))], []⟩, spec_IsMacro_3_loop⟩
noncomputable def spec_IsMacro_L : List (Nat × LoopSem) := [(3, spec_IsMacro_3_ls)]
theorem spec_IsMacro_3_lok : LoopOk spec_IsMacro_G spec_IsMacro_L (lp Try.f84 0) := loopOk_of (r := 3) (ls := spec_IsMacro_3_ls) (R := fun x => spec_IsMacro_3_R x.1.1 x.1.2.1 x.1.2.2.1) (by kernel_rfl) (by kernel_rfl) rfl (fun x => by kernel_rfl)
theorem spec_IsMacro_snd : Sound Try.prog II 84 spec_IsMacro_sem := sound_pu' (L := spec_IsMacro_L) (k := 1) spec_IsMacro_env mixed Try.func84 (by kernel_rfl) (below_succ spec_IsMacro_3_lok below_zero) (fun x => by kernel_rfl)

@[reducible] noncomputable def spec_IsEngine_sem : FnSem := .pu (.p tEngine .u) (.p .b .u) [true] (fun x => spec_IsEngine x.1)
noncomputable def spec_IsEngine_G : Env := ⟨GT, [(82, spec_IsKeymap_sem), (83, spec_IsHeld_sem), (84, spec_IsMacro_sem), (29, spec_l1In_sem)], [], true, GA, [], []⟩
theorem spec_IsEngine_env : EnvOk Try.prog II spec_IsEngine_G := EnvOk.cons spec_IsKeymap_snd (EnvOk.cons spec_IsHeld_snd (EnvOk.cons spec_IsMacro_snd (EnvOk.cons spec_l1In_snd (envOk_nil GT_ok))))
noncomputable def spec_IsEngine_4_ls : LoopSem := ⟨96, ⟨[(1, (.ptr 1 [])), (3, (.data int))], [(1, tEngine, (.data tEngine))]⟩, 0, ⟨[(1, (.ptr 1 []))], [(1, tEngine, (.data tEngine))]⟩, ⟨[(2, (.data .b))], []⟩, spec_IsEngine_4_loop⟩
noncomputable def spec_IsEngine_9_ls : LoopSem := ⟨96, ⟨[(1, (.ptr 1 [])), (4, (.data int))], [(1, tEngine, (.data tEngine))]⟩, 2, ⟨[(1, (.ptr 1 []))], [(1, tEngine, (.data tEngine))]⟩, ⟨[(2, (.data .b))], []⟩, spec_IsEngine_9_loop⟩
noncomputable def spec_IsEngine_L : List (Nat × LoopSem) := [(4, spec_IsEngine_4_ls), (9, spec_IsEngine_9_ls)]
theorem spec_IsEngine_4_lok : LoopOk spec_IsEngine_G spec_IsEngine_L (lp Try.f54 0) := loopOk_of (r := 4) (ls := spec_IsEngine_4_ls) (R := fun x => spec_IsEngine_4_R x.1.1 x.1.2.1 x.2.1) (by kernel_rfl) (by kernel_rfl) rfl (fun x => by kernel_rfl)
theorem spec_IsEngine_9_lok : LoopOk spec_IsEngine_G spec_IsEngine_L (lp Try.f54 1) := loopOk_of (r := 9) (ls := spec_IsEngine_9_ls) (R := fun x => spec_IsEngine_9_R x.1.1 x.1.2.1 x.2.1) (by kernel_rfl) (by kernel_rfl) rfl (fun x => by kernel_rfl)
theorem spec_IsEngine_snd : Sound Try.prog II 54 spec_IsEngine_sem := sound_pu' (L := spec_IsEngine_L) (k := 2) spec_IsEngine_env mixed Try.func54 (by kernel_rfl) (below_succ spec_IsEngine_9_lok (below_succ spec_IsEngine_4_lok below_zero)) (fun x => by kernel_rfl)

@[reducible] noncomputable def spec_IsTiming_sem : FnSem := .pu (.p tStep .u) (.p .b .u) [true] (fun x => spec_IsTiming x.1)
noncomputable def spec_IsTiming_G : Env := ⟨GT, [(29, spec_l1In_sem)], [], true, GA, [], []⟩
theorem spec_IsTiming_env : EnvOk Try.prog II spec_IsTiming_G := EnvOk.cons spec_l1In_snd (envOk_nil GT_ok)
noncomputable def spec_IsTiming_L : List (Nat × LoopSem) := []
theorem spec_IsTiming_snd : Sound Try.prog II 55 spec_IsTiming_sem := sound_pu' (L := spec_IsTiming_L) (k := 0) spec_IsTiming_env mixed Try.func55 (by kernel_rfl) below_zero (fun x => by kernel_rfl)

@[reducible] noncomputable def spec_l10Bit_sem : FnSem := .pu (.p int .u) (.p int .u) [true] (fun x => spec_l10Bit x.1)
noncomputable def spec_l10Bit_G : Env := ⟨GT, [(29, spec_l1In_sem)], [], true, GA, [], []⟩
theorem spec_l10Bit_env : EnvOk Try.prog II spec_l10Bit_G := EnvOk.cons spec_l1In_snd (envOk_nil GT_ok)
noncomputable def spec_l10Bit_L : List (Nat × LoopSem) := []
theorem spec_l10Bit_snd : Sound Try.prog II 86 spec_l10Bit_sem := sound_pu' (L := spec_l10Bit_L) (k := 0) spec_l10Bit_env mixed Try.func86 (by kernel_rfl) below_zero (fun x => by kernel_rfl)

@[reducible] noncomputable def spec_l10Held_sem : FnSem := .pu (.p tEngine .u) (.p int .u) [true] (fun x => spec_l10Held x.1)
noncomputable def spec_l10Held_G : Env := ⟨GT, [(86, spec_l10Bit_sem)], [], true, GA, [], []⟩
theorem spec_l10Held_env : EnvOk Try.prog II spec_l10Held_G := EnvOk.cons spec_l10Bit_snd (envOk_nil GT_ok)
noncomputable def spec_l10Held_3_ls : LoopSem := ⟨22, ⟨[(1, (.ptr 1 [])), (3, (.data int)), (4, (.data int))], [(1, tEngine, (.data tEngine))]⟩, 0, ⟨[(3, (.data int))], []⟩, ⟨[], []⟩, spec_l10Held_3_loop⟩
noncomputable def spec_l10Held_L : List (Nat × LoopSem) := [(3, spec_l10Held_3_ls)]
theorem spec_l10Held_3_lok : LoopOk spec_l10Held_G spec_l10Held_L (lp Try.f57 0) := loopOk_of (r := 3) (ls := spec_l10Held_3_ls) (R := fun x => spec_l10Held_3_R x.1.1 x.1.2.1 x.1.2.2.1 x.2.1) (by kernel_rfl) (by kernel_rfl) rfl (fun x => by kernel_rfl)
theorem spec_l10Held_snd : Sound Try.prog II 57 spec_l10Held_sem := sound_pu' (L := spec_l10Held_L) (k := 1) spec_l10Held_env mixed Try.func57 (by kernel_rfl) (below_succ spec_l10Held_3_lok below_zero) (fun x => by kernel_rfl)

@[reducible] noncomputable def spec_IsEvent_sem : FnSem := .pu (.p tEvent .u) (.p .b .u) [true] (fun x => spec_IsEvent x.1)
noncomputable def spec_IsEvent_G : Env := ⟨GT, [(29, spec_l1In_sem)], [], true, GA, [], []⟩
theorem spec_IsEvent_env : EnvOk Try.prog II spec_IsEvent_G := EnvOk.cons spec_l1In_snd (envOk_nil GT_ok)
noncomputable def spec_IsEvent_L : List (Nat × LoopSem) := []
theorem spec_IsEvent_snd : Sound Try.prog II 85 spec_IsEvent_sem := sound_pu' (L := spec_IsEvent_L) (k := 0) spec_IsEvent_env mixed Try.func85 (by kernel_rfl) below_zero (fun x => by kernel_rfl)

@[reducible] noncomputable def spec_l10Follows_sem : FnSem := .pu (.p (.sl tEvent) tStep) (.p .b .u) [true] (fun x => spec_l10Follows x.1 x.2.1 x.2.2.1 x.2.2.2.1)
noncomputable def spec_l10Follows_G : Env := ⟨GT, [(85, spec_IsEvent_sem)], [], true, GA, [], []⟩
theorem spec_l10Follows_env : EnvOk Try.prog II spec_l10Follows_G := EnvOk.cons spec_IsEvent_snd (envOk_nil GT_ok)
noncomputable def spec_l10Follows_2_ls : LoopSem := ⟨73, ⟨[(0, (.data (.sl tEvent))), (1, (.data int)), (2, (.data int)), (3, (.data int)), (9, (.data int))], []⟩, 0, ⟨[(0, (.data (.sl tEvent)))], []⟩, ⟨[(8, (.data .b))], []⟩, spec_l10Follows_2_loop⟩
noncomputable def spec_l10Follows_L : List (Nat × LoopSem) := [(2, spec_l10Follows_2_ls)]
theorem spec_l10Follows_2_lok : LoopOk spec_l10Follows_G spec_l10Follows_L (lp Try.f56 0) := loopOk_of (r := 2) (ls := spec_l10Follows_2_ls) (R := fun x => spec_l10Follows_2_R x.1.1 x.1.2.1 x.1.2.2.1 x.1.2.2.2.1 x.1.2.2.2.2.1) (by kernel_rfl) (by kernel_rfl) rfl (fun x => by kernel_rfl)
theorem spec_l10Follows_snd : Sound Try.prog II 56 spec_l10Follows_sem := sound_pu' (L := spec_l10Follows_L) (k := 1) spec_l10Follows_env mixed Try.func56 (by kernel_rfl) (below_succ spec_l10Follows_2_lok below_zero) (fun x => by kernel_rfl)

@[reducible] noncomputable def spec_IsDecider_sem : FnSem := .pu (.p tDecider .u) (.p .b .u) [true] (fun x => spec_IsDecider x.1)
noncomputable def spec_IsDecider_G : Env := ⟨GT, [(54, spec_IsEngine_sem), (55, spec_IsTiming_sem), (29, spec_l1In_sem), (57, spec_l10Held_sem), (56, spec_l10Follows_sem)], [], true, GA, [], []⟩
theorem spec_IsDecider_env : EnvOk Try.prog II spec_IsDecider_G := EnvOk.cons spec_IsEngine_snd (EnvOk.cons spec_IsTiming_snd (EnvOk.cons spec_l1In_snd (EnvOk.cons spec_l10Held_snd (EnvOk.cons spec_l10Follows_snd (envOk_nil GT_ok)))))
noncomputable def spec_IsDecider_L : List (Nat × LoopSem) := []
theorem spec_IsDecider_snd : Sound Try.prog II 31 spec_IsDecider_sem := sound_pu' (L := spec_IsDecider_L) (k := 0) spec_IsDecider_env mixed Try.func31 (by kernel_rfl) below_zero (fun x => by kernel_rfl)

@[reducible] noncomputable def spec_IsSession_sem : FnSem := .pu (.p tSession .u) (.p .b .u) [true] (fun x => spec_IsSession x.1)
noncomputable def spec_IsSession_G : Env := ⟨GT, [(29, spec_l1In_sem), (30, spec_IsReport_sem), (31, spec_IsDecider_sem)], [], true, GA, [], []⟩
theorem spec_IsSession_env : EnvOk Try.prog II spec_IsSession_G := EnvOk.cons spec_l1In_snd (EnvOk.cons spec_IsReport_snd (EnvOk.cons spec_IsDecider_snd (envOk_nil GT_ok)))
noncomputable def spec_IsSession_2_ls : LoopSem := ⟨38, ⟨[(1, (.ptr 1 [])), (3, (.data int))], [(1, tSession, (.data tSession))]⟩, 0, ⟨[(1, (.ptr 1 []))], [(1, tSession, (.data tSession))]⟩, ⟨[(2, (.data .b))], []⟩, spec_IsSession_2_loop⟩
noncomputable def spec_IsSession_L : List (Nat × LoopSem) := [(2, spec_IsSession_2_ls)]
theorem spec_IsSession_2_lok : LoopOk spec_IsSession_G spec_IsSession_L (lp Try.f15 0) := loopOk_of (r := 2) (ls := spec_IsSession_2_ls) (R := fun x => spec_IsSession_2_R x.1.1 x.1.2.1 x.2.1) (by kernel_rfl) (by kernel_rfl) rfl (fun x => by kernel_rfl)
theorem spec_IsSession_snd : Sound Try.prog II 15 spec_IsSession_sem := sound_pu' (L := spec_IsSession_L) (k := 1) spec_IsSession_env mixed Try.func15 (by kernel_rfl) (below_succ spec_IsSession_2_lok below_zero) (fun x => by kernel_rfl)

@[reducible] noncomputable def impl_isCode_sem : FnSem := .pu (.p int .u) (.p .b .u) [true] (fun x => impl_isCode x.1)
noncomputable def impl_isCode_G : Env := ⟨GT, [], [], true, GA, [], []⟩
theorem impl_isCode_env : EnvOk Try.prog II impl_isCode_G := envOk_nil GT_ok
noncomputable def impl_isCode_L : List (Nat × LoopSem) := []
theorem impl_isCode_snd : Sound Try.prog II 66 impl_isCode_sem := sound_pu' (L := impl_isCode_L) (k := 0) impl_isCode_env mixed Try.func66 (by kernel_rfl) below_zero (fun x => by kernel_rfl)

@[reducible] noncomputable def impl_isMods_sem : FnSem := .pu (.p int .u) (.p .b .u) [true] (fun x => impl_isMods x.1)
noncomputable def impl_isMods_G : Env := ⟨GT, [], [], true, GA, [], []⟩
theorem impl_isMods_env : EnvOk Try.prog II impl_isMods_G := envOk_nil GT_ok
noncomputable def impl_isMods_L : List (Nat × LoopSem) := []
theorem impl_isMods_snd : Sound Try.prog II 134 impl_isMods_sem := sound_pu' (L := impl_isMods_L) (k := 0) impl_isMods_env mixed Try.func134 (by kernel_rfl) below_zero (fun x => by kernel_rfl)

@[reducible] noncomputable def impl_isUpper_sem : FnSem := .pu (.p int .u) (.p .b .u) [true] (fun x => impl_isUpper x.1)
noncomputable def impl_isUpper_G : Env := ⟨GT, [], [], true, GA, [], []⟩
theorem impl_isUpper_env : EnvOk Try.prog II impl_isUpper_G := envOk_nil GT_ok
noncomputable def impl_isUpper_L : List (Nat × LoopSem) := []
theorem impl_isUpper_snd : Sound Try.prog II 135 impl_isUpper_sem := sound_pu' (L := impl_isUpper_L) (k := 0) impl_isUpper_env mixed Try.func135 (by kernel_rfl) below_zero (fun x => by kernel_rfl)

@[reducible] noncomputable def impl_IsAction_sem : FnSem := .pu (.p tAction .u) (.p .b .u) [true] (fun x => impl_IsAction x.1)
noncomputable def impl_IsAction_G : Env := ⟨GT, [(66, impl_isCode_sem), (134, impl_isMods_sem), (135, impl_isUpper_sem)], [], true, GA, [], []⟩
theorem impl_IsAction_env : EnvOk Try.prog II impl_IsAction_G := EnvOk.cons impl_isCode_snd (EnvOk.cons impl_isMods_snd (EnvOk.cons impl_isUpper_snd (envOk_nil GT_ok)))
noncomputable def impl_IsAction_L : List (Nat × LoopSem) := []
theorem impl_IsAction_snd : Sound Try.prog II 120 impl_IsAction_sem := sound_pu' (L := impl_IsAction_L) (k := 0) impl_IsAction_env mixed Try.func120 (by kernel_rfl) below_zero (fun x => by kernel_rfl)

@[reducible] noncomputable def impl_IsKeymap_sem : FnSem := .pu (.p tKeymap .u) (.p .b .u) [true] (fun x => impl_IsKeymap x.1)
noncomputable def impl_IsKeymap_G : Env := ⟨GT, [(120, impl_IsAction_sem)], [], true, GA, [], []⟩
theorem impl_IsKeymap_env : EnvOk Try.prog II impl_IsKeymap_G := EnvOk.cons impl_IsAction_snd (envOk_nil GT_ok)
noncomputable def impl_IsKeymap_9_ls : LoopSem := ⟨73, ⟨[(1, (.ptr 1 [])), (3, (.data int)), (28, (.data (.sl (.sl tAction)))), (29, (.data int)), (30, (.data int)), (40, (.data (.sl tAction))), (41, (.data int)), (42, (.data int))], [(1, tKeymap, (.data tKeymap))]⟩, 2, ⟨[(1, (.ptr 1 [])), (28, (.data (.sl (.sl tAction)))), (29, (.data int)), (30, (.data int))], [(1, tKeymap, (.data tKeymap))]⟩, ⟨[(2, (.data .b))], []⟩, impl_IsKeymap_9_loop⟩
noncomputable def impl_IsKeymap_4_ls : LoopSem := ⟨73, ⟨[(1, (.ptr 1 [])), (28, (.data (.sl (.sl tAction)))), (29, (.data int)), (30, (.data int))], [(1, tKeymap, (.data tKeymap))]⟩, 0, ⟨[], []⟩, ⟨[(2, (.data .b))], []⟩, impl_IsKeymap_4_loop⟩
noncomputable def impl_IsKeymap_L : List (Nat × LoopSem) := [(9, impl_IsKeymap_9_ls), (4, impl_IsKeymap_4_ls)]
theorem impl_IsKeymap_9_lok : LoopOk impl_IsKeymap_G impl_IsKeymap_L (lp Try.f92 1) := loopOk_of (r := 9) (ls := impl_IsKeymap_9_ls) (R := fun x => impl_IsKeymap_9_R x.1.1 x.1.2.1 x.1.2.2.1 x.1.2.2.2.1 x.1.2.2.2.2.1 x.1.2.2.2.2.2.1 x.1.2.2.2.2.2.2.1 x.1.2.2.2.2.2.2.2.1 x.2.1) (by kernel_rfl) (by kernel_rfl) rfl (fun x => by kernel_rfl)
theorem impl_IsKeymap_4_lok : LoopOk impl_IsKeymap_G impl_IsKeymap_L (lp Try.f92 0) := loopOk_of (r := 4) (ls := impl_IsKeymap_4_ls) (R := fun x => impl_IsKeymap_4_R x.1.1 x.1.2.1 x.1.2.2.1 x.1.2.2.2.1 x.2.1) (by kernel_rfl) (by kernel_rfl) rfl (fun x => by kernel_rfl)
theorem impl_IsKeymap_snd : Sound Try.prog II 92 impl_IsKeymap_sem := sound_pu' (L := impl_IsKeymap_L) (k := 2) impl_IsKeymap_env mixed Try.func92 (by kernel_rfl) (below_succ impl_IsKeymap_9_lok (below_succ impl_IsKeymap_4_lok below_zero)) (fun x => by kernel_rfl)

@[reducible] noncomputable def impl_bit_sem : FnSem := .pu tCombo (.p int .u) [true] (fun x => impl_bit x.1 x.2.1)
noncomputable def impl_bit_G : Env := ⟨GT, [], [], true, GA, [], []⟩
theorem impl_bit_env : EnvOk Try.prog II impl_bit_G := envOk_nil GT_ok
noncomputable def impl_bit_L : List (Nat × LoopSem) := []
theorem impl_bit_snd : Sound Try.prog II 121 impl_bit_sem := sound_pu' (L := impl_bit_L) (k := 0) impl_bit_env mixed Try.func121 (by kernel_rfl) below_zero (fun x => by kernel_rfl)

@[reducible] noncomputable def impl_IsHeld_sem : FnSem := .pu (.p (.sl tHeld) .u) (.p .b .u) [true] (fun x => impl_IsHeld x.1)
noncomputable def impl_IsHeld_G : Env := ⟨GT, [(121, impl_bit_sem), (120, impl_IsAction_sem)], [], true, GA, [], []⟩
theorem impl_IsHeld_env : EnvOk Try.prog II impl_IsHeld_G := EnvOk.cons impl_bit_snd (EnvOk.cons impl_IsAction_snd (envOk_nil GT_ok))
noncomputable def impl_IsHeld_3_ls : LoopSem := ⟨46, ⟨[(3, (.data int)), (6, (.data (.sl tHeld))), (7, (.data int)), (8, (.data int))], []⟩, 0, ⟨[], []⟩, ⟨[(2, (.data .b))], []⟩, impl_IsHeld_3_loop⟩
noncomputable def impl_IsHeld_L : List (Nat × LoopSem) := [(3, impl_IsHeld_3_ls)]
theorem impl_IsHeld_3_lok : LoopOk impl_IsHeld_G impl_IsHeld_L (lp Try.f93 0) := loopOk_of (r := 3) (ls := impl_IsHeld_3_ls) (R := fun x => impl_IsHeld_3_R x.1.1 x.1.2.1 x.1.2.2.1 x.1.2.2.2.1) (by kernel_rfl) (by kernel_rfl) rfl (fun x => by kernel_rfl)
theorem impl_IsHeld_snd : Sound Try.prog II 93 impl_IsHeld_sem := sound_pu' (L := impl_IsHeld_L) (k := 1) impl_IsHeld_env mixed Try.func93 (by kernel_rfl) (below_succ impl_IsHeld_3_lok below_zero) (fun x => by kernel_rfl)

@[reducible] noncomputable def impl_pairAt_sem : FnSem := .pu (.p (.sl tCombo) (.p tCombo .u)) (.p int .u) [true] (fun x => impl_pairAt x.1 x.2.1)
noncomputable def impl_pairAt_G : Env := ⟨GT, [], [], true, GA, [], []⟩
theorem impl_pairAt_env : EnvOk Try.prog II impl_pairAt_G := envOk_nil GT_ok
noncomputable def impl_pairAt_2_ls : LoopSem := ⟨19, ⟨[(3, (.ptr 3 [])), (7, (.data (.sl tCombo))), (8, (.data int)), (9, (.data int))], [(3, tCombo, (.data tCombo))]⟩, 0, ⟨[], []⟩, ⟨[(4, (.data int))], []⟩, impl_pairAt_2_loop⟩
noncomputable def impl_pairAt_L : List (Nat × LoopSem) := [(2, impl_pairAt_2_ls)]
theorem impl_pairAt_2_lok : LoopOk impl_pairAt_G impl_pairAt_L (lp Try.f122 0) := loopOk_of (r := 2) (ls := impl_pairAt_2_ls) (R := fun x => impl_pairAt_2_R x.1.1 x.1.2.1 x.1.2.2.1 x.1.2.2.2.1 x.2.1) (by kernel_rfl) (by kernel_rfl) rfl (fun x => by kernel_rfl)
theorem impl_pairAt_snd : Sound Try.prog II 122 impl_pairAt_sem := sound_pu' (L := impl_pairAt_L) (k := 1) impl_pairAt_env mixed Try.func122 (by kernel_rfl) (below_succ impl_pairAt_2_lok below_zero) (fun x => by kernel_rfl)

@[reducible] noncomputable def impl_IsMacro_sem : FnSem := .pu (.p (.sl tStep) .u) (.p .b .u) [true] (fun x => impl_IsMacro x.1)
noncomputable def impl_IsMacro_G : Env := ⟨GT, [(122, impl_pairAt_sem), (120, impl_IsAction_sem)], [], true, GA, [], []⟩
theorem impl_IsMacro_env : EnvOk Try.prog II impl_IsMacro_G := EnvOk.cons impl_pairAt_snd (EnvOk.cons impl_IsAction_snd (envOk_nil GT_ok))
noncomputable def impl_IsMacro_5_ls : LoopSem := ⟨62, ⟨[(3, (.own 200001 tCombo true)), (11, (.data (.sl tStep))), (12, (.data int)), (13, (.data int))], []⟩, 0, ⟨[(3, (.own 200001 tCombo true))], []⟩, ⟨[(2, (.data .b))], []⟩, impl_IsMacro_5_loop⟩
noncomputable def impl_IsMacro_L : List (Nat × LoopSem) := [(5, impl_IsMacro_5_ls)]
theorem impl_IsMacro_5_lok : LoopOk impl_IsMacro_G impl_IsMacro_L (lp Try.f94 0) := loopOk_of (r := 5) (ls := impl_IsMacro_5_ls) (R := fun x => impl_IsMacro_5_R x.1.1 x.1.2.1 x.1.2.2.1 x.1.2.2.2.1) (by kernel_rfl) (by kernel_rfl) rfl (fun x => by kernel_rfl)
theorem impl_IsMacro_snd : Sound Try.prog II 94 impl_IsMacro_sem := sound_pu' (L := impl_IsMacro_L) (k := 1) impl_IsMacro_env mixed Try.func94 (by kernel_rfl) (below_succ impl_IsMacro_5_lok below_zero) (fun x => by kernel_rfl)

@[reducible] noncomputable def impl_IsEngine_sem : FnSem := .pu (.p tEngine .u) (.p .b .u) [true] (fun x => impl_IsEngine x.1)
noncomputable def impl_IsEngine_G : Env := ⟨GT, [(92, impl_IsKeymap_sem), (93, impl_IsHeld_sem), (94, impl_IsMacro_sem)], [], true, GA, [], []⟩
theorem impl_IsEngine_env : EnvOk Try.prog II impl_IsEngine_G := EnvOk.cons impl_IsKeymap_snd (EnvOk.cons impl_IsHeld_snd (EnvOk.cons impl_IsMacro_snd (envOk_nil GT_ok)))
noncomputable def impl_IsEngine_4_ls : LoopSem := ⟨92, ⟨[(1, (.ptr 1 [])), (35, (.data (.sl (.sl tStep)))), (36, (.data int)), (37, (.data int))], [(1, tEngine, (.data tEngine))]⟩, 0, ⟨[(1, (.ptr 1 []))], [(1, tEngine, (.data tEngine))]⟩, ⟨[(2, (.data .b))], []⟩, impl_IsEngine_4_loop⟩
noncomputable def impl_IsEngine_11_ls : LoopSem := ⟨92, ⟨[(1, (.ptr 1 [])), (5, (.data int)), (50, (.data (.sl tHeld))), (51, (.data int)), (52, (.data int))], [(1, tEngine, (.data tEngine))]⟩, 2, ⟨[(1, (.ptr 1 [])), (5, (.data int))], [(1, tEngine, (.data tEngine))]⟩, ⟨[(2, (.data .b))], []⟩, impl_IsEngine_11_loop⟩
noncomputable def impl_IsEngine_L : List (Nat × LoopSem) := [(4, impl_IsEngine_4_ls), (11, impl_IsEngine_11_ls)]
theorem impl_IsEngine_4_lok : LoopOk impl_IsEngine_G impl_IsEngine_L (lp Try.f62 0) := loopOk_of (r := 4) (ls := impl_IsEngine_4_ls) (R := fun x => impl_IsEngine_4_R x.1.1 x.1.2.1 x.1.2.2.1 x.1.2.2.2.1 x.2.1) (by kernel_rfl) (by kernel_rfl) rfl (fun x => by kernel_rfl)
theorem impl_IsEngine_11_lok : LoopOk impl_IsEngine_G impl_IsEngine_L (lp Try.f62 1) := loopOk_of (r := 11) (ls := impl_IsEngine_11_ls) (R := fun x => impl_IsEngine_11_R x.1.1 x.1.2.1 x.1.2.2.1 x.1.2.2.2.1 x.1.2.2.2.2.1 x.2.1) (by kernel_rfl) (by kernel_rfl) rfl (fun x => by kernel_rfl)
theorem impl_IsEngine_snd : Sound Try.prog II 62 impl_IsEngine_sem := sound_pu' (L := impl_IsEngine_L) (k := 2) impl_IsEngine_env mixed Try.func62 (by kernel_rfl) (below_succ impl_IsEngine_11_lok (below_succ impl_IsEngine_4_lok below_zero)) (fun x => by kernel_rfl)

@[reducible] noncomputable def impl_IsTiming_sem : FnSem := .pu (.p tStep .u) (.p .b .u) [true] (fun x => impl_IsTiming x.1)
noncomputable def impl_IsTiming_G : Env := ⟨GT, [], [], true, GA, [], []⟩
theorem impl_IsTiming_env : EnvOk Try.prog II impl_IsTiming_G := envOk_nil GT_ok
noncomputable def impl_IsTiming_L : List (Nat × LoopSem) := []
theorem impl_IsTiming_snd : Sound Try.prog II 13 impl_IsTiming_sem := sound_pu' (L := impl_IsTiming_L) (k := 0) impl_IsTiming_env mixed Try.func13 (by kernel_rfl) below_zero (fun x => by kernel_rfl)

@[reducible] noncomputable def impl_heldMask_sem : FnSem := .pu (.p (.sl tHeld) .u) (.p int .u) [true] (fun x => impl_heldMask x.1)
noncomputable def impl_heldMask_G : Env := ⟨GT, [], [], true, GA, [], []⟩
theorem impl_heldMask_env : EnvOk Try.prog II impl_heldMask_G := envOk_nil GT_ok
noncomputable def impl_heldMask_3_ls : LoopSem := ⟨19, ⟨[(3, (.data int)), (6, (.data (.sl tHeld))), (7, (.data int)), (8, (.data int))], []⟩, 0, ⟨[(3, (.data int))], []⟩, ⟨[], []⟩, impl_heldMask_3_loop⟩
noncomputable def impl_heldMask_L : List (Nat × LoopSem) := [(3, impl_heldMask_3_ls)]
theorem impl_heldMask_3_lok : LoopOk impl_heldMask_G impl_heldMask_L (lp Try.f64 0) := loopOk_of (r := 3) (ls := impl_heldMask_3_ls) (R := fun x => impl_heldMask_3_R x.1.1 x.1.2.1 x.1.2.2.1 x.1.2.2.2.1) (by kernel_rfl) (by kernel_rfl) rfl (fun x => by kernel_rfl)
theorem impl_heldMask_snd : Sound Try.prog II 64 impl_heldMask_sem := sound_pu' (L := impl_heldMask_L) (k := 1) impl_heldMask_env mixed Try.func64 (by kernel_rfl) (below_succ impl_heldMask_3_lok below_zero) (fun x => by kernel_rfl)

@[reducible] noncomputable def impl_IsEvent_sem : FnSem := .pu (.p tEvent .u) (.p .b .u) [true] (fun x => impl_IsEvent x.1)
noncomputable def impl_IsEvent_G : Env := ⟨GT, [], [], true, GA, [], []⟩
theorem impl_IsEvent_env : EnvOk Try.prog II impl_IsEvent_G := envOk_nil GT_ok
noncomputable def impl_IsEvent_L : List (Nat × LoopSem) := []
theorem impl_IsEvent_snd : Sound Try.prog II 123 impl_IsEvent_sem := sound_pu' (L := impl_IsEvent_L) (k := 0) impl_IsEvent_env mixed Try.func123 (by kernel_rfl) below_zero (fun x => by kernel_rfl)

@[reducible] noncomputable def impl_follow_sem : FnSem := .pu (.p (.sl tEvent) (.p int .u)) (.p int (.p .b .u)) [true, true] (fun x => impl_follow x.1 x.2.1)
noncomputable def impl_follow_G : Env := ⟨GT, [(123, impl_IsEvent_sem), (121, impl_bit_sem)], [], true, GA, [], []⟩
theorem impl_follow_env : EnvOk Try.prog II impl_follow_G := EnvOk.cons impl_IsEvent_snd (EnvOk.cons impl_bit_snd (envOk_nil GT_ok))
noncomputable def impl_follow_4_ls : LoopSem := ⟨53, ⟨[(0, (.data (.sl tEvent))), (1, (.data int)), (11, (.data (.sl tEvent))), (12, (.data int)), (13, (.data int))], []⟩, 0, ⟨[(1, (.data int))], []⟩, ⟨[(4, (.data int)), (5, (.data .b))], []⟩, impl_follow_4_loop⟩
noncomputable def impl_follow_L : List (Nat × LoopSem) := [(4, impl_follow_4_ls)]
theorem impl_follow_4_lok : LoopOk impl_follow_G impl_follow_L (lp Try.f95 0) := loopOk_of (r := 4) (ls := impl_follow_4_ls) (R := fun x => impl_follow_4_R x.1.1 x.1.2.1 x.1.2.2.1 x.1.2.2.2.1 x.1.2.2.2.2.1) (by kernel_rfl) (by kernel_rfl) rfl (fun x => by kernel_rfl)
theorem impl_follow_snd : Sound Try.prog II 95 impl_follow_sem := sound_pu' (L := impl_follow_L) (k := 1) impl_follow_env mixed Try.func95 (by kernel_rfl) (below_succ impl_follow_4_lok below_zero) (fun x => by kernel_rfl)

@[reducible] noncomputable def impl_queueFits_sem : FnSem := .pu (.p (.sl tEvent) tCombo) (.p .b .u) [true] (fun x => impl_queueFits x.1 x.2.1 x.2.2.1)
noncomputable def impl_queueFits_G : Env := ⟨GT, [(95, impl_follow_sem)], [], true, GA, [], []⟩
theorem impl_queueFits_env : EnvOk Try.prog II impl_queueFits_G := EnvOk.cons impl_follow_snd (envOk_nil GT_ok)
noncomputable def impl_queueFits_2_ls : LoopSem := ⟨29, ⟨[(0, (.data (.sl tEvent))), (1, (.data int)), (2, (.data int)), (11, (.data (.sl tEvent))), (12, (.data int)), (13, (.data int))], []⟩, 0, ⟨[(0, (.data (.sl tEvent))), (1, (.data int))], []⟩, ⟨[(6, (.data .b))], []⟩, impl_queueFits_2_loop⟩
noncomputable def impl_queueFits_L : List (Nat × LoopSem) := [(2, impl_queueFits_2_ls)]
theorem impl_queueFits_2_lok : LoopOk impl_queueFits_G impl_queueFits_L (lp Try.f63 0) := loopOk_of (r := 2) (ls := impl_queueFits_2_ls) (R := fun x => impl_queueFits_2_R x.1.1 x.1.2.1 x.1.2.2.1 x.1.2.2.2.1 x.1.2.2.2.2.1 x.1.2.2.2.2.2.1) (by kernel_rfl) (by kernel_rfl) rfl (fun x => by kernel_rfl)
theorem impl_queueFits_snd : Sound Try.prog II 63 impl_queueFits_sem := sound_pu' (L := impl_queueFits_L) (k := 1) impl_queueFits_env mixed Try.func63 (by kernel_rfl) (below_succ impl_queueFits_2_lok below_zero) (fun x => by kernel_rfl)

@[reducible] noncomputable def impl_notBehind_sem : FnSem := .pu (.p (.sl tEvent) (.p int .u)) (.p .b .u) [true] (fun x => impl_notBehind x.1 x.2.1)
noncomputable def impl_notBehind_G : Env := ⟨GT, [], [], true, GA, [], []⟩
theorem impl_notBehind_env : EnvOk Try.prog II impl_notBehind_G := envOk_nil GT_ok
noncomputable def impl_notBehind_L : List (Nat × LoopSem) := []
theorem impl_notBehind_snd : Sound Try.prog II 65 impl_notBehind_sem := sound_pu' (L := impl_notBehind_L) (k := 0) impl_notBehind_env mixed Try.func65 (by kernel_rfl) below_zero (fun x => by kernel_rfl)

@[reducible] noncomputable def impl_IsDecider_sem : FnSem := .pu (.p tDecider .u) (.p .b .u) [true] (fun x => impl_IsDecider x.1)
noncomputable def impl_IsDecider_G : Env := ⟨GT, [(62, impl_IsEngine_sem), (13, impl_IsTiming_sem), (64, impl_heldMask_sem), (63, impl_queueFits_sem), (65, impl_notBehind_sem)], [], true, GA, [], []⟩
theorem impl_IsDecider_env : EnvOk Try.prog II impl_IsDecider_G := EnvOk.cons impl_IsEngine_snd (EnvOk.cons impl_IsTiming_snd (EnvOk.cons impl_heldMask_snd (EnvOk.cons impl_queueFits_snd (EnvOk.cons impl_notBehind_snd (envOk_nil GT_ok)))))
noncomputable def impl_IsDecider_L : List (Nat × LoopSem) := []
theorem impl_IsDecider_snd : Sound Try.prog II 34 impl_IsDecider_sem := sound_pu' (L := impl_IsDecider_L) (k := 0) impl_IsDecider_env mixed Try.func34 (by kernel_rfl) below_zero (fun x => by kernel_rfl)

@[reducible] noncomputable def impl_IsReport_sem : FnSem := .pu (.p tReport .u) (.p .b .u) [true] (fun x => impl_IsReport x.1)
noncomputable def impl_IsReport_G : Env := ⟨GT, [(66, impl_isCode_sem)], [], true, GA, [], []⟩
theorem impl_IsReport_env : EnvOk Try.prog II impl_IsReport_G := EnvOk.cons impl_isCode_snd (envOk_nil GT_ok)
noncomputable def impl_IsReport_4_ls : LoopSem := ⟨39, ⟨[(1, (.ptr 1 [])), (14, (.data (.sl int))), (15, (.data int)), (16, (.data int))], [(1, tReport, (.data tReport))]⟩, 0, ⟨[], []⟩, ⟨[(2, (.data .b))], []⟩, impl_IsReport_4_loop⟩
noncomputable def impl_IsReport_L : List (Nat × LoopSem) := [(4, impl_IsReport_4_ls)]
theorem impl_IsReport_4_lok : LoopOk impl_IsReport_G impl_IsReport_L (lp Try.f35 0) := loopOk_of (r := 4) (ls := impl_IsReport_4_ls) (R := fun x => impl_IsReport_4_R x.1.1 x.1.2.1 x.1.2.2.1 x.1.2.2.2.1 x.2.1) (by kernel_rfl) (by kernel_rfl) rfl (fun x => by kernel_rfl)
theorem impl_IsReport_snd : Sound Try.prog II 35 impl_IsReport_sem := sound_pu' (L := impl_IsReport_L) (k := 1) impl_IsReport_env mixed Try.func35 (by kernel_rfl) (below_succ impl_IsReport_4_lok below_zero) (fun x => by kernel_rfl)

@[reducible] noncomputable def impl_IsSession_sem : FnSem := .pu (.p tSession .u) (.p .b .u) [true] (fun x => impl_IsSession x.1)
noncomputable def impl_IsSession_G : Env := ⟨GT, [(34, impl_IsDecider_sem), (35, impl_IsReport_sem)], [], true, GA, [], []⟩
theorem impl_IsSession_env : EnvOk Try.prog II impl_IsSession_G := EnvOk.cons impl_IsDecider_snd (EnvOk.cons impl_IsReport_snd (envOk_nil GT_ok))
noncomputable def impl_IsSession_4_ls : LoopSem := ⟨37, ⟨[(16, (.data (.sl tSent))), (17, (.data int)), (18, (.data int))], []⟩, 0, ⟨[], []⟩, ⟨[(2, (.data .b))], []⟩, impl_IsSession_4_loop⟩
noncomputable def impl_IsSession_L : List (Nat × LoopSem) := [(4, impl_IsSession_4_ls)]
theorem impl_IsSession_4_lok : LoopOk impl_IsSession_G impl_IsSession_L (lp Try.f17 0) := loopOk_of (r := 4) (ls := impl_IsSession_4_ls) (R := fun x => impl_IsSession_4_R x.1.1 x.1.2.1 x.1.2.2.1) (by kernel_rfl) (by kernel_rfl) rfl (fun x => by kernel_rfl)
theorem impl_IsSession_snd : Sound Try.prog II 17 impl_IsSession_sem := sound_pu' (L := impl_IsSession_L) (k := 1) impl_IsSession_env mixed Try.func17 (by kernel_rfl) (below_succ impl_IsSession_4_lok below_zero) (fun x => by kernel_rfl)

@[reducible] noncomputable def laws_eqAction_sem : FnSem := .pu (.p tAction (.p tAction .u)) (.p .b .u) [true] (fun x => laws_eqAction x.1 x.2.1)
noncomputable def laws_eqAction_G : Env := ⟨GT, [], [], true, GA, [], []⟩
theorem laws_eqAction_env : EnvOk Try.prog II laws_eqAction_G := envOk_nil GT_ok
noncomputable def laws_eqAction_L : List (Nat × LoopSem) := []
theorem laws_eqAction_snd : Sound Try.prog II 138 laws_eqAction_sem := sound_pu' (L := laws_eqAction_L) (k := 0) laws_eqAction_env mixed Try.func138 (by kernel_rfl) below_zero (fun x => by kernel_rfl)

@[reducible] noncomputable def laws_eqActionS_sem : FnSem := .pu (.p (.sl tAction) (.p (.sl tAction) .u)) (.p .b .u) [true] (fun x => laws_eqActionS x.1 x.2.1)
noncomputable def laws_eqActionS_G : Env := ⟨GT, [(138, laws_eqAction_sem)], [], true, GA, [], []⟩
theorem laws_eqActionS_env : EnvOk Try.prog II laws_eqActionS_G := EnvOk.cons laws_eqAction_snd (envOk_nil GT_ok)
noncomputable def laws_eqActionS_4_ls : LoopSem := ⟨27, ⟨[(0, (.data (.sl tAction))), (1, (.data (.sl tAction))), (5, (.data int))], []⟩, 0, ⟨[], []⟩, ⟨[(4, (.data .b))], []⟩, laws_eqActionS_4_loop⟩
noncomputable def laws_eqActionS_L : List (Nat × LoopSem) := [(4, laws_eqActionS_4_ls)]
theorem laws_eqActionS_4_lok : LoopOk laws_eqActionS_G laws_eqActionS_L (lp Try.f136 0) := loopOk_of (r := 4) (ls := laws_eqActionS_4_ls) (R := fun x => laws_eqActionS_4_R x.1.1 x.1.2.1 x.1.2.2.1) (by kernel_rfl) (by kernel_rfl) rfl (fun x => by kernel_rfl)
theorem laws_eqActionS_snd : Sound Try.prog II 136 laws_eqActionS_sem := sound_pu' (L := laws_eqActionS_L) (k := 1) laws_eqActionS_env mixed Try.func136 (by kernel_rfl) (below_succ laws_eqActionS_4_lok below_zero) (fun x => by kernel_rfl)

@[reducible] noncomputable def laws_eqActionSS_sem : FnSem := .pu (.p (.sl (.sl tAction)) (.p (.sl (.sl tAction)) .u)) (.p .b .u) [true] (fun x => laws_eqActionSS x.1 x.2.1)
noncomputable def laws_eqActionSS_G : Env := ⟨GT, [(136, laws_eqActionS_sem)], [], true, GA, [], []⟩
theorem laws_eqActionSS_env : EnvOk Try.prog II laws_eqActionSS_G := EnvOk.cons laws_eqActionS_snd (envOk_nil GT_ok)
noncomputable def laws_eqActionSS_4_ls : LoopSem := ⟨27, ⟨[(0, (.data (.sl (.sl tAction)))), (1, (.data (.sl (.sl tAction)))), (5, (.data int))], []⟩, 0, ⟨[], []⟩, ⟨[(4, (.data .b))], []⟩, laws_eqActionSS_4_loop⟩
noncomputable def laws_eqActionSS_L : List (Nat × LoopSem) := [(4, laws_eqActionSS_4_ls)]
theorem laws_eqActionSS_4_lok : LoopOk laws_eqActionSS_G laws_eqActionSS_L (lp Try.f124 0) := loopOk_of (r := 4) (ls := laws_eqActionSS_4_ls) (R := fun x => laws_eqActionSS_4_R x.1.1 x.1.2.1 x.1.2.2.1) (by kernel_rfl) (by kernel_rfl) rfl (fun x => by kernel_rfl)
theorem laws_eqActionSS_snd : Sound Try.prog II 124 laws_eqActionSS_sem := sound_pu' (L := laws_eqActionSS_L) (k := 1) laws_eqActionSS_env mixed Try.func124 (by kernel_rfl) (below_succ laws_eqActionSS_4_lok below_zero) (fun x => by kernel_rfl)

@[reducible] noncomputable def laws_eqKeymap_sem : FnSem := .pu (.p tKeymap (.p tKeymap .u)) (.p .b .u) [true] (fun x => laws_eqKeymap x.1 x.2.1)
noncomputable def laws_eqKeymap_G : Env := ⟨GT, [(124, laws_eqActionSS_sem)], [], true, GA, [], []⟩
theorem laws_eqKeymap_env : EnvOk Try.prog II laws_eqKeymap_G := EnvOk.cons laws_eqActionSS_snd (envOk_nil GT_ok)
noncomputable def laws_eqKeymap_L : List (Nat × LoopSem) := []
theorem laws_eqKeymap_snd : Sound Try.prog II 96 laws_eqKeymap_sem := sound_pu' (L := laws_eqKeymap_L) (k := 0) laws_eqKeymap_env mixed Try.func96 (by kernel_rfl) below_zero (fun x => by kernel_rfl)

@[reducible] noncomputable def laws_eqStep_sem : FnSem := .pu (.p tStep (.p tStep .u)) (.p .b .u) [true] (fun x => laws_eqStep x.1 x.2.1)
noncomputable def laws_eqStep_G : Env := ⟨GT, [], [], true, GA, [], []⟩
theorem laws_eqStep_env : EnvOk Try.prog II laws_eqStep_G := envOk_nil GT_ok
noncomputable def laws_eqStep_L : List (Nat × LoopSem) := []
theorem laws_eqStep_snd : Sound Try.prog II 137 laws_eqStep_sem := sound_pu' (L := laws_eqStep_L) (k := 0) laws_eqStep_env mixed Try.func137 (by kernel_rfl) below_zero (fun x => by kernel_rfl)

@[reducible] noncomputable def laws_eqStepS_sem : FnSem := .pu (.p (.sl tStep) (.p (.sl tStep) .u)) (.p .b .u) [true] (fun x => laws_eqStepS x.1 x.2.1)
noncomputable def laws_eqStepS_G : Env := ⟨GT, [(137, laws_eqStep_sem)], [], true, GA, [], []⟩
theorem laws_eqStepS_env : EnvOk Try.prog II laws_eqStepS_G := EnvOk.cons laws_eqStep_snd (envOk_nil GT_ok)
noncomputable def laws_eqStepS_4_ls : LoopSem := ⟨27, ⟨[(0, (.data (.sl tStep))), (1, (.data (.sl tStep))), (5, (.data int))], []⟩, 0, ⟨[], []⟩, ⟨[(4, (.data .b))], []⟩, laws_eqStepS_4_loop⟩
noncomputable def laws_eqStepS_L : List (Nat × LoopSem) := [(4, laws_eqStepS_4_ls)]
theorem laws_eqStepS_4_lok : LoopOk laws_eqStepS_G laws_eqStepS_L (lp Try.f125 0) := loopOk_of (r := 4) (ls := laws_eqStepS_4_ls) (R := fun x => laws_eqStepS_4_R x.1.1 x.1.2.1 x.1.2.2.1) (by kernel_rfl) (by kernel_rfl) rfl (fun x => by kernel_rfl)
theorem laws_eqStepS_snd : Sound Try.prog II 125 laws_eqStepS_sem := sound_pu' (L := laws_eqStepS_L) (k := 1) laws_eqStepS_env mixed Try.func125 (by kernel_rfl) (below_succ laws_eqStepS_4_lok below_zero) (fun x => by kernel_rfl)

@[reducible] noncomputable def laws_eqStepSS_sem : FnSem := .pu (.p (.sl (.sl tStep)) (.p (.sl (.sl tStep)) .u)) (.p .b .u) [true] (fun x => laws_eqStepSS x.1 x.2.1)
noncomputable def laws_eqStepSS_G : Env := ⟨GT, [(125, laws_eqStepS_sem)], [], true, GA, [], []⟩
theorem laws_eqStepSS_env : EnvOk Try.prog II laws_eqStepSS_G := EnvOk.cons laws_eqStepS_snd (envOk_nil GT_ok)
noncomputable def laws_eqStepSS_4_ls : LoopSem := ⟨27, ⟨[(0, (.data (.sl (.sl tStep)))), (1, (.data (.sl (.sl tStep)))), (5, (.data int))], []⟩, 0, ⟨[], []⟩, ⟨[(4, (.data .b))], []⟩, laws_eqStepSS_4_loop⟩
noncomputable def laws_eqStepSS_L : List (Nat × LoopSem) := [(4, laws_eqStepSS_4_ls)]
theorem laws_eqStepSS_4_lok : LoopOk laws_eqStepSS_G laws_eqStepSS_L (lp Try.f97 0) := loopOk_of (r := 4) (ls := laws_eqStepSS_4_ls) (R := fun x => laws_eqStepSS_4_R x.1.1 x.1.2.1 x.1.2.2.1) (by kernel_rfl) (by kernel_rfl) rfl (fun x => by kernel_rfl)
theorem laws_eqStepSS_snd : Sound Try.prog II 97 laws_eqStepSS_sem := sound_pu' (L := laws_eqStepSS_L) (k := 1) laws_eqStepSS_env mixed Try.func97 (by kernel_rfl) (below_succ laws_eqStepSS_4_lok below_zero) (fun x => by kernel_rfl)

@[reducible] noncomputable def laws_eqHeld_sem : FnSem := .pu (.p tHeld (.p tHeld .u)) (.p .b .u) [true] (fun x => laws_eqHeld x.1 x.2.1)
noncomputable def laws_eqHeld_G : Env := ⟨GT, [(138, laws_eqAction_sem)], [], true, GA, [], []⟩
theorem laws_eqHeld_env : EnvOk Try.prog II laws_eqHeld_G := EnvOk.cons laws_eqAction_snd (envOk_nil GT_ok)
noncomputable def laws_eqHeld_L : List (Nat × LoopSem) := []
theorem laws_eqHeld_snd : Sound Try.prog II 126 laws_eqHeld_sem := sound_pu' (L := laws_eqHeld_L) (k := 0) laws_eqHeld_env mixed Try.func126 (by kernel_rfl) below_zero (fun x => by kernel_rfl)

@[reducible] noncomputable def laws_eqHeldS_sem : FnSem := .pu (.p (.sl tHeld) (.p (.sl tHeld) .u)) (.p .b .u) [true] (fun x => laws_eqHeldS x.1 x.2.1)
noncomputable def laws_eqHeldS_G : Env := ⟨GT, [(126, laws_eqHeld_sem)], [], true, GA, [], []⟩
theorem laws_eqHeldS_env : EnvOk Try.prog II laws_eqHeldS_G := EnvOk.cons laws_eqHeld_snd (envOk_nil GT_ok)
noncomputable def laws_eqHeldS_4_ls : LoopSem := ⟨27, ⟨[(0, (.data (.sl tHeld))), (1, (.data (.sl tHeld))), (5, (.data int))], []⟩, 0, ⟨[], []⟩, ⟨[(4, (.data .b))], []⟩, laws_eqHeldS_4_loop⟩
noncomputable def laws_eqHeldS_L : List (Nat × LoopSem) := [(4, laws_eqHeldS_4_ls)]
theorem laws_eqHeldS_4_lok : LoopOk laws_eqHeldS_G laws_eqHeldS_L (lp Try.f98 0) := loopOk_of (r := 4) (ls := laws_eqHeldS_4_ls) (R := fun x => laws_eqHeldS_4_R x.1.1 x.1.2.1 x.1.2.2.1) (by kernel_rfl) (by kernel_rfl) rfl (fun x => by kernel_rfl)
theorem laws_eqHeldS_snd : Sound Try.prog II 98 laws_eqHeldS_sem := sound_pu' (L := laws_eqHeldS_L) (k := 1) laws_eqHeldS_env mixed Try.func98 (by kernel_rfl) (below_succ laws_eqHeldS_4_lok below_zero) (fun x => by kernel_rfl)

@[reducible] noncomputable def laws_eqEngine_sem : FnSem := .pu (.p tEngine (.p tEngine .u)) (.p .b .u) [true] (fun x => laws_eqEngine x.1 x.2.1)
noncomputable def laws_eqEngine_G : Env := ⟨GT, [(96, laws_eqKeymap_sem), (97, laws_eqStepSS_sem), (98, laws_eqHeldS_sem)], [], true, GA, [], []⟩
theorem laws_eqEngine_env : EnvOk Try.prog II laws_eqEngine_G := EnvOk.cons laws_eqKeymap_snd (EnvOk.cons laws_eqStepSS_snd (EnvOk.cons laws_eqHeldS_snd (envOk_nil GT_ok)))
noncomputable def laws_eqEngine_L : List (Nat × LoopSem) := []
theorem laws_eqEngine_snd : Sound Try.prog II 67 laws_eqEngine_sem := sound_pu' (L := laws_eqEngine_L) (k := 0) laws_eqEngine_env mixed Try.func67 (by kernel_rfl) below_zero (fun x => by kernel_rfl)

@[reducible] noncomputable def laws_eqTiming_sem : FnSem := .pu (.p tStep (.p tStep .u)) (.p .b .u) [true] (fun x => laws_eqTiming x.1 x.2.1)
noncomputable def laws_eqTiming_G : Env := ⟨GT, [], [], true, GA, [], []⟩
theorem laws_eqTiming_env : EnvOk Try.prog II laws_eqTiming_G := envOk_nil GT_ok
noncomputable def laws_eqTiming_L : List (Nat × LoopSem) := []
theorem laws_eqTiming_snd : Sound Try.prog II 68 laws_eqTiming_sem := sound_pu' (L := laws_eqTiming_L) (k := 0) laws_eqTiming_env mixed Try.func68 (by kernel_rfl) below_zero (fun x => by kernel_rfl)

@[reducible] noncomputable def laws_eqEvent_sem : FnSem := .pu tBoth (.p .b .u) [true] (fun x => laws_eqEvent x.1 x.2.1)
noncomputable def laws_eqEvent_G : Env := ⟨GT, [], [], true, GA, [], []⟩
theorem laws_eqEvent_env : EnvOk Try.prog II laws_eqEvent_G := envOk_nil GT_ok
noncomputable def laws_eqEvent_L : List (Nat × LoopSem) := []
theorem laws_eqEvent_snd : Sound Try.prog II 99 laws_eqEvent_sem := sound_pu' (L := laws_eqEvent_L) (k := 0) laws_eqEvent_env mixed Try.func99 (by kernel_rfl) below_zero (fun x => by kernel_rfl)

@[reducible] noncomputable def laws_eqEventS_sem : FnSem := .pu (.p (.sl tEvent) (.p (.sl tEvent) .u)) (.p .b .u) [true] (fun x => laws_eqEventS x.1 x.2.1)
noncomputable def laws_eqEventS_G : Env := ⟨GT, [(99, laws_eqEvent_sem)], [], true, GA, [], []⟩
theorem laws_eqEventS_env : EnvOk Try.prog II laws_eqEventS_G := EnvOk.cons laws_eqEvent_snd (envOk_nil GT_ok)
noncomputable def laws_eqEventS_4_ls : LoopSem := ⟨27, ⟨[(0, (.data (.sl tEvent))), (1, (.data (.sl tEvent))), (5, (.data int))], []⟩, 0, ⟨[], []⟩, ⟨[(4, (.data .b))], []⟩, laws_eqEventS_4_loop⟩
noncomputable def laws_eqEventS_L : List (Nat × LoopSem) := [(4, laws_eqEventS_4_ls)]
theorem laws_eqEventS_4_lok : LoopOk laws_eqEventS_G laws_eqEventS_L (lp Try.f69 0) := loopOk_of (r := 4) (ls := laws_eqEventS_4_ls) (R := fun x => laws_eqEventS_4_R x.1.1 x.1.2.1 x.1.2.2.1) (by kernel_rfl) (by kernel_rfl) rfl (fun x => by kernel_rfl)
theorem laws_eqEventS_snd : Sound Try.prog II 69 laws_eqEventS_sem := sound_pu' (L := laws_eqEventS_L) (k := 1) laws_eqEventS_env mixed Try.func69 (by kernel_rfl) (below_succ laws_eqEventS_4_lok below_zero) (fun x => by kernel_rfl)

@[reducible] noncomputable def laws_eqDecider_sem : FnSem := .pu (.p tDecider (.p tDecider .u)) (.p .b .u) [true] (fun x => laws_eqDecider x.1 x.2.1)
noncomputable def laws_eqDecider_G : Env := ⟨GT, [(67, laws_eqEngine_sem), (68, laws_eqTiming_sem), (69, laws_eqEventS_sem)], [], true, GA, [], []⟩
theorem laws_eqDecider_env : EnvOk Try.prog II laws_eqDecider_G := EnvOk.cons laws_eqEngine_snd (EnvOk.cons laws_eqTiming_snd (EnvOk.cons laws_eqEventS_snd (envOk_nil GT_ok)))
noncomputable def laws_eqDecider_L : List (Nat × LoopSem) := []
theorem laws_eqDecider_snd : Sound Try.prog II 36 laws_eqDecider_sem := sound_pu' (L := laws_eqDecider_L) (k := 0) laws_eqDecider_env mixed Try.func36 (by kernel_rfl) below_zero (fun x => by kernel_rfl)

@[reducible] noncomputable def laws_eqIntS_sem : FnSem := .pu (.p (.sl int) (.p (.sl int) .u)) (.p .b .u) [true] (fun x => laws_eqIntS x.1 x.2.1)
noncomputable def laws_eqIntS_G : Env := ⟨GT, [], [], true, GA, [], []⟩
theorem laws_eqIntS_env : EnvOk Try.prog II laws_eqIntS_G := envOk_nil GT_ok
noncomputable def laws_eqIntS_4_ls : LoopSem := ⟨26, ⟨[(0, (.data (.sl int))), (1, (.data (.sl int))), (5, (.data int))], []⟩, 0, ⟨[], []⟩, ⟨[(4, (.data .b))], []⟩, laws_eqIntS_4_loop⟩
noncomputable def laws_eqIntS_L : List (Nat × LoopSem) := [(4, laws_eqIntS_4_ls)]
theorem laws_eqIntS_4_lok : LoopOk laws_eqIntS_G laws_eqIntS_L (lp Try.f127 0) := loopOk_of (r := 4) (ls := laws_eqIntS_4_ls) (R := fun x => laws_eqIntS_4_R x.1.1 x.1.2.1 x.1.2.2.1) (by kernel_rfl) (by kernel_rfl) rfl (fun x => by kernel_rfl)
theorem laws_eqIntS_snd : Sound Try.prog II 127 laws_eqIntS_sem := sound_pu' (L := laws_eqIntS_L) (k := 1) laws_eqIntS_env mixed Try.func127 (by kernel_rfl) (below_succ laws_eqIntS_4_lok below_zero) (fun x => by kernel_rfl)

@[reducible] noncomputable def laws_eqReport_sem : FnSem := .pu (.p tReport (.p tReport .u)) (.p .b .u) [true] (fun x => laws_eqReport x.1 x.2.1)
noncomputable def laws_eqReport_G : Env := ⟨GT, [(127, laws_eqIntS_sem)], [], true, GA, [], []⟩
theorem laws_eqReport_env : EnvOk Try.prog II laws_eqReport_G := EnvOk.cons laws_eqIntS_snd (envOk_nil GT_ok)
noncomputable def laws_eqReport_L : List (Nat × LoopSem) := []
theorem laws_eqReport_snd : Sound Try.prog II 100 laws_eqReport_sem := sound_pu' (L := laws_eqReport_L) (k := 0) laws_eqReport_env mixed Try.func100 (by kernel_rfl) below_zero (fun x => by kernel_rfl)

@[reducible] noncomputable def laws_eqSent_sem : FnSem := .pu (.p tSent (.p tSent .u)) (.p .b .u) [true] (fun x => laws_eqSent x.1 x.2.1)
noncomputable def laws_eqSent_G : Env := ⟨GT, [(100, laws_eqReport_sem)], [], true, GA, [], []⟩
theorem laws_eqSent_env : EnvOk Try.prog II laws_eqSent_G := EnvOk.cons laws_eqReport_snd (envOk_nil GT_ok)
noncomputable def laws_eqSent_L : List (Nat × LoopSem) := []
theorem laws_eqSent_snd : Sound Try.prog II 70 laws_eqSent_sem := sound_pu' (L := laws_eqSent_L) (k := 0) laws_eqSent_env mixed Try.func70 (by kernel_rfl) below_zero (fun x => by kernel_rfl)

@[reducible] noncomputable def laws_eqSentS_sem : FnSem := .pu (.p (.sl tSent) (.p (.sl tSent) .u)) (.p .b .u) [true] (fun x => laws_eqSentS x.1 x.2.1)
noncomputable def laws_eqSentS_G : Env := ⟨GT, [(70, laws_eqSent_sem)], [], true, GA, [], []⟩
theorem laws_eqSentS_env : EnvOk Try.prog II laws_eqSentS_G := EnvOk.cons laws_eqSent_snd (envOk_nil GT_ok)
noncomputable def laws_eqSentS_4_ls : LoopSem := ⟨27, ⟨[(0, (.data (.sl tSent))), (1, (.data (.sl tSent))), (5, (.data int))], []⟩, 0, ⟨[], []⟩, ⟨[(4, (.data .b))], []⟩, laws_eqSentS_4_loop⟩
noncomputable def laws_eqSentS_L : List (Nat × LoopSem) := [(4, laws_eqSentS_4_ls)]
theorem laws_eqSentS_4_lok : LoopOk laws_eqSentS_G laws_eqSentS_L (lp Try.f37 0) := loopOk_of (r := 4) (ls := laws_eqSentS_4_ls) (R := fun x => laws_eqSentS_4_R x.1.1 x.1.2.1 x.1.2.2.1) (by kernel_rfl) (by kernel_rfl) rfl (fun x => by kernel_rfl)
theorem laws_eqSentS_snd : Sound Try.prog II 37 laws_eqSentS_sem := sound_pu' (L := laws_eqSentS_L) (k := 1) laws_eqSentS_env mixed Try.func37 (by kernel_rfl) (below_succ laws_eqSentS_4_lok below_zero) (fun x => by kernel_rfl)

@[reducible] noncomputable def laws_eqSession_sem : FnSem := .pu (.p tSession (.p tSession .u)) (.p .b .u) [true] (fun x => laws_eqSession x.1 x.2.1)
noncomputable def laws_eqSession_G : Env := ⟨GT, [(36, laws_eqDecider_sem), (37, laws_eqSentS_sem)], [], true, GA, [], []⟩
theorem laws_eqSession_env : EnvOk Try.prog II laws_eqSession_G := EnvOk.cons laws_eqDecider_snd (EnvOk.cons laws_eqSentS_snd (envOk_nil GT_ok))
noncomputable def laws_eqSession_L : List (Nat × LoopSem) := []
theorem laws_eqSession_snd : Sound Try.prog II 18 laws_eqSession_sem := sound_pu' (L := laws_eqSession_L) (k := 0) laws_eqSession_env mixed Try.func18 (by kernel_rfl) below_zero (fun x => by kernel_rfl)

@[reducible] noncomputable def laws_FnExactIsSession_sem : FnSem := .pu (.p tSession .u) (.p .b .u) [true] (fun x => laws_FnExactIsSession x.1)
noncomputable def laws_FnExactIsSession_G : Env := ⟨GT, [(14, laws_szSession_sem), (16, laws_toSession_sem), (15, spec_IsSession_sem), (17, impl_IsSession_sem), (18, laws_eqSession_sem)], [], true, GA, [], []⟩
theorem laws_FnExactIsSession_env : EnvOk Try.prog II laws_FnExactIsSession_G := EnvOk.cons laws_szSession_snd (EnvOk.cons laws_toSession_snd (EnvOk.cons spec_IsSession_snd (EnvOk.cons impl_IsSession_snd (EnvOk.cons laws_eqSession_snd (envOk_nil GT_ok)))))
noncomputable def laws_FnExactIsSession_L : List (Nat × LoopSem) := []
theorem laws_FnExactIsSession_snd : Sound Try.prog II 4 laws_FnExactIsSession_sem := sound_pu' (L := laws_FnExactIsSession_L) (k := 0) laws_FnExactIsSession_env mixed Try.func4 (by kernel_rfl) below_zero (fun x => by kernel_rfl)
end KF
