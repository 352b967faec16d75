/- Each Go function computes its plain function (no condition). -/
import Derived.Test.YtjijklfhnlfpjaaGreatFns
import Derived.Test.YtjijklfhnlfpjaaGreatRows
namespace KF
open Go Go.Proofs
def GT : List (Nat × Ty) := [(3, int), (4, .b), (5, byte), (9, .s), (23, tEvent), (24, (.sl int)), (26, tDebouncer), (27, (.sl tCombo)), (28, (.sl tEvent)), (29, (.sl tEvent)), (31, tCombiner), (32, (.sl (.sl tAction))), (34, tKeymap), (35, (.sl (.sl tStep))), (36, (.sl tHeld)), (38, tEngine), (40, tStep), (42, tDecider), (44, tBoard), (47, tEvent), (48, tDebouncer), (49, (.sl tCombo)), (50, (.sl tEvent)), (51, (.sl tEvent)), (53, tCombiner), (54, (.sl (.sl tAction))), (56, tKeymap), (57, (.sl (.sl tStep))), (58, (.sl tHeld)), (60, tEngine), (61, tStep), (63, tDecider), (65, tBoard), (69, (.sl byte)), (76, tReceiver), (78, tHalves), (108, tCombo), (117, tEvent), (153, tEvent), (158, tAction), (160, tHeld), (172, tCombo), (174, tEvent), (176, tEvent), (194, (.sl tStep)), (196, (.i .u64)), (203, (.sl tStep)), (208, tAction), (210, tHeld), (216, (.sl tAction)), (219, tStep), (224, (.i .u32)), (226, (.i .u64)), (227, (.sl tCombo)), (229, tCombo), (232, (.sl tAction)), (235, tStep)]
def GA : List (Nat × Ty × Nat) := []
theorem GT_ok : ((GT.all fun x => tokB Tryz.prog x.2 x.1) && (GA.all fun x => arrB Tryz.prog x.1 x.2.1 x.2.2)) = true := by kernel_rfl
theorem mixed : Tryz.prog.follows .mixedOrders = true := by kernel_rfl
noncomputable abbrev II : Inv := noI

@[reducible] noncomputable def laws_szIntS_sem : FnSem := .pu (.p (.sl int) (.p int .u)) (.p int .u) [true] (fun x => laws_szIntS x.1 x.2.1)
noncomputable def laws_szIntS_G : Env := ⟨GT, [], [], true, GA, [], []⟩
theorem laws_szIntS_env : EnvOk Tryz.prog II laws_szIntS_G := envOk_nil GT_ok
noncomputable def laws_szIntS_L : List (Nat × LoopSem) := []
theorem laws_szIntS_snd : Sound Tryz.prog II 65 laws_szIntS_sem := sound_pu' (L := laws_szIntS_L) (k := 0) laws_szIntS_env mixed Tryz.func65 (by kernel_rfl) below_zero (fun x => by kernel_rfl)

@[reducible] noncomputable def laws_szDebouncer_sem : FnSem := .pu (.p tDebouncer (.p int .u)) (.p int .u) [true] (fun x => laws_szDebouncer x.1 x.2.1)
noncomputable def laws_szDebouncer_G : Env := ⟨GT, [(65, laws_szIntS_sem)], [], true, GA, [], []⟩
theorem laws_szDebouncer_env : EnvOk Tryz.prog II laws_szDebouncer_G := EnvOk.cons laws_szIntS_snd (envOk_nil GT_ok)
noncomputable def laws_szDebouncer_L : List (Nat × LoopSem) := []
theorem laws_szDebouncer_snd : Sound Tryz.prog II 17 laws_szDebouncer_sem := sound_pu' (L := laws_szDebouncer_L) (k := 0) laws_szDebouncer_env mixed Tryz.func17 (by kernel_rfl) below_zero (fun x => by kernel_rfl)

@[reducible] noncomputable def laws_szComboS_sem : FnSem := .pu (.p (.sl tCombo) (.p int .u)) (.p int .u) [true] (fun x => laws_szComboS x.1 x.2.1)
noncomputable def laws_szComboS_G : Env := ⟨GT, [], [], true, GA, [], []⟩
theorem laws_szComboS_env : EnvOk Tryz.prog II laws_szComboS_G := envOk_nil GT_ok
noncomputable def laws_szComboS_L : List (Nat × LoopSem) := []
theorem laws_szComboS_snd : Sound Tryz.prog II 66 laws_szComboS_sem := sound_pu' (L := laws_szComboS_L) (k := 0) laws_szComboS_env mixed Tryz.func66 (by kernel_rfl) below_zero (fun x => by kernel_rfl)

@[reducible] noncomputable def laws_szEventS_sem : FnSem := .pu (.p (.sl tEvent) (.p int .u)) (.p int .u) [true] (fun x => laws_szEventS x.1 x.2.1)
noncomputable def laws_szEventS_G : Env := ⟨GT, [], [], true, GA, [], []⟩
theorem laws_szEventS_env : EnvOk Tryz.prog II laws_szEventS_G := envOk_nil GT_ok
noncomputable def laws_szEventS_L : List (Nat × LoopSem) := []
theorem laws_szEventS_snd : Sound Tryz.prog II 67 laws_szEventS_sem := sound_pu' (L := laws_szEventS_L) (k := 0) laws_szEventS_env mixed Tryz.func67 (by kernel_rfl) below_zero (fun x => by kernel_rfl)

@[reducible] noncomputable def laws_szActiveS_sem : FnSem := .pu (.p (.sl tEvent) (.p int .u)) (.p int .u) [true] (fun x => laws_szActiveS x.1 x.2.1)
noncomputable def laws_szActiveS_G : Env := ⟨GT, [], [], true, GA, [], []⟩
theorem laws_szActiveS_env : EnvOk Tryz.prog II laws_szActiveS_G := envOk_nil GT_ok
noncomputable def laws_szActiveS_L : List (Nat × LoopSem) := []
theorem laws_szActiveS_snd : Sound Tryz.prog II 68 laws_szActiveS_sem := sound_pu' (L := laws_szActiveS_L) (k := 0) laws_szActiveS_env mixed Tryz.func68 (by kernel_rfl) below_zero (fun x => by kernel_rfl)

@[reducible] noncomputable def laws_szCombiner_sem : FnSem := .pu (.p tCombiner (.p int .u)) (.p int .u) [true] (fun x => laws_szCombiner x.1 x.2.1)
noncomputable def laws_szCombiner_G : Env := ⟨GT, [(66, laws_szComboS_sem), (67, laws_szEventS_sem), (68, laws_szActiveS_sem)], [], true, GA, [], []⟩
theorem laws_szCombiner_env : EnvOk Tryz.prog II laws_szCombiner_G := EnvOk.cons laws_szComboS_snd (EnvOk.cons laws_szEventS_snd (EnvOk.cons laws_szActiveS_snd (envOk_nil GT_ok)))
noncomputable def laws_szCombiner_L : List (Nat × LoopSem) := []
theorem laws_szCombiner_snd : Sound Tryz.prog II 18 laws_szCombiner_sem := sound_pu' (L := laws_szCombiner_L) (k := 0) laws_szCombiner_env mixed Tryz.func18 (by kernel_rfl) below_zero (fun x => by kernel_rfl)

@[reducible] noncomputable def laws_szActionS_sem : FnSem := .pu (.p (.sl tAction) (.p int .u)) (.p int .u) [true] (fun x => laws_szActionS x.1 x.2.1)
noncomputable def laws_szActionS_G : Env := ⟨GT, [], [], true, GA, [], []⟩
theorem laws_szActionS_env : EnvOk Tryz.prog II laws_szActionS_G := envOk_nil GT_ok
noncomputable def laws_szActionS_L : List (Nat × LoopSem) := []
theorem laws_szActionS_snd : Sound Tryz.prog II 181 laws_szActionS_sem := sound_pu' (L := laws_szActionS_L) (k := 0) laws_szActionS_env mixed Tryz.func181 (by kernel_rfl) below_zero (fun x => by kernel_rfl)

@[reducible] noncomputable def laws_szActionSS_sem : FnSem := .pu (.p (.sl (.sl tAction)) (.p int .u)) (.p int .u) [true] (fun x => laws_szActionSS x.1 x.2.1)
noncomputable def laws_szActionSS_G : Env := ⟨GT, [(181, laws_szActionS_sem)], [], true, GA, [], []⟩
theorem laws_szActionSS_env : EnvOk Tryz.prog II laws_szActionSS_G := EnvOk.cons laws_szActionS_snd (envOk_nil GT_ok)
noncomputable def laws_szActionSS_5_ls : LoopSem := ⟨27, ⟨[(0, (.data (.sl (.sl tAction)))), (1, (.data int)), (5, (.data int))], []⟩, 0, ⟨[(1, (.data int))], []⟩, ⟨[(4, (.data int))], []⟩, laws_szActionSS_5_loop⟩
noncomputable def laws_szActionSS_L : List (Nat × LoopSem) := [(5, laws_szActionSS_5_ls)]
theorem laws_szActionSS_5_lok : LoopOk laws_szActionSS_G laws_szActionSS_L (lp Tryz.f156 0) := loopOk_of (r := 5) (ls := laws_szActionSS_5_ls) (R := fun x => laws_szActionSS_5_R x.1.1 x.1.2.1 x.1.2.2.1) (by kernel_rfl) (by kernel_rfl) rfl (fun x => by kernel_rfl)
theorem laws_szActionSS_snd : Sound Tryz.prog II 156 laws_szActionSS_sem := sound_pu' (L := laws_szActionSS_L) (k := 1) laws_szActionSS_env mixed Tryz.func156 (by kernel_rfl) (below_succ laws_szActionSS_5_lok below_zero) (fun x => by kernel_rfl)

@[reducible] noncomputable def laws_szKeymap_sem : FnSem := .pu (.p tKeymap (.p int .u)) (.p int .u) [true] (fun x => laws_szKeymap x.1 x.2.1)
noncomputable def laws_szKeymap_G : Env := ⟨GT, [(156, laws_szActionSS_sem)], [], true, GA, [], []⟩
theorem laws_szKeymap_env : EnvOk Tryz.prog II laws_szKeymap_G := EnvOk.cons laws_szActionSS_snd (envOk_nil GT_ok)
noncomputable def laws_szKeymap_L : List (Nat × LoopSem) := []
theorem laws_szKeymap_snd : Sound Tryz.prog II 113 laws_szKeymap_sem := sound_pu' (L := laws_szKeymap_L) (k := 0) laws_szKeymap_env mixed Tryz.func113 (by kernel_rfl) below_zero (fun x => by kernel_rfl)

@[reducible] noncomputable def laws_szStepS_sem : FnSem := .pu (.p (.sl tStep) (.p int .u)) (.p int .u) [true] (fun x => laws_szStepS x.1 x.2.1)
noncomputable def laws_szStepS_G : Env := ⟨GT, [], [], true, GA, [], []⟩
theorem laws_szStepS_env : EnvOk Tryz.prog II laws_szStepS_G := envOk_nil GT_ok
noncomputable def laws_szStepS_L : List (Nat × LoopSem) := []
theorem laws_szStepS_snd : Sound Tryz.prog II 157 laws_szStepS_sem := sound_pu' (L := laws_szStepS_L) (k := 0) laws_szStepS_env mixed Tryz.func157 (by kernel_rfl) below_zero (fun x => by kernel_rfl)

@[reducible] noncomputable def laws_szStepSS_sem : FnSem := .pu (.p (.sl (.sl tStep)) (.p int .u)) (.p int .u) [true] (fun x => laws_szStepSS x.1 x.2.1)
noncomputable def laws_szStepSS_G : Env := ⟨GT, [(157, laws_szStepS_sem)], [], true, GA, [], []⟩
theorem laws_szStepSS_env : EnvOk Tryz.prog II laws_szStepSS_G := EnvOk.cons laws_szStepS_snd (envOk_nil GT_ok)
noncomputable def laws_szStepSS_5_ls : LoopSem := ⟨27, ⟨[(0, (.data (.sl (.sl tStep)))), (1, (.data int)), (5, (.data int))], []⟩, 0, ⟨[(1, (.data int))], []⟩, ⟨[(4, (.data int))], []⟩, laws_szStepSS_5_loop⟩
noncomputable def laws_szStepSS_L : List (Nat × LoopSem) := [(5, laws_szStepSS_5_ls)]
theorem laws_szStepSS_5_lok : LoopOk laws_szStepSS_G laws_szStepSS_L (lp Tryz.f114 0) := loopOk_of (r := 5) (ls := laws_szStepSS_5_ls) (R := fun x => laws_szStepSS_5_R x.1.1 x.1.2.1 x.1.2.2.1) (by kernel_rfl) (by kernel_rfl) rfl (fun x => by kernel_rfl)
theorem laws_szStepSS_snd : Sound Tryz.prog II 114 laws_szStepSS_sem := sound_pu' (L := laws_szStepSS_L) (k := 1) laws_szStepSS_env mixed Tryz.func114 (by kernel_rfl) (below_succ laws_szStepSS_5_lok below_zero) (fun x => by kernel_rfl)

@[reducible] noncomputable def laws_szHeldS_sem : FnSem := .pu (.p (.sl tHeld) (.p int .u)) (.p int .u) [true] (fun x => laws_szHeldS x.1 x.2.1)
noncomputable def laws_szHeldS_G : Env := ⟨GT, [], [], true, GA, [], []⟩
theorem laws_szHeldS_env : EnvOk Tryz.prog II laws_szHeldS_G := envOk_nil GT_ok
noncomputable def laws_szHeldS_L : List (Nat × LoopSem) := []
theorem laws_szHeldS_snd : Sound Tryz.prog II 115 laws_szHeldS_sem := sound_pu' (L := laws_szHeldS_L) (k := 0) laws_szHeldS_env mixed Tryz.func115 (by kernel_rfl) below_zero (fun x => by kernel_rfl)

@[reducible] noncomputable def laws_szEngine_sem : FnSem := .pu (.p tEngine (.p int .u)) (.p int .u) [true] (fun x => laws_szEngine x.1 x.2.1)
noncomputable def laws_szEngine_G : Env := ⟨GT, [(113, laws_szKeymap_sem), (114, laws_szStepSS_sem), (115, laws_szHeldS_sem)], [], true, GA, [], []⟩
theorem laws_szEngine_env : EnvOk Tryz.prog II laws_szEngine_G := EnvOk.cons laws_szKeymap_snd (EnvOk.cons laws_szStepSS_snd (EnvOk.cons laws_szHeldS_snd (envOk_nil GT_ok)))
noncomputable def laws_szEngine_L : List (Nat × LoopSem) := []
theorem laws_szEngine_snd : Sound Tryz.prog II 69 laws_szEngine_sem := sound_pu' (L := laws_szEngine_L) (k := 0) laws_szEngine_env mixed Tryz.func69 (by kernel_rfl) below_zero (fun x => by kernel_rfl)

@[reducible] noncomputable def laws_szDecider_sem : FnSem := .pu (.p tDecider (.p int .u)) (.p int .u) [true] (fun x => laws_szDecider x.1 x.2.1)
noncomputable def laws_szDecider_G : Env := ⟨GT, [(69, laws_szEngine_sem), (67, laws_szEventS_sem)], [], true, GA, [], []⟩
theorem laws_szDecider_env : EnvOk Tryz.prog II laws_szDecider_G := EnvOk.cons laws_szEngine_snd (EnvOk.cons laws_szEventS_snd (envOk_nil GT_ok))
noncomputable def laws_szDecider_L : List (Nat × LoopSem) := []
theorem laws_szDecider_snd : Sound Tryz.prog II 19 laws_szDecider_sem := sound_pu' (L := laws_szDecider_L) (k := 0) laws_szDecider_env mixed Tryz.func19 (by kernel_rfl) below_zero (fun x => by kernel_rfl)

@[reducible] noncomputable def laws_szBoard_sem : FnSem := .pu (.p tBoard (.p int .u)) (.p int .u) [true] (fun x => laws_szBoard x.1 x.2.1)
noncomputable def laws_szBoard_G : Env := ⟨GT, [(17, laws_szDebouncer_sem), (18, laws_szCombiner_sem), (19, laws_szDecider_sem)], [], true, GA, [], []⟩
theorem laws_szBoard_env : EnvOk Tryz.prog II laws_szBoard_G := EnvOk.cons laws_szDebouncer_snd (EnvOk.cons laws_szCombiner_snd (EnvOk.cons laws_szDecider_snd (envOk_nil GT_ok)))
noncomputable def laws_szBoard_L : List (Nat × LoopSem) := []
theorem laws_szBoard_snd : Sound Tryz.prog II 7 laws_szBoard_sem := sound_pu' (L := laws_szBoard_L) (k := 0) laws_szBoard_env mixed Tryz.func7 (by kernel_rfl) below_zero (fun x => by kernel_rfl)

@[reducible] noncomputable def laws_toMatrix_sem : FnSem := .pu (.p tEvent .u) (.p tEvent .u) [true] (fun x => laws_toMatrix x.1)
noncomputable def laws_toMatrix_G : Env := ⟨GT, [], [], true, GA, [], []⟩
theorem laws_toMatrix_env : EnvOk Tryz.prog II laws_toMatrix_G := envOk_nil GT_ok
noncomputable def laws_toMatrix_L : List (Nat × LoopSem) := []
theorem laws_toMatrix_snd : Sound Tryz.prog II 21 laws_toMatrix_sem := sound_pu' (L := laws_toMatrix_L) (k := 0) laws_toMatrix_env mixed Tryz.func21 (by kernel_rfl) below_zero (fun x => by kernel_rfl)

@[reducible] noncomputable def laws_toIntS_sem : FnSem := .pu (.p (.sl int) .u) (.p (.sl int) .u) [true] (fun x => laws_toIntS x.1)
noncomputable def laws_toIntS_G : Env := ⟨GT, [], [], true, GA, [], []⟩
theorem laws_toIntS_env : EnvOk Tryz.prog II laws_toIntS_G := envOk_nil GT_ok
noncomputable def laws_toIntS_3_ls : LoopSem := ⟨22, ⟨[(0, (.data (.sl int))), (3, (.own 200001 int true)), (4, (.data int))], []⟩, 0, ⟨[(3, (.own 200001 int true))], []⟩, ⟨[], []⟩, laws_toIntS_3_loop⟩
noncomputable def laws_toIntS_L : List (Nat × LoopSem) := [(3, laws_toIntS_3_ls)]
theorem laws_toIntS_3_lok : LoopOk laws_toIntS_G laws_toIntS_L (lp Tryz.f71 0) := loopOk_of (r := 3) (ls := laws_toIntS_3_ls) (R := fun x => laws_toIntS_3_R x.1.1 x.1.2.1 x.1.2.2.1) (by kernel_rfl) (by kernel_rfl) rfl (fun x => by kernel_rfl)
theorem laws_toIntS_snd : Sound Tryz.prog II 71 laws_toIntS_sem := sound_pu' (L := laws_toIntS_L) (k := 1) laws_toIntS_env mixed Tryz.func71 (by kernel_rfl) (below_succ laws_toIntS_3_lok below_zero) (fun x => by kernel_rfl)

@[reducible] noncomputable def laws_toDebouncer_sem : FnSem := .pu (.p tDebouncer .u) (.p tDebouncer .u) [true] (fun x => laws_toDebouncer x.1)
noncomputable def laws_toDebouncer_G : Env := ⟨GT, [(71, laws_toIntS_sem)], [], true, GA, [], []⟩
theorem laws_toDebouncer_env : EnvOk Tryz.prog II laws_toDebouncer_G := EnvOk.cons laws_toIntS_snd (envOk_nil GT_ok)
noncomputable def laws_toDebouncer_L : List (Nat × LoopSem) := []
theorem laws_toDebouncer_snd : Sound Tryz.prog II 22 laws_toDebouncer_sem := sound_pu' (L := laws_toDebouncer_L) (k := 0) laws_toDebouncer_env mixed Tryz.func22 (by kernel_rfl) below_zero (fun x => by kernel_rfl)

@[reducible] noncomputable def laws_toCombo_sem : FnSem := .pu (.p tCombo .u) (.p tCombo .u) [true] (fun x => laws_toCombo x.1)
noncomputable def laws_toCombo_G : Env := ⟨GT, [], [], true, GA, [], []⟩
theorem laws_toCombo_env : EnvOk Tryz.prog II laws_toCombo_G := envOk_nil GT_ok
noncomputable def laws_toCombo_L : List (Nat × LoopSem) := []
theorem laws_toCombo_snd : Sound Tryz.prog II 118 laws_toCombo_sem := sound_pu' (L := laws_toCombo_L) (k := 0) laws_toCombo_env mixed Tryz.func118 (by kernel_rfl) below_zero (fun x => by kernel_rfl)

@[reducible] noncomputable def laws_toComboS_sem : FnSem := .pu (.p (.sl tCombo) .u) (.p (.sl tCombo) .u) [true] (fun x => laws_toComboS x.1)
noncomputable def laws_toComboS_G : Env := ⟨GT, [(118, laws_toCombo_sem)], [], true, GA, [], []⟩
theorem laws_toComboS_env : EnvOk Tryz.prog II laws_toComboS_G := EnvOk.cons laws_toCombo_snd (envOk_nil GT_ok)
noncomputable def laws_toComboS_3_ls : LoopSem := ⟨23, ⟨[(0, (.data (.sl tCombo))), (3, (.own 200001 tCombo true)), (4, (.data int))], []⟩, 0, ⟨[(3, (.own 200001 tCombo true))], []⟩, ⟨[], []⟩, laws_toComboS_3_loop⟩
noncomputable def laws_toComboS_L : List (Nat × LoopSem) := [(3, laws_toComboS_3_ls)]
theorem laws_toComboS_3_lok : LoopOk laws_toComboS_G laws_toComboS_L (lp Tryz.f72 0) := loopOk_of (r := 3) (ls := laws_toComboS_3_ls) (R := fun x => laws_toComboS_3_R x.1.1 x.1.2.1 x.1.2.2.1) (by kernel_rfl) (by kernel_rfl) rfl (fun x => by kernel_rfl)
theorem laws_toComboS_snd : Sound Tryz.prog II 72 laws_toComboS_sem := sound_pu' (L := laws_toComboS_L) (k := 1) laws_toComboS_env mixed Tryz.func72 (by kernel_rfl) (below_succ laws_toComboS_3_lok below_zero) (fun x => by kernel_rfl)

@[reducible] noncomputable def laws_toEvent_sem : FnSem := .pu (.p tEvent .u) (.p tEvent .u) [true] (fun x => laws_toEvent x.1)
noncomputable def laws_toEvent_G : Env := ⟨GT, [], [], true, GA, [], []⟩
theorem laws_toEvent_env : EnvOk Tryz.prog II laws_toEvent_G := envOk_nil GT_ok
noncomputable def laws_toEvent_L : List (Nat × LoopSem) := []
theorem laws_toEvent_snd : Sound Tryz.prog II 119 laws_toEvent_sem := sound_pu' (L := laws_toEvent_L) (k := 0) laws_toEvent_env mixed Tryz.func119 (by kernel_rfl) below_zero (fun x => by kernel_rfl)

@[reducible] noncomputable def laws_toEventS_sem : FnSem := .pu (.p (.sl tEvent) .u) (.p (.sl tEvent) .u) [true] (fun x => laws_toEventS x.1)
noncomputable def laws_toEventS_G : Env := ⟨GT, [(119, laws_toEvent_sem)], [], true, GA, [], []⟩
theorem laws_toEventS_env : EnvOk Tryz.prog II laws_toEventS_G := EnvOk.cons laws_toEvent_snd (envOk_nil GT_ok)
noncomputable def laws_toEventS_3_ls : LoopSem := ⟨23, ⟨[(0, (.data (.sl tEvent))), (3, (.own 200001 tEvent true)), (4, (.data int))], []⟩, 0, ⟨[(3, (.own 200001 tEvent true))], []⟩, ⟨[], []⟩, laws_toEventS_3_loop⟩
noncomputable def laws_toEventS_L : List (Nat × LoopSem) := [(3, laws_toEventS_3_ls)]
theorem laws_toEventS_3_lok : LoopOk laws_toEventS_G laws_toEventS_L (lp Tryz.f73 0) := loopOk_of (r := 3) (ls := laws_toEventS_3_ls) (R := fun x => laws_toEventS_3_R x.1.1 x.1.2.1 x.1.2.2.1) (by kernel_rfl) (by kernel_rfl) rfl (fun x => by kernel_rfl)
theorem laws_toEventS_snd : Sound Tryz.prog II 73 laws_toEventS_sem := sound_pu' (L := laws_toEventS_L) (k := 1) laws_toEventS_env mixed Tryz.func73 (by kernel_rfl) (below_succ laws_toEventS_3_lok below_zero) (fun x => by kernel_rfl)

@[reducible] noncomputable def laws_toActive_sem : FnSem := .pu (.p tEvent .u) (.p tEvent .u) [true] (fun x => laws_toActive x.1)
noncomputable def laws_toActive_G : Env := ⟨GT, [], [], true, GA, [], []⟩
theorem laws_toActive_env : EnvOk Tryz.prog II laws_toActive_G := envOk_nil GT_ok
noncomputable def laws_toActive_L : List (Nat × LoopSem) := []
theorem laws_toActive_snd : Sound Tryz.prog II 120 laws_toActive_sem := sound_pu' (L := laws_toActive_L) (k := 0) laws_toActive_env mixed Tryz.func120 (by kernel_rfl) below_zero (fun x => by kernel_rfl)

@[reducible] noncomputable def laws_toActiveS_sem : FnSem := .pu (.p (.sl tEvent) .u) (.p (.sl tEvent) .u) [true] (fun x => laws_toActiveS x.1)
noncomputable def laws_toActiveS_G : Env := ⟨GT, [(120, laws_toActive_sem)], [], true, GA, [], []⟩
theorem laws_toActiveS_env : EnvOk Tryz.prog II laws_toActiveS_G := EnvOk.cons laws_toActive_snd (envOk_nil GT_ok)
noncomputable def laws_toActiveS_3_ls : LoopSem := ⟨23, ⟨[(0, (.data (.sl tEvent))), (3, (.own 200001 tEvent true)), (4, (.data int))], []⟩, 0, ⟨[(3, (.own 200001 tEvent true))], []⟩, ⟨[], []⟩, laws_toActiveS_3_loop⟩
noncomputable def laws_toActiveS_L : List (Nat × LoopSem) := [(3, laws_toActiveS_3_ls)]
theorem laws_toActiveS_3_lok : LoopOk laws_toActiveS_G laws_toActiveS_L (lp Tryz.f74 0) := loopOk_of (r := 3) (ls := laws_toActiveS_3_ls) (R := fun x => laws_toActiveS_3_R x.1.1 x.1.2.1 x.1.2.2.1) (by kernel_rfl) (by kernel_rfl) rfl (fun x => by kernel_rfl)
theorem laws_toActiveS_snd : Sound Tryz.prog II 74 laws_toActiveS_sem := sound_pu' (L := laws_toActiveS_L) (k := 1) laws_toActiveS_env mixed Tryz.func74 (by kernel_rfl) (below_succ laws_toActiveS_3_lok below_zero) (fun x => by kernel_rfl)

@[reducible] noncomputable def laws_toCombiner_sem : FnSem := .pu (.p tCombiner .u) (.p tCombiner .u) [true] (fun x => laws_toCombiner x.1)
noncomputable def laws_toCombiner_G : Env := ⟨GT, [(72, laws_toComboS_sem), (73, laws_toEventS_sem), (74, laws_toActiveS_sem)], [], true, GA, [], []⟩
theorem laws_toCombiner_env : EnvOk Tryz.prog II laws_toCombiner_G := EnvOk.cons laws_toComboS_snd (EnvOk.cons laws_toEventS_snd (EnvOk.cons laws_toActiveS_snd (envOk_nil GT_ok)))
noncomputable def laws_toCombiner_L : List (Nat × LoopSem) := []
theorem laws_toCombiner_snd : Sound Tryz.prog II 23 laws_toCombiner_sem := sound_pu' (L := laws_toCombiner_L) (k := 0) laws_toCombiner_env mixed Tryz.func23 (by kernel_rfl) below_zero (fun x => by kernel_rfl)

@[reducible] noncomputable def laws_toAction_sem : FnSem := .pu (.p tAction .u) (.p tAction .u) [true] (fun x => laws_toAction x.1)
noncomputable def laws_toAction_G : Env := ⟨GT, [], [], true, GA, [], []⟩
theorem laws_toAction_env : EnvOk Tryz.prog II laws_toAction_G := envOk_nil GT_ok
noncomputable def laws_toAction_L : List (Nat × LoopSem) := []
theorem laws_toAction_snd : Sound Tryz.prog II 184 laws_toAction_sem := sound_pu' (L := laws_toAction_L) (k := 0) laws_toAction_env mixed Tryz.func184 (by kernel_rfl) below_zero (fun x => by kernel_rfl)

@[reducible] noncomputable def laws_toActionS_sem : FnSem := .pu (.p (.sl tAction) .u) (.p (.sl tAction) .u) [true] (fun x => laws_toActionS x.1)
noncomputable def laws_toActionS_G : Env := ⟨GT, [(184, laws_toAction_sem)], [], true, GA, [], []⟩
theorem laws_toActionS_env : EnvOk Tryz.prog II laws_toActionS_G := EnvOk.cons laws_toAction_snd (envOk_nil GT_ok)
noncomputable def laws_toActionS_3_ls : LoopSem := ⟨23, ⟨[(0, (.data (.sl tAction))), (3, (.own 200001 tAction true)), (4, (.data int))], []⟩, 0, ⟨[(3, (.own 200001 tAction true))], []⟩, ⟨[], []⟩, laws_toActionS_3_loop⟩
noncomputable def laws_toActionS_L : List (Nat × LoopSem) := [(3, laws_toActionS_3_ls)]
theorem laws_toActionS_3_lok : LoopOk laws_toActionS_G laws_toActionS_L (lp Tryz.f182 0) := loopOk_of (r := 3) (ls := laws_toActionS_3_ls) (R := fun x => laws_toActionS_3_R x.1.1 x.1.2.1 x.1.2.2.1) (by kernel_rfl) (by kernel_rfl) rfl (fun x => by kernel_rfl)
theorem laws_toActionS_snd : Sound Tryz.prog II 182 laws_toActionS_sem := sound_pu' (L := laws_toActionS_L) (k := 1) laws_toActionS_env mixed Tryz.func182 (by kernel_rfl) (below_succ laws_toActionS_3_lok below_zero) (fun x => by kernel_rfl)

@[reducible] noncomputable def laws_toActionSS_sem : FnSem := .pu (.p (.sl (.sl tAction)) .u) (.p (.sl (.sl tAction)) .u) [true] (fun x => laws_toActionSS x.1)
noncomputable def laws_toActionSS_G : Env := ⟨GT, [(182, laws_toActionS_sem)], [], true, GA, [], []⟩
theorem laws_toActionSS_env : EnvOk Tryz.prog II laws_toActionSS_G := EnvOk.cons laws_toActionS_snd (envOk_nil GT_ok)
noncomputable def laws_toActionSS_3_ls : LoopSem := ⟨23, ⟨[(0, (.data (.sl (.sl tAction)))), (3, (.own 200001 (.sl tAction) true)), (4, (.data int))], []⟩, 0, ⟨[(3, (.own 200001 (.sl tAction) true))], []⟩, ⟨[], []⟩, laws_toActionSS_3_loop⟩
noncomputable def laws_toActionSS_L : List (Nat × LoopSem) := [(3, laws_toActionSS_3_ls)]
theorem laws_toActionSS_3_lok : LoopOk laws_toActionSS_G laws_toActionSS_L (lp Tryz.f159 0) := loopOk_of (r := 3) (ls := laws_toActionSS_3_ls) (R := fun x => laws_toActionSS_3_R x.1.1 x.1.2.1 x.1.2.2.1) (by kernel_rfl) (by kernel_rfl) rfl (fun x => by kernel_rfl)
theorem laws_toActionSS_snd : Sound Tryz.prog II 159 laws_toActionSS_sem := sound_pu' (L := laws_toActionSS_L) (k := 1) laws_toActionSS_env mixed Tryz.func159 (by kernel_rfl) (below_succ laws_toActionSS_3_lok below_zero) (fun x => by kernel_rfl)

@[reducible] noncomputable def laws_toKeymap_sem : FnSem := .pu (.p tKeymap .u) (.p tKeymap .u) [true] (fun x => laws_toKeymap x.1)
noncomputable def laws_toKeymap_G : Env := ⟨GT, [(159, laws_toActionSS_sem)], [], true, GA, [], []⟩
theorem laws_toKeymap_env : EnvOk Tryz.prog II laws_toKeymap_G := EnvOk.cons laws_toActionSS_snd (envOk_nil GT_ok)
noncomputable def laws_toKeymap_L : List (Nat × LoopSem) := []
theorem laws_toKeymap_snd : Sound Tryz.prog II 121 laws_toKeymap_sem := sound_pu' (L := laws_toKeymap_L) (k := 0) laws_toKeymap_env mixed Tryz.func121 (by kernel_rfl) below_zero (fun x => by kernel_rfl)

@[reducible] noncomputable def laws_toStep_sem : FnSem := .pu (.p tStep .u) (.p tStep .u) [true] (fun x => laws_toStep x.1)
noncomputable def laws_toStep_G : Env := ⟨GT, [], [], true, GA, [], []⟩
theorem laws_toStep_env : EnvOk Tryz.prog II laws_toStep_G := envOk_nil GT_ok
noncomputable def laws_toStep_L : List (Nat × LoopSem) := []
theorem laws_toStep_snd : Sound Tryz.prog II 183 laws_toStep_sem := sound_pu' (L := laws_toStep_L) (k := 0) laws_toStep_env mixed Tryz.func183 (by kernel_rfl) below_zero (fun x => by kernel_rfl)

@[reducible] noncomputable def laws_toStepS_sem : FnSem := .pu (.p (.sl tStep) .u) (.p (.sl tStep) .u) [true] (fun x => laws_toStepS x.1)
noncomputable def laws_toStepS_G : Env := ⟨GT, [(183, laws_toStep_sem)], [], true, GA, [], []⟩
theorem laws_toStepS_env : EnvOk Tryz.prog II laws_toStepS_G := EnvOk.cons laws_toStep_snd (envOk_nil GT_ok)
noncomputable def laws_toStepS_3_ls : LoopSem := ⟨23, ⟨[(0, (.data (.sl tStep))), (3, (.own 200001 tStep true)), (4, (.data int))], []⟩, 0, ⟨[(3, (.own 200001 tStep true))], []⟩, ⟨[], []⟩, laws_toStepS_3_loop⟩
noncomputable def laws_toStepS_L : List (Nat × LoopSem) := [(3, laws_toStepS_3_ls)]
theorem laws_toStepS_3_lok : LoopOk laws_toStepS_G laws_toStepS_L (lp Tryz.f160 0) := loopOk_of (r := 3) (ls := laws_toStepS_3_ls) (R := fun x => laws_toStepS_3_R x.1.1 x.1.2.1 x.1.2.2.1) (by kernel_rfl) (by kernel_rfl) rfl (fun x => by kernel_rfl)
theorem laws_toStepS_snd : Sound Tryz.prog II 160 laws_toStepS_sem := sound_pu' (L := laws_toStepS_L) (k := 1) laws_toStepS_env mixed Tryz.func160 (by kernel_rfl) (below_succ laws_toStepS_3_lok below_zero) (fun x => by kernel_rfl)

@[reducible] noncomputable def laws_toStepSS_sem : FnSem := .pu (.p (.sl (.sl tStep)) .u) (.p (.sl (.sl tStep)) .u) [true] (fun x => laws_toStepSS x.1)
noncomputable def laws_toStepSS_G : Env := ⟨GT, [(160, laws_toStepS_sem)], [], true, GA, [], []⟩
theorem laws_toStepSS_env : EnvOk Tryz.prog II laws_toStepSS_G := EnvOk.cons laws_toStepS_snd (envOk_nil GT_ok)
noncomputable def laws_toStepSS_3_ls : LoopSem := ⟨23, ⟨[(0, (.data (.sl (.sl tStep)))), (3, (.own 200001 (.sl tStep) true)), (4, (.data int))], []⟩, 0, ⟨[(3, (.own 200001 (.sl tStep) true))], []⟩, ⟨[], []⟩, laws_toStepSS_3_loop⟩
noncomputable def laws_toStepSS_L : List (Nat × LoopSem) := [(3, laws_toStepSS_3_ls)]
theorem laws_toStepSS_3_lok : LoopOk laws_toStepSS_G laws_toStepSS_L (lp Tryz.f122 0) := loopOk_of (r := 3) (ls := laws_toStepSS_3_ls) (R := fun x => laws_toStepSS_3_R x.1.1 x.1.2.1 x.1.2.2.1) (by kernel_rfl) (by kernel_rfl) rfl (fun x => by kernel_rfl)
theorem laws_toStepSS_snd : Sound Tryz.prog II 122 laws_toStepSS_sem := sound_pu' (L := laws_toStepSS_L) (k := 1) laws_toStepSS_env mixed Tryz.func122 (by kernel_rfl) (below_succ laws_toStepSS_3_lok below_zero) (fun x => by kernel_rfl)

@[reducible] noncomputable def laws_toHeld_sem : FnSem := .pu (.p tHeld .u) (.p tHeld .u) [true] (fun x => laws_toHeld x.1)
noncomputable def laws_toHeld_G : Env := ⟨GT, [(184, laws_toAction_sem)], [], true, GA, [], []⟩
theorem laws_toHeld_env : EnvOk Tryz.prog II laws_toHeld_G := EnvOk.cons laws_toAction_snd (envOk_nil GT_ok)
noncomputable def laws_toHeld_L : List (Nat × LoopSem) := []
theorem laws_toHeld_snd : Sound Tryz.prog II 161 laws_toHeld_sem := sound_pu' (L := laws_toHeld_L) (k := 0) laws_toHeld_env mixed Tryz.func161 (by kernel_rfl) below_zero (fun x => by kernel_rfl)

@[reducible] noncomputable def laws_toHeldS_sem : FnSem := .pu (.p (.sl tHeld) .u) (.p (.sl tHeld) .u) [true] (fun x => laws_toHeldS x.1)
noncomputable def laws_toHeldS_G : Env := ⟨GT, [(161, laws_toHeld_sem)], [], true, GA, [], []⟩
theorem laws_toHeldS_env : EnvOk Tryz.prog II laws_toHeldS_G := EnvOk.cons laws_toHeld_snd (envOk_nil GT_ok)
noncomputable def laws_toHeldS_3_ls : LoopSem := ⟨23, ⟨[(0, (.data (.sl tHeld))), (3, (.own 200001 tHeld true)), (4, (.data int))], []⟩, 0, ⟨[(3, (.own 200001 tHeld true))], []⟩, ⟨[], []⟩, laws_toHeldS_3_loop⟩
noncomputable def laws_toHeldS_L : List (Nat × LoopSem) := [(3, laws_toHeldS_3_ls)]
theorem laws_toHeldS_3_lok : LoopOk laws_toHeldS_G laws_toHeldS_L (lp Tryz.f123 0) := loopOk_of (r := 3) (ls := laws_toHeldS_3_ls) (R := fun x => laws_toHeldS_3_R x.1.1 x.1.2.1 x.1.2.2.1) (by kernel_rfl) (by kernel_rfl) rfl (fun x => by kernel_rfl)
theorem laws_toHeldS_snd : Sound Tryz.prog II 123 laws_toHeldS_sem := sound_pu' (L := laws_toHeldS_L) (k := 1) laws_toHeldS_env mixed Tryz.func123 (by kernel_rfl) (below_succ laws_toHeldS_3_lok below_zero) (fun x => by kernel_rfl)

@[reducible] noncomputable def laws_toEngine_sem : FnSem := .pu (.p tEngine .u) (.p tEngine .u) [true] (fun x => laws_toEngine x.1)
noncomputable def laws_toEngine_G : Env := ⟨GT, [(121, laws_toKeymap_sem), (122, laws_toStepSS_sem), (123, laws_toHeldS_sem)], [], true, GA, [], []⟩
theorem laws_toEngine_env : EnvOk Tryz.prog II laws_toEngine_G := EnvOk.cons laws_toKeymap_snd (EnvOk.cons laws_toStepSS_snd (EnvOk.cons laws_toHeldS_snd (envOk_nil GT_ok)))
noncomputable def laws_toEngine_L : List (Nat × LoopSem) := []
theorem laws_toEngine_snd : Sound Tryz.prog II 75 laws_toEngine_sem := sound_pu' (L := laws_toEngine_L) (k := 0) laws_toEngine_env mixed Tryz.func75 (by kernel_rfl) below_zero (fun x => by kernel_rfl)

@[reducible] noncomputable def laws_toTiming_sem : FnSem := .pu (.p tStep .u) (.p tStep .u) [true] (fun x => laws_toTiming x.1)
noncomputable def laws_toTiming_G : Env := ⟨GT, [], [], true, GA, [], []⟩
theorem laws_toTiming_env : EnvOk Tryz.prog II laws_toTiming_G := envOk_nil GT_ok
noncomputable def laws_toTiming_L : List (Nat × LoopSem) := []
theorem laws_toTiming_snd : Sound Tryz.prog II 76 laws_toTiming_sem := sound_pu' (L := laws_toTiming_L) (k := 0) laws_toTiming_env mixed Tryz.func76 (by kernel_rfl) below_zero (fun x => by kernel_rfl)

@[reducible] noncomputable def laws_toDecider_sem : FnSem := .pu (.p tDecider .u) (.p tDecider .u) [true] (fun x => laws_toDecider x.1)
noncomputable def laws_toDecider_G : Env := ⟨GT, [(75, laws_toEngine_sem), (76, laws_toTiming_sem), (73, laws_toEventS_sem)], [], true, GA, [], []⟩
theorem laws_toDecider_env : EnvOk Tryz.prog II laws_toDecider_G := EnvOk.cons laws_toEngine_snd (EnvOk.cons laws_toTiming_snd (EnvOk.cons laws_toEventS_snd (envOk_nil GT_ok)))
noncomputable def laws_toDecider_L : List (Nat × LoopSem) := []
theorem laws_toDecider_snd : Sound Tryz.prog II 24 laws_toDecider_sem := sound_pu' (L := laws_toDecider_L) (k := 0) laws_toDecider_env mixed Tryz.func24 (by kernel_rfl) below_zero (fun x => by kernel_rfl)

@[reducible] noncomputable def laws_toBoard_sem : FnSem := .pu (.p tBoard .u) (.p tBoard .u) [true] (fun x => laws_toBoard x.1)
noncomputable def laws_toBoard_G : Env := ⟨GT, [(21, laws_toMatrix_sem), (22, laws_toDebouncer_sem), (23, laws_toCombiner_sem), (24, laws_toDecider_sem)], [], true, GA, [], []⟩
theorem laws_toBoard_env : EnvOk Tryz.prog II laws_toBoard_G := EnvOk.cons laws_toMatrix_snd (EnvOk.cons laws_toDebouncer_snd (EnvOk.cons laws_toCombiner_snd (EnvOk.cons laws_toDecider_snd (envOk_nil GT_ok))))
noncomputable def laws_toBoard_L : List (Nat × LoopSem) := []
theorem laws_toBoard_snd : Sound Tryz.prog II 9 laws_toBoard_sem := sound_pu' (L := laws_toBoard_L) (k := 0) laws_toBoard_env mixed Tryz.func9 (by kernel_rfl) below_zero (fun x => by kernel_rfl)

@[reducible] noncomputable def spec_NewReceiver_sem : FnSem := .pu .u (.p tReceiver .u) [true] (fun x => spec_NewReceiver)
noncomputable def spec_NewReceiver_G : Env := ⟨GT, [], [], true, GA, [], []⟩
theorem spec_NewReceiver_env : EnvOk Tryz.prog II spec_NewReceiver_G := envOk_nil GT_ok
noncomputable def spec_NewReceiver_L : List (Nat × LoopSem) := []
theorem spec_NewReceiver_snd : Sound Tryz.prog II 92 spec_NewReceiver_sem := sound_pu' (L := spec_NewReceiver_L) (k := 0) spec_NewReceiver_env mixed Tryz.func92 (by kernel_rfl) below_zero (fun x => by kernel_rfl)

@[reducible] noncomputable def spec_l1In_sem : FnSem := .pu tStep (.p .b .u) [true] (fun x => spec_l1In x.1 x.2.1 x.2.2.1)
noncomputable def spec_l1In_G : Env := ⟨GT, [], [], true, GA, [], []⟩
theorem spec_l1In_env : EnvOk Tryz.prog II spec_l1In_G := envOk_nil GT_ok
noncomputable def spec_l1In_L : List (Nat × LoopSem) := []
theorem spec_l1In_snd : Sound Tryz.prog II 43 spec_l1In_sem := sound_pu' (L := spec_l1In_L) (k := 0) spec_l1In_env mixed Tryz.func43 (by kernel_rfl) below_zero (fun x => by kernel_rfl)

@[reducible] noncomputable def spec_IsMatrix_sem : FnSem := .pu (.p tEvent .u) (.p .b .u) [true] (fun x => spec_IsMatrix x.1)
noncomputable def spec_IsMatrix_G : Env := ⟨GT, [(43, spec_l1In_sem)], [], true, GA, [], []⟩
theorem spec_IsMatrix_env : EnvOk Tryz.prog II spec_IsMatrix_G := EnvOk.cons spec_l1In_snd (envOk_nil GT_ok)
noncomputable def spec_IsMatrix_L : List (Nat × LoopSem) := []
theorem spec_IsMatrix_snd : Sound Tryz.prog II 97 spec_IsMatrix_sem := sound_pu' (L := spec_IsMatrix_L) (k := 0) spec_IsMatrix_env mixed Tryz.func97 (by kernel_rfl) below_zero (fun x => by kernel_rfl)

@[reducible] noncomputable def spec_KeyCount_sem : FnSem := .pu (.p tEvent .u) (.p int .u) [true] (fun x => spec_KeyCount x.1)
noncomputable def spec_KeyCount_G : Env := ⟨GT, [(97, spec_IsMatrix_sem)], [], true, GA, [], []⟩
theorem spec_KeyCount_env : EnvOk Tryz.prog II spec_KeyCount_G := EnvOk.cons spec_IsMatrix_snd (envOk_nil GT_ok)
noncomputable def spec_KeyCount_L : List (Nat × LoopSem) := []
theorem spec_KeyCount_snd : Sound Tryz.prog II 38 spec_KeyCount_sem := sound_pu' (L := spec_KeyCount_L) (k := 0) spec_KeyCount_env mixed Tryz.func38 (by kernel_rfl) below_zero (fun x => by kernel_rfl)

@[reducible] noncomputable def spec_IsDebouncer_sem : FnSem := .pu (.p tDebouncer .u) (.p .b .u) [true] (fun x => spec_IsDebouncer x.1)
noncomputable def spec_IsDebouncer_G : Env := ⟨GT, [(43, spec_l1In_sem)], [], true, GA, [], []⟩
theorem spec_IsDebouncer_env : EnvOk Tryz.prog II spec_IsDebouncer_G := EnvOk.cons spec_l1In_snd (envOk_nil GT_ok)
noncomputable def spec_IsDebouncer_4_ls : LoopSem := ⟨58, ⟨[(1, (.ptr 1 [])), (3, (.data int))], [(1, tDebouncer, (.data tDebouncer))]⟩, 0, ⟨[(1, (.ptr 1 []))], [(1, tDebouncer, (.data tDebouncer))]⟩, ⟨[(2, (.data .b))], []⟩, spec_IsDebouncer_4_loop⟩
noncomputable def spec_IsDebouncer_L : List (Nat × LoopSem) := [(4, spec_IsDebouncer_4_ls)]
theorem spec_IsDebouncer_4_lok : LoopOk spec_IsDebouncer_G spec_IsDebouncer_L (lp Tryz.f39 0) := loopOk_of (r := 4) (ls := spec_IsDebouncer_4_ls) (R := fun x => spec_IsDebouncer_4_R x.1.1 x.1.2.1 x.2.1) (by kernel_rfl) (by kernel_rfl) rfl (fun x => by kernel_rfl)
theorem spec_IsDebouncer_snd : Sound Tryz.prog II 39 spec_IsDebouncer_sem := sound_pu' (L := spec_IsDebouncer_L) (k := 1) spec_IsDebouncer_env mixed Tryz.func39 (by kernel_rfl) (below_succ spec_IsDebouncer_4_lok below_zero) (fun x => by kernel_rfl)

@[reducible] noncomputable def spec_IsMask_sem : FnSem := .pu (.p tEvent (.p int .u)) (.p .b .u) [true] (fun x => spec_IsMask x.1 x.2.1)
noncomputable def spec_IsMask_G : Env := ⟨GT, [(97, spec_IsMatrix_sem), (38, spec_KeyCount_sem), (43, spec_l1In_sem)], [], true, GA, [], []⟩
theorem spec_IsMask_env : EnvOk Tryz.prog II spec_IsMask_G := EnvOk.cons spec_IsMatrix_snd (EnvOk.cons spec_KeyCount_snd (EnvOk.cons spec_l1In_snd (envOk_nil GT_ok)))
noncomputable def spec_IsMask_L : List (Nat × LoopSem) := []
theorem spec_IsMask_snd : Sound Tryz.prog II 40 spec_IsMask_sem := sound_pu' (L := spec_IsMask_L) (k := 0) spec_IsMask_env mixed Tryz.func40 (by kernel_rfl) below_zero (fun x => by kernel_rfl)

@[reducible] noncomputable def spec_l11Count_sem : FnSem := .pu (.p int .u) (.p int .u) [true] (fun x => spec_l11Count x.1)
noncomputable def spec_l11Count_G : Env := ⟨GT, [], [], true, GA, [], []⟩
theorem spec_l11Count_env : EnvOk Tryz.prog II spec_l11Count_G := envOk_nil GT_ok
noncomputable def spec_l11Count_3_ls : LoopSem := ⟨16, ⟨[(0, (.data int)), (3, (.data int)), (4, (.data int))], []⟩, 0, ⟨[(3, (.data int))], []⟩, ⟨[], []⟩, spec_l11Count_3_loop⟩
noncomputable def spec_l11Count_L : List (Nat × LoopSem) := [(3, spec_l11Count_3_ls)]
theorem spec_l11Count_3_lok : LoopOk spec_l11Count_G spec_l11Count_L (lp Tryz.f143 0) := loopOk_of (r := 3) (ls := spec_l11Count_3_ls) (R := fun x => spec_l11Count_3_R x.1.1 x.1.2.1 x.1.2.2.1) (by kernel_rfl) (by kernel_rfl) rfl (fun x => by kernel_rfl)
theorem spec_l11Count_snd : Sound Tryz.prog II 143 spec_l11Count_sem := sound_pu' (L := spec_l11Count_L) (k := 1) spec_l11Count_env mixed Tryz.func143 (by kernel_rfl) (below_succ spec_l11Count_3_lok below_zero) (fun x => by kernel_rfl)

@[reducible] noncomputable def spec_IsCombos_sem : FnSem := .pu (.p (.sl tCombo) .u) (.p .b .u) [true] (fun x => spec_IsCombos x.1)
noncomputable def spec_IsCombos_G : Env := ⟨GT, [(43, spec_l1In_sem), (143, spec_l11Count_sem)], [], true, GA, [], []⟩
theorem spec_IsCombos_env : EnvOk Tryz.prog II spec_IsCombos_G := EnvOk.cons spec_l1In_snd (EnvOk.cons spec_l11Count_snd (envOk_nil GT_ok))
noncomputable def spec_IsCombos_7_ls : LoopSem := ⟨69, ⟨[(0, (.data (.sl tCombo))), (3, (.data int)), (4, (.data int))], []⟩, 2, ⟨[(0, (.data (.sl tCombo))), (3, (.data int))], []⟩, ⟨[(2, (.data .b))], []⟩, spec_IsCombos_7_loop⟩
noncomputable def spec_IsCombos_2_ls : LoopSem := ⟨69, ⟨[(0, (.data (.sl tCombo))), (3, (.data int))], []⟩, 0, ⟨[(0, (.data (.sl tCombo)))], []⟩, ⟨[(2, (.data .b))], []⟩, spec_IsCombos_2_loop⟩
noncomputable def spec_IsCombos_L : List (Nat × LoopSem) := [(7, spec_IsCombos_7_ls), (2, spec_IsCombos_2_ls)]
theorem spec_IsCombos_7_lok : LoopOk spec_IsCombos_G spec_IsCombos_L (lp Tryz.f98 1) := loopOk_of (r := 7) (ls := spec_IsCombos_7_ls) (R := fun x => spec_IsCombos_7_R x.1.1 x.1.2.1 x.1.2.2.1) (by kernel_rfl) (by kernel_rfl) rfl (fun x => by kernel_rfl)
theorem spec_IsCombos_2_lok : LoopOk spec_IsCombos_G spec_IsCombos_L (lp Tryz.f98 0) := loopOk_of (r := 2) (ls := spec_IsCombos_2_ls) (R := fun x => spec_IsCombos_2_R x.1.1 x.1.2.1) (by kernel_rfl) (by kernel_rfl) rfl (fun x => by kernel_rfl)
theorem spec_IsCombos_snd : Sound Tryz.prog II 98 spec_IsCombos_sem := sound_pu' (L := spec_IsCombos_L) (k := 2) spec_IsCombos_env mixed Tryz.func98 (by kernel_rfl) (below_succ spec_IsCombos_7_lok (below_succ spec_IsCombos_2_lok below_zero)) (fun x => by kernel_rfl)

@[reducible] noncomputable def spec_l11Keys_sem : FnSem := .pu (.p (.sl tCombo) (.p int .u)) (.p int .u) [true] (fun x => spec_l11Keys x.1 x.2.1)
noncomputable def spec_l11Keys_G : Env := ⟨GT, [], [], true, GA, [], []⟩
theorem spec_l11Keys_env : EnvOk Tryz.prog II spec_l11Keys_G := envOk_nil GT_ok
noncomputable def spec_l11Keys_2_ls : LoopSem := ⟨24, ⟨[(0, (.data (.sl tCombo))), (1, (.data int)), (5, (.data int))], []⟩, 0, ⟨[], []⟩, ⟨[(4, (.data int))], []⟩, spec_l11Keys_2_loop⟩
noncomputable def spec_l11Keys_L : List (Nat × LoopSem) := [(2, spec_l11Keys_2_ls)]
theorem spec_l11Keys_2_lok : LoopOk spec_l11Keys_G spec_l11Keys_L (lp Tryz.f144 0) := loopOk_of (r := 2) (ls := spec_l11Keys_2_ls) (R := fun x => spec_l11Keys_2_R x.1.1 x.1.2.1 x.1.2.2.1) (by kernel_rfl) (by kernel_rfl) rfl (fun x => by kernel_rfl)
theorem spec_l11Keys_snd : Sound Tryz.prog II 144 spec_l11Keys_sem := sound_pu' (L := spec_l11Keys_L) (k := 1) spec_l11Keys_env mixed Tryz.func144 (by kernel_rfl) (below_succ spec_l11Keys_2_lok below_zero) (fun x => by kernel_rfl)

@[reducible] noncomputable def spec_l11Active_sem : FnSem := .pu (.p tCombiner .u) (.p .b .u) [true] (fun x => spec_l11Active x.1)
noncomputable def spec_l11Active_G : Env := ⟨GT, [(144, spec_l11Keys_sem), (43, spec_l1In_sem)], [], true, GA, [], []⟩
theorem spec_l11Active_env : EnvOk Tryz.prog II spec_l11Active_G := EnvOk.cons spec_l11Keys_snd (EnvOk.cons spec_l1In_snd (envOk_nil GT_ok))
noncomputable def spec_l11Active_10_ls : LoopSem := ⟨74, ⟨[(1, (.ptr 1 [])), (3, (.data int)), (4, (.data int)), (5, (.ptr 5 [])), (7, (.data int))], [(1, tCombiner, (.data tCombiner)), (5, tEvent, (.data tEvent))]⟩, 2, ⟨[(1, (.ptr 1 [])), (3, (.data int)), (4, (.data int)), (5, (.ptr 5 []))], [(1, tCombiner, (.data tCombiner)), (5, tEvent, (.data tEvent))]⟩, ⟨[(2, (.data .b))], []⟩, spec_l11Active_10_loop⟩
noncomputable def spec_l11Active_3_ls : LoopSem := ⟨74, ⟨[(1, (.ptr 1 [])), (3, (.data int)), (4, (.data int))], [(1, tCombiner, (.data tCombiner))]⟩, 0, ⟨[(1, (.ptr 1 []))], [(1, tCombiner, (.data tCombiner))]⟩, ⟨[(2, (.data .b))], []⟩, spec_l11Active_3_loop⟩
noncomputable def spec_l11Active_L : List (Nat × LoopSem) := [(10, spec_l11Active_10_ls), (3, spec_l11Active_3_ls)]
theorem spec_l11Active_10_lok : LoopOk spec_l11Active_G spec_l11Active_L (lp Tryz.f99 1) := loopOk_of (r := 10) (ls := spec_l11Active_10_ls) (R := fun x => spec_l11Active_10_R x.1.1 x.1.2.1 x.1.2.2.1 x.1.2.2.2.1 x.1.2.2.2.2.1 x.2.1 x.2.2.1) (by kernel_rfl) (by kernel_rfl) rfl (fun x => by kernel_rfl)
theorem spec_l11Active_3_lok : LoopOk spec_l11Active_G spec_l11Active_L (lp Tryz.f99 0) := loopOk_of (r := 3) (ls := spec_l11Active_3_ls) (R := fun x => spec_l11Active_3_R x.1.1 x.1.2.1 x.1.2.2.1 x.2.1) (by kernel_rfl) (by kernel_rfl) rfl (fun x => by kernel_rfl)
theorem spec_l11Active_snd : Sound Tryz.prog II 99 spec_l11Active_sem := sound_pu' (L := spec_l11Active_L) (k := 2) spec_l11Active_env mixed Tryz.func99 (by kernel_rfl) (below_succ spec_l11Active_10_lok (below_succ spec_l11Active_3_lok below_zero)) (fun x => by kernel_rfl)

@[reducible] noncomputable def spec_l11Held_sem : FnSem := .pu (.p tCombiner .u) (.p int .u) [true] (fun x => spec_l11Held x.1)
noncomputable def spec_l11Held_G : Env := ⟨GT, [], [], true, GA, [], []⟩
theorem spec_l11Held_env : EnvOk Tryz.prog II spec_l11Held_G := envOk_nil GT_ok
noncomputable def spec_l11Held_3_ls : LoopSem := ⟨23, ⟨[(1, (.ptr 1 [])), (3, (.data int)), (4, (.data int))], [(1, tCombiner, (.data tCombiner))]⟩, 0, ⟨[(3, (.data int))], []⟩, ⟨[], []⟩, spec_l11Held_3_loop⟩
noncomputable def spec_l11Held_L : List (Nat × LoopSem) := [(3, spec_l11Held_3_ls)]
theorem spec_l11Held_3_lok : LoopOk spec_l11Held_G spec_l11Held_L (lp Tryz.f45 0) := loopOk_of (r := 3) (ls := spec_l11Held_3_ls) (R := fun x => spec_l11Held_3_R x.1.1 x.1.2.1 x.1.2.2.1 x.2.1) (by kernel_rfl) (by kernel_rfl) rfl (fun x => by kernel_rfl)
theorem spec_l11Held_snd : Sound Tryz.prog II 45 spec_l11Held_sem := sound_pu' (L := spec_l11Held_L) (k := 1) spec_l11Held_env mixed Tryz.func45 (by kernel_rfl) (below_succ spec_l11Held_3_lok below_zero) (fun x => by kernel_rfl)

@[reducible] noncomputable def spec_IsEvent_sem : FnSem := .pu (.p tEvent .u) (.p .b .u) [true] (fun x => spec_IsEvent x.1)
noncomputable def spec_IsEvent_G : Env := ⟨GT, [(43, spec_l1In_sem)], [], true, GA, [], []⟩
theorem spec_IsEvent_env : EnvOk Tryz.prog II spec_IsEvent_G := EnvOk.cons spec_l1In_snd (envOk_nil GT_ok)
noncomputable def spec_IsEvent_L : List (Nat × LoopSem) := []
theorem spec_IsEvent_snd : Sound Tryz.prog II 145 spec_IsEvent_sem := sound_pu' (L := spec_IsEvent_L) (k := 0) spec_IsEvent_env mixed Tryz.func145 (by kernel_rfl) below_zero (fun x => by kernel_rfl)

@[reducible] noncomputable def spec_l10Follows_sem : FnSem := .pu (.p (.sl tEvent) tStep) (.p .b .u) [true] (fun x => spec_l10Follows x.1 x.2.1 x.2.2.1 x.2.2.2.1)
noncomputable def spec_l10Follows_G : Env := ⟨GT, [(145, spec_IsEvent_sem)], [], true, GA, [], []⟩
theorem spec_l10Follows_env : EnvOk Tryz.prog II spec_l10Follows_G := EnvOk.cons spec_IsEvent_snd (envOk_nil GT_ok)
noncomputable def spec_l10Follows_2_ls : LoopSem := ⟨73, ⟨[(0, (.data (.sl tEvent))), (1, (.data int)), (2, (.data int)), (3, (.data int)), (9, (.data int))], []⟩, 0, ⟨[(0, (.data (.sl tEvent)))], []⟩, ⟨[(8, (.data .b))], []⟩, spec_l10Follows_2_loop⟩
noncomputable def spec_l10Follows_L : List (Nat × LoopSem) := [(2, spec_l10Follows_2_ls)]
theorem spec_l10Follows_2_lok : LoopOk spec_l10Follows_G spec_l10Follows_L (lp Tryz.f100 0) := loopOk_of (r := 2) (ls := spec_l10Follows_2_ls) (R := fun x => spec_l10Follows_2_R x.1.1 x.1.2.1 x.1.2.2.1 x.1.2.2.2.1 x.1.2.2.2.2.1) (by kernel_rfl) (by kernel_rfl) rfl (fun x => by kernel_rfl)
theorem spec_l10Follows_snd : Sound Tryz.prog II 100 spec_l10Follows_sem := sound_pu' (L := spec_l10Follows_L) (k := 1) spec_l10Follows_env mixed Tryz.func100 (by kernel_rfl) (below_succ spec_l10Follows_2_lok below_zero) (fun x => by kernel_rfl)

@[reducible] noncomputable def spec_IsCombiner_sem : FnSem := .pu (.p tCombiner .u) (.p .b .u) [true] (fun x => spec_IsCombiner x.1)
noncomputable def spec_IsCombiner_G : Env := ⟨GT, [(98, spec_IsCombos_sem), (43, spec_l1In_sem), (99, spec_l11Active_sem), (45, spec_l11Held_sem), (100, spec_l10Follows_sem)], [], true, GA, [], []⟩
theorem spec_IsCombiner_env : EnvOk Tryz.prog II spec_IsCombiner_G := EnvOk.cons spec_IsCombos_snd (EnvOk.cons spec_l1In_snd (EnvOk.cons spec_l11Active_snd (EnvOk.cons spec_l11Held_snd (EnvOk.cons spec_l10Follows_snd (envOk_nil GT_ok)))))
noncomputable def spec_IsCombiner_L : List (Nat × LoopSem) := []
theorem spec_IsCombiner_snd : Sound Tryz.prog II 41 spec_IsCombiner_sem := sound_pu' (L := spec_IsCombiner_L) (k := 0) spec_IsCombiner_env mixed Tryz.func41 (by kernel_rfl) below_zero (fun x => by kernel_rfl)

@[reducible] noncomputable def spec_IsAction_sem : FnSem := .pu (.p tAction .u) (.p .b .u) [true] (fun x => spec_IsAction x.1)
noncomputable def spec_IsAction_G : Env := ⟨GT, [(43, spec_l1In_sem)], [], true, GA, [], []⟩
theorem spec_IsAction_env : EnvOk Tryz.prog II spec_IsAction_G := EnvOk.cons spec_l1In_snd (envOk_nil GT_ok)
noncomputable def spec_IsAction_L : List (Nat × LoopSem) := []
theorem spec_IsAction_snd : Sound Tryz.prog II 171 spec_IsAction_sem := sound_pu' (L := spec_IsAction_L) (k := 0) spec_IsAction_env mixed Tryz.func171 (by kernel_rfl) below_zero (fun x => by kernel_rfl)

@[reducible] noncomputable def spec_IsKeymap_sem : FnSem := .pu (.p tKeymap .u) (.p .b .u) [true] (fun x => spec_IsKeymap x.1)
noncomputable def spec_IsKeymap_G : Env := ⟨GT, [(171, spec_IsAction_sem), (43, spec_l1In_sem)], [], true, GA, [], []⟩
theorem spec_IsKeymap_env : EnvOk Tryz.prog II spec_IsKeymap_G := EnvOk.cons spec_IsAction_snd (EnvOk.cons spec_l1In_snd (envOk_nil GT_ok))
noncomputable def spec_IsKeymap_7_ls : LoopSem := ⟨74, ⟨[(1, (.ptr 1 [])), (3, (.data int)), (4, (.data int))], [(1, tKeymap, (.data tKeymap))]⟩, 2, ⟨[(1, (.ptr 1 [])), (3, (.data int))], [(1, tKeymap, (.data tKeymap))]⟩, ⟨[(2, (.data .b))], []⟩, spec_IsKeymap_7_loop⟩
noncomputable def spec_IsKeymap_2_ls : LoopSem := ⟨74, ⟨[(1, (.ptr 1 [])), (3, (.data int))], [(1, tKeymap, (.data tKeymap))]⟩, 0, ⟨[(1, (.ptr 1 []))], [(1, tKeymap, (.data tKeymap))]⟩, ⟨[(2, (.data .b))], []⟩, spec_IsKeymap_2_loop⟩
noncomputable def spec_IsKeymap_L : List (Nat × LoopSem) := [(7, spec_IsKeymap_7_ls), (2, spec_IsKeymap_2_ls)]
theorem spec_IsKeymap_7_lok : LoopOk spec_IsKeymap_G spec_IsKeymap_L (lp Tryz.f146 1) := loopOk_of (r := 7) (ls := spec_IsKeymap_7_ls) (R := fun x => spec_IsKeymap_7_R x.1.1 x.1.2.1 x.1.2.2.1 x.2.1) (by kernel_rfl) (by kernel_rfl) rfl (fun x => by kernel_rfl)
theorem spec_IsKeymap_2_lok : LoopOk spec_IsKeymap_G spec_IsKeymap_L (lp Tryz.f146 0) := loopOk_of (r := 2) (ls := spec_IsKeymap_2_ls) (R := fun x => spec_IsKeymap_2_R x.1.1 x.1.2.1 x.2.1) (by kernel_rfl) (by kernel_rfl) rfl (fun x => by kernel_rfl)
theorem spec_IsKeymap_snd : Sound Tryz.prog II 146 spec_IsKeymap_sem := sound_pu' (L := spec_IsKeymap_L) (k := 2) spec_IsKeymap_env mixed Tryz.func146 (by kernel_rfl) (below_succ spec_IsKeymap_7_lok (below_succ spec_IsKeymap_2_lok below_zero)) (fun x => by kernel_rfl)

@[reducible] noncomputable def spec_IsTapHold_sem : FnSem := .pu (.p tAction .u) (.p .b .u) [true] (fun x => spec_IsTapHold x.1)
noncomputable def spec_IsTapHold_G : Env := ⟨GT, [(171, spec_IsAction_sem)], [], true, GA, [], []⟩
theorem spec_IsTapHold_env : EnvOk Tryz.prog II spec_IsTapHold_G := EnvOk.cons spec_IsAction_snd (envOk_nil GT_ok)
noncomputable def spec_IsTapHold_L : List (Nat × LoopSem) := []
theorem spec_IsTapHold_snd : Sound Tryz.prog II 172 spec_IsTapHold_sem := sound_pu' (L := spec_IsTapHold_L) (k := 0) spec_IsTapHold_env mixed Tryz.func172 (by kernel_rfl) below_zero (fun x => by kernel_rfl)

@[reducible] noncomputable def spec_IsHeld_sem : FnSem := .pu (.p (.sl tHeld) .u) (.p .b .u) [true] (fun x => spec_IsHeld x.1)
noncomputable def spec_IsHeld_G : Env := ⟨GT, [(43, spec_l1In_sem), (171, spec_IsAction_sem), (172, spec_IsTapHold_sem)], [], true, GA, [], []⟩
theorem spec_IsHeld_env : EnvOk Tryz.prog II spec_IsHeld_G := EnvOk.cons spec_l1In_snd (EnvOk.cons spec_IsAction_snd (EnvOk.cons spec_IsTapHold_snd (envOk_nil GT_ok)))
noncomputable def spec_IsHeld_3_ls : LoopSem := ⟨57, ⟨[(0, (.data (.sl tHeld))), (3, (.data int)), (4, (.data int))], []⟩, 0, ⟨[], []⟩, ⟨[(2, (.data .b))], []⟩, spec_IsHeld_3_loop⟩
noncomputable def spec_IsHeld_L : List (Nat × LoopSem) := [(3, spec_IsHeld_3_ls)]
theorem spec_IsHeld_3_lok : LoopOk spec_IsHeld_G spec_IsHeld_L (lp Tryz.f147 0) := loopOk_of (r := 3) (ls := spec_IsHeld_3_ls) (R := fun x => spec_IsHeld_3_R x.1.1 x.1.2.1 x.1.2.2.1) (by kernel_rfl) (by kernel_rfl) rfl (fun x => by kernel_rfl)
theorem spec_IsHeld_snd : Sound Tryz.prog II 147 spec_IsHeld_sem := sound_pu' (L := spec_IsHeld_L) (k := 1) spec_IsHeld_env mixed Tryz.func147 (by kernel_rfl) (below_succ spec_IsHeld_3_lok below_zero) (fun x => by kernel_rfl)

@[reducible] noncomputable def spec_l8Find_sem : FnSem := .pu (.p (.sl tHeld) (.p tStep .u)) (.p int .u) [true] (fun x => spec_l8Find x.1 x.2.1)
noncomputable def spec_l8Find_G : Env := ⟨GT, [], [], true, GA, [], []⟩
theorem spec_l8Find_env : EnvOk Tryz.prog II spec_l8Find_G := envOk_nil GT_ok
noncomputable def spec_l8Find_2_ls : LoopSem := ⟨33, ⟨[(0, (.data (.sl tHeld))), (3, (.ptr 3 [])), (5, (.data int))], [(3, tStep, (.data tStep))]⟩, 0, ⟨[], []⟩, ⟨[(4, (.data int))], []⟩, spec_l8Find_2_loop⟩
noncomputable def spec_l8Find_L : List (Nat × LoopSem) := [(2, spec_l8Find_2_ls)]
theorem spec_l8Find_2_lok : LoopOk spec_l8Find_G spec_l8Find_L (lp Tryz.f173 0) := loopOk_of (r := 2) (ls := spec_l8Find_2_ls) (R := fun x => spec_l8Find_2_R x.1.1 x.1.2.1 x.1.2.2.1 x.2.1) (by kernel_rfl) (by kernel_rfl) rfl (fun x => by kernel_rfl)
theorem spec_l8Find_snd : Sound Tryz.prog II 173 spec_l8Find_sem := sound_pu' (L := spec_l8Find_L) (k := 1) spec_l8Find_env mixed Tryz.func173 (by kernel_rfl) (below_succ spec_l8Find_2_lok below_zero) (fun x => by kernel_rfl)

@[reducible] noncomputable def spec_l8Action_sem : FnSem := .pu (.p tStep .u) (.p tAction .u) [true] (fun x => spec_l8Action x.1)
noncomputable def spec_l8Action_G : Env := ⟨GT, [], [], true, GA, [], []⟩
theorem spec_l8Action_env : EnvOk Tryz.prog II spec_l8Action_G := envOk_nil GT_ok
noncomputable def spec_l8Action_L : List (Nat × LoopSem) := []
theorem spec_l8Action_snd : Sound Tryz.prog II 174 spec_l8Action_sem := sound_pu' (L := spec_l8Action_L) (k := 0) spec_l8Action_env mixed Tryz.func174 (by kernel_rfl) below_zero (fun x => by kernel_rfl)

@[reducible] noncomputable def spec_l8Without_sem : FnSem := .pu (.p (.sl tHeld) (.p int .u)) (.p (.sl tHeld) .u) [true] (fun x => spec_l8Without x.1 x.2.1)
noncomputable def spec_l8Without_G : Env := ⟨GT, [], [], true, GA, [], []⟩
theorem spec_l8Without_env : EnvOk Tryz.prog II spec_l8Without_G := envOk_nil GT_ok
noncomputable def spec_l8Without_L : List (Nat × LoopSem) := []
theorem spec_l8Without_snd : Sound Tryz.prog II 175 spec_l8Without_sem := sound_pu' (L := spec_l8Without_L) (k := 0) spec_l8Without_env mixed Tryz.func175 (by kernel_rfl) below_zero (fun x => by kernel_rfl)

@[reducible] noncomputable def spec_IsMacro_sem : FnSem := .pu (.p (.sl tStep) .u) (.p .b .u) [true] (fun x => spec_IsMacro x.1)
noncomputable def spec_IsMacro_G : Env := ⟨GT, [(173, spec_l8Find_sem), (43, spec_l1In_sem), (174, spec_l8Action_sem), (171, spec_IsAction_sem), (175, spec_l8Without_sem)], [], true, GA, [], []⟩
theorem spec_IsMacro_env : EnvOk Tryz.prog II spec_IsMacro_G := EnvOk.cons spec_l8Find_snd (EnvOk.cons spec_l1In_snd (EnvOk.cons spec_l8Action_snd (EnvOk.cons spec_IsAction_snd (EnvOk.cons spec_l8Without_snd (envOk_nil GT_ok)))))
noncomputable def spec_IsMacro_3_ls : LoopSem := ⟨62, ⟨[(0, (.data (.sl tStep))), (3, (.own 200001 tHeld true)), (4, (.data int))], []⟩, 0, ⟨[(0, (.data (.sl tStep))), (3, (.own 200001 tHeld true))], []⟩, ⟨[(2, (.data .b))], []⟩, spec_IsMacro_3_loop⟩
noncomputable def spec_IsMacro_L : List (Nat × LoopSem) := [(3, spec_IsMacro_3_ls)]
theorem spec_IsMacro_3_lok : LoopOk spec_IsMacro_G spec_IsMacro_L (lp Tryz.f148 0) := loopOk_of (r := 3) (ls := spec_IsMacro_3_ls) (R := fun x => spec_IsMacro_3_R x.1.1 x.1.2.1 x.1.2.2.1) (by kernel_rfl) (by kernel_rfl) rfl (fun x => by kernel_rfl)
theorem spec_IsMacro_snd : Sound Tryz.prog II 148 spec_IsMacro_sem := sound_pu' (L := spec_IsMacro_L) (k := 1) spec_IsMacro_env mixed Tryz.func148 (by kernel_rfl) (below_succ spec_IsMacro_3_lok below_zero) (fun x => by kernel_rfl)

@[reducible] noncomputable def spec_IsEngine_sem : FnSem := .pu (.p tEngine .u) (.p .b .u) [true] (fun x => spec_IsEngine x.1)
noncomputable def spec_IsEngine_G : Env := ⟨GT, [(146, spec_IsKeymap_sem), (147, spec_IsHeld_sem), (148, spec_IsMacro_sem), (43, spec_l1In_sem)], [], true, GA, [], []⟩
theorem spec_IsEngine_env : EnvOk Tryz.prog II spec_IsEngine_G := EnvOk.cons spec_IsKeymap_snd (EnvOk.cons spec_IsHeld_snd (EnvOk.cons spec_IsMacro_snd (EnvOk.cons spec_l1In_snd (envOk_nil GT_ok))))
noncomputable def spec_IsEngine_4_ls : LoopSem := ⟨96, ⟨[(1, (.ptr 1 [])), (3, (.data int))], [(1, tEngine, (.data tEngine))]⟩, 0, ⟨[(1, (.ptr 1 []))], [(1, tEngine, (.data tEngine))]⟩, ⟨[(2, (.data .b))], []⟩, spec_IsEngine_4_loop⟩
noncomputable def spec_IsEngine_9_ls : LoopSem := ⟨96, ⟨[(1, (.ptr 1 [])), (4, (.data int))], [(1, tEngine, (.data tEngine))]⟩, 2, ⟨[(1, (.ptr 1 []))], [(1, tEngine, (.data tEngine))]⟩, ⟨[(2, (.data .b))], []⟩, spec_IsEngine_9_loop⟩
noncomputable def spec_IsEngine_L : List (Nat × LoopSem) := [(4, spec_IsEngine_4_ls), (9, spec_IsEngine_9_ls)]
theorem spec_IsEngine_4_lok : LoopOk spec_IsEngine_G spec_IsEngine_L (lp Tryz.f101 0) := loopOk_of (r := 4) (ls := spec_IsEngine_4_ls) (R := fun x => spec_IsEngine_4_R x.1.1 x.1.2.1 x.2.1) (by kernel_rfl) (by kernel_rfl) rfl (fun x => by kernel_rfl)
theorem spec_IsEngine_9_lok : LoopOk spec_IsEngine_G spec_IsEngine_L (lp Tryz.f101 1) := loopOk_of (r := 9) (ls := spec_IsEngine_9_ls) (R := fun x => spec_IsEngine_9_R x.1.1 x.1.2.1 x.2.1) (by kernel_rfl) (by kernel_rfl) rfl (fun x => by kernel_rfl)
theorem spec_IsEngine_snd : Sound Tryz.prog II 101 spec_IsEngine_sem := sound_pu' (L := spec_IsEngine_L) (k := 2) spec_IsEngine_env mixed Tryz.func101 (by kernel_rfl) (below_succ spec_IsEngine_9_lok (below_succ spec_IsEngine_4_lok below_zero)) (fun x => by kernel_rfl)

@[reducible] noncomputable def spec_IsTiming_sem : FnSem := .pu (.p tStep .u) (.p .b .u) [true] (fun x => spec_IsTiming x.1)
noncomputable def spec_IsTiming_G : Env := ⟨GT, [(43, spec_l1In_sem)], [], true, GA, [], []⟩
theorem spec_IsTiming_env : EnvOk Tryz.prog II spec_IsTiming_G := EnvOk.cons spec_l1In_snd (envOk_nil GT_ok)
noncomputable def spec_IsTiming_L : List (Nat × LoopSem) := []
theorem spec_IsTiming_snd : Sound Tryz.prog II 102 spec_IsTiming_sem := sound_pu' (L := spec_IsTiming_L) (k := 0) spec_IsTiming_env mixed Tryz.func102 (by kernel_rfl) below_zero (fun x => by kernel_rfl)

@[reducible] noncomputable def spec_l10Bit_sem : FnSem := .pu (.p int .u) (.p int .u) [true] (fun x => spec_l10Bit x.1)
noncomputable def spec_l10Bit_G : Env := ⟨GT, [(43, spec_l1In_sem)], [], true, GA, [], []⟩
theorem spec_l10Bit_env : EnvOk Tryz.prog II spec_l10Bit_G := EnvOk.cons spec_l1In_snd (envOk_nil GT_ok)
noncomputable def spec_l10Bit_L : List (Nat × LoopSem) := []
theorem spec_l10Bit_snd : Sound Tryz.prog II 103 spec_l10Bit_sem := sound_pu' (L := spec_l10Bit_L) (k := 0) spec_l10Bit_env mixed Tryz.func103 (by kernel_rfl) below_zero (fun x => by kernel_rfl)

@[reducible] noncomputable def spec_l10Held_sem : FnSem := .pu (.p tEngine .u) (.p int .u) [true] (fun x => spec_l10Held x.1)
noncomputable def spec_l10Held_G : Env := ⟨GT, [(103, spec_l10Bit_sem)], [], true, GA, [], []⟩
theorem spec_l10Held_env : EnvOk Tryz.prog II spec_l10Held_G := EnvOk.cons spec_l10Bit_snd (envOk_nil GT_ok)
noncomputable def spec_l10Held_3_ls : LoopSem := ⟨22, ⟨[(1, (.ptr 1 [])), (3, (.data int)), (4, (.data int))], [(1, tEngine, (.data tEngine))]⟩, 0, ⟨[(3, (.data int))], []⟩, ⟨[], []⟩, spec_l10Held_3_loop⟩
noncomputable def spec_l10Held_L : List (Nat × LoopSem) := [(3, spec_l10Held_3_ls)]
theorem spec_l10Held_3_lok : LoopOk spec_l10Held_G spec_l10Held_L (lp Tryz.f46 0) := loopOk_of (r := 3) (ls := spec_l10Held_3_ls) (R := fun x => spec_l10Held_3_R x.1.1 x.1.2.1 x.1.2.2.1 x.2.1) (by kernel_rfl) (by kernel_rfl) rfl (fun x => by kernel_rfl)
theorem spec_l10Held_snd : Sound Tryz.prog II 46 spec_l10Held_sem := sound_pu' (L := spec_l10Held_L) (k := 1) spec_l10Held_env mixed Tryz.func46 (by kernel_rfl) (below_succ spec_l10Held_3_lok below_zero) (fun x => by kernel_rfl)

@[reducible] noncomputable def spec_IsDecider_sem : FnSem := .pu (.p tDecider .u) (.p .b .u) [true] (fun x => spec_IsDecider x.1)
noncomputable def spec_IsDecider_G : Env := ⟨GT, [(101, spec_IsEngine_sem), (102, spec_IsTiming_sem), (43, spec_l1In_sem), (46, spec_l10Held_sem), (100, spec_l10Follows_sem)], [], true, GA, [], []⟩
theorem spec_IsDecider_env : EnvOk Tryz.prog II spec_IsDecider_G := EnvOk.cons spec_IsEngine_snd (EnvOk.cons spec_IsTiming_snd (EnvOk.cons spec_l1In_snd (EnvOk.cons spec_l10Held_snd (EnvOk.cons spec_l10Follows_snd (envOk_nil GT_ok)))))
noncomputable def spec_IsDecider_L : List (Nat × LoopSem) := []
theorem spec_IsDecider_snd : Sound Tryz.prog II 42 spec_IsDecider_sem := sound_pu' (L := spec_IsDecider_L) (k := 0) spec_IsDecider_env mixed Tryz.func42 (by kernel_rfl) below_zero (fun x => by kernel_rfl)

@[reducible] noncomputable def spec_l17Toggled_sem : FnSem := .pu (.p int (.p (.sl tEvent) .u)) (.p int .u) [true] (fun x => spec_l17Toggled x.1 x.2.1)
noncomputable def spec_l17Toggled_G : Env := ⟨GT, [(103, spec_l10Bit_sem)], [], true, GA, [], []⟩
theorem spec_l17Toggled_env : EnvOk Tryz.prog II spec_l17Toggled_G := EnvOk.cons spec_l10Bit_snd (envOk_nil GT_ok)
noncomputable def spec_l17Toggled_2_ls : LoopSem := ⟨21, ⟨[(0, (.data int)), (1, (.data (.sl tEvent))), (5, (.data int))], []⟩, 0, ⟨[(0, (.data int))], []⟩, ⟨[], []⟩, spec_l17Toggled_2_loop⟩
noncomputable def spec_l17Toggled_L : List (Nat × LoopSem) := [(2, spec_l17Toggled_2_ls)]
theorem spec_l17Toggled_2_lok : LoopOk spec_l17Toggled_G spec_l17Toggled_L (lp Tryz.f44 0) := loopOk_of (r := 2) (ls := spec_l17Toggled_2_ls) (R := fun x => spec_l17Toggled_2_R x.1.1 x.1.2.1 x.1.2.2.1) (by kernel_rfl) (by kernel_rfl) rfl (fun x => by kernel_rfl)
theorem spec_l17Toggled_snd : Sound Tryz.prog II 44 spec_l17Toggled_sem := sound_pu' (L := spec_l17Toggled_L) (k := 1) spec_l17Toggled_env mixed Tryz.func44 (by kernel_rfl) (below_succ spec_l17Toggled_2_lok below_zero) (fun x => by kernel_rfl)

@[reducible] noncomputable def spec_l17Out_sem : FnSem := .pu (.p tCombiner .u) (.p int .u) [true] (fun x => spec_l17Out x.1)
noncomputable def spec_l17Out_G : Env := ⟨GT, [(103, spec_l10Bit_sem)], [], true, GA, [], []⟩
theorem spec_l17Out_env : EnvOk Tryz.prog II spec_l17Out_G := EnvOk.cons spec_l10Bit_snd (envOk_nil GT_ok)
noncomputable def spec_l17Out_3_ls : LoopSem := ⟨30, ⟨[(1, (.ptr 1 [])), (3, (.data int)), (4, (.data int))], [(1, tCombiner, (.data tCombiner))]⟩, 0, ⟨[(3, (.data int))], []⟩, ⟨[], []⟩, spec_l17Out_3_loop⟩
noncomputable def spec_l17Out_L : List (Nat × LoopSem) := [(3, spec_l17Out_3_ls)]
theorem spec_l17Out_3_lok : LoopOk spec_l17Out_G spec_l17Out_L (lp Tryz.f47 0) := loopOk_of (r := 3) (ls := spec_l17Out_3_ls) (R := fun x => spec_l17Out_3_R x.1.1 x.1.2.1 x.1.2.2.1 x.2.1) (by kernel_rfl) (by kernel_rfl) rfl (fun x => by kernel_rfl)
theorem spec_l17Out_snd : Sound Tryz.prog II 47 spec_l17Out_sem := sound_pu' (L := spec_l17Out_L) (k := 1) spec_l17Out_env mixed Tryz.func47 (by kernel_rfl) (below_succ spec_l17Out_3_lok below_zero) (fun x => by kernel_rfl)

@[reducible] noncomputable def spec_IsBoard_sem : FnSem := .pu (.p tBoard .u) (.p .b .u) [true] (fun x => spec_IsBoard x.1)
noncomputable def spec_IsBoard_G : Env := ⟨GT, [(38, spec_KeyCount_sem), (39, spec_IsDebouncer_sem), (40, spec_IsMask_sem), (41, spec_IsCombiner_sem), (42, spec_IsDecider_sem), (43, spec_l1In_sem), (45, spec_l11Held_sem), (44, spec_l17Toggled_sem), (46, spec_l10Held_sem), (47, spec_l17Out_sem)], [], true, GA, [], []⟩
theorem spec_IsBoard_env : EnvOk Tryz.prog II spec_IsBoard_G := EnvOk.cons spec_KeyCount_snd (EnvOk.cons spec_IsDebouncer_snd (EnvOk.cons spec_IsMask_snd (EnvOk.cons spec_IsCombiner_snd (EnvOk.cons spec_IsDecider_snd (EnvOk.cons spec_l1In_snd (EnvOk.cons spec_l11Held_snd (EnvOk.cons spec_l17Toggled_snd (EnvOk.cons spec_l10Held_snd (EnvOk.cons spec_l17Out_snd (envOk_nil GT_ok))))))))))
noncomputable def spec_IsBoard_6_ls : LoopSem := ⟨129, ⟨[(1, (.ptr 1 [])), (4, (.data int)), (5, (.data int))], [(1, tBoard, (.data tBoard))]⟩, 0, ⟨[(1, (.ptr 1 []))], [(1, tBoard, (.data tBoard))]⟩, ⟨[(2, (.data .b))], []⟩, spec_IsBoard_6_loop⟩
noncomputable def spec_IsBoard_L : List (Nat × LoopSem) := [(6, spec_IsBoard_6_ls)]
theorem spec_IsBoard_6_lok : LoopOk spec_IsBoard_G spec_IsBoard_L (lp Tryz.f8 0) := loopOk_of (r := 6) (ls := spec_IsBoard_6_ls) (R := fun x => spec_IsBoard_6_R x.1.1 x.1.2.1 x.1.2.2.1 x.2.1) (by kernel_rfl) (by kernel_rfl) rfl (fun x => by kernel_rfl)
theorem spec_IsBoard_snd : Sound Tryz.prog II 8 spec_IsBoard_sem := sound_pu' (L := spec_IsBoard_L) (k := 1) spec_IsBoard_env mixed Tryz.func8 (by kernel_rfl) (below_succ spec_IsBoard_6_lok below_zero) (fun x => by kernel_rfl)

@[reducible] noncomputable def spec_HalfKeys_sem : FnSem := .pu (.p tHalves .u) (.p int .u) [true] (fun x => spec_HalfKeys x.1)
noncomputable def spec_HalfKeys_G : Env := ⟨GT, [(38, spec_KeyCount_sem)], [], true, GA, [], []⟩
theorem spec_HalfKeys_env : EnvOk Tryz.prog II spec_HalfKeys_G := EnvOk.cons spec_KeyCount_snd (envOk_nil GT_ok)
noncomputable def spec_HalfKeys_L : List (Nat × LoopSem) := []
theorem spec_HalfKeys_snd : Sound Tryz.prog II 59 spec_HalfKeys_sem := sound_pu' (L := spec_HalfKeys_L) (k := 0) spec_HalfKeys_env mixed Tryz.func59 (by kernel_rfl) below_zero (fun x => by kernel_rfl)

@[reducible] noncomputable def spec_IsReceiver_sem : FnSem := .pu (.p tReceiver .u) (.p .b .u) [true] (fun x => spec_IsReceiver x.1)
noncomputable def spec_IsReceiver_G : Env := ⟨GT, [(43, spec_l1In_sem)], [], true, GA, [], []⟩
theorem spec_IsReceiver_env : EnvOk Tryz.prog II spec_IsReceiver_G := EnvOk.cons spec_l1In_snd (envOk_nil GT_ok)
noncomputable def spec_IsReceiver_L : List (Nat × LoopSem) := []
theorem spec_IsReceiver_snd : Sound Tryz.prog II 60 spec_IsReceiver_sem := sound_pu' (L := spec_IsReceiver_L) (k := 0) spec_IsReceiver_env mixed Tryz.func60 (by kernel_rfl) below_zero (fun x => by kernel_rfl)

@[reducible] noncomputable def spec_IsHalves_sem : FnSem := .pu (.p tHalves .u) (.p .b .u) [true] (fun x => spec_IsHalves x.1)
noncomputable def spec_IsHalves_G : Env := ⟨GT, [(8, spec_IsBoard_sem), (59, spec_HalfKeys_sem), (60, spec_IsReceiver_sem), (43, spec_l1In_sem)], [], true, GA, [], []⟩
theorem spec_IsHalves_env : EnvOk Tryz.prog II spec_IsHalves_G := EnvOk.cons spec_IsBoard_snd (EnvOk.cons spec_HalfKeys_snd (EnvOk.cons spec_IsReceiver_snd (EnvOk.cons spec_l1In_snd (envOk_nil GT_ok))))
noncomputable def spec_IsHalves_L : List (Nat × LoopSem) := []
theorem spec_IsHalves_snd : Sound Tryz.prog II 13 spec_IsHalves_sem := sound_pu' (L := spec_IsHalves_L) (k := 0) spec_IsHalves_env mixed Tryz.func13 (by kernel_rfl) below_zero (fun x => by kernel_rfl)

@[reducible] noncomputable def spec_l11Copy_sem : FnSem := .pu (.p tCombiner .u) (.p tCombiner .u) [true] (fun x => spec_l11Copy x.1)
noncomputable def spec_l11Copy_G : Env := ⟨GT, [], [], true, GA, [], []⟩
theorem spec_l11Copy_env : EnvOk Tryz.prog II spec_l11Copy_G := envOk_nil GT_ok
noncomputable def spec_l11Copy_L : List (Nat × LoopSem) := []
theorem spec_l11Copy_snd : Sound Tryz.prog II 116 spec_l11Copy_sem := sound_pu' (L := spec_l11Copy_L) (k := 0) spec_l11Copy_env mixed Tryz.func116 (by kernel_rfl) below_zero (fun x => by kernel_rfl)

@[reducible] noncomputable def spec_l6Copy_sem : FnSem := .pu (.p tKeymap .u) (.p tKeymap .u) [true] (fun x => spec_l6Copy x.1)
noncomputable def spec_l6Copy_G : Env := ⟨GT, [], [], true, GA, [], []⟩
theorem spec_l6Copy_env : EnvOk Tryz.prog II spec_l6Copy_G := envOk_nil GT_ok
noncomputable def spec_l6Copy_3_ls : LoopSem := ⟨28, ⟨[(1, (.ptr 1 [])), (2, (.ptr 2 [])), (3, (.ptr 3 [])), (4, (.data int))], [(1, tKeymap, (.data tKeymap)), (2, tKeymap, (.pr (.data int) (.pr (.data (.sl (.sl tAction))) .un))), (3, tKeymap, (.pr (.data int) (.pr (.own 200001 (.sl tAction) true) .un)))]⟩, 0, ⟨[(2, (.ptr 2 [])), (3, (.ptr 3 []))], [(2, tKeymap, (.pr (.data int) (.pr (.data (.sl (.sl tAction))) .un))), (3, tKeymap, (.pr (.data int) (.pr (.own 200001 (.sl tAction) true) .un)))]⟩, ⟨[], []⟩, spec_l6Copy_3_loop⟩
noncomputable def spec_l6Copy_L : List (Nat × LoopSem) := [(3, spec_l6Copy_3_ls)]
theorem spec_l6Copy_3_lok : LoopOk spec_l6Copy_G spec_l6Copy_L (lp Tryz.f158 0) := loopOk_of (r := 3) (ls := spec_l6Copy_3_ls) (R := fun x => spec_l6Copy_3_R x.1.1 x.1.2.1 x.1.2.2.1 x.1.2.2.2.1 x.2.1 x.2.2.1 x.2.2.2.1) (by kernel_rfl) (by kernel_rfl) rfl (fun x => by kernel_rfl)
theorem spec_l6Copy_snd : Sound Tryz.prog II 158 spec_l6Copy_sem := sound_pu' (L := spec_l6Copy_L) (k := 1) spec_l6Copy_env mixed Tryz.func158 (by kernel_rfl) (below_succ spec_l6Copy_3_lok below_zero) (fun x => by kernel_rfl)

@[reducible] noncomputable def spec_l9Copy_sem : FnSem := .pu (.p tEngine .u) (.p tEngine .u) [true] (fun x => spec_l9Copy x.1)
noncomputable def spec_l9Copy_G : Env := ⟨GT, [(158, spec_l6Copy_sem)], [], true, GA, [], []⟩
theorem spec_l9Copy_env : EnvOk Tryz.prog II spec_l9Copy_G := EnvOk.cons spec_l6Copy_snd (envOk_nil GT_ok)
noncomputable def spec_l9Copy_5_ls : LoopSem := ⟨37, ⟨[(1, (.ptr 1 [])), (2, (.ptr 2 [])), (3, (.ptr 3 [])), (4, (.data int))], [(1, tEngine, (.data tEngine)), (2, tEngine, (.pr (.pr (.data int) (.pr (.data (.sl (.sl tAction))) .un)) (.pr (.data (.sl (.sl tStep))) (.pr (.data int) (.pr (.data (.sl tHeld)) (.data (.p int (.p .b .u)))))))), (3, tEngine, (.pr (.pr (.data int) (.pr (.own 200001 (.sl tAction) true) .un)) (.pr (.own 200002 (.sl tStep) true) (.data (.p int (.p (.sl tHeld) (.p int (.p .b .u))))))))]⟩, 0, ⟨[(1, (.ptr 1 [])), (2, (.ptr 2 [])), (3, (.ptr 3 []))], [(1, tEngine, (.data tEngine)), (2, tEngine, (.pr (.pr (.data int) (.pr (.data (.sl (.sl tAction))) .un)) (.pr (.data (.sl (.sl tStep))) (.pr (.data int) (.pr (.data (.sl tHeld)) (.data (.p int (.p .b .u)))))))), (3, tEngine, (.pr (.pr (.data int) (.pr (.own 200001 (.sl tAction) true) .un)) (.pr (.own 200002 (.sl tStep) true) (.data (.p int (.p (.sl tHeld) (.p int (.p .b .u))))))))]⟩, ⟨[], []⟩, spec_l9Copy_5_loop⟩
noncomputable def spec_l9Copy_L : List (Nat × LoopSem) := [(5, spec_l9Copy_5_ls)]
theorem spec_l9Copy_5_lok : LoopOk spec_l9Copy_G spec_l9Copy_L (lp Tryz.f117 0) := loopOk_of (r := 5) (ls := spec_l9Copy_5_ls) (R := fun x => spec_l9Copy_5_R x.1.1 x.1.2.1 x.1.2.2.1 x.1.2.2.2.1 x.2.1 x.2.2.1 x.2.2.2.1) (by kernel_rfl) (by kernel_rfl) rfl (fun x => by kernel_rfl)
theorem spec_l9Copy_snd : Sound Tryz.prog II 117 spec_l9Copy_sem := sound_pu' (L := spec_l9Copy_L) (k := 1) spec_l9Copy_env mixed Tryz.func117 (by kernel_rfl) (below_succ spec_l9Copy_5_lok below_zero) (fun x => by kernel_rfl)

@[reducible] noncomputable def spec_l17Copy_sem : FnSem := .pu (.p tBoard .u) (.p tBoard .u) [true] (fun x => spec_l17Copy x.1)
noncomputable def spec_l17Copy_G : Env := ⟨GT, [(116, spec_l11Copy_sem), (117, spec_l9Copy_sem)], [], true, GA, [], []⟩
theorem spec_l17Copy_env : EnvOk Tryz.prog II spec_l17Copy_G := EnvOk.cons spec_l11Copy_snd (EnvOk.cons spec_l9Copy_snd (envOk_nil GT_ok))
noncomputable def spec_l17Copy_L : List (Nat × LoopSem) := []
theorem spec_l17Copy_snd : Sound Tryz.prog II 70 spec_l17Copy_sem := sound_pu' (L := spec_l17Copy_L) (k := 0) spec_l17Copy_env mixed Tryz.func70 (by kernel_rfl) below_zero (fun x => by kernel_rfl)

@[reducible] noncomputable def spec_l22Copy_sem : FnSem := .pu (.p tHalves .u) (.p tHalves .u) [true] (fun x => spec_l22Copy x.1)
noncomputable def spec_l22Copy_G : Env := ⟨GT, [(70, spec_l17Copy_sem)], [], true, GA, [], []⟩
theorem spec_l22Copy_env : EnvOk Tryz.prog II spec_l22Copy_G := EnvOk.cons spec_l17Copy_snd (envOk_nil GT_ok)
noncomputable def spec_l22Copy_L : List (Nat × LoopSem) := []
theorem spec_l22Copy_snd : Sound Tryz.prog II 93 spec_l22Copy_sem := sound_pu' (L := spec_l22Copy_L) (k := 0) spec_l22Copy_env mixed Tryz.func93 (by kernel_rfl) below_zero (fun x => by kernel_rfl)

@[reducible] noncomputable def spec_NewHalves_sem : FnSem := .pu (.p tBoard .u) (.p tHalves (.p .b .u)) [true, true] (fun x => spec_NewHalves x.1)
noncomputable def spec_NewHalves_G : Env := ⟨GT, [(92, spec_NewReceiver_sem), (13, spec_IsHalves_sem), (93, spec_l22Copy_sem)], [], true, GA, [], []⟩
theorem spec_NewHalves_env : EnvOk Tryz.prog II spec_NewHalves_G := EnvOk.cons spec_NewReceiver_snd (EnvOk.cons spec_IsHalves_snd (EnvOk.cons spec_l22Copy_snd (envOk_nil GT_ok)))
noncomputable def spec_NewHalves_L : List (Nat × LoopSem) := []
theorem spec_NewHalves_snd : Sound Tryz.prog II 34 spec_NewHalves_sem := sound_pu' (L := spec_NewHalves_L) (k := 0) spec_NewHalves_env mixed Tryz.func34 (by kernel_rfl) below_zero (fun x => by kernel_rfl)

@[reducible] noncomputable def impl_copyInts_sem : FnSem := .pu (.p (.sl int) .u) (.p (.sl int) .u) [true] (fun x => impl_copyInts x.1)
noncomputable def impl_copyInts_G : Env := ⟨GT, [], [], true, GA, [], []⟩
theorem impl_copyInts_env : EnvOk Tryz.prog II impl_copyInts_G := envOk_nil GT_ok
noncomputable def impl_copyInts_L : List (Nat × LoopSem) := []
theorem impl_copyInts_snd : Sound Tryz.prog II 124 impl_copyInts_sem := sound_pu' (L := impl_copyInts_L) (k := 0) impl_copyInts_env mixed Tryz.func124 (by kernel_rfl) below_zero (fun x => by kernel_rfl)

@[reducible] noncomputable def impl_copyCombiner_sem : FnSem := .pu (.p tCombiner .u) (.p tCombiner .u) [true] (fun x => impl_copyCombiner x.1)
noncomputable def impl_copyCombiner_G : Env := ⟨GT, [], [], true, GA, [], []⟩
theorem impl_copyCombiner_env : EnvOk Tryz.prog II impl_copyCombiner_G := envOk_nil GT_ok
noncomputable def impl_copyCombiner_L : List (Nat × LoopSem) := []
theorem impl_copyCombiner_snd : Sound Tryz.prog II 125 impl_copyCombiner_sem := sound_pu' (L := impl_copyCombiner_L) (k := 0) impl_copyCombiner_env mixed Tryz.func125 (by kernel_rfl) below_zero (fun x => by kernel_rfl)

@[reducible] noncomputable def impl_copyKeymap_sem : FnSem := .pu (.p tKeymap .u) (.p tKeymap .u) [true] (fun x => impl_copyKeymap x.1)
noncomputable def impl_copyKeymap_G : Env := ⟨GT, [], [], true, GA, [], []⟩
theorem impl_copyKeymap_env : EnvOk Tryz.prog II impl_copyKeymap_G := envOk_nil GT_ok
noncomputable def impl_copyKeymap_3_ls : LoopSem := ⟨25, ⟨[(2, (.ptr 2 [])), (3, (.ptr 3 [])), (10, (.data (.sl (.sl tAction)))), (11, (.data int)), (12, (.data int))], [(2, tKeymap, (.pr (.data int) (.pr (.data (.sl (.sl tAction))) .un))), (3, tKeymap, (.pr (.data int) (.pr (.own 200001 (.sl tAction) true) .un)))]⟩, 0, ⟨[(2, (.ptr 2 [])), (3, (.ptr 3 []))], [(2, tKeymap, (.pr (.data int) (.pr (.data (.sl (.sl tAction))) .un))), (3, tKeymap, (.pr (.data int) (.pr (.own 200001 (.sl tAction) true) .un)))]⟩, ⟨[], []⟩, impl_copyKeymap_3_loop⟩
noncomputable def impl_copyKeymap_L : List (Nat × LoopSem) := [(3, impl_copyKeymap_3_ls)]
theorem impl_copyKeymap_3_lok : LoopOk impl_copyKeymap_G impl_copyKeymap_L (lp Tryz.f185 0) := loopOk_of (r := 3) (ls := impl_copyKeymap_3_ls) (R := fun x => impl_copyKeymap_3_R x.1.1 x.1.2.1 x.1.2.2.1 x.1.2.2.2.1 x.1.2.2.2.2.1 x.2.1 x.2.2.1) (by kernel_rfl) (by kernel_rfl) rfl (fun x => by kernel_rfl)
theorem impl_copyKeymap_snd : Sound Tryz.prog II 185 impl_copyKeymap_sem := sound_pu' (L := impl_copyKeymap_L) (k := 1) impl_copyKeymap_env mixed Tryz.func185 (by kernel_rfl) (below_succ impl_copyKeymap_3_lok below_zero) (fun x => by kernel_rfl)

@[reducible] noncomputable def impl_copyMacros_sem : FnSem := .pu (.p (.sl (.sl tStep)) .u) (.p (.sl (.sl tStep)) .u) [true] (fun x => impl_copyMacros x.1)
noncomputable def impl_copyMacros_G : Env := ⟨GT, [], [], true, GA, [], []⟩
theorem impl_copyMacros_env : EnvOk Tryz.prog II impl_copyMacros_G := envOk_nil GT_ok
noncomputable def impl_copyMacros_3_ls : LoopSem := ⟨19, ⟨[(3, (.own 200001 (.sl tStep) true)), (6, (.data (.sl (.sl tStep)))), (7, (.data int)), (8, (.data int))], []⟩, 0, ⟨[(3, (.own 200001 (.sl tStep) true))], []⟩, ⟨[], []⟩, impl_copyMacros_3_loop⟩
noncomputable def impl_copyMacros_L : List (Nat × LoopSem) := [(3, impl_copyMacros_3_ls)]
theorem impl_copyMacros_3_lok : LoopOk impl_copyMacros_G impl_copyMacros_L (lp Tryz.f186 0) := loopOk_of (r := 3) (ls := impl_copyMacros_3_ls) (R := fun x => impl_copyMacros_3_R x.1.1 x.1.2.1 x.1.2.2.1 x.1.2.2.2.1) (by kernel_rfl) (by kernel_rfl) rfl (fun x => by kernel_rfl)
theorem impl_copyMacros_snd : Sound Tryz.prog II 186 impl_copyMacros_sem := sound_pu' (L := impl_copyMacros_L) (k := 1) impl_copyMacros_env mixed Tryz.func186 (by kernel_rfl) (below_succ impl_copyMacros_3_lok below_zero) (fun x => by kernel_rfl)

@[reducible] noncomputable def impl_copyEngine_sem : FnSem := .pu (.p tEngine .u) (.p tEngine .u) [true] (fun x => impl_copyEngine x.1)
noncomputable def impl_copyEngine_G : Env := ⟨GT, [(185, impl_copyKeymap_sem), (186, impl_copyMacros_sem)], [], true, GA, [], []⟩
theorem impl_copyEngine_env : EnvOk Tryz.prog II impl_copyEngine_G := EnvOk.cons impl_copyKeymap_snd (EnvOk.cons impl_copyMacros_snd (envOk_nil GT_ok))
noncomputable def impl_copyEngine_L : List (Nat × LoopSem) := []
theorem impl_copyEngine_snd : Sound Tryz.prog II 162 impl_copyEngine_sem := sound_pu' (L := impl_copyEngine_L) (k := 0) impl_copyEngine_env mixed Tryz.func162 (by kernel_rfl) below_zero (fun x => by kernel_rfl)

@[reducible] noncomputable def impl_copyDecider_sem : FnSem := .pu (.p tDecider .u) (.p tDecider .u) [true] (fun x => impl_copyDecider x.1)
noncomputable def impl_copyDecider_G : Env := ⟨GT, [(162, impl_copyEngine_sem)], [], true, GA, [], []⟩
theorem impl_copyDecider_env : EnvOk Tryz.prog II impl_copyDecider_G := EnvOk.cons impl_copyEngine_snd (envOk_nil GT_ok)
noncomputable def impl_copyDecider_L : List (Nat × LoopSem) := []
theorem impl_copyDecider_snd : Sound Tryz.prog II 126 impl_copyDecider_sem := sound_pu' (L := impl_copyDecider_L) (k := 0) impl_copyDecider_env mixed Tryz.func126 (by kernel_rfl) below_zero (fun x => by kernel_rfl)

@[reducible] noncomputable def impl_copyBoard_sem : FnSem := .pu (.p tBoard .u) (.p tBoard .u) [true] (fun x => impl_copyBoard x.1)
noncomputable def impl_copyBoard_G : Env := ⟨GT, [(124, impl_copyInts_sem), (125, impl_copyCombiner_sem), (126, impl_copyDecider_sem)], [], true, GA, [], []⟩
theorem impl_copyBoard_env : EnvOk Tryz.prog II impl_copyBoard_G := EnvOk.cons impl_copyInts_snd (EnvOk.cons impl_copyCombiner_snd (EnvOk.cons impl_copyDecider_snd (envOk_nil GT_ok)))
noncomputable def impl_copyBoard_L : List (Nat × LoopSem) := []
theorem impl_copyBoard_snd : Sound Tryz.prog II 77 impl_copyBoard_sem := sound_pu' (L := impl_copyBoard_L) (k := 0) impl_copyBoard_env mixed Tryz.func77 (by kernel_rfl) below_zero (fun x => by kernel_rfl)

@[reducible] noncomputable def impl_NewReceiver_sem : FnSem := .pu .u (.p tReceiver .u) [true] (fun x => impl_NewReceiver)
noncomputable def impl_NewReceiver_G : Env := ⟨GT, [], [], true, GA, [], []⟩
theorem impl_NewReceiver_env : EnvOk Tryz.prog II impl_NewReceiver_G := envOk_nil GT_ok
noncomputable def impl_NewReceiver_L : List (Nat × LoopSem) := []
theorem impl_NewReceiver_snd : Sound Tryz.prog II 94 impl_NewReceiver_sem := sound_pu' (L := impl_NewReceiver_L) (k := 0) impl_NewReceiver_env mixed Tryz.func94 (by kernel_rfl) below_zero (fun x => by kernel_rfl)

@[reducible] noncomputable def impl_IsMatrix_sem : FnSem := .pu (.p tEvent .u) (.p .b .u) [true] (fun x => impl_IsMatrix x.1)
noncomputable def impl_IsMatrix_G : Env := ⟨GT, [], [], true, GA, [], []⟩
theorem impl_IsMatrix_env : EnvOk Tryz.prog II impl_IsMatrix_G := envOk_nil GT_ok
noncomputable def impl_IsMatrix_L : List (Nat × LoopSem) := []
theorem impl_IsMatrix_snd : Sound Tryz.prog II 48 impl_IsMatrix_sem := sound_pu' (L := impl_IsMatrix_L) (k := 0) impl_IsMatrix_env mixed Tryz.func48 (by kernel_rfl) below_zero (fun x => by kernel_rfl)

@[reducible] noncomputable def impl_IsDebouncer_sem : FnSem := .pu (.p tDebouncer .u) (.p .b .u) [true] (fun x => impl_IsDebouncer x.1)
noncomputable def impl_IsDebouncer_G : Env := ⟨GT, [], [], true, GA, [], []⟩
theorem impl_IsDebouncer_env : EnvOk Tryz.prog II impl_IsDebouncer_G := envOk_nil GT_ok
noncomputable def impl_IsDebouncer_6_ls : LoopSem := ⟨79, ⟨[(66, (.data (.sl int))), (67, (.data int)), (68, (.data int))], []⟩, 0, ⟨[], []⟩, ⟨[(2, (.data .b))], []⟩, impl_IsDebouncer_6_loop⟩
noncomputable def impl_IsDebouncer_L : List (Nat × LoopSem) := [(6, impl_IsDebouncer_6_ls)]
theorem impl_IsDebouncer_6_lok : LoopOk impl_IsDebouncer_G impl_IsDebouncer_L (lp Tryz.f49 0) := loopOk_of (r := 6) (ls := impl_IsDebouncer_6_ls) (R := fun x => impl_IsDebouncer_6_R x.1.1 x.1.2.1 x.1.2.2.1) (by kernel_rfl) (by kernel_rfl) rfl (fun x => by kernel_rfl)
theorem impl_IsDebouncer_snd : Sound Tryz.prog II 49 impl_IsDebouncer_sem := sound_pu' (L := impl_IsDebouncer_L) (k := 1) impl_IsDebouncer_env mixed Tryz.func49 (by kernel_rfl) (below_succ impl_IsDebouncer_6_lok below_zero) (fun x => by kernel_rfl)

@[reducible] noncomputable def bits_OnesCount32_sem : FnSem := .pu (.p (.i .u32) .u) (.p int .u) [true] (fun x => bits_OnesCount32 x.1)
noncomputable def bits_OnesCount32_G : Env := ⟨GT, [], [], true, GA, [], []⟩
theorem bits_OnesCount32_env : EnvOk Tryz.prog II bits_OnesCount32_G := envOk_nil GT_ok
noncomputable def bits_OnesCount32_L : List (Nat × LoopSem) := []
theorem bits_OnesCount32_snd : Sound Tryz.prog II 176 bits_OnesCount32_sem := sound_pu' (L := bits_OnesCount32_L) (k := 0) bits_OnesCount32_env mixed Tryz.func176 (by kernel_rfl) below_zero (fun x => by kernel_rfl)

@[reducible] noncomputable def bits_OnesCount64_sem : FnSem := .pu (.p (.i .u64) .u) (.p int .u) [true] (fun x => bits_OnesCount64 x.1)
noncomputable def bits_OnesCount64_G : Env := ⟨GT, [], [], true, GA, [], []⟩
theorem bits_OnesCount64_env : EnvOk Tryz.prog II bits_OnesCount64_G := envOk_nil GT_ok
noncomputable def bits_OnesCount64_L : List (Nat × LoopSem) := []
theorem bits_OnesCount64_snd : Sound Tryz.prog II 177 bits_OnesCount64_sem := sound_pu' (L := bits_OnesCount64_L) (k := 0) bits_OnesCount64_env mixed Tryz.func177 (by kernel_rfl) below_zero (fun x => by kernel_rfl)

@[reducible] noncomputable def bits_OnesCount_sem : FnSem := .pu (.p (.i .u64) .u) (.p int .u) [true] (fun x => bits_OnesCount x.1)
noncomputable def bits_OnesCount_G : Env := ⟨GT, [(176, bits_OnesCount32_sem), (177, bits_OnesCount64_sem)], [], true, GA, [], []⟩
theorem bits_OnesCount_env : EnvOk Tryz.prog II bits_OnesCount_G := EnvOk.cons bits_OnesCount32_snd (EnvOk.cons bits_OnesCount64_snd (envOk_nil GT_ok))
noncomputable def bits_OnesCount_L : List (Nat × LoopSem) := []
theorem bits_OnesCount_snd : Sound Tryz.prog II 149 bits_OnesCount_sem := sound_pu' (L := bits_OnesCount_L) (k := 0) bits_OnesCount_env mixed Tryz.func149 (by kernel_rfl) below_zero (fun x => by kernel_rfl)

@[reducible] noncomputable def impl_IsCombos_sem : FnSem := .pu (.p (.sl tCombo) .u) (.p .b .u) [true] (fun x => impl_IsCombos x.1)
noncomputable def impl_IsCombos_G : Env := ⟨GT, [(149, bits_OnesCount_sem)], [], true, GA, [], []⟩
theorem impl_IsCombos_env : EnvOk Tryz.prog II impl_IsCombos_G := EnvOk.cons bits_OnesCount_snd (envOk_nil GT_ok)
noncomputable def impl_IsCombos_12_ls : LoopSem := ⟨68, ⟨[(0, (.data (.sl tCombo))), (4, (.ptr 4 [])), (11, (.data (.sl tCombo))), (12, (.data int)), (13, (.data int)), (48, (.data (.sl tCombo))), (49, (.data int)), (50, (.data int))], [(4, tCombo, (.data tCombo))]⟩, 2, ⟨[(0, (.data (.sl tCombo))), (11, (.data (.sl tCombo))), (12, (.data int)), (13, (.data int))], []⟩, ⟨[(2, (.data .b))], []⟩, impl_IsCombos_12_loop⟩
noncomputable def impl_IsCombos_4_ls : LoopSem := ⟨68, ⟨[(0, (.data (.sl tCombo))), (11, (.data (.sl tCombo))), (12, (.data int)), (13, (.data int))], []⟩, 0, ⟨[], []⟩, ⟨[(2, (.data .b))], []⟩, impl_IsCombos_4_loop⟩
noncomputable def impl_IsCombos_L : List (Nat × LoopSem) := [(12, impl_IsCombos_12_ls), (4, impl_IsCombos_4_ls)]
theorem impl_IsCombos_12_lok : LoopOk impl_IsCombos_G impl_IsCombos_L (lp Tryz.f104 1) := loopOk_of (r := 12) (ls := impl_IsCombos_12_ls) (R := fun x => impl_IsCombos_12_R x.1.1 x.1.2.1 x.1.2.2.1 x.1.2.2.2.1 x.1.2.2.2.2.1 x.1.2.2.2.2.2.1 x.1.2.2.2.2.2.2.1 x.1.2.2.2.2.2.2.2.1 x.2.1) (by kernel_rfl) (by kernel_rfl) rfl (fun x => by kernel_rfl)
theorem impl_IsCombos_4_lok : LoopOk impl_IsCombos_G impl_IsCombos_L (lp Tryz.f104 0) := loopOk_of (r := 4) (ls := impl_IsCombos_4_ls) (R := fun x => impl_IsCombos_4_R x.1.1 x.1.2.1 x.1.2.2.1 x.1.2.2.2.1) (by kernel_rfl) (by kernel_rfl) rfl (fun x => by kernel_rfl)
theorem impl_IsCombos_snd : Sound Tryz.prog II 104 impl_IsCombos_sem := sound_pu' (L := impl_IsCombos_L) (k := 2) impl_IsCombos_env mixed Tryz.func104 (by kernel_rfl) (below_succ impl_IsCombos_12_lok (below_succ impl_IsCombos_4_lok below_zero)) (fun x => by kernel_rfl)

@[reducible] noncomputable def impl_comboOf_sem : FnSem := .pu (.p (.sl tCombo) (.p int .u)) (.p tCombo (.p .b .u)) [true, true] (fun x => impl_comboOf x.1 x.2.1)
noncomputable def impl_comboOf_G : Env := ⟨GT, [], [], true, GA, [], []⟩
theorem impl_comboOf_env : EnvOk Tryz.prog II impl_comboOf_G := envOk_nil GT_ok
noncomputable def impl_comboOf_2_ls : LoopSem := ⟨21, ⟨[(1, (.data int)), (4, (.ptr 4 [])), (8, (.data (.sl tCombo))), (9, (.data int)), (10, (.data int))], [(4, tCombo, (.data tCombo))]⟩, 0, ⟨[(4, (.ptr 4 []))], [(4, tCombo, (.data tCombo))]⟩, ⟨[(4, (.ptr 4 [])), (5, (.data .b))], [(4, tCombo, (.data tCombo))]⟩, impl_comboOf_2_loop⟩
noncomputable def impl_comboOf_L : List (Nat × LoopSem) := [(2, impl_comboOf_2_ls)]
theorem impl_comboOf_2_lok : LoopOk impl_comboOf_G impl_comboOf_L (lp Tryz.f150 0) := loopOk_of (r := 2) (ls := impl_comboOf_2_ls) (R := fun x => impl_comboOf_2_R x.1.1 x.1.2.1 x.1.2.2.1 x.1.2.2.2.1 x.1.2.2.2.2.1 x.2.1) (by kernel_rfl) (by kernel_rfl) rfl (fun x => by kernel_rfl)
theorem impl_comboOf_snd : Sound Tryz.prog II 150 impl_comboOf_sem := sound_pu' (L := impl_comboOf_L) (k := 1) impl_comboOf_env mixed Tryz.func150 (by kernel_rfl) (below_succ impl_comboOf_2_lok below_zero) (fun x => by kernel_rfl)

@[reducible] noncomputable def impl_bit_sem : FnSem := .pu tCombo (.p int .u) [true] (fun x => impl_bit x.1 x.2.1)
noncomputable def impl_bit_G : Env := ⟨GT, [], [], true, GA, [], []⟩
theorem impl_bit_env : EnvOk Tryz.prog II impl_bit_G := envOk_nil GT_ok
noncomputable def impl_bit_L : List (Nat × LoopSem) := []
theorem impl_bit_snd : Sound Tryz.prog II 151 impl_bit_sem := sound_pu' (L := impl_bit_L) (k := 0) impl_bit_env mixed Tryz.func151 (by kernel_rfl) below_zero (fun x => by kernel_rfl)

@[reducible] noncomputable def impl_activeFits_sem : FnSem := .pu (.p tCombiner .u) (.p .b .u) [true] (fun x => impl_activeFits x.1)
noncomputable def impl_activeFits_G : Env := ⟨GT, [(150, impl_comboOf_sem), (151, impl_bit_sem)], [], true, GA, [], []⟩
theorem impl_activeFits_env : EnvOk Tryz.prog II impl_activeFits_G := EnvOk.cons impl_comboOf_snd (EnvOk.cons impl_bit_snd (envOk_nil GT_ok))
noncomputable def impl_activeFits_3_ls : LoopSem := ⟨61, ⟨[(1, (.ptr 1 [])), (3, (.data int)), (9, (.data (.sl tEvent))), (10, (.data int)), (11, (.data int))], [(1, tCombiner, (.data tCombiner))]⟩, 0, ⟨[], []⟩, ⟨[(2, (.data .b))], []⟩, impl_activeFits_3_loop⟩
noncomputable def impl_activeFits_L : List (Nat × LoopSem) := [(3, impl_activeFits_3_ls)]
theorem impl_activeFits_3_lok : LoopOk impl_activeFits_G impl_activeFits_L (lp Tryz.f105 0) := loopOk_of (r := 3) (ls := impl_activeFits_3_ls) (R := fun x => impl_activeFits_3_R x.1.1 x.1.2.1 x.1.2.2.1 x.1.2.2.2.1 x.1.2.2.2.2.1 x.2.1) (by kernel_rfl) (by kernel_rfl) rfl (fun x => by kernel_rfl)
theorem impl_activeFits_snd : Sound Tryz.prog II 105 impl_activeFits_sem := sound_pu' (L := impl_activeFits_L) (k := 1) impl_activeFits_env mixed Tryz.func105 (by kernel_rfl) (below_succ impl_activeFits_3_lok below_zero) (fun x => by kernel_rfl)

@[reducible] noncomputable def impl_switchesDown_sem : FnSem := .pu (.p tCombiner .u) (.p int (.p .b .u)) [true, true] (fun x => impl_switchesDown x.1)
noncomputable def impl_switchesDown_G : Env := ⟨GT, [], [], true, GA, [], []⟩
theorem impl_switchesDown_env : EnvOk Tryz.prog II impl_switchesDown_G := envOk_nil GT_ok
noncomputable def impl_switchesDown_3_ls : LoopSem := ⟨27, ⟨[(4, (.data int)), (10, (.data (.sl tEvent))), (11, (.data int)), (12, (.data int))], []⟩, 0, ⟨[(4, (.data int))], []⟩, ⟨[(2, (.data int)), (3, (.data .b))], []⟩, impl_switchesDown_3_loop⟩
noncomputable def impl_switchesDown_L : List (Nat × LoopSem) := [(3, impl_switchesDown_3_ls)]
theorem impl_switchesDown_3_lok : LoopOk impl_switchesDown_G impl_switchesDown_L (lp Tryz.f54 0) := loopOk_of (r := 3) (ls := impl_switchesDown_3_ls) (R := fun x => impl_switchesDown_3_R x.1.1 x.1.2.1 x.1.2.2.1 x.1.2.2.2.1) (by kernel_rfl) (by kernel_rfl) rfl (fun x => by kernel_rfl)
theorem impl_switchesDown_snd : Sound Tryz.prog II 54 impl_switchesDown_sem := sound_pu' (L := impl_switchesDown_L) (k := 1) impl_switchesDown_env mixed Tryz.func54 (by kernel_rfl) (below_succ impl_switchesDown_3_lok below_zero) (fun x => by kernel_rfl)

@[reducible] noncomputable def impl_IsEvent_sem : FnSem := .pu (.p tEvent .u) (.p .b .u) [true] (fun x => impl_IsEvent x.1)
noncomputable def impl_IsEvent_G : Env := ⟨GT, [], [], true, GA, [], []⟩
theorem impl_IsEvent_env : EnvOk Tryz.prog II impl_IsEvent_G := envOk_nil GT_ok
noncomputable def impl_IsEvent_L : List (Nat × LoopSem) := []
theorem impl_IsEvent_snd : Sound Tryz.prog II 178 impl_IsEvent_sem := sound_pu' (L := impl_IsEvent_L) (k := 0) impl_IsEvent_env mixed Tryz.func178 (by kernel_rfl) below_zero (fun x => by kernel_rfl)

@[reducible] noncomputable def impl_follow_sem : FnSem := .pu (.p (.sl tEvent) (.p int .u)) (.p int (.p .b .u)) [true, true] (fun x => impl_follow x.1 x.2.1)
noncomputable def impl_follow_G : Env := ⟨GT, [(178, impl_IsEvent_sem), (151, impl_bit_sem)], [], true, GA, [], []⟩
theorem impl_follow_env : EnvOk Tryz.prog II impl_follow_G := EnvOk.cons impl_IsEvent_snd (EnvOk.cons impl_bit_snd (envOk_nil GT_ok))
noncomputable def impl_follow_4_ls : LoopSem := ⟨53, ⟨[(0, (.data (.sl tEvent))), (1, (.data int)), (11, (.data (.sl tEvent))), (12, (.data int)), (13, (.data int))], []⟩, 0, ⟨[(1, (.data int))], []⟩, ⟨[(4, (.data int)), (5, (.data .b))], []⟩, impl_follow_4_loop⟩
noncomputable def impl_follow_L : List (Nat × LoopSem) := [(4, impl_follow_4_ls)]
theorem impl_follow_4_lok : LoopOk impl_follow_G impl_follow_L (lp Tryz.f152 0) := loopOk_of (r := 4) (ls := impl_follow_4_ls) (R := fun x => impl_follow_4_R x.1.1 x.1.2.1 x.1.2.2.1 x.1.2.2.2.1 x.1.2.2.2.2.1) (by kernel_rfl) (by kernel_rfl) rfl (fun x => by kernel_rfl)
theorem impl_follow_snd : Sound Tryz.prog II 152 impl_follow_sem := sound_pu' (L := impl_follow_L) (k := 1) impl_follow_env mixed Tryz.func152 (by kernel_rfl) (below_succ impl_follow_4_lok below_zero) (fun x => by kernel_rfl)

@[reducible] noncomputable def impl_queueFits_sem : FnSem := .pu (.p (.sl tEvent) tCombo) (.p .b .u) [true] (fun x => impl_queueFits x.1 x.2.1 x.2.2.1)
noncomputable def impl_queueFits_G : Env := ⟨GT, [(152, impl_follow_sem)], [], true, GA, [], []⟩
theorem impl_queueFits_env : EnvOk Tryz.prog II impl_queueFits_G := EnvOk.cons impl_follow_snd (envOk_nil GT_ok)
noncomputable def impl_queueFits_2_ls : LoopSem := ⟨29, ⟨[(0, (.data (.sl tEvent))), (1, (.data int)), (2, (.data int)), (11, (.data (.sl tEvent))), (12, (.data int)), (13, (.data int))], []⟩, 0, ⟨[(0, (.data (.sl tEvent))), (1, (.data int))], []⟩, ⟨[(6, (.data .b))], []⟩, impl_queueFits_2_loop⟩
noncomputable def impl_queueFits_L : List (Nat × LoopSem) := [(2, impl_queueFits_2_ls)]
theorem impl_queueFits_2_lok : LoopOk impl_queueFits_G impl_queueFits_L (lp Tryz.f106 0) := loopOk_of (r := 2) (ls := impl_queueFits_2_ls) (R := fun x => impl_queueFits_2_R x.1.1 x.1.2.1 x.1.2.2.1 x.1.2.2.2.1 x.1.2.2.2.2.1 x.1.2.2.2.2.2.1) (by kernel_rfl) (by kernel_rfl) rfl (fun x => by kernel_rfl)
theorem impl_queueFits_snd : Sound Tryz.prog II 106 impl_queueFits_sem := sound_pu' (L := impl_queueFits_L) (k := 1) impl_queueFits_env mixed Tryz.func106 (by kernel_rfl) (below_succ impl_queueFits_2_lok below_zero) (fun x => by kernel_rfl)

@[reducible] noncomputable def impl_notBehind_sem : FnSem := .pu (.p (.sl tEvent) (.p int .u)) (.p .b .u) [true] (fun x => impl_notBehind x.1 x.2.1)
noncomputable def impl_notBehind_G : Env := ⟨GT, [], [], true, GA, [], []⟩
theorem impl_notBehind_env : EnvOk Tryz.prog II impl_notBehind_G := envOk_nil GT_ok
noncomputable def impl_notBehind_L : List (Nat × LoopSem) := []
theorem impl_notBehind_snd : Sound Tryz.prog II 107 impl_notBehind_sem := sound_pu' (L := impl_notBehind_L) (k := 0) impl_notBehind_env mixed Tryz.func107 (by kernel_rfl) below_zero (fun x => by kernel_rfl)

@[reducible] noncomputable def impl_IsCombiner_sem : FnSem := .pu (.p tCombiner .u) (.p .b .u) [true] (fun x => impl_IsCombiner x.1)
noncomputable def impl_IsCombiner_G : Env := ⟨GT, [(104, impl_IsCombos_sem), (105, impl_activeFits_sem), (54, impl_switchesDown_sem), (106, impl_queueFits_sem), (107, impl_notBehind_sem)], [], true, GA, [], []⟩
theorem impl_IsCombiner_env : EnvOk Tryz.prog II impl_IsCombiner_G := EnvOk.cons impl_IsCombos_snd (EnvOk.cons impl_activeFits_snd (EnvOk.cons impl_switchesDown_snd (EnvOk.cons impl_queueFits_snd (EnvOk.cons impl_notBehind_snd (envOk_nil GT_ok)))))
noncomputable def impl_IsCombiner_L : List (Nat × LoopSem) := []
theorem impl_IsCombiner_snd : Sound Tryz.prog II 50 impl_IsCombiner_sem := sound_pu' (L := impl_IsCombiner_L) (k := 0) impl_IsCombiner_env mixed Tryz.func50 (by kernel_rfl) below_zero (fun x => by kernel_rfl)

@[reducible] noncomputable def impl_isCode_sem : FnSem := .pu (.p int .u) (.p .b .u) [true] (fun x => impl_isCode x.1)
noncomputable def impl_isCode_G : Env := ⟨GT, [], [], true, GA, [], []⟩
theorem impl_isCode_env : EnvOk Tryz.prog II impl_isCode_G := envOk_nil GT_ok
noncomputable def impl_isCode_L : List (Nat × LoopSem) := []
theorem impl_isCode_snd : Sound Tryz.prog II 193 impl_isCode_sem := sound_pu' (L := impl_isCode_L) (k := 0) impl_isCode_env mixed Tryz.func193 (by kernel_rfl) below_zero (fun x => by kernel_rfl)

@[reducible] noncomputable def impl_isMods_sem : FnSem := .pu (.p int .u) (.p .b .u) [true] (fun x => impl_isMods x.1)
noncomputable def impl_isMods_G : Env := ⟨GT, [], [], true, GA, [], []⟩
theorem impl_isMods_env : EnvOk Tryz.prog II impl_isMods_G := envOk_nil GT_ok
noncomputable def impl_isMods_L : List (Nat × LoopSem) := []
theorem impl_isMods_snd : Sound Tryz.prog II 194 impl_isMods_sem := sound_pu' (L := impl_isMods_L) (k := 0) impl_isMods_env mixed Tryz.func194 (by kernel_rfl) below_zero (fun x => by kernel_rfl)

@[reducible] noncomputable def impl_isUpper_sem : FnSem := .pu (.p int .u) (.p .b .u) [true] (fun x => impl_isUpper x.1)
noncomputable def impl_isUpper_G : Env := ⟨GT, [], [], true, GA, [], []⟩
theorem impl_isUpper_env : EnvOk Tryz.prog II impl_isUpper_G := envOk_nil GT_ok
noncomputable def impl_isUpper_L : List (Nat × LoopSem) := []
theorem impl_isUpper_snd : Sound Tryz.prog II 195 impl_isUpper_sem := sound_pu' (L := impl_isUpper_L) (k := 0) impl_isUpper_env mixed Tryz.func195 (by kernel_rfl) below_zero (fun x => by kernel_rfl)

@[reducible] noncomputable def impl_IsAction_sem : FnSem := .pu (.p tAction .u) (.p .b .u) [true] (fun x => impl_IsAction x.1)
noncomputable def impl_IsAction_G : Env := ⟨GT, [(193, impl_isCode_sem), (194, impl_isMods_sem), (195, impl_isUpper_sem)], [], true, GA, [], []⟩
theorem impl_IsAction_env : EnvOk Tryz.prog II impl_IsAction_G := EnvOk.cons impl_isCode_snd (EnvOk.cons impl_isMods_snd (EnvOk.cons impl_isUpper_snd (envOk_nil GT_ok)))
noncomputable def impl_IsAction_L : List (Nat × LoopSem) := []
theorem impl_IsAction_snd : Sound Tryz.prog II 179 impl_IsAction_sem := sound_pu' (L := impl_IsAction_L) (k := 0) impl_IsAction_env mixed Tryz.func179 (by kernel_rfl) below_zero (fun x => by kernel_rfl)

@[reducible] noncomputable def impl_IsKeymap_sem : FnSem := .pu (.p tKeymap .u) (.p .b .u) [true] (fun x => impl_IsKeymap x.1)
noncomputable def impl_IsKeymap_G : Env := ⟨GT, [(179, impl_IsAction_sem)], [], true, GA, [], []⟩
theorem impl_IsKeymap_env : EnvOk Tryz.prog II impl_IsKeymap_G := EnvOk.cons impl_IsAction_snd (envOk_nil GT_ok)
noncomputable def impl_IsKeymap_9_ls : LoopSem := ⟨73, ⟨[(1, (.ptr 1 [])), (3, (.data int)), (28, (.data (.sl (.sl tAction)))), (29, (.data int)), (30, (.data int)), (40, (.data (.sl tAction))), (41, (.data int)), (42, (.data int))], [(1, tKeymap, (.data tKeymap))]⟩, 2, ⟨[(1, (.ptr 1 [])), (28, (.data (.sl (.sl tAction)))), (29, (.data int)), (30, (.data int))], [(1, tKeymap, (.data tKeymap))]⟩, ⟨[(2, (.data .b))], []⟩, impl_IsKeymap_9_loop⟩
noncomputable def impl_IsKeymap_4_ls : LoopSem := ⟨73, ⟨[(1, (.ptr 1 [])), (28, (.data (.sl (.sl tAction)))), (29, (.data int)), (30, (.data int))], [(1, tKeymap, (.data tKeymap))]⟩, 0, ⟨[], []⟩, ⟨[(2, (.data .b))], []⟩, impl_IsKeymap_4_loop⟩
noncomputable def impl_IsKeymap_L : List (Nat × LoopSem) := [(9, impl_IsKeymap_9_ls), (4, impl_IsKeymap_4_ls)]
theorem impl_IsKeymap_9_lok : LoopOk impl_IsKeymap_G impl_IsKeymap_L (lp Tryz.f153 1) := loopOk_of (r := 9) (ls := impl_IsKeymap_9_ls) (R := fun x => impl_IsKeymap_9_R x.1.1 x.1.2.1 x.1.2.2.1 x.1.2.2.2.1 x.1.2.2.2.2.1 x.1.2.2.2.2.2.1 x.1.2.2.2.2.2.2.1 x.1.2.2.2.2.2.2.2.1 x.2.1) (by kernel_rfl) (by kernel_rfl) rfl (fun x => by kernel_rfl)
theorem impl_IsKeymap_4_lok : LoopOk impl_IsKeymap_G impl_IsKeymap_L (lp Tryz.f153 0) := loopOk_of (r := 4) (ls := impl_IsKeymap_4_ls) (R := fun x => impl_IsKeymap_4_R x.1.1 x.1.2.1 x.1.2.2.1 x.1.2.2.2.1 x.2.1) (by kernel_rfl) (by kernel_rfl) rfl (fun x => by kernel_rfl)
theorem impl_IsKeymap_snd : Sound Tryz.prog II 153 impl_IsKeymap_sem := sound_pu' (L := impl_IsKeymap_L) (k := 2) impl_IsKeymap_env mixed Tryz.func153 (by kernel_rfl) (below_succ impl_IsKeymap_9_lok (below_succ impl_IsKeymap_4_lok below_zero)) (fun x => by kernel_rfl)

@[reducible] noncomputable def impl_IsHeld_sem : FnSem := .pu (.p (.sl tHeld) .u) (.p .b .u) [true] (fun x => impl_IsHeld x.1)
noncomputable def impl_IsHeld_G : Env := ⟨GT, [(151, impl_bit_sem), (179, impl_IsAction_sem)], [], true, GA, [], []⟩
theorem impl_IsHeld_env : EnvOk Tryz.prog II impl_IsHeld_G := EnvOk.cons impl_bit_snd (EnvOk.cons impl_IsAction_snd (envOk_nil GT_ok))
noncomputable def impl_IsHeld_3_ls : LoopSem := ⟨46, ⟨[(3, (.data int)), (6, (.data (.sl tHeld))), (7, (.data int)), (8, (.data int))], []⟩, 0, ⟨[], []⟩, ⟨[(2, (.data .b))], []⟩, impl_IsHeld_3_loop⟩
noncomputable def impl_IsHeld_L : List (Nat × LoopSem) := [(3, impl_IsHeld_3_ls)]
theorem impl_IsHeld_3_lok : LoopOk impl_IsHeld_G impl_IsHeld_L (lp Tryz.f154 0) := loopOk_of (r := 3) (ls := impl_IsHeld_3_ls) (R := fun x => impl_IsHeld_3_R x.1.1 x.1.2.1 x.1.2.2.1 x.1.2.2.2.1) (by kernel_rfl) (by kernel_rfl) rfl (fun x => by kernel_rfl)
theorem impl_IsHeld_snd : Sound Tryz.prog II 154 impl_IsHeld_sem := sound_pu' (L := impl_IsHeld_L) (k := 1) impl_IsHeld_env mixed Tryz.func154 (by kernel_rfl) (below_succ impl_IsHeld_3_lok below_zero) (fun x => by kernel_rfl)

@[reducible] noncomputable def impl_pairAt_sem : FnSem := .pu (.p (.sl tCombo) (.p tCombo .u)) (.p int .u) [true] (fun x => impl_pairAt x.1 x.2.1)
noncomputable def impl_pairAt_G : Env := ⟨GT, [], [], true, GA, [], []⟩
theorem impl_pairAt_env : EnvOk Tryz.prog II impl_pairAt_G := envOk_nil GT_ok
noncomputable def impl_pairAt_2_ls : LoopSem := ⟨19, ⟨[(3, (.ptr 3 [])), (7, (.data (.sl tCombo))), (8, (.data int)), (9, (.data int))], [(3, tCombo, (.data tCombo))]⟩, 0, ⟨[], []⟩, ⟨[(4, (.data int))], []⟩, impl_pairAt_2_loop⟩
noncomputable def impl_pairAt_L : List (Nat × LoopSem) := [(2, impl_pairAt_2_ls)]
theorem impl_pairAt_2_lok : LoopOk impl_pairAt_G impl_pairAt_L (lp Tryz.f180 0) := loopOk_of (r := 2) (ls := impl_pairAt_2_ls) (R := fun x => impl_pairAt_2_R x.1.1 x.1.2.1 x.1.2.2.1 x.1.2.2.2.1 x.2.1) (by kernel_rfl) (by kernel_rfl) rfl (fun x => by kernel_rfl)
theorem impl_pairAt_snd : Sound Tryz.prog II 180 impl_pairAt_sem := sound_pu' (L := impl_pairAt_L) (k := 1) impl_pairAt_env mixed Tryz.func180 (by kernel_rfl) (below_succ impl_pairAt_2_lok below_zero) (fun x => by kernel_rfl)

@[reducible] noncomputable def impl_IsMacro_sem : FnSem := .pu (.p (.sl tStep) .u) (.p .b .u) [true] (fun x => impl_IsMacro x.1)
noncomputable def impl_IsMacro_G : Env := ⟨GT, [(180, impl_pairAt_sem), (179, impl_IsAction_sem)], [], true, GA, [], []⟩
theorem impl_IsMacro_env : EnvOk Tryz.prog II impl_IsMacro_G := EnvOk.cons impl_pairAt_snd (EnvOk.cons impl_IsAction_snd (envOk_nil GT_ok))
noncomputable def impl_IsMacro_5_ls : LoopSem := ⟨62, ⟨[(3, (.own 200001 tCombo true)), (11, (.data (.sl tStep))), (12, (.data int)), (13, (.data int))], []⟩, 0, ⟨[(3, (.own 200001 tCombo true))], []⟩, ⟨[(2, (.data .b))], []⟩, impl_IsMacro_5_loop⟩
noncomputable def impl_IsMacro_L : List (Nat × LoopSem) := [(5, impl_IsMacro_5_ls)]
theorem impl_IsMacro_5_lok : LoopOk impl_IsMacro_G impl_IsMacro_L (lp Tryz.f155 0) := loopOk_of (r := 5) (ls := impl_IsMacro_5_ls) (R := fun x => impl_IsMacro_5_R x.1.1 x.1.2.1 x.1.2.2.1 x.1.2.2.2.1) (by kernel_rfl) (by kernel_rfl) rfl (fun x => by kernel_rfl)
theorem impl_IsMacro_snd : Sound Tryz.prog II 155 impl_IsMacro_sem := sound_pu' (L := impl_IsMacro_L) (k := 1) impl_IsMacro_env mixed Tryz.func155 (by kernel_rfl) (below_succ impl_IsMacro_5_lok below_zero) (fun x => by kernel_rfl)

@[reducible] noncomputable def impl_IsEngine_sem : FnSem := .pu (.p tEngine .u) (.p .b .u) [true] (fun x => impl_IsEngine x.1)
noncomputable def impl_IsEngine_G : Env := ⟨GT, [(153, impl_IsKeymap_sem), (154, impl_IsHeld_sem), (155, impl_IsMacro_sem)], [], true, GA, [], []⟩
theorem impl_IsEngine_env : EnvOk Tryz.prog II impl_IsEngine_G := EnvOk.cons impl_IsKeymap_snd (EnvOk.cons impl_IsHeld_snd (EnvOk.cons impl_IsMacro_snd (envOk_nil GT_ok)))
noncomputable def impl_IsEngine_4_ls : LoopSem := ⟨92, ⟨[(1, (.ptr 1 [])), (35, (.data (.sl (.sl tStep)))), (36, (.data int)), (37, (.data int))], [(1, tEngine, (.data tEngine))]⟩, 0, ⟨[(1, (.ptr 1 []))], [(1, tEngine, (.data tEngine))]⟩, ⟨[(2, (.data .b))], []⟩, impl_IsEngine_4_loop⟩
noncomputable def impl_IsEngine_11_ls : LoopSem := ⟨92, ⟨[(1, (.ptr 1 [])), (5, (.data int)), (50, (.data (.sl tHeld))), (51, (.data int)), (52, (.data int))], [(1, tEngine, (.data tEngine))]⟩, 2, ⟨[(1, (.ptr 1 [])), (5, (.data int))], [(1, tEngine, (.data tEngine))]⟩, ⟨[(2, (.data .b))], []⟩, impl_IsEngine_11_loop⟩
noncomputable def impl_IsEngine_L : List (Nat × LoopSem) := [(4, impl_IsEngine_4_ls), (11, impl_IsEngine_11_ls)]
theorem impl_IsEngine_4_lok : LoopOk impl_IsEngine_G impl_IsEngine_L (lp Tryz.f108 0) := loopOk_of (r := 4) (ls := impl_IsEngine_4_ls) (R := fun x => impl_IsEngine_4_R x.1.1 x.1.2.1 x.1.2.2.1 x.1.2.2.2.1 x.2.1) (by kernel_rfl) (by kernel_rfl) rfl (fun x => by kernel_rfl)
theorem impl_IsEngine_11_lok : LoopOk impl_IsEngine_G impl_IsEngine_L (lp Tryz.f108 1) := loopOk_of (r := 11) (ls := impl_IsEngine_11_ls) (R := fun x => impl_IsEngine_11_R x.1.1 x.1.2.1 x.1.2.2.1 x.1.2.2.2.1 x.1.2.2.2.2.1 x.2.1) (by kernel_rfl) (by kernel_rfl) rfl (fun x => by kernel_rfl)
theorem impl_IsEngine_snd : Sound Tryz.prog II 108 impl_IsEngine_sem := sound_pu' (L := impl_IsEngine_L) (k := 2) impl_IsEngine_env mixed Tryz.func108 (by kernel_rfl) (below_succ impl_IsEngine_11_lok (below_succ impl_IsEngine_4_lok below_zero)) (fun x => by kernel_rfl)

@[reducible] noncomputable def impl_IsTiming_sem : FnSem := .pu (.p tStep .u) (.p .b .u) [true] (fun x => impl_IsTiming x.1)
noncomputable def impl_IsTiming_G : Env := ⟨GT, [], [], true, GA, [], []⟩
theorem impl_IsTiming_env : EnvOk Tryz.prog II impl_IsTiming_G := envOk_nil GT_ok
noncomputable def impl_IsTiming_L : List (Nat × LoopSem) := []
theorem impl_IsTiming_snd : Sound Tryz.prog II 109 impl_IsTiming_sem := sound_pu' (L := impl_IsTiming_L) (k := 0) impl_IsTiming_env mixed Tryz.func109 (by kernel_rfl) below_zero (fun x => by kernel_rfl)

@[reducible] noncomputable def impl_heldMask_sem : FnSem := .pu (.p (.sl tHeld) .u) (.p int .u) [true] (fun x => impl_heldMask x.1)
noncomputable def impl_heldMask_G : Env := ⟨GT, [], [], true, GA, [], []⟩
theorem impl_heldMask_env : EnvOk Tryz.prog II impl_heldMask_G := envOk_nil GT_ok
noncomputable def impl_heldMask_3_ls : LoopSem := ⟨19, ⟨[(3, (.data int)), (6, (.data (.sl tHeld))), (7, (.data int)), (8, (.data int))], []⟩, 0, ⟨[(3, (.data int))], []⟩, ⟨[], []⟩, impl_heldMask_3_loop⟩
noncomputable def impl_heldMask_L : List (Nat × LoopSem) := [(3, impl_heldMask_3_ls)]
theorem impl_heldMask_3_lok : LoopOk impl_heldMask_G impl_heldMask_L (lp Tryz.f56 0) := loopOk_of (r := 3) (ls := impl_heldMask_3_ls) (R := fun x => impl_heldMask_3_R x.1.1 x.1.2.1 x.1.2.2.1 x.1.2.2.2.1) (by kernel_rfl) (by kernel_rfl) rfl (fun x => by kernel_rfl)
theorem impl_heldMask_snd : Sound Tryz.prog II 56 impl_heldMask_sem := sound_pu' (L := impl_heldMask_L) (k := 1) impl_heldMask_env mixed Tryz.func56 (by kernel_rfl) (below_succ impl_heldMask_3_lok below_zero) (fun x => by kernel_rfl)

@[reducible] noncomputable def impl_IsDecider_sem : FnSem := .pu (.p tDecider .u) (.p .b .u) [true] (fun x => impl_IsDecider x.1)
noncomputable def impl_IsDecider_G : Env := ⟨GT, [(108, impl_IsEngine_sem), (109, impl_IsTiming_sem), (56, impl_heldMask_sem), (106, impl_queueFits_sem), (107, impl_notBehind_sem)], [], true, GA, [], []⟩
theorem impl_IsDecider_env : EnvOk Tryz.prog II impl_IsDecider_G := EnvOk.cons impl_IsEngine_snd (EnvOk.cons impl_IsTiming_snd (EnvOk.cons impl_heldMask_snd (EnvOk.cons impl_queueFits_snd (EnvOk.cons impl_notBehind_snd (envOk_nil GT_ok)))))
noncomputable def impl_IsDecider_L : List (Nat × LoopSem) := []
theorem impl_IsDecider_snd : Sound Tryz.prog II 51 impl_IsDecider_sem := sound_pu' (L := impl_IsDecider_L) (k := 0) impl_IsDecider_env mixed Tryz.func51 (by kernel_rfl) below_zero (fun x => by kernel_rfl)

@[reducible] noncomputable def impl_KeyCount_sem : FnSem := .pu (.p tEvent .u) (.p int .u) [true] (fun x => impl_KeyCount x.1)
noncomputable def impl_KeyCount_G : Env := ⟨GT, [(48, impl_IsMatrix_sem)], [], true, GA, [], []⟩
theorem impl_KeyCount_env : EnvOk Tryz.prog II impl_KeyCount_G := EnvOk.cons impl_IsMatrix_snd (envOk_nil GT_ok)
noncomputable def impl_KeyCount_L : List (Nat × LoopSem) := []
theorem impl_KeyCount_snd : Sound Tryz.prog II 52 impl_KeyCount_sem := sound_pu' (L := impl_KeyCount_L) (k := 0) impl_KeyCount_env mixed Tryz.func52 (by kernel_rfl) below_zero (fun x => by kernel_rfl)

@[reducible] noncomputable def impl_IsMask_sem : FnSem := .pu (.p tEvent (.p int .u)) (.p .b .u) [true] (fun x => impl_IsMask x.1 x.2.1)
noncomputable def impl_IsMask_G : Env := ⟨GT, [(48, impl_IsMatrix_sem), (52, impl_KeyCount_sem)], [], true, GA, [], []⟩
theorem impl_IsMask_env : EnvOk Tryz.prog II impl_IsMask_G := EnvOk.cons impl_IsMatrix_snd (EnvOk.cons impl_KeyCount_snd (envOk_nil GT_ok))
noncomputable def impl_IsMask_L : List (Nat × LoopSem) := []
theorem impl_IsMask_snd : Sound Tryz.prog II 53 impl_IsMask_sem := sound_pu' (L := impl_IsMask_L) (k := 0) impl_IsMask_env mixed Tryz.func53 (by kernel_rfl) below_zero (fun x => by kernel_rfl)

@[reducible] noncomputable def impl_queueDown_sem : FnSem := .pu (.p int (.p (.sl tEvent) .u)) (.p int .u) [true] (fun x => impl_queueDown x.1 x.2.1)
noncomputable def impl_queueDown_G : Env := ⟨GT, [], [], true, GA, [], []⟩
theorem impl_queueDown_env : EnvOk Tryz.prog II impl_queueDown_G := envOk_nil GT_ok
noncomputable def impl_queueDown_2_ls : LoopSem := ⟨27, ⟨[(0, (.data int)), (7, (.data (.sl tEvent))), (8, (.data int)), (9, (.data int))], []⟩, 0, ⟨[(0, (.data int))], []⟩, ⟨[], []⟩, impl_queueDown_2_loop⟩
noncomputable def impl_queueDown_L : List (Nat × LoopSem) := [(2, impl_queueDown_2_ls)]
theorem impl_queueDown_2_lok : LoopOk impl_queueDown_G impl_queueDown_L (lp Tryz.f55 0) := loopOk_of (r := 2) (ls := impl_queueDown_2_ls) (R := fun x => impl_queueDown_2_R x.1.1 x.1.2.1 x.1.2.2.1 x.1.2.2.2.1) (by kernel_rfl) (by kernel_rfl) rfl (fun x => by kernel_rfl)
theorem impl_queueDown_snd : Sound Tryz.prog II 55 impl_queueDown_sem := sound_pu' (L := impl_queueDown_L) (k := 1) impl_queueDown_env mixed Tryz.func55 (by kernel_rfl) (below_succ impl_queueDown_2_lok below_zero) (fun x => by kernel_rfl)

@[reducible] noncomputable def impl_IsBoard_sem : FnSem := .pu (.p tBoard .u) (.p .b .u) [true] (fun x => impl_IsBoard x.1)
noncomputable def impl_IsBoard_G : Env := ⟨GT, [(48, impl_IsMatrix_sem), (49, impl_IsDebouncer_sem), (50, impl_IsCombiner_sem), (51, impl_IsDecider_sem), (52, impl_KeyCount_sem), (53, impl_IsMask_sem), (54, impl_switchesDown_sem), (55, impl_queueDown_sem), (56, impl_heldMask_sem)], [], true, GA, [], []⟩
theorem impl_IsBoard_env : EnvOk Tryz.prog II impl_IsBoard_G := EnvOk.cons impl_IsMatrix_snd (EnvOk.cons impl_IsDebouncer_snd (EnvOk.cons impl_IsCombiner_snd (EnvOk.cons impl_IsDecider_snd (EnvOk.cons impl_KeyCount_snd (EnvOk.cons impl_IsMask_snd (EnvOk.cons impl_switchesDown_snd (EnvOk.cons impl_queueDown_snd (EnvOk.cons impl_heldMask_snd (envOk_nil GT_ok)))))))))
noncomputable def impl_IsBoard_7_ls : LoopSem := ⟨152, ⟨[(1, (.ptr 1 [])), (3, (.data int)), (62, (.data (.sl tCombo))), (63, (.data int)), (64, (.data int))], [(1, tBoard, (.data tBoard))]⟩, 0, ⟨[(1, (.ptr 1 []))], [(1, tBoard, (.data tBoard))]⟩, ⟨[(2, (.data .b))], []⟩, impl_IsBoard_7_loop⟩
noncomputable def impl_IsBoard_17_ls : LoopSem := ⟨152, ⟨[(1, (.ptr 1 [])), (6, (.data int)), (8, (.data int)), (116, (.data (.sl tEvent))), (117, (.data int)), (118, (.data int))], [(1, tBoard, (.data tBoard))]⟩, 2, ⟨[(1, (.ptr 1 [])), (6, (.data int)), (8, (.data int))], [(1, tBoard, (.data tBoard))]⟩, ⟨[], []⟩, impl_IsBoard_17_loop⟩
noncomputable def impl_IsBoard_L : List (Nat × LoopSem) := [(7, impl_IsBoard_7_ls), (17, impl_IsBoard_17_ls)]
theorem impl_IsBoard_7_lok : LoopOk impl_IsBoard_G impl_IsBoard_L (lp Tryz.f10 0) := loopOk_of (r := 7) (ls := impl_IsBoard_7_ls) (R := fun x => impl_IsBoard_7_R x.1.1 x.1.2.1 x.1.2.2.1 x.1.2.2.2.1 x.1.2.2.2.2.1 x.2.1) (by kernel_rfl) (by kernel_rfl) rfl (fun x => by kernel_rfl)
theorem impl_IsBoard_17_lok : LoopOk impl_IsBoard_G impl_IsBoard_L (lp Tryz.f10 1) := loopOk_of (r := 17) (ls := impl_IsBoard_17_ls) (R := fun x => impl_IsBoard_17_R x.1.1 x.1.2.1 x.1.2.2.1 x.1.2.2.2.1 x.1.2.2.2.2.1 x.1.2.2.2.2.2.1 x.2.1) (by kernel_rfl) (by kernel_rfl) rfl (fun x => by kernel_rfl)
theorem impl_IsBoard_snd : Sound Tryz.prog II 10 impl_IsBoard_sem := sound_pu' (L := impl_IsBoard_L) (k := 2) impl_IsBoard_env mixed Tryz.func10 (by kernel_rfl) (below_succ impl_IsBoard_17_lok (below_succ impl_IsBoard_7_lok below_zero)) (fun x => by kernel_rfl)

@[reducible] noncomputable def impl_IsReceiver_sem : FnSem := .pu (.p tReceiver .u) (.p .b .u) [true] (fun x => impl_IsReceiver x.1)
noncomputable def impl_IsReceiver_G : Env := ⟨GT, [], [], true, GA, [], []⟩
theorem impl_IsReceiver_env : EnvOk Tryz.prog II impl_IsReceiver_G := envOk_nil GT_ok
noncomputable def impl_IsReceiver_L : List (Nat × LoopSem) := []
theorem impl_IsReceiver_snd : Sound Tryz.prog II 62 impl_IsReceiver_sem := sound_pu' (L := impl_IsReceiver_L) (k := 0) impl_IsReceiver_env mixed Tryz.func62 (by kernel_rfl) below_zero (fun x => by kernel_rfl)

@[reducible] noncomputable def impl_HalfKeys_sem : FnSem := .pu (.p tHalves .u) (.p int .u) [true] (fun x => impl_HalfKeys x.1)
noncomputable def impl_HalfKeys_G : Env := ⟨GT, [(52, impl_KeyCount_sem)], [], true, GA, [], []⟩
theorem impl_HalfKeys_env : EnvOk Tryz.prog II impl_HalfKeys_G := EnvOk.cons impl_KeyCount_snd (envOk_nil GT_ok)
noncomputable def impl_HalfKeys_L : List (Nat × LoopSem) := []
theorem impl_HalfKeys_snd : Sound Tryz.prog II 63 impl_HalfKeys_sem := sound_pu' (L := impl_HalfKeys_L) (k := 0) impl_HalfKeys_env mixed Tryz.func63 (by kernel_rfl) below_zero (fun x => by kernel_rfl)

@[reducible] noncomputable def impl_IsHalves_sem : FnSem := .pu (.p tHalves .u) (.p .b .u) [true] (fun x => impl_IsHalves x.1)
noncomputable def impl_IsHalves_G : Env := ⟨GT, [(10, impl_IsBoard_sem), (62, impl_IsReceiver_sem), (63, impl_HalfKeys_sem)], [], true, GA, [], []⟩
theorem impl_IsHalves_env : EnvOk Tryz.prog II impl_IsHalves_G := EnvOk.cons impl_IsBoard_snd (EnvOk.cons impl_IsReceiver_snd (EnvOk.cons impl_HalfKeys_snd (envOk_nil GT_ok)))
noncomputable def impl_IsHalves_L : List (Nat × LoopSem) := []
theorem impl_IsHalves_snd : Sound Tryz.prog II 15 impl_IsHalves_sem := sound_pu' (L := impl_IsHalves_L) (k := 0) impl_IsHalves_env mixed Tryz.func15 (by kernel_rfl) below_zero (fun x => by kernel_rfl)

@[reducible] noncomputable def impl_NewHalves_sem : FnSem := .pu (.p tBoard .u) (.p tHalves (.p .b .u)) [true, true] (fun x => impl_NewHalves x.1)
noncomputable def impl_NewHalves_G : Env := ⟨GT, [(77, impl_copyBoard_sem), (94, impl_NewReceiver_sem), (15, impl_IsHalves_sem)], [], true, GA, [], []⟩
theorem impl_NewHalves_env : EnvOk Tryz.prog II impl_NewHalves_G := EnvOk.cons impl_copyBoard_snd (EnvOk.cons impl_NewReceiver_snd (EnvOk.cons impl_IsHalves_snd (envOk_nil GT_ok)))
noncomputable def impl_NewHalves_L : List (Nat × LoopSem) := []
theorem impl_NewHalves_snd : Sound Tryz.prog II 35 impl_NewHalves_sem := sound_pu' (L := impl_NewHalves_L) (k := 0) impl_NewHalves_env mixed Tryz.func35 (by kernel_rfl) below_zero (fun x => by kernel_rfl)

@[reducible] noncomputable def laws_eqMatrix_sem : FnSem := .pu tBoth (.p .b .u) [true] (fun x => laws_eqMatrix x.1 x.2.1)
noncomputable def laws_eqMatrix_G : Env := ⟨GT, [], [], true, GA, [], []⟩
theorem laws_eqMatrix_env : EnvOk Tryz.prog II laws_eqMatrix_G := envOk_nil GT_ok
noncomputable def laws_eqMatrix_L : List (Nat × LoopSem) := []
theorem laws_eqMatrix_snd : Sound Tryz.prog II 57 laws_eqMatrix_sem := sound_pu' (L := laws_eqMatrix_L) (k := 0) laws_eqMatrix_env mixed Tryz.func57 (by kernel_rfl) below_zero (fun x => by kernel_rfl)

@[reducible] noncomputable def laws_eqIntS_sem : FnSem := .pu (.p (.sl int) (.p (.sl int) .u)) (.p .b .u) [true] (fun x => laws_eqIntS x.1 x.2.1)
noncomputable def laws_eqIntS_G : Env := ⟨GT, [], [], true, GA, [], []⟩
theorem laws_eqIntS_env : EnvOk Tryz.prog II laws_eqIntS_G := envOk_nil GT_ok
noncomputable def laws_eqIntS_4_ls : LoopSem := ⟨26, ⟨[(0, (.data (.sl int))), (1, (.data (.sl int))), (5, (.data int))], []⟩, 0, ⟨[], []⟩, ⟨[(4, (.data .b))], []⟩, laws_eqIntS_4_loop⟩
noncomputable def laws_eqIntS_L : List (Nat × LoopSem) := [(4, laws_eqIntS_4_ls)]
theorem laws_eqIntS_4_lok : LoopOk laws_eqIntS_G laws_eqIntS_L (lp Tryz.f78 0) := loopOk_of (r := 4) (ls := laws_eqIntS_4_ls) (R := fun x => laws_eqIntS_4_R x.1.1 x.1.2.1 x.1.2.2.1) (by kernel_rfl) (by kernel_rfl) rfl (fun x => by kernel_rfl)
theorem laws_eqIntS_snd : Sound Tryz.prog II 78 laws_eqIntS_sem := sound_pu' (L := laws_eqIntS_L) (k := 1) laws_eqIntS_env mixed Tryz.func78 (by kernel_rfl) (below_succ laws_eqIntS_4_lok below_zero) (fun x => by kernel_rfl)

@[reducible] noncomputable def laws_eqDebouncer_sem : FnSem := .pu (.p tDebouncer (.p tDebouncer .u)) (.p .b .u) [true] (fun x => laws_eqDebouncer x.1 x.2.1)
noncomputable def laws_eqDebouncer_G : Env := ⟨GT, [(78, laws_eqIntS_sem)], [], true, GA, [], []⟩
theorem laws_eqDebouncer_env : EnvOk Tryz.prog II laws_eqDebouncer_G := EnvOk.cons laws_eqIntS_snd (envOk_nil GT_ok)
noncomputable def laws_eqDebouncer_L : List (Nat × LoopSem) := []
theorem laws_eqDebouncer_snd : Sound Tryz.prog II 26 laws_eqDebouncer_sem := sound_pu' (L := laws_eqDebouncer_L) (k := 0) laws_eqDebouncer_env mixed Tryz.func26 (by kernel_rfl) below_zero (fun x => by kernel_rfl)

@[reducible] noncomputable def laws_eqCombo_sem : FnSem := .pu (.p tCombo (.p tCombo .u)) (.p .b .u) [true] (fun x => laws_eqCombo x.1 x.2.1)
noncomputable def laws_eqCombo_G : Env := ⟨GT, [], [], true, GA, [], []⟩
theorem laws_eqCombo_env : EnvOk Tryz.prog II laws_eqCombo_G := envOk_nil GT_ok
noncomputable def laws_eqCombo_L : List (Nat × LoopSem) := []
theorem laws_eqCombo_snd : Sound Tryz.prog II 127 laws_eqCombo_sem := sound_pu' (L := laws_eqCombo_L) (k := 0) laws_eqCombo_env mixed Tryz.func127 (by kernel_rfl) below_zero (fun x => by kernel_rfl)

@[reducible] noncomputable def laws_eqComboS_sem : FnSem := .pu (.p (.sl tCombo) (.p (.sl tCombo) .u)) (.p .b .u) [true] (fun x => laws_eqComboS x.1 x.2.1)
noncomputable def laws_eqComboS_G : Env := ⟨GT, [(127, laws_eqCombo_sem)], [], true, GA, [], []⟩
theorem laws_eqComboS_env : EnvOk Tryz.prog II laws_eqComboS_G := EnvOk.cons laws_eqCombo_snd (envOk_nil GT_ok)
noncomputable def laws_eqComboS_4_ls : LoopSem := ⟨27, ⟨[(0, (.data (.sl tCombo))), (1, (.data (.sl tCombo))), (5, (.data int))], []⟩, 0, ⟨[], []⟩, ⟨[(4, (.data .b))], []⟩, laws_eqComboS_4_loop⟩
noncomputable def laws_eqComboS_L : List (Nat × LoopSem) := [(4, laws_eqComboS_4_ls)]
theorem laws_eqComboS_4_lok : LoopOk laws_eqComboS_G laws_eqComboS_L (lp Tryz.f79 0) := loopOk_of (r := 4) (ls := laws_eqComboS_4_ls) (R := fun x => laws_eqComboS_4_R x.1.1 x.1.2.1 x.1.2.2.1) (by kernel_rfl) (by kernel_rfl) rfl (fun x => by kernel_rfl)
theorem laws_eqComboS_snd : Sound Tryz.prog II 79 laws_eqComboS_sem := sound_pu' (L := laws_eqComboS_L) (k := 1) laws_eqComboS_env mixed Tryz.func79 (by kernel_rfl) (below_succ laws_eqComboS_4_lok below_zero) (fun x => by kernel_rfl)

@[reducible] noncomputable def laws_eqEvent_sem : FnSem := .pu tBoth (.p .b .u) [true] (fun x => laws_eqEvent x.1 x.2.1)
noncomputable def laws_eqEvent_G : Env := ⟨GT, [], [], true, GA, [], []⟩
theorem laws_eqEvent_env : EnvOk Tryz.prog II laws_eqEvent_G := envOk_nil GT_ok
noncomputable def laws_eqEvent_L : List (Nat × LoopSem) := []
theorem laws_eqEvent_snd : Sound Tryz.prog II 128 laws_eqEvent_sem := sound_pu' (L := laws_eqEvent_L) (k := 0) laws_eqEvent_env mixed Tryz.func128 (by kernel_rfl) below_zero (fun x => by kernel_rfl)

@[reducible] noncomputable def laws_eqEventS_sem : FnSem := .pu (.p (.sl tEvent) (.p (.sl tEvent) .u)) (.p .b .u) [true] (fun x => laws_eqEventS x.1 x.2.1)
noncomputable def laws_eqEventS_G : Env := ⟨GT, [(128, laws_eqEvent_sem)], [], true, GA, [], []⟩
theorem laws_eqEventS_env : EnvOk Tryz.prog II laws_eqEventS_G := EnvOk.cons laws_eqEvent_snd (envOk_nil GT_ok)
noncomputable def laws_eqEventS_4_ls : LoopSem := ⟨27, ⟨[(0, (.data (.sl tEvent))), (1, (.data (.sl tEvent))), (5, (.data int))], []⟩, 0, ⟨[], []⟩, ⟨[(4, (.data .b))], []⟩, laws_eqEventS_4_loop⟩
noncomputable def laws_eqEventS_L : List (Nat × LoopSem) := [(4, laws_eqEventS_4_ls)]
theorem laws_eqEventS_4_lok : LoopOk laws_eqEventS_G laws_eqEventS_L (lp Tryz.f80 0) := loopOk_of (r := 4) (ls := laws_eqEventS_4_ls) (R := fun x => laws_eqEventS_4_R x.1.1 x.1.2.1 x.1.2.2.1) (by kernel_rfl) (by kernel_rfl) rfl (fun x => by kernel_rfl)
theorem laws_eqEventS_snd : Sound Tryz.prog II 80 laws_eqEventS_sem := sound_pu' (L := laws_eqEventS_L) (k := 1) laws_eqEventS_env mixed Tryz.func80 (by kernel_rfl) (below_succ laws_eqEventS_4_lok below_zero) (fun x => by kernel_rfl)

@[reducible] noncomputable def laws_eqActive_sem : FnSem := .pu tBoth (.p .b .u) [true] (fun x => laws_eqActive x.1 x.2.1)
noncomputable def laws_eqActive_G : Env := ⟨GT, [], [], true, GA, [], []⟩
theorem laws_eqActive_env : EnvOk Tryz.prog II laws_eqActive_G := envOk_nil GT_ok
noncomputable def laws_eqActive_L : List (Nat × LoopSem) := []
theorem laws_eqActive_snd : Sound Tryz.prog II 129 laws_eqActive_sem := sound_pu' (L := laws_eqActive_L) (k := 0) laws_eqActive_env mixed Tryz.func129 (by kernel_rfl) below_zero (fun x => by kernel_rfl)

@[reducible] noncomputable def laws_eqActiveS_sem : FnSem := .pu (.p (.sl tEvent) (.p (.sl tEvent) .u)) (.p .b .u) [true] (fun x => laws_eqActiveS x.1 x.2.1)
noncomputable def laws_eqActiveS_G : Env := ⟨GT, [(129, laws_eqActive_sem)], [], true, GA, [], []⟩
theorem laws_eqActiveS_env : EnvOk Tryz.prog II laws_eqActiveS_G := EnvOk.cons laws_eqActive_snd (envOk_nil GT_ok)
noncomputable def laws_eqActiveS_4_ls : LoopSem := ⟨27, ⟨[(0, (.data (.sl tEvent))), (1, (.data (.sl tEvent))), (5, (.data int))], []⟩, 0, ⟨[], []⟩, ⟨[(4, (.data .b))], []⟩, laws_eqActiveS_4_loop⟩
noncomputable def laws_eqActiveS_L : List (Nat × LoopSem) := [(4, laws_eqActiveS_4_ls)]
theorem laws_eqActiveS_4_lok : LoopOk laws_eqActiveS_G laws_eqActiveS_L (lp Tryz.f81 0) := loopOk_of (r := 4) (ls := laws_eqActiveS_4_ls) (R := fun x => laws_eqActiveS_4_R x.1.1 x.1.2.1 x.1.2.2.1) (by kernel_rfl) (by kernel_rfl) rfl (fun x => by kernel_rfl)
theorem laws_eqActiveS_snd : Sound Tryz.prog II 81 laws_eqActiveS_sem := sound_pu' (L := laws_eqActiveS_L) (k := 1) laws_eqActiveS_env mixed Tryz.func81 (by kernel_rfl) (below_succ laws_eqActiveS_4_lok below_zero) (fun x => by kernel_rfl)

@[reducible] noncomputable def laws_eqCombiner_sem : FnSem := .pu (.p tCombiner (.p tCombiner .u)) (.p .b .u) [true] (fun x => laws_eqCombiner x.1 x.2.1)
noncomputable def laws_eqCombiner_G : Env := ⟨GT, [(79, laws_eqComboS_sem), (80, laws_eqEventS_sem), (81, laws_eqActiveS_sem)], [], true, GA, [], []⟩
theorem laws_eqCombiner_env : EnvOk Tryz.prog II laws_eqCombiner_G := EnvOk.cons laws_eqComboS_snd (EnvOk.cons laws_eqEventS_snd (EnvOk.cons laws_eqActiveS_snd (envOk_nil GT_ok)))
noncomputable def laws_eqCombiner_L : List (Nat × LoopSem) := []
theorem laws_eqCombiner_snd : Sound Tryz.prog II 27 laws_eqCombiner_sem := sound_pu' (L := laws_eqCombiner_L) (k := 0) laws_eqCombiner_env mixed Tryz.func27 (by kernel_rfl) below_zero (fun x => by kernel_rfl)

@[reducible] noncomputable def laws_eqAction_sem : FnSem := .pu (.p tAction (.p tAction .u)) (.p .b .u) [true] (fun x => laws_eqAction x.1 x.2.1)
noncomputable def laws_eqAction_G : Env := ⟨GT, [], [], true, GA, [], []⟩
theorem laws_eqAction_env : EnvOk Tryz.prog II laws_eqAction_G := envOk_nil GT_ok
noncomputable def laws_eqAction_L : List (Nat × LoopSem) := []
theorem laws_eqAction_snd : Sound Tryz.prog II 189 laws_eqAction_sem := sound_pu' (L := laws_eqAction_L) (k := 0) laws_eqAction_env mixed Tryz.func189 (by kernel_rfl) below_zero (fun x => by kernel_rfl)

@[reducible] noncomputable def laws_eqActionS_sem : FnSem := .pu (.p (.sl tAction) (.p (.sl tAction) .u)) (.p .b .u) [true] (fun x => laws_eqActionS x.1 x.2.1)
noncomputable def laws_eqActionS_G : Env := ⟨GT, [(189, laws_eqAction_sem)], [], true, GA, [], []⟩
theorem laws_eqActionS_env : EnvOk Tryz.prog II laws_eqActionS_G := EnvOk.cons laws_eqAction_snd (envOk_nil GT_ok)
noncomputable def laws_eqActionS_4_ls : LoopSem := ⟨27, ⟨[(0, (.data (.sl tAction))), (1, (.data (.sl tAction))), (5, (.data int))], []⟩, 0, ⟨[], []⟩, ⟨[(4, (.data .b))], []⟩, laws_eqActionS_4_loop⟩
noncomputable def laws_eqActionS_L : List (Nat × LoopSem) := [(4, laws_eqActionS_4_ls)]
theorem laws_eqActionS_4_lok : LoopOk laws_eqActionS_G laws_eqActionS_L (lp Tryz.f187 0) := loopOk_of (r := 4) (ls := laws_eqActionS_4_ls) (R := fun x => laws_eqActionS_4_R x.1.1 x.1.2.1 x.1.2.2.1) (by kernel_rfl) (by kernel_rfl) rfl (fun x => by kernel_rfl)
theorem laws_eqActionS_snd : Sound Tryz.prog II 187 laws_eqActionS_sem := sound_pu' (L := laws_eqActionS_L) (k := 1) laws_eqActionS_env mixed Tryz.func187 (by kernel_rfl) (below_succ laws_eqActionS_4_lok below_zero) (fun x => by kernel_rfl)

@[reducible] noncomputable def laws_eqActionSS_sem : FnSem := .pu (.p (.sl (.sl tAction)) (.p (.sl (.sl tAction)) .u)) (.p .b .u) [true] (fun x => laws_eqActionSS x.1 x.2.1)
noncomputable def laws_eqActionSS_G : Env := ⟨GT, [(187, laws_eqActionS_sem)], [], true, GA, [], []⟩
theorem laws_eqActionSS_env : EnvOk Tryz.prog II laws_eqActionSS_G := EnvOk.cons laws_eqActionS_snd (envOk_nil GT_ok)
noncomputable def laws_eqActionSS_4_ls : LoopSem := ⟨27, ⟨[(0, (.data (.sl (.sl tAction)))), (1, (.data (.sl (.sl tAction)))), (5, (.data int))], []⟩, 0, ⟨[], []⟩, ⟨[(4, (.data .b))], []⟩, laws_eqActionSS_4_loop⟩
noncomputable def laws_eqActionSS_L : List (Nat × LoopSem) := [(4, laws_eqActionSS_4_ls)]
theorem laws_eqActionSS_4_lok : LoopOk laws_eqActionSS_G laws_eqActionSS_L (lp Tryz.f163 0) := loopOk_of (r := 4) (ls := laws_eqActionSS_4_ls) (R := fun x => laws_eqActionSS_4_R x.1.1 x.1.2.1 x.1.2.2.1) (by kernel_rfl) (by kernel_rfl) rfl (fun x => by kernel_rfl)
theorem laws_eqActionSS_snd : Sound Tryz.prog II 163 laws_eqActionSS_sem := sound_pu' (L := laws_eqActionSS_L) (k := 1) laws_eqActionSS_env mixed Tryz.func163 (by kernel_rfl) (below_succ laws_eqActionSS_4_lok below_zero) (fun x => by kernel_rfl)

@[reducible] noncomputable def laws_eqKeymap_sem : FnSem := .pu (.p tKeymap (.p tKeymap .u)) (.p .b .u) [true] (fun x => laws_eqKeymap x.1 x.2.1)
noncomputable def laws_eqKeymap_G : Env := ⟨GT, [(163, laws_eqActionSS_sem)], [], true, GA, [], []⟩
theorem laws_eqKeymap_env : EnvOk Tryz.prog II laws_eqKeymap_G := EnvOk.cons laws_eqActionSS_snd (envOk_nil GT_ok)
noncomputable def laws_eqKeymap_L : List (Nat × LoopSem) := []
theorem laws_eqKeymap_snd : Sound Tryz.prog II 130 laws_eqKeymap_sem := sound_pu' (L := laws_eqKeymap_L) (k := 0) laws_eqKeymap_env mixed Tryz.func130 (by kernel_rfl) below_zero (fun x => by kernel_rfl)

@[reducible] noncomputable def laws_eqStep_sem : FnSem := .pu (.p tStep (.p tStep .u)) (.p .b .u) [true] (fun x => laws_eqStep x.1 x.2.1)
noncomputable def laws_eqStep_G : Env := ⟨GT, [], [], true, GA, [], []⟩
theorem laws_eqStep_env : EnvOk Tryz.prog II laws_eqStep_G := envOk_nil GT_ok
noncomputable def laws_eqStep_L : List (Nat × LoopSem) := []
theorem laws_eqStep_snd : Sound Tryz.prog II 188 laws_eqStep_sem := sound_pu' (L := laws_eqStep_L) (k := 0) laws_eqStep_env mixed Tryz.func188 (by kernel_rfl) below_zero (fun x => by kernel_rfl)

@[reducible] noncomputable def laws_eqStepS_sem : FnSem := .pu (.p (.sl tStep) (.p (.sl tStep) .u)) (.p .b .u) [true] (fun x => laws_eqStepS x.1 x.2.1)
noncomputable def laws_eqStepS_G : Env := ⟨GT, [(188, laws_eqStep_sem)], [], true, GA, [], []⟩
theorem laws_eqStepS_env : EnvOk Tryz.prog II laws_eqStepS_G := EnvOk.cons laws_eqStep_snd (envOk_nil GT_ok)
noncomputable def laws_eqStepS_4_ls : LoopSem := ⟨27, ⟨[(0, (.data (.sl tStep))), (1, (.data (.sl tStep))), (5, (.data int))], []⟩, 0, ⟨[], []⟩, ⟨[(4, (.data .b))], []⟩, laws_eqStepS_4_loop⟩
noncomputable def laws_eqStepS_L : List (Nat × LoopSem) := [(4, laws_eqStepS_4_ls)]
theorem laws_eqStepS_4_lok : LoopOk laws_eqStepS_G laws_eqStepS_L (lp Tryz.f164 0) := loopOk_of (r := 4) (ls := laws_eqStepS_4_ls) (R := fun x => laws_eqStepS_4_R x.1.1 x.1.2.1 x.1.2.2.1) (by kernel_rfl) (by kernel_rfl) rfl (fun x => by kernel_rfl)
theorem laws_eqStepS_snd : Sound Tryz.prog II 164 laws_eqStepS_sem := sound_pu' (L := laws_eqStepS_L) (k := 1) laws_eqStepS_env mixed Tryz.func164 (by kernel_rfl) (below_succ laws_eqStepS_4_lok below_zero) (fun x => by kernel_rfl)

@[reducible] noncomputable def laws_eqStepSS_sem : FnSem := .pu (.p (.sl (.sl tStep)) (.p (.sl (.sl tStep)) .u)) (.p .b .u) [true] (fun x => laws_eqStepSS x.1 x.2.1)
noncomputable def laws_eqStepSS_G : Env := ⟨GT, [(164, laws_eqStepS_sem)], [], true, GA, [], []⟩
theorem laws_eqStepSS_env : EnvOk Tryz.prog II laws_eqStepSS_G := EnvOk.cons laws_eqStepS_snd (envOk_nil GT_ok)
noncomputable def laws_eqStepSS_4_ls : LoopSem := ⟨27, ⟨[(0, (.data (.sl (.sl tStep)))), (1, (.data (.sl (.sl tStep)))), (5, (.data int))], []⟩, 0, ⟨[], []⟩, ⟨[(4, (.data .b))], []⟩, laws_eqStepSS_4_loop⟩
noncomputable def laws_eqStepSS_L : List (Nat × LoopSem) := [(4, laws_eqStepSS_4_ls)]
theorem laws_eqStepSS_4_lok : LoopOk laws_eqStepSS_G laws_eqStepSS_L (lp Tryz.f131 0) := loopOk_of (r := 4) (ls := laws_eqStepSS_4_ls) (R := fun x => laws_eqStepSS_4_R x.1.1 x.1.2.1 x.1.2.2.1) (by kernel_rfl) (by kernel_rfl) rfl (fun x => by kernel_rfl)
theorem laws_eqStepSS_snd : Sound Tryz.prog II 131 laws_eqStepSS_sem := sound_pu' (L := laws_eqStepSS_L) (k := 1) laws_eqStepSS_env mixed Tryz.func131 (by kernel_rfl) (below_succ laws_eqStepSS_4_lok below_zero) (fun x => by kernel_rfl)

@[reducible] noncomputable def laws_eqHeld_sem : FnSem := .pu (.p tHeld (.p tHeld .u)) (.p .b .u) [true] (fun x => laws_eqHeld x.1 x.2.1)
noncomputable def laws_eqHeld_G : Env := ⟨GT, [(189, laws_eqAction_sem)], [], true, GA, [], []⟩
theorem laws_eqHeld_env : EnvOk Tryz.prog II laws_eqHeld_G := EnvOk.cons laws_eqAction_snd (envOk_nil GT_ok)
noncomputable def laws_eqHeld_L : List (Nat × LoopSem) := []
theorem laws_eqHeld_snd : Sound Tryz.prog II 165 laws_eqHeld_sem := sound_pu' (L := laws_eqHeld_L) (k := 0) laws_eqHeld_env mixed Tryz.func165 (by kernel_rfl) below_zero (fun x => by kernel_rfl)

@[reducible] noncomputable def laws_eqHeldS_sem : FnSem := .pu (.p (.sl tHeld) (.p (.sl tHeld) .u)) (.p .b .u) [true] (fun x => laws_eqHeldS x.1 x.2.1)
noncomputable def laws_eqHeldS_G : Env := ⟨GT, [(165, laws_eqHeld_sem)], [], true, GA, [], []⟩
theorem laws_eqHeldS_env : EnvOk Tryz.prog II laws_eqHeldS_G := EnvOk.cons laws_eqHeld_snd (envOk_nil GT_ok)
noncomputable def laws_eqHeldS_4_ls : LoopSem := ⟨27, ⟨[(0, (.data (.sl tHeld))), (1, (.data (.sl tHeld))), (5, (.data int))], []⟩, 0, ⟨[], []⟩, ⟨[(4, (.data .b))], []⟩, laws_eqHeldS_4_loop⟩
noncomputable def laws_eqHeldS_L : List (Nat × LoopSem) := [(4, laws_eqHeldS_4_ls)]
theorem laws_eqHeldS_4_lok : LoopOk laws_eqHeldS_G laws_eqHeldS_L (lp Tryz.f132 0) := loopOk_of (r := 4) (ls := laws_eqHeldS_4_ls) (R := fun x => laws_eqHeldS_4_R x.1.1 x.1.2.1 x.1.2.2.1) (by kernel_rfl) (by kernel_rfl) rfl (fun x => by kernel_rfl)
theorem laws_eqHeldS_snd : Sound Tryz.prog II 132 laws_eqHeldS_sem := sound_pu' (L := laws_eqHeldS_L) (k := 1) laws_eqHeldS_env mixed Tryz.func132 (by kernel_rfl) (below_succ laws_eqHeldS_4_lok below_zero) (fun x => by kernel_rfl)

@[reducible] noncomputable def laws_eqEngine_sem : FnSem := .pu (.p tEngine (.p tEngine .u)) (.p .b .u) [true] (fun x => laws_eqEngine x.1 x.2.1)
noncomputable def laws_eqEngine_G : Env := ⟨GT, [(130, laws_eqKeymap_sem), (131, laws_eqStepSS_sem), (132, laws_eqHeldS_sem)], [], true, GA, [], []⟩
theorem laws_eqEngine_env : EnvOk Tryz.prog II laws_eqEngine_G := EnvOk.cons laws_eqKeymap_snd (EnvOk.cons laws_eqStepSS_snd (EnvOk.cons laws_eqHeldS_snd (envOk_nil GT_ok)))
noncomputable def laws_eqEngine_L : List (Nat × LoopSem) := []
theorem laws_eqEngine_snd : Sound Tryz.prog II 82 laws_eqEngine_sem := sound_pu' (L := laws_eqEngine_L) (k := 0) laws_eqEngine_env mixed Tryz.func82 (by kernel_rfl) below_zero (fun x => by kernel_rfl)

@[reducible] noncomputable def laws_eqTiming_sem : FnSem := .pu (.p tStep (.p tStep .u)) (.p .b .u) [true] (fun x => laws_eqTiming x.1 x.2.1)
noncomputable def laws_eqTiming_G : Env := ⟨GT, [], [], true, GA, [], []⟩
theorem laws_eqTiming_env : EnvOk Tryz.prog II laws_eqTiming_G := envOk_nil GT_ok
noncomputable def laws_eqTiming_L : List (Nat × LoopSem) := []
theorem laws_eqTiming_snd : Sound Tryz.prog II 83 laws_eqTiming_sem := sound_pu' (L := laws_eqTiming_L) (k := 0) laws_eqTiming_env mixed Tryz.func83 (by kernel_rfl) below_zero (fun x => by kernel_rfl)

@[reducible] noncomputable def laws_eqDecider_sem : FnSem := .pu (.p tDecider (.p tDecider .u)) (.p .b .u) [true] (fun x => laws_eqDecider x.1 x.2.1)
noncomputable def laws_eqDecider_G : Env := ⟨GT, [(82, laws_eqEngine_sem), (83, laws_eqTiming_sem), (80, laws_eqEventS_sem)], [], true, GA, [], []⟩
theorem laws_eqDecider_env : EnvOk Tryz.prog II laws_eqDecider_G := EnvOk.cons laws_eqEngine_snd (EnvOk.cons laws_eqTiming_snd (EnvOk.cons laws_eqEventS_snd (envOk_nil GT_ok)))
noncomputable def laws_eqDecider_L : List (Nat × LoopSem) := []
theorem laws_eqDecider_snd : Sound Tryz.prog II 28 laws_eqDecider_sem := sound_pu' (L := laws_eqDecider_L) (k := 0) laws_eqDecider_env mixed Tryz.func28 (by kernel_rfl) below_zero (fun x => by kernel_rfl)

@[reducible] noncomputable def laws_eqBoard_sem : FnSem := .pu (.p tBoard (.p tBoard .u)) (.p .b .u) [true] (fun x => laws_eqBoard x.1 x.2.1)
noncomputable def laws_eqBoard_G : Env := ⟨GT, [(57, laws_eqMatrix_sem), (26, laws_eqDebouncer_sem), (27, laws_eqCombiner_sem), (28, laws_eqDecider_sem)], [], true, GA, [], []⟩
theorem laws_eqBoard_env : EnvOk Tryz.prog II laws_eqBoard_G := EnvOk.cons laws_eqMatrix_snd (EnvOk.cons laws_eqDebouncer_snd (EnvOk.cons laws_eqCombiner_snd (EnvOk.cons laws_eqDecider_snd (envOk_nil GT_ok))))
noncomputable def laws_eqBoard_L : List (Nat × LoopSem) := []
theorem laws_eqBoard_snd : Sound Tryz.prog II 11 laws_eqBoard_sem := sound_pu' (L := laws_eqBoard_L) (k := 0) laws_eqBoard_env mixed Tryz.func11 (by kernel_rfl) below_zero (fun x => by kernel_rfl)

@[reducible] noncomputable def laws_eqByteS_sem : FnSem := .pu (.p (.sl byte) (.p (.sl byte) .u)) (.p .b .u) [true] (fun x => laws_eqByteS x.1 x.2.1)
noncomputable def laws_eqByteS_G : Env := ⟨GT, [], [], true, GA, [], []⟩
theorem laws_eqByteS_env : EnvOk Tryz.prog II laws_eqByteS_G := envOk_nil GT_ok
noncomputable def laws_eqByteS_4_ls : LoopSem := ⟨26, ⟨[(0, (.data (.sl byte))), (1, (.data (.sl byte))), (5, (.data int))], []⟩, 0, ⟨[], []⟩, ⟨[(4, (.data .b))], []⟩, laws_eqByteS_4_loop⟩
noncomputable def laws_eqByteS_L : List (Nat × LoopSem) := [(4, laws_eqByteS_4_ls)]
theorem laws_eqByteS_4_lok : LoopOk laws_eqByteS_G laws_eqByteS_L (lp Tryz.f112 0) := loopOk_of (r := 4) (ls := laws_eqByteS_4_ls) (R := fun x => laws_eqByteS_4_R x.1.1 x.1.2.1 x.1.2.2.1) (by kernel_rfl) (by kernel_rfl) rfl (fun x => by kernel_rfl)
theorem laws_eqByteS_snd : Sound Tryz.prog II 112 laws_eqByteS_sem := sound_pu' (L := laws_eqByteS_L) (k := 1) laws_eqByteS_env mixed Tryz.func112 (by kernel_rfl) (below_succ laws_eqByteS_4_lok below_zero) (fun x => by kernel_rfl)

@[reducible] noncomputable def laws_eqReceiver_sem : FnSem := .pu (.p tReceiver (.p tReceiver .u)) (.p .b .u) [true] (fun x => laws_eqReceiver x.1 x.2.1)
noncomputable def laws_eqReceiver_G : Env := ⟨GT, [(112, laws_eqByteS_sem)], [], true, GA, [], []⟩
theorem laws_eqReceiver_env : EnvOk Tryz.prog II laws_eqReceiver_G := EnvOk.cons laws_eqByteS_snd (envOk_nil GT_ok)
noncomputable def laws_eqReceiver_L : List (Nat × LoopSem) := []
theorem laws_eqReceiver_snd : Sound Tryz.prog II 64 laws_eqReceiver_sem := sound_pu' (L := laws_eqReceiver_L) (k := 0) laws_eqReceiver_env mixed Tryz.func64 (by kernel_rfl) below_zero (fun x => by kernel_rfl)

@[reducible] noncomputable def laws_eqHalves_sem : FnSem := .pu (.p tHalves (.p tHalves .u)) (.p .b .u) [true] (fun x => laws_eqHalves x.1 x.2.1)
noncomputable def laws_eqHalves_G : Env := ⟨GT, [(11, laws_eqBoard_sem), (64, laws_eqReceiver_sem)], [], true, GA, [], []⟩
theorem laws_eqHalves_env : EnvOk Tryz.prog II laws_eqHalves_G := EnvOk.cons laws_eqBoard_snd (EnvOk.cons laws_eqReceiver_snd (envOk_nil GT_ok))
noncomputable def laws_eqHalves_L : List (Nat × LoopSem) := []
theorem laws_eqHalves_snd : Sound Tryz.prog II 16 laws_eqHalves_sem := sound_pu' (L := laws_eqHalves_L) (k := 0) laws_eqHalves_env mixed Tryz.func16 (by kernel_rfl) below_zero (fun x => by kernel_rfl)

@[reducible] noncomputable def laws_markIntS_sem : FnSem := .io (.sl int) (.p int .u) (.p int .u) [true] (fun x0 x => laws_markIntS x0 x.1)
noncomputable def laws_markIntS_G : Env := ⟨GT, [], [], false, GA, [], []⟩
theorem laws_markIntS_env : EnvOk Tryz.prog II laws_markIntS_G := envOk_nil GT_ok
noncomputable def laws_markIntS_2_ls : LoopSem := ⟨19, ⟨[(0, (.own 500000 int true)), (1, (.data int)), (5, (.data int))], []⟩, 0, ⟨[(0, (.own 500000 int true)), (1, (.data int))], []⟩, ⟨[], []⟩, laws_markIntS_2_loop⟩
noncomputable def laws_markIntS_L : List (Nat × LoopSem) := [(2, laws_markIntS_2_ls)]
theorem laws_markIntS_2_lok : LoopOk laws_markIntS_G laws_markIntS_L (lp Tryz.f84 0) := loopOk_of (r := 2) (ls := laws_markIntS_2_ls) (R := fun x => laws_markIntS_2_R x.1.1 x.1.2.1 x.1.2.2.1) (by kernel_rfl) (by kernel_rfl) rfl (fun x => by kernel_rfl)
theorem laws_markIntS_snd : Sound Tryz.prog II 84 laws_markIntS_sem := sound_io' (L := laws_markIntS_L) (k := 1) laws_markIntS_env rfl mixed Tryz.func84 (by kernel_rfl) (below_succ laws_markIntS_2_lok below_zero) (fun x0 x => by kernel_rfl)

@[reducible] noncomputable def laws_markDebouncer_sem : FnSem := .io tDebouncer (.p int .u) (.p int .u) [true] (fun x0 x => laws_markDebouncer x0 x.1)
noncomputable def laws_markDebouncer_G : Env := ⟨GT, [(84, laws_markIntS_sem)], [], false, GA, [], []⟩
theorem laws_markDebouncer_env : EnvOk Tryz.prog II laws_markDebouncer_G := EnvOk.cons laws_markIntS_snd (envOk_nil GT_ok)
noncomputable def laws_markDebouncer_L : List (Nat × LoopSem) := []
theorem laws_markDebouncer_snd : Sound Tryz.prog II 29 laws_markDebouncer_sem := sound_io' (L := laws_markDebouncer_L) (k := 0) laws_markDebouncer_env rfl mixed Tryz.func29 (by kernel_rfl) below_zero (fun x0 x => by kernel_rfl)

@[reducible] noncomputable def laws_markComboS_sem : FnSem := .io (.sl tCombo) (.p int .u) (.p int .u) [true] (fun x0 x => laws_markComboS x0 x.1)
noncomputable def laws_markComboS_G : Env := ⟨GT, [], [], false, GA, [], []⟩
theorem laws_markComboS_env : EnvOk Tryz.prog II laws_markComboS_G := envOk_nil GT_ok
noncomputable def laws_markComboS_2_ls : LoopSem := ⟨27, ⟨[(0, (.own 500000 tCombo true)), (1, (.data int)), (5, (.data int))], []⟩, 0, ⟨[(0, (.own 500000 tCombo true)), (1, (.data int))], []⟩, ⟨[], []⟩, laws_markComboS_2_loop⟩
noncomputable def laws_markComboS_L : List (Nat × LoopSem) := [(2, laws_markComboS_2_ls)]
theorem laws_markComboS_2_lok : LoopOk laws_markComboS_G laws_markComboS_L (lp Tryz.f85 0) := loopOk_of (r := 2) (ls := laws_markComboS_2_ls) (R := fun x => laws_markComboS_2_R x.1.1 x.1.2.1 x.1.2.2.1) (by kernel_rfl) (by kernel_rfl) rfl (fun x => by kernel_rfl)
theorem laws_markComboS_snd : Sound Tryz.prog II 85 laws_markComboS_sem := sound_io' (L := laws_markComboS_L) (k := 1) laws_markComboS_env rfl mixed Tryz.func85 (by kernel_rfl) (below_succ laws_markComboS_2_lok below_zero) (fun x0 x => by kernel_rfl)

@[reducible] noncomputable def laws_markEventS_sem : FnSem := .io (.sl tEvent) (.p int .u) (.p int .u) [true] (fun x0 x => laws_markEventS x0 x.1)
noncomputable def laws_markEventS_G : Env := ⟨GT, [], [], false, GA, [], []⟩
theorem laws_markEventS_env : EnvOk Tryz.prog II laws_markEventS_G := envOk_nil GT_ok
noncomputable def laws_markEventS_2_ls : LoopSem := ⟨36, ⟨[(0, (.own 500000 tEvent true)), (1, (.data int)), (5, (.data int))], []⟩, 0, ⟨[(0, (.own 500000 tEvent true)), (1, (.data int))], []⟩, ⟨[], []⟩, laws_markEventS_2_loop⟩
noncomputable def laws_markEventS_L : List (Nat × LoopSem) := [(2, laws_markEventS_2_ls)]
theorem laws_markEventS_2_lok : LoopOk laws_markEventS_G laws_markEventS_L (lp Tryz.f86 0) := loopOk_of (r := 2) (ls := laws_markEventS_2_ls) (R := fun x => laws_markEventS_2_R x.1.1 x.1.2.1 x.1.2.2.1) (by kernel_rfl) (by kernel_rfl) rfl (fun x => by kernel_rfl)
theorem laws_markEventS_snd : Sound Tryz.prog II 86 laws_markEventS_sem := sound_io' (L := laws_markEventS_L) (k := 1) laws_markEventS_env rfl mixed Tryz.func86 (by kernel_rfl) (below_succ laws_markEventS_2_lok below_zero) (fun x0 x => by kernel_rfl)

@[reducible] noncomputable def laws_markActiveS_sem : FnSem := .io (.sl tEvent) (.p int .u) (.p int .u) [true] (fun x0 x => laws_markActiveS x0 x.1)
noncomputable def laws_markActiveS_G : Env := ⟨GT, [], [], false, GA, [], []⟩
theorem laws_markActiveS_env : EnvOk Tryz.prog II laws_markActiveS_G := envOk_nil GT_ok
noncomputable def laws_markActiveS_2_ls : LoopSem := ⟨36, ⟨[(0, (.own 500000 tEvent true)), (1, (.data int)), (5, (.data int))], []⟩, 0, ⟨[(0, (.own 500000 tEvent true)), (1, (.data int))], []⟩, ⟨[], []⟩, laws_markActiveS_2_loop⟩
noncomputable def laws_markActiveS_L : List (Nat × LoopSem) := [(2, laws_markActiveS_2_ls)]
theorem laws_markActiveS_2_lok : LoopOk laws_markActiveS_G laws_markActiveS_L (lp Tryz.f87 0) := loopOk_of (r := 2) (ls := laws_markActiveS_2_ls) (R := fun x => laws_markActiveS_2_R x.1.1 x.1.2.1 x.1.2.2.1) (by kernel_rfl) (by kernel_rfl) rfl (fun x => by kernel_rfl)
theorem laws_markActiveS_snd : Sound Tryz.prog II 87 laws_markActiveS_sem := sound_io' (L := laws_markActiveS_L) (k := 1) laws_markActiveS_env rfl mixed Tryz.func87 (by kernel_rfl) (below_succ laws_markActiveS_2_lok below_zero) (fun x0 x => by kernel_rfl)

@[reducible] noncomputable def laws_markCombiner_sem : FnSem := .io tCombiner (.p int .u) (.p int .u) [true] (fun x0 x => laws_markCombiner x0 x.1)
noncomputable def laws_markCombiner_G : Env := ⟨GT, [(85, laws_markComboS_sem), (86, laws_markEventS_sem), (87, laws_markActiveS_sem)], [], false, GA, [], []⟩
theorem laws_markCombiner_env : EnvOk Tryz.prog II laws_markCombiner_G := EnvOk.cons laws_markComboS_snd (EnvOk.cons laws_markEventS_snd (EnvOk.cons laws_markActiveS_snd (envOk_nil GT_ok)))
noncomputable def laws_markCombiner_L : List (Nat × LoopSem) := []
theorem laws_markCombiner_snd : Sound Tryz.prog II 30 laws_markCombiner_sem := sound_io' (L := laws_markCombiner_L) (k := 0) laws_markCombiner_env rfl mixed Tryz.func30 (by kernel_rfl) below_zero (fun x0 x => by kernel_rfl)

@[reducible] noncomputable def laws_markActionS_sem : FnSem := .io (.sl tAction) (.p int .u) (.p int .u) [true] (fun x0 x => laws_markActionS x0 x.1)
noncomputable def laws_markActionS_G : Env := ⟨GT, [], [], false, GA, [], []⟩
theorem laws_markActionS_env : EnvOk Tryz.prog II laws_markActionS_G := envOk_nil GT_ok
noncomputable def laws_markActionS_2_ls : LoopSem := ⟨41, ⟨[(0, (.own 500000 tAction true)), (1, (.data int)), (5, (.data int))], []⟩, 0, ⟨[(0, (.own 500000 tAction true)), (1, (.data int))], []⟩, ⟨[], []⟩, laws_markActionS_2_loop⟩
noncomputable def laws_markActionS_L : List (Nat × LoopSem) := [(2, laws_markActionS_2_ls)]
theorem laws_markActionS_2_lok : LoopOk laws_markActionS_G laws_markActionS_L (lp Tryz.f190 0) := loopOk_of (r := 2) (ls := laws_markActionS_2_ls) (R := fun x => laws_markActionS_2_R x.1.1 x.1.2.1 x.1.2.2.1) (by kernel_rfl) (by kernel_rfl) rfl (fun x => by kernel_rfl)
theorem laws_markActionS_snd : Sound Tryz.prog II 190 laws_markActionS_sem := sound_io' (L := laws_markActionS_L) (k := 1) laws_markActionS_env rfl mixed Tryz.func190 (by kernel_rfl) (below_succ laws_markActionS_2_lok below_zero) (fun x0 x => by kernel_rfl)

@[reducible] noncomputable def laws_markActionSS_sem : FnSem := .io (.sl (.sl tAction)) (.p int .u) (.p int .u) [true] (fun x0 x => laws_markActionSS x0 x.1)
noncomputable def laws_markActionSS_G : Env := ⟨GT, [(190, laws_markActionS_sem)], [(3999, 500000)], false, GA, [], []⟩
theorem laws_markActionSS_env : EnvOk Tryz.prog II laws_markActionSS_G := EnvOk.cons laws_markActionS_snd (envOk_nil GT_ok)
noncomputable def laws_markActionSS_2_ls : LoopSem := ⟨19, ⟨[(0, (.own 500000 (.sl tAction) true)), (1, (.data int)), (5, (.data int))], []⟩, 0, ⟨[(0, (.own 500000 (.sl tAction) true)), (1, (.data int))], []⟩, ⟨[], []⟩, laws_markActionSS_2_loop⟩
noncomputable def laws_markActionSS_L : List (Nat × LoopSem) := [(2, laws_markActionSS_2_ls)]
theorem laws_markActionSS_2_lok : LoopOk laws_markActionSS_G laws_markActionSS_L (lp Tryz.f166 0) := loopOk_of (r := 2) (ls := laws_markActionSS_2_ls) (R := fun x => laws_markActionSS_2_R x.1.1 x.1.2.1 x.1.2.2.1) (by kernel_rfl) (by kernel_rfl) rfl (fun x => by kernel_rfl)
theorem laws_markActionSS_snd : Sound Tryz.prog II 166 laws_markActionSS_sem := sound_io' (L := laws_markActionSS_L) (k := 1) laws_markActionSS_env rfl mixed Tryz.func166 (by kernel_rfl) (below_succ laws_markActionSS_2_lok below_zero) (fun x0 x => by kernel_rfl)

@[reducible] noncomputable def laws_markKeymap_sem : FnSem := .io tKeymap (.p int .u) (.p int .u) [true] (fun x0 x => laws_markKeymap x0 x.1)
noncomputable def laws_markKeymap_G : Env := ⟨GT, [(166, laws_markActionSS_sem)], [], false, GA, [], []⟩
theorem laws_markKeymap_env : EnvOk Tryz.prog II laws_markKeymap_G := EnvOk.cons laws_markActionSS_snd (envOk_nil GT_ok)
noncomputable def laws_markKeymap_L : List (Nat × LoopSem) := []
theorem laws_markKeymap_snd : Sound Tryz.prog II 133 laws_markKeymap_sem := sound_io' (L := laws_markKeymap_L) (k := 0) laws_markKeymap_env rfl mixed Tryz.func133 (by kernel_rfl) below_zero (fun x0 x => by kernel_rfl)

@[reducible] noncomputable def laws_markStepS_sem : FnSem := .io (.sl tStep) (.p int .u) (.p int .u) [true] (fun x0 x => laws_markStepS x0 x.1)
noncomputable def laws_markStepS_G : Env := ⟨GT, [], [], false, GA, [], []⟩
theorem laws_markStepS_env : EnvOk Tryz.prog II laws_markStepS_G := envOk_nil GT_ok
noncomputable def laws_markStepS_2_ls : LoopSem := ⟨34, ⟨[(0, (.own 500000 tStep true)), (1, (.data int)), (5, (.data int))], []⟩, 0, ⟨[(0, (.own 500000 tStep true)), (1, (.data int))], []⟩, ⟨[], []⟩, laws_markStepS_2_loop⟩
noncomputable def laws_markStepS_L : List (Nat × LoopSem) := [(2, laws_markStepS_2_ls)]
theorem laws_markStepS_2_lok : LoopOk laws_markStepS_G laws_markStepS_L (lp Tryz.f167 0) := loopOk_of (r := 2) (ls := laws_markStepS_2_ls) (R := fun x => laws_markStepS_2_R x.1.1 x.1.2.1 x.1.2.2.1) (by kernel_rfl) (by kernel_rfl) rfl (fun x => by kernel_rfl)
theorem laws_markStepS_snd : Sound Tryz.prog II 167 laws_markStepS_sem := sound_io' (L := laws_markStepS_L) (k := 1) laws_markStepS_env rfl mixed Tryz.func167 (by kernel_rfl) (below_succ laws_markStepS_2_lok below_zero) (fun x0 x => by kernel_rfl)

@[reducible] noncomputable def laws_markStepSS_sem : FnSem := .io (.sl (.sl tStep)) (.p int .u) (.p int .u) [true] (fun x0 x => laws_markStepSS x0 x.1)
noncomputable def laws_markStepSS_G : Env := ⟨GT, [(167, laws_markStepS_sem)], [(3999, 500000)], false, GA, [], []⟩
theorem laws_markStepSS_env : EnvOk Tryz.prog II laws_markStepSS_G := EnvOk.cons laws_markStepS_snd (envOk_nil GT_ok)
noncomputable def laws_markStepSS_2_ls : LoopSem := ⟨19, ⟨[(0, (.own 500000 (.sl tStep) true)), (1, (.data int)), (5, (.data int))], []⟩, 0, ⟨[(0, (.own 500000 (.sl tStep) true)), (1, (.data int))], []⟩, ⟨[], []⟩, laws_markStepSS_2_loop⟩
noncomputable def laws_markStepSS_L : List (Nat × LoopSem) := [(2, laws_markStepSS_2_ls)]
theorem laws_markStepSS_2_lok : LoopOk laws_markStepSS_G laws_markStepSS_L (lp Tryz.f134 0) := loopOk_of (r := 2) (ls := laws_markStepSS_2_ls) (R := fun x => laws_markStepSS_2_R x.1.1 x.1.2.1 x.1.2.2.1) (by kernel_rfl) (by kernel_rfl) rfl (fun x => by kernel_rfl)
theorem laws_markStepSS_snd : Sound Tryz.prog II 134 laws_markStepSS_sem := sound_io' (L := laws_markStepSS_L) (k := 1) laws_markStepSS_env rfl mixed Tryz.func134 (by kernel_rfl) (below_succ laws_markStepSS_2_lok below_zero) (fun x0 x => by kernel_rfl)

@[reducible] noncomputable def laws_markHeldS_sem : FnSem := .io (.sl tHeld) (.p int .u) (.p int .u) [true] (fun x0 x => laws_markHeldS x0 x.1)
noncomputable def laws_markHeldS_G : Env := ⟨GT, [], [], false, GA, [], []⟩
theorem laws_markHeldS_env : EnvOk Tryz.prog II laws_markHeldS_G := envOk_nil GT_ok
noncomputable def laws_markHeldS_2_ls : LoopSem := ⟨52, ⟨[(0, (.own 500000 tHeld true)), (1, (.data int)), (5, (.data int))], []⟩, 0, ⟨[(0, (.own 500000 tHeld true)), (1, (.data int))], []⟩, ⟨[], []⟩, laws_markHeldS_2_loop⟩
noncomputable def laws_markHeldS_L : List (Nat × LoopSem) := [(2, laws_markHeldS_2_ls)]
theorem laws_markHeldS_2_lok : LoopOk laws_markHeldS_G laws_markHeldS_L (lp Tryz.f135 0) := loopOk_of (r := 2) (ls := laws_markHeldS_2_ls) (R := fun x => laws_markHeldS_2_R x.1.1 x.1.2.1 x.1.2.2.1) (by kernel_rfl) (by kernel_rfl) rfl (fun x => by kernel_rfl)
theorem laws_markHeldS_snd : Sound Tryz.prog II 135 laws_markHeldS_sem := sound_io' (L := laws_markHeldS_L) (k := 1) laws_markHeldS_env rfl mixed Tryz.func135 (by kernel_rfl) (below_succ laws_markHeldS_2_lok below_zero) (fun x0 x => by kernel_rfl)

@[reducible] noncomputable def laws_markEngine_sem : FnSem := .io tEngine (.p int .u) (.p int .u) [true] (fun x0 x => laws_markEngine x0 x.1)
noncomputable def laws_markEngine_G : Env := ⟨GT, [(133, laws_markKeymap_sem), (134, laws_markStepSS_sem), (135, laws_markHeldS_sem)], [], false, GA, [], []⟩
theorem laws_markEngine_env : EnvOk Tryz.prog II laws_markEngine_G := EnvOk.cons laws_markKeymap_snd (EnvOk.cons laws_markStepSS_snd (EnvOk.cons laws_markHeldS_snd (envOk_nil GT_ok)))
noncomputable def laws_markEngine_L : List (Nat × LoopSem) := []
theorem laws_markEngine_snd : Sound Tryz.prog II 88 laws_markEngine_sem := sound_io' (L := laws_markEngine_L) (k := 0) laws_markEngine_env rfl mixed Tryz.func88 (by kernel_rfl) below_zero (fun x0 x => by kernel_rfl)

@[reducible] noncomputable def laws_markDecider_sem : FnSem := .io tDecider (.p int .u) (.p int .u) [true] (fun x0 x => laws_markDecider x0 x.1)
noncomputable def laws_markDecider_G : Env := ⟨GT, [(88, laws_markEngine_sem), (86, laws_markEventS_sem)], [], false, GA, [], []⟩
theorem laws_markDecider_env : EnvOk Tryz.prog II laws_markDecider_G := EnvOk.cons laws_markEngine_snd (EnvOk.cons laws_markEventS_snd (envOk_nil GT_ok))
noncomputable def laws_markDecider_L : List (Nat × LoopSem) := []
theorem laws_markDecider_snd : Sound Tryz.prog II 31 laws_markDecider_sem := sound_io' (L := laws_markDecider_L) (k := 0) laws_markDecider_env rfl mixed Tryz.func31 (by kernel_rfl) below_zero (fun x0 x => by kernel_rfl)

@[reducible] noncomputable def laws_markBoard_sem : FnSem := .io tBoard (.p int .u) (.p int .u) [true] (fun x0 x => laws_markBoard x0 x.1)
noncomputable def laws_markBoard_G : Env := ⟨GT, [(29, laws_markDebouncer_sem), (30, laws_markCombiner_sem), (31, laws_markDecider_sem)], [], false, GA, [], []⟩
theorem laws_markBoard_env : EnvOk Tryz.prog II laws_markBoard_G := EnvOk.cons laws_markDebouncer_snd (EnvOk.cons laws_markCombiner_snd (EnvOk.cons laws_markDecider_snd (envOk_nil GT_ok)))
noncomputable def laws_markBoard_L : List (Nat × LoopSem) := []
theorem laws_markBoard_snd : Sound Tryz.prog II 32 laws_markBoard_sem := sound_io' (L := laws_markBoard_L) (k := 0) laws_markBoard_env rfl mixed Tryz.func32 (by kernel_rfl) below_zero (fun x0 x => by kernel_rfl)

@[reducible] noncomputable def laws_markByteS_sem : FnSem := .io (.sl byte) (.p int .u) (.p int .u) [true] (fun x0 x => laws_markByteS x0 x.1)
noncomputable def laws_markByteS_G : Env := ⟨GT, [], [], false, GA, [], []⟩
theorem laws_markByteS_env : EnvOk Tryz.prog II laws_markByteS_G := envOk_nil GT_ok
noncomputable def laws_markByteS_2_ls : LoopSem := ⟨20, ⟨[(0, (.own 500000 byte true)), (1, (.data int)), (5, (.data int))], []⟩, 0, ⟨[(0, (.own 500000 byte true)), (1, (.data int))], []⟩, ⟨[], []⟩, laws_markByteS_2_loop⟩
noncomputable def laws_markByteS_L : List (Nat × LoopSem) := [(2, laws_markByteS_2_ls)]
theorem laws_markByteS_2_lok : LoopOk laws_markByteS_G laws_markByteS_L (lp Tryz.f141 0) := loopOk_of (r := 2) (ls := laws_markByteS_2_ls) (R := fun x => laws_markByteS_2_R x.1.1 x.1.2.1 x.1.2.2.1) (by kernel_rfl) (by kernel_rfl) rfl (fun x => by kernel_rfl)
theorem laws_markByteS_snd : Sound Tryz.prog II 141 laws_markByteS_sem := sound_io' (L := laws_markByteS_L) (k := 1) laws_markByteS_env rfl mixed Tryz.func141 (by kernel_rfl) (below_succ laws_markByteS_2_lok below_zero) (fun x0 x => by kernel_rfl)

@[reducible] noncomputable def laws_markReceiver_sem : FnSem := .io tReceiver (.p int .u) (.p int .u) [true] (fun x0 x => laws_markReceiver x0 x.1)
noncomputable def laws_markReceiver_G : Env := ⟨GT, [(141, laws_markByteS_sem)], [], false, GA, [], []⟩
theorem laws_markReceiver_env : EnvOk Tryz.prog II laws_markReceiver_G := EnvOk.cons laws_markByteS_snd (envOk_nil GT_ok)
noncomputable def laws_markReceiver_L : List (Nat × LoopSem) := []
theorem laws_markReceiver_snd : Sound Tryz.prog II 95 laws_markReceiver_sem := sound_io' (L := laws_markReceiver_L) (k := 0) laws_markReceiver_env rfl mixed Tryz.func95 (by kernel_rfl) below_zero (fun x0 x => by kernel_rfl)

@[reducible] noncomputable def laws_markHalves_sem : FnSem := .io tHalves (.p int .u) (.p int .u) [true] (fun x0 x => laws_markHalves x0 x.1)
noncomputable def laws_markHalves_G : Env := ⟨GT, [(32, laws_markBoard_sem), (95, laws_markReceiver_sem)], [], false, GA, [], []⟩
theorem laws_markHalves_env : EnvOk Tryz.prog II laws_markHalves_G := EnvOk.cons laws_markBoard_snd (EnvOk.cons laws_markReceiver_snd (envOk_nil GT_ok))
noncomputable def laws_markHalves_L : List (Nat × LoopSem) := []
theorem laws_markHalves_snd : Sound Tryz.prog II 36 laws_markHalves_sem := sound_io' (L := laws_markHalves_L) (k := 0) laws_markHalves_env rfl mixed Tryz.func36 (by kernel_rfl) below_zero (fun x0 x => by kernel_rfl)

@[reducible] noncomputable def laws_heldIntS_sem : FnSem := .pu (.p (.sl int) (.p int .u)) (.p int .u) [true] (fun x => laws_heldIntS x.1 x.2.1)
noncomputable def laws_heldIntS_G : Env := ⟨GT, [], [], true, GA, [], []⟩
theorem laws_heldIntS_env : EnvOk Tryz.prog II laws_heldIntS_G := envOk_nil GT_ok
noncomputable def laws_heldIntS_2_ls : LoopSem := ⟨21, ⟨[(0, (.data (.sl int))), (1, (.data int)), (5, (.data int))], []⟩, 0, ⟨[(1, (.data int))], []⟩, ⟨[(4, (.data int))], []⟩, laws_heldIntS_2_loop⟩
noncomputable def laws_heldIntS_L : List (Nat × LoopSem) := [(2, laws_heldIntS_2_ls)]
theorem laws_heldIntS_2_lok : LoopOk laws_heldIntS_G laws_heldIntS_L (lp Tryz.f136 0) := loopOk_of (r := 2) (ls := laws_heldIntS_2_ls) (R := fun x => laws_heldIntS_2_R x.1.1 x.1.2.1 x.1.2.2.1) (by kernel_rfl) (by kernel_rfl) rfl (fun x => by kernel_rfl)
theorem laws_heldIntS_snd : Sound Tryz.prog II 136 laws_heldIntS_sem := sound_pu' (L := laws_heldIntS_L) (k := 1) laws_heldIntS_env mixed Tryz.func136 (by kernel_rfl) (below_succ laws_heldIntS_2_lok below_zero) (fun x => by kernel_rfl)

@[reducible] noncomputable def laws_heldDebouncer_sem : FnSem := .pu (.p tDebouncer (.p int .u)) (.p int .u) [true] (fun x => laws_heldDebouncer x.1 x.2.1)
noncomputable def laws_heldDebouncer_G : Env := ⟨GT, [(136, laws_heldIntS_sem)], [], true, GA, [], []⟩
theorem laws_heldDebouncer_env : EnvOk Tryz.prog II laws_heldDebouncer_G := EnvOk.cons laws_heldIntS_snd (envOk_nil GT_ok)
noncomputable def laws_heldDebouncer_L : List (Nat × LoopSem) := []
theorem laws_heldDebouncer_snd : Sound Tryz.prog II 89 laws_heldDebouncer_sem := sound_pu' (L := laws_heldDebouncer_L) (k := 0) laws_heldDebouncer_env mixed Tryz.func89 (by kernel_rfl) below_zero (fun x => by kernel_rfl)

@[reducible] noncomputable def laws_heldComboS_sem : FnSem := .pu (.p (.sl tCombo) (.p int .u)) (.p int .u) [true] (fun x => laws_heldComboS x.1 x.2.1)
noncomputable def laws_heldComboS_G : Env := ⟨GT, [], [], true, GA, [], []⟩
theorem laws_heldComboS_env : EnvOk Tryz.prog II laws_heldComboS_G := envOk_nil GT_ok
noncomputable def laws_heldComboS_2_ls : LoopSem := ⟨31, ⟨[(0, (.data (.sl tCombo))), (1, (.data int)), (5, (.data int))], []⟩, 0, ⟨[(1, (.data int))], []⟩, ⟨[(4, (.data int))], []⟩, laws_heldComboS_2_loop⟩
noncomputable def laws_heldComboS_L : List (Nat × LoopSem) := [(2, laws_heldComboS_2_ls)]
theorem laws_heldComboS_2_lok : LoopOk laws_heldComboS_G laws_heldComboS_L (lp Tryz.f137 0) := loopOk_of (r := 2) (ls := laws_heldComboS_2_ls) (R := fun x => laws_heldComboS_2_R x.1.1 x.1.2.1 x.1.2.2.1) (by kernel_rfl) (by kernel_rfl) rfl (fun x => by kernel_rfl)
theorem laws_heldComboS_snd : Sound Tryz.prog II 137 laws_heldComboS_sem := sound_pu' (L := laws_heldComboS_L) (k := 1) laws_heldComboS_env mixed Tryz.func137 (by kernel_rfl) (below_succ laws_heldComboS_2_lok below_zero) (fun x => by kernel_rfl)

@[reducible] noncomputable def laws_heldEventS_sem : FnSem := .pu (.p (.sl tEvent) (.p int .u)) (.p int .u) [true] (fun x => laws_heldEventS x.1 x.2.1)
noncomputable def laws_heldEventS_G : Env := ⟨GT, [], [], true, GA, [], []⟩
theorem laws_heldEventS_env : EnvOk Tryz.prog II laws_heldEventS_G := envOk_nil GT_ok
noncomputable def laws_heldEventS_2_ls : LoopSem := ⟨42, ⟨[(0, (.data (.sl tEvent))), (1, (.data int)), (5, (.data int))], []⟩, 0, ⟨[(1, (.data int))], []⟩, ⟨[(4, (.data int))], []⟩, laws_heldEventS_2_loop⟩
noncomputable def laws_heldEventS_L : List (Nat × LoopSem) := [(2, laws_heldEventS_2_ls)]
theorem laws_heldEventS_2_lok : LoopOk laws_heldEventS_G laws_heldEventS_L (lp Tryz.f138 0) := loopOk_of (r := 2) (ls := laws_heldEventS_2_ls) (R := fun x => laws_heldEventS_2_R x.1.1 x.1.2.1 x.1.2.2.1) (by kernel_rfl) (by kernel_rfl) rfl (fun x => by kernel_rfl)
theorem laws_heldEventS_snd : Sound Tryz.prog II 138 laws_heldEventS_sem := sound_pu' (L := laws_heldEventS_L) (k := 1) laws_heldEventS_env mixed Tryz.func138 (by kernel_rfl) (below_succ laws_heldEventS_2_lok below_zero) (fun x => by kernel_rfl)

@[reducible] noncomputable def laws_heldActiveS_sem : FnSem := .pu (.p (.sl tEvent) (.p int .u)) (.p int .u) [true] (fun x => laws_heldActiveS x.1 x.2.1)
noncomputable def laws_heldActiveS_G : Env := ⟨GT, [], [], true, GA, [], []⟩
theorem laws_heldActiveS_env : EnvOk Tryz.prog II laws_heldActiveS_G := envOk_nil GT_ok
noncomputable def laws_heldActiveS_2_ls : LoopSem := ⟨42, ⟨[(0, (.data (.sl tEvent))), (1, (.data int)), (5, (.data int))], []⟩, 0, ⟨[(1, (.data int))], []⟩, ⟨[(4, (.data int))], []⟩, laws_heldActiveS_2_loop⟩
noncomputable def laws_heldActiveS_L : List (Nat × LoopSem) := [(2, laws_heldActiveS_2_ls)]
theorem laws_heldActiveS_2_lok : LoopOk laws_heldActiveS_G laws_heldActiveS_L (lp Tryz.f139 0) := loopOk_of (r := 2) (ls := laws_heldActiveS_2_ls) (R := fun x => laws_heldActiveS_2_R x.1.1 x.1.2.1 x.1.2.2.1) (by kernel_rfl) (by kernel_rfl) rfl (fun x => by kernel_rfl)
theorem laws_heldActiveS_snd : Sound Tryz.prog II 139 laws_heldActiveS_sem := sound_pu' (L := laws_heldActiveS_L) (k := 1) laws_heldActiveS_env mixed Tryz.func139 (by kernel_rfl) (below_succ laws_heldActiveS_2_lok below_zero) (fun x => by kernel_rfl)

@[reducible] noncomputable def laws_heldCombiner_sem : FnSem := .pu (.p tCombiner (.p int .u)) (.p int .u) [true] (fun x => laws_heldCombiner x.1 x.2.1)
noncomputable def laws_heldCombiner_G : Env := ⟨GT, [(137, laws_heldComboS_sem), (138, laws_heldEventS_sem), (139, laws_heldActiveS_sem)], [], true, GA, [], []⟩
theorem laws_heldCombiner_env : EnvOk Tryz.prog II laws_heldCombiner_G := EnvOk.cons laws_heldComboS_snd (EnvOk.cons laws_heldEventS_snd (EnvOk.cons laws_heldActiveS_snd (envOk_nil GT_ok)))
noncomputable def laws_heldCombiner_L : List (Nat × LoopSem) := []
theorem laws_heldCombiner_snd : Sound Tryz.prog II 90 laws_heldCombiner_sem := sound_pu' (L := laws_heldCombiner_L) (k := 0) laws_heldCombiner_env mixed Tryz.func90 (by kernel_rfl) below_zero (fun x => by kernel_rfl)

@[reducible] noncomputable def laws_heldActionS_sem : FnSem := .pu (.p (.sl tAction) (.p int .u)) (.p int .u) [true] (fun x => laws_heldActionS x.1 x.2.1)
noncomputable def laws_heldActionS_G : Env := ⟨GT, [], [], true, GA, [], []⟩
theorem laws_heldActionS_env : EnvOk Tryz.prog II laws_heldActionS_G := envOk_nil GT_ok
noncomputable def laws_heldActionS_2_ls : LoopSem := ⟨49, ⟨[(0, (.data (.sl tAction))), (1, (.data int)), (5, (.data int))], []⟩, 0, ⟨[(1, (.data int))], []⟩, ⟨[(4, (.data int))], []⟩, laws_heldActionS_2_loop⟩
noncomputable def laws_heldActionS_L : List (Nat × LoopSem) := [(2, laws_heldActionS_2_ls)]
theorem laws_heldActionS_2_lok : LoopOk laws_heldActionS_G laws_heldActionS_L (lp Tryz.f196 0) := loopOk_of (r := 2) (ls := laws_heldActionS_2_ls) (R := fun x => laws_heldActionS_2_R x.1.1 x.1.2.1 x.1.2.2.1) (by kernel_rfl) (by kernel_rfl) rfl (fun x => by kernel_rfl)
theorem laws_heldActionS_snd : Sound Tryz.prog II 196 laws_heldActionS_sem := sound_pu' (L := laws_heldActionS_L) (k := 1) laws_heldActionS_env mixed Tryz.func196 (by kernel_rfl) (below_succ laws_heldActionS_2_lok below_zero) (fun x => by kernel_rfl)

@[reducible] noncomputable def laws_heldActionSS_sem : FnSem := .pu (.p (.sl (.sl tAction)) (.p int .u)) (.p int .u) [true] (fun x => laws_heldActionSS x.1 x.2.1)
noncomputable def laws_heldActionSS_G : Env := ⟨GT, [(196, laws_heldActionS_sem)], [], true, GA, [], []⟩
theorem laws_heldActionSS_env : EnvOk Tryz.prog II laws_heldActionSS_G := EnvOk.cons laws_heldActionS_snd (envOk_nil GT_ok)
noncomputable def laws_heldActionSS_2_ls : LoopSem := ⟨21, ⟨[(0, (.data (.sl (.sl tAction)))), (1, (.data int)), (5, (.data int))], []⟩, 0, ⟨[(1, (.data int))], []⟩, ⟨[(4, (.data int))], []⟩, laws_heldActionSS_2_loop⟩
noncomputable def laws_heldActionSS_L : List (Nat × LoopSem) := [(2, laws_heldActionSS_2_ls)]
theorem laws_heldActionSS_2_lok : LoopOk laws_heldActionSS_G laws_heldActionSS_L (lp Tryz.f191 0) := loopOk_of (r := 2) (ls := laws_heldActionSS_2_ls) (R := fun x => laws_heldActionSS_2_R x.1.1 x.1.2.1 x.1.2.2.1) (by kernel_rfl) (by kernel_rfl) rfl (fun x => by kernel_rfl)
theorem laws_heldActionSS_snd : Sound Tryz.prog II 191 laws_heldActionSS_sem := sound_pu' (L := laws_heldActionSS_L) (k := 1) laws_heldActionSS_env mixed Tryz.func191 (by kernel_rfl) (below_succ laws_heldActionSS_2_lok below_zero) (fun x => by kernel_rfl)

@[reducible] noncomputable def laws_heldKeymap_sem : FnSem := .pu (.p tKeymap (.p int .u)) (.p int .u) [true] (fun x => laws_heldKeymap x.1 x.2.1)
noncomputable def laws_heldKeymap_G : Env := ⟨GT, [(191, laws_heldActionSS_sem)], [], true, GA, [], []⟩
theorem laws_heldKeymap_env : EnvOk Tryz.prog II laws_heldKeymap_G := EnvOk.cons laws_heldActionSS_snd (envOk_nil GT_ok)
noncomputable def laws_heldKeymap_L : List (Nat × LoopSem) := []
theorem laws_heldKeymap_snd : Sound Tryz.prog II 168 laws_heldKeymap_sem := sound_pu' (L := laws_heldKeymap_L) (k := 0) laws_heldKeymap_env mixed Tryz.func168 (by kernel_rfl) below_zero (fun x => by kernel_rfl)

@[reducible] noncomputable def laws_heldStepS_sem : FnSem := .pu (.p (.sl tStep) (.p int .u)) (.p int .u) [true] (fun x => laws_heldStepS x.1 x.2.1)
noncomputable def laws_heldStepS_G : Env := ⟨GT, [], [], true, GA, [], []⟩
theorem laws_heldStepS_env : EnvOk Tryz.prog II laws_heldStepS_G := envOk_nil GT_ok
noncomputable def laws_heldStepS_2_ls : LoopSem := ⟨40, ⟨[(0, (.data (.sl tStep))), (1, (.data int)), (5, (.data int))], []⟩, 0, ⟨[(1, (.data int))], []⟩, ⟨[(4, (.data int))], []⟩, laws_heldStepS_2_loop⟩
noncomputable def laws_heldStepS_L : List (Nat × LoopSem) := [(2, laws_heldStepS_2_ls)]
theorem laws_heldStepS_2_lok : LoopOk laws_heldStepS_G laws_heldStepS_L (lp Tryz.f192 0) := loopOk_of (r := 2) (ls := laws_heldStepS_2_ls) (R := fun x => laws_heldStepS_2_R x.1.1 x.1.2.1 x.1.2.2.1) (by kernel_rfl) (by kernel_rfl) rfl (fun x => by kernel_rfl)
theorem laws_heldStepS_snd : Sound Tryz.prog II 192 laws_heldStepS_sem := sound_pu' (L := laws_heldStepS_L) (k := 1) laws_heldStepS_env mixed Tryz.func192 (by kernel_rfl) (below_succ laws_heldStepS_2_lok below_zero) (fun x => by kernel_rfl)

@[reducible] noncomputable def laws_heldStepSS_sem : FnSem := .pu (.p (.sl (.sl tStep)) (.p int .u)) (.p int .u) [true] (fun x => laws_heldStepSS x.1 x.2.1)
noncomputable def laws_heldStepSS_G : Env := ⟨GT, [(192, laws_heldStepS_sem)], [], true, GA, [], []⟩
theorem laws_heldStepSS_env : EnvOk Tryz.prog II laws_heldStepSS_G := EnvOk.cons laws_heldStepS_snd (envOk_nil GT_ok)
noncomputable def laws_heldStepSS_2_ls : LoopSem := ⟨21, ⟨[(0, (.data (.sl (.sl tStep)))), (1, (.data int)), (5, (.data int))], []⟩, 0, ⟨[(1, (.data int))], []⟩, ⟨[(4, (.data int))], []⟩, laws_heldStepSS_2_loop⟩
noncomputable def laws_heldStepSS_L : List (Nat × LoopSem) := [(2, laws_heldStepSS_2_ls)]
theorem laws_heldStepSS_2_lok : LoopOk laws_heldStepSS_G laws_heldStepSS_L (lp Tryz.f169 0) := loopOk_of (r := 2) (ls := laws_heldStepSS_2_ls) (R := fun x => laws_heldStepSS_2_R x.1.1 x.1.2.1 x.1.2.2.1) (by kernel_rfl) (by kernel_rfl) rfl (fun x => by kernel_rfl)
theorem laws_heldStepSS_snd : Sound Tryz.prog II 169 laws_heldStepSS_sem := sound_pu' (L := laws_heldStepSS_L) (k := 1) laws_heldStepSS_env mixed Tryz.func169 (by kernel_rfl) (below_succ laws_heldStepSS_2_lok below_zero) (fun x => by kernel_rfl)

@[reducible] noncomputable def laws_heldHeldS_sem : FnSem := .pu (.p (.sl tHeld) (.p int .u)) (.p int .u) [true] (fun x => laws_heldHeldS x.1 x.2.1)
noncomputable def laws_heldHeldS_G : Env := ⟨GT, [], [], true, GA, [], []⟩
theorem laws_heldHeldS_env : EnvOk Tryz.prog II laws_heldHeldS_G := envOk_nil GT_ok
noncomputable def laws_heldHeldS_2_ls : LoopSem := ⟨62, ⟨[(0, (.data (.sl tHeld))), (1, (.data int)), (5, (.data int))], []⟩, 0, ⟨[(1, (.data int))], []⟩, ⟨[(4, (.data int))], []⟩, laws_heldHeldS_2_loop⟩
noncomputable def laws_heldHeldS_L : List (Nat × LoopSem) := [(2, laws_heldHeldS_2_ls)]
theorem laws_heldHeldS_2_lok : LoopOk laws_heldHeldS_G laws_heldHeldS_L (lp Tryz.f170 0) := loopOk_of (r := 2) (ls := laws_heldHeldS_2_ls) (R := fun x => laws_heldHeldS_2_R x.1.1 x.1.2.1 x.1.2.2.1) (by kernel_rfl) (by kernel_rfl) rfl (fun x => by kernel_rfl)
theorem laws_heldHeldS_snd : Sound Tryz.prog II 170 laws_heldHeldS_sem := sound_pu' (L := laws_heldHeldS_L) (k := 1) laws_heldHeldS_env mixed Tryz.func170 (by kernel_rfl) (below_succ laws_heldHeldS_2_lok below_zero) (fun x => by kernel_rfl)

@[reducible] noncomputable def laws_heldEngine_sem : FnSem := .pu (.p tEngine (.p int .u)) (.p int .u) [true] (fun x => laws_heldEngine x.1 x.2.1)
noncomputable def laws_heldEngine_G : Env := ⟨GT, [(168, laws_heldKeymap_sem), (169, laws_heldStepSS_sem), (170, laws_heldHeldS_sem)], [], true, GA, [], []⟩
theorem laws_heldEngine_env : EnvOk Tryz.prog II laws_heldEngine_G := EnvOk.cons laws_heldKeymap_snd (EnvOk.cons laws_heldStepSS_snd (EnvOk.cons laws_heldHeldS_snd (envOk_nil GT_ok)))
noncomputable def laws_heldEngine_L : List (Nat × LoopSem) := []
theorem laws_heldEngine_snd : Sound Tryz.prog II 140 laws_heldEngine_sem := sound_pu' (L := laws_heldEngine_L) (k := 0) laws_heldEngine_env mixed Tryz.func140 (by kernel_rfl) below_zero (fun x => by kernel_rfl)

@[reducible] noncomputable def laws_heldDecider_sem : FnSem := .pu (.p tDecider (.p int .u)) (.p int .u) [true] (fun x => laws_heldDecider x.1 x.2.1)
noncomputable def laws_heldDecider_G : Env := ⟨GT, [(140, laws_heldEngine_sem), (138, laws_heldEventS_sem)], [], true, GA, [], []⟩
theorem laws_heldDecider_env : EnvOk Tryz.prog II laws_heldDecider_G := EnvOk.cons laws_heldEngine_snd (EnvOk.cons laws_heldEventS_snd (envOk_nil GT_ok))
noncomputable def laws_heldDecider_L : List (Nat × LoopSem) := []
theorem laws_heldDecider_snd : Sound Tryz.prog II 91 laws_heldDecider_sem := sound_pu' (L := laws_heldDecider_L) (k := 0) laws_heldDecider_env mixed Tryz.func91 (by kernel_rfl) below_zero (fun x => by kernel_rfl)

@[reducible] noncomputable def laws_heldBoard_sem : FnSem := .pu (.p tBoard (.p int .u)) (.p int .u) [true] (fun x => laws_heldBoard x.1 x.2.1)
noncomputable def laws_heldBoard_G : Env := ⟨GT, [(89, laws_heldDebouncer_sem), (90, laws_heldCombiner_sem), (91, laws_heldDecider_sem)], [], true, GA, [], []⟩
theorem laws_heldBoard_env : EnvOk Tryz.prog II laws_heldBoard_G := EnvOk.cons laws_heldDebouncer_snd (EnvOk.cons laws_heldCombiner_snd (EnvOk.cons laws_heldDecider_snd (envOk_nil GT_ok)))
noncomputable def laws_heldBoard_L : List (Nat × LoopSem) := []
theorem laws_heldBoard_snd : Sound Tryz.prog II 33 laws_heldBoard_sem := sound_pu' (L := laws_heldBoard_L) (k := 0) laws_heldBoard_env mixed Tryz.func33 (by kernel_rfl) below_zero (fun x => by kernel_rfl)

@[reducible] noncomputable def laws_heldByteS_sem : FnSem := .pu (.p (.sl byte) (.p int .u)) (.p int .u) [true] (fun x => laws_heldByteS x.1 x.2.1)
noncomputable def laws_heldByteS_G : Env := ⟨GT, [], [], true, GA, [], []⟩
theorem laws_heldByteS_env : EnvOk Tryz.prog II laws_heldByteS_G := envOk_nil GT_ok
noncomputable def laws_heldByteS_2_ls : LoopSem := ⟨22, ⟨[(0, (.data (.sl byte))), (1, (.data int)), (5, (.data int))], []⟩, 0, ⟨[(1, (.data int))], []⟩, ⟨[(4, (.data int))], []⟩, laws_heldByteS_2_loop⟩
noncomputable def laws_heldByteS_L : List (Nat × LoopSem) := [(2, laws_heldByteS_2_ls)]
theorem laws_heldByteS_2_lok : LoopOk laws_heldByteS_G laws_heldByteS_L (lp Tryz.f142 0) := loopOk_of (r := 2) (ls := laws_heldByteS_2_ls) (R := fun x => laws_heldByteS_2_R x.1.1 x.1.2.1 x.1.2.2.1) (by kernel_rfl) (by kernel_rfl) rfl (fun x => by kernel_rfl)
theorem laws_heldByteS_snd : Sound Tryz.prog II 142 laws_heldByteS_sem := sound_pu' (L := laws_heldByteS_L) (k := 1) laws_heldByteS_env mixed Tryz.func142 (by kernel_rfl) (below_succ laws_heldByteS_2_lok below_zero) (fun x => by kernel_rfl)

@[reducible] noncomputable def laws_heldReceiver_sem : FnSem := .pu (.p tReceiver (.p int .u)) (.p int .u) [true] (fun x => laws_heldReceiver x.1 x.2.1)
noncomputable def laws_heldReceiver_G : Env := ⟨GT, [(142, laws_heldByteS_sem)], [], true, GA, [], []⟩
theorem laws_heldReceiver_env : EnvOk Tryz.prog II laws_heldReceiver_G := EnvOk.cons laws_heldByteS_snd (envOk_nil GT_ok)
noncomputable def laws_heldReceiver_L : List (Nat × LoopSem) := []
theorem laws_heldReceiver_snd : Sound Tryz.prog II 96 laws_heldReceiver_sem := sound_pu' (L := laws_heldReceiver_L) (k := 0) laws_heldReceiver_env mixed Tryz.func96 (by kernel_rfl) below_zero (fun x => by kernel_rfl)

@[reducible] noncomputable def laws_heldHalves_sem : FnSem := .pu (.p tHalves (.p int .u)) (.p int .u) [true] (fun x => laws_heldHalves x.1 x.2.1)
noncomputable def laws_heldHalves_G : Env := ⟨GT, [(33, laws_heldBoard_sem), (96, laws_heldReceiver_sem)], [], true, GA, [], []⟩
theorem laws_heldHalves_env : EnvOk Tryz.prog II laws_heldHalves_G := EnvOk.cons laws_heldBoard_snd (EnvOk.cons laws_heldReceiver_snd (envOk_nil GT_ok))
noncomputable def laws_heldHalves_L : List (Nat × LoopSem) := []
theorem laws_heldHalves_snd : Sound Tryz.prog II 37 laws_heldHalves_sem := sound_pu' (L := laws_heldHalves_L) (k := 0) laws_heldHalves_env mixed Tryz.func37 (by kernel_rfl) below_zero (fun x => by kernel_rfl)

@[reducible] noncomputable def laws_FnExactNewHalves_sem : FnSem := .pu (.p tBoard .u) (.p .b .u) [true] (fun x => laws_FnExactNewHalves x.1)
noncomputable def laws_FnExactNewHalves_G : Env := ⟨GT, [(7, laws_szBoard_sem), (9, laws_toBoard_sem), (34, spec_NewHalves_sem), (35, impl_NewHalves_sem), (16, laws_eqHalves_sem), (11, laws_eqBoard_sem), (32, laws_markBoard_sem), (36, laws_markHalves_sem), (37, laws_heldHalves_sem)], [], true, GA, [], []⟩
theorem laws_FnExactNewHalves_env : EnvOk Tryz.prog II laws_FnExactNewHalves_G := EnvOk.cons laws_szBoard_snd (EnvOk.cons laws_toBoard_snd (EnvOk.cons spec_NewHalves_snd (EnvOk.cons impl_NewHalves_snd (EnvOk.cons laws_eqHalves_snd (EnvOk.cons laws_eqBoard_snd (EnvOk.cons laws_markBoard_snd (EnvOk.cons laws_markHalves_snd (EnvOk.cons laws_heldHalves_snd (envOk_nil GT_ok)))))))))
noncomputable def laws_FnExactNewHalves_L : List (Nat × LoopSem) := []
theorem laws_FnExactNewHalves_snd : Sound Tryz.prog II 6 laws_FnExactNewHalves_sem := sound_pu' (L := laws_FnExactNewHalves_L) (k := 0) laws_FnExactNewHalves_env mixed Tryz.func6 (by kernel_rfl) below_zero (fun x => by kernel_rfl)
end KF
