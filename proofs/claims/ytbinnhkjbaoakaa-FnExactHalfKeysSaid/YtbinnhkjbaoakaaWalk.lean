/- Each Go function computes its plain function (no condition). -/
import Derived.Test.YtbinnhkjbaoakaaFns
import Derived.Test.YtbinnhkjbaoakaaRows
namespace KF
open Go Go.Proofs
def GT : List (Nat × Ty) := [(3, int), (4, .b), (5, byte), (23, (.sl int)), (28, tStep), (35, (.sl (.sl tAction))), (37, tKeymap), (40, (.sl (.sl tAction))), (42, tKeymap), (49, tEvent), (51, tDebouncer), (52, (.sl tCombo)), (53, (.sl tEvent)), (54, (.sl tEvent)), (56, tCombiner), (57, (.sl (.sl tStep))), (58, (.sl tHeld)), (60, tEngine), (61, tStep), (63, tDecider), (65, tBoard), (66, (.sl byte)), (68, tReceiver), (70, tHalves), (73, tEvent), (74, tDebouncer), (75, (.sl tCombo)), (76, (.sl tEvent)), (77, (.sl tEvent)), (79, tCombiner), (80, (.sl (.sl tStep))), (81, (.sl tHeld)), (83, tEngine), (85, tDecider), (87, tBoard), (88, tReceiver), (90, tHalves), (107, tAction), (108, (.sl tAction)), (126, (.sl tAction)), (147, tAction), (166, tCombo), (168, tCombo), (170, tEvent), (172, tEvent), (174, tEvent), (176, tEvent), (185, (.sl tStep)), (186, (.sl tStep)), (189, tHeld), (192, tHeld), (196, tStep), (198, tStep)]
theorem GT_ok : (GT.all fun x => tokB Try.prog x.2 x.1) = true := by kernel_rfl
theorem mixed : Try.prog.follows .mixedOrders = true := by kernel_rfl

@[reducible] noncomputable def laws_szIntS_sem : FnSem := .pu (.p (.sl int) (.p int .u)) (.p int .u) [true] (fun x => laws_szIntS x.1 x.2.1)
noncomputable def laws_szIntS_G : Env := ⟨GT, []⟩
theorem laws_szIntS_env : EnvOk Try.prog laws_szIntS_G := envOk_nil GT_ok
noncomputable def laws_szIntS_L : List (Nat × LoopSem) := []
theorem laws_szIntS_snd : Sound Try.prog 29 laws_szIntS_sem := sound_pu' (L := laws_szIntS_L) (k := 0) laws_szIntS_env mixed Try.func29 (by kernel_rfl) below_zero (fun x => by kernel_rfl)

@[reducible] noncomputable def laws_szDebouncer_sem : FnSem := .pu (.p tDebouncer (.p int .u)) (.p int .u) [true] (fun x => laws_szDebouncer x.1 x.2.1)
noncomputable def laws_szDebouncer_G : Env := ⟨GT, [(29, laws_szIntS_sem)]⟩
theorem laws_szDebouncer_env : EnvOk Try.prog laws_szDebouncer_G := EnvOk.cons laws_szIntS_snd (envOk_nil GT_ok)
noncomputable def laws_szDebouncer_L : List (Nat × LoopSem) := []
theorem laws_szDebouncer_snd : Sound Try.prog 71 laws_szDebouncer_sem := sound_pu' (L := laws_szDebouncer_L) (k := 0) laws_szDebouncer_env mixed Try.func71 (by kernel_rfl) below_zero (fun x => by kernel_rfl)

@[reducible] noncomputable def laws_szComboS_sem : FnSem := .pu (.p (.sl tCombo) (.p int .u)) (.p int .u) [true] (fun x => laws_szComboS x.1 x.2.1)
noncomputable def laws_szComboS_G : Env := ⟨GT, []⟩
theorem laws_szComboS_env : EnvOk Try.prog laws_szComboS_G := envOk_nil GT_ok
noncomputable def laws_szComboS_L : List (Nat × LoopSem) := []
theorem laws_szComboS_snd : Sound Try.prog 96 laws_szComboS_sem := sound_pu' (L := laws_szComboS_L) (k := 0) laws_szComboS_env mixed Try.func96 (by kernel_rfl) below_zero (fun x => by kernel_rfl)

@[reducible] noncomputable def laws_szEventS_sem : FnSem := .pu (.p (.sl tEvent) (.p int .u)) (.p int .u) [true] (fun x => laws_szEventS x.1 x.2.1)
noncomputable def laws_szEventS_G : Env := ⟨GT, []⟩
theorem laws_szEventS_env : EnvOk Try.prog laws_szEventS_G := envOk_nil GT_ok
noncomputable def laws_szEventS_L : List (Nat × LoopSem) := []
theorem laws_szEventS_snd : Sound Try.prog 97 laws_szEventS_sem := sound_pu' (L := laws_szEventS_L) (k := 0) laws_szEventS_env mixed Try.func97 (by kernel_rfl) below_zero (fun x => by kernel_rfl)

@[reducible] noncomputable def laws_szActiveS_sem : FnSem := .pu (.p (.sl tEvent) (.p int .u)) (.p int .u) [true] (fun x => laws_szActiveS x.1 x.2.1)
noncomputable def laws_szActiveS_G : Env := ⟨GT, []⟩
theorem laws_szActiveS_env : EnvOk Try.prog laws_szActiveS_G := envOk_nil GT_ok
noncomputable def laws_szActiveS_L : List (Nat × LoopSem) := []
theorem laws_szActiveS_snd : Sound Try.prog 98 laws_szActiveS_sem := sound_pu' (L := laws_szActiveS_L) (k := 0) laws_szActiveS_env mixed Try.func98 (by kernel_rfl) below_zero (fun x => by kernel_rfl)

@[reducible] noncomputable def laws_szCombiner_sem : FnSem := .pu (.p tCombiner (.p int .u)) (.p int .u) [true] (fun x => laws_szCombiner x.1 x.2.1)
noncomputable def laws_szCombiner_G : Env := ⟨GT, [(96, laws_szComboS_sem), (97, laws_szEventS_sem), (98, laws_szActiveS_sem)]⟩
theorem laws_szCombiner_env : EnvOk Try.prog laws_szCombiner_G := EnvOk.cons laws_szComboS_snd (EnvOk.cons laws_szEventS_snd (EnvOk.cons laws_szActiveS_snd (envOk_nil GT_ok)))
noncomputable def laws_szCombiner_L : List (Nat × LoopSem) := []
theorem laws_szCombiner_snd : Sound Try.prog 72 laws_szCombiner_sem := sound_pu' (L := laws_szCombiner_L) (k := 0) laws_szCombiner_env mixed Try.func72 (by kernel_rfl) below_zero (fun x => by kernel_rfl)

@[reducible] noncomputable def laws_szActionS_sem : FnSem := .pu (.p (.sl tAction) (.p int .u)) (.p int .u) [true] (fun x => laws_szActionS x.1 x.2.1)
noncomputable def laws_szActionS_G : Env := ⟨GT, []⟩
theorem laws_szActionS_env : EnvOk Try.prog laws_szActionS_G := envOk_nil GT_ok
noncomputable def laws_szActionS_L : List (Nat × LoopSem) := []
theorem laws_szActionS_snd : Sound Try.prog 62 laws_szActionS_sem := sound_pu' (L := laws_szActionS_L) (k := 0) laws_szActionS_env mixed Try.func62 (by kernel_rfl) below_zero (fun x => by kernel_rfl)

@[reducible] noncomputable def laws_szActionSS_sem : FnSem := .pu (.p (.sl (.sl tAction)) (.p int .u)) (.p int .u) [true] (fun x => laws_szActionSS x.1 x.2.1)
noncomputable def laws_szActionSS_G : Env := ⟨GT, [(62, laws_szActionS_sem)]⟩
theorem laws_szActionSS_env : EnvOk Try.prog laws_szActionSS_G := EnvOk.cons laws_szActionS_snd (envOk_nil GT_ok)
noncomputable def laws_szActionSS_5_ls : LoopSem := ⟨27, ⟨[(0, (.data (.sl (.sl tAction)))), (1, (.data int)), (5, (.data int))], []⟩, 0, ⟨[(1, (.data int))], []⟩, ⟨[(4, (.data int))], []⟩, laws_szActionSS_5_loop⟩
noncomputable def laws_szActionSS_L : List (Nat × LoopSem) := [(5, laws_szActionSS_5_ls)]
theorem laws_szActionSS_5_lok : LoopOk laws_szActionSS_G laws_szActionSS_L (lp Try.f36 0) := loopOk_of (r := 5) (ls := laws_szActionSS_5_ls) (R := fun x => laws_szActionSS_5_R x.1.1 x.1.2.1 x.1.2.2.1) (by kernel_rfl) (by kernel_rfl) rfl (fun x => by kernel_rfl)
theorem laws_szActionSS_snd : Sound Try.prog 36 laws_szActionSS_sem := sound_pu' (L := laws_szActionSS_L) (k := 1) laws_szActionSS_env mixed Try.func36 (by kernel_rfl) (below_succ laws_szActionSS_5_lok below_zero) (fun x => by kernel_rfl)

@[reducible] noncomputable def laws_szKeymap_sem : FnSem := .pu (.p tKeymap (.p int .u)) (.p int .u) [true] (fun x => laws_szKeymap x.1 x.2.1)
noncomputable def laws_szKeymap_G : Env := ⟨GT, [(36, laws_szActionSS_sem)]⟩
theorem laws_szKeymap_env : EnvOk Try.prog laws_szKeymap_G := EnvOk.cons laws_szActionSS_snd (envOk_nil GT_ok)
noncomputable def laws_szKeymap_L : List (Nat × LoopSem) := []
theorem laws_szKeymap_snd : Sound Try.prog 14 laws_szKeymap_sem := sound_pu' (L := laws_szKeymap_L) (k := 0) laws_szKeymap_env mixed Try.func14 (by kernel_rfl) below_zero (fun x => by kernel_rfl)

@[reducible] noncomputable def laws_szStepS_sem : FnSem := .pu (.p (.sl tStep) (.p int .u)) (.p int .u) [true] (fun x => laws_szStepS x.1 x.2.1)
noncomputable def laws_szStepS_G : Env := ⟨GT, []⟩
theorem laws_szStepS_env : EnvOk Try.prog laws_szStepS_G := envOk_nil GT_ok
noncomputable def laws_szStepS_L : List (Nat × LoopSem) := []
theorem laws_szStepS_snd : Sound Try.prog 122 laws_szStepS_sem := sound_pu' (L := laws_szStepS_L) (k := 0) laws_szStepS_env mixed Try.func122 (by kernel_rfl) below_zero (fun x => by kernel_rfl)

@[reducible] noncomputable def laws_szStepSS_sem : FnSem := .pu (.p (.sl (.sl tStep)) (.p int .u)) (.p int .u) [true] (fun x => laws_szStepSS x.1 x.2.1)
noncomputable def laws_szStepSS_G : Env := ⟨GT, [(122, laws_szStepS_sem)]⟩
theorem laws_szStepSS_env : EnvOk Try.prog laws_szStepSS_G := EnvOk.cons laws_szStepS_snd (envOk_nil GT_ok)
noncomputable def laws_szStepSS_5_ls : LoopSem := ⟨27, ⟨[(0, (.data (.sl (.sl tStep)))), (1, (.data int)), (5, (.data int))], []⟩, 0, ⟨[(1, (.data int))], []⟩, ⟨[(4, (.data int))], []⟩, laws_szStepSS_5_loop⟩
noncomputable def laws_szStepSS_L : List (Nat × LoopSem) := [(5, laws_szStepSS_5_ls)]
theorem laws_szStepSS_5_lok : LoopOk laws_szStepSS_G laws_szStepSS_L (lp Try.f110 0) := loopOk_of (r := 5) (ls := laws_szStepSS_5_ls) (R := fun x => laws_szStepSS_5_R x.1.1 x.1.2.1 x.1.2.2.1) (by kernel_rfl) (by kernel_rfl) rfl (fun x => by kernel_rfl)
theorem laws_szStepSS_snd : Sound Try.prog 110 laws_szStepSS_sem := sound_pu' (L := laws_szStepSS_L) (k := 1) laws_szStepSS_env mixed Try.func110 (by kernel_rfl) (below_succ laws_szStepSS_5_lok below_zero) (fun x => by kernel_rfl)

@[reducible] noncomputable def laws_szHeldS_sem : FnSem := .pu (.p (.sl tHeld) (.p int .u)) (.p int .u) [true] (fun x => laws_szHeldS x.1 x.2.1)
noncomputable def laws_szHeldS_G : Env := ⟨GT, []⟩
theorem laws_szHeldS_env : EnvOk Try.prog laws_szHeldS_G := envOk_nil GT_ok
noncomputable def laws_szHeldS_L : List (Nat × LoopSem) := []
theorem laws_szHeldS_snd : Sound Try.prog 111 laws_szHeldS_sem := sound_pu' (L := laws_szHeldS_L) (k := 0) laws_szHeldS_env mixed Try.func111 (by kernel_rfl) below_zero (fun x => by kernel_rfl)

@[reducible] noncomputable def laws_szEngine_sem : FnSem := .pu (.p tEngine (.p int .u)) (.p int .u) [true] (fun x => laws_szEngine x.1 x.2.1)
noncomputable def laws_szEngine_G : Env := ⟨GT, [(14, laws_szKeymap_sem), (110, laws_szStepSS_sem), (111, laws_szHeldS_sem)]⟩
theorem laws_szEngine_env : EnvOk Try.prog laws_szEngine_G := EnvOk.cons laws_szKeymap_snd (EnvOk.cons laws_szStepSS_snd (EnvOk.cons laws_szHeldS_snd (envOk_nil GT_ok)))
noncomputable def laws_szEngine_L : List (Nat × LoopSem) := []
theorem laws_szEngine_snd : Sound Try.prog 99 laws_szEngine_sem := sound_pu' (L := laws_szEngine_L) (k := 0) laws_szEngine_env mixed Try.func99 (by kernel_rfl) below_zero (fun x => by kernel_rfl)

@[reducible] noncomputable def laws_szDecider_sem : FnSem := .pu (.p tDecider (.p int .u)) (.p int .u) [true] (fun x => laws_szDecider x.1 x.2.1)
noncomputable def laws_szDecider_G : Env := ⟨GT, [(99, laws_szEngine_sem), (97, laws_szEventS_sem)]⟩
theorem laws_szDecider_env : EnvOk Try.prog laws_szDecider_G := EnvOk.cons laws_szEngine_snd (EnvOk.cons laws_szEventS_snd (envOk_nil GT_ok))
noncomputable def laws_szDecider_L : List (Nat × LoopSem) := []
theorem laws_szDecider_snd : Sound Try.prog 73 laws_szDecider_sem := sound_pu' (L := laws_szDecider_L) (k := 0) laws_szDecider_env mixed Try.func73 (by kernel_rfl) below_zero (fun x => by kernel_rfl)

@[reducible] noncomputable def laws_szBoard_sem : FnSem := .pu (.p tBoard (.p int .u)) (.p int .u) [true] (fun x => laws_szBoard x.1 x.2.1)
noncomputable def laws_szBoard_G : Env := ⟨GT, [(71, laws_szDebouncer_sem), (72, laws_szCombiner_sem), (73, laws_szDecider_sem)]⟩
theorem laws_szBoard_env : EnvOk Try.prog laws_szBoard_G := EnvOk.cons laws_szDebouncer_snd (EnvOk.cons laws_szCombiner_snd (EnvOk.cons laws_szDecider_snd (envOk_nil GT_ok)))
noncomputable def laws_szBoard_L : List (Nat × LoopSem) := []
theorem laws_szBoard_snd : Sound Try.prog 50 laws_szBoard_sem := sound_pu' (L := laws_szBoard_L) (k := 0) laws_szBoard_env mixed Try.func50 (by kernel_rfl) below_zero (fun x => by kernel_rfl)

@[reducible] noncomputable def laws_szByteS_sem : FnSem := .pu (.p (.sl byte) (.p int .u)) (.p int .u) [true] (fun x => laws_szByteS x.1 x.2.1)
noncomputable def laws_szByteS_G : Env := ⟨GT, []⟩
theorem laws_szByteS_env : EnvOk Try.prog laws_szByteS_G := envOk_nil GT_ok
noncomputable def laws_szByteS_L : List (Nat × LoopSem) := []
theorem laws_szByteS_snd : Sound Try.prog 74 laws_szByteS_sem := sound_pu' (L := laws_szByteS_L) (k := 0) laws_szByteS_env mixed Try.func74 (by kernel_rfl) below_zero (fun x => by kernel_rfl)

@[reducible] noncomputable def laws_szReceiver_sem : FnSem := .pu (.p tReceiver (.p int .u)) (.p int .u) [true] (fun x => laws_szReceiver x.1 x.2.1)
noncomputable def laws_szReceiver_G : Env := ⟨GT, [(74, laws_szByteS_sem)]⟩
theorem laws_szReceiver_env : EnvOk Try.prog laws_szReceiver_G := EnvOk.cons laws_szByteS_snd (envOk_nil GT_ok)
noncomputable def laws_szReceiver_L : List (Nat × LoopSem) := []
theorem laws_szReceiver_snd : Sound Try.prog 51 laws_szReceiver_sem := sound_pu' (L := laws_szReceiver_L) (k := 0) laws_szReceiver_env mixed Try.func51 (by kernel_rfl) below_zero (fun x => by kernel_rfl)

@[reducible] noncomputable def laws_szHalves_sem : FnSem := .pu (.p tHalves (.p int .u)) (.p int .u) [true] (fun x => laws_szHalves x.1 x.2.1)
noncomputable def laws_szHalves_G : Env := ⟨GT, [(50, laws_szBoard_sem), (51, laws_szReceiver_sem)]⟩
theorem laws_szHalves_env : EnvOk Try.prog laws_szHalves_G := EnvOk.cons laws_szBoard_snd (EnvOk.cons laws_szReceiver_snd (envOk_nil GT_ok))
noncomputable def laws_szHalves_L : List (Nat × LoopSem) := []
theorem laws_szHalves_snd : Sound Try.prog 23 laws_szHalves_sem := sound_pu' (L := laws_szHalves_L) (k := 0) laws_szHalves_env mixed Try.func23 (by kernel_rfl) below_zero (fun x => by kernel_rfl)

@[reducible] noncomputable def laws_toMatrix_sem : FnSem := .pu (.p tEvent .u) (.p tEvent .u) [true] (fun x => laws_toMatrix x.1)
noncomputable def laws_toMatrix_G : Env := ⟨GT, []⟩
theorem laws_toMatrix_env : EnvOk Try.prog laws_toMatrix_G := envOk_nil GT_ok
noncomputable def laws_toMatrix_L : List (Nat × LoopSem) := []
theorem laws_toMatrix_snd : Sound Try.prog 76 laws_toMatrix_sem := sound_pu' (L := laws_toMatrix_L) (k := 0) laws_toMatrix_env mixed Try.func76 (by kernel_rfl) below_zero (fun x => by kernel_rfl)

@[reducible] noncomputable def laws_toIntS_sem : FnSem := .pu (.p (.sl int) .u) (.p (.sl int) .u) [true] (fun x => laws_toIntS x.1)
noncomputable def laws_toIntS_G : Env := ⟨GT, []⟩
theorem laws_toIntS_env : EnvOk Try.prog laws_toIntS_G := envOk_nil GT_ok
noncomputable def laws_toIntS_3_ls : LoopSem := ⟨22, ⟨[(0, (.data (.sl int))), (3, (.own 200001 int true)), (4, (.data int))], []⟩, 0, ⟨[(3, (.own 200001 int true))], []⟩, ⟨[], []⟩, laws_toIntS_3_loop⟩
noncomputable def laws_toIntS_L : List (Nat × LoopSem) := [(3, laws_toIntS_3_ls)]
theorem laws_toIntS_3_lok : LoopOk laws_toIntS_G laws_toIntS_L (lp Try.f32 0) := loopOk_of (r := 3) (ls := laws_toIntS_3_ls) (R := fun x => laws_toIntS_3_R x.1.1 x.1.2.1 x.1.2.2.1) (by kernel_rfl) (by kernel_rfl) rfl (fun x => by kernel_rfl)
theorem laws_toIntS_snd : Sound Try.prog 32 laws_toIntS_sem := sound_pu' (L := laws_toIntS_L) (k := 1) laws_toIntS_env mixed Try.func32 (by kernel_rfl) (below_succ laws_toIntS_3_lok below_zero) (fun x => by kernel_rfl)

@[reducible] noncomputable def laws_toDebouncer_sem : FnSem := .pu (.p tDebouncer .u) (.p tDebouncer .u) [true] (fun x => laws_toDebouncer x.1)
noncomputable def laws_toDebouncer_G : Env := ⟨GT, [(32, laws_toIntS_sem)]⟩
theorem laws_toDebouncer_env : EnvOk Try.prog laws_toDebouncer_G := EnvOk.cons laws_toIntS_snd (envOk_nil GT_ok)
noncomputable def laws_toDebouncer_L : List (Nat × LoopSem) := []
theorem laws_toDebouncer_snd : Sound Try.prog 77 laws_toDebouncer_sem := sound_pu' (L := laws_toDebouncer_L) (k := 0) laws_toDebouncer_env mixed Try.func77 (by kernel_rfl) below_zero (fun x => by kernel_rfl)

@[reducible] noncomputable def laws_toCombo_sem : FnSem := .pu (.p tCombo .u) (.p tCombo .u) [true] (fun x => laws_toCombo x.1)
noncomputable def laws_toCombo_G : Env := ⟨GT, []⟩
theorem laws_toCombo_env : EnvOk Try.prog laws_toCombo_G := envOk_nil GT_ok
noncomputable def laws_toCombo_L : List (Nat × LoopSem) := []
theorem laws_toCombo_snd : Sound Try.prog 112 laws_toCombo_sem := sound_pu' (L := laws_toCombo_L) (k := 0) laws_toCombo_env mixed Try.func112 (by kernel_rfl) below_zero (fun x => by kernel_rfl)

@[reducible] noncomputable def laws_toComboS_sem : FnSem := .pu (.p (.sl tCombo) .u) (.p (.sl tCombo) .u) [true] (fun x => laws_toComboS x.1)
noncomputable def laws_toComboS_G : Env := ⟨GT, [(112, laws_toCombo_sem)]⟩
theorem laws_toComboS_env : EnvOk Try.prog laws_toComboS_G := EnvOk.cons laws_toCombo_snd (envOk_nil GT_ok)
noncomputable def laws_toComboS_3_ls : LoopSem := ⟨23, ⟨[(0, (.data (.sl tCombo))), (3, (.own 200001 tCombo true)), (4, (.data int))], []⟩, 0, ⟨[(3, (.own 200001 tCombo true))], []⟩, ⟨[], []⟩, laws_toComboS_3_loop⟩
noncomputable def laws_toComboS_L : List (Nat × LoopSem) := [(3, laws_toComboS_3_ls)]
theorem laws_toComboS_3_lok : LoopOk laws_toComboS_G laws_toComboS_L (lp Try.f100 0) := loopOk_of (r := 3) (ls := laws_toComboS_3_ls) (R := fun x => laws_toComboS_3_R x.1.1 x.1.2.1 x.1.2.2.1) (by kernel_rfl) (by kernel_rfl) rfl (fun x => by kernel_rfl)
theorem laws_toComboS_snd : Sound Try.prog 100 laws_toComboS_sem := sound_pu' (L := laws_toComboS_L) (k := 1) laws_toComboS_env mixed Try.func100 (by kernel_rfl) (below_succ laws_toComboS_3_lok below_zero) (fun x => by kernel_rfl)

@[reducible] noncomputable def laws_toEvent_sem : FnSem := .pu (.p tEvent .u) (.p tEvent .u) [true] (fun x => laws_toEvent x.1)
noncomputable def laws_toEvent_G : Env := ⟨GT, []⟩
theorem laws_toEvent_env : EnvOk Try.prog laws_toEvent_G := envOk_nil GT_ok
noncomputable def laws_toEvent_L : List (Nat × LoopSem) := []
theorem laws_toEvent_snd : Sound Try.prog 113 laws_toEvent_sem := sound_pu' (L := laws_toEvent_L) (k := 0) laws_toEvent_env mixed Try.func113 (by kernel_rfl) below_zero (fun x => by kernel_rfl)

@[reducible] noncomputable def laws_toEventS_sem : FnSem := .pu (.p (.sl tEvent) .u) (.p (.sl tEvent) .u) [true] (fun x => laws_toEventS x.1)
noncomputable def laws_toEventS_G : Env := ⟨GT, [(113, laws_toEvent_sem)]⟩
theorem laws_toEventS_env : EnvOk Try.prog laws_toEventS_G := EnvOk.cons laws_toEvent_snd (envOk_nil GT_ok)
noncomputable def laws_toEventS_3_ls : LoopSem := ⟨23, ⟨[(0, (.data (.sl tEvent))), (3, (.own 200001 tEvent true)), (4, (.data int))], []⟩, 0, ⟨[(3, (.own 200001 tEvent true))], []⟩, ⟨[], []⟩, laws_toEventS_3_loop⟩
noncomputable def laws_toEventS_L : List (Nat × LoopSem) := [(3, laws_toEventS_3_ls)]
theorem laws_toEventS_3_lok : LoopOk laws_toEventS_G laws_toEventS_L (lp Try.f101 0) := loopOk_of (r := 3) (ls := laws_toEventS_3_ls) (R := fun x => laws_toEventS_3_R x.1.1 x.1.2.1 x.1.2.2.1) (by kernel_rfl) (by kernel_rfl) rfl (fun x => by kernel_rfl)
theorem laws_toEventS_snd : Sound Try.prog 101 laws_toEventS_sem := sound_pu' (L := laws_toEventS_L) (k := 1) laws_toEventS_env mixed Try.func101 (by kernel_rfl) (below_succ laws_toEventS_3_lok below_zero) (fun x => by kernel_rfl)

@[reducible] noncomputable def laws_toActive_sem : FnSem := .pu (.p tEvent .u) (.p tEvent .u) [true] (fun x => laws_toActive x.1)
noncomputable def laws_toActive_G : Env := ⟨GT, []⟩
theorem laws_toActive_env : EnvOk Try.prog laws_toActive_G := envOk_nil GT_ok
noncomputable def laws_toActive_L : List (Nat × LoopSem) := []
theorem laws_toActive_snd : Sound Try.prog 114 laws_toActive_sem := sound_pu' (L := laws_toActive_L) (k := 0) laws_toActive_env mixed Try.func114 (by kernel_rfl) below_zero (fun x => by kernel_rfl)

@[reducible] noncomputable def laws_toActiveS_sem : FnSem := .pu (.p (.sl tEvent) .u) (.p (.sl tEvent) .u) [true] (fun x => laws_toActiveS x.1)
noncomputable def laws_toActiveS_G : Env := ⟨GT, [(114, laws_toActive_sem)]⟩
theorem laws_toActiveS_env : EnvOk Try.prog laws_toActiveS_G := EnvOk.cons laws_toActive_snd (envOk_nil GT_ok)
noncomputable def laws_toActiveS_3_ls : LoopSem := ⟨23, ⟨[(0, (.data (.sl tEvent))), (3, (.own 200001 tEvent true)), (4, (.data int))], []⟩, 0, ⟨[(3, (.own 200001 tEvent true))], []⟩, ⟨[], []⟩, laws_toActiveS_3_loop⟩
noncomputable def laws_toActiveS_L : List (Nat × LoopSem) := [(3, laws_toActiveS_3_ls)]
theorem laws_toActiveS_3_lok : LoopOk laws_toActiveS_G laws_toActiveS_L (lp Try.f102 0) := loopOk_of (r := 3) (ls := laws_toActiveS_3_ls) (R := fun x => laws_toActiveS_3_R x.1.1 x.1.2.1 x.1.2.2.1) (by kernel_rfl) (by kernel_rfl) rfl (fun x => by kernel_rfl)
theorem laws_toActiveS_snd : Sound Try.prog 102 laws_toActiveS_sem := sound_pu' (L := laws_toActiveS_L) (k := 1) laws_toActiveS_env mixed Try.func102 (by kernel_rfl) (below_succ laws_toActiveS_3_lok below_zero) (fun x => by kernel_rfl)

@[reducible] noncomputable def laws_toCombiner_sem : FnSem := .pu (.p tCombiner .u) (.p tCombiner .u) [true] (fun x => laws_toCombiner x.1)
noncomputable def laws_toCombiner_G : Env := ⟨GT, [(100, laws_toComboS_sem), (101, laws_toEventS_sem), (102, laws_toActiveS_sem)]⟩
theorem laws_toCombiner_env : EnvOk Try.prog laws_toCombiner_G := EnvOk.cons laws_toComboS_snd (EnvOk.cons laws_toEventS_snd (EnvOk.cons laws_toActiveS_snd (envOk_nil GT_ok)))
noncomputable def laws_toCombiner_L : List (Nat × LoopSem) := []
theorem laws_toCombiner_snd : Sound Try.prog 78 laws_toCombiner_sem := sound_pu' (L := laws_toCombiner_L) (k := 0) laws_toCombiner_env mixed Try.func78 (by kernel_rfl) below_zero (fun x => by kernel_rfl)

@[reducible] noncomputable def laws_toAction_sem : FnSem := .pu (.p tAction .u) (.p tAction .u) [true] (fun x => laws_toAction x.1)
noncomputable def laws_toAction_G : Env := ⟨GT, []⟩
theorem laws_toAction_env : EnvOk Try.prog laws_toAction_G := envOk_nil GT_ok
noncomputable def laws_toAction_L : List (Nat × LoopSem) := []
theorem laws_toAction_snd : Sound Try.prog 90 laws_toAction_sem := sound_pu' (L := laws_toAction_L) (k := 0) laws_toAction_env mixed Try.func90 (by kernel_rfl) below_zero (fun x => by kernel_rfl)

@[reducible] noncomputable def laws_toActionS_sem : FnSem := .pu (.p (.sl tAction) .u) (.p (.sl tAction) .u) [true] (fun x => laws_toActionS x.1)
noncomputable def laws_toActionS_G : Env := ⟨GT, [(90, laws_toAction_sem)]⟩
theorem laws_toActionS_env : EnvOk Try.prog laws_toActionS_G := EnvOk.cons laws_toAction_snd (envOk_nil GT_ok)
noncomputable def laws_toActionS_3_ls : LoopSem := ⟨23, ⟨[(0, (.data (.sl tAction))), (3, (.own 200001 tAction true)), (4, (.data int))], []⟩, 0, ⟨[(3, (.own 200001 tAction true))], []⟩, ⟨[], []⟩, laws_toActionS_3_loop⟩
noncomputable def laws_toActionS_L : List (Nat × LoopSem) := [(3, laws_toActionS_3_ls)]
theorem laws_toActionS_3_lok : LoopOk laws_toActionS_G laws_toActionS_L (lp Try.f65 0) := loopOk_of (r := 3) (ls := laws_toActionS_3_ls) (R := fun x => laws_toActionS_3_R x.1.1 x.1.2.1 x.1.2.2.1) (by kernel_rfl) (by kernel_rfl) rfl (fun x => by kernel_rfl)
theorem laws_toActionS_snd : Sound Try.prog 65 laws_toActionS_sem := sound_pu' (L := laws_toActionS_L) (k := 1) laws_toActionS_env mixed Try.func65 (by kernel_rfl) (below_succ laws_toActionS_3_lok below_zero) (fun x => by kernel_rfl)

@[reducible] noncomputable def laws_toActionSS_sem : FnSem := .pu (.p (.sl (.sl tAction)) .u) (.p (.sl (.sl tAction)) .u) [true] (fun x => laws_toActionSS x.1)
noncomputable def laws_toActionSS_G : Env := ⟨GT, [(65, laws_toActionS_sem)]⟩
theorem laws_toActionSS_env : EnvOk Try.prog laws_toActionSS_G := EnvOk.cons laws_toActionS_snd (envOk_nil GT_ok)
noncomputable def laws_toActionSS_3_ls : LoopSem := ⟨23, ⟨[(0, (.data (.sl (.sl tAction)))), (3, (.own 200001 (.sl tAction) true)), (4, (.data int))], []⟩, 0, ⟨[(3, (.own 200001 (.sl tAction) true))], []⟩, ⟨[], []⟩, laws_toActionSS_3_loop⟩
noncomputable def laws_toActionSS_L : List (Nat × LoopSem) := [(3, laws_toActionSS_3_ls)]
theorem laws_toActionSS_3_lok : LoopOk laws_toActionSS_G laws_toActionSS_L (lp Try.f40 0) := loopOk_of (r := 3) (ls := laws_toActionSS_3_ls) (R := fun x => laws_toActionSS_3_R x.1.1 x.1.2.1 x.1.2.2.1) (by kernel_rfl) (by kernel_rfl) rfl (fun x => by kernel_rfl)
theorem laws_toActionSS_snd : Sound Try.prog 40 laws_toActionSS_sem := sound_pu' (L := laws_toActionSS_L) (k := 1) laws_toActionSS_env mixed Try.func40 (by kernel_rfl) (below_succ laws_toActionSS_3_lok below_zero) (fun x => by kernel_rfl)

@[reducible] noncomputable def laws_toKeymap_sem : FnSem := .pu (.p tKeymap .u) (.p tKeymap .u) [true] (fun x => laws_toKeymap x.1)
noncomputable def laws_toKeymap_G : Env := ⟨GT, [(40, laws_toActionSS_sem)]⟩
theorem laws_toKeymap_env : EnvOk Try.prog laws_toKeymap_G := EnvOk.cons laws_toActionSS_snd (envOk_nil GT_ok)
noncomputable def laws_toKeymap_L : List (Nat × LoopSem) := []
theorem laws_toKeymap_snd : Sound Try.prog 16 laws_toKeymap_sem := sound_pu' (L := laws_toKeymap_L) (k := 0) laws_toKeymap_env mixed Try.func16 (by kernel_rfl) below_zero (fun x => by kernel_rfl)

@[reducible] noncomputable def laws_toStep_sem : FnSem := .pu (.p tStep .u) (.p tStep .u) [true] (fun x => laws_toStep x.1)
noncomputable def laws_toStep_G : Env := ⟨GT, []⟩
theorem laws_toStep_env : EnvOk Try.prog laws_toStep_G := envOk_nil GT_ok
noncomputable def laws_toStep_L : List (Nat × LoopSem) := []
theorem laws_toStep_snd : Sound Try.prog 127 laws_toStep_sem := sound_pu' (L := laws_toStep_L) (k := 0) laws_toStep_env mixed Try.func127 (by kernel_rfl) below_zero (fun x => by kernel_rfl)

@[reducible] noncomputable def laws_toStepS_sem : FnSem := .pu (.p (.sl tStep) .u) (.p (.sl tStep) .u) [true] (fun x => laws_toStepS x.1)
noncomputable def laws_toStepS_G : Env := ⟨GT, [(127, laws_toStep_sem)]⟩
theorem laws_toStepS_env : EnvOk Try.prog laws_toStepS_G := EnvOk.cons laws_toStep_snd (envOk_nil GT_ok)
noncomputable def laws_toStepS_3_ls : LoopSem := ⟨23, ⟨[(0, (.data (.sl tStep))), (3, (.own 200001 tStep true)), (4, (.data int))], []⟩, 0, ⟨[(3, (.own 200001 tStep true))], []⟩, ⟨[], []⟩, laws_toStepS_3_loop⟩
noncomputable def laws_toStepS_L : List (Nat × LoopSem) := [(3, laws_toStepS_3_ls)]
theorem laws_toStepS_3_lok : LoopOk laws_toStepS_G laws_toStepS_L (lp Try.f123 0) := loopOk_of (r := 3) (ls := laws_toStepS_3_ls) (R := fun x => laws_toStepS_3_R x.1.1 x.1.2.1 x.1.2.2.1) (by kernel_rfl) (by kernel_rfl) rfl (fun x => by kernel_rfl)
theorem laws_toStepS_snd : Sound Try.prog 123 laws_toStepS_sem := sound_pu' (L := laws_toStepS_L) (k := 1) laws_toStepS_env mixed Try.func123 (by kernel_rfl) (below_succ laws_toStepS_3_lok below_zero) (fun x => by kernel_rfl)

@[reducible] noncomputable def laws_toStepSS_sem : FnSem := .pu (.p (.sl (.sl tStep)) .u) (.p (.sl (.sl tStep)) .u) [true] (fun x => laws_toStepSS x.1)
noncomputable def laws_toStepSS_G : Env := ⟨GT, [(123, laws_toStepS_sem)]⟩
theorem laws_toStepSS_env : EnvOk Try.prog laws_toStepSS_G := EnvOk.cons laws_toStepS_snd (envOk_nil GT_ok)
noncomputable def laws_toStepSS_3_ls : LoopSem := ⟨23, ⟨[(0, (.data (.sl (.sl tStep)))), (3, (.own 200001 (.sl tStep) true)), (4, (.data int))], []⟩, 0, ⟨[(3, (.own 200001 (.sl tStep) true))], []⟩, ⟨[], []⟩, laws_toStepSS_3_loop⟩
noncomputable def laws_toStepSS_L : List (Nat × LoopSem) := [(3, laws_toStepSS_3_ls)]
theorem laws_toStepSS_3_lok : LoopOk laws_toStepSS_G laws_toStepSS_L (lp Try.f115 0) := loopOk_of (r := 3) (ls := laws_toStepSS_3_ls) (R := fun x => laws_toStepSS_3_R x.1.1 x.1.2.1 x.1.2.2.1) (by kernel_rfl) (by kernel_rfl) rfl (fun x => by kernel_rfl)
theorem laws_toStepSS_snd : Sound Try.prog 115 laws_toStepSS_sem := sound_pu' (L := laws_toStepSS_L) (k := 1) laws_toStepSS_env mixed Try.func115 (by kernel_rfl) (below_succ laws_toStepSS_3_lok below_zero) (fun x => by kernel_rfl)

@[reducible] noncomputable def laws_toHeld_sem : FnSem := .pu (.p tHeld .u) (.p tHeld .u) [true] (fun x => laws_toHeld x.1)
noncomputable def laws_toHeld_G : Env := ⟨GT, [(90, laws_toAction_sem)]⟩
theorem laws_toHeld_env : EnvOk Try.prog laws_toHeld_G := EnvOk.cons laws_toAction_snd (envOk_nil GT_ok)
noncomputable def laws_toHeld_L : List (Nat × LoopSem) := []
theorem laws_toHeld_snd : Sound Try.prog 124 laws_toHeld_sem := sound_pu' (L := laws_toHeld_L) (k := 0) laws_toHeld_env mixed Try.func124 (by kernel_rfl) below_zero (fun x => by kernel_rfl)

@[reducible] noncomputable def laws_toHeldS_sem : FnSem := .pu (.p (.sl tHeld) .u) (.p (.sl tHeld) .u) [true] (fun x => laws_toHeldS x.1)
noncomputable def laws_toHeldS_G : Env := ⟨GT, [(124, laws_toHeld_sem)]⟩
theorem laws_toHeldS_env : EnvOk Try.prog laws_toHeldS_G := EnvOk.cons laws_toHeld_snd (envOk_nil GT_ok)
noncomputable def laws_toHeldS_3_ls : LoopSem := ⟨23, ⟨[(0, (.data (.sl tHeld))), (3, (.own 200001 tHeld true)), (4, (.data int))], []⟩, 0, ⟨[(3, (.own 200001 tHeld true))], []⟩, ⟨[], []⟩, laws_toHeldS_3_loop⟩
noncomputable def laws_toHeldS_L : List (Nat × LoopSem) := [(3, laws_toHeldS_3_ls)]
theorem laws_toHeldS_3_lok : LoopOk laws_toHeldS_G laws_toHeldS_L (lp Try.f116 0) := loopOk_of (r := 3) (ls := laws_toHeldS_3_ls) (R := fun x => laws_toHeldS_3_R x.1.1 x.1.2.1 x.1.2.2.1) (by kernel_rfl) (by kernel_rfl) rfl (fun x => by kernel_rfl)
theorem laws_toHeldS_snd : Sound Try.prog 116 laws_toHeldS_sem := sound_pu' (L := laws_toHeldS_L) (k := 1) laws_toHeldS_env mixed Try.func116 (by kernel_rfl) (below_succ laws_toHeldS_3_lok below_zero) (fun x => by kernel_rfl)

@[reducible] noncomputable def laws_toEngine_sem : FnSem := .pu (.p tEngine .u) (.p tEngine .u) [true] (fun x => laws_toEngine x.1)
noncomputable def laws_toEngine_G : Env := ⟨GT, [(16, laws_toKeymap_sem), (115, laws_toStepSS_sem), (116, laws_toHeldS_sem)]⟩
theorem laws_toEngine_env : EnvOk Try.prog laws_toEngine_G := EnvOk.cons laws_toKeymap_snd (EnvOk.cons laws_toStepSS_snd (EnvOk.cons laws_toHeldS_snd (envOk_nil GT_ok)))
noncomputable def laws_toEngine_L : List (Nat × LoopSem) := []
theorem laws_toEngine_snd : Sound Try.prog 103 laws_toEngine_sem := sound_pu' (L := laws_toEngine_L) (k := 0) laws_toEngine_env mixed Try.func103 (by kernel_rfl) below_zero (fun x => by kernel_rfl)

@[reducible] noncomputable def laws_toTiming_sem : FnSem := .pu (.p tStep .u) (.p tStep .u) [true] (fun x => laws_toTiming x.1)
noncomputable def laws_toTiming_G : Env := ⟨GT, []⟩
theorem laws_toTiming_env : EnvOk Try.prog laws_toTiming_G := envOk_nil GT_ok
noncomputable def laws_toTiming_L : List (Nat × LoopSem) := []
theorem laws_toTiming_snd : Sound Try.prog 104 laws_toTiming_sem := sound_pu' (L := laws_toTiming_L) (k := 0) laws_toTiming_env mixed Try.func104 (by kernel_rfl) below_zero (fun x => by kernel_rfl)

@[reducible] noncomputable def laws_toDecider_sem : FnSem := .pu (.p tDecider .u) (.p tDecider .u) [true] (fun x => laws_toDecider x.1)
noncomputable def laws_toDecider_G : Env := ⟨GT, [(103, laws_toEngine_sem), (104, laws_toTiming_sem), (101, laws_toEventS_sem)]⟩
theorem laws_toDecider_env : EnvOk Try.prog laws_toDecider_G := EnvOk.cons laws_toEngine_snd (EnvOk.cons laws_toTiming_snd (EnvOk.cons laws_toEventS_snd (envOk_nil GT_ok)))
noncomputable def laws_toDecider_L : List (Nat × LoopSem) := []
theorem laws_toDecider_snd : Sound Try.prog 79 laws_toDecider_sem := sound_pu' (L := laws_toDecider_L) (k := 0) laws_toDecider_env mixed Try.func79 (by kernel_rfl) below_zero (fun x => by kernel_rfl)

@[reducible] noncomputable def laws_toBoard_sem : FnSem := .pu (.p tBoard .u) (.p tBoard .u) [true] (fun x => laws_toBoard x.1)
noncomputable def laws_toBoard_G : Env := ⟨GT, [(76, laws_toMatrix_sem), (77, laws_toDebouncer_sem), (78, laws_toCombiner_sem), (79, laws_toDecider_sem)]⟩
theorem laws_toBoard_env : EnvOk Try.prog laws_toBoard_G := EnvOk.cons laws_toMatrix_snd (EnvOk.cons laws_toDebouncer_snd (EnvOk.cons laws_toCombiner_snd (EnvOk.cons laws_toDecider_snd (envOk_nil GT_ok))))
noncomputable def laws_toBoard_L : List (Nat × LoopSem) := []
theorem laws_toBoard_snd : Sound Try.prog 53 laws_toBoard_sem := sound_pu' (L := laws_toBoard_L) (k := 0) laws_toBoard_env mixed Try.func53 (by kernel_rfl) below_zero (fun x => by kernel_rfl)

@[reducible] noncomputable def laws_toByteS_sem : FnSem := .pu (.p (.sl byte) .u) (.p (.sl byte) .u) [true] (fun x => laws_toByteS x.1)
noncomputable def laws_toByteS_G : Env := ⟨GT, []⟩
theorem laws_toByteS_env : EnvOk Try.prog laws_toByteS_G := envOk_nil GT_ok
noncomputable def laws_toByteS_3_ls : LoopSem := ⟨22, ⟨[(0, (.data (.sl byte))), (3, (.own 200001 byte true)), (4, (.data int))], []⟩, 0, ⟨[(3, (.own 200001 byte true))], []⟩, ⟨[], []⟩, laws_toByteS_3_loop⟩
noncomputable def laws_toByteS_L : List (Nat × LoopSem) := [(3, laws_toByteS_3_ls)]
theorem laws_toByteS_3_lok : LoopOk laws_toByteS_G laws_toByteS_L (lp Try.f80 0) := loopOk_of (r := 3) (ls := laws_toByteS_3_ls) (R := fun x => laws_toByteS_3_R x.1.1 x.1.2.1 x.1.2.2.1) (by kernel_rfl) (by kernel_rfl) rfl (fun x => by kernel_rfl)
theorem laws_toByteS_snd : Sound Try.prog 80 laws_toByteS_sem := sound_pu' (L := laws_toByteS_L) (k := 1) laws_toByteS_env mixed Try.func80 (by kernel_rfl) (below_succ laws_toByteS_3_lok below_zero) (fun x => by kernel_rfl)

@[reducible] noncomputable def laws_toReceiver_sem : FnSem := .pu (.p tReceiver .u) (.p tReceiver .u) [true] (fun x => laws_toReceiver x.1)
noncomputable def laws_toReceiver_G : Env := ⟨GT, [(80, laws_toByteS_sem)]⟩
theorem laws_toReceiver_env : EnvOk Try.prog laws_toReceiver_G := EnvOk.cons laws_toByteS_snd (envOk_nil GT_ok)
noncomputable def laws_toReceiver_L : List (Nat × LoopSem) := []
theorem laws_toReceiver_snd : Sound Try.prog 54 laws_toReceiver_sem := sound_pu' (L := laws_toReceiver_L) (k := 0) laws_toReceiver_env mixed Try.func54 (by kernel_rfl) below_zero (fun x => by kernel_rfl)

@[reducible] noncomputable def laws_toHalves_sem : FnSem := .pu (.p tHalves .u) (.p tHalves .u) [true] (fun x => laws_toHalves x.1)
noncomputable def laws_toHalves_G : Env := ⟨GT, [(53, laws_toBoard_sem), (54, laws_toReceiver_sem)]⟩
theorem laws_toHalves_env : EnvOk Try.prog laws_toHalves_G := EnvOk.cons laws_toBoard_snd (EnvOk.cons laws_toReceiver_snd (envOk_nil GT_ok))
noncomputable def laws_toHalves_L : List (Nat × LoopSem) := []
theorem laws_toHalves_snd : Sound Try.prog 25 laws_toHalves_sem := sound_pu' (L := laws_toHalves_L) (k := 0) laws_toHalves_env mixed Try.func25 (by kernel_rfl) below_zero (fun x => by kernel_rfl)

@[reducible] noncomputable def spec_l1In_sem : FnSem := .pu tStep (.p .b .u) [true] (fun x => spec_l1In x.1 x.2.1 x.2.2.1)
noncomputable def spec_l1In_G : Env := ⟨GT, []⟩
theorem spec_l1In_env : EnvOk Try.prog spec_l1In_G := envOk_nil GT_ok
noncomputable def spec_l1In_L : List (Nat × LoopSem) := []
theorem spec_l1In_snd : Sound Try.prog 38 spec_l1In_sem := sound_pu' (L := spec_l1In_L) (k := 0) spec_l1In_env mixed Try.func38 (by kernel_rfl) below_zero (fun x => by kernel_rfl)

@[reducible] noncomputable def spec_IsMatrix_sem : FnSem := .pu (.p tEvent .u) (.p .b .u) [true] (fun x => spec_IsMatrix x.1)
noncomputable def spec_IsMatrix_G : Env := ⟨GT, [(38, spec_l1In_sem)]⟩
theorem spec_IsMatrix_env : EnvOk Try.prog spec_IsMatrix_G := EnvOk.cons spec_l1In_snd (envOk_nil GT_ok)
noncomputable def spec_IsMatrix_L : List (Nat × LoopSem) := []
theorem spec_IsMatrix_snd : Sound Try.prog 75 spec_IsMatrix_sem := sound_pu' (L := spec_IsMatrix_L) (k := 0) spec_IsMatrix_env mixed Try.func75 (by kernel_rfl) below_zero (fun x => by kernel_rfl)

@[reducible] noncomputable def spec_KeyCount_sem : FnSem := .pu (.p tEvent .u) (.p int .u) [true] (fun x => spec_KeyCount x.1)
noncomputable def spec_KeyCount_G : Env := ⟨GT, [(75, spec_IsMatrix_sem)]⟩
theorem spec_KeyCount_env : EnvOk Try.prog spec_KeyCount_G := EnvOk.cons spec_IsMatrix_snd (envOk_nil GT_ok)
noncomputable def spec_KeyCount_L : List (Nat × LoopSem) := []
theorem spec_KeyCount_snd : Sound Try.prog 52 spec_KeyCount_sem := sound_pu' (L := spec_KeyCount_L) (k := 0) spec_KeyCount_env mixed Try.func52 (by kernel_rfl) below_zero (fun x => by kernel_rfl)

@[reducible] noncomputable def spec_HalfKeys_sem : FnSem := .pu (.p tHalves .u) (.p int .u) [true] (fun x => spec_HalfKeys x.1)
noncomputable def spec_HalfKeys_G : Env := ⟨GT, [(52, spec_KeyCount_sem)]⟩
theorem spec_HalfKeys_env : EnvOk Try.prog spec_HalfKeys_G := EnvOk.cons spec_KeyCount_snd (envOk_nil GT_ok)
noncomputable def spec_HalfKeys_L : List (Nat × LoopSem) := []
theorem spec_HalfKeys_snd : Sound Try.prog 24 spec_HalfKeys_sem := sound_pu' (L := spec_HalfKeys_L) (k := 0) spec_HalfKeys_env mixed Try.func24 (by kernel_rfl) below_zero (fun x => by kernel_rfl)

@[reducible] noncomputable def impl_IsMatrix_sem : FnSem := .pu (.p tEvent .u) (.p .b .u) [true] (fun x => impl_IsMatrix x.1)
noncomputable def impl_IsMatrix_G : Env := ⟨GT, []⟩
theorem impl_IsMatrix_env : EnvOk Try.prog impl_IsMatrix_G := envOk_nil GT_ok
noncomputable def impl_IsMatrix_L : List (Nat × LoopSem) := []
theorem impl_IsMatrix_snd : Sound Try.prog 81 impl_IsMatrix_sem := sound_pu' (L := impl_IsMatrix_L) (k := 0) impl_IsMatrix_env mixed Try.func81 (by kernel_rfl) below_zero (fun x => by kernel_rfl)

@[reducible] noncomputable def impl_KeyCount_sem : FnSem := .pu (.p tEvent .u) (.p int .u) [true] (fun x => impl_KeyCount x.1)
noncomputable def impl_KeyCount_G : Env := ⟨GT, [(81, impl_IsMatrix_sem)]⟩
theorem impl_KeyCount_env : EnvOk Try.prog impl_KeyCount_G := EnvOk.cons impl_IsMatrix_snd (envOk_nil GT_ok)
noncomputable def impl_KeyCount_L : List (Nat × LoopSem) := []
theorem impl_KeyCount_snd : Sound Try.prog 55 impl_KeyCount_sem := sound_pu' (L := impl_KeyCount_L) (k := 0) impl_KeyCount_env mixed Try.func55 (by kernel_rfl) below_zero (fun x => by kernel_rfl)

@[reducible] noncomputable def impl_HalfKeys_sem : FnSem := .pu (.p tHalves .u) (.p int .u) [true] (fun x => impl_HalfKeys x.1)
noncomputable def impl_HalfKeys_G : Env := ⟨GT, [(55, impl_KeyCount_sem)]⟩
theorem impl_HalfKeys_env : EnvOk Try.prog impl_HalfKeys_G := EnvOk.cons impl_KeyCount_snd (envOk_nil GT_ok)
noncomputable def impl_HalfKeys_L : List (Nat × LoopSem) := []
theorem impl_HalfKeys_snd : Sound Try.prog 26 impl_HalfKeys_sem := sound_pu' (L := impl_HalfKeys_L) (k := 0) impl_HalfKeys_env mixed Try.func26 (by kernel_rfl) below_zero (fun x => by kernel_rfl)

@[reducible] noncomputable def laws_eqMatrix_sem : FnSem := .pu tBoth (.p .b .u) [true] (fun x => laws_eqMatrix x.1 x.2.1)
noncomputable def laws_eqMatrix_G : Env := ⟨GT, []⟩
theorem laws_eqMatrix_env : EnvOk Try.prog laws_eqMatrix_G := envOk_nil GT_ok
noncomputable def laws_eqMatrix_L : List (Nat × LoopSem) := []
theorem laws_eqMatrix_snd : Sound Try.prog 82 laws_eqMatrix_sem := sound_pu' (L := laws_eqMatrix_L) (k := 0) laws_eqMatrix_env mixed Try.func82 (by kernel_rfl) below_zero (fun x => by kernel_rfl)

@[reducible] noncomputable def laws_eqIntS_sem : FnSem := .pu (.p (.sl int) (.p (.sl int) .u)) (.p .b .u) [true] (fun x => laws_eqIntS x.1 x.2.1)
noncomputable def laws_eqIntS_G : Env := ⟨GT, []⟩
theorem laws_eqIntS_env : EnvOk Try.prog laws_eqIntS_G := envOk_nil GT_ok
noncomputable def laws_eqIntS_4_ls : LoopSem := ⟨26, ⟨[(0, (.data (.sl int))), (1, (.data (.sl int))), (5, (.data int))], []⟩, 0, ⟨[], []⟩, ⟨[(4, (.data .b))], []⟩, laws_eqIntS_4_loop⟩
noncomputable def laws_eqIntS_L : List (Nat × LoopSem) := [(4, laws_eqIntS_4_ls)]
theorem laws_eqIntS_4_lok : LoopOk laws_eqIntS_G laws_eqIntS_L (lp Try.f35 0) := loopOk_of (r := 4) (ls := laws_eqIntS_4_ls) (R := fun x => laws_eqIntS_4_R x.1.1 x.1.2.1 x.1.2.2.1) (by kernel_rfl) (by kernel_rfl) rfl (fun x => by kernel_rfl)
theorem laws_eqIntS_snd : Sound Try.prog 35 laws_eqIntS_sem := sound_pu' (L := laws_eqIntS_L) (k := 1) laws_eqIntS_env mixed Try.func35 (by kernel_rfl) (below_succ laws_eqIntS_4_lok below_zero) (fun x => by kernel_rfl)

@[reducible] noncomputable def laws_eqDebouncer_sem : FnSem := .pu (.p tDebouncer (.p tDebouncer .u)) (.p .b .u) [true] (fun x => laws_eqDebouncer x.1 x.2.1)
noncomputable def laws_eqDebouncer_G : Env := ⟨GT, [(35, laws_eqIntS_sem)]⟩
theorem laws_eqDebouncer_env : EnvOk Try.prog laws_eqDebouncer_G := EnvOk.cons laws_eqIntS_snd (envOk_nil GT_ok)
noncomputable def laws_eqDebouncer_L : List (Nat × LoopSem) := []
theorem laws_eqDebouncer_snd : Sound Try.prog 83 laws_eqDebouncer_sem := sound_pu' (L := laws_eqDebouncer_L) (k := 0) laws_eqDebouncer_env mixed Try.func83 (by kernel_rfl) below_zero (fun x => by kernel_rfl)

@[reducible] noncomputable def laws_eqCombo_sem : FnSem := .pu (.p tCombo (.p tCombo .u)) (.p .b .u) [true] (fun x => laws_eqCombo x.1 x.2.1)
noncomputable def laws_eqCombo_G : Env := ⟨GT, []⟩
theorem laws_eqCombo_env : EnvOk Try.prog laws_eqCombo_G := envOk_nil GT_ok
noncomputable def laws_eqCombo_L : List (Nat × LoopSem) := []
theorem laws_eqCombo_snd : Sound Try.prog 117 laws_eqCombo_sem := sound_pu' (L := laws_eqCombo_L) (k := 0) laws_eqCombo_env mixed Try.func117 (by kernel_rfl) below_zero (fun x => by kernel_rfl)

@[reducible] noncomputable def laws_eqComboS_sem : FnSem := .pu (.p (.sl tCombo) (.p (.sl tCombo) .u)) (.p .b .u) [true] (fun x => laws_eqComboS x.1 x.2.1)
noncomputable def laws_eqComboS_G : Env := ⟨GT, [(117, laws_eqCombo_sem)]⟩
theorem laws_eqComboS_env : EnvOk Try.prog laws_eqComboS_G := EnvOk.cons laws_eqCombo_snd (envOk_nil GT_ok)
noncomputable def laws_eqComboS_4_ls : LoopSem := ⟨27, ⟨[(0, (.data (.sl tCombo))), (1, (.data (.sl tCombo))), (5, (.data int))], []⟩, 0, ⟨[], []⟩, ⟨[(4, (.data .b))], []⟩, laws_eqComboS_4_loop⟩
noncomputable def laws_eqComboS_L : List (Nat × LoopSem) := [(4, laws_eqComboS_4_ls)]
theorem laws_eqComboS_4_lok : LoopOk laws_eqComboS_G laws_eqComboS_L (lp Try.f105 0) := loopOk_of (r := 4) (ls := laws_eqComboS_4_ls) (R := fun x => laws_eqComboS_4_R x.1.1 x.1.2.1 x.1.2.2.1) (by kernel_rfl) (by kernel_rfl) rfl (fun x => by kernel_rfl)
theorem laws_eqComboS_snd : Sound Try.prog 105 laws_eqComboS_sem := sound_pu' (L := laws_eqComboS_L) (k := 1) laws_eqComboS_env mixed Try.func105 (by kernel_rfl) (below_succ laws_eqComboS_4_lok below_zero) (fun x => by kernel_rfl)

@[reducible] noncomputable def laws_eqEvent_sem : FnSem := .pu tBoth (.p .b .u) [true] (fun x => laws_eqEvent x.1 x.2.1)
noncomputable def laws_eqEvent_G : Env := ⟨GT, []⟩
theorem laws_eqEvent_env : EnvOk Try.prog laws_eqEvent_G := envOk_nil GT_ok
noncomputable def laws_eqEvent_L : List (Nat × LoopSem) := []
theorem laws_eqEvent_snd : Sound Try.prog 118 laws_eqEvent_sem := sound_pu' (L := laws_eqEvent_L) (k := 0) laws_eqEvent_env mixed Try.func118 (by kernel_rfl) below_zero (fun x => by kernel_rfl)

@[reducible] noncomputable def laws_eqEventS_sem : FnSem := .pu (.p (.sl tEvent) (.p (.sl tEvent) .u)) (.p .b .u) [true] (fun x => laws_eqEventS x.1 x.2.1)
noncomputable def laws_eqEventS_G : Env := ⟨GT, [(118, laws_eqEvent_sem)]⟩
theorem laws_eqEventS_env : EnvOk Try.prog laws_eqEventS_G := EnvOk.cons laws_eqEvent_snd (envOk_nil GT_ok)
noncomputable def laws_eqEventS_4_ls : LoopSem := ⟨27, ⟨[(0, (.data (.sl tEvent))), (1, (.data (.sl tEvent))), (5, (.data int))], []⟩, 0, ⟨[], []⟩, ⟨[(4, (.data .b))], []⟩, laws_eqEventS_4_loop⟩
noncomputable def laws_eqEventS_L : List (Nat × LoopSem) := [(4, laws_eqEventS_4_ls)]
theorem laws_eqEventS_4_lok : LoopOk laws_eqEventS_G laws_eqEventS_L (lp Try.f106 0) := loopOk_of (r := 4) (ls := laws_eqEventS_4_ls) (R := fun x => laws_eqEventS_4_R x.1.1 x.1.2.1 x.1.2.2.1) (by kernel_rfl) (by kernel_rfl) rfl (fun x => by kernel_rfl)
theorem laws_eqEventS_snd : Sound Try.prog 106 laws_eqEventS_sem := sound_pu' (L := laws_eqEventS_L) (k := 1) laws_eqEventS_env mixed Try.func106 (by kernel_rfl) (below_succ laws_eqEventS_4_lok below_zero) (fun x => by kernel_rfl)

@[reducible] noncomputable def laws_eqActive_sem : FnSem := .pu tBoth (.p .b .u) [true] (fun x => laws_eqActive x.1 x.2.1)
noncomputable def laws_eqActive_G : Env := ⟨GT, []⟩
theorem laws_eqActive_env : EnvOk Try.prog laws_eqActive_G := envOk_nil GT_ok
noncomputable def laws_eqActive_L : List (Nat × LoopSem) := []
theorem laws_eqActive_snd : Sound Try.prog 119 laws_eqActive_sem := sound_pu' (L := laws_eqActive_L) (k := 0) laws_eqActive_env mixed Try.func119 (by kernel_rfl) below_zero (fun x => by kernel_rfl)

@[reducible] noncomputable def laws_eqActiveS_sem : FnSem := .pu (.p (.sl tEvent) (.p (.sl tEvent) .u)) (.p .b .u) [true] (fun x => laws_eqActiveS x.1 x.2.1)
noncomputable def laws_eqActiveS_G : Env := ⟨GT, [(119, laws_eqActive_sem)]⟩
theorem laws_eqActiveS_env : EnvOk Try.prog laws_eqActiveS_G := EnvOk.cons laws_eqActive_snd (envOk_nil GT_ok)
noncomputable def laws_eqActiveS_4_ls : LoopSem := ⟨27, ⟨[(0, (.data (.sl tEvent))), (1, (.data (.sl tEvent))), (5, (.data int))], []⟩, 0, ⟨[], []⟩, ⟨[(4, (.data .b))], []⟩, laws_eqActiveS_4_loop⟩
noncomputable def laws_eqActiveS_L : List (Nat × LoopSem) := [(4, laws_eqActiveS_4_ls)]
theorem laws_eqActiveS_4_lok : LoopOk laws_eqActiveS_G laws_eqActiveS_L (lp Try.f107 0) := loopOk_of (r := 4) (ls := laws_eqActiveS_4_ls) (R := fun x => laws_eqActiveS_4_R x.1.1 x.1.2.1 x.1.2.2.1) (by kernel_rfl) (by kernel_rfl) rfl (fun x => by kernel_rfl)
theorem laws_eqActiveS_snd : Sound Try.prog 107 laws_eqActiveS_sem := sound_pu' (L := laws_eqActiveS_L) (k := 1) laws_eqActiveS_env mixed Try.func107 (by kernel_rfl) (below_succ laws_eqActiveS_4_lok below_zero) (fun x => by kernel_rfl)

@[reducible] noncomputable def laws_eqCombiner_sem : FnSem := .pu (.p tCombiner (.p tCombiner .u)) (.p .b .u) [true] (fun x => laws_eqCombiner x.1 x.2.1)
noncomputable def laws_eqCombiner_G : Env := ⟨GT, [(105, laws_eqComboS_sem), (106, laws_eqEventS_sem), (107, laws_eqActiveS_sem)]⟩
theorem laws_eqCombiner_env : EnvOk Try.prog laws_eqCombiner_G := EnvOk.cons laws_eqComboS_snd (EnvOk.cons laws_eqEventS_snd (EnvOk.cons laws_eqActiveS_snd (envOk_nil GT_ok)))
noncomputable def laws_eqCombiner_L : List (Nat × LoopSem) := []
theorem laws_eqCombiner_snd : Sound Try.prog 84 laws_eqCombiner_sem := sound_pu' (L := laws_eqCombiner_L) (k := 0) laws_eqCombiner_env mixed Try.func84 (by kernel_rfl) below_zero (fun x => by kernel_rfl)

@[reducible] noncomputable def laws_eqAction_sem : FnSem := .pu (.p tAction (.p tAction .u)) (.p .b .u) [true] (fun x => laws_eqAction x.1 x.2.1)
noncomputable def laws_eqAction_G : Env := ⟨GT, []⟩
theorem laws_eqAction_env : EnvOk Try.prog laws_eqAction_G := envOk_nil GT_ok
noncomputable def laws_eqAction_L : List (Nat × LoopSem) := []
theorem laws_eqAction_snd : Sound Try.prog 95 laws_eqAction_sem := sound_pu' (L := laws_eqAction_L) (k := 0) laws_eqAction_env mixed Try.func95 (by kernel_rfl) below_zero (fun x => by kernel_rfl)

@[reducible] noncomputable def laws_eqActionS_sem : FnSem := .pu (.p (.sl tAction) (.p (.sl tAction) .u)) (.p .b .u) [true] (fun x => laws_eqActionS x.1 x.2.1)
noncomputable def laws_eqActionS_G : Env := ⟨GT, [(95, laws_eqAction_sem)]⟩
theorem laws_eqActionS_env : EnvOk Try.prog laws_eqActionS_G := EnvOk.cons laws_eqAction_snd (envOk_nil GT_ok)
noncomputable def laws_eqActionS_4_ls : LoopSem := ⟨27, ⟨[(0, (.data (.sl tAction))), (1, (.data (.sl tAction))), (5, (.data int))], []⟩, 0, ⟨[], []⟩, ⟨[(4, (.data .b))], []⟩, laws_eqActionS_4_loop⟩
noncomputable def laws_eqActionS_L : List (Nat × LoopSem) := [(4, laws_eqActionS_4_ls)]
theorem laws_eqActionS_4_lok : LoopOk laws_eqActionS_G laws_eqActionS_L (lp Try.f68 0) := loopOk_of (r := 4) (ls := laws_eqActionS_4_ls) (R := fun x => laws_eqActionS_4_R x.1.1 x.1.2.1 x.1.2.2.1) (by kernel_rfl) (by kernel_rfl) rfl (fun x => by kernel_rfl)
theorem laws_eqActionS_snd : Sound Try.prog 68 laws_eqActionS_sem := sound_pu' (L := laws_eqActionS_L) (k := 1) laws_eqActionS_env mixed Try.func68 (by kernel_rfl) (below_succ laws_eqActionS_4_lok below_zero) (fun x => by kernel_rfl)

@[reducible] noncomputable def laws_eqActionSS_sem : FnSem := .pu (.p (.sl (.sl tAction)) (.p (.sl (.sl tAction)) .u)) (.p .b .u) [true] (fun x => laws_eqActionSS x.1 x.2.1)
noncomputable def laws_eqActionSS_G : Env := ⟨GT, [(68, laws_eqActionS_sem)]⟩
theorem laws_eqActionSS_env : EnvOk Try.prog laws_eqActionSS_G := EnvOk.cons laws_eqActionS_snd (envOk_nil GT_ok)
noncomputable def laws_eqActionSS_4_ls : LoopSem := ⟨27, ⟨[(0, (.data (.sl (.sl tAction)))), (1, (.data (.sl (.sl tAction)))), (5, (.data int))], []⟩, 0, ⟨[], []⟩, ⟨[(4, (.data .b))], []⟩, laws_eqActionSS_4_loop⟩
noncomputable def laws_eqActionSS_L : List (Nat × LoopSem) := [(4, laws_eqActionSS_4_ls)]
theorem laws_eqActionSS_4_lok : LoopOk laws_eqActionSS_G laws_eqActionSS_L (lp Try.f43 0) := loopOk_of (r := 4) (ls := laws_eqActionSS_4_ls) (R := fun x => laws_eqActionSS_4_R x.1.1 x.1.2.1 x.1.2.2.1) (by kernel_rfl) (by kernel_rfl) rfl (fun x => by kernel_rfl)
theorem laws_eqActionSS_snd : Sound Try.prog 43 laws_eqActionSS_sem := sound_pu' (L := laws_eqActionSS_L) (k := 1) laws_eqActionSS_env mixed Try.func43 (by kernel_rfl) (below_succ laws_eqActionSS_4_lok below_zero) (fun x => by kernel_rfl)

@[reducible] noncomputable def laws_eqKeymap_sem : FnSem := .pu (.p tKeymap (.p tKeymap .u)) (.p .b .u) [true] (fun x => laws_eqKeymap x.1 x.2.1)
noncomputable def laws_eqKeymap_G : Env := ⟨GT, [(43, laws_eqActionSS_sem)]⟩
theorem laws_eqKeymap_env : EnvOk Try.prog laws_eqKeymap_G := EnvOk.cons laws_eqActionSS_snd (envOk_nil GT_ok)
noncomputable def laws_eqKeymap_L : List (Nat × LoopSem) := []
theorem laws_eqKeymap_snd : Sound Try.prog 18 laws_eqKeymap_sem := sound_pu' (L := laws_eqKeymap_L) (k := 0) laws_eqKeymap_env mixed Try.func18 (by kernel_rfl) below_zero (fun x => by kernel_rfl)

@[reducible] noncomputable def laws_eqStep_sem : FnSem := .pu (.p tStep (.p tStep .u)) (.p .b .u) [true] (fun x => laws_eqStep x.1 x.2.1)
noncomputable def laws_eqStep_G : Env := ⟨GT, []⟩
theorem laws_eqStep_env : EnvOk Try.prog laws_eqStep_G := envOk_nil GT_ok
noncomputable def laws_eqStep_L : List (Nat × LoopSem) := []
theorem laws_eqStep_snd : Sound Try.prog 128 laws_eqStep_sem := sound_pu' (L := laws_eqStep_L) (k := 0) laws_eqStep_env mixed Try.func128 (by kernel_rfl) below_zero (fun x => by kernel_rfl)

@[reducible] noncomputable def laws_eqStepS_sem : FnSem := .pu (.p (.sl tStep) (.p (.sl tStep) .u)) (.p .b .u) [true] (fun x => laws_eqStepS x.1 x.2.1)
noncomputable def laws_eqStepS_G : Env := ⟨GT, [(128, laws_eqStep_sem)]⟩
theorem laws_eqStepS_env : EnvOk Try.prog laws_eqStepS_G := EnvOk.cons laws_eqStep_snd (envOk_nil GT_ok)
noncomputable def laws_eqStepS_4_ls : LoopSem := ⟨27, ⟨[(0, (.data (.sl tStep))), (1, (.data (.sl tStep))), (5, (.data int))], []⟩, 0, ⟨[], []⟩, ⟨[(4, (.data .b))], []⟩, laws_eqStepS_4_loop⟩
noncomputable def laws_eqStepS_L : List (Nat × LoopSem) := [(4, laws_eqStepS_4_ls)]
theorem laws_eqStepS_4_lok : LoopOk laws_eqStepS_G laws_eqStepS_L (lp Try.f125 0) := loopOk_of (r := 4) (ls := laws_eqStepS_4_ls) (R := fun x => laws_eqStepS_4_R x.1.1 x.1.2.1 x.1.2.2.1) (by kernel_rfl) (by kernel_rfl) rfl (fun x => by kernel_rfl)
theorem laws_eqStepS_snd : Sound Try.prog 125 laws_eqStepS_sem := sound_pu' (L := laws_eqStepS_L) (k := 1) laws_eqStepS_env mixed Try.func125 (by kernel_rfl) (below_succ laws_eqStepS_4_lok below_zero) (fun x => by kernel_rfl)

@[reducible] noncomputable def laws_eqStepSS_sem : FnSem := .pu (.p (.sl (.sl tStep)) (.p (.sl (.sl tStep)) .u)) (.p .b .u) [true] (fun x => laws_eqStepSS x.1 x.2.1)
noncomputable def laws_eqStepSS_G : Env := ⟨GT, [(125, laws_eqStepS_sem)]⟩
theorem laws_eqStepSS_env : EnvOk Try.prog laws_eqStepSS_G := EnvOk.cons laws_eqStepS_snd (envOk_nil GT_ok)
noncomputable def laws_eqStepSS_4_ls : LoopSem := ⟨27, ⟨[(0, (.data (.sl (.sl tStep)))), (1, (.data (.sl (.sl tStep)))), (5, (.data int))], []⟩, 0, ⟨[], []⟩, ⟨[(4, (.data .b))], []⟩, laws_eqStepSS_4_loop⟩
noncomputable def laws_eqStepSS_L : List (Nat × LoopSem) := [(4, laws_eqStepSS_4_ls)]
theorem laws_eqStepSS_4_lok : LoopOk laws_eqStepSS_G laws_eqStepSS_L (lp Try.f120 0) := loopOk_of (r := 4) (ls := laws_eqStepSS_4_ls) (R := fun x => laws_eqStepSS_4_R x.1.1 x.1.2.1 x.1.2.2.1) (by kernel_rfl) (by kernel_rfl) rfl (fun x => by kernel_rfl)
theorem laws_eqStepSS_snd : Sound Try.prog 120 laws_eqStepSS_sem := sound_pu' (L := laws_eqStepSS_L) (k := 1) laws_eqStepSS_env mixed Try.func120 (by kernel_rfl) (below_succ laws_eqStepSS_4_lok below_zero) (fun x => by kernel_rfl)

@[reducible] noncomputable def laws_eqHeld_sem : FnSem := .pu (.p tHeld (.p tHeld .u)) (.p .b .u) [true] (fun x => laws_eqHeld x.1 x.2.1)
noncomputable def laws_eqHeld_G : Env := ⟨GT, [(95, laws_eqAction_sem)]⟩
theorem laws_eqHeld_env : EnvOk Try.prog laws_eqHeld_G := EnvOk.cons laws_eqAction_snd (envOk_nil GT_ok)
noncomputable def laws_eqHeld_L : List (Nat × LoopSem) := []
theorem laws_eqHeld_snd : Sound Try.prog 126 laws_eqHeld_sem := sound_pu' (L := laws_eqHeld_L) (k := 0) laws_eqHeld_env mixed Try.func126 (by kernel_rfl) below_zero (fun x => by kernel_rfl)

@[reducible] noncomputable def laws_eqHeldS_sem : FnSem := .pu (.p (.sl tHeld) (.p (.sl tHeld) .u)) (.p .b .u) [true] (fun x => laws_eqHeldS x.1 x.2.1)
noncomputable def laws_eqHeldS_G : Env := ⟨GT, [(126, laws_eqHeld_sem)]⟩
theorem laws_eqHeldS_env : EnvOk Try.prog laws_eqHeldS_G := EnvOk.cons laws_eqHeld_snd (envOk_nil GT_ok)
noncomputable def laws_eqHeldS_4_ls : LoopSem := ⟨27, ⟨[(0, (.data (.sl tHeld))), (1, (.data (.sl tHeld))), (5, (.data int))], []⟩, 0, ⟨[], []⟩, ⟨[(4, (.data .b))], []⟩, laws_eqHeldS_4_loop⟩
noncomputable def laws_eqHeldS_L : List (Nat × LoopSem) := [(4, laws_eqHeldS_4_ls)]
theorem laws_eqHeldS_4_lok : LoopOk laws_eqHeldS_G laws_eqHeldS_L (lp Try.f121 0) := loopOk_of (r := 4) (ls := laws_eqHeldS_4_ls) (R := fun x => laws_eqHeldS_4_R x.1.1 x.1.2.1 x.1.2.2.1) (by kernel_rfl) (by kernel_rfl) rfl (fun x => by kernel_rfl)
theorem laws_eqHeldS_snd : Sound Try.prog 121 laws_eqHeldS_sem := sound_pu' (L := laws_eqHeldS_L) (k := 1) laws_eqHeldS_env mixed Try.func121 (by kernel_rfl) (below_succ laws_eqHeldS_4_lok below_zero) (fun x => by kernel_rfl)

@[reducible] noncomputable def laws_eqEngine_sem : FnSem := .pu (.p tEngine (.p tEngine .u)) (.p .b .u) [true] (fun x => laws_eqEngine x.1 x.2.1)
noncomputable def laws_eqEngine_G : Env := ⟨GT, [(18, laws_eqKeymap_sem), (120, laws_eqStepSS_sem), (121, laws_eqHeldS_sem)]⟩
theorem laws_eqEngine_env : EnvOk Try.prog laws_eqEngine_G := EnvOk.cons laws_eqKeymap_snd (EnvOk.cons laws_eqStepSS_snd (EnvOk.cons laws_eqHeldS_snd (envOk_nil GT_ok)))
noncomputable def laws_eqEngine_L : List (Nat × LoopSem) := []
theorem laws_eqEngine_snd : Sound Try.prog 108 laws_eqEngine_sem := sound_pu' (L := laws_eqEngine_L) (k := 0) laws_eqEngine_env mixed Try.func108 (by kernel_rfl) below_zero (fun x => by kernel_rfl)

@[reducible] noncomputable def laws_eqTiming_sem : FnSem := .pu (.p tStep (.p tStep .u)) (.p .b .u) [true] (fun x => laws_eqTiming x.1 x.2.1)
noncomputable def laws_eqTiming_G : Env := ⟨GT, []⟩
theorem laws_eqTiming_env : EnvOk Try.prog laws_eqTiming_G := envOk_nil GT_ok
noncomputable def laws_eqTiming_L : List (Nat × LoopSem) := []
theorem laws_eqTiming_snd : Sound Try.prog 12 laws_eqTiming_sem := sound_pu' (L := laws_eqTiming_L) (k := 0) laws_eqTiming_env mixed Try.func12 (by kernel_rfl) below_zero (fun x => by kernel_rfl)

@[reducible] noncomputable def laws_eqDecider_sem : FnSem := .pu (.p tDecider (.p tDecider .u)) (.p .b .u) [true] (fun x => laws_eqDecider x.1 x.2.1)
noncomputable def laws_eqDecider_G : Env := ⟨GT, [(108, laws_eqEngine_sem), (12, laws_eqTiming_sem), (106, laws_eqEventS_sem)]⟩
theorem laws_eqDecider_env : EnvOk Try.prog laws_eqDecider_G := EnvOk.cons laws_eqEngine_snd (EnvOk.cons laws_eqTiming_snd (EnvOk.cons laws_eqEventS_snd (envOk_nil GT_ok)))
noncomputable def laws_eqDecider_L : List (Nat × LoopSem) := []
theorem laws_eqDecider_snd : Sound Try.prog 85 laws_eqDecider_sem := sound_pu' (L := laws_eqDecider_L) (k := 0) laws_eqDecider_env mixed Try.func85 (by kernel_rfl) below_zero (fun x => by kernel_rfl)

@[reducible] noncomputable def laws_eqBoard_sem : FnSem := .pu (.p tBoard (.p tBoard .u)) (.p .b .u) [true] (fun x => laws_eqBoard x.1 x.2.1)
noncomputable def laws_eqBoard_G : Env := ⟨GT, [(82, laws_eqMatrix_sem), (83, laws_eqDebouncer_sem), (84, laws_eqCombiner_sem), (85, laws_eqDecider_sem)]⟩
theorem laws_eqBoard_env : EnvOk Try.prog laws_eqBoard_G := EnvOk.cons laws_eqMatrix_snd (EnvOk.cons laws_eqDebouncer_snd (EnvOk.cons laws_eqCombiner_snd (EnvOk.cons laws_eqDecider_snd (envOk_nil GT_ok))))
noncomputable def laws_eqBoard_L : List (Nat × LoopSem) := []
theorem laws_eqBoard_snd : Sound Try.prog 56 laws_eqBoard_sem := sound_pu' (L := laws_eqBoard_L) (k := 0) laws_eqBoard_env mixed Try.func56 (by kernel_rfl) below_zero (fun x => by kernel_rfl)

@[reducible] noncomputable def laws_eqByteS_sem : FnSem := .pu (.p (.sl byte) (.p (.sl byte) .u)) (.p .b .u) [true] (fun x => laws_eqByteS x.1 x.2.1)
noncomputable def laws_eqByteS_G : Env := ⟨GT, []⟩
theorem laws_eqByteS_env : EnvOk Try.prog laws_eqByteS_G := envOk_nil GT_ok
noncomputable def laws_eqByteS_4_ls : LoopSem := ⟨26, ⟨[(0, (.data (.sl byte))), (1, (.data (.sl byte))), (5, (.data int))], []⟩, 0, ⟨[], []⟩, ⟨[(4, (.data .b))], []⟩, laws_eqByteS_4_loop⟩
noncomputable def laws_eqByteS_L : List (Nat × LoopSem) := [(4, laws_eqByteS_4_ls)]
theorem laws_eqByteS_4_lok : LoopOk laws_eqByteS_G laws_eqByteS_L (lp Try.f86 0) := loopOk_of (r := 4) (ls := laws_eqByteS_4_ls) (R := fun x => laws_eqByteS_4_R x.1.1 x.1.2.1 x.1.2.2.1) (by kernel_rfl) (by kernel_rfl) rfl (fun x => by kernel_rfl)
theorem laws_eqByteS_snd : Sound Try.prog 86 laws_eqByteS_sem := sound_pu' (L := laws_eqByteS_L) (k := 1) laws_eqByteS_env mixed Try.func86 (by kernel_rfl) (below_succ laws_eqByteS_4_lok below_zero) (fun x => by kernel_rfl)

@[reducible] noncomputable def laws_eqReceiver_sem : FnSem := .pu (.p tReceiver (.p tReceiver .u)) (.p .b .u) [true] (fun x => laws_eqReceiver x.1 x.2.1)
noncomputable def laws_eqReceiver_G : Env := ⟨GT, [(86, laws_eqByteS_sem)]⟩
theorem laws_eqReceiver_env : EnvOk Try.prog laws_eqReceiver_G := EnvOk.cons laws_eqByteS_snd (envOk_nil GT_ok)
noncomputable def laws_eqReceiver_L : List (Nat × LoopSem) := []
theorem laws_eqReceiver_snd : Sound Try.prog 57 laws_eqReceiver_sem := sound_pu' (L := laws_eqReceiver_L) (k := 0) laws_eqReceiver_env mixed Try.func57 (by kernel_rfl) below_zero (fun x => by kernel_rfl)

@[reducible] noncomputable def laws_eqHalves_sem : FnSem := .pu (.p tHalves (.p tHalves .u)) (.p .b .u) [true] (fun x => laws_eqHalves x.1 x.2.1)
noncomputable def laws_eqHalves_G : Env := ⟨GT, [(56, laws_eqBoard_sem), (57, laws_eqReceiver_sem)]⟩
theorem laws_eqHalves_env : EnvOk Try.prog laws_eqHalves_G := EnvOk.cons laws_eqBoard_snd (EnvOk.cons laws_eqReceiver_snd (envOk_nil GT_ok))
noncomputable def laws_eqHalves_L : List (Nat × LoopSem) := []
theorem laws_eqHalves_snd : Sound Try.prog 27 laws_eqHalves_sem := sound_pu' (L := laws_eqHalves_L) (k := 0) laws_eqHalves_env mixed Try.func27 (by kernel_rfl) below_zero (fun x => by kernel_rfl)

@[reducible] noncomputable def laws_FnExactHalfKeys_sem : FnSem := .pu (.p tHalves .u) (.p .b .u) [true] (fun x => laws_FnExactHalfKeys x.1)
noncomputable def laws_FnExactHalfKeys_G : Env := ⟨GT, [(23, laws_szHalves_sem), (25, laws_toHalves_sem), (24, spec_HalfKeys_sem), (26, impl_HalfKeys_sem), (27, laws_eqHalves_sem)]⟩
theorem laws_FnExactHalfKeys_env : EnvOk Try.prog laws_FnExactHalfKeys_G := EnvOk.cons laws_szHalves_snd (EnvOk.cons laws_toHalves_snd (EnvOk.cons spec_HalfKeys_snd (EnvOk.cons impl_HalfKeys_snd (EnvOk.cons laws_eqHalves_snd (envOk_nil GT_ok)))))
noncomputable def laws_FnExactHalfKeys_L : List (Nat × LoopSem) := []
theorem laws_FnExactHalfKeys_snd : Sound Try.prog 7 laws_FnExactHalfKeys_sem := sound_pu' (L := laws_FnExactHalfKeys_L) (k := 0) laws_FnExactHalfKeys_env mixed Try.func7 (by kernel_rfl) below_zero (fun x => by kernel_rfl)
end KF
