/- Each Go function computes its plain function (no condition). -/
import Derived.Test.YtabfbdolbfnfcaaFns
import Derived.Test.YtabfbdolbfnfcaaRows
namespace KF
open Go Go.Proofs
def GT : List (Nat × Ty) := [(3, int), (4, .b), (5, byte), (9, .s), (22, (.sl byte)), (43, (.sl (.sl tAction))), (45, tKeymap), (48, (.sl (.sl tAction))), (50, tKeymap), (89, (.sl tAction)), (90, (.sl tAction)), (92, tAction), (100, tAction)]
theorem GT_ok : (GT.all fun x => tokB Try.prog x.2 x.1) = true := by kernel_rfl
theorem mixed : Try.prog.follows .mixedOrders = true := by kernel_rfl

@[reducible] noncomputable def laws_toByteS_sem : FnSem := .pu (.p (.sl byte) .u) (.p (.sl byte) .u) [true] (fun x => laws_toByteS x.1)
noncomputable def laws_toByteS_G : Env := ⟨GT, []⟩
theorem laws_toByteS_env : EnvOk Try.prog laws_toByteS_G := envOk_nil GT_ok
noncomputable def laws_toByteS_3_ls : LoopSem := ⟨22, ⟨[(0, (.data (.sl byte))), (3, (.own 200001 byte true)), (4, (.data int))], []⟩, 0, ⟨[(3, (.own 200001 byte true))], []⟩, ⟨[], []⟩, laws_toByteS_3_loop⟩
noncomputable def laws_toByteS_L : List (Nat × LoopSem) := [(3, laws_toByteS_3_ls)]
theorem laws_toByteS_3_lok : LoopOk laws_toByteS_G laws_toByteS_L (lp Try.f10 0) := loopOk_of (r := 3) (ls := laws_toByteS_3_ls) (R := fun x => laws_toByteS_3_R x.1.1 x.1.2.1 x.1.2.2.1) (by kernel_rfl) (by kernel_rfl) rfl (fun x => by kernel_rfl)
theorem laws_toByteS_snd : Sound Try.prog 10 laws_toByteS_sem := sound_pu' (L := laws_toByteS_L) (k := 1) laws_toByteS_env mixed Try.func10 (by kernel_rfl) (below_succ laws_toByteS_3_lok below_zero) (fun x => by kernel_rfl)

@[reducible] noncomputable def spec_SealPacket_sem : FnSem := .pu (.p (.sl byte) .u) (.p (.sl byte) .u) [true] (fun x => spec_SealPacket x.1)
noncomputable def spec_SealPacket_G : Env := ⟨GT, []⟩
theorem spec_SealPacket_env : EnvOk Try.prog spec_SealPacket_G := envOk_nil GT_ok
noncomputable def spec_SealPacket_6_ls : LoopSem := ⟨40, ⟨[(0, (.data (.sl byte))), (3, (.own 200001 byte true)), (4, (.data int)), (5, (.data int))], []⟩, 0, ⟨[(3, (.own 200001 byte true)), (4, (.data int))], []⟩, ⟨[], []⟩, spec_SealPacket_6_loop⟩
noncomputable def spec_SealPacket_L : List (Nat × LoopSem) := [(6, spec_SealPacket_6_ls)]
theorem spec_SealPacket_6_lok : LoopOk spec_SealPacket_G spec_SealPacket_L (lp Try.f13 0) := loopOk_of (r := 6) (ls := spec_SealPacket_6_ls) (R := fun x => spec_SealPacket_6_R x.1.1 x.1.2.1 x.1.2.2.1 x.1.2.2.2.1) (by kernel_rfl) (by kernel_rfl) rfl (fun x => by kernel_rfl)
theorem spec_SealPacket_snd : Sound Try.prog 13 spec_SealPacket_sem := sound_pu' (L := spec_SealPacket_L) (k := 1) spec_SealPacket_env mixed Try.func13 (by kernel_rfl) (below_succ spec_SealPacket_6_lok below_zero) (fun x => by kernel_rfl)

@[reducible] noncomputable def spec_IsPacket_sem : FnSem := .pu (.p (.sl byte) .u) (.p .b .u) [true] (fun x => spec_IsPacket x.1)
noncomputable def spec_IsPacket_G : Env := ⟨GT, [(13, spec_SealPacket_sem)]⟩
theorem spec_IsPacket_env : EnvOk Try.prog spec_IsPacket_G := EnvOk.cons spec_SealPacket_snd (envOk_nil GT_ok)
noncomputable def spec_IsPacket_L : List (Nat × LoopSem) := []
theorem spec_IsPacket_snd : Sound Try.prog 9 spec_IsPacket_sem := sound_pu' (L := spec_IsPacket_L) (k := 0) spec_IsPacket_env mixed Try.func9 (by kernel_rfl) below_zero (fun x => by kernel_rfl)

@[reducible] noncomputable def impl_SealPacket_sem : FnSem := .pu (.p (.sl byte) .u) (.p (.sl byte) .u) [true] (fun x => impl_SealPacket x.1)
noncomputable def impl_SealPacket_G : Env := ⟨GT, []⟩
theorem impl_SealPacket_env : EnvOk Try.prog impl_SealPacket_G := envOk_nil GT_ok
noncomputable def impl_SealPacket_7_ls : LoopSem := ⟨35, ⟨[(3, (.own 200001 byte true)), (4, (.data int)), (14, (.data (.sl byte))), (15, (.data int)), (16, (.data int))], []⟩, 0, ⟨[(3, (.own 200001 byte true)), (4, (.data int))], []⟩, ⟨[], []⟩, impl_SealPacket_7_loop⟩
noncomputable def impl_SealPacket_L : List (Nat × LoopSem) := [(7, impl_SealPacket_7_ls)]
theorem impl_SealPacket_7_lok : LoopOk impl_SealPacket_G impl_SealPacket_L (lp Try.f14 0) := loopOk_of (r := 7) (ls := impl_SealPacket_7_ls) (R := fun x => impl_SealPacket_7_R x.1.1 x.1.2.1 x.1.2.2.1 x.1.2.2.2.1 x.1.2.2.2.2.1) (by kernel_rfl) (by kernel_rfl) rfl (fun x => by kernel_rfl)
theorem impl_SealPacket_snd : Sound Try.prog 14 impl_SealPacket_sem := sound_pu' (L := impl_SealPacket_L) (k := 1) impl_SealPacket_env mixed Try.func14 (by kernel_rfl) (below_succ impl_SealPacket_7_lok below_zero) (fun x => by kernel_rfl)

@[reducible] noncomputable def impl_IsPacket_sem : FnSem := .pu (.p (.sl byte) .u) (.p .b .u) [true] (fun x => impl_IsPacket x.1)
noncomputable def impl_IsPacket_G : Env := ⟨GT, [(14, impl_SealPacket_sem)]⟩
theorem impl_IsPacket_env : EnvOk Try.prog impl_IsPacket_G := EnvOk.cons impl_SealPacket_snd (envOk_nil GT_ok)
noncomputable def impl_IsPacket_L : List (Nat × LoopSem) := []
theorem impl_IsPacket_snd : Sound Try.prog 11 impl_IsPacket_sem := sound_pu' (L := impl_IsPacket_L) (k := 0) impl_IsPacket_env mixed Try.func11 (by kernel_rfl) below_zero (fun x => by kernel_rfl)

@[reducible] noncomputable def laws_eqByteS_sem : FnSem := .pu (.p (.sl byte) (.p (.sl byte) .u)) (.p .b .u) [true] (fun x => laws_eqByteS x.1 x.2.1)
noncomputable def laws_eqByteS_G : Env := ⟨GT, []⟩
theorem laws_eqByteS_env : EnvOk Try.prog laws_eqByteS_G := envOk_nil GT_ok
noncomputable def laws_eqByteS_4_ls : LoopSem := ⟨26, ⟨[(0, (.data (.sl byte))), (1, (.data (.sl byte))), (5, (.data int))], []⟩, 0, ⟨[], []⟩, ⟨[(4, (.data .b))], []⟩, laws_eqByteS_4_loop⟩
noncomputable def laws_eqByteS_L : List (Nat × LoopSem) := [(4, laws_eqByteS_4_ls)]
theorem laws_eqByteS_4_lok : LoopOk laws_eqByteS_G laws_eqByteS_L (lp Try.f12 0) := loopOk_of (r := 4) (ls := laws_eqByteS_4_ls) (R := fun x => laws_eqByteS_4_R x.1.1 x.1.2.1 x.1.2.2.1) (by kernel_rfl) (by kernel_rfl) rfl (fun x => by kernel_rfl)
theorem laws_eqByteS_snd : Sound Try.prog 12 laws_eqByteS_sem := sound_pu' (L := laws_eqByteS_L) (k := 1) laws_eqByteS_env mixed Try.func12 (by kernel_rfl) (below_succ laws_eqByteS_4_lok below_zero) (fun x => by kernel_rfl)

@[reducible] noncomputable def laws_FnExactIsPacket_sem : FnSem := .pu (.p (.sl byte) .u) (.p .b .u) [true] (fun x => laws_FnExactIsPacket x.1)
noncomputable def laws_FnExactIsPacket_G : Env := ⟨GT, [(10, laws_toByteS_sem), (9, spec_IsPacket_sem), (11, impl_IsPacket_sem), (12, laws_eqByteS_sem)]⟩
theorem laws_FnExactIsPacket_env : EnvOk Try.prog laws_FnExactIsPacket_G := EnvOk.cons laws_toByteS_snd (EnvOk.cons spec_IsPacket_snd (EnvOk.cons impl_IsPacket_snd (EnvOk.cons laws_eqByteS_snd (envOk_nil GT_ok))))
noncomputable def laws_FnExactIsPacket_L : List (Nat × LoopSem) := []
theorem laws_FnExactIsPacket_snd : Sound Try.prog 3 laws_FnExactIsPacket_sem := sound_pu' (L := laws_FnExactIsPacket_L) (k := 0) laws_FnExactIsPacket_env mixed Try.func3 (by kernel_rfl) below_zero (fun x => by kernel_rfl)

@[reducible] noncomputable def laws_markByteS_sem : FnSem := .io (.sl byte) (.p int .u) (.p int .u) [true] (fun x0 x => laws_markByteS x0 x.1)
noncomputable def laws_markByteS_G : Env := ⟨GT, []⟩
theorem laws_markByteS_env : EnvOk Try.prog laws_markByteS_G := envOk_nil GT_ok
noncomputable def laws_markByteS_2_ls : LoopSem := ⟨20, ⟨[(0, (.own 500000 byte true)), (1, (.data int)), (5, (.data int))], []⟩, 0, ⟨[(0, (.own 500000 byte true)), (1, (.data int))], []⟩, ⟨[], []⟩, laws_markByteS_2_loop⟩
noncomputable def laws_markByteS_L : List (Nat × LoopSem) := [(2, laws_markByteS_2_ls)]
theorem laws_markByteS_2_lok : LoopOk laws_markByteS_G laws_markByteS_L (lp Try.f15 0) := loopOk_of (r := 2) (ls := laws_markByteS_2_ls) (R := fun x => laws_markByteS_2_R x.1.1 x.1.2.1 x.1.2.2.1) (by kernel_rfl) (by kernel_rfl) rfl (fun x => by kernel_rfl)
theorem laws_markByteS_snd : Sound Try.prog 15 laws_markByteS_sem := sound_io' (L := laws_markByteS_L) (k := 1) laws_markByteS_env mixed Try.func15 (by kernel_rfl) (below_succ laws_markByteS_2_lok below_zero) (fun x0 x => by kernel_rfl)

@[reducible] noncomputable def laws_heldByteS_sem : FnSem := .pu (.p (.sl byte) (.p int .u)) (.p int .u) [true] (fun x => laws_heldByteS x.1 x.2.1)
noncomputable def laws_heldByteS_G : Env := ⟨GT, []⟩
theorem laws_heldByteS_env : EnvOk Try.prog laws_heldByteS_G := envOk_nil GT_ok
noncomputable def laws_heldByteS_2_ls : LoopSem := ⟨22, ⟨[(0, (.data (.sl byte))), (1, (.data int)), (5, (.data int))], []⟩, 0, ⟨[(1, (.data int))], []⟩, ⟨[(4, (.data int))], []⟩, laws_heldByteS_2_loop⟩
noncomputable def laws_heldByteS_L : List (Nat × LoopSem) := [(2, laws_heldByteS_2_ls)]
theorem laws_heldByteS_2_lok : LoopOk laws_heldByteS_G laws_heldByteS_L (lp Try.f16 0) := loopOk_of (r := 2) (ls := laws_heldByteS_2_ls) (R := fun x => laws_heldByteS_2_R x.1.1 x.1.2.1 x.1.2.2.1) (by kernel_rfl) (by kernel_rfl) rfl (fun x => by kernel_rfl)
theorem laws_heldByteS_snd : Sound Try.prog 16 laws_heldByteS_sem := sound_pu' (L := laws_heldByteS_L) (k := 1) laws_heldByteS_env mixed Try.func16 (by kernel_rfl) (below_succ laws_heldByteS_2_lok below_zero) (fun x => by kernel_rfl)

@[reducible] noncomputable def laws_FnExactSealPacket_sem : FnSem := .pu (.p (.sl byte) .u) (.p .b .u) [true] (fun x => laws_FnExactSealPacket x.1)
noncomputable def laws_FnExactSealPacket_G : Env := ⟨GT, [(10, laws_toByteS_sem), (13, spec_SealPacket_sem), (14, impl_SealPacket_sem), (12, laws_eqByteS_sem), (15, laws_markByteS_sem), (16, laws_heldByteS_sem)]⟩
theorem laws_FnExactSealPacket_env : EnvOk Try.prog laws_FnExactSealPacket_G := EnvOk.cons laws_toByteS_snd (EnvOk.cons spec_SealPacket_snd (EnvOk.cons impl_SealPacket_snd (EnvOk.cons laws_eqByteS_snd (EnvOk.cons laws_markByteS_snd (EnvOk.cons laws_heldByteS_snd (envOk_nil GT_ok))))))
noncomputable def laws_FnExactSealPacket_L : List (Nat × LoopSem) := []
theorem laws_FnExactSealPacket_snd : Sound Try.prog 4 laws_FnExactSealPacket_sem := sound_pu' (L := laws_FnExactSealPacket_L) (k := 0) laws_FnExactSealPacket_env mixed Try.func4 (by kernel_rfl) below_zero (fun x => by kernel_rfl)

@[reducible] noncomputable def laws_szActionS_sem : FnSem := .pu (.p (.sl tAction) (.p int .u)) (.p int .u) [true] (fun x => laws_szActionS x.1 x.2.1)
noncomputable def laws_szActionS_G : Env := ⟨GT, []⟩
theorem laws_szActionS_env : EnvOk Try.prog laws_szActionS_G := envOk_nil GT_ok
noncomputable def laws_szActionS_L : List (Nat × LoopSem) := []
theorem laws_szActionS_snd : Sound Try.prog 64 laws_szActionS_sem := sound_pu' (L := laws_szActionS_L) (k := 0) laws_szActionS_env mixed Try.func64 (by kernel_rfl) below_zero (fun x => by kernel_rfl)

@[reducible] noncomputable def laws_szActionSS_sem : FnSem := .pu (.p (.sl (.sl tAction)) (.p int .u)) (.p int .u) [true] (fun x => laws_szActionSS x.1 x.2.1)
noncomputable def laws_szActionSS_G : Env := ⟨GT, [(64, laws_szActionS_sem)]⟩
theorem laws_szActionSS_env : EnvOk Try.prog laws_szActionSS_G := EnvOk.cons laws_szActionS_snd (envOk_nil GT_ok)
noncomputable def laws_szActionSS_5_ls : LoopSem := ⟨27, ⟨[(0, (.data (.sl (.sl tAction)))), (1, (.data int)), (5, (.data int))], []⟩, 0, ⟨[(1, (.data int))], []⟩, ⟨[(4, (.data int))], []⟩, laws_szActionSS_5_loop⟩
noncomputable def laws_szActionSS_L : List (Nat × LoopSem) := [(5, laws_szActionSS_5_ls)]
theorem laws_szActionSS_5_lok : LoopOk laws_szActionSS_G laws_szActionSS_L (lp Try.f50 0) := loopOk_of (r := 5) (ls := laws_szActionSS_5_ls) (R := fun x => laws_szActionSS_5_R x.1.1 x.1.2.1 x.1.2.2.1) (by kernel_rfl) (by kernel_rfl) rfl (fun x => by kernel_rfl)
theorem laws_szActionSS_snd : Sound Try.prog 50 laws_szActionSS_sem := sound_pu' (L := laws_szActionSS_L) (k := 1) laws_szActionSS_env mixed Try.func50 (by kernel_rfl) (below_succ laws_szActionSS_5_lok below_zero) (fun x => by kernel_rfl)

@[reducible] noncomputable def laws_szKeymap_sem : FnSem := .pu (.p tKeymap (.p int .u)) (.p int .u) [true] (fun x => laws_szKeymap x.1 x.2.1)
noncomputable def laws_szKeymap_G : Env := ⟨GT, [(50, laws_szActionSS_sem)]⟩
theorem laws_szKeymap_env : EnvOk Try.prog laws_szKeymap_G := EnvOk.cons laws_szActionSS_snd (envOk_nil GT_ok)
noncomputable def laws_szKeymap_L : List (Nat × LoopSem) := []
theorem laws_szKeymap_snd : Sound Try.prog 31 laws_szKeymap_sem := sound_pu' (L := laws_szKeymap_L) (k := 0) laws_szKeymap_env mixed Try.func31 (by kernel_rfl) below_zero (fun x => by kernel_rfl)

@[reducible] noncomputable def laws_toAction_sem : FnSem := .pu (.p tAction .u) (.p tAction .u) [true] (fun x => laws_toAction x.1)
noncomputable def laws_toAction_G : Env := ⟨GT, []⟩
theorem laws_toAction_env : EnvOk Try.prog laws_toAction_G := envOk_nil GT_ok
noncomputable def laws_toAction_L : List (Nat × LoopSem) := []
theorem laws_toAction_snd : Sound Try.prog 80 laws_toAction_sem := sound_pu' (L := laws_toAction_L) (k := 0) laws_toAction_env mixed Try.func80 (by kernel_rfl) below_zero (fun x => by kernel_rfl)

@[reducible] noncomputable def laws_toActionS_sem : FnSem := .pu (.p (.sl tAction) .u) (.p (.sl tAction) .u) [true] (fun x => laws_toActionS x.1)
noncomputable def laws_toActionS_G : Env := ⟨GT, [(80, laws_toAction_sem)]⟩
theorem laws_toActionS_env : EnvOk Try.prog laws_toActionS_G := EnvOk.cons laws_toAction_snd (envOk_nil GT_ok)
noncomputable def laws_toActionS_3_ls : LoopSem := ⟨23, ⟨[(0, (.data (.sl tAction))), (3, (.own 200001 tAction true)), (4, (.data int))], []⟩, 0, ⟨[(3, (.own 200001 tAction true))], []⟩, ⟨[], []⟩, laws_toActionS_3_loop⟩
noncomputable def laws_toActionS_L : List (Nat × LoopSem) := [(3, laws_toActionS_3_ls)]
theorem laws_toActionS_3_lok : LoopOk laws_toActionS_G laws_toActionS_L (lp Try.f66 0) := loopOk_of (r := 3) (ls := laws_toActionS_3_ls) (R := fun x => laws_toActionS_3_R x.1.1 x.1.2.1 x.1.2.2.1) (by kernel_rfl) (by kernel_rfl) rfl (fun x => by kernel_rfl)
theorem laws_toActionS_snd : Sound Try.prog 66 laws_toActionS_sem := sound_pu' (L := laws_toActionS_L) (k := 1) laws_toActionS_env mixed Try.func66 (by kernel_rfl) (below_succ laws_toActionS_3_lok below_zero) (fun x => by kernel_rfl)

@[reducible] noncomputable def laws_toActionSS_sem : FnSem := .pu (.p (.sl (.sl tAction)) .u) (.p (.sl (.sl tAction)) .u) [true] (fun x => laws_toActionSS x.1)
noncomputable def laws_toActionSS_G : Env := ⟨GT, [(66, laws_toActionS_sem)]⟩
theorem laws_toActionSS_env : EnvOk Try.prog laws_toActionSS_G := EnvOk.cons laws_toActionS_snd (envOk_nil GT_ok)
noncomputable def laws_toActionSS_3_ls : LoopSem := ⟨23, ⟨[(0, (.data (.sl (.sl tAction)))), (3, (.own 200001 (.sl tAction) true)), (4, (.data int))], []⟩, 0, ⟨[(3, (.own 200001 (.sl tAction) true))], []⟩, ⟨[], []⟩, laws_toActionSS_3_loop⟩
noncomputable def laws_toActionSS_L : List (Nat × LoopSem) := [(3, laws_toActionSS_3_ls)]
theorem laws_toActionSS_3_lok : LoopOk laws_toActionSS_G laws_toActionSS_L (lp Try.f52 0) := loopOk_of (r := 3) (ls := laws_toActionSS_3_ls) (R := fun x => laws_toActionSS_3_R x.1.1 x.1.2.1 x.1.2.2.1) (by kernel_rfl) (by kernel_rfl) rfl (fun x => by kernel_rfl)
theorem laws_toActionSS_snd : Sound Try.prog 52 laws_toActionSS_sem := sound_pu' (L := laws_toActionSS_L) (k := 1) laws_toActionSS_env mixed Try.func52 (by kernel_rfl) (below_succ laws_toActionSS_3_lok below_zero) (fun x => by kernel_rfl)

@[reducible] noncomputable def laws_toKeymap_sem : FnSem := .pu (.p tKeymap .u) (.p tKeymap .u) [true] (fun x => laws_toKeymap x.1)
noncomputable def laws_toKeymap_G : Env := ⟨GT, [(52, laws_toActionSS_sem)]⟩
theorem laws_toKeymap_env : EnvOk Try.prog laws_toKeymap_G := EnvOk.cons laws_toActionSS_snd (envOk_nil GT_ok)
noncomputable def laws_toKeymap_L : List (Nat × LoopSem) := []
theorem laws_toKeymap_snd : Sound Try.prog 33 laws_toKeymap_sem := sound_pu' (L := laws_toKeymap_L) (k := 0) laws_toKeymap_env mixed Try.func33 (by kernel_rfl) below_zero (fun x => by kernel_rfl)

@[reducible] noncomputable def spec_l1In_sem : FnSem := .pu (.p int (.p int (.p int .u))) (.p .b .u) [true] (fun x => spec_l1In x.1 x.2.1 x.2.2.1)
noncomputable def spec_l1In_G : Env := ⟨GT, []⟩
theorem spec_l1In_env : EnvOk Try.prog spec_l1In_G := envOk_nil GT_ok
noncomputable def spec_l1In_L : List (Nat × LoopSem) := []
theorem spec_l1In_snd : Sound Try.prog 43 spec_l1In_sem := sound_pu' (L := spec_l1In_L) (k := 0) spec_l1In_env mixed Try.func43 (by kernel_rfl) below_zero (fun x => by kernel_rfl)

@[reducible] noncomputable def spec_IsAction_sem : FnSem := .pu (.p tAction .u) (.p .b .u) [true] (fun x => spec_IsAction x.1)
noncomputable def spec_IsAction_G : Env := ⟨GT, [(43, spec_l1In_sem)]⟩
theorem spec_IsAction_env : EnvOk Try.prog spec_IsAction_G := EnvOk.cons spec_l1In_snd (envOk_nil GT_ok)
noncomputable def spec_IsAction_L : List (Nat × LoopSem) := []
theorem spec_IsAction_snd : Sound Try.prog 65 spec_IsAction_sem := sound_pu' (L := spec_IsAction_L) (k := 0) spec_IsAction_env mixed Try.func65 (by kernel_rfl) below_zero (fun x => by kernel_rfl)

@[reducible] noncomputable def spec_IsKeymap_sem : FnSem := .pu (.p tKeymap .u) (.p .b .u) [true] (fun x => spec_IsKeymap x.1)
noncomputable def spec_IsKeymap_G : Env := ⟨GT, [(65, spec_IsAction_sem), (43, spec_l1In_sem)]⟩
theorem spec_IsKeymap_env : EnvOk Try.prog spec_IsKeymap_G := EnvOk.cons spec_IsAction_snd (EnvOk.cons spec_l1In_snd (envOk_nil GT_ok))
noncomputable def spec_IsKeymap_7_ls : LoopSem := ⟨74, ⟨[(1, (.ptr 1 [])), (3, (.data int)), (4, (.data int))], [(1, tKeymap, (.data tKeymap))]⟩, 2, ⟨[(1, (.ptr 1 [])), (3, (.data int))], [(1, tKeymap, (.data tKeymap))]⟩, ⟨[(2, (.data .b))], []⟩, spec_IsKeymap_7_loop⟩
noncomputable def spec_IsKeymap_2_ls : LoopSem := ⟨74, ⟨[(1, (.ptr 1 [])), (3, (.data int))], [(1, tKeymap, (.data tKeymap))]⟩, 0, ⟨[(1, (.ptr 1 []))], [(1, tKeymap, (.data tKeymap))]⟩, ⟨[(2, (.data .b))], []⟩, spec_IsKeymap_2_loop⟩
noncomputable def spec_IsKeymap_L : List (Nat × LoopSem) := [(7, spec_IsKeymap_7_ls), (2, spec_IsKeymap_2_ls)]
theorem spec_IsKeymap_7_lok : LoopOk spec_IsKeymap_G spec_IsKeymap_L (lp Try.f51 1) := loopOk_of (r := 7) (ls := spec_IsKeymap_7_ls) (R := fun x => spec_IsKeymap_7_R x.1.1 x.1.2.1 x.1.2.2.1 x.2.1) (by kernel_rfl) (by kernel_rfl) rfl (fun x => by kernel_rfl)
theorem spec_IsKeymap_2_lok : LoopOk spec_IsKeymap_G spec_IsKeymap_L (lp Try.f51 0) := loopOk_of (r := 2) (ls := spec_IsKeymap_2_ls) (R := fun x => spec_IsKeymap_2_R x.1.1 x.1.2.1 x.2.1) (by kernel_rfl) (by kernel_rfl) rfl (fun x => by kernel_rfl)
theorem spec_IsKeymap_snd : Sound Try.prog 51 spec_IsKeymap_sem := sound_pu' (L := spec_IsKeymap_L) (k := 2) spec_IsKeymap_env mixed Try.func51 (by kernel_rfl) (below_succ spec_IsKeymap_7_lok (below_succ spec_IsKeymap_2_lok below_zero)) (fun x => by kernel_rfl)

@[reducible] noncomputable def spec_IsFixed_sem : FnSem := .pu (.p tKeymap (.p int .u)) (.p .b .u) [true] (fun x => spec_IsFixed x.1 x.2.1)
noncomputable def spec_IsFixed_G : Env := ⟨GT, [(51, spec_IsKeymap_sem), (43, spec_l1In_sem)]⟩
theorem spec_IsFixed_env : EnvOk Try.prog spec_IsFixed_G := EnvOk.cons spec_IsKeymap_snd (EnvOk.cons spec_l1In_snd (envOk_nil GT_ok))
noncomputable def spec_IsFixed_L : List (Nat × LoopSem) := []
theorem spec_IsFixed_snd : Sound Try.prog 32 spec_IsFixed_sem := sound_pu' (L := spec_IsFixed_L) (k := 0) spec_IsFixed_env mixed Try.func32 (by kernel_rfl) below_zero (fun x => by kernel_rfl)

@[reducible] noncomputable def impl_isCode_sem : FnSem := .pu (.p int .u) (.p .b .u) [true] (fun x => impl_isCode x.1)
noncomputable def impl_isCode_G : Env := ⟨GT, []⟩
theorem impl_isCode_env : EnvOk Try.prog impl_isCode_G := envOk_nil GT_ok
noncomputable def impl_isCode_L : List (Nat × LoopSem) := []
theorem impl_isCode_snd : Sound Try.prog 81 impl_isCode_sem := sound_pu' (L := impl_isCode_L) (k := 0) impl_isCode_env mixed Try.func81 (by kernel_rfl) below_zero (fun x => by kernel_rfl)

@[reducible] noncomputable def impl_isMods_sem : FnSem := .pu (.p int .u) (.p .b .u) [true] (fun x => impl_isMods x.1)
noncomputable def impl_isMods_G : Env := ⟨GT, []⟩
theorem impl_isMods_env : EnvOk Try.prog impl_isMods_G := envOk_nil GT_ok
noncomputable def impl_isMods_L : List (Nat × LoopSem) := []
theorem impl_isMods_snd : Sound Try.prog 82 impl_isMods_sem := sound_pu' (L := impl_isMods_L) (k := 0) impl_isMods_env mixed Try.func82 (by kernel_rfl) below_zero (fun x => by kernel_rfl)

@[reducible] noncomputable def impl_isUpper_sem : FnSem := .pu (.p int .u) (.p .b .u) [true] (fun x => impl_isUpper x.1)
noncomputable def impl_isUpper_G : Env := ⟨GT, []⟩
theorem impl_isUpper_env : EnvOk Try.prog impl_isUpper_G := envOk_nil GT_ok
noncomputable def impl_isUpper_L : List (Nat × LoopSem) := []
theorem impl_isUpper_snd : Sound Try.prog 83 impl_isUpper_sem := sound_pu' (L := impl_isUpper_L) (k := 0) impl_isUpper_env mixed Try.func83 (by kernel_rfl) below_zero (fun x => by kernel_rfl)

@[reducible] noncomputable def impl_IsAction_sem : FnSem := .pu (.p tAction .u) (.p .b .u) [true] (fun x => impl_IsAction x.1)
noncomputable def impl_IsAction_G : Env := ⟨GT, [(81, impl_isCode_sem), (82, impl_isMods_sem), (83, impl_isUpper_sem)]⟩
theorem impl_IsAction_env : EnvOk Try.prog impl_IsAction_G := EnvOk.cons impl_isCode_snd (EnvOk.cons impl_isMods_snd (EnvOk.cons impl_isUpper_snd (envOk_nil GT_ok)))
noncomputable def impl_IsAction_L : List (Nat × LoopSem) := []
theorem impl_IsAction_snd : Sound Try.prog 67 impl_IsAction_sem := sound_pu' (L := impl_IsAction_L) (k := 0) impl_IsAction_env mixed Try.func67 (by kernel_rfl) below_zero (fun x => by kernel_rfl)

@[reducible] noncomputable def impl_IsKeymap_sem : FnSem := .pu (.p tKeymap .u) (.p .b .u) [true] (fun x => impl_IsKeymap x.1)
noncomputable def impl_IsKeymap_G : Env := ⟨GT, [(67, impl_IsAction_sem)]⟩
theorem impl_IsKeymap_env : EnvOk Try.prog impl_IsKeymap_G := EnvOk.cons impl_IsAction_snd (envOk_nil GT_ok)
noncomputable def impl_IsKeymap_9_ls : LoopSem := ⟨73, ⟨[(1, (.ptr 1 [])), (3, (.data int)), (28, (.data (.sl (.sl tAction)))), (29, (.data int)), (30, (.data int)), (40, (.data (.sl tAction))), (41, (.data int)), (42, (.data int))], [(1, tKeymap, (.data tKeymap))]⟩, 2, ⟨[(1, (.ptr 1 [])), (28, (.data (.sl (.sl tAction)))), (29, (.data int)), (30, (.data int))], [(1, tKeymap, (.data tKeymap))]⟩, ⟨[(2, (.data .b))], []⟩, impl_IsKeymap_9_loop⟩
noncomputable def impl_IsKeymap_4_ls : LoopSem := ⟨73, ⟨[(1, (.ptr 1 [])), (28, (.data (.sl (.sl tAction)))), (29, (.data int)), (30, (.data int))], [(1, tKeymap, (.data tKeymap))]⟩, 0, ⟨[], []⟩, ⟨[(2, (.data .b))], []⟩, impl_IsKeymap_4_loop⟩
noncomputable def impl_IsKeymap_L : List (Nat × LoopSem) := [(9, impl_IsKeymap_9_ls), (4, impl_IsKeymap_4_ls)]
theorem impl_IsKeymap_9_lok : LoopOk impl_IsKeymap_G impl_IsKeymap_L (lp Try.f53 1) := loopOk_of (r := 9) (ls := impl_IsKeymap_9_ls) (R := fun x => impl_IsKeymap_9_R x.1.1 x.1.2.1 x.1.2.2.1 x.1.2.2.2.1 x.1.2.2.2.2.1 x.1.2.2.2.2.2.1 x.1.2.2.2.2.2.2.1 x.1.2.2.2.2.2.2.2.1 x.2.1) (by kernel_rfl) (by kernel_rfl) rfl (fun x => by kernel_rfl)
theorem impl_IsKeymap_4_lok : LoopOk impl_IsKeymap_G impl_IsKeymap_L (lp Try.f53 0) := loopOk_of (r := 4) (ls := impl_IsKeymap_4_ls) (R := fun x => impl_IsKeymap_4_R x.1.1 x.1.2.1 x.1.2.2.1 x.1.2.2.2.1 x.2.1) (by kernel_rfl) (by kernel_rfl) rfl (fun x => by kernel_rfl)
theorem impl_IsKeymap_snd : Sound Try.prog 53 impl_IsKeymap_sem := sound_pu' (L := impl_IsKeymap_L) (k := 2) impl_IsKeymap_env mixed Try.func53 (by kernel_rfl) (below_succ impl_IsKeymap_9_lok (below_succ impl_IsKeymap_4_lok below_zero)) (fun x => by kernel_rfl)

@[reducible] noncomputable def impl_IsFixed_sem : FnSem := .pu (.p tKeymap (.p int .u)) (.p .b .u) [true] (fun x => impl_IsFixed x.1 x.2.1)
noncomputable def impl_IsFixed_G : Env := ⟨GT, [(53, impl_IsKeymap_sem)]⟩
theorem impl_IsFixed_env : EnvOk Try.prog impl_IsFixed_G := EnvOk.cons impl_IsKeymap_snd (envOk_nil GT_ok)
noncomputable def impl_IsFixed_L : List (Nat × LoopSem) := []
theorem impl_IsFixed_snd : Sound Try.prog 34 impl_IsFixed_sem := sound_pu' (L := impl_IsFixed_L) (k := 0) impl_IsFixed_env mixed Try.func34 (by kernel_rfl) below_zero (fun x => by kernel_rfl)

@[reducible] noncomputable def laws_eqAction_sem : FnSem := .pu (.p tAction (.p tAction .u)) (.p .b .u) [true] (fun x => laws_eqAction x.1 x.2.1)
noncomputable def laws_eqAction_G : Env := ⟨GT, []⟩
theorem laws_eqAction_env : EnvOk Try.prog laws_eqAction_G := envOk_nil GT_ok
noncomputable def laws_eqAction_L : List (Nat × LoopSem) := []
theorem laws_eqAction_snd : Sound Try.prog 84 laws_eqAction_sem := sound_pu' (L := laws_eqAction_L) (k := 0) laws_eqAction_env mixed Try.func84 (by kernel_rfl) below_zero (fun x => by kernel_rfl)

@[reducible] noncomputable def laws_eqActionS_sem : FnSem := .pu (.p (.sl tAction) (.p (.sl tAction) .u)) (.p .b .u) [true] (fun x => laws_eqActionS x.1 x.2.1)
noncomputable def laws_eqActionS_G : Env := ⟨GT, [(84, laws_eqAction_sem)]⟩
theorem laws_eqActionS_env : EnvOk Try.prog laws_eqActionS_G := EnvOk.cons laws_eqAction_snd (envOk_nil GT_ok)
noncomputable def laws_eqActionS_4_ls : LoopSem := ⟨27, ⟨[(0, (.data (.sl tAction))), (1, (.data (.sl tAction))), (5, (.data int))], []⟩, 0, ⟨[], []⟩, ⟨[(4, (.data .b))], []⟩, laws_eqActionS_4_loop⟩
noncomputable def laws_eqActionS_L : List (Nat × LoopSem) := [(4, laws_eqActionS_4_ls)]
theorem laws_eqActionS_4_lok : LoopOk laws_eqActionS_G laws_eqActionS_L (lp Try.f68 0) := loopOk_of (r := 4) (ls := laws_eqActionS_4_ls) (R := fun x => laws_eqActionS_4_R x.1.1 x.1.2.1 x.1.2.2.1) (by kernel_rfl) (by kernel_rfl) rfl (fun x => by kernel_rfl)
theorem laws_eqActionS_snd : Sound Try.prog 68 laws_eqActionS_sem := sound_pu' (L := laws_eqActionS_L) (k := 1) laws_eqActionS_env mixed Try.func68 (by kernel_rfl) (below_succ laws_eqActionS_4_lok below_zero) (fun x => by kernel_rfl)

@[reducible] noncomputable def laws_eqActionSS_sem : FnSem := .pu (.p (.sl (.sl tAction)) (.p (.sl (.sl tAction)) .u)) (.p .b .u) [true] (fun x => laws_eqActionSS x.1 x.2.1)
noncomputable def laws_eqActionSS_G : Env := ⟨GT, [(68, laws_eqActionS_sem)]⟩
theorem laws_eqActionSS_env : EnvOk Try.prog laws_eqActionSS_G := EnvOk.cons laws_eqActionS_snd (envOk_nil GT_ok)
noncomputable def laws_eqActionSS_4_ls : LoopSem := ⟨27, ⟨[(0, (.data (.sl (.sl tAction)))), (1, (.data (.sl (.sl tAction)))), (5, (.data int))], []⟩, 0, ⟨[], []⟩, ⟨[(4, (.data .b))], []⟩, laws_eqActionSS_4_loop⟩
noncomputable def laws_eqActionSS_L : List (Nat × LoopSem) := [(4, laws_eqActionSS_4_ls)]
theorem laws_eqActionSS_4_lok : LoopOk laws_eqActionSS_G laws_eqActionSS_L (lp Try.f54 0) := loopOk_of (r := 4) (ls := laws_eqActionSS_4_ls) (R := fun x => laws_eqActionSS_4_R x.1.1 x.1.2.1 x.1.2.2.1) (by kernel_rfl) (by kernel_rfl) rfl (fun x => by kernel_rfl)
theorem laws_eqActionSS_snd : Sound Try.prog 54 laws_eqActionSS_sem := sound_pu' (L := laws_eqActionSS_L) (k := 1) laws_eqActionSS_env mixed Try.func54 (by kernel_rfl) (below_succ laws_eqActionSS_4_lok below_zero) (fun x => by kernel_rfl)

@[reducible] noncomputable def laws_eqKeymap_sem : FnSem := .pu (.p tKeymap (.p tKeymap .u)) (.p .b .u) [true] (fun x => laws_eqKeymap x.1 x.2.1)
noncomputable def laws_eqKeymap_G : Env := ⟨GT, [(54, laws_eqActionSS_sem)]⟩
theorem laws_eqKeymap_env : EnvOk Try.prog laws_eqKeymap_G := EnvOk.cons laws_eqActionSS_snd (envOk_nil GT_ok)
noncomputable def laws_eqKeymap_L : List (Nat × LoopSem) := []
theorem laws_eqKeymap_snd : Sound Try.prog 35 laws_eqKeymap_sem := sound_pu' (L := laws_eqKeymap_L) (k := 0) laws_eqKeymap_env mixed Try.func35 (by kernel_rfl) below_zero (fun x => by kernel_rfl)

@[reducible] noncomputable def laws_FnExactIsFixed_sem : FnSem := .pu (.p tKeymap (.p int .u)) (.p .b .u) [true] (fun x => laws_FnExactIsFixed x.1 x.2.1)
noncomputable def laws_FnExactIsFixed_G : Env := ⟨GT, [(31, laws_szKeymap_sem), (33, laws_toKeymap_sem), (32, spec_IsFixed_sem), (34, impl_IsFixed_sem), (35, laws_eqKeymap_sem)]⟩
theorem laws_FnExactIsFixed_env : EnvOk Try.prog laws_FnExactIsFixed_G := EnvOk.cons laws_szKeymap_snd (EnvOk.cons laws_toKeymap_snd (EnvOk.cons spec_IsFixed_snd (EnvOk.cons impl_IsFixed_snd (EnvOk.cons laws_eqKeymap_snd (envOk_nil GT_ok)))))
noncomputable def laws_FnExactIsFixed_L : List (Nat × LoopSem) := []
theorem laws_FnExactIsFixed_snd : Sound Try.prog 7 laws_FnExactIsFixed_sem := sound_pu' (L := laws_FnExactIsFixed_L) (k := 0) laws_FnExactIsFixed_env mixed Try.func7 (by kernel_rfl) below_zero (fun x => by kernel_rfl)
end KF
