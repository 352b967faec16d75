/- Each Go function computes its plain function (no condition). -/
import Derived.Test.YtabfbdolbfnfcaaFns
import Derived.Test.YtabfbdolbfnfcaaRows
namespace KF
open Go Go.Proofs
def GT : List (Nat × Ty) := [(3, int), (4, .b), (32, (.sl tSent)), (34, (.sl tReport)), (36, (.sl tSent)), (56, (.sl int)), (68, tReport), (70, tSent), (71, tReport), (74, tSent)]
theorem GT_ok : (GT.all fun x => tokB Try.prog x.2 x.1) = true := by kernel_rfl
theorem mixed : Try.prog.follows .mixedOrders = true := by kernel_rfl

@[reducible] noncomputable def laws_szIntS_sem : FnSem := .pu (.p (.sl int) (.p int .u)) (.p int .u) [true] (fun x => laws_szIntS x.1 x.2.1)
noncomputable def laws_szIntS_G : Env := ⟨GT, [], []⟩
theorem laws_szIntS_env : EnvOk Try.prog laws_szIntS_G := envOk_nil GT_ok
noncomputable def laws_szIntS_L : List (Nat × LoopSem) := []
theorem laws_szIntS_snd : Sound Try.prog 79 laws_szIntS_sem := sound_pu' (L := laws_szIntS_L) (k := 0) laws_szIntS_env mixed Try.func79 (by kernel_rfl) below_zero (fun x => by kernel_rfl)

@[reducible] noncomputable def laws_szReport_sem : FnSem := .pu (.p tReport (.p int .u)) (.p int .u) [true] (fun x => laws_szReport x.1 x.2.1)
noncomputable def laws_szReport_G : Env := ⟨GT, [(79, laws_szIntS_sem)], []⟩
theorem laws_szReport_env : EnvOk Try.prog laws_szReport_G := EnvOk.cons laws_szIntS_snd (envOk_nil GT_ok)
noncomputable def laws_szReport_L : List (Nat × LoopSem) := []
theorem laws_szReport_snd : Sound Try.prog 61 laws_szReport_sem := sound_pu' (L := laws_szReport_L) (k := 0) laws_szReport_env mixed Try.func61 (by kernel_rfl) below_zero (fun x => by kernel_rfl)

@[reducible] noncomputable def laws_szSent_sem : FnSem := .pu (.p tSent (.p int .u)) (.p int .u) [true] (fun x => laws_szSent x.1 x.2.1)
noncomputable def laws_szSent_G : Env := ⟨GT, [(61, laws_szReport_sem)], []⟩
theorem laws_szSent_env : EnvOk Try.prog laws_szSent_G := EnvOk.cons laws_szReport_snd (envOk_nil GT_ok)
noncomputable def laws_szSent_L : List (Nat × LoopSem) := []
theorem laws_szSent_snd : Sound Try.prog 44 laws_szSent_sem := sound_pu' (L := laws_szSent_L) (k := 0) laws_szSent_env mixed Try.func44 (by kernel_rfl) below_zero (fun x => by kernel_rfl)

@[reducible] noncomputable def laws_szSentS_sem : FnSem := .pu (.p (.sl tSent) (.p int .u)) (.p int .u) [true] (fun x => laws_szSentS x.1 x.2.1)
noncomputable def laws_szSentS_G : Env := ⟨GT, [(44, laws_szSent_sem)], []⟩
theorem laws_szSentS_env : EnvOk Try.prog laws_szSentS_G := EnvOk.cons laws_szSent_snd (envOk_nil GT_ok)
noncomputable def laws_szSentS_5_ls : LoopSem := ⟨27, ⟨[(0, (.data (.sl tSent))), (1, (.data int)), (5, (.data int))], []⟩, 0, ⟨[(1, (.data int))], []⟩, ⟨[(4, (.data int))], []⟩, laws_szSentS_5_loop⟩
noncomputable def laws_szSentS_L : List (Nat × LoopSem) := [(5, laws_szSentS_5_ls)]
theorem laws_szSentS_5_lok : LoopOk laws_szSentS_G laws_szSentS_L (lp Try.f22 0) := loopOk_of (r := 5) (ls := laws_szSentS_5_ls) (R := fun x => laws_szSentS_5_R x.1.1 x.1.2.1 x.1.2.2.1) (by kernel_rfl) (by kernel_rfl) rfl (fun x => by kernel_rfl)
theorem laws_szSentS_snd : Sound Try.prog 22 laws_szSentS_sem := sound_pu' (L := laws_szSentS_L) (k := 1) laws_szSentS_env mixed Try.func22 (by kernel_rfl) (below_succ laws_szSentS_5_lok below_zero) (fun x => by kernel_rfl)

@[reducible] noncomputable def laws_toIntS_sem : FnSem := .pu (.p (.sl int) .u) (.p (.sl int) .u) [true] (fun x => laws_toIntS x.1)
noncomputable def laws_toIntS_G : Env := ⟨GT, [], []⟩
theorem laws_toIntS_env : EnvOk Try.prog laws_toIntS_G := envOk_nil GT_ok
noncomputable def laws_toIntS_3_ls : LoopSem := ⟨22, ⟨[(0, (.data (.sl int))), (3, (.own 200001 int true)), (4, (.data int))], []⟩, 0, ⟨[(3, (.own 200001 int true))], []⟩, ⟨[], []⟩, laws_toIntS_3_loop⟩
noncomputable def laws_toIntS_L : List (Nat × LoopSem) := [(3, laws_toIntS_3_ls)]
theorem laws_toIntS_3_lok : LoopOk laws_toIntS_G laws_toIntS_L (lp Try.f38 0) := loopOk_of (r := 3) (ls := laws_toIntS_3_ls) (R := fun x => laws_toIntS_3_R x.1.1 x.1.2.1 x.1.2.2.1) (by kernel_rfl) (by kernel_rfl) rfl (fun x => by kernel_rfl)
theorem laws_toIntS_snd : Sound Try.prog 38 laws_toIntS_sem := sound_pu' (L := laws_toIntS_L) (k := 1) laws_toIntS_env mixed Try.func38 (by kernel_rfl) (below_succ laws_toIntS_3_lok below_zero) (fun x => by kernel_rfl)

@[reducible] noncomputable def laws_toReport_sem : FnSem := .pu (.p tReport .u) (.p tReport .u) [true] (fun x => laws_toReport x.1)
noncomputable def laws_toReport_G : Env := ⟨GT, [(38, laws_toIntS_sem)], []⟩
theorem laws_toReport_env : EnvOk Try.prog laws_toReport_G := EnvOk.cons laws_toIntS_snd (envOk_nil GT_ok)
noncomputable def laws_toReport_L : List (Nat × LoopSem) := []
theorem laws_toReport_snd : Sound Try.prog 62 laws_toReport_sem := sound_pu' (L := laws_toReport_L) (k := 0) laws_toReport_env mixed Try.func62 (by kernel_rfl) below_zero (fun x => by kernel_rfl)

@[reducible] noncomputable def laws_toSent_sem : FnSem := .pu (.p tSent .u) (.p tSent .u) [true] (fun x => laws_toSent x.1)
noncomputable def laws_toSent_G : Env := ⟨GT, [(62, laws_toReport_sem)], []⟩
theorem laws_toSent_env : EnvOk Try.prog laws_toSent_G := EnvOk.cons laws_toReport_snd (envOk_nil GT_ok)
noncomputable def laws_toSent_L : List (Nat × LoopSem) := []
theorem laws_toSent_snd : Sound Try.prog 46 laws_toSent_sem := sound_pu' (L := laws_toSent_L) (k := 0) laws_toSent_env mixed Try.func46 (by kernel_rfl) below_zero (fun x => by kernel_rfl)

@[reducible] noncomputable def laws_toSentS_sem : FnSem := .pu (.p (.sl tSent) .u) (.p (.sl tSent) .u) [true] (fun x => laws_toSentS x.1)
noncomputable def laws_toSentS_G : Env := ⟨GT, [(46, laws_toSent_sem)], []⟩
theorem laws_toSentS_env : EnvOk Try.prog laws_toSentS_G := EnvOk.cons laws_toSent_snd (envOk_nil GT_ok)
noncomputable def laws_toSentS_3_ls : LoopSem := ⟨23, ⟨[(0, (.data (.sl tSent))), (3, (.own 200001 tSent true)), (4, (.data int))], []⟩, 0, ⟨[(3, (.own 200001 tSent true))], []⟩, ⟨[], []⟩, laws_toSentS_3_loop⟩
noncomputable def laws_toSentS_L : List (Nat × LoopSem) := [(3, laws_toSentS_3_ls)]
theorem laws_toSentS_3_lok : LoopOk laws_toSentS_G laws_toSentS_L (lp Try.f24 0) := loopOk_of (r := 3) (ls := laws_toSentS_3_ls) (R := fun x => laws_toSentS_3_R x.1.1 x.1.2.1 x.1.2.2.1) (by kernel_rfl) (by kernel_rfl) rfl (fun x => by kernel_rfl)
theorem laws_toSentS_snd : Sound Try.prog 24 laws_toSentS_sem := sound_pu' (L := laws_toSentS_L) (k := 1) laws_toSentS_env mixed Try.func24 (by kernel_rfl) (below_succ laws_toSentS_3_lok below_zero) (fun x => by kernel_rfl)

@[reducible] noncomputable def spec_l7Copy_sem : FnSem := .pu (.p tReport .u) (.p tReport .u) [true] (fun x => spec_l7Copy x.1)
noncomputable def spec_l7Copy_G : Env := ⟨GT, [], []⟩
theorem spec_l7Copy_env : EnvOk Try.prog spec_l7Copy_G := envOk_nil GT_ok
noncomputable def spec_l7Copy_L : List (Nat × LoopSem) := []
theorem spec_l7Copy_snd : Sound Try.prog 45 spec_l7Copy_sem := sound_pu' (L := spec_l7Copy_L) (k := 0) spec_l7Copy_env mixed Try.func45 (by kernel_rfl) below_zero (fun x => by kernel_rfl)

@[reducible] noncomputable def spec_ReportsOf_sem : FnSem := .pu (.p (.sl tSent) .u) (.p (.sl tReport) .u) [true] (fun x => spec_ReportsOf x.1)
noncomputable def spec_ReportsOf_G : Env := ⟨GT, [(45, spec_l7Copy_sem)], []⟩
theorem spec_ReportsOf_env : EnvOk Try.prog spec_ReportsOf_G := EnvOk.cons spec_l7Copy_snd (envOk_nil GT_ok)
noncomputable def spec_ReportsOf_3_ls : LoopSem := ⟨22, ⟨[(0, (.data (.sl tSent))), (3, (.own 200001 tReport true)), (4, (.data int))], []⟩, 0, ⟨[(3, (.own 200001 tReport true))], []⟩, ⟨[], []⟩, spec_ReportsOf_3_loop⟩
noncomputable def spec_ReportsOf_L : List (Nat × LoopSem) := [(3, spec_ReportsOf_3_ls)]
theorem spec_ReportsOf_3_lok : LoopOk spec_ReportsOf_G spec_ReportsOf_L (lp Try.f23 0) := loopOk_of (r := 3) (ls := spec_ReportsOf_3_ls) (R := fun x => spec_ReportsOf_3_R x.1.1 x.1.2.1 x.1.2.2.1) (by kernel_rfl) (by kernel_rfl) rfl (fun x => by kernel_rfl)
theorem spec_ReportsOf_snd : Sound Try.prog 23 spec_ReportsOf_sem := sound_pu' (L := spec_ReportsOf_L) (k := 1) spec_ReportsOf_env mixed Try.func23 (by kernel_rfl) (below_succ spec_ReportsOf_3_lok below_zero) (fun x => by kernel_rfl)

@[reducible] noncomputable def impl_copyInts_sem : FnSem := .pu (.p (.sl int) .u) (.p (.sl int) .u) [true] (fun x => impl_copyInts x.1)
noncomputable def impl_copyInts_G : Env := ⟨GT, [], []⟩
theorem impl_copyInts_env : EnvOk Try.prog impl_copyInts_G := envOk_nil GT_ok
noncomputable def impl_copyInts_L : List (Nat × LoopSem) := []
theorem impl_copyInts_snd : Sound Try.prog 63 impl_copyInts_sem := sound_pu' (L := impl_copyInts_L) (k := 0) impl_copyInts_env mixed Try.func63 (by kernel_rfl) below_zero (fun x => by kernel_rfl)

@[reducible] noncomputable def impl_copyReport_sem : FnSem := .pu (.p tReport .u) (.p tReport .u) [true] (fun x => impl_copyReport x.1)
noncomputable def impl_copyReport_G : Env := ⟨GT, [(63, impl_copyInts_sem)], []⟩
theorem impl_copyReport_env : EnvOk Try.prog impl_copyReport_G := EnvOk.cons impl_copyInts_snd (envOk_nil GT_ok)
noncomputable def impl_copyReport_L : List (Nat × LoopSem) := []
theorem impl_copyReport_snd : Sound Try.prog 47 impl_copyReport_sem := sound_pu' (L := impl_copyReport_L) (k := 0) impl_copyReport_env mixed Try.func47 (by kernel_rfl) below_zero (fun x => by kernel_rfl)

@[reducible] noncomputable def impl_ReportsOf_sem : FnSem := .pu (.p (.sl tSent) .u) (.p (.sl tReport) .u) [true] (fun x => impl_ReportsOf x.1)
noncomputable def impl_ReportsOf_G : Env := ⟨GT, [(47, impl_copyReport_sem)], []⟩
theorem impl_ReportsOf_env : EnvOk Try.prog impl_ReportsOf_G := EnvOk.cons impl_copyReport_snd (envOk_nil GT_ok)
noncomputable def impl_ReportsOf_3_ls : LoopSem := ⟨20, ⟨[(3, (.own 200001 tReport true)), (6, (.data (.sl tSent))), (7, (.data int)), (8, (.data int))], []⟩, 0, ⟨[(3, (.own 200001 tReport true))], []⟩, ⟨[], []⟩, impl_ReportsOf_3_loop⟩
noncomputable def impl_ReportsOf_L : List (Nat × LoopSem) := [(3, impl_ReportsOf_3_ls)]
theorem impl_ReportsOf_3_lok : LoopOk impl_ReportsOf_G impl_ReportsOf_L (lp Try.f25 0) := loopOk_of (r := 3) (ls := impl_ReportsOf_3_ls) (R := fun x => impl_ReportsOf_3_R x.1.1 x.1.2.1 x.1.2.2.1 x.1.2.2.2.1) (by kernel_rfl) (by kernel_rfl) rfl (fun x => by kernel_rfl)
theorem impl_ReportsOf_snd : Sound Try.prog 25 impl_ReportsOf_sem := sound_pu' (L := impl_ReportsOf_L) (k := 1) impl_ReportsOf_env mixed Try.func25 (by kernel_rfl) (below_succ impl_ReportsOf_3_lok below_zero) (fun x => by kernel_rfl)

@[reducible] noncomputable def laws_eqIntS_sem : FnSem := .pu (.p (.sl int) (.p (.sl int) .u)) (.p .b .u) [true] (fun x => laws_eqIntS x.1 x.2.1)
noncomputable def laws_eqIntS_G : Env := ⟨GT, [], []⟩
theorem laws_eqIntS_env : EnvOk Try.prog laws_eqIntS_G := envOk_nil GT_ok
noncomputable def laws_eqIntS_4_ls : LoopSem := ⟨26, ⟨[(0, (.data (.sl int))), (1, (.data (.sl int))), (5, (.data int))], []⟩, 0, ⟨[], []⟩, ⟨[(4, (.data .b))], []⟩, laws_eqIntS_4_loop⟩
noncomputable def laws_eqIntS_L : List (Nat × LoopSem) := [(4, laws_eqIntS_4_ls)]
theorem laws_eqIntS_4_lok : LoopOk laws_eqIntS_G laws_eqIntS_L (lp Try.f40 0) := loopOk_of (r := 4) (ls := laws_eqIntS_4_ls) (R := fun x => laws_eqIntS_4_R x.1.1 x.1.2.1 x.1.2.2.1) (by kernel_rfl) (by kernel_rfl) rfl (fun x => by kernel_rfl)
theorem laws_eqIntS_snd : Sound Try.prog 40 laws_eqIntS_sem := sound_pu' (L := laws_eqIntS_L) (k := 1) laws_eqIntS_env mixed Try.func40 (by kernel_rfl) (below_succ laws_eqIntS_4_lok below_zero) (fun x => by kernel_rfl)

@[reducible] noncomputable def laws_eqReport_sem : FnSem := .pu (.p tReport (.p tReport .u)) (.p .b .u) [true] (fun x => laws_eqReport x.1 x.2.1)
noncomputable def laws_eqReport_G : Env := ⟨GT, [(40, laws_eqIntS_sem)], []⟩
theorem laws_eqReport_env : EnvOk Try.prog laws_eqReport_G := EnvOk.cons laws_eqIntS_snd (envOk_nil GT_ok)
noncomputable def laws_eqReport_L : List (Nat × LoopSem) := []
theorem laws_eqReport_snd : Sound Try.prog 48 laws_eqReport_sem := sound_pu' (L := laws_eqReport_L) (k := 0) laws_eqReport_env mixed Try.func48 (by kernel_rfl) below_zero (fun x => by kernel_rfl)

@[reducible] noncomputable def laws_eqReportS_sem : FnSem := .pu (.p (.sl tReport) (.p (.sl tReport) .u)) (.p .b .u) [true] (fun x => laws_eqReportS x.1 x.2.1)
noncomputable def laws_eqReportS_G : Env := ⟨GT, [(48, laws_eqReport_sem)], []⟩
theorem laws_eqReportS_env : EnvOk Try.prog laws_eqReportS_G := EnvOk.cons laws_eqReport_snd (envOk_nil GT_ok)
noncomputable def laws_eqReportS_4_ls : LoopSem := ⟨27, ⟨[(0, (.data (.sl tReport))), (1, (.data (.sl tReport))), (5, (.data int))], []⟩, 0, ⟨[], []⟩, ⟨[(4, (.data .b))], []⟩, laws_eqReportS_4_loop⟩
noncomputable def laws_eqReportS_L : List (Nat × LoopSem) := [(4, laws_eqReportS_4_ls)]
theorem laws_eqReportS_4_lok : LoopOk laws_eqReportS_G laws_eqReportS_L (lp Try.f26 0) := loopOk_of (r := 4) (ls := laws_eqReportS_4_ls) (R := fun x => laws_eqReportS_4_R x.1.1 x.1.2.1 x.1.2.2.1) (by kernel_rfl) (by kernel_rfl) rfl (fun x => by kernel_rfl)
theorem laws_eqReportS_snd : Sound Try.prog 26 laws_eqReportS_sem := sound_pu' (L := laws_eqReportS_L) (k := 1) laws_eqReportS_env mixed Try.func26 (by kernel_rfl) (below_succ laws_eqReportS_4_lok below_zero) (fun x => by kernel_rfl)

@[reducible] noncomputable def laws_eqSent_sem : FnSem := .pu (.p tSent (.p tSent .u)) (.p .b .u) [true] (fun x => laws_eqSent x.1 x.2.1)
noncomputable def laws_eqSent_G : Env := ⟨GT, [(48, laws_eqReport_sem)], []⟩
theorem laws_eqSent_env : EnvOk Try.prog laws_eqSent_G := EnvOk.cons laws_eqReport_snd (envOk_nil GT_ok)
noncomputable def laws_eqSent_L : List (Nat × LoopSem) := []
theorem laws_eqSent_snd : Sound Try.prog 49 laws_eqSent_sem := sound_pu' (L := laws_eqSent_L) (k := 0) laws_eqSent_env mixed Try.func49 (by kernel_rfl) below_zero (fun x => by kernel_rfl)

@[reducible] noncomputable def laws_eqSentS_sem : FnSem := .pu (.p (.sl tSent) (.p (.sl tSent) .u)) (.p .b .u) [true] (fun x => laws_eqSentS x.1 x.2.1)
noncomputable def laws_eqSentS_G : Env := ⟨GT, [(49, laws_eqSent_sem)], []⟩
theorem laws_eqSentS_env : EnvOk Try.prog laws_eqSentS_G := EnvOk.cons laws_eqSent_snd (envOk_nil GT_ok)
noncomputable def laws_eqSentS_4_ls : LoopSem := ⟨27, ⟨[(0, (.data (.sl tSent))), (1, (.data (.sl tSent))), (5, (.data int))], []⟩, 0, ⟨[], []⟩, ⟨[(4, (.data .b))], []⟩, laws_eqSentS_4_loop⟩
noncomputable def laws_eqSentS_L : List (Nat × LoopSem) := [(4, laws_eqSentS_4_ls)]
theorem laws_eqSentS_4_lok : LoopOk laws_eqSentS_G laws_eqSentS_L (lp Try.f27 0) := loopOk_of (r := 4) (ls := laws_eqSentS_4_ls) (R := fun x => laws_eqSentS_4_R x.1.1 x.1.2.1 x.1.2.2.1) (by kernel_rfl) (by kernel_rfl) rfl (fun x => by kernel_rfl)
theorem laws_eqSentS_snd : Sound Try.prog 27 laws_eqSentS_sem := sound_pu' (L := laws_eqSentS_L) (k := 1) laws_eqSentS_env mixed Try.func27 (by kernel_rfl) (below_succ laws_eqSentS_4_lok below_zero) (fun x => by kernel_rfl)

@[reducible] noncomputable def laws_markIntS_sem : FnSem := .io (.sl int) (.p int .u) (.p int .u) [true] (fun x0 x => laws_markIntS x0 x.1)
noncomputable def laws_markIntS_G : Env := ⟨GT, [], []⟩
theorem laws_markIntS_env : EnvOk Try.prog laws_markIntS_G := envOk_nil GT_ok
noncomputable def laws_markIntS_2_ls : LoopSem := ⟨19, ⟨[(0, (.own 500000 int true)), (1, (.data int)), (5, (.data int))], []⟩, 0, ⟨[(0, (.own 500000 int true)), (1, (.data int))], []⟩, ⟨[], []⟩, laws_markIntS_2_loop⟩
noncomputable def laws_markIntS_L : List (Nat × LoopSem) := [(2, laws_markIntS_2_ls)]
theorem laws_markIntS_2_lok : LoopOk laws_markIntS_G laws_markIntS_L (lp Try.f41 0) := loopOk_of (r := 2) (ls := laws_markIntS_2_ls) (R := fun x => laws_markIntS_2_R x.1.1 x.1.2.1 x.1.2.2.1) (by kernel_rfl) (by kernel_rfl) rfl (fun x => by kernel_rfl)
theorem laws_markIntS_snd : Sound Try.prog 41 laws_markIntS_sem := sound_io' (L := laws_markIntS_L) (k := 1) laws_markIntS_env mixed Try.func41 (by kernel_rfl) (below_succ laws_markIntS_2_lok below_zero) (fun x0 x => by kernel_rfl)

@[reducible] noncomputable def laws_markSentS_sem : FnSem := .io (.sl tSent) (.p int .u) (.p int .u) [true] (fun x0 x => laws_markSentS x0 x.1)
noncomputable def laws_markSentS_G : Env := ⟨GT, [(41, laws_markIntS_sem)], [(7, 500000)]⟩
theorem laws_markSentS_env : EnvOk Try.prog laws_markSentS_G := EnvOk.cons laws_markIntS_snd (envOk_nil GT_ok)
noncomputable def laws_markSentS_2_ls : LoopSem := ⟨36, ⟨[(0, (.own 500000 tSent true)), (1, (.data int)), (5, (.data int))], []⟩, 0, ⟨[(0, (.own 500000 tSent true)), (1, (.data int))], []⟩, ⟨[], []⟩, laws_markSentS_2_loop⟩
noncomputable def laws_markSentS_L : List (Nat × LoopSem) := [(2, laws_markSentS_2_ls)]
theorem laws_markSentS_2_lok : LoopOk laws_markSentS_G laws_markSentS_L (lp Try.f28 0) := loopOk_of (r := 2) (ls := laws_markSentS_2_ls) (R := fun x => laws_markSentS_2_R x.1.1 x.1.2.1 x.1.2.2.1) (by kernel_rfl) (by kernel_rfl) rfl (fun x => by kernel_rfl)
theorem laws_markSentS_snd : Sound Try.prog 28 laws_markSentS_sem := sound_io' (L := laws_markSentS_L) (k := 1) laws_markSentS_env mixed Try.func28 (by kernel_rfl) (below_succ laws_markSentS_2_lok below_zero) (fun x0 x => by kernel_rfl)

@[reducible] noncomputable def laws_markReportS_sem : FnSem := .io (.sl tReport) (.p int .u) (.p int .u) [true] (fun x0 x => laws_markReportS x0 x.1)
noncomputable def laws_markReportS_G : Env := ⟨GT, [(41, laws_markIntS_sem)], [(7, 500000)]⟩
theorem laws_markReportS_env : EnvOk Try.prog laws_markReportS_G := EnvOk.cons laws_markIntS_snd (envOk_nil GT_ok)
noncomputable def laws_markReportS_2_ls : LoopSem := ⟨27, ⟨[(0, (.own 500000 tReport true)), (1, (.data int)), (5, (.data int))], []⟩, 0, ⟨[(0, (.own 500000 tReport true)), (1, (.data int))], []⟩, ⟨[], []⟩, laws_markReportS_2_loop⟩
noncomputable def laws_markReportS_L : List (Nat × LoopSem) := [(2, laws_markReportS_2_ls)]
theorem laws_markReportS_2_lok : LoopOk laws_markReportS_G laws_markReportS_L (lp Try.f29 0) := loopOk_of (r := 2) (ls := laws_markReportS_2_ls) (R := fun x => laws_markReportS_2_R x.1.1 x.1.2.1 x.1.2.2.1) (by kernel_rfl) (by kernel_rfl) rfl (fun x => by kernel_rfl)
theorem laws_markReportS_snd : Sound Try.prog 29 laws_markReportS_sem := sound_io' (L := laws_markReportS_L) (k := 1) laws_markReportS_env mixed Try.func29 (by kernel_rfl) (below_succ laws_markReportS_2_lok below_zero) (fun x0 x => by kernel_rfl)

@[reducible] noncomputable def laws_heldIntS_sem : FnSem := .pu (.p (.sl int) (.p int .u)) (.p int .u) [true] (fun x => laws_heldIntS x.1 x.2.1)
noncomputable def laws_heldIntS_G : Env := ⟨GT, [], []⟩
theorem laws_heldIntS_env : EnvOk Try.prog laws_heldIntS_G := envOk_nil GT_ok
noncomputable def laws_heldIntS_2_ls : LoopSem := ⟨21, ⟨[(0, (.data (.sl int))), (1, (.data int)), (5, (.data int))], []⟩, 0, ⟨[(1, (.data int))], []⟩, ⟨[(4, (.data int))], []⟩, laws_heldIntS_2_loop⟩
noncomputable def laws_heldIntS_L : List (Nat × LoopSem) := [(2, laws_heldIntS_2_ls)]
theorem laws_heldIntS_2_lok : LoopOk laws_heldIntS_G laws_heldIntS_L (lp Try.f42 0) := loopOk_of (r := 2) (ls := laws_heldIntS_2_ls) (R := fun x => laws_heldIntS_2_R x.1.1 x.1.2.1 x.1.2.2.1) (by kernel_rfl) (by kernel_rfl) rfl (fun x => by kernel_rfl)
theorem laws_heldIntS_snd : Sound Try.prog 42 laws_heldIntS_sem := sound_pu' (L := laws_heldIntS_L) (k := 1) laws_heldIntS_env mixed Try.func42 (by kernel_rfl) (below_succ laws_heldIntS_2_lok below_zero) (fun x => by kernel_rfl)

@[reducible] noncomputable def laws_heldReportS_sem : FnSem := .pu (.p (.sl tReport) (.p int .u)) (.p int .u) [true] (fun x => laws_heldReportS x.1 x.2.1)
noncomputable def laws_heldReportS_G : Env := ⟨GT, [(42, laws_heldIntS_sem)], []⟩
theorem laws_heldReportS_env : EnvOk Try.prog laws_heldReportS_G := EnvOk.cons laws_heldIntS_snd (envOk_nil GT_ok)
noncomputable def laws_heldReportS_2_ls : LoopSem := ⟨31, ⟨[(0, (.data (.sl tReport))), (1, (.data int)), (5, (.data int))], []⟩, 0, ⟨[(1, (.data int))], []⟩, ⟨[(4, (.data int))], []⟩, laws_heldReportS_2_loop⟩
noncomputable def laws_heldReportS_L : List (Nat × LoopSem) := [(2, laws_heldReportS_2_ls)]
theorem laws_heldReportS_2_lok : LoopOk laws_heldReportS_G laws_heldReportS_L (lp Try.f30 0) := loopOk_of (r := 2) (ls := laws_heldReportS_2_ls) (R := fun x => laws_heldReportS_2_R x.1.1 x.1.2.1 x.1.2.2.1) (by kernel_rfl) (by kernel_rfl) rfl (fun x => by kernel_rfl)
theorem laws_heldReportS_snd : Sound Try.prog 30 laws_heldReportS_sem := sound_pu' (L := laws_heldReportS_L) (k := 1) laws_heldReportS_env mixed Try.func30 (by kernel_rfl) (below_succ laws_heldReportS_2_lok below_zero) (fun x => by kernel_rfl)

@[reducible] noncomputable def laws_FnExactReportsOf_sem : FnSem := .pu (.p (.sl tSent) .u) (.p .b .u) [true] (fun x => laws_FnExactReportsOf x.1)
noncomputable def laws_FnExactReportsOf_G : Env := ⟨GT, [(22, laws_szSentS_sem), (24, laws_toSentS_sem), (23, spec_ReportsOf_sem), (25, impl_ReportsOf_sem), (26, laws_eqReportS_sem), (27, laws_eqSentS_sem), (28, laws_markSentS_sem), (29, laws_markReportS_sem), (30, laws_heldReportS_sem)], []⟩
theorem laws_FnExactReportsOf_env : EnvOk Try.prog laws_FnExactReportsOf_G := EnvOk.cons laws_szSentS_snd (EnvOk.cons laws_toSentS_snd (EnvOk.cons spec_ReportsOf_snd (EnvOk.cons impl_ReportsOf_snd (EnvOk.cons laws_eqReportS_snd (EnvOk.cons laws_eqSentS_snd (EnvOk.cons laws_markSentS_snd (EnvOk.cons laws_markReportS_snd (EnvOk.cons laws_heldReportS_snd (envOk_nil GT_ok)))))))))
noncomputable def laws_FnExactReportsOf_L : List (Nat × LoopSem) := []
theorem laws_FnExactReportsOf_snd : Sound Try.prog 6 laws_FnExactReportsOf_sem := sound_pu' (L := laws_FnExactReportsOf_L) (k := 0) laws_FnExactReportsOf_env mixed Try.func6 (by kernel_rfl) below_zero (fun x => by kernel_rfl)
end KF
