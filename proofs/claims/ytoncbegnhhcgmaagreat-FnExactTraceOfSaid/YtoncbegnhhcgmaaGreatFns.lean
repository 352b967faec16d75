/- The plain functions that the Go functions compute: definitions alone (no condition). -/
import Derived.Test.YtoncbegnhhcgmaaGreatCb
namespace KF
open Go
set_option linter.unusedVariables false
abbrev int : Ty := .i .i64
abbrev byte : Ty := .i .u8
abbrev tAcceptRange : Ty := (.p byte (.p byte .u))
abbrev TAcceptRange : Type := (Int × (Int × Unit))
abbrev tCombo : Ty := (.p int (.p int .u))
abbrev TCombo : Type := (Int × (Int × Unit))
abbrev tReport : Ty := (.p int (.p (.sl int) .u))
abbrev TReport : Type := (Int × ((List Int) × Unit))
abbrev tEvent : Ty := (.p int (.p int (.p .b .u)))
abbrev TEvent : Type := (Int × (Int × (Bool × Unit)))
abbrev tStep : Ty := (.p int tCombo)
abbrev TStep : Type := (Int × TCombo)
abbrev tFlash : Ty := (.p (.sl (.sl int)) (.p (.sl int) .u))
abbrev TFlash : Type := ((List (List Int)) × ((List Int) × Unit))
abbrev tL1Cur : Ty := (.p (.sl byte) tCombo)
abbrev TL1Cur : Type := ((List Int) × TCombo)
abbrev tAction : Ty := (.p int tStep)
abbrev TAction : Type := (Int × TStep)
abbrev tFlashOp : Ty := (.p .b tStep)
abbrev TFlashOp : Type := (Bool × TStep)
abbrev tReceiver : Ty := (.p (.sl byte) tStep)
abbrev TReceiver : Type := ((List Int) × TStep)
abbrev tSent : Ty := (.p int (.p tReport .u))
abbrev TSent : Type := (Int × (TReport × Unit))
abbrev tTapped : Ty := (.p tEvent (.p .s .u))
abbrev TTapped : Type := (TEvent × ((List UInt8) × Unit))
abbrev tHeld : Ty := (.p int (.p tAction .u))
abbrev THeld : Type := (Int × (TAction × Unit))
abbrev tDebouncer : Ty := (.p int (.p int (.p int (.p int tReport))))
abbrev TDebouncer : Type := (Int × (Int × (Int × (Int × TReport))))
abbrev tKeymap : Ty := (.p int (.p (.sl (.sl tAction)) .u))
abbrev TKeymap : Type := (Int × ((List (List TAction)) × Unit))
abbrev tBoth : Ty := (.p tEvent (.p tEvent .u))
abbrev TBoth : Type := (TEvent × (TEvent × Unit))
abbrev tCombiner : Ty := (.p (.sl tCombo) (.p int (.p (.sl tEvent) (.p int (.p int (.p int (.p (.sl tEvent) .u)))))))
abbrev TCombiner : Type := ((List TCombo) × (Int × ((List TEvent) × (Int × (Int × (Int × ((List TEvent) × Unit)))))))
abbrev tEngine : Ty := (.p tKeymap (.p (.sl (.sl tStep)) (.p int (.p (.sl tHeld) (.p int (.p .b .u))))))
abbrev TEngine : Type := (TKeymap × ((List (List TStep)) × (Int × ((List THeld) × (Int × (Bool × Unit))))))
abbrev tDecider : Ty := (.p tEngine (.p tStep (.p (.sl tEvent) tAction)))
abbrev TDecider : Type := (TEngine × (TStep × ((List TEvent) × TAction)))
abbrev tSession : Ty := (.p tDecider (.p (.sl tSent) .u))
abbrev TSession : Type := (TDecider × ((List TSent) × Unit))
abbrev tL19Pair : Ty := (.p tEngine (.p tEngine (.p (.sl int) .u)))
abbrev TL19Pair : Type := (TEngine × (TEngine × ((List Int) × Unit)))
abbrev tBoard : Ty := (.p tEvent (.p tDebouncer (.p tCombiner (.p tDecider tCombo))))
abbrev TBoard : Type := (TEvent × (TDebouncer × (TCombiner × (TDecider × TCombo))))
abbrev tHalves : Ty := (.p tBoard (.p tReceiver (.p int .u)))
abbrev THalves : Type := (TBoard × (TReceiver × (Int × Unit)))
abbrev tMatrix : Ty := tEvent
abbrev TMatrix : Type := TEvent
abbrev tTiming : Ty := tStep
abbrev TTiming : Type := TStep
abbrev tMemory : Ty := tEvent
abbrev TMemory : Type := TEvent
abbrev tActive : Ty := tEvent
abbrev TActive : Type := TEvent
abbrev tPair : Ty := tCombo
abbrev TPair : Type := TCombo
def str15 : List UInt8 := [0, 1, 1, 2, 1, 2, 2, 3, 1, 2, 2, 3, 2, 3, 3, 4, 1, 2, 2, 3, 2, 3, 3, 4, 2, 3, 3, 4, 3, 4, 4, 5, 1, 2, 2, 3, 2, 3, 3, 4, 2, 3, 3, 4, 3, 4, 4, 5, 2, 3, 3, 4, 3, 4, 4, 5, 3, 4, 4, 5, 4, 5, 5, 6, 1, 2, 2, 3, 2, 3, 3, 4, 2, 3, 3, 4, 3, 4, 4, 5, 2, 3, 3, 4, 3, 4, 4, 5, 3, 4, 4, 5, 4, 5, 5, 6, 2, 3, 3, 4, 3, 4, 4, 5, 3, 4, 4, 5, 4, 5, 5, 6, 3, 4, 4, 5, 4, 5, 5, 6, 4, 5, 5, 6, 5, 6, 6, 7, 1, 2, 2, 3, 2, 3, 3, 4, 2, 3, 3, 4, 3, 4, 4, 5, 2, 3, 3, 4, 3, 4, 4, 5, 3, 4, 4, 5, 4, 5, 5, 6, 2, 3, 3, 4, 3, 4, 4, 5, 3, 4, 4, 5, 4, 5, 5, 6, 3, 4, 4, 5, 4, 5, 5, 6, 4, 5, 5, 6, 5, 6, 6, 7, 2, 3, 3, 4, 3, 4, 4, 5, 3, 4, 4, 5, 4, 5, 5, 6, 3, 4, 4, 5, 4, 5, 5, 6, 4, 5, 5, 6, 5, 6, 6, 7, 3, 4, 4, 5, 4, 5, 5, 6, 4, 5, 5, 6, 5, 6, 6, 7, 4, 5, 5, 6, 5, 6, 6, 7, 5, 6, 6, 7, 6, 7, 7, 8]

noncomputable def spec_SealPacket_6_R (t0 : (List Int)) (t3 : (List Int)) (t4 : Int) (t5 : Int) : Option ((((List Int) × TL1Cur) × Unit) ⊕ ((((List Int) × (Int × Unit)) × Unit) ⊕ (Unit × Unit))) :=
 (cond (decide (t5 < ((List.length t0 : Nat) : Int)))
 (Option.bind (idx t0 t5) fun x7 =>
 (cond (inb (List.length t3) t5)
 (Option.bind t3[(Int.toNat t5)]? fun x8 =>
 (Option.bind (idx t0 t5) fun x9 =>
 (some (.inl ((t0, (List.set t3 (Int.toNat t5) x7), (Go.IntKind.wrap .i64 (t4 + (Go.IntKind.wrap .i64 ((Go.IntKind.wrap .i64 (t5 + (1 : Int))) * (Go.IntKind.wrap .i64 x9))))), (Go.IntKind.wrap .i64 (t5 + (1 : Int))), ()), ())))))
 none))
 (some (.inr (.inl ((t3, t4, ()), ())))))
noncomputable def spec_SealPacket_6_loop (x : (((List Int) × TL1Cur) × Unit)) : Option ((((List Int) × (Int × Unit)) × Unit) ⊕ (Unit × Unit)) := loopF (fun x : (((List Int) × TL1Cur) × Unit) => spec_SealPacket_6_R x.1.1 x.1.2.1 x.1.2.2.1 x.1.2.2.2.1) x
noncomputable def spec_SealPacket (a0 : (List Int)) : Option ((List Int) × Unit) :=
 (cond (decide (((List.length a0 : Nat) : Int) ≥ (8 : Int)))
 (some (([] : List Int), ()))
 (cond (((8 : Int) == (8 : Int)) && (decide ((0 : Int) ≤ (8 : Int)) && decide ((8 : Int) ≤ ((lim : Nat) : Int))))
 (Option.bind (spec_SealPacket_6_loop ((a0, (List.replicate (Int.toNat (8 : Int)) (0 : Int)), (90 : Int), (0 : Int), ()), ())) (Sum.elim (fun y10 => (cond ((256 : Int) == (0 : Int))
 none
 (cond (inb (List.length y10.1.1) (7 : Int))
 (Option.bind y10.1.1[(Int.toNat (7 : Int))]? fun x12 =>
 (some ((List.set y10.1.1 (Int.toNat (7 : Int)) (Go.IntKind.wrap .u8 (Int.tmod y10.1.2.1 (256 : Int)))), ())))
 none))) (fun z11 => none)))
 none))

noncomputable def spec_IsPacket (a0 : (List Int)) : Option (Bool × Unit) :=
 (cond (((List.length a0 : Nat) : Int) == (8 : Int))
 (cond (cutOk (List.length a0) (0 : Int) (7 : Int))
 (Option.bind (spec_SealPacket (cutl a0 (Int.toNat (0 : Int)) (Int.toNat (7 : Int)))) fun r1 =>
 (some (((strOf r1.1) == (strOf a0)), ())))
 none)
 (some (false, ())))

noncomputable def impl_SealPacket_7_R (t3 : (List Int)) (t4 : Int) (t14 : (List Int)) (t15 : Int) (t16 : Int) : Option ((((List Int) × (Int × TL1Cur)) × Unit) ⊕ ((((List Int) × (Int × Unit)) × Unit) ⊕ (Unit × Unit))) :=
 (cond (decide (t16 < t15))
 (Option.bind (idx t14 t16) fun x3 =>
 (some (.inl ((t3, (Go.IntKind.wrap .i64 (t4 + (Go.IntKind.wrap .i64 ((Go.IntKind.wrap .i64 x3) * (Go.IntKind.wrap .i64 (t16 + (1 : Int))))))), t14, t15, (Go.IntKind.wrap .i64 (t16 + (1 : Int))), ()), ()))))
 (some (.inr (.inl ((t3, t4, ()), ())))))
noncomputable def impl_SealPacket_7_loop (x : (((List Int) × (Int × TL1Cur)) × Unit)) : Option ((((List Int) × (Int × Unit)) × Unit) ⊕ (Unit × Unit)) := loopF (fun x : (((List Int) × (Int × TL1Cur)) × Unit) => impl_SealPacket_7_R x.1.1 x.1.2.1 x.1.2.2.1 x.1.2.2.2.1 x.1.2.2.2.2.1) x
noncomputable def impl_SealPacket (a0 : (List Int)) : Option ((List Int) × Unit) :=
 (cond (decide (((List.length a0 : Nat) : Int) ≥ (8 : Int)))
 (some (([] : List Int), ()))
 (cond (((8 : Int) == (8 : Int)) && (decide ((0 : Int) ≤ (8 : Int)) && decide ((8 : Int) ≤ ((lim : Nat) : Int))))
 (cond (Nat.ble (List.length a0) (List.length (List.replicate (Int.toNat (8 : Int)) (0 : Int))))
 (Option.bind (impl_SealPacket_7_loop (((List.append a0 (List.drop (List.length a0) (List.replicate (Int.toNat (8 : Int)) (0 : Int)))), (90 : Int), a0, ((List.length a0 : Nat) : Int), (0 : Int), ()), ())) (Sum.elim (fun y4 => (cond ((256 : Int) == (0 : Int))
 none
 (cond (inb (List.length y4.1.1) (7 : Int))
 (Option.bind y4.1.1[(Int.toNat (7 : Int))]? fun x6 =>
 (some ((List.set y4.1.1 (Int.toNat (7 : Int)) (Go.IntKind.wrap .u8 (Int.tmod y4.1.2.1 (256 : Int)))), ())))
 none))) (fun z5 => none)))
 none)
 none))

noncomputable def impl_IsPacket (a0 : (List Int)) : Option (Bool × Unit) :=
 (cond (((List.length a0 : Nat) : Int) == (8 : Int))
 (cond (cutOk (List.length a0) (0 : Int) (7 : Int))
 (Option.bind (impl_SealPacket (cutl a0 (Int.toNat (0 : Int)) (Int.toNat (7 : Int)))) fun r1 =>
 (some (((strOf r1.1) == (strOf a0)), ())))
 none)
 (some (false, ())))

noncomputable def spec_l1In (a0 : Int) (a1 : Int) (a2 : Int) : Option (Bool × Unit) :=
 (cond (decide (a0 ≥ a1))
 (some ((decide (a0 ≤ a2)), ()))
 (some (false, ())))

noncomputable def spec_ReadScript_6_R (t0 : Int) (t1 : Int) (t5 : (List (List Int))) (t6 : Int) (t7 : Int) : Option (((Int × (Int × ((List (List Int)) × TCombo))) × Unit) ⊕ (((Int × (Int × ((List (List Int)) × (Int × Unit)))) × Unit) ⊕ (Unit × Unit))) :=
 (cond (decide (t7 < t0))
 (Option.bind (spec_SealPacket ([(2 : Int), (Go.IntKind.wrap .u8 t6), (Go.IntKind.wrap .u8 t7)] : List Int)) fun r16 =>
 (cond (Nat.ble (List.length t5 + List.length ([r16.1] : List (List Int))) lim)
 (some (.inl ((t0, t1, (List.append t5 ([r16.1] : List (List Int))), t6, (Go.IntKind.wrap .i64 (t7 + (1 : Int))), ()), ())))
 none))
 (some (.inr (.inl ((t0, t1, t5, t6, ()), ())))))
noncomputable def spec_ReadScript_6_loop (x : ((Int × (Int × ((List (List Int)) × TCombo))) × Unit)) : Option (((Int × (Int × ((List (List Int)) × (Int × Unit)))) × Unit) ⊕ (Unit × Unit)) := loopF (fun x : ((Int × (Int × ((List (List Int)) × TCombo))) × Unit) => spec_ReadScript_6_R x.1.1 x.1.2.1 x.1.2.2.1 x.1.2.2.2.1 x.1.2.2.2.2.1) x
noncomputable def spec_ReadScript_3_R (t0 : Int) (t1 : Int) (t5 : (List (List Int))) (t6 : Int) : Option (((Int × (Int × ((List (List Int)) × (Int × Unit)))) × Unit) ⊕ ((((List (List Int)) × Unit) × Unit) ⊕ (Unit × Unit))) :=
 (cond (decide (t6 < t1))
 (Option.bind (spec_l1In t0 (1 : Int) (32 : Int)) fun r13 =>
 (cond r13.1
 (cond (decide (t1 ≤ (4 : Int)))
 (Option.bind (spec_ReadScript_6_loop ((t0, t1, t5, t6, (0 : Int), ()), ())) (Sum.elim (fun y17 => (some (.inl ((y17.1.1, y17.1.2.1, y17.1.2.2.1, (Go.IntKind.wrap .i64 (y17.1.2.2.2.1 + (1 : Int))), ()), ())))) (fun z18 => (some (.inr (.inr ((), ())))))))
 (some (.inr (.inl ((t5, ()), ())))))
 (some (.inr (.inl ((t5, ()), ()))))))
 (some (.inr (.inl ((t5, ()), ())))))
noncomputable def spec_ReadScript_3_loop (x : ((Int × (Int × ((List (List Int)) × (Int × Unit)))) × Unit)) : Option ((((List (List Int)) × Unit) × Unit) ⊕ (Unit × Unit)) := loopF (fun x : ((Int × (Int × ((List (List Int)) × (Int × Unit)))) × Unit) => spec_ReadScript_3_R x.1.1 x.1.2.1 x.1.2.2.1 x.1.2.2.2.1) x
noncomputable def spec_ReadScript (a0 : Int) (a1 : Int) : Option ((List (List Int)) × Unit) :=
 (Option.bind (spec_ReadScript_3_loop ((a0, a1, ([] : List (List Int)), (0 : Int), ()), ())) (Sum.elim (fun y19 => (some (y19.1.1, ()))) (fun z20 => none)))

noncomputable def impl_ReadScript_8_R (t0 : Int) (t5 : (List (List Int))) (t6 : Int) (t22 : Int) (t23 : Int) (t26 : Int) (t27 : Int) : Option (((Int × ((List (List Int)) × (Int × TAction))) × Unit) ⊕ (((Int × ((List (List Int)) × TCombo)) × Unit) ⊕ (Unit × Unit))) :=
 (cond (decide (t27 < t26))
 (Option.bind (impl_SealPacket ([(2 : Int), (Go.IntKind.wrap .u8 t6), (Go.IntKind.wrap .u8 t27)] : List Int)) fun r19 =>
 (cond (Nat.ble (List.length t5 + List.length ([r19.1] : List (List Int))) lim)
 (some (.inl ((t0, (List.append t5 ([r19.1] : List (List Int))), t6, t22, t23, t26, (Go.IntKind.wrap .i64 (t27 + (1 : Int))), ()), ())))
 none))
 (some (.inr (.inl ((t0, t5, t22, t23, ()), ())))))
noncomputable def impl_ReadScript_8_loop (x : ((Int × ((List (List Int)) × (Int × TAction))) × Unit)) : Option (((Int × ((List (List Int)) × TCombo)) × Unit) ⊕ (Unit × Unit)) := loopF (fun x : ((Int × ((List (List Int)) × (Int × TAction))) × Unit) => impl_ReadScript_8_R x.1.1 x.1.2.1 x.1.2.2.1 x.1.2.2.2.1 x.1.2.2.2.2.1 x.1.2.2.2.2.2.1 x.1.2.2.2.2.2.2.1) x
noncomputable def impl_ReadScript_5_R (t0 : Int) (t5 : (List (List Int))) (t22 : Int) (t23 : Int) : Option (((Int × ((List (List Int)) × TCombo)) × Unit) ⊕ ((((List (List Int)) × Unit) × Unit) ⊕ (Unit × Unit))) :=
 (cond (decide (t23 < t22))
 (Option.bind (impl_ReadScript_8_loop ((t0, t5, t23, t22, t23, t0, (0 : Int), ()), ())) (Sum.elim (fun y20 => (some (.inl ((y20.1.1, y20.1.2.1, y20.1.2.2.1, (Go.IntKind.wrap .i64 (y20.1.2.2.2.1 + (1 : Int))), ()), ())))) (fun z21 => (some (.inr (.inr ((), ())))))))
 (some (.inr (.inl ((t5, ()), ())))))
noncomputable def impl_ReadScript_5_loop (x : ((Int × ((List (List Int)) × TCombo)) × Unit)) : Option ((((List (List Int)) × Unit) × Unit) ⊕ (Unit × Unit)) := loopF (fun x : ((Int × ((List (List Int)) × TCombo)) × Unit) => impl_ReadScript_5_R x.1.1 x.1.2.1 x.1.2.2.1 x.1.2.2.2.1) x
noncomputable def impl_ReadScript (a0 : Int) (a1 : Int) : Option ((List (List Int)) × Unit) :=
 (cond (decide (a0 < (1 : Int)))
 (some (([] : List (List Int)), ()))
 (cond (decide (a0 > (32 : Int)))
 (some (([] : List (List Int)), ()))
 (cond (decide (a1 < (1 : Int)))
 (some (([] : List (List Int)), ()))
 (cond (decide (a1 > (4 : Int)))
 (some (([] : List (List Int)), ()))
 (Option.bind (impl_ReadScript_5_loop ((a0, ([] : List (List Int)), a1, (0 : Int), ()), ())) (Sum.elim (fun y22 => (some (y22.1.1, ()))) (fun z23 => none)))))))

noncomputable def laws_toIntS_3_R (t0 : (List Int)) (t3 : (List Int)) (t4 : Int) : Option ((((List Int) × ((List Int) × (Int × Unit))) × Unit) ⊕ ((((List Int) × Unit) × Unit) ⊕ (Unit × Unit))) :=
 (cond (decide (t4 < ((List.length t0 : Nat) : Int)))
 (Option.bind (idx t0 t4) fun x5 =>
 (cond (inb (List.length t3) t4)
 (Option.bind t3[(Int.toNat t4)]? fun x6 =>
 (some (.inl ((t0, (List.set t3 (Int.toNat t4) x5), (Go.IntKind.wrap .i64 (t4 + (1 : Int))), ()), ()))))
 none))
 (some (.inr (.inl ((t3, ()), ())))))
noncomputable def laws_toIntS_3_loop (x : (((List Int) × ((List Int) × (Int × Unit))) × Unit)) : Option ((((List Int) × Unit) × Unit) ⊕ (Unit × Unit)) := loopF (fun x : (((List Int) × ((List Int) × (Int × Unit))) × Unit) => laws_toIntS_3_R x.1.1 x.1.2.1 x.1.2.2.1) x
noncomputable def laws_toIntS (a0 : (List Int)) : Option ((List Int) × Unit) :=
 (cond ((((List.length a0 : Nat) : Int) == ((List.length a0 : Nat) : Int)) && (decide ((0 : Int) ≤ ((List.length a0 : Nat) : Int)) && decide (((List.length a0 : Nat) : Int) ≤ ((lim : Nat) : Int))))
 (Option.bind (laws_toIntS_3_loop ((a0, (List.replicate (Int.toNat ((List.length a0 : Nat) : Int)) (0 : Int)), (0 : Int), ()), ())) (Sum.elim (fun y7 => (some (y7.1.1, ()))) (fun z8 => none)))
 none)

noncomputable def spec_l7Copy (a0 : TReport) : Option (TReport × Unit) :=
 (cond (Nat.ble (List.length ([] : List Int) + List.length a0.2.1) lim)
 (some ((a0.1, (List.append ([] : List Int) a0.2.1), ()), ()))
 none)

noncomputable def spec_ReportsOf_3_R (t0 : (List TSent)) (t3 : (List TReport)) (t4 : Int) : Option ((((List TSent) × ((List TReport) × (Int × Unit))) × Unit) ⊕ ((((List TReport) × Unit) × Unit) ⊕ (Unit × Unit))) :=
 (cond (decide (t4 < ((List.length t0 : Nat) : Int)))
 (Option.bind (idx t0 t4) fun x5 =>
 (Option.bind (spec_l7Copy x5.2.1) fun r6 =>
 (cond (Nat.ble (List.length t3 + List.length ([r6.1] : List TReport)) lim)
 (some (.inl ((t0, (List.append t3 ([r6.1] : List TReport)), (Go.IntKind.wrap .i64 (t4 + (1 : Int))), ()), ())))
 none)))
 (some (.inr (.inl ((t3, ()), ())))))
noncomputable def spec_ReportsOf_3_loop (x : (((List TSent) × ((List TReport) × (Int × Unit))) × Unit)) : Option ((((List TReport) × Unit) × Unit) ⊕ (Unit × Unit)) := loopF (fun x : (((List TSent) × ((List TReport) × (Int × Unit))) × Unit) => spec_ReportsOf_3_R x.1.1 x.1.2.1 x.1.2.2.1) x
noncomputable def spec_ReportsOf (a0 : (List TSent)) : Option ((List TReport) × Unit) :=
 (Option.bind (spec_ReportsOf_3_loop ((a0, ([] : List TReport), (0 : Int), ()), ())) (Sum.elim (fun y7 => (some (y7.1.1, ()))) (fun z8 => none)))

noncomputable def impl_copyInts (a0 : (List Int)) : Option ((List Int) × Unit) :=
 (cond (Nat.ble (List.length ([] : List Int) + List.length a0) lim)
 (some ((List.append ([] : List Int) a0), ()))
 none)

noncomputable def impl_copyReport (a0 : TReport) : Option (TReport × Unit) :=
 (Option.bind (impl_copyInts a0.2.1) fun r1 =>
 (some ((a0.1, r1.1, ()), ())))

noncomputable def impl_ReportsOf_3_R (t3 : (List TReport)) (t6 : (List TSent)) (t7 : Int) (t8 : Int) : Option ((((List TReport) × ((List TSent) × TCombo)) × Unit) ⊕ ((((List TReport) × Unit) × Unit) ⊕ (Unit × Unit))) :=
 (cond (decide (t8 < t7))
 (Option.bind (idx t6 t8) fun x7 =>
 (Option.bind (impl_copyReport x7.2.1) fun r8 =>
 (cond (Nat.ble (List.length t3 + List.length ([r8.1] : List TReport)) lim)
 (some (.inl (((List.append t3 ([r8.1] : List TReport)), t6, t7, (Go.IntKind.wrap .i64 (t8 + (1 : Int))), ()), ())))
 none)))
 (some (.inr (.inl ((t3, ()), ())))))
noncomputable def impl_ReportsOf_3_loop (x : (((List TReport) × ((List TSent) × TCombo)) × Unit)) : Option ((((List TReport) × Unit) × Unit) ⊕ (Unit × Unit)) := loopF (fun x : (((List TReport) × ((List TSent) × TCombo)) × Unit) => impl_ReportsOf_3_R x.1.1 x.1.2.1 x.1.2.2.1 x.1.2.2.2.1) x
noncomputable def impl_ReportsOf (a0 : (List TSent)) : Option ((List TReport) × Unit) :=
 (Option.bind (impl_ReportsOf_3_loop ((([] : List TReport), a0, ((List.length a0 : Nat) : Int), (0 : Int), ()), ())) (Sum.elim (fun y9 => (some (y9.1.1, ()))) (fun z10 => none)))

noncomputable def laws_eqIntS_4_R (t0 : (List Int)) (t1 : (List Int)) (t5 : Int) : Option ((((List Int) × ((List Int) × (Int × Unit))) × Unit) ⊕ ((Unit × Unit) ⊕ ((Bool × Unit) × Unit))) :=
 (cond (decide (t5 < ((List.length t0 : Nat) : Int)))
 (Option.bind (idx t0 t5) fun x5 =>
 (Option.bind (idx t1 t5) fun x6 =>
 (cond (x5 != x6)
 (some (.inr (.inr ((false, ()), ()))))
 (some (.inl ((t0, t1, (Go.IntKind.wrap .i64 (t5 + (1 : Int))), ()), ()))))))
 (some (.inr (.inl ((), ())))))
noncomputable def laws_eqIntS_4_loop (x : (((List Int) × ((List Int) × (Int × Unit))) × Unit)) : Option ((Unit × Unit) ⊕ ((Bool × Unit) × Unit)) := loopF (fun x : (((List Int) × ((List Int) × (Int × Unit))) × Unit) => laws_eqIntS_4_R x.1.1 x.1.2.1 x.1.2.2.1) x
noncomputable def laws_eqIntS (a0 : (List Int)) (a1 : (List Int)) : Option (Bool × Unit) :=
 (cond (((List.length a0 : Nat) : Int) != ((List.length a1 : Nat) : Int))
 (some (false, ()))
 (Option.bind (laws_eqIntS_4_loop ((a0, a1, (0 : Int), ()), ())) (Sum.elim (fun y7 => (some (true, ()))) (fun z8 => (some (z8.1.1, ()))))))

noncomputable def laws_eqReport (a0 : TReport) (a1 : TReport) : Option (Bool × Unit) :=
 (cond (a0.1 != a1.1)
 (some (false, ()))
 (Option.bind (laws_eqIntS a0.2.1 a1.2.1) fun r1 =>
 (cond (!r1.1)
 (some (false, ()))
 (some (true, ())))))

noncomputable def laws_eqReportS_4_R (t0 : (List TReport)) (t1 : (List TReport)) (t5 : Int) : Option ((((List TReport) × ((List TReport) × (Int × Unit))) × Unit) ⊕ ((Unit × Unit) ⊕ ((Bool × Unit) × Unit))) :=
 (cond (decide (t5 < ((List.length t0 : Nat) : Int)))
 (Option.bind (idx t0 t5) fun x7 =>
 (Option.bind (idx t1 t5) fun x8 =>
 (Option.bind (laws_eqReport x7 x8) fun r9 =>
 (cond (!r9.1)
 (some (.inr (.inr ((false, ()), ()))))
 (some (.inl ((t0, t1, (Go.IntKind.wrap .i64 (t5 + (1 : Int))), ()), ())))))))
 (some (.inr (.inl ((), ())))))
noncomputable def laws_eqReportS_4_loop (x : (((List TReport) × ((List TReport) × (Int × Unit))) × Unit)) : Option ((Unit × Unit) ⊕ ((Bool × Unit) × Unit)) := loopF (fun x : (((List TReport) × ((List TReport) × (Int × Unit))) × Unit) => laws_eqReportS_4_R x.1.1 x.1.2.1 x.1.2.2.1) x
noncomputable def laws_eqReportS (a0 : (List TReport)) (a1 : (List TReport)) : Option (Bool × Unit) :=
 (cond (((List.length a0 : Nat) : Int) != ((List.length a1 : Nat) : Int))
 (some (false, ()))
 (Option.bind (laws_eqReportS_4_loop ((a0, a1, (0 : Int), ()), ())) (Sum.elim (fun y10 => (some (true, ()))) (fun z11 => (some (z11.1.1, ()))))))

noncomputable def laws_markIntS_2_R (t0 : (List Int)) (t1 : Int) (t5 : Int) : Option ((((List Int) × TCombo) × Unit) ⊕ ((((List Int) × (Int × Unit)) × Unit) ⊕ (Unit × Unit))) :=
 (cond (decide (t5 < ((List.length t0 : Nat) : Int)))
 (cond (inb (List.length t0) t5)
 (Option.bind t0[(Int.toNat t5)]? fun x3 =>
 (some (.inl (((List.set t0 (Int.toNat t5) t1), (Go.IntKind.wrap .i64 (t1 + (1 : Int))), (Go.IntKind.wrap .i64 (t5 + (1 : Int))), ()), ()))))
 none)
 (some (.inr (.inl ((t0, t1, ()), ())))))
noncomputable def laws_markIntS_2_loop (x : (((List Int) × TCombo) × Unit)) : Option ((((List Int) × (Int × Unit)) × Unit) ⊕ (Unit × Unit)) := loopF (fun x : (((List Int) × TCombo) × Unit) => laws_markIntS_2_R x.1.1 x.1.2.1 x.1.2.2.1) x
noncomputable def laws_markIntS (a0 : (List Int)) (a1 : Int) : Option ((List Int) × (Int × Unit)) :=
 (Option.bind (laws_markIntS_2_loop ((a0, a1, (0 : Int), ()), ())) (Sum.elim (fun y4 => (some (y4.1.1, (y4.1.2.1, ())))) (fun z5 => none)))

noncomputable def laws_markReportS_2_R (t0 : (List TReport)) (t1 : Int) (t5 : Int) : Option ((((List TReport) × TCombo) × Unit) ⊕ ((((List TReport) × (Int × Unit)) × Unit) ⊕ (Unit × Unit))) :=
 (cond (decide (t5 < ((List.length t0 : Nat) : Int)))
 (cond (inb (List.length t0) t5)
 (Option.bind t0[(Int.toNat t5)]? fun x7 =>
 (cond (inb (List.length (List.set t0 (Int.toNat t5) (t1, x7.2))) t5)
 (Option.bind (List.set t0 (Int.toNat t5) (t1, x7.2))[(Int.toNat t5)]? fun x8 =>
 (Option.bind (laws_markIntS x8.2.1 (Go.IntKind.wrap .i64 (t1 + (1 : Int)))) fun r9 =>
 (some (.inl (((List.set (List.set t0 (Int.toNat t5) (t1, x7.2)) (Int.toNat t5) (x8.1, r9.1, x8.2.2)), r9.2.1, (Go.IntKind.wrap .i64 (t5 + (1 : Int))), ()), ())))))
 none))
 none)
 (some (.inr (.inl ((t0, t1, ()), ())))))
noncomputable def laws_markReportS_2_loop (x : (((List TReport) × TCombo) × Unit)) : Option ((((List TReport) × (Int × Unit)) × Unit) ⊕ (Unit × Unit)) := loopF (fun x : (((List TReport) × TCombo) × Unit) => laws_markReportS_2_R x.1.1 x.1.2.1 x.1.2.2.1) x
noncomputable def laws_markReportS (a0 : (List TReport)) (a1 : Int) : Option ((List TReport) × (Int × Unit)) :=
 (Option.bind (laws_markReportS_2_loop ((a0, a1, (0 : Int), ()), ())) (Sum.elim (fun y10 => (some (y10.1.1, (y10.1.2.1, ())))) (fun z11 => none)))

noncomputable def laws_heldIntS_2_R (t0 : (List Int)) (t1 : Int) (t5 : Int) : Option ((((List Int) × TCombo) × Unit) ⊕ (((Int × Unit) × Unit) ⊕ ((Int × Unit) × Unit))) :=
 (cond (decide (t5 < ((List.length t0 : Nat) : Int)))
 (Option.bind (idx t0 t5) fun x3 =>
 (cond (x3 != t1)
 (some (.inr (.inr (((-1 : Int), ()), ()))))
 (some (.inl ((t0, (Go.IntKind.wrap .i64 (t1 + (1 : Int))), (Go.IntKind.wrap .i64 (t5 + (1 : Int))), ()), ())))))
 (some (.inr (.inl ((t1, ()), ())))))
noncomputable def laws_heldIntS_2_loop (x : (((List Int) × TCombo) × Unit)) : Option (((Int × Unit) × Unit) ⊕ ((Int × Unit) × Unit)) := loopF (fun x : (((List Int) × TCombo) × Unit) => laws_heldIntS_2_R x.1.1 x.1.2.1 x.1.2.2.1) x
noncomputable def laws_heldIntS (a0 : (List Int)) (a1 : Int) : Option (Int × Unit) :=
 (Option.bind (laws_heldIntS_2_loop ((a0, a1, (0 : Int), ()), ())) (Sum.elim (fun y4 => (some (y4.1.1, ()))) (fun z5 => (some (z5.1.1, ())))))

noncomputable def laws_heldReportS_2_R (t0 : (List TReport)) (t1 : Int) (t5 : Int) : Option ((((List TReport) × TCombo) × Unit) ⊕ (((Int × Unit) × Unit) ⊕ ((Int × Unit) × Unit))) :=
 (cond (decide (t5 < ((List.length t0 : Nat) : Int)))
 (Option.bind (idx t0 t5) fun x7 =>
 (cond (x7.1 != t1)
 (some (.inr (.inr (((-1 : Int), ()), ()))))
 (Option.bind (idx t0 t5) fun x8 =>
 (Option.bind (laws_heldIntS x8.2.1 (Go.IntKind.wrap .i64 (t1 + (1 : Int)))) fun r9 =>
 (cond (decide (r9.1 < (0 : Int)))
 (some (.inr (.inr (((-1 : Int), ()), ()))))
 (some (.inl ((t0, r9.1, (Go.IntKind.wrap .i64 (t5 + (1 : Int))), ()), ()))))))))
 (some (.inr (.inl ((t1, ()), ())))))
noncomputable def laws_heldReportS_2_loop (x : (((List TReport) × TCombo) × Unit)) : Option (((Int × Unit) × Unit) ⊕ ((Int × Unit) × Unit)) := loopF (fun x : (((List TReport) × TCombo) × Unit) => laws_heldReportS_2_R x.1.1 x.1.2.1 x.1.2.2.1) x
noncomputable def laws_heldReportS (a0 : (List TReport)) (a1 : Int) : Option (Int × Unit) :=
 (Option.bind (laws_heldReportS_2_loop ((a0, a1, (0 : Int), ()), ())) (Sum.elim (fun y10 => (some (y10.1.1, ()))) (fun z11 => (some (z11.1.1, ())))))

noncomputable def laws_szActionS (a0 : (List TAction)) (a1 : Int) : Option (Int × Unit) :=
 (cond (decide ((Go.IntKind.wrap .i64 (a1 - ((List.length a0 : Nat) : Int))) < (0 : Int)))
 (some ((-1 : Int), ()))
 (some ((Go.IntKind.wrap .i64 (a1 - ((List.length a0 : Nat) : Int))), ())))

noncomputable def laws_szActionSS_5_R (t0 : (List (List TAction))) (t1 : Int) (t5 : Int) : Option ((((List (List TAction)) × TCombo) × Unit) ⊕ (((Int × Unit) × Unit) ⊕ ((Int × Unit) × Unit))) :=
 (cond (decide (t5 < ((List.length t0 : Nat) : Int)))
 (Option.bind (idx t0 t5) fun x5 =>
 (Option.bind (laws_szActionS x5 t1) fun r6 =>
 (cond (decide (r6.1 < (0 : Int)))
 (some (.inr (.inr (((-1 : Int), ()), ()))))
 (some (.inl ((t0, r6.1, (Go.IntKind.wrap .i64 (t5 + (1 : Int))), ()), ()))))))
 (some (.inr (.inl ((t1, ()), ())))))
noncomputable def laws_szActionSS_5_loop (x : (((List (List TAction)) × TCombo) × Unit)) : Option (((Int × Unit) × Unit) ⊕ ((Int × Unit) × Unit)) := loopF (fun x : (((List (List TAction)) × TCombo) × Unit) => laws_szActionSS_5_R x.1.1 x.1.2.1 x.1.2.2.1) x
noncomputable def laws_szActionSS (a0 : (List (List TAction))) (a1 : Int) : Option (Int × Unit) :=
 (cond (decide ((Go.IntKind.wrap .i64 (a1 - ((List.length a0 : Nat) : Int))) < (0 : Int)))
 (some ((-1 : Int), ()))
 (Option.bind (laws_szActionSS_5_loop ((a0, (Go.IntKind.wrap .i64 (a1 - ((List.length a0 : Nat) : Int))), (0 : Int), ()), ())) (Sum.elim (fun y7 => (some (y7.1.1, ()))) (fun z8 => (some (z8.1.1, ()))))))

noncomputable def laws_szKeymap (a0 : TKeymap) (a1 : Int) : Option (Int × Unit) :=
 (Option.bind (laws_szActionSS a0.2.1 a1) fun r1 =>
 (cond (decide (r1.1 < (0 : Int)))
 (some ((-1 : Int), ()))
 (some (r1.1, ()))))

noncomputable def laws_toAction (a0 : TAction) : Option (TAction × Unit) :=
 (some ((a0.1, a0.2.1, a0.2.2.1, a0.2.2.2.1, ()), ()))

noncomputable def laws_toActionS_3_R (t0 : (List TAction)) (t3 : (List TAction)) (t4 : Int) : Option ((((List TAction) × ((List TAction) × (Int × Unit))) × Unit) ⊕ ((((List TAction) × Unit) × Unit) ⊕ (Unit × Unit))) :=
 (cond (decide (t4 < ((List.length t0 : Nat) : Int)))
 (Option.bind (idx t0 t4) fun x7 =>
 (Option.bind (laws_toAction x7) fun r8 =>
 (cond (inb (List.length t3) t4)
 (Option.bind t3[(Int.toNat t4)]? fun x9 =>
 (some (.inl ((t0, (List.set t3 (Int.toNat t4) r8.1), (Go.IntKind.wrap .i64 (t4 + (1 : Int))), ()), ()))))
 none)))
 (some (.inr (.inl ((t3, ()), ())))))
noncomputable def laws_toActionS_3_loop (x : (((List TAction) × ((List TAction) × (Int × Unit))) × Unit)) : Option ((((List TAction) × Unit) × Unit) ⊕ (Unit × Unit)) := loopF (fun x : (((List TAction) × ((List TAction) × (Int × Unit))) × Unit) => laws_toActionS_3_R x.1.1 x.1.2.1 x.1.2.2.1) x
noncomputable def laws_toActionS (a0 : (List TAction)) : Option ((List TAction) × Unit) :=
 (cond ((((List.length a0 : Nat) : Int) == ((List.length a0 : Nat) : Int)) && (decide ((0 : Int) ≤ ((List.length a0 : Nat) : Int)) && decide (((List.length a0 : Nat) : Int) ≤ ((lim : Nat) : Int))))
 (Option.bind (laws_toActionS_3_loop ((a0, (List.replicate (Int.toNat ((List.length a0 : Nat) : Int)) ((0 : Int), (0 : Int), (0 : Int), (0 : Int), ())), (0 : Int), ()), ())) (Sum.elim (fun y10 => (some (y10.1.1, ()))) (fun z11 => none)))
 none)

noncomputable def laws_toActionSS_3_R (t0 : (List (List TAction))) (t3 : (List (List TAction))) (t4 : Int) : Option ((((List (List TAction)) × ((List (List TAction)) × (Int × Unit))) × Unit) ⊕ ((((List (List TAction)) × Unit) × Unit) ⊕ (Unit × Unit))) :=
 (cond (decide (t4 < ((List.length t0 : Nat) : Int)))
 (Option.bind (idx t0 t4) fun x7 =>
 (Option.bind (laws_toActionS x7) fun r8 =>
 (cond (inb (List.length t3) t4)
 (Option.bind t3[(Int.toNat t4)]? fun x9 =>
 (some (.inl ((t0, (List.set t3 (Int.toNat t4) r8.1), (Go.IntKind.wrap .i64 (t4 + (1 : Int))), ()), ()))))
 none)))
 (some (.inr (.inl ((t3, ()), ())))))
noncomputable def laws_toActionSS_3_loop (x : (((List (List TAction)) × ((List (List TAction)) × (Int × Unit))) × Unit)) : Option ((((List (List TAction)) × Unit) × Unit) ⊕ (Unit × Unit)) := loopF (fun x : (((List (List TAction)) × ((List (List TAction)) × (Int × Unit))) × Unit) => laws_toActionSS_3_R x.1.1 x.1.2.1 x.1.2.2.1) x
noncomputable def laws_toActionSS (a0 : (List (List TAction))) : Option ((List (List TAction)) × Unit) :=
 (cond ((((List.length a0 : Nat) : Int) == ((List.length a0 : Nat) : Int)) && (decide ((0 : Int) ≤ ((List.length a0 : Nat) : Int)) && decide (((List.length a0 : Nat) : Int) ≤ ((lim : Nat) : Int))))
 (Option.bind (laws_toActionSS_3_loop ((a0, (List.replicate (Int.toNat ((List.length a0 : Nat) : Int)) ([] : List TAction)), (0 : Int), ()), ())) (Sum.elim (fun y10 => (some (y10.1.1, ()))) (fun z11 => none)))
 none)

noncomputable def laws_toKeymap (a0 : TKeymap) : Option (TKeymap × Unit) :=
 (Option.bind (laws_toActionSS a0.2.1) fun r1 =>
 (some ((a0.1, r1.1, ()), ())))

noncomputable def spec_IsAction (a0 : TAction) : Option (Bool × Unit) :=
 (Option.bind (spec_l1In a0.2.1 (1 : Int) (56 : Int)) fun r1 =>
 (Option.bind (spec_l1In a0.2.2.1 (1 : Int) (15 : Int)) fun r2 =>
 (Option.bind (spec_l1In a0.2.2.2.1 (1 : Int) (3 : Int)) fun r3 =>
 (cond (a0.1 == (0 : Int))
 (cond (a0.2.1 == (0 : Int))
 (cond (a0.2.2.1 == (0 : Int))
 (some ((a0.2.2.2.1 == (0 : Int)), ()))
 (some (false, ())))
 (some (false, ())))
 (cond (a0.1 == (1 : Int))
 (cond (a0.2.1 == (0 : Int))
 (cond (a0.2.2.1 == (0 : Int))
 (some ((a0.2.2.2.1 == (0 : Int)), ()))
 (some (false, ())))
 (some (false, ())))
 (cond (a0.1 == (10 : Int))
 (cond (a0.2.1 == (0 : Int))
 (cond (a0.2.2.1 == (0 : Int))
 (some ((a0.2.2.2.1 == (0 : Int)), ()))
 (some (false, ())))
 (some (false, ())))
 (cond (a0.1 == (2 : Int))
 (cond (a0.2.2.2.1 == (0 : Int))
 (cond r1.1
 (cond r2.1
 (some (true, ()))
 (some ((a0.2.2.1 == (0 : Int)), ())))
 (cond (a0.2.1 == (0 : Int))
 (cond r2.1
 (cond r2.1
 (some (true, ()))
 (some ((a0.2.2.1 == (0 : Int)), ())))
 (some (false, ())))
 (some (false, ()))))
 (some (false, ())))
 (cond (a0.1 == (3 : Int))
 (cond r3.1
 (cond (a0.2.1 == (0 : Int))
 (some ((a0.2.2.1 == (0 : Int)), ()))
 (some (false, ())))
 (some (false, ())))
 (cond (a0.1 == (4 : Int))
 (cond r3.1
 (cond (a0.2.1 == (0 : Int))
 (some ((a0.2.2.1 == (0 : Int)), ()))
 (some (false, ())))
 (some (false, ())))
 (cond (a0.1 == (5 : Int))
 (Option.bind (spec_l1In a0.2.2.2.1 (0 : Int) (3 : Int)) fun r4 =>
 (cond r4.1
 (cond (a0.2.1 == (0 : Int))
 (some ((a0.2.2.1 == (0 : Int)), ()))
 (some (false, ())))
 (some (false, ()))))
 (cond (a0.1 == (9 : Int))
 (Option.bind (spec_l1In a0.2.2.2.1 (0 : Int) (3 : Int)) fun r5 =>
 (cond r5.1
 (cond (a0.2.1 == (0 : Int))
 (some ((a0.2.2.1 == (0 : Int)), ()))
 (some (false, ())))
 (some (false, ()))))
 (cond (a0.1 == (6 : Int))
 (cond r1.1
 (cond r2.1
 (some ((a0.2.2.2.1 == (0 : Int)), ()))
 (some (false, ())))
 (some (false, ())))
 (cond (a0.1 == (7 : Int))
 (cond r1.1
 (cond r3.1
 (some ((a0.2.2.1 == (0 : Int)), ()))
 (some (false, ())))
 (some (false, ())))
 (cond (a0.1 == (8 : Int))
 (cond r2.1
 (cond (a0.2.1 == (0 : Int))
 (some ((a0.2.2.2.1 == (0 : Int)), ()))
 (some (false, ())))
 (some (false, ())))
 (some (false, ()))))))))))))))))

noncomputable def spec_IsKeymap_7_R (t1 : Unit) (t3 : Int) (t4 : Int) (b1 : TKeymap) : Option (((Unit × TCombo) × (TKeymap × Unit)) ⊕ (((Unit × (Int × Unit)) × (TKeymap × Unit)) ⊕ ((Bool × Unit) × Unit))) :=
 (Option.bind (idx b1.2.1 t3) fun x40 =>
 (cond (decide (t4 < ((List.length x40 : Nat) : Int)))
 (Option.bind (idx b1.2.1 t3) fun x41 =>
 (Option.bind (idx x41 t4) fun x42 =>
 (Option.bind (spec_IsAction x42) fun r43 =>
 (cond (!r43.1)
 (some (.inr (.inr ((false, ()), ()))))
 (cond (x42.1 == (1 : Int))
 (cond (t3 == (0 : Int))
 (some (.inr (.inr ((false, ()), ()))))
 (cond (x42.1 != (9 : Int))
 (cond (decide (x42.2.2.2.1 ≥ ((List.length b1.2.1 : Nat) : Int)))
 (some (.inr (.inr ((false, ()), ()))))
 (some (.inl (((), t3, (Go.IntKind.wrap .i64 (t4 + (1 : Int))), ()), (b1, ())))))
 (some (.inl (((), t3, (Go.IntKind.wrap .i64 (t4 + (1 : Int))), ()), (b1, ()))))))
 (cond (x42.1 != (9 : Int))
 (cond (decide (x42.2.2.2.1 ≥ ((List.length b1.2.1 : Nat) : Int)))
 (some (.inr (.inr ((false, ()), ()))))
 (some (.inl (((), t3, (Go.IntKind.wrap .i64 (t4 + (1 : Int))), ()), (b1, ())))))
 (some (.inl (((), t3, (Go.IntKind.wrap .i64 (t4 + (1 : Int))), ()), (b1, ()))))))))))
 (some (.inr (.inl (((), t3, ()), (b1, ())))))))
noncomputable def spec_IsKeymap_7_loop (x : ((Unit × TCombo) × (TKeymap × Unit))) : Option (((Unit × (Int × Unit)) × (TKeymap × Unit)) ⊕ ((Bool × Unit) × Unit)) := loopF (fun x : ((Unit × TCombo) × (TKeymap × Unit)) => spec_IsKeymap_7_R x.1.1 x.1.2.1 x.1.2.2.1 x.2.1) x
noncomputable def spec_IsKeymap_2_R (t1 : Unit) (t3 : Int) (b1 : TKeymap) : Option (((Unit × (Int × Unit)) × (TKeymap × Unit)) ⊕ (((Unit × Unit) × (TKeymap × Unit)) ⊕ ((Bool × Unit) × Unit))) :=
 (cond (decide (t3 < ((List.length b1.2.1 : Nat) : Int)))
 (Option.bind (idx b1.2.1 t3) fun x31 =>
 (cond (((List.length x31 : Nat) : Int) != b1.1)
 (some (.inr (.inr ((false, ()), ()))))
 (Option.bind (spec_IsKeymap_7_loop (((), t3, (0 : Int), ()), (b1, ()))) (Sum.elim (fun y44 => (some (.inl (((), (Go.IntKind.wrap .i64 (y44.1.2.1 + (1 : Int))), ()), (y44.2.1, ()))))) (fun z45 => (some (.inr (.inr ((z45.1.1, ()), ())))))))))
 (some (.inr (.inl (((), ()), (b1, ()))))))
noncomputable def spec_IsKeymap_2_loop (x : ((Unit × (Int × Unit)) × (TKeymap × Unit))) : Option (((Unit × Unit) × (TKeymap × Unit)) ⊕ ((Bool × Unit) × Unit)) := loopF (fun x : ((Unit × (Int × Unit)) × (TKeymap × Unit)) => spec_IsKeymap_2_R x.1.1 x.1.2.1 x.2.1) x
noncomputable def spec_IsKeymap (a0 : TKeymap) : Option (Bool × Unit) :=
 (Option.bind (spec_IsKeymap_2_loop (((), (0 : Int), ()), (a0, ()))) (Sum.elim (fun y46 => (Option.bind (spec_l1In y46.2.1.1 (1 : Int) (32 : Int)) fun r48 =>
 (cond r48.1
 (Option.bind (spec_l1In ((List.length y46.2.1.2.1 : Nat) : Int) (1 : Int) (4 : Int)) fun r49 =>
 (some (r49.1, ())))
 (some (false, ()))))) (fun z47 => (some (z47.1.1, ())))))

noncomputable def spec_IsFixed (a0 : TKeymap) (a1 : Int) : Option (Bool × Unit) :=
 (Option.bind (spec_IsKeymap a0) fun r1 =>
 (cond r1.1
 (cond (decide ((0 : Int) ≤ ((List.length a0.2.1 : Nat) : Int)))
 (Option.bind (spec_l1In a1 (0 : Int) (Go.IntKind.wrap .i64 ((ishl .i64 (1 : Int) ((List.length a0.2.1 : Nat) : Int)) - (1 : Int)))) fun r2 =>
 (cond r2.1
 (cond ((2 : Int) == (0 : Int))
 none
 (some (((Int.tmod a1 (2 : Int)) == (0 : Int)), ())))
 (some (false, ()))))
 none)
 (some (false, ()))))

noncomputable def impl_isCode (a0 : Int) : Option (Bool × Unit) :=
 (cond (decide (a0 ≥ (1 : Int)))
 (some ((decide (a0 ≤ (56 : Int))), ()))
 (some (false, ())))

noncomputable def impl_isMods (a0 : Int) : Option (Bool × Unit) :=
 (cond (decide (a0 ≥ (1 : Int)))
 (some ((decide (a0 ≤ (15 : Int))), ()))
 (some (false, ())))

noncomputable def impl_isUpper (a0 : Int) : Option (Bool × Unit) :=
 (cond (decide (a0 ≥ (1 : Int)))
 (some ((decide (a0 ≤ (3 : Int))), ()))
 (some (false, ())))

noncomputable def impl_IsAction (a0 : TAction) : Option (Bool × Unit) :=
 (cond (a0.1 == (0 : Int))
 (cond (a0.2.1 == (0 : Int))
 (cond (a0.2.2.1 == (0 : Int))
 (some ((a0.2.2.2.1 == (0 : Int)), ()))
 (some (false, ())))
 (some (false, ())))
 (cond (a0.1 == (1 : Int))
 (cond (a0.2.1 == (0 : Int))
 (cond (a0.2.2.1 == (0 : Int))
 (some ((a0.2.2.2.1 == (0 : Int)), ()))
 (some (false, ())))
 (some (false, ())))
 (cond (a0.1 == (10 : Int))
 (cond (a0.2.1 == (0 : Int))
 (cond (a0.2.2.1 == (0 : Int))
 (some ((a0.2.2.2.1 == (0 : Int)), ()))
 (some (false, ())))
 (some (false, ())))
 (cond (a0.1 == (2 : Int))
 (cond (a0.2.2.2.1 == (0 : Int))
 (cond (a0.2.1 == (0 : Int))
 (cond (a0.2.2.1 == (0 : Int))
 (cond (a0.2.1 != (0 : Int))
 (some (true, ()))
 (some ((a0.2.2.1 != (0 : Int)), ())))
 (Option.bind (impl_isMods a0.2.2.1) fun r1 =>
 (cond r1.1
 (cond (a0.2.1 != (0 : Int))
 (some (true, ()))
 (some ((a0.2.2.1 != (0 : Int)), ())))
 (some (false, ())))))
 (Option.bind (impl_isCode a0.2.1) fun r2 =>
 (cond r2.1
 (cond (a0.2.2.1 == (0 : Int))
 (cond (a0.2.1 != (0 : Int))
 (some (true, ()))
 (some ((a0.2.2.1 != (0 : Int)), ())))
 (Option.bind (impl_isMods a0.2.2.1) fun r3 =>
 (cond r3.1
 (cond (a0.2.1 != (0 : Int))
 (some (true, ()))
 (some ((a0.2.2.1 != (0 : Int)), ())))
 (some (false, ())))))
 (some (false, ())))))
 (some (false, ())))
 (cond (a0.1 == (3 : Int))
 (cond (a0.2.1 == (0 : Int))
 (cond (a0.2.2.1 == (0 : Int))
 (Option.bind (impl_isUpper a0.2.2.2.1) fun r4 =>
 (some (r4.1, ())))
 (some (false, ())))
 (some (false, ())))
 (cond (a0.1 == (4 : Int))
 (cond (a0.2.1 == (0 : Int))
 (cond (a0.2.2.1 == (0 : Int))
 (Option.bind (impl_isUpper a0.2.2.2.1) fun r5 =>
 (some (r5.1, ())))
 (some (false, ())))
 (some (false, ())))
 (cond (a0.1 == (5 : Int))
 (cond (a0.2.1 == (0 : Int))
 (cond (a0.2.2.1 == (0 : Int))
 (cond (decide (a0.2.2.2.1 ≥ (0 : Int)))
 (some ((decide (a0.2.2.2.1 ≤ (3 : Int))), ()))
 (some (false, ())))
 (some (false, ())))
 (some (false, ())))
 (cond (a0.1 == (9 : Int))
 (cond (a0.2.1 == (0 : Int))
 (cond (a0.2.2.1 == (0 : Int))
 (cond (decide (a0.2.2.2.1 ≥ (0 : Int)))
 (some ((decide (a0.2.2.2.1 ≤ (3 : Int))), ()))
 (some (false, ())))
 (some (false, ())))
 (some (false, ())))
 (cond (a0.1 == (6 : Int))
 (Option.bind (impl_isCode a0.2.1) fun r6 =>
 (cond r6.1
 (Option.bind (impl_isMods a0.2.2.1) fun r7 =>
 (cond r7.1
 (some ((a0.2.2.2.1 == (0 : Int)), ()))
 (some (false, ()))))
 (some (false, ()))))
 (cond (a0.1 == (7 : Int))
 (Option.bind (impl_isCode a0.2.1) fun r8 =>
 (cond r8.1
 (cond (a0.2.2.1 == (0 : Int))
 (Option.bind (impl_isUpper a0.2.2.2.1) fun r9 =>
 (some (r9.1, ())))
 (some (false, ())))
 (some (false, ()))))
 (cond (a0.1 == (8 : Int))
 (cond (a0.2.1 == (0 : Int))
 (Option.bind (impl_isMods a0.2.2.1) fun r10 =>
 (cond r10.1
 (some ((a0.2.2.2.1 == (0 : Int)), ()))
 (some (false, ()))))
 (some (false, ())))
 (some (false, ())))))))))))))

noncomputable def impl_IsKeymap_9_R (t1 : Unit) (t3 : Int) (t28 : (List (List TAction))) (t29 : Int) (t30 : Int) (t40 : (List TAction)) (t41 : Int) (t42 : Int) (b1 : TKeymap) : Option (((Unit × (Int × ((List (List TAction)) × (Int × (Int × ((List TAction) × TCombo)))))) × (TKeymap × Unit)) ⊕ (((Unit × ((List (List TAction)) × TCombo)) × (TKeymap × Unit)) ⊕ ((Bool × Unit) × Unit))) :=
 (cond (decide (t42 < t41))
 (Option.bind (idx t40 t42) fun x24 =>
 (Option.bind (impl_IsAction x24) fun r25 =>
 (cond (!r25.1)
 (some (.inr (.inr ((false, ()), ()))))
 (cond (t3 == (0 : Int))
 (cond (x24.1 == (1 : Int))
 (some (.inr (.inr ((false, ()), ()))))
 (cond (x24.1 != (9 : Int))
 (cond (decide (x24.2.2.2.1 ≥ ((List.length b1.2.1 : Nat) : Int)))
 (some (.inr (.inr ((false, ()), ()))))
 (some (.inl (((), t3, t28, t29, t30, t40, t41, (Go.IntKind.wrap .i64 (t42 + (1 : Int))), ()), (b1, ())))))
 (some (.inl (((), t3, t28, t29, t30, t40, t41, (Go.IntKind.wrap .i64 (t42 + (1 : Int))), ()), (b1, ()))))))
 (cond (x24.1 != (9 : Int))
 (cond (decide (x24.2.2.2.1 ≥ ((List.length b1.2.1 : Nat) : Int)))
 (some (.inr (.inr ((false, ()), ()))))
 (some (.inl (((), t3, t28, t29, t30, t40, t41, (Go.IntKind.wrap .i64 (t42 + (1 : Int))), ()), (b1, ())))))
 (some (.inl (((), t3, t28, t29, t30, t40, t41, (Go.IntKind.wrap .i64 (t42 + (1 : Int))), ()), (b1, ())))))))))
 (some (.inr (.inl (((), t28, t29, t30, ()), (b1, ()))))))
noncomputable def impl_IsKeymap_9_loop (x : ((Unit × (Int × ((List (List TAction)) × (Int × (Int × ((List TAction) × TCombo)))))) × (TKeymap × Unit))) : Option (((Unit × ((List (List TAction)) × TCombo)) × (TKeymap × Unit)) ⊕ ((Bool × Unit) × Unit)) := loopF (fun x : ((Unit × (Int × ((List (List TAction)) × (Int × (Int × ((List TAction) × TCombo)))))) × (TKeymap × Unit)) => impl_IsKeymap_9_R x.1.1 x.1.2.1 x.1.2.2.1 x.1.2.2.2.1 x.1.2.2.2.2.1 x.1.2.2.2.2.2.1 x.1.2.2.2.2.2.2.1 x.1.2.2.2.2.2.2.2.1 x.2.1) x
noncomputable def impl_IsKeymap_4_R (t1 : Unit) (t28 : (List (List TAction))) (t29 : Int) (t30 : Int) (b1 : TKeymap) : Option (((Unit × ((List (List TAction)) × TCombo)) × (TKeymap × Unit)) ⊕ ((Unit × Unit) ⊕ ((Bool × Unit) × Unit))) :=
 (cond (decide (t30 < t29))
 (Option.bind (idx t28 t30) fun x19 =>
 (cond (((List.length x19 : Nat) : Int) != b1.1)
 (some (.inr (.inr ((false, ()), ()))))
 (Option.bind (impl_IsKeymap_9_loop (((), t30, t28, t29, t30, x19, ((List.length x19 : Nat) : Int), (0 : Int), ()), (b1, ()))) (Sum.elim (fun y26 => (some (.inl (((), y26.1.2.1, y26.1.2.2.1, (Go.IntKind.wrap .i64 (y26.1.2.2.2.1 + (1 : Int))), ()), (y26.2.1, ()))))) (fun z27 => (some (.inr (.inr ((z27.1.1, ()), ())))))))))
 (some (.inr (.inl ((), ())))))
noncomputable def impl_IsKeymap_4_loop (x : ((Unit × ((List (List TAction)) × TCombo)) × (TKeymap × Unit))) : Option ((Unit × Unit) ⊕ ((Bool × Unit) × Unit)) := loopF (fun x : ((Unit × ((List (List TAction)) × TCombo)) × (TKeymap × Unit)) => impl_IsKeymap_4_R x.1.1 x.1.2.1 x.1.2.2.1 x.1.2.2.2.1 x.2.1) x
noncomputable def impl_IsKeymap (a0 : TKeymap) : Option (Bool × Unit) :=
 (cond (decide (a0.1 < (1 : Int)))
 (some (false, ()))
 (cond (decide (a0.1 > (32 : Int)))
 (some (false, ()))
 (cond (decide (((List.length a0.2.1 : Nat) : Int) < (1 : Int)))
 (some (false, ()))
 (cond (decide (((List.length a0.2.1 : Nat) : Int) > (4 : Int)))
 (some (false, ()))
 (Option.bind (impl_IsKeymap_4_loop (((), a0.2.1, ((List.length a0.2.1 : Nat) : Int), (0 : Int), ()), (a0, ()))) (Sum.elim (fun y28 => (some (true, ()))) (fun z29 => (some (z29.1.1, ())))))))))

noncomputable def impl_IsFixed (a0 : TKeymap) (a1 : Int) : Option (Bool × Unit) :=
 (Option.bind (impl_IsKeymap a0) fun r1 =>
 (cond r1.1
 (cond (decide (a1 ≥ (0 : Int)))
 (cond ((2 : Int) == (0 : Int))
 none
 (cond ((Int.tmod a1 (2 : Int)) == (0 : Int))
 (cond (decide ((0 : Int) ≤ ((List.length a0.2.1 : Nat) : Int)))
 (some ((decide (a1 < (ishl .i64 (1 : Int) ((List.length a0.2.1 : Nat) : Int)))), ()))
 none)
 (some (false, ()))))
 (some (false, ())))
 (some (false, ()))))

noncomputable def laws_eqAction (a0 : TAction) (a1 : TAction) : Option (Bool × Unit) :=
 (cond (a0.1 != a1.1)
 (some (false, ()))
 (cond (a0.2.1 != a1.2.1)
 (some (false, ()))
 (cond (a0.2.2.1 != a1.2.2.1)
 (some (false, ()))
 (cond (a0.2.2.2.1 != a1.2.2.2.1)
 (some (false, ()))
 (some (true, ()))))))

noncomputable def laws_eqActionS_4_R (t0 : (List TAction)) (t1 : (List TAction)) (t5 : Int) : Option ((((List TAction) × ((List TAction) × (Int × Unit))) × Unit) ⊕ ((Unit × Unit) ⊕ ((Bool × Unit) × Unit))) :=
 (cond (decide (t5 < ((List.length t0 : Nat) : Int)))
 (Option.bind (idx t0 t5) fun x7 =>
 (Option.bind (idx t1 t5) fun x8 =>
 (Option.bind (laws_eqAction x7 x8) fun r9 =>
 (cond (!r9.1)
 (some (.inr (.inr ((false, ()), ()))))
 (some (.inl ((t0, t1, (Go.IntKind.wrap .i64 (t5 + (1 : Int))), ()), ())))))))
 (some (.inr (.inl ((), ())))))
noncomputable def laws_eqActionS_4_loop (x : (((List TAction) × ((List TAction) × (Int × Unit))) × Unit)) : Option ((Unit × Unit) ⊕ ((Bool × Unit) × Unit)) := loopF (fun x : (((List TAction) × ((List TAction) × (Int × Unit))) × Unit) => laws_eqActionS_4_R x.1.1 x.1.2.1 x.1.2.2.1) x
noncomputable def laws_eqActionS (a0 : (List TAction)) (a1 : (List TAction)) : Option (Bool × Unit) :=
 (cond (((List.length a0 : Nat) : Int) != ((List.length a1 : Nat) : Int))
 (some (false, ()))
 (Option.bind (laws_eqActionS_4_loop ((a0, a1, (0 : Int), ()), ())) (Sum.elim (fun y10 => (some (true, ()))) (fun z11 => (some (z11.1.1, ()))))))

noncomputable def laws_eqActionSS_4_R (t0 : (List (List TAction))) (t1 : (List (List TAction))) (t5 : Int) : Option ((((List (List TAction)) × ((List (List TAction)) × (Int × Unit))) × Unit) ⊕ ((Unit × Unit) ⊕ ((Bool × Unit) × Unit))) :=
 (cond (decide (t5 < ((List.length t0 : Nat) : Int)))
 (Option.bind (idx t0 t5) fun x7 =>
 (Option.bind (idx t1 t5) fun x8 =>
 (Option.bind (laws_eqActionS x7 x8) fun r9 =>
 (cond (!r9.1)
 (some (.inr (.inr ((false, ()), ()))))
 (some (.inl ((t0, t1, (Go.IntKind.wrap .i64 (t5 + (1 : Int))), ()), ())))))))
 (some (.inr (.inl ((), ())))))
noncomputable def laws_eqActionSS_4_loop (x : (((List (List TAction)) × ((List (List TAction)) × (Int × Unit))) × Unit)) : Option ((Unit × Unit) ⊕ ((Bool × Unit) × Unit)) := loopF (fun x : (((List (List TAction)) × ((List (List TAction)) × (Int × Unit))) × Unit) => laws_eqActionSS_4_R x.1.1 x.1.2.1 x.1.2.2.1) x
noncomputable def laws_eqActionSS (a0 : (List (List TAction))) (a1 : (List (List TAction))) : Option (Bool × Unit) :=
 (cond (((List.length a0 : Nat) : Int) != ((List.length a1 : Nat) : Int))
 (some (false, ()))
 (Option.bind (laws_eqActionSS_4_loop ((a0, a1, (0 : Int), ()), ())) (Sum.elim (fun y10 => (some (true, ()))) (fun z11 => (some (z11.1.1, ()))))))

noncomputable def laws_eqKeymap (a0 : TKeymap) (a1 : TKeymap) : Option (Bool × Unit) :=
 (cond (a0.1 != a1.1)
 (some (false, ()))
 (Option.bind (laws_eqActionSS a0.2.1 a1.2.1) fun r1 =>
 (cond (!r1.1)
 (some (false, ()))
 (some (true, ())))))

noncomputable def spec_IsMatrix (a0 : TEvent) : Option (Bool × Unit) :=
 (Option.bind (spec_l1In a0.1 (1 : Int) (4 : Int)) fun r1 =>
 (cond r1.1
 (Option.bind (spec_l1In a0.2.1 (1 : Int) (6 : Int)) fun r2 =>
 (some (r2.1, ())))
 (some (false, ()))))

noncomputable def spec_KeyCount (a0 : TEvent) : Option (Int × Unit) :=
 (Option.bind (spec_IsMatrix a0) fun r1 =>
 (cond (!r1.1)
 (some ((0 : Int), ()))
 (some ((Go.IntKind.wrap .i64 (a0.1 * a0.2.1)), ()))))

noncomputable def spec_IsMask (a0 : TEvent) (a1 : Int) : Option (Bool × Unit) :=
 (Option.bind (spec_IsMatrix a0) fun r1 =>
 (cond r1.1
 (Option.bind (spec_KeyCount a0) fun r2 =>
 (cond (decide ((0 : Int) ≤ r2.1))
 (Option.bind (spec_l1In a1 (0 : Int) (Go.IntKind.wrap .i64 ((ishl .i64 (1 : Int) r2.1) - (1 : Int)))) fun r3 =>
 (some (r3.1, ())))
 none))
 (some (false, ()))))

noncomputable def impl_IsMatrix (a0 : TEvent) : Option (Bool × Unit) :=
 (cond (decide (a0.1 ≥ (1 : Int)))
 (cond (decide (a0.1 ≤ (4 : Int)))
 (cond (decide (a0.2.1 ≥ (1 : Int)))
 (some ((decide (a0.2.1 ≤ (6 : Int))), ()))
 (some (false, ())))
 (some (false, ())))
 (some (false, ())))

noncomputable def impl_KeyCount (a0 : TEvent) : Option (Int × Unit) :=
 (Option.bind (impl_IsMatrix a0) fun r1 =>
 (cond (!r1.1)
 (some ((0 : Int), ()))
 (some ((Go.IntKind.wrap .i64 (a0.1 * a0.2.1)), ()))))

noncomputable def impl_IsMask (a0 : TEvent) (a1 : Int) : Option (Bool × Unit) :=
 (Option.bind (impl_IsMatrix a0) fun r1 =>
 (cond r1.1
 (cond (decide (a1 ≥ (0 : Int)))
 (Option.bind (impl_KeyCount a0) fun r2 =>
 (cond (decide ((0 : Int) ≤ r2.1))
 (some ((decide (a1 < (ishl .i64 (1 : Int) r2.1))), ()))
 none))
 (some (false, ())))
 (some (false, ()))))

noncomputable def spec_IsTapHold (a0 : TAction) : Option (Bool × Unit) :=
 (Option.bind (spec_IsAction a0) fun r1 =>
 (cond r1.1
 (cond (a0.1 == (6 : Int))
 (some (true, ()))
 (some ((a0.1 == (7 : Int)), ())))
 (some (false, ()))))

noncomputable def spec_TapOf (a0 : TAction) : Option (TAction × Unit) :=
 (Option.bind (spec_IsTapHold a0) fun r1 =>
 (cond (!r1.1)
 (some (a0, ()))
 (some (((2 : Int), a0.2.1, (0 : Int), (0 : Int), ()), ()))))

noncomputable def spec_KeyFor_2_R (t1 : Int) (t2 : Int) (t3 : Unit) (t7 : Int) (b3 : TKeymap) : Option (((Int × (Int × (Unit × (Int × Unit)))) × (TKeymap × Unit)) ⊕ ((Unit × Unit) ⊕ ((Int × Unit) × Unit))) :=
 (cond (decide (t7 < b3.1))
 (Option.bind (spec_IsKeymap b3) fun r11 =>
 (cond r11.1
 (Option.bind (spec_l1In t1 (0 : Int) (56 : Int)) fun r12 =>
 (cond r12.1
 (Option.bind (idx b3.2.1 (0 : Int)) fun x13 =>
 (Option.bind (idx x13 t7) fun x14 =>
 (cond (decide (t1 > (0 : Int)))
 (Option.bind (spec_TapOf x14) fun r15 =>
 (cond (r15.1.1 == (2 : Int))
 (cond (r15.1.2.1 == t1)
 (cond (r15.1.2.2.1 == t2)
 (some (.inr (.inr ((t7, ()), ()))))
 (some (.inl ((t1, t2, (), (Go.IntKind.wrap .i64 (t7 + (1 : Int))), ()), (b3, ())))))
 (some (.inl ((t1, t2, (), (Go.IntKind.wrap .i64 (t7 + (1 : Int))), ()), (b3, ())))))
 (some (.inl ((t1, t2, (), (Go.IntKind.wrap .i64 (t7 + (1 : Int))), ()), (b3, ()))))))
 (cond (x14.1 == (2 : Int))
 (cond (x14.2.1 == t1)
 (cond (x14.2.2.1 == t2)
 (some (.inr (.inr ((t7, ()), ()))))
 (some (.inl ((t1, t2, (), (Go.IntKind.wrap .i64 (t7 + (1 : Int))), ()), (b3, ())))))
 (some (.inl ((t1, t2, (), (Go.IntKind.wrap .i64 (t7 + (1 : Int))), ()), (b3, ())))))
 (some (.inl ((t1, t2, (), (Go.IntKind.wrap .i64 (t7 + (1 : Int))), ()), (b3, ()))))))))
 (some (.inr (.inl ((), ()))))))
 (some (.inr (.inl ((), ()))))))
 (some (.inr (.inl ((), ())))))
noncomputable def spec_KeyFor_2_loop (x : ((Int × (Int × (Unit × (Int × Unit)))) × (TKeymap × Unit))) : Option ((Unit × Unit) ⊕ ((Int × Unit) × Unit)) := loopF (fun x : ((Int × (Int × (Unit × (Int × Unit)))) × (TKeymap × Unit)) => spec_KeyFor_2_R x.1.1 x.1.2.1 x.1.2.2.1 x.1.2.2.2.1 x.2.1) x
noncomputable def spec_KeyFor (a0 : TKeymap) (a1 : Int) (a2 : Int) : Option (Int × Unit) :=
 (Option.bind (spec_KeyFor_2_loop ((a1, a2, (), (0 : Int), ()), (a0, ()))) (Sum.elim (fun y16 => (some ((-1 : Int), ()))) (fun z17 => (some (z17.1.1, ())))))

noncomputable def impl_IsTapHold (a0 : TAction) : Option (Bool × Unit) :=
 (Option.bind (impl_IsAction a0) fun r1 =>
 (cond r1.1
 (cond (a0.1 == (6 : Int))
 (some (true, ()))
 (some ((a0.1 == (7 : Int)), ())))
 (some (false, ()))))

noncomputable def impl_TapOf (a0 : TAction) : Option (TAction × Unit) :=
 (Option.bind (impl_IsTapHold a0) fun r1 =>
 (cond (!r1.1)
 (some (a0, ()))
 (some (((2 : Int), a0.2.1, (0 : Int), (0 : Int), ()), ()))))

noncomputable def impl_keyFor_2_R (t1 : Int) (t2 : Int) (t12 : (List TAction)) (t13 : Int) (t14 : Int) : Option (((Int × (Int × ((List TAction) × TCombo))) × Unit) ⊕ ((Unit × Unit) ⊕ ((Int × Unit) × Unit))) :=
 (cond (decide (t14 < t13))
 (Option.bind (idx t12 t14) fun x6 =>
 (cond (t1 != (0 : Int))
 (Option.bind (impl_TapOf x6) fun r7 =>
 (cond (r7.1.1 == (2 : Int))
 (cond (r7.1.2.1 == t1)
 (cond (r7.1.2.2.1 == t2)
 (some (.inr (.inr ((t14, ()), ()))))
 (some (.inl ((t1, t2, t12, t13, (Go.IntKind.wrap .i64 (t14 + (1 : Int))), ()), ()))))
 (some (.inl ((t1, t2, t12, t13, (Go.IntKind.wrap .i64 (t14 + (1 : Int))), ()), ()))))
 (some (.inl ((t1, t2, t12, t13, (Go.IntKind.wrap .i64 (t14 + (1 : Int))), ()), ())))))
 (cond (x6.1 == (2 : Int))
 (cond (x6.2.1 == t1)
 (cond (x6.2.2.1 == t2)
 (some (.inr (.inr ((t14, ()), ()))))
 (some (.inl ((t1, t2, t12, t13, (Go.IntKind.wrap .i64 (t14 + (1 : Int))), ()), ()))))
 (some (.inl ((t1, t2, t12, t13, (Go.IntKind.wrap .i64 (t14 + (1 : Int))), ()), ()))))
 (some (.inl ((t1, t2, t12, t13, (Go.IntKind.wrap .i64 (t14 + (1 : Int))), ()), ()))))))
 (some (.inr (.inl ((), ())))))
noncomputable def impl_keyFor_2_loop (x : ((Int × (Int × ((List TAction) × TCombo))) × Unit)) : Option ((Unit × Unit) ⊕ ((Int × Unit) × Unit)) := loopF (fun x : ((Int × (Int × ((List TAction) × TCombo))) × Unit) => impl_keyFor_2_R x.1.1 x.1.2.1 x.1.2.2.1 x.1.2.2.2.1 x.1.2.2.2.2.1) x
noncomputable def impl_keyFor (a0 : TKeymap) (a1 : Int) (a2 : Int) : Option (Int × Unit) :=
 (Option.bind (idx a0.2.1 (0 : Int)) fun x1 =>
 (Option.bind (impl_keyFor_2_loop ((a1, a2, x1, ((List.length x1 : Nat) : Int), (0 : Int), ()), ())) (Sum.elim (fun y8 => (some ((-1 : Int), ()))) (fun z9 => (some (z9.1.1, ()))))))

noncomputable def impl_copyKeymap_3_R (t2 : Unit) (t3 : Unit) (t10 : (List (List TAction))) (t11 : Int) (t12 : Int) (b2 : TKeymap) (b3 : TKeymap) : Option (((Unit × (Unit × ((List (List TAction)) × TCombo))) × (TKeymap × (TKeymap × Unit))) ⊕ (((Unit × (Unit × Unit)) × (TKeymap × (TKeymap × Unit))) ⊕ (Unit × Unit))) :=
 (cond (decide (t12 < t11))
 (Option.bind (idx t10 t12) fun x4 =>
 (cond (Nat.ble (List.length ([] : List TAction) + List.length x4) lim)
 (cond (Nat.ble (List.length b3.2.1 + List.length ([(List.append ([] : List TAction) x4)] : List (List TAction))) lim)
 (some (.inl (((), (), t10, t11, (Go.IntKind.wrap .i64 (t12 + (1 : Int))), ()), ((b2.1, b2.2.1, ()), (b3.1, (List.append b3.2.1 ([(List.append ([] : List TAction) x4)] : List (List TAction))), ()), ()))))
 none)
 none))
 (some (.inr (.inl (((), (), ()), ((b2.1, b2.2.1, ()), (b3.1, b3.2.1, ()), ()))))))
noncomputable def impl_copyKeymap_3_loop (x : ((Unit × (Unit × ((List (List TAction)) × TCombo))) × (TKeymap × (TKeymap × Unit)))) : Option (((Unit × (Unit × Unit)) × (TKeymap × (TKeymap × Unit))) ⊕ (Unit × Unit)) := loopF (fun x : ((Unit × (Unit × ((List (List TAction)) × TCombo))) × (TKeymap × (TKeymap × Unit))) => impl_copyKeymap_3_R x.1.1 x.1.2.1 x.1.2.2.1 x.1.2.2.2.1 x.1.2.2.2.2.1 x.2.1 x.2.2.1) x
noncomputable def impl_copyKeymap (a0 : TKeymap) : Option (TKeymap × Unit) :=
 (Option.bind (impl_copyKeymap_3_loop (((), (), a0.2.1, ((List.length a0.2.1 : Nat) : Int), (0 : Int), ()), (((0 : Int), ([] : List (List TAction)), ()), (a0.1, ([] : List (List TAction)), ()), ()))) (Sum.elim (fun y5 => (some ((y5.2.2.1.1, y5.2.2.1.2.1, ()), ()))) (fun z6 => none)))

noncomputable def impl_copyMacros_3_R (t3 : (List (List TStep))) (t6 : (List (List TStep))) (t7 : Int) (t8 : Int) : Option ((((List (List TStep)) × ((List (List TStep)) × TCombo)) × Unit) ⊕ ((((List (List TStep)) × Unit) × Unit) ⊕ (Unit × Unit))) :=
 (cond (decide (t8 < t7))
 (Option.bind (idx t6 t8) fun x4 =>
 (cond (Nat.ble (List.length ([] : List TStep) + List.length x4) lim)
 (cond (Nat.ble (List.length t3 + List.length ([(List.append ([] : List TStep) x4)] : List (List TStep))) lim)
 (some (.inl (((List.append t3 ([(List.append ([] : List TStep) x4)] : List (List TStep))), t6, t7, (Go.IntKind.wrap .i64 (t8 + (1 : Int))), ()), ())))
 none)
 none))
 (some (.inr (.inl ((t3, ()), ())))))
noncomputable def impl_copyMacros_3_loop (x : (((List (List TStep)) × ((List (List TStep)) × TCombo)) × Unit)) : Option ((((List (List TStep)) × Unit) × Unit) ⊕ (Unit × Unit)) := loopF (fun x : (((List (List TStep)) × ((List (List TStep)) × TCombo)) × Unit) => impl_copyMacros_3_R x.1.1 x.1.2.1 x.1.2.2.1 x.1.2.2.2.1) x
noncomputable def impl_copyMacros (a0 : (List (List TStep))) : Option ((List (List TStep)) × Unit) :=
 (Option.bind (impl_copyMacros_3_loop ((([] : List (List TStep)), a0, ((List.length a0 : Nat) : Int), (0 : Int), ()), ())) (Sum.elim (fun y5 => (some (y5.1.1, ()))) (fun z6 => none)))

noncomputable def impl_bit (a0 : Int) (a1 : Int) : Option (Int × Unit) :=
 (cond (decide ((0 : Int) ≤ a1))
 (some ((iand .i64 (ishr .i64 a0 a1) (1 : Int)), ()))
 none)

noncomputable def impl_IsHeld_3_R (t3 : Int) (t6 : (List THeld)) (t7 : Int) (t8 : Int) : Option (((Int × ((List THeld) × TCombo)) × Unit) ⊕ ((Unit × Unit) ⊕ ((Bool × Unit) × Unit))) :=
 (cond (decide (t8 < t7))
 (Option.bind (idx t6 t8) fun x7 =>
 (cond (decide (x7.1 < (0 : Int)))
 (some (.inr (.inr ((false, ()), ()))))
 (cond (decide (x7.1 > (31 : Int)))
 (some (.inr (.inr ((false, ()), ()))))
 (Option.bind (impl_bit t3 x7.1) fun r8 =>
 (cond (r8.1 == (1 : Int))
 (some (.inr (.inr ((false, ()), ()))))
 (Option.bind (impl_IsAction x7.2.1) fun r9 =>
 (cond (!r9.1)
 (some (.inr (.inr ((false, ()), ()))))
 (cond (x7.2.1.1 == (1 : Int))
 (some (.inr (.inr ((false, ()), ()))))
 (cond (x7.2.1.1 == (6 : Int))
 (some (.inr (.inr ((false, ()), ()))))
 (cond (x7.2.1.1 == (7 : Int))
 (some (.inr (.inr ((false, ()), ()))))
 (cond (decide ((0 : Int) ≤ x7.1))
 (some (.inl (((ior .i64 t3 (ishl .i64 (1 : Int) x7.1)), t6, t7, (Go.IntKind.wrap .i64 (t8 + (1 : Int))), ()), ())))
 none)))))))))))
 (some (.inr (.inl ((), ())))))
noncomputable def impl_IsHeld_3_loop (x : ((Int × ((List THeld) × TCombo)) × Unit)) : Option ((Unit × Unit) ⊕ ((Bool × Unit) × Unit)) := loopF (fun x : ((Int × ((List THeld) × TCombo)) × Unit) => impl_IsHeld_3_R x.1.1 x.1.2.1 x.1.2.2.1 x.1.2.2.2.1) x
noncomputable def impl_IsHeld (a0 : (List THeld)) : Option (Bool × Unit) :=
 (Option.bind (impl_IsHeld_3_loop (((0 : Int), a0, ((List.length a0 : Nat) : Int), (0 : Int), ()), ())) (Sum.elim (fun y10 => (some (true, ()))) (fun z11 => (some (z11.1.1, ())))))

noncomputable def impl_pairAt_2_R (t3 : Unit) (t7 : (List TCombo)) (t8 : Int) (t9 : Int) (b3 : TCombo) : Option (((Unit × ((List TCombo) × TCombo)) × (TCombo × Unit)) ⊕ ((Unit × Unit) ⊕ ((Int × Unit) × Unit))) :=
 (cond (decide (t9 < t8))
 (Option.bind (idx t7 t9) fun x3 =>
 (cond (eqT tCombo x3 b3)
 (some (.inr (.inr ((t9, ()), ()))))
 (some (.inl (((), t7, t8, (Go.IntKind.wrap .i64 (t9 + (1 : Int))), ()), (b3, ()))))))
 (some (.inr (.inl ((), ())))))
noncomputable def impl_pairAt_2_loop (x : ((Unit × ((List TCombo) × TCombo)) × (TCombo × Unit))) : Option ((Unit × Unit) ⊕ ((Int × Unit) × Unit)) := loopF (fun x : ((Unit × ((List TCombo) × TCombo)) × (TCombo × Unit)) => impl_pairAt_2_R x.1.1 x.1.2.1 x.1.2.2.1 x.1.2.2.2.1 x.2.1) x
noncomputable def impl_pairAt (a0 : (List TCombo)) (a1 : TCombo) : Option (Int × Unit) :=
 (Option.bind (impl_pairAt_2_loop (((), a0, ((List.length a0 : Nat) : Int), (0 : Int), ()), (a1, ()))) (Sum.elim (fun y4 => (some ((-1 : Int), ()))) (fun z5 => (some (z5.1.1, ())))))

noncomputable def impl_IsMacro_5_R (t3 : (List TCombo)) (t11 : (List TStep)) (t12 : Int) (t13 : Int) : Option ((((List TCombo) × ((List TStep) × TCombo)) × Unit) ⊕ ((((List TCombo) × Unit) × Unit) ⊕ ((Bool × Unit) × Unit))) :=
 (cond (decide (t13 < t12))
 (Option.bind (idx t11 t13) fun x10 =>
 (Option.bind (impl_pairAt t3 (x10.2.1, x10.2.2.1, ())) fun r11 =>
 (Option.bind (impl_IsAction ((2 : Int), x10.2.1, x10.2.2.1, (0 : Int), ())) fun r12 =>
 (cond (!r12.1)
 (some (.inr (.inr ((false, ()), ()))))
 (cond (x10.1 == (0 : Int))
 (cond (decide (r11.1 ≥ (0 : Int)))
 (some (.inr (.inr ((false, ()), ()))))
 (cond (x10.1 == (1 : Int))
 (cond (Nat.ble (List.length t3 + List.length ([(x10.2.1, x10.2.2.1, ())] : List TCombo)) lim)
 (some (.inl (((List.append t3 ([(x10.2.1, x10.2.2.1, ())] : List TCombo)), t11, t12, (Go.IntKind.wrap .i64 (t13 + (1 : Int))), ()), ())))
 none)
 (some (.inl ((t3, t11, t12, (Go.IntKind.wrap .i64 (t13 + (1 : Int))), ()), ())))))
 (cond (x10.1 == (1 : Int))
 (cond (decide (r11.1 ≥ (0 : Int)))
 (some (.inr (.inr ((false, ()), ()))))
 (cond (x10.1 == (1 : Int))
 (cond (Nat.ble (List.length t3 + List.length ([(x10.2.1, x10.2.2.1, ())] : List TCombo)) lim)
 (some (.inl (((List.append t3 ([(x10.2.1, x10.2.2.1, ())] : List TCombo)), t11, t12, (Go.IntKind.wrap .i64 (t13 + (1 : Int))), ()), ())))
 none)
 (some (.inl ((t3, t11, t12, (Go.IntKind.wrap .i64 (t13 + (1 : Int))), ()), ())))))
 (cond (x10.1 == (2 : Int))
 (cond (decide (r11.1 < (0 : Int)))
 (some (.inr (.inr ((false, ()), ()))))
 (cond (cutOk (List.length t3) (0 : Int) r11.1)
 (cond (cutOk (List.length t3) (Go.IntKind.wrap .i64 (r11.1 + (1 : Int))) ((List.length t3 : Nat) : Int))
 (cond (Nat.ble (List.length (cutl t3 (Int.toNat (0 : Int)) (Int.toNat r11.1)) + List.length (cutl t3 (Int.toNat (Go.IntKind.wrap .i64 (r11.1 + (1 : Int)))) (Int.toNat ((List.length t3 : Nat) : Int)))) lim)
 (some (.inl (((List.append (cutl t3 (Int.toNat (0 : Int)) (Int.toNat r11.1)) (cutl t3 (Int.toNat (Go.IntKind.wrap .i64 (r11.1 + (1 : Int)))) (Int.toNat ((List.length t3 : Nat) : Int)))), t11, t12, (Go.IntKind.wrap .i64 (t13 + (1 : Int))), ()), ())))
 none)
 none)
 none))
 (some (.inr (.inr ((false, ()), ())))))))))))
 (some (.inr (.inl ((t3, ()), ())))))
noncomputable def impl_IsMacro_5_loop (x : (((List TCombo) × ((List TStep) × TCombo)) × Unit)) : Option ((((List TCombo) × Unit) × Unit) ⊕ ((Bool × Unit) × Unit)) := loopF (fun x : (((List TCombo) × ((List TStep) × TCombo)) × Unit) => impl_IsMacro_5_R x.1.1 x.1.2.1 x.1.2.2.1 x.1.2.2.2.1) x
noncomputable def impl_IsMacro (a0 : (List TStep)) : Option (Bool × Unit) :=
 (cond (decide (((List.length a0 : Nat) : Int) > (8 : Int)))
 (some (false, ()))
 (Option.bind (impl_IsMacro_5_loop ((([] : List TCombo), a0, ((List.length a0 : Nat) : Int), (0 : Int), ()), ())) (Sum.elim (fun y13 => (some ((((List.length y13.1.1 : Nat) : Int) == (0 : Int)), ()))) (fun z14 => (some (z14.1.1, ()))))))

noncomputable def impl_IsEngine_4_R (t1 : Unit) (t35 : (List (List TStep))) (t36 : Int) (t37 : Int) (b1 : TEngine) : Option (((Unit × ((List (List TStep)) × TCombo)) × (TEngine × Unit)) ⊕ (((Unit × Unit) × (TEngine × Unit)) ⊕ ((Bool × Unit) × Unit))) :=
 (cond (decide (t37 < t36))
 (Option.bind (idx t35 t37) fun x7 =>
 (Option.bind (impl_IsMacro x7) fun r8 =>
 (cond (!r8.1)
 (some (.inr (.inr ((false, ()), ()))))
 (some (.inl (((), t35, t36, (Go.IntKind.wrap .i64 (t37 + (1 : Int))), ()), (b1, ())))))))
 (some (.inr (.inl (((), ()), (b1, ()))))))
noncomputable def impl_IsEngine_4_loop (x : ((Unit × ((List (List TStep)) × TCombo)) × (TEngine × Unit))) : Option (((Unit × Unit) × (TEngine × Unit)) ⊕ ((Bool × Unit) × Unit)) := loopF (fun x : ((Unit × ((List (List TStep)) × TCombo)) × (TEngine × Unit)) => impl_IsEngine_4_R x.1.1 x.1.2.1 x.1.2.2.1 x.1.2.2.2.1 x.2.1) x
noncomputable def impl_IsEngine_11_R (t1 : Unit) (t5 : Int) (t50 : (List THeld)) (t51 : Int) (t52 : Int) (b1 : TEngine) : Option (((Unit × (Int × ((List THeld) × TCombo))) × (TEngine × Unit)) ⊕ (((Unit × (Int × Unit)) × (TEngine × Unit)) ⊕ ((Bool × Unit) × Unit))) :=
 (cond (decide (t52 < t51))
 (Option.bind (idx t50 t52) fun x13 =>
 (cond (decide (x13.1 ≥ b1.1.1))
 (some (.inr (.inr ((false, ()), ()))))
 (cond (x13.2.1.1 != (9 : Int))
 (cond (decide (x13.2.1.2.2.2.1 ≥ t5))
 (some (.inr (.inr ((false, ()), ()))))
 (some (.inl (((), t5, t50, t51, (Go.IntKind.wrap .i64 (t52 + (1 : Int))), ()), (b1, ())))))
 (some (.inl (((), t5, t50, t51, (Go.IntKind.wrap .i64 (t52 + (1 : Int))), ()), (b1, ())))))))
 (some (.inr (.inl (((), t5, ()), (b1, ()))))))
noncomputable def impl_IsEngine_11_loop (x : ((Unit × (Int × ((List THeld) × TCombo))) × (TEngine × Unit))) : Option (((Unit × (Int × Unit)) × (TEngine × Unit)) ⊕ ((Bool × Unit) × Unit)) := loopF (fun x : ((Unit × (Int × ((List THeld) × TCombo))) × (TEngine × Unit)) => impl_IsEngine_11_R x.1.1 x.1.2.1 x.1.2.2.1 x.1.2.2.2.1 x.1.2.2.2.2.1 x.2.1) x
noncomputable def impl_IsEngine (a0 : TEngine) : Option (Bool × Unit) :=
 (Option.bind (impl_IsKeymap a0.1) fun r1 =>
 (cond (!r1.1)
 (some (false, ()))
 (cond (decide (((List.length a0.2.1 : Nat) : Int) > (4 : Int)))
 (some (false, ()))
 (Option.bind (impl_IsHeld a0.2.2.2.1) fun r2 =>
 (cond (!r2.1)
 (some (false, ()))
 (cond (decide (a0.2.2.2.2.1 < (0 : Int)))
 (some (false, ()))
 (cond (decide (a0.2.2.2.2.1 > (15 : Int)))
 (some (false, ()))
 (Option.bind (impl_IsEngine_4_loop (((), a0.2.1, ((List.length a0.2.1 : Nat) : Int), (0 : Int), ()), (a0, ()))) (Sum.elim (fun y9 => (Option.bind (impl_IsEngine_11_loop (((), ((List.length y9.2.1.1.2.1 : Nat) : Int), y9.2.1.2.2.2.1, ((List.length y9.2.1.2.2.2.1 : Nat) : Int), (0 : Int), ()), (y9.2.1, ()))) (Sum.elim (fun y14 => (cond (decide (y14.2.1.2.2.1 ≥ (0 : Int)))
 (cond ((2 : Int) == (0 : Int))
 none
 (cond ((Int.tmod y14.2.1.2.2.1 (2 : Int)) == (0 : Int))
 (cond (decide ((0 : Int) ≤ y14.1.2.1))
 (some ((decide (y14.2.1.2.2.1 < (ishl .i64 (1 : Int) y14.1.2.1))), ()))
 none)
 (some (false, ()))))
 (some (false, ())))) (fun z15 => (some (z15.1.1, ())))))) (fun z10 => (some (z10.1.1, ()))))))))))))

noncomputable def impl_NewEngine (a0 : TKeymap) (a1 : (List (List TStep))) : Option (TEngine × (Bool × Unit)) :=
 (Option.bind (impl_copyKeymap a0) fun r1 =>
 (Option.bind (impl_copyMacros a1) fun r2 =>
 (Option.bind (impl_IsEngine (r1.1, r2.1, (0 : Int), ([] : List THeld), (0 : Int), false, ())) fun r3 =>
 (cond (!r3.1)
 (some ((((0 : Int), ([] : List (List TAction)), ()), ([] : List (List TStep)), (0 : Int), ([] : List THeld), (0 : Int), false, ()), false, ()))
 (some ((r1.1, r2.1, (0 : Int), ([] : List THeld), (0 : Int), false, ()), true, ()))))))

noncomputable def impl_copyEngine (a0 : TEngine) : Option (TEngine × Unit) :=
 (Option.bind (impl_copyKeymap a0.1) fun r1 =>
 (Option.bind (impl_copyMacros a0.2.1) fun r2 =>
 (cond (Nat.ble (List.length ([] : List THeld) + List.length a0.2.2.2.1) lim)
 (some ((r1.1, r2.1, a0.2.2.1, (List.append ([] : List THeld) a0.2.2.2.1), a0.2.2.2.2), ()))
 none)))

noncomputable def impl_IsTiming (a0 : TStep) : Option (Bool × Unit) :=
 (cond (decide (a0.1 ≥ (1 : Int)))
 (cond (decide (a0.1 ≤ (1000 : Int)))
 (cond (decide (a0.2.1 ≥ (0 : Int)))
 (cond (decide (a0.2.1 ≤ (1000 : Int)))
 (cond (decide (a0.2.2.1 ≥ (0 : Int)))
 (some ((decide (a0.2.2.1 ≤ (2 : Int))), ()))
 (some (false, ())))
 (some (false, ())))
 (some (false, ())))
 (some (false, ())))
 (some (false, ())))

noncomputable def impl_heldMask_3_R (t3 : Int) (t6 : (List THeld)) (t7 : Int) (t8 : Int) : Option (((Int × ((List THeld) × TCombo)) × Unit) ⊕ (((Int × Unit) × Unit) ⊕ (Unit × Unit))) :=
 (cond (decide (t8 < t7))
 (Option.bind (idx t6 t8) fun x3 =>
 (cond (decide ((0 : Int) ≤ x3.1))
 (some (.inl (((ior .i64 t3 (ishl .i64 (1 : Int) x3.1)), t6, t7, (Go.IntKind.wrap .i64 (t8 + (1 : Int))), ()), ())))
 none))
 (some (.inr (.inl ((t3, ()), ())))))
noncomputable def impl_heldMask_3_loop (x : ((Int × ((List THeld) × TCombo)) × Unit)) : Option (((Int × Unit) × Unit) ⊕ (Unit × Unit)) := loopF (fun x : ((Int × ((List THeld) × TCombo)) × Unit) => impl_heldMask_3_R x.1.1 x.1.2.1 x.1.2.2.1 x.1.2.2.2.1) x
noncomputable def impl_heldMask (a0 : (List THeld)) : Option (Int × Unit) :=
 (Option.bind (impl_heldMask_3_loop (((0 : Int), a0, ((List.length a0 : Nat) : Int), (0 : Int), ()), ())) (Sum.elim (fun y4 => (some (y4.1.1, ()))) (fun z5 => none)))

noncomputable def impl_IsEvent (a0 : TEvent) : Option (Bool × Unit) :=
 (cond (decide (a0.1 ≥ (0 : Int)))
 (cond (decide (a0.1 ≤ (1000000 : Int)))
 (cond (decide (a0.2.1 ≥ (0 : Int)))
 (some ((decide (a0.2.1 ≤ (31 : Int))), ()))
 (some (false, ())))
 (some (false, ())))
 (some (false, ())))

noncomputable def impl_follow_4_R (t0 : (List TEvent)) (t1 : Int) (t11 : (List TEvent)) (t12 : Int) (t13 : Int) : Option ((((List TEvent) × (Int × ((List TEvent) × TCombo))) × Unit) ⊕ (((Int × Unit) × Unit) ⊕ ((Int × (Bool × Unit)) × Unit))) :=
 (cond (decide (t13 < t12))
 (Option.bind (idx t11 t13) fun x11 =>
 (Option.bind (impl_IsEvent x11) fun r12 =>
 (cond (!r12.1)
 (some (.inr (.inr (((0 : Int), false, ()), ()))))
 (cond (decide (t13 > (0 : Int)))
 (Option.bind (idx t0 (Go.IntKind.wrap .i64 (t13 - (1 : Int)))) fun x13 =>
 (cond (decide (x13.1 > x11.1))
 (some (.inr (.inr (((0 : Int), false, ()), ()))))
 (Option.bind (impl_bit t1 x11.2.1) fun r14 =>
 (cond (x11.2.2.1 == (r14.1 == (1 : Int)))
 (some (.inr (.inr (((0 : Int), false, ()), ()))))
 (cond (decide ((0 : Int) ≤ x11.2.1))
 (some (.inl ((t0, (ixor .i64 t1 (ishl .i64 (1 : Int) x11.2.1)), t11, t12, (Go.IntKind.wrap .i64 (t13 + (1 : Int))), ()), ())))
 none)))))
 (Option.bind (impl_bit t1 x11.2.1) fun r15 =>
 (cond (x11.2.2.1 == (r15.1 == (1 : Int)))
 (some (.inr (.inr (((0 : Int), false, ()), ()))))
 (cond (decide ((0 : Int) ≤ x11.2.1))
 (some (.inl ((t0, (ixor .i64 t1 (ishl .i64 (1 : Int) x11.2.1)), t11, t12, (Go.IntKind.wrap .i64 (t13 + (1 : Int))), ()), ())))
 none)))))))
 (some (.inr (.inl ((t1, ()), ())))))
noncomputable def impl_follow_4_loop (x : (((List TEvent) × (Int × ((List TEvent) × TCombo))) × Unit)) : Option (((Int × Unit) × Unit) ⊕ ((Int × (Bool × Unit)) × Unit)) := loopF (fun x : (((List TEvent) × (Int × ((List TEvent) × TCombo))) × Unit) => impl_follow_4_R x.1.1 x.1.2.1 x.1.2.2.1 x.1.2.2.2.1 x.1.2.2.2.2.1) x
noncomputable def impl_follow (a0 : (List TEvent)) (a1 : Int) : Option (Int × (Bool × Unit)) :=
 (cond (decide (((List.length a0 : Nat) : Int) > (64 : Int)))
 (some ((0 : Int), false, ()))
 (Option.bind (impl_follow_4_loop ((a0, a1, a0, ((List.length a0 : Nat) : Int), (0 : Int), ()), ())) (Sum.elim (fun y16 => (some (y16.1.1, true, ()))) (fun z17 => (some (z17.1.1, z17.1.2.1, ()))))))

noncomputable def impl_queueFits_2_R (t0 : (List TEvent)) (t1 : Int) (t2 : Int) (t11 : (List TEvent)) (t12 : Int) (t13 : Int) : Option ((((List TEvent) × (Int × (Int × ((List TEvent) × TCombo)))) × Unit) ⊕ ((((List TEvent) × (Int × Unit)) × Unit) ⊕ ((Bool × Unit) × Unit))) :=
 (cond (decide (t13 < t12))
 (Option.bind (idx t11 t13) fun x3 =>
 (cond (decide (x3.2.1 ≥ t2))
 (some (.inr (.inr ((false, ()), ()))))
 (some (.inl ((t0, t1, t2, t11, t12, (Go.IntKind.wrap .i64 (t13 + (1 : Int))), ()), ())))))
 (some (.inr (.inl ((t0, t1, ()), ())))))
noncomputable def impl_queueFits_2_loop (x : (((List TEvent) × (Int × (Int × ((List TEvent) × TCombo)))) × Unit)) : Option ((((List TEvent) × (Int × Unit)) × Unit) ⊕ ((Bool × Unit) × Unit)) := loopF (fun x : (((List TEvent) × (Int × (Int × ((List TEvent) × TCombo)))) × Unit) => impl_queueFits_2_R x.1.1 x.1.2.1 x.1.2.2.1 x.1.2.2.2.1 x.1.2.2.2.2.1 x.1.2.2.2.2.2.1) x
noncomputable def impl_queueFits (a0 : (List TEvent)) (a1 : Int) (a2 : Int) : Option (Bool × Unit) :=
 (Option.bind (impl_queueFits_2_loop ((a0, a1, a2, a0, ((List.length a0 : Nat) : Int), (0 : Int), ()), ())) (Sum.elim (fun y4 => (Option.bind (impl_follow y4.1.1 y4.1.2.1) fun r6 =>
 (some (r6.2.1, ())))) (fun z5 => (some (z5.1.1, ())))))

noncomputable def impl_notBehind (a0 : (List TEvent)) (a1 : Int) : Option (Bool × Unit) :=
 (cond (((List.length a0 : Nat) : Int) == (0 : Int))
 (some (true, ()))
 (Option.bind (idx a0 (Go.IntKind.wrap .i64 (((List.length a0 : Nat) : Int) - (1 : Int)))) fun x1 =>
 (some ((decide (x1.1 ≤ a1)), ()))))

noncomputable def impl_IsDecider (a0 : TDecider) : Option (Bool × Unit) :=
 (Option.bind (impl_IsEngine a0.1) fun r1 =>
 (cond (!r1.1)
 (some (false, ()))
 (Option.bind (impl_IsTiming a0.2.1) fun r2 =>
 (cond (!r2.1)
 (some (false, ()))
 (cond (decide (a0.2.2.2.1 < (0 : Int)))
 (some (false, ()))
 (cond (decide (a0.2.2.2.1 > (1000000 : Int)))
 (some (false, ()))
 (cond (decide (a0.2.2.2.2.1 < (0 : Int)))
 (some (false, ()))
 (cond (decide (a0.2.2.2.2.1 > a0.2.2.2.1))
 (some (false, ()))
 (Option.bind (impl_heldMask a0.1.2.2.2.1) fun r3 =>
 (Option.bind (impl_queueFits a0.2.2.1 r3.1 a0.1.1.1) fun r4 =>
 (cond (!r4.1)
 (some (false, ()))
 (Option.bind (impl_notBehind a0.2.2.1 a0.2.2.2.1) fun r5 =>
 (cond (!r5.1)
 (some (false, ()))
 (cond (decide (a0.2.2.2.2.2.1 ≥ (0 : Int)))
 (cond (decide (a0.2.2.2.2.2.1 ≤ a0.1.1.1))
 (cond (decide (a0.2.2.2.2.2.2.1 ≥ (0 : Int)))
 (some ((decide (a0.2.2.2.2.2.2.1 ≤ a0.2.2.2.1)), ()))
 (some (false, ())))
 (some (false, ())))
 (some (false, ()))))))))))))))))

noncomputable def impl_copyDecider (a0 : TDecider) : Option (TDecider × Unit) :=
 (Option.bind (impl_copyEngine a0.1) fun r1 =>
 (cond (Nat.ble (List.length ([] : List TEvent) + List.length a0.2.2.1) lim)
 (some ((r1.1, a0.2.1, (List.append ([] : List TEvent) a0.2.2.1), a0.2.2.2), ()))
 none))

noncomputable def impl_HeldAt_2_R (t1 : Int) (t8 : (List THeld)) (t9 : Int) (t10 : Int) : Option (((Int × ((List THeld) × TCombo)) × Unit) ⊕ ((Unit × Unit) ⊕ ((Int × Unit) × Unit))) :=
 (cond (decide (t10 < t9))
 (Option.bind (idx t8 t10) fun x3 =>
 (cond (x3.1 == t1)
 (some (.inr (.inr ((t10, ()), ()))))
 (some (.inl ((t1, t8, t9, (Go.IntKind.wrap .i64 (t10 + (1 : Int))), ()), ())))))
 (some (.inr (.inl ((), ())))))
noncomputable def impl_HeldAt_2_loop (x : ((Int × ((List THeld) × TCombo)) × Unit)) : Option ((Unit × Unit) ⊕ ((Int × Unit) × Unit)) := loopF (fun x : ((Int × ((List THeld) × TCombo)) × Unit) => impl_HeldAt_2_R x.1.1 x.1.2.1 x.1.2.2.1 x.1.2.2.2.1) x
noncomputable def impl_HeldAt (a0 : TEngine) (a1 : Int) : Option (Int × Unit) :=
 (Option.bind (impl_HeldAt_2_loop ((a1, a0.2.2.2.1, ((List.length a0.2.2.2.1 : Nat) : Int), (0 : Int), ()), ())) (Sum.elim (fun y4 => (some ((-1 : Int), ()))) (fun z5 => (some (z5.1.1, ())))))

noncomputable def sort_Ints (x0 : (List Int)) : Option ((List Int) × Unit) := srt x0

noncomputable def impl_hasInt_2_R (t1 : Int) (t7 : (List Int)) (t8 : Int) (t9 : Int) : Option (((Int × ((List Int) × TCombo)) × Unit) ⊕ ((Unit × Unit) ⊕ ((Bool × Unit) × Unit))) :=
 (cond (decide (t9 < t8))
 (Option.bind (idx t7 t9) fun x3 =>
 (cond (x3 == t1)
 (some (.inr (.inr ((true, ()), ()))))
 (some (.inl ((t1, t7, t8, (Go.IntKind.wrap .i64 (t9 + (1 : Int))), ()), ())))))
 (some (.inr (.inl ((), ())))))
noncomputable def impl_hasInt_2_loop (x : ((Int × ((List Int) × TCombo)) × Unit)) : Option ((Unit × Unit) ⊕ ((Bool × Unit) × Unit)) := loopF (fun x : ((Int × ((List Int) × TCombo)) × Unit) => impl_hasInt_2_R x.1.1 x.1.2.1 x.1.2.2.1 x.1.2.2.2.1) x
noncomputable def impl_hasInt (a0 : (List Int)) (a1 : Int) : Option (Bool × Unit) :=
 (Option.bind (impl_hasInt_2_loop ((a1, a0, ((List.length a0 : Nat) : Int), (0 : Int), ()), ())) (Sum.elim (fun y4 => (some (false, ()))) (fun z5 => (some (z5.1.1, ())))))

noncomputable def impl_codesOf_5_R (t4 : (List Int)) (t11 : (List Int)) (t12 : Int) (t13 : Int) : Option ((((List Int) × ((List Int) × TCombo)) × Unit) ⊕ ((((List Int) × Unit) × Unit) ⊕ (Unit × Unit))) :=
 (cond (decide (t13 < t12))
 (cond (inb (List.length t11) t13)
 (Option.bind t11[(Int.toNat t13)]? fun x9 =>
 (cond (x9 != (0 : Int))
 (Option.bind (impl_hasInt t4 x9) fun r10 =>
 (cond (!r10.1)
 (cond (Nat.ble (List.length t4 + List.length ([x9] : List Int)) lim)
 (some (.inl (((List.append t4 ([x9] : List Int)), t11, t12, (Go.IntKind.wrap .i64 (t13 + (1 : Int))), ()), ())))
 none)
 (some (.inl ((t4, t11, t12, (Go.IntKind.wrap .i64 (t13 + (1 : Int))), ()), ())))))
 (some (.inl ((t4, t11, t12, (Go.IntKind.wrap .i64 (t13 + (1 : Int))), ()), ())))))
 none)
 (some (.inr (.inl ((t4, ()), ())))))
noncomputable def impl_codesOf_5_loop (x : (((List Int) × ((List Int) × TCombo)) × Unit)) : Option ((((List Int) × Unit) × Unit) ⊕ (Unit × Unit)) := loopF (fun x : (((List Int) × ((List Int) × TCombo)) × Unit) => impl_codesOf_5_R x.1.1 x.1.2.1 x.1.2.2.1 x.1.2.2.2.1) x
noncomputable def impl_codesOf (a0 : (List Int)) : Option ((List Int) × Unit) :=
 (Option.bind (impl_copyInts a0) fun r1 =>
 (Option.bind (sort_Ints r1.1) fun r2 =>
 (Option.bind (impl_codesOf_5_loop ((([] : List Int), r2.1, ((List.length r2.1 : Nat) : Int), (0 : Int), ()), ())) (Sum.elim (fun y11 => (some (y11.1.1, ()))) (fun z12 => none)))))

noncomputable def impl_ReportOf_6_R (t2 : Unit) (t3 : Unit) (t4 : (List Int)) (t11 : (List THeld)) (t12 : Int) (t13 : Int) (b2 : TReport) (b3 : TReport) : Option (((Unit × (Unit × ((List Int) × ((List THeld) × TCombo)))) × (TReport × (TReport × Unit))) ⊕ (((Unit × (Unit × ((List Int) × Unit))) × (TReport × (TReport × Unit))) ⊕ (Unit × Unit))) :=
 (cond (decide (t13 < t12))
 (Option.bind (idx t11 t13) fun x5 =>
 (cond (x5.2.1.1 == (2 : Int))
 (cond (Nat.ble (List.length t4 + List.length ([x5.2.1.2.1] : List Int)) lim)
 (some (.inl (((), (), (List.append t4 ([x5.2.1.2.1] : List Int)), t11, t12, (Go.IntKind.wrap .i64 (t13 + (1 : Int))), ()), ((b2.1, b2.2.1, ()), ((ior .i64 b3.1 x5.2.1.2.2.1), b3.2.1, ()), ()))))
 none)
 (cond (x5.2.1.1 == (8 : Int))
 (cond (Nat.ble (List.length t4 + List.length ([x5.2.1.2.1] : List Int)) lim)
 (some (.inl (((), (), (List.append t4 ([x5.2.1.2.1] : List Int)), t11, t12, (Go.IntKind.wrap .i64 (t13 + (1 : Int))), ()), ((b2.1, b2.2.1, ()), ((ior .i64 b3.1 x5.2.1.2.2.1), b3.2.1, ()), ()))))
 none)
 (cond (Nat.ble (List.length t4 + List.length ([x5.2.1.2.1] : List Int)) lim)
 (some (.inl (((), (), (List.append t4 ([x5.2.1.2.1] : List Int)), t11, t12, (Go.IntKind.wrap .i64 (t13 + (1 : Int))), ()), ((b2.1, b2.2.1, ()), (b3.1, b3.2.1, ()), ()))))
 none))))
 (some (.inr (.inl (((), (), t4, ()), ((b2.1, b2.2.1, ()), (b3.1, b3.2.1, ()), ()))))))
noncomputable def impl_ReportOf_6_loop (x : ((Unit × (Unit × ((List Int) × ((List THeld) × TCombo)))) × (TReport × (TReport × Unit)))) : Option (((Unit × (Unit × ((List Int) × Unit))) × (TReport × (TReport × Unit))) ⊕ (Unit × Unit)) := loopF (fun x : ((Unit × (Unit × ((List Int) × ((List THeld) × TCombo)))) × (TReport × (TReport × Unit))) => impl_ReportOf_6_R x.1.1 x.1.2.1 x.1.2.2.1 x.1.2.2.2.1 x.1.2.2.2.2.1 x.1.2.2.2.2.2.1 x.2.1 x.2.2.1) x
noncomputable def impl_ReportOf (a0 : (List THeld)) : Option (TReport × Unit) :=
 (Option.bind (impl_IsHeld a0) fun r1 =>
 (cond (!r1.1)
 (some (((0 : Int), ([] : List Int), ()), ()))
 (Option.bind (impl_ReportOf_6_loop (((), (), ([] : List Int), a0, ((List.length a0 : Nat) : Int), (0 : Int), ()), (((0 : Int), ([] : List Int), ()), ((0 : Int), ([] : List Int), ()), ()))) (Sum.elim (fun y6 => (Option.bind (impl_codesOf y6.1.2.2.1) fun r8 =>
 (some ((y6.2.2.1.1, r8.1, ()), ())))) (fun z7 => none)))))

noncomputable def impl_sameInts_4_R (t0 : (List Int)) (t1 : (List Int)) (t12 : Int) (t13 : Int) : Option ((((List Int) × ((List Int) × TCombo)) × Unit) ⊕ ((Unit × Unit) ⊕ ((Bool × Unit) × Unit))) :=
 (cond (decide (t13 < t12))
 (Option.bind (idx t0 t13) fun x5 =>
 (Option.bind (idx t1 t13) fun x6 =>
 (cond (x5 != x6)
 (some (.inr (.inr ((false, ()), ()))))
 (some (.inl ((t0, t1, t12, (Go.IntKind.wrap .i64 (t13 + (1 : Int))), ()), ()))))))
 (some (.inr (.inl ((), ())))))
noncomputable def impl_sameInts_4_loop (x : (((List Int) × ((List Int) × TCombo)) × Unit)) : Option ((Unit × Unit) ⊕ ((Bool × Unit) × Unit)) := loopF (fun x : (((List Int) × ((List Int) × TCombo)) × Unit) => impl_sameInts_4_R x.1.1 x.1.2.1 x.1.2.2.1 x.1.2.2.2.1) x
noncomputable def impl_sameInts (a0 : (List Int)) (a1 : (List Int)) : Option (Bool × Unit) :=
 (cond (((List.length a0 : Nat) : Int) != ((List.length a1 : Nat) : Int))
 (some (false, ()))
 (Option.bind (impl_sameInts_4_loop ((a0, a1, ((List.length a0 : Nat) : Int), (0 : Int), ()), ())) (Sum.elim (fun y7 => (some (true, ()))) (fun z8 => (some (z8.1.1, ()))))))

noncomputable def impl_SameReport (a0 : TReport) (a1 : TReport) : Option (Bool × Unit) :=
 (cond (a0.1 == a1.1)
 (Option.bind (impl_sameInts a0.2.1 a1.2.1) fun r1 =>
 (some (r1.1, ())))
 (some (false, ())))

def sameR (a b : TReport) : Bool := (a.1 == b.1) && (a.2.1 == b.2.1)
noncomputable def SameO (c : T rpO → T rpO → Option Bool) (a b : T rpO) : Option (Bool × Unit) := Option.bind (c a b) fun x => some (x, ())
noncomputable def chgo_3_R (c : T rpO → T rpO → Option Bool) (t2 : Unit) (t5 : (List (Int × ((T .o) × Unit)))) (t8 : (List (Int × ((T .o) × Unit)))) (t9 : Int) (t10 : Int) (b2 : (Int × ((T .o) × Unit))) : Option (((Unit × ((List (Int × ((T .o) × Unit))) × ((List (Int × ((T .o) × Unit))) × TCombo))) × ((Int × ((T .o) × Unit)) × Unit)) ⊕ ((((List (Int × ((T .o) × Unit))) × Unit) × Unit) ⊕ (Unit × Unit))) :=
 (cond (decide (t10 < t9))
 (Option.bind (idx t8 t10) fun x7 =>
 (Option.bind (SameO c b2 x7) fun r8 =>
 (cond (!r8.1)
 (cond (Nat.ble (List.length t5 + List.length ([x7] : List (Int × ((T .o) × Unit)))) lim)
 (some (.inl (((), (List.append t5 ([x7] : List (Int × ((T .o) × Unit)))), t8, t9, (Go.IntKind.wrap .i64 (t10 + (1 : Int))), ()), (x7, ()))))
 none)
 (some (.inl (((), t5, t8, t9, (Go.IntKind.wrap .i64 (t10 + (1 : Int))), ()), (x7, ())))))))
 (some (.inr (.inl ((t5, ()), ())))))
noncomputable def chgo_3_loop (c : T rpO → T rpO → Option Bool) (x : ((Unit × ((List (Int × ((T .o) × Unit))) × ((List (Int × ((T .o) × Unit))) × TCombo))) × ((Int × ((T .o) × Unit)) × Unit))) : Option ((((List (Int × ((T .o) × Unit))) × Unit) × Unit) ⊕ (Unit × Unit)) := loopF (fun x : ((Unit × ((List (Int × ((T .o) × Unit))) × ((List (Int × ((T .o) × Unit))) × TCombo))) × ((Int × ((T .o) × Unit)) × Unit)) => chgo_3_R c x.1.1 x.1.2.1 x.1.2.2.1 x.1.2.2.2.1 x.1.2.2.2.2.1 x.2.1) x
noncomputable def chgo (c : T rpO → T rpO → Option Bool) (a0 : (Int × ((T .o) × Unit))) (a1 : (List (Int × ((T .o) × Unit)))) : Option ((List (Int × ((T .o) × Unit))) × Unit) :=
 (Option.bind (chgo_3_loop c (((), ([] : List (Int × ((T .o) × Unit))), a1, ((List.length a1 : Nat) : Int), (0 : Int), ()), (a0, ()))) (Sum.elim (fun y9 => (some (y9.1.1, ()))) (fun z10 => none)))
noncomputable def impl_changedReports (a0 : TReport) (a1 : List TReport) : Option ((List TReport) × Unit) := chgF sameR a0 a1

noncomputable def impl_release (a0 : TEngine) (a1 : Int) : Option (TEngine × ((List TReport) × Unit)) :=
 (Option.bind (impl_copyEngine a0) fun r1 =>
 (Option.bind (impl_HeldAt a0 a1) fun r2 =>
 (cond (cutOk (List.length r1.1.2.2.2.1) (0 : Int) r2.1)
 (cond (cutOk (List.length r1.1.2.2.2.1) (Go.IntKind.wrap .i64 (r2.1 + (1 : Int))) ((List.length r1.1.2.2.2.1 : Nat) : Int))
 (cond (Nat.ble (List.length (cutl r1.1.2.2.2.1 (Int.toNat (0 : Int)) (Int.toNat r2.1)) + List.length (cutl r1.1.2.2.2.1 (Int.toNat (Go.IntKind.wrap .i64 (r2.1 + (1 : Int)))) (Int.toNat ((List.length r1.1.2.2.2.1 : Nat) : Int)))) lim)
 (Option.bind (impl_ReportOf a0.2.2.2.1) fun r3 =>
 (Option.bind (impl_ReportOf (List.append (cutl r1.1.2.2.2.1 (Int.toNat (0 : Int)) (Int.toNat r2.1)) (cutl r1.1.2.2.2.1 (Int.toNat (Go.IntKind.wrap .i64 (r2.1 + (1 : Int)))) (Int.toNat ((List.length r1.1.2.2.2.1 : Nat) : Int))))) fun r4 =>
 (Option.bind (impl_changedReports r3.1 ([r4.1] : List TReport)) fun r5 =>
 (some ((r1.1.1, r1.1.2.1, r1.1.2.2.1, (List.append (cutl r1.1.2.2.2.1 (Int.toNat (0 : Int)) (Int.toNat r2.1)) (cutl r1.1.2.2.2.1 (Int.toNat (Go.IntKind.wrap .i64 (r2.1 + (1 : Int)))) (Int.toNat ((List.length r1.1.2.2.2.1 : Nat) : Int)))), r1.1.2.2.2.2), r5.1, ())))))
 none)
 none)
 none)))

noncomputable def impl_LayersOn_7_R (t5 : Int) (t21 : (List THeld)) (t22 : Int) (t23 : Int) : Option (((Int × ((List THeld) × TCombo)) × Unit) ⊕ (((Int × Unit) × Unit) ⊕ (Unit × Unit))) :=
 (cond (decide (t23 < t22))
 (Option.bind (idx t21 t23) fun x16 =>
 (cond (x16.2.1.1 == (3 : Int))
 (cond (decide ((0 : Int) ≤ x16.2.1.2.2.2.1))
 (some (.inl (((ior .i64 t5 (ishl .i64 (1 : Int) x16.2.1.2.2.2.1)), t21, t22, (Go.IntKind.wrap .i64 (t23 + (1 : Int))), ()), ())))
 none)
 (some (.inl ((t5, t21, t22, (Go.IntKind.wrap .i64 (t23 + (1 : Int))), ()), ())))))
 (some (.inr (.inl ((t5, ()), ())))))
noncomputable def impl_LayersOn_7_loop (x : ((Int × ((List THeld) × TCombo)) × Unit)) : Option (((Int × Unit) × Unit) ⊕ (Unit × Unit)) := loopF (fun x : ((Int × ((List THeld) × TCombo)) × Unit) => impl_LayersOn_7_R x.1.1 x.1.2.1 x.1.2.2.1 x.1.2.2.2.1) x
noncomputable def impl_LayersOn (a0 : Int) (a1 : (List THeld)) : Option (Int × Unit) :=
 (cond (decide (a0 ≥ (0 : Int)))
 (cond (decide (a0 ≤ (15 : Int)))
 (Option.bind (impl_IsHeld a1) fun r1 =>
 (cond (!r1.1)
 (some ((ior .i64 (1 : Int) a0), ()))
 (Option.bind (impl_LayersOn_7_loop (((ior .i64 (1 : Int) a0), a1, ((List.length a1 : Nat) : Int), (0 : Int), ()), ())) (Sum.elim (fun y5 => (some (y5.1.1, ()))) (fun z6 => none)))))
 (Option.bind (impl_IsHeld a1) fun r7 =>
 (cond (!r7.1)
 (some ((1 : Int), ()))
 (Option.bind (impl_LayersOn_7_loop (((1 : Int), a1, ((List.length a1 : Nat) : Int), (0 : Int), ()), ())) (Sum.elim (fun y11 => (some (y11.1.1, ()))) (fun z12 => none))))))
 (Option.bind (impl_IsHeld a1) fun r13 =>
 (cond (!r13.1)
 (some ((1 : Int), ()))
 (Option.bind (impl_LayersOn_7_loop (((1 : Int), a1, ((List.length a1 : Nat) : Int), (0 : Int), ()), ())) (Sum.elim (fun y17 => (some (y17.1.1, ()))) (fun z18 => none))))))

noncomputable def impl_layerAt_2_R (t1 : Int) (t2 : Int) (t3 : Unit) (t7 : Int) (b3 : TKeymap) : Option (((Int × (Int × (Unit × (Int × Unit)))) × (TKeymap × Unit)) ⊕ ((Unit × Unit) ⊕ ((Int × Unit) × Unit))) :=
 (cond (decide (t7 > (0 : Int)))
 (Option.bind (impl_bit t1 t7) fun r7 =>
 (cond (r7.1 == (1 : Int))
 (Option.bind (idx b3.2.1 t7) fun x8 =>
 (Option.bind (idx x8 t2) fun x9 =>
 (cond (x9.1 != (1 : Int))
 (some (.inr (.inr ((t7, ()), ()))))
 (some (.inl ((t1, t2, (), (Go.IntKind.wrap .i64 (t7 - (1 : Int))), ()), (b3, ())))))))
 (some (.inl ((t1, t2, (), (Go.IntKind.wrap .i64 (t7 - (1 : Int))), ()), (b3, ()))))))
 (some (.inr (.inl ((), ())))))
noncomputable def impl_layerAt_2_loop (x : ((Int × (Int × (Unit × (Int × Unit)))) × (TKeymap × Unit))) : Option ((Unit × Unit) ⊕ ((Int × Unit) × Unit)) := loopF (fun x : ((Int × (Int × (Unit × (Int × Unit)))) × (TKeymap × Unit)) => impl_layerAt_2_R x.1.1 x.1.2.1 x.1.2.2.1 x.1.2.2.2.1 x.2.1) x
noncomputable def impl_layerAt (a0 : TKeymap) (a1 : Int) (a2 : Int) : Option (Int × Unit) :=
 (Option.bind (impl_layerAt_2_loop ((a1, a2, (), (Go.IntKind.wrap .i64 (((List.length a0.2.1 : Nat) : Int) - (1 : Int))), ()), (a0, ()))) (Sum.elim (fun y10 => (some ((0 : Int), ()))) (fun z11 => (some (z11.1.1, ())))))

noncomputable def impl_HoldOf (a0 : TAction) : Option (TAction × Unit) :=
 (Option.bind (impl_IsTapHold a0) fun r1 =>
 (cond (!r1.1)
 (some (a0, ()))
 (cond (a0.1 == (6 : Int))
 (some (((2 : Int), (0 : Int), a0.2.2.1, (0 : Int), ()), ()))
 (some (((3 : Int), (0 : Int), (0 : Int), a0.2.2.2.1, ()), ())))))

noncomputable def impl_IsWordCode (a0 : Int) : Option (Bool × Unit) :=
 (cond (decide (a0 ≥ (1 : Int)))
 (cond (decide (a0 ≤ (36 : Int)))
 (some (true, ()))
 (cond (a0 == (39 : Int))
 (some (true, ()))
 (some ((a0 == (42 : Int)), ()))))
 (cond (a0 == (39 : Int))
 (some (true, ()))
 (some ((a0 == (42 : Int)), ()))))

noncomputable def impl_settle (a0 : TEngine) (a1 : TAction) : Option (TEngine × (TAction × Unit)) :=
 (cond (a1.1 == (2 : Int))
 (cond (a1.2.1 == (0 : Int))
 (some (a0, (a1, ())))
 (cond a0.2.2.2.2.2.1
 (Option.bind (impl_IsWordCode a1.2.1) fun r1 =>
 (cond r1.1
 (cond (decide (a1.2.1 ≤ (26 : Int)))
 (cond ((iandn .i64 (ior .i64 a1.2.2.1 a0.2.2.2.2.1) (2 : Int)) == (0 : Int))
 (some ((a0.1, a0.2.1, a0.2.2.1, a0.2.2.2.1, (0 : Int), r1.1, a0.2.2.2.2.2.2), ((a1.1, a1.2.1, (2 : Int), a1.2.2.2), ())))
 (some ((a0.1, a0.2.1, a0.2.2.1, a0.2.2.2.1, (0 : Int), r1.1, a0.2.2.2.2.2.2), ((a1.1, a1.2.1, (ior .i64 a1.2.2.1 a0.2.2.2.2.1), a1.2.2.2), ()))))
 (some ((a0.1, a0.2.1, a0.2.2.1, a0.2.2.2.1, (0 : Int), r1.1, a0.2.2.2.2.2.2), ((a1.1, a1.2.1, (ior .i64 a1.2.2.1 a0.2.2.2.2.1), a1.2.2.2), ()))))
 (some ((a0.1, a0.2.1, a0.2.2.1, a0.2.2.2.1, (0 : Int), r1.1, a0.2.2.2.2.2.2), ((a1.1, a1.2.1, (ior .i64 a1.2.2.1 a0.2.2.2.2.1), a1.2.2.2), ())))))
 (some ((a0.1, a0.2.1, a0.2.2.1, a0.2.2.2.1, (0 : Int), false, a0.2.2.2.2.2.2), ((a1.1, a1.2.1, (ior .i64 a1.2.2.1 a0.2.2.2.2.1), a1.2.2.2), ())))))
 (cond (a1.1 == (4 : Int))
 (cond (decide ((0 : Int) ≤ a1.2.2.2.1))
 (some ((a0.1, a0.2.1, (ixor .i64 a0.2.2.1 (ishl .i64 (1 : Int) a1.2.2.2.1)), a0.2.2.2), (a1, ())))
 none)
 (cond (a1.1 == (5 : Int))
 (cond (decide ((0 : Int) ≤ a1.2.2.2.1))
 (some ((a0.1, a0.2.1, (iandn .i64 (ishl .i64 (1 : Int) a1.2.2.2.1) (1 : Int)), a0.2.2.2), (a1, ())))
 none)
 (cond (a1.1 == (8 : Int))
 (cond ((iand .i64 a0.2.2.2.2.1 a1.2.2.1) == a1.2.2.1)
 (some ((a0.1, a0.2.1, a0.2.2.1, a0.2.2.2.1, (iandn .i64 a0.2.2.2.2.1 a1.2.2.1), a0.2.2.2.2.2), (a1, ())))
 (some ((a0.1, a0.2.1, a0.2.2.1, a0.2.2.2.1, (ior .i64 a0.2.2.2.2.1 a1.2.2.1), a0.2.2.2.2.2), (a1, ()))))
 (cond (a1.1 == (10 : Int))
 (some ((a0.1, a0.2.1, a0.2.2.1, a0.2.2.2.1, a0.2.2.2.2.1, (!a0.2.2.2.2.2.1), a0.2.2.2.2.2.2), (a1, ())))
 (some (a0, (a1, ()))))))))

noncomputable def impl_withPairs_4_R (t4 : Unit) (t5 : Unit) (t6 : (List Int)) (t15 : (List TCombo)) (t16 : Int) (t17 : Int) (b4 : TReport) (b5 : TReport) : Option (((Unit × (Unit × ((List Int) × ((List TCombo) × TCombo)))) × (TReport × (TReport × Unit))) ⊕ (((Unit × (Unit × ((List Int) × Unit))) × (TReport × (TReport × Unit))) ⊕ (Unit × Unit))) :=
 (cond (decide (t17 < t16))
 (Option.bind (idx t15 t17) fun x4 =>
 (cond (Nat.ble (List.length t6 + List.length ([x4.1] : List Int)) lim)
 (some (.inl (((), (), (List.append t6 ([x4.1] : List Int)), t15, t16, (Go.IntKind.wrap .i64 (t17 + (1 : Int))), ()), ((b4.1, b4.2.1, ()), ((ior .i64 b5.1 x4.2.1), b5.2.1, ()), ()))))
 none))
 (some (.inr (.inl (((), (), t6, ()), ((b4.1, b4.2.1, ()), (b5.1, b5.2.1, ()), ()))))))
noncomputable def impl_withPairs_4_loop (x : ((Unit × (Unit × ((List Int) × ((List TCombo) × TCombo)))) × (TReport × (TReport × Unit)))) : Option (((Unit × (Unit × ((List Int) × Unit))) × (TReport × (TReport × Unit))) ⊕ (Unit × Unit)) := loopF (fun x : ((Unit × (Unit × ((List Int) × ((List TCombo) × TCombo)))) × (TReport × (TReport × Unit))) => impl_withPairs_4_R x.1.1 x.1.2.1 x.1.2.2.1 x.1.2.2.2.1 x.1.2.2.2.2.1 x.1.2.2.2.2.2.1 x.2.1 x.2.2.1) x
noncomputable def impl_withPairs (a0 : TReport) (a1 : (List TCombo)) : Option (TReport × Unit) :=
 (Option.bind (impl_copyInts a0.2.1) fun r1 =>
 (Option.bind (impl_withPairs_4_loop (((), (), r1.1, a1, ((List.length a1 : Nat) : Int), (0 : Int), ()), (((0 : Int), ([] : List Int), ()), (a0.1, ([] : List Int), ()), ()))) (Sum.elim (fun y5 => (Option.bind (impl_codesOf y5.1.2.2.1) fun r7 =>
 (some ((y5.2.2.1.1, r7.1, ()), ())))) (fun z6 => none))))

noncomputable def impl_MacroReports_7_R (t5 : Unit) (t6 : (List TReport)) (t7 : (List TCombo)) (t22 : (List TStep)) (t23 : Int) (t24 : Int) (b5 : TReport) : Option (((Unit × ((List TReport) × ((List TCombo) × ((List TStep) × TCombo)))) × (TReport × Unit)) ⊕ ((((List TReport) × Unit) × Unit) ⊕ (Unit × Unit))) :=
 (cond (decide (t24 < t23))
 (Option.bind (idx t22 t24) fun x25 =>
 (cond (x25.1 == (0 : Int))
 (cond (Nat.ble (List.length ([] : List TCombo) + List.length t7) lim)
 (cond (Nat.ble (List.length (List.append ([] : List TCombo) t7) + List.length ([(x25.2.1, x25.2.2.1, ())] : List TCombo)) lim)
 (Option.bind (impl_withPairs (b5.1, b5.2.1, ()) (List.append (List.append ([] : List TCombo) t7) ([(x25.2.1, x25.2.2.1, ())] : List TCombo))) fun r26 =>
 (cond (Nat.ble (List.length t6 + List.length ([r26.1] : List TReport)) lim)
 (Option.bind (impl_withPairs (b5.1, b5.2.1, ()) t7) fun r27 =>
 (cond (Nat.ble (List.length (List.append t6 ([r26.1] : List TReport)) + List.length ([r27.1] : List TReport)) lim)
 (some (.inl (((), (List.append (List.append t6 ([r26.1] : List TReport)) ([r27.1] : List TReport)), t7, t22, t23, (Go.IntKind.wrap .i64 (t24 + (1 : Int))), ()), ((b5.1, b5.2.1, ()), ()))))
 none))
 none))
 none)
 none)
 (cond (x25.1 == (1 : Int))
 (cond (Nat.ble (List.length t7 + List.length ([(x25.2.1, x25.2.2.1, ())] : List TCombo)) lim)
 (Option.bind (impl_withPairs (b5.1, b5.2.1, ()) (List.append t7 ([(x25.2.1, x25.2.2.1, ())] : List TCombo))) fun r28 =>
 (cond (Nat.ble (List.length t6 + List.length ([r28.1] : List TReport)) lim)
 (some (.inl (((), (List.append t6 ([r28.1] : List TReport)), (List.append t7 ([(x25.2.1, x25.2.2.1, ())] : List TCombo)), t22, t23, (Go.IntKind.wrap .i64 (t24 + (1 : Int))), ()), ((b5.1, b5.2.1, ()), ()))))
 none))
 none)
 (cond (x25.1 == (2 : Int))
 (Option.bind (impl_pairAt t7 (x25.2.1, x25.2.2.1, ())) fun r29 =>
 (cond (cutOk (List.length t7) (0 : Int) r29.1)
 (cond (cutOk (List.length t7) (Go.IntKind.wrap .i64 (r29.1 + (1 : Int))) ((List.length t7 : Nat) : Int))
 (cond (Nat.ble (List.length (cutl t7 (Int.toNat (0 : Int)) (Int.toNat r29.1)) + List.length (cutl t7 (Int.toNat (Go.IntKind.wrap .i64 (r29.1 + (1 : Int)))) (Int.toNat ((List.length t7 : Nat) : Int)))) lim)
 (Option.bind (impl_withPairs (b5.1, b5.2.1, ()) (List.append (cutl t7 (Int.toNat (0 : Int)) (Int.toNat r29.1)) (cutl t7 (Int.toNat (Go.IntKind.wrap .i64 (r29.1 + (1 : Int)))) (Int.toNat ((List.length t7 : Nat) : Int))))) fun r30 =>
 (cond (Nat.ble (List.length t6 + List.length ([r30.1] : List TReport)) lim)
 (some (.inl (((), (List.append t6 ([r30.1] : List TReport)), (List.append (cutl t7 (Int.toNat (0 : Int)) (Int.toNat r29.1)) (cutl t7 (Int.toNat (Go.IntKind.wrap .i64 (r29.1 + (1 : Int)))) (Int.toNat ((List.length t7 : Nat) : Int)))), t22, t23, (Go.IntKind.wrap .i64 (t24 + (1 : Int))), ()), ((b5.1, b5.2.1, ()), ()))))
 none))
 none)
 none)
 none))
 (Option.bind (impl_withPairs (b5.1, b5.2.1, ()) t7) fun r31 =>
 (cond (Nat.ble (List.length t6 + List.length ([r31.1] : List TReport)) lim)
 (some (.inl (((), (List.append t6 ([r31.1] : List TReport)), t7, t22, t23, (Go.IntKind.wrap .i64 (t24 + (1 : Int))), ()), ((b5.1, b5.2.1, ()), ()))))
 none))))))
 (some (.inr (.inl ((t6, ()), ())))))
noncomputable def impl_MacroReports_7_loop (x : ((Unit × ((List TReport) × ((List TCombo) × ((List TStep) × TCombo)))) × (TReport × Unit))) : Option ((((List TReport) × Unit) × Unit) ⊕ (Unit × Unit)) := loopF (fun x : ((Unit × ((List TReport) × ((List TCombo) × ((List TStep) × TCombo)))) × (TReport × Unit)) => impl_MacroReports_7_R x.1.1 x.1.2.1 x.1.2.2.1 x.1.2.2.2.1 x.1.2.2.2.2.1 x.1.2.2.2.2.2.1 x.2.1) x
noncomputable def impl_MacroReports (a0 : (List THeld)) (a1 : (List TStep)) : Option ((List TReport) × Unit) :=
 (Option.bind (impl_IsHeld a0) fun r1 =>
 (cond (!r1.1)
 (some (([] : List TReport), ()))
 (Option.bind (impl_IsMacro a1) fun r2 =>
 (cond (!r2.1)
 (some (([] : List TReport), ()))
 (Option.bind (impl_ReportOf a0) fun r3 =>
 (Option.bind (impl_MacroReports_7_loop (((), ([] : List TReport), ([] : List TCombo), a1, ((List.length a1 : Nat) : Int), (0 : Int), ()), (r3.1, ()))) (Sum.elim (fun y32 => (some (y32.1.1, ()))) (fun z33 => none))))))))

noncomputable def impl_press (a0 : TEngine) (a1 : Int) (a2 : Bool) : Option (TEngine × ((List TReport) × Unit)) :=
 (Option.bind (impl_copyEngine a0) fun r1 =>
 (Option.bind (impl_LayersOn a0.2.2.1 a0.2.2.2.1) fun r2 =>
 (Option.bind (impl_layerAt a0.1 r2.1 a1) fun r3 =>
 (Option.bind (idx a0.1.2.1 r3.1) fun x4 =>
 (Option.bind (idx x4 a1) fun x5 =>
 (cond a2
 (Option.bind (impl_HoldOf x5) fun r6 =>
 (Option.bind (impl_settle r1.1 r6.1) fun r7 =>
 (cond (Nat.ble (List.length r7.1.2.2.2.1 + List.length ([(a1, r7.2.1, ())] : List THeld)) lim)
 (cond (r7.2.1.1 == (9 : Int))
 (cond (decide (r7.2.1.2.2.2.1 < ((List.length a0.2.1 : Nat) : Int)))
 (Option.bind (idx a0.2.1 r7.2.1.2.2.2.1) fun x8 =>
 (Option.bind (impl_MacroReports (List.append r7.1.2.2.2.1 ([(a1, r7.2.1, ())] : List THeld)) x8) fun r9 =>
 (Option.bind (impl_ReportOf (List.append r7.1.2.2.2.1 ([(a1, r7.2.1, ())] : List THeld))) fun r10 =>
 (cond (Nat.ble (List.length r9.1 + List.length ([r10.1] : List TReport)) lim)
 (Option.bind (impl_ReportOf a0.2.2.2.1) fun r11 =>
 (Option.bind (impl_changedReports r11.1 (List.append r9.1 ([r10.1] : List TReport))) fun r12 =>
 (some ((r7.1.1, r7.1.2.1, r7.1.2.2.1, (List.append r7.1.2.2.2.1 ([(a1, r7.2.1, ())] : List THeld)), r7.1.2.2.2.2), r12.1, ()))))
 none))))
 (Option.bind (impl_ReportOf (List.append r7.1.2.2.2.1 ([(a1, r7.2.1, ())] : List THeld))) fun r13 =>
 (cond (Nat.ble (List.length ([] : List TReport) + List.length ([r13.1] : List TReport)) lim)
 (Option.bind (impl_ReportOf a0.2.2.2.1) fun r14 =>
 (Option.bind (impl_changedReports r14.1 (List.append ([] : List TReport) ([r13.1] : List TReport))) fun r15 =>
 (some ((r7.1.1, r7.1.2.1, r7.1.2.2.1, (List.append r7.1.2.2.2.1 ([(a1, r7.2.1, ())] : List THeld)), r7.1.2.2.2.2), r15.1, ()))))
 none)))
 (Option.bind (impl_ReportOf (List.append r7.1.2.2.2.1 ([(a1, r7.2.1, ())] : List THeld))) fun r16 =>
 (cond (Nat.ble (List.length ([] : List TReport) + List.length ([r16.1] : List TReport)) lim)
 (Option.bind (impl_ReportOf a0.2.2.2.1) fun r17 =>
 (Option.bind (impl_changedReports r17.1 (List.append ([] : List TReport) ([r16.1] : List TReport))) fun r18 =>
 (some ((r7.1.1, r7.1.2.1, r7.1.2.2.1, (List.append r7.1.2.2.2.1 ([(a1, r7.2.1, ())] : List THeld)), r7.1.2.2.2.2), r18.1, ()))))
 none)))
 none)))
 (Option.bind (impl_TapOf x5) fun r19 =>
 (Option.bind (impl_settle r1.1 r19.1) fun r20 =>
 (cond (Nat.ble (List.length r20.1.2.2.2.1 + List.length ([(a1, r20.2.1, ())] : List THeld)) lim)
 (cond (r20.2.1.1 == (9 : Int))
 (cond (decide (r20.2.1.2.2.2.1 < ((List.length a0.2.1 : Nat) : Int)))
 (Option.bind (idx a0.2.1 r20.2.1.2.2.2.1) fun x21 =>
 (Option.bind (impl_MacroReports (List.append r20.1.2.2.2.1 ([(a1, r20.2.1, ())] : List THeld)) x21) fun r22 =>
 (Option.bind (impl_ReportOf (List.append r20.1.2.2.2.1 ([(a1, r20.2.1, ())] : List THeld))) fun r23 =>
 (cond (Nat.ble (List.length r22.1 + List.length ([r23.1] : List TReport)) lim)
 (Option.bind (impl_ReportOf a0.2.2.2.1) fun r24 =>
 (Option.bind (impl_changedReports r24.1 (List.append r22.1 ([r23.1] : List TReport))) fun r25 =>
 (some ((r20.1.1, r20.1.2.1, r20.1.2.2.1, (List.append r20.1.2.2.2.1 ([(a1, r20.2.1, ())] : List THeld)), r20.1.2.2.2.2), r25.1, ()))))
 none))))
 (Option.bind (impl_ReportOf (List.append r20.1.2.2.2.1 ([(a1, r20.2.1, ())] : List THeld))) fun r26 =>
 (cond (Nat.ble (List.length ([] : List TReport) + List.length ([r26.1] : List TReport)) lim)
 (Option.bind (impl_ReportOf a0.2.2.2.1) fun r27 =>
 (Option.bind (impl_changedReports r27.1 (List.append ([] : List TReport) ([r26.1] : List TReport))) fun r28 =>
 (some ((r20.1.1, r20.1.2.1, r20.1.2.2.1, (List.append r20.1.2.2.2.1 ([(a1, r20.2.1, ())] : List THeld)), r20.1.2.2.2.2), r28.1, ()))))
 none)))
 (Option.bind (impl_ReportOf (List.append r20.1.2.2.2.1 ([(a1, r20.2.1, ())] : List THeld))) fun r29 =>
 (cond (Nat.ble (List.length ([] : List TReport) + List.length ([r29.1] : List TReport)) lim)
 (Option.bind (impl_ReportOf a0.2.2.2.1) fun r30 =>
 (Option.bind (impl_changedReports r30.1 (List.append ([] : List TReport) ([r29.1] : List TReport))) fun r31 =>
 (some ((r20.1.1, r20.1.2.1, r20.1.2.2.1, (List.append r20.1.2.2.2.1 ([(a1, r20.2.1, ())] : List THeld)), r20.1.2.2.2.2), r31.1, ()))))
 none)))
 none)))))))))

noncomputable def impl_IsReport_4_R (t1 : Unit) (t14 : (List Int)) (t15 : Int) (t16 : Int) (b1 : TReport) : Option (((Unit × ((List Int) × TCombo)) × (TReport × Unit)) ⊕ ((Unit × Unit) ⊕ ((Bool × Unit) × Unit))) :=
 (cond (decide (t16 < t15))
 (Option.bind (idx t14 t16) fun x7 =>
 (Option.bind (impl_isCode x7) fun r8 =>
 (cond (!r8.1)
 (some (.inr (.inr ((false, ()), ()))))
 (cond (decide (t16 > (0 : Int)))
 (Option.bind (idx b1.2.1 (Go.IntKind.wrap .i64 (t16 - (1 : Int)))) fun x9 =>
 (cond (decide (x9 ≥ x7))
 (some (.inr (.inr ((false, ()), ()))))
 (some (.inl (((), t14, t15, (Go.IntKind.wrap .i64 (t16 + (1 : Int))), ()), (b1, ()))))))
 (some (.inl (((), t14, t15, (Go.IntKind.wrap .i64 (t16 + (1 : Int))), ()), (b1, ()))))))))
 (some (.inr (.inl ((), ())))))
noncomputable def impl_IsReport_4_loop (x : ((Unit × ((List Int) × TCombo)) × (TReport × Unit))) : Option ((Unit × Unit) ⊕ ((Bool × Unit) × Unit)) := loopF (fun x : ((Unit × ((List Int) × TCombo)) × (TReport × Unit)) => impl_IsReport_4_R x.1.1 x.1.2.1 x.1.2.2.1 x.1.2.2.2.1 x.2.1) x
noncomputable def impl_IsReport (a0 : TReport) : Option (Bool × Unit) :=
 (cond (decide (a0.1 < (0 : Int)))
 (some (false, ()))
 (cond (decide (a0.1 > (15 : Int)))
 (some (false, ()))
 (Option.bind (impl_IsReport_4_loop (((), a0.2.1, ((List.length a0.2.1 : Nat) : Int), (0 : Int), ()), (a0, ()))) (Sum.elim (fun y10 => (some (true, ()))) (fun z11 => (some (z11.1.1, ())))))))

noncomputable def impl_KeyFor (a0 : TKeymap) (a1 : Int) (a2 : Int) : Option (Int × Unit) :=
 (Option.bind (impl_IsKeymap a0) fun r1 =>
 (cond (!r1.1)
 (some ((-1 : Int), ()))
 (cond (decide (a1 < (0 : Int)))
 (some ((-1 : Int), ()))
 (cond (decide (a1 > (56 : Int)))
 (some ((-1 : Int), ()))
 (Option.bind (impl_keyFor a0 a1 a2) fun r2 =>
 (some (r2.1, ())))))))

noncomputable def spec_HoldOf (a0 : TAction) : Option (TAction × Unit) :=
 (Option.bind (spec_IsTapHold a0) fun r1 =>
 (cond (!r1.1)
 (some (a0, ()))
 (cond (a0.1 == (6 : Int))
 (some (((2 : Int), (0 : Int), a0.2.2.1, (0 : Int), ()), ()))
 (some (((3 : Int), (0 : Int), (0 : Int), a0.2.2.2.1, ()), ())))))

noncomputable def spec_LayersUsed_11_R (t1 : Unit) (t3 : Int) (t4 : Int) (t5 : Int) (t6 : Int) (b1 : TKeymap) : Option (((Unit × TAction) × (TKeymap × Unit)) ⊕ (((Unit × TStep) × (TKeymap × Unit)) ⊕ (Unit × Unit))) :=
 (cond (decide (t6 < b1.1))
 (cond (decide ((0 : Int) ≤ t5))
 (cond ((iand .i64 (ishr .i64 t3 t5) (1 : Int)) == (1 : Int))
 (Option.bind (idx b1.2.1 t5) fun x100 =>
 (Option.bind (idx x100 t6) fun x101 =>
 (Option.bind (spec_HoldOf x101) fun r102 =>
 (cond (r102.1.1 == (3 : Int))
 (cond (decide ((0 : Int) ≤ r102.1.2.2.2.1))
 (some (.inl (((), (ior .i64 t3 (ishl .i64 (1 : Int) r102.1.2.2.2.1)), t4, t5, (Go.IntKind.wrap .i64 (t6 + (1 : Int))), ()), (b1, ()))))
 none)
 (cond (r102.1.1 == (4 : Int))
 (cond (decide ((0 : Int) ≤ r102.1.2.2.2.1))
 (some (.inl (((), (ior .i64 t3 (ishl .i64 (1 : Int) r102.1.2.2.2.1)), t4, t5, (Go.IntKind.wrap .i64 (t6 + (1 : Int))), ()), (b1, ()))))
 none)
 (cond (r102.1.1 == (5 : Int))
 (cond (decide ((0 : Int) ≤ r102.1.2.2.2.1))
 (some (.inl (((), (ior .i64 t3 (ishl .i64 (1 : Int) r102.1.2.2.2.1)), t4, t5, (Go.IntKind.wrap .i64 (t6 + (1 : Int))), ()), (b1, ()))))
 none)
 (some (.inl (((), t3, t4, t5, (Go.IntKind.wrap .i64 (t6 + (1 : Int))), ()), (b1, ()))))))))))
 (some (.inr (.inl (((), t3, t4, t5, ()), (b1, ()))))))
 none)
 (some (.inr (.inl (((), t3, t4, t5, ()), (b1, ()))))))
noncomputable def spec_LayersUsed_11_loop (x : ((Unit × TAction) × (TKeymap × Unit))) : Option (((Unit × TStep) × (TKeymap × Unit)) ⊕ (Unit × Unit)) := loopF (fun x : ((Unit × TAction) × (TKeymap × Unit)) => spec_LayersUsed_11_R x.1.1 x.1.2.1 x.1.2.2.1 x.1.2.2.2.1 x.1.2.2.2.2.1 x.2.1) x
noncomputable def spec_LayersUsed_8_R (t1 : Unit) (t3 : Int) (t4 : Int) (t5 : Int) (b1 : TKeymap) : Option (((Unit × TStep) × (TKeymap × Unit)) ⊕ (((Unit × TCombo) × (TKeymap × Unit)) ⊕ (Unit × Unit))) :=
 (cond (decide (t5 < ((List.length b1.2.1 : Nat) : Int)))
 (Option.bind (spec_LayersUsed_11_loop (((), t3, t4, t5, (0 : Int), ()), (b1, ()))) (Sum.elim (fun y103 => (some (.inl (((), y103.1.2.1, y103.1.2.2.1, (Go.IntKind.wrap .i64 (y103.1.2.2.2.1 + (1 : Int))), ()), (y103.2.1, ()))))) (fun z104 => (some (.inr (.inr ((), ())))))))
 (some (.inr (.inl (((), t3, t4, ()), (b1, ()))))))
noncomputable def spec_LayersUsed_8_loop (x : ((Unit × TStep) × (TKeymap × Unit))) : Option (((Unit × TCombo) × (TKeymap × Unit)) ⊕ (Unit × Unit)) := loopF (fun x : ((Unit × TStep) × (TKeymap × Unit)) => spec_LayersUsed_8_R x.1.1 x.1.2.1 x.1.2.2.1 x.1.2.2.2.1 x.2.1) x
noncomputable def spec_LayersUsed_5_R (t1 : Unit) (t3 : Int) (t4 : Int) (b1 : TKeymap) : Option (((Unit × TCombo) × (TKeymap × Unit)) ⊕ (((Int × Unit) × Unit) ⊕ (Unit × Unit))) :=
 (cond (decide (t4 < ((List.length b1.2.1 : Nat) : Int)))
 (Option.bind (spec_LayersUsed_8_loop (((), t3, t4, (0 : Int), ()), (b1, ()))) (Sum.elim (fun y105 => (some (.inl (((), y105.1.2.1, (Go.IntKind.wrap .i64 (y105.1.2.2.1 + (1 : Int))), ()), (y105.2.1, ()))))) (fun z106 => (some (.inr (.inr ((), ())))))))
 (some (.inr (.inl ((t3, ()), ())))))
noncomputable def spec_LayersUsed_5_loop (x : ((Unit × TCombo) × (TKeymap × Unit))) : Option (((Int × Unit) × Unit) ⊕ (Unit × Unit)) := loopF (fun x : ((Unit × TCombo) × (TKeymap × Unit)) => spec_LayersUsed_5_R x.1.1 x.1.2.1 x.1.2.2.1 x.2.1) x
noncomputable def spec_LayersUsed (a0 : TKeymap) : Option (Int × Unit) :=
 (Option.bind (spec_IsKeymap a0) fun r1 =>
 (cond (!r1.1)
 (some ((0 : Int), ()))
 (Option.bind (spec_LayersUsed_5_loop (((), (1 : Int), (0 : Int), ()), (a0, ()))) (Sum.elim (fun y107 => (some (y107.1.1, ()))) (fun z108 => none)))))

noncomputable def impl_LayersUsed_10_R (t1 : Unit) (t3 : Int) (t4 : Int) (t13 : Int) (t14 : Int) (t17 : (List (List TAction))) (t18 : Int) (t19 : Int) (t24 : (List TAction)) (t25 : Int) (t26 : Int) (b1 : TKeymap) : Option (((Unit × (Int × (Int × (Int × (Int × ((List (List TAction)) × (Int × (Int × ((List TAction) × TCombo))))))))) × (TKeymap × Unit)) ⊕ (((Unit × (Int × (Int × (Int × ((List (List TAction)) × TCombo))))) × (TKeymap × Unit)) ⊕ (Unit × Unit))) :=
 (cond (decide (t26 < t25))
 (Option.bind (idx t24 t26) fun x161 =>
 (cond (x161.1 == (3 : Int))
 (Option.bind (impl_bit t3 t4) fun r162 =>
 (cond (r162.1 == (1 : Int))
 (cond (decide ((0 : Int) ≤ x161.2.2.2.1))
 (some (.inl (((), (ior .i64 t3 (ishl .i64 (1 : Int) x161.2.2.2.1)), t4, t13, t14, t17, t18, t19, t24, t25, (Go.IntKind.wrap .i64 (t26 + (1 : Int))), ()), (b1, ()))))
 none)
 (some (.inl (((), t3, t4, t13, t14, t17, t18, t19, t24, t25, (Go.IntKind.wrap .i64 (t26 + (1 : Int))), ()), (b1, ()))))))
 (cond (x161.1 == (4 : Int))
 (Option.bind (impl_bit t3 t4) fun r163 =>
 (cond (r163.1 == (1 : Int))
 (cond (decide ((0 : Int) ≤ x161.2.2.2.1))
 (some (.inl (((), (ior .i64 t3 (ishl .i64 (1 : Int) x161.2.2.2.1)), t4, t13, t14, t17, t18, t19, t24, t25, (Go.IntKind.wrap .i64 (t26 + (1 : Int))), ()), (b1, ()))))
 none)
 (some (.inl (((), t3, t4, t13, t14, t17, t18, t19, t24, t25, (Go.IntKind.wrap .i64 (t26 + (1 : Int))), ()), (b1, ()))))))
 (cond (x161.1 == (5 : Int))
 (Option.bind (impl_bit t3 t4) fun r164 =>
 (cond (r164.1 == (1 : Int))
 (cond (decide ((0 : Int) ≤ x161.2.2.2.1))
 (some (.inl (((), (ior .i64 t3 (ishl .i64 (1 : Int) x161.2.2.2.1)), t4, t13, t14, t17, t18, t19, t24, t25, (Go.IntKind.wrap .i64 (t26 + (1 : Int))), ()), (b1, ()))))
 none)
 (some (.inl (((), t3, t4, t13, t14, t17, t18, t19, t24, t25, (Go.IntKind.wrap .i64 (t26 + (1 : Int))), ()), (b1, ()))))))
 (cond (x161.1 == (7 : Int))
 (Option.bind (impl_bit t3 t4) fun r165 =>
 (cond (r165.1 == (1 : Int))
 (cond (decide ((0 : Int) ≤ x161.2.2.2.1))
 (some (.inl (((), (ior .i64 t3 (ishl .i64 (1 : Int) x161.2.2.2.1)), t4, t13, t14, t17, t18, t19, t24, t25, (Go.IntKind.wrap .i64 (t26 + (1 : Int))), ()), (b1, ()))))
 none)
 (some (.inl (((), t3, t4, t13, t14, t17, t18, t19, t24, t25, (Go.IntKind.wrap .i64 (t26 + (1 : Int))), ()), (b1, ()))))))
 (some (.inl (((), t3, t4, t13, t14, t17, t18, t19, t24, t25, (Go.IntKind.wrap .i64 (t26 + (1 : Int))), ()), (b1, ())))))))))
 (some (.inr (.inl (((), t3, t13, t14, t17, t18, t19, ()), (b1, ()))))))
noncomputable def impl_LayersUsed_10_loop (x : ((Unit × (Int × (Int × (Int × (Int × ((List (List TAction)) × (Int × (Int × ((List TAction) × TCombo))))))))) × (TKeymap × Unit))) : Option (((Unit × (Int × (Int × (Int × ((List (List TAction)) × TCombo))))) × (TKeymap × Unit)) ⊕ (Unit × Unit)) := loopF (fun x : ((Unit × (Int × (Int × (Int × (Int × ((List (List TAction)) × (Int × (Int × ((List TAction) × TCombo))))))))) × (TKeymap × Unit)) => impl_LayersUsed_10_R x.1.1 x.1.2.1 x.1.2.2.1 x.1.2.2.2.1 x.1.2.2.2.2.1 x.1.2.2.2.2.2.1 x.1.2.2.2.2.2.2.1 x.1.2.2.2.2.2.2.2.1 x.1.2.2.2.2.2.2.2.2.1 x.1.2.2.2.2.2.2.2.2.2.1 x.1.2.2.2.2.2.2.2.2.2.2.1 x.2.1) x
noncomputable def impl_LayersUsed_7_R (t1 : Unit) (t3 : Int) (t13 : Int) (t14 : Int) (t17 : (List (List TAction))) (t18 : Int) (t19 : Int) (b1 : TKeymap) : Option (((Unit × (Int × (Int × (Int × ((List (List TAction)) × TCombo))))) × (TKeymap × Unit)) ⊕ (((Unit × TStep) × (TKeymap × Unit)) ⊕ (Unit × Unit))) :=
 (cond (decide (t19 < t18))
 (Option.bind (idx t17 t19) fun x150 =>
 (Option.bind (impl_LayersUsed_10_loop (((), t3, t19, t13, t14, t17, t18, t19, x150, ((List.length x150 : Nat) : Int), (0 : Int), ()), (b1, ()))) (Sum.elim (fun y166 => (some (.inl (((), y166.1.2.1, y166.1.2.2.1, y166.1.2.2.2.1, y166.1.2.2.2.2.1, y166.1.2.2.2.2.2.1, (Go.IntKind.wrap .i64 (y166.1.2.2.2.2.2.2.1 + (1 : Int))), ()), (y166.2.1, ()))))) (fun z167 => (some (.inr (.inr ((), ()))))))))
 (some (.inr (.inl (((), t3, t13, t14, ()), (b1, ()))))))
noncomputable def impl_LayersUsed_7_loop (x : ((Unit × (Int × (Int × (Int × ((List (List TAction)) × TCombo))))) × (TKeymap × Unit))) : Option (((Unit × TStep) × (TKeymap × Unit)) ⊕ (Unit × Unit)) := loopF (fun x : ((Unit × (Int × (Int × (Int × ((List (List TAction)) × TCombo))))) × (TKeymap × Unit)) => impl_LayersUsed_7_R x.1.1 x.1.2.1 x.1.2.2.1 x.1.2.2.2.1 x.1.2.2.2.2.1 x.1.2.2.2.2.2.1 x.1.2.2.2.2.2.2.1 x.2.1) x
noncomputable def impl_LayersUsed_5_R (t1 : Unit) (t3 : Int) (t13 : Int) (t14 : Int) (b1 : TKeymap) : Option (((Unit × TStep) × (TKeymap × Unit)) ⊕ (((Int × Unit) × Unit) ⊕ (Unit × Unit))) :=
 (cond (decide (t14 < t13))
 (Option.bind (impl_LayersUsed_7_loop (((), t3, t13, t14, b1.2.1, ((List.length b1.2.1 : Nat) : Int), (0 : Int), ()), (b1, ()))) (Sum.elim (fun y168 => (some (.inl (((), y168.1.2.1, y168.1.2.2.1, (Go.IntKind.wrap .i64 (y168.1.2.2.2.1 + (1 : Int))), ()), (y168.2.1, ()))))) (fun z169 => (some (.inr (.inr ((), ())))))))
 (some (.inr (.inl ((t3, ()), ())))))
noncomputable def impl_LayersUsed_5_loop (x : ((Unit × TStep) × (TKeymap × Unit))) : Option (((Int × Unit) × Unit) ⊕ (Unit × Unit)) := loopF (fun x : ((Unit × TStep) × (TKeymap × Unit)) => impl_LayersUsed_5_R x.1.1 x.1.2.1 x.1.2.2.1 x.1.2.2.2.1 x.2.1) x
noncomputable def impl_LayersUsed (a0 : TKeymap) : Option (Int × Unit) :=
 (Option.bind (impl_IsKeymap a0) fun r1 =>
 (cond (!r1.1)
 (some ((0 : Int), ()))
 (Option.bind (impl_LayersUsed_5_loop (((), (1 : Int), ((List.length a0.2.1 : Nat) : Int), (0 : Int), ()), (a0, ()))) (Sum.elim (fun y170 => (some (y170.1.1, ()))) (fun z171 => none)))))

noncomputable def spec_LayerAt_4_R (t1 : Int) (t2 : Int) (t3 : Unit) (t7 : Int) (b3 : TKeymap) : Option (((Int × (Int × (Unit × (Int × Unit)))) × (TKeymap × Unit)) ⊕ ((Unit × Unit) ⊕ ((Int × Unit) × Unit))) :=
 (cond (decide (t7 > (0 : Int)))
 (cond (decide ((0 : Int) ≤ t7))
 (cond ((iand .i64 (ishr .i64 t1 t7) (1 : Int)) == (1 : Int))
 (Option.bind (idx b3.2.1 t7) fun x7 =>
 (Option.bind (idx x7 t2) fun x8 =>
 (cond (x8.1 != (1 : Int))
 (some (.inr (.inr ((t7, ()), ()))))
 (some (.inl ((t1, t2, (), (Go.IntKind.wrap .i64 (t7 - (1 : Int))), ()), (b3, ())))))))
 (some (.inl ((t1, t2, (), (Go.IntKind.wrap .i64 (t7 - (1 : Int))), ()), (b3, ())))))
 none)
 (some (.inr (.inl ((), ())))))
noncomputable def spec_LayerAt_4_loop (x : ((Int × (Int × (Unit × (Int × Unit)))) × (TKeymap × Unit))) : Option ((Unit × Unit) ⊕ ((Int × Unit) × Unit)) := loopF (fun x : ((Int × (Int × (Unit × (Int × Unit)))) × (TKeymap × Unit)) => spec_LayerAt_4_R x.1.1 x.1.2.1 x.1.2.2.1 x.1.2.2.2.1 x.2.1) x
noncomputable def spec_LayerAt (a0 : TKeymap) (a1 : Int) (a2 : Int) : Option (Int × Unit) :=
 (Option.bind (spec_IsKeymap a0) fun r1 =>
 (cond (!r1.1)
 (some ((-1 : Int), ()))
 (Option.bind (spec_l1In a2 (0 : Int) (Go.IntKind.wrap .i64 (a0.1 - (1 : Int)))) fun r2 =>
 (cond (!r2.1)
 (some ((-1 : Int), ()))
 (Option.bind (spec_LayerAt_4_loop ((a1, a2, (), (Go.IntKind.wrap .i64 (((List.length a0.2.1 : Nat) : Int) - (1 : Int))), ()), (a0, ()))) (Sum.elim (fun y9 => (some ((0 : Int), ()))) (fun z10 => (some (z10.1.1, ())))))))))

noncomputable def spec_ActionAt (a0 : TKeymap) (a1 : Int) (a2 : Int) : Option (TAction × Unit) :=
 (Option.bind (spec_LayerAt a0 a1 a2) fun r1 =>
 (cond (decide (r1.1 < (0 : Int)))
 (some (((0 : Int), (0 : Int), (0 : Int), (0 : Int), ()), ()))
 (Option.bind (idx a0.2.1 r1.1) fun x2 =>
 (Option.bind (idx x2 a2) fun x3 =>
 (some (x3, ()))))))

noncomputable def spec_FixedAfter (a0 : TKeymap) (a1 : Int) (a2 : Int) : Option (Int × Unit) :=
 (Option.bind (spec_IsFixed a0 a1) fun r1 =>
 (cond (!r1.1)
 (some ((-1 : Int), ()))
 (Option.bind (spec_l1In a2 (0 : Int) (Go.IntKind.wrap .i64 (a0.1 - (1 : Int)))) fun r2 =>
 (cond (!r2.1)
 (some ((-1 : Int), ()))
 (Option.bind (spec_ActionAt a0 (ior .i64 (1 : Int) a1) a2) fun r3 =>
 (cond (r3.1.1 == (4 : Int))
 (cond (decide ((0 : Int) ≤ r3.1.2.2.2.1))
 (some ((ixor .i64 a1 (ishl .i64 (1 : Int) r3.1.2.2.2.1)), ()))
 none)
 (cond (r3.1.1 == (5 : Int))
 (cond (decide ((0 : Int) ≤ r3.1.2.2.2.1))
 (some ((iandn .i64 (ishl .i64 (1 : Int) r3.1.2.2.2.1) (1 : Int)), ()))
 none)
 (some (a1, ())))))))))

noncomputable def impl_fixedAfter (a0 : TKeymap) (a1 : Int) (a2 : Int) : Option (Int × Unit) :=
 (Option.bind (impl_layerAt a0 a1 a2) fun r1 =>
 (Option.bind (idx a0.2.1 r1.1) fun x2 =>
 (Option.bind (idx x2 a2) fun x3 =>
 (cond (x3.1 == (4 : Int))
 (cond (decide ((0 : Int) ≤ x3.2.2.2.1))
 (some ((ixor .i64 a1 (ishl .i64 (1 : Int) x3.2.2.2.1)), ()))
 none)
 (cond (x3.1 == (5 : Int))
 (cond (decide ((0 : Int) ≤ x3.2.2.2.1))
 (some ((iandn .i64 (ishl .i64 (1 : Int) x3.2.2.2.1) (1 : Int)), ()))
 none)
 (some (a1, ())))))))

noncomputable def impl_FixedAfter (a0 : TKeymap) (a1 : Int) (a2 : Int) : Option (Int × Unit) :=
 (Option.bind (impl_IsFixed a0 a1) fun r1 =>
 (cond (!r1.1)
 (some ((-1 : Int), ()))
 (cond (decide (a2 < (0 : Int)))
 (some ((-1 : Int), ()))
 (cond (decide (a2 ≥ a0.1))
 (some ((-1 : Int), ()))
 (Option.bind (impl_fixedAfter a0 a1 a2) fun r2 =>
 (some (r2.1, ())))))))

noncomputable def spec_PackAction (a0 : TAction) : Option ((List Int) × Unit) :=
 (Option.bind (spec_IsAction a0) fun r1 =>
 (cond (!r1.1)
 (some (([] : List Int), ()))
 (some (([(Go.IntKind.wrap .u8 (Go.IntKind.wrap .i64 ((Go.IntKind.wrap .i64 ((16 : Int) * a0.1)) + a0.2.2.2.1))), (Go.IntKind.wrap .u8 a0.2.1), (Go.IntKind.wrap .u8 a0.2.2.1)] : List Int), ()))))

noncomputable def impl_PackAction (a0 : TAction) : Option ((List Int) × Unit) :=
 (Option.bind (impl_IsAction a0) fun r1 =>
 (cond (!r1.1)
 (some (([] : List Int), ()))
 (some (([(Go.IntKind.wrap .u8 (Go.IntKind.wrap .i64 ((Go.IntKind.wrap .i64 ((16 : Int) * a0.1)) + a0.2.2.2.1))), (Go.IntKind.wrap .u8 a0.2.1), (Go.IntKind.wrap .u8 a0.2.2.1)] : List Int), ()))))

noncomputable def laws_markActionS_2_R (t0 : (List TAction)) (t1 : Int) (t5 : Int) : Option ((((List TAction) × TCombo) × Unit) ⊕ ((((List TAction) × (Int × Unit)) × Unit) ⊕ (Unit × Unit))) :=
 (cond (decide (t5 < ((List.length t0 : Nat) : Int)))
 (cond (inb (List.length t0) t5)
 (Option.bind t0[(Int.toNat t5)]? fun x9 =>
 (cond (inb (List.length (List.set t0 (Int.toNat t5) (t1, x9.2))) t5)
 (Option.bind (List.set t0 (Int.toNat t5) (t1, x9.2))[(Int.toNat t5)]? fun x10 =>
 (cond (inb (List.length (List.set (List.set t0 (Int.toNat t5) (t1, x9.2)) (Int.toNat t5) (x10.1, (Go.IntKind.wrap .i64 (t1 + (1 : Int))), x10.2.2))) t5)
 (Option.bind (List.set (List.set t0 (Int.toNat t5) (t1, x9.2)) (Int.toNat t5) (x10.1, (Go.IntKind.wrap .i64 (t1 + (1 : Int))), x10.2.2))[(Int.toNat t5)]? fun x11 =>
 (cond (inb (List.length (List.set (List.set (List.set t0 (Int.toNat t5) (t1, x9.2)) (Int.toNat t5) (x10.1, (Go.IntKind.wrap .i64 (t1 + (1 : Int))), x10.2.2)) (Int.toNat t5) (x11.1, x11.2.1, (Go.IntKind.wrap .i64 ((Go.IntKind.wrap .i64 (t1 + (1 : Int))) + (1 : Int))), x11.2.2.2))) t5)
 (Option.bind (List.set (List.set (List.set t0 (Int.toNat t5) (t1, x9.2)) (Int.toNat t5) (x10.1, (Go.IntKind.wrap .i64 (t1 + (1 : Int))), x10.2.2)) (Int.toNat t5) (x11.1, x11.2.1, (Go.IntKind.wrap .i64 ((Go.IntKind.wrap .i64 (t1 + (1 : Int))) + (1 : Int))), x11.2.2.2))[(Int.toNat t5)]? fun x12 =>
 (some (.inl (((List.set (List.set (List.set (List.set t0 (Int.toNat t5) (t1, x9.2)) (Int.toNat t5) (x10.1, (Go.IntKind.wrap .i64 (t1 + (1 : Int))), x10.2.2)) (Int.toNat t5) (x11.1, x11.2.1, (Go.IntKind.wrap .i64 ((Go.IntKind.wrap .i64 (t1 + (1 : Int))) + (1 : Int))), x11.2.2.2)) (Int.toNat t5) (x12.1, x12.2.1, x12.2.2.1, (Go.IntKind.wrap .i64 ((Go.IntKind.wrap .i64 ((Go.IntKind.wrap .i64 (t1 + (1 : Int))) + (1 : Int))) + (1 : Int))), x12.2.2.2.2)), (Go.IntKind.wrap .i64 ((Go.IntKind.wrap .i64 ((Go.IntKind.wrap .i64 ((Go.IntKind.wrap .i64 (t1 + (1 : Int))) + (1 : Int))) + (1 : Int))) + (1 : Int))), (Go.IntKind.wrap .i64 (t5 + (1 : Int))), ()), ()))))
 none))
 none))
 none))
 none)
 (some (.inr (.inl ((t0, t1, ()), ())))))
noncomputable def laws_markActionS_2_loop (x : (((List TAction) × TCombo) × Unit)) : Option ((((List TAction) × (Int × Unit)) × Unit) ⊕ (Unit × Unit)) := loopF (fun x : (((List TAction) × TCombo) × Unit) => laws_markActionS_2_R x.1.1 x.1.2.1 x.1.2.2.1) x
noncomputable def laws_markActionS (a0 : (List TAction)) (a1 : Int) : Option ((List TAction) × (Int × Unit)) :=
 (Option.bind (laws_markActionS_2_loop ((a0, a1, (0 : Int), ()), ())) (Sum.elim (fun y13 => (some (y13.1.1, (y13.1.2.1, ())))) (fun z14 => none)))

noncomputable def laws_markActionSS_2_R (t0 : (List (List TAction))) (t1 : Int) (t5 : Int) : Option ((((List (List TAction)) × TCombo) × Unit) ⊕ ((((List (List TAction)) × (Int × Unit)) × Unit) ⊕ (Unit × Unit))) :=
 (cond (decide (t5 < ((List.length t0 : Nat) : Int)))
 (cond (inb (List.length t0) t5)
 (Option.bind t0[(Int.toNat t5)]? fun x5 =>
 (Option.bind (laws_markActionS x5 t1) fun r6 =>
 (some (.inl (((List.set t0 (Int.toNat t5) r6.1), r6.2.1, (Go.IntKind.wrap .i64 (t5 + (1 : Int))), ()), ())))))
 none)
 (some (.inr (.inl ((t0, t1, ()), ())))))
noncomputable def laws_markActionSS_2_loop (x : (((List (List TAction)) × TCombo) × Unit)) : Option ((((List (List TAction)) × (Int × Unit)) × Unit) ⊕ (Unit × Unit)) := loopF (fun x : (((List (List TAction)) × TCombo) × Unit) => laws_markActionSS_2_R x.1.1 x.1.2.1 x.1.2.2.1) x
noncomputable def laws_markActionSS (a0 : (List (List TAction))) (a1 : Int) : Option ((List (List TAction)) × (Int × Unit)) :=
 (Option.bind (laws_markActionSS_2_loop ((a0, a1, (0 : Int), ()), ())) (Sum.elim (fun y7 => (some (y7.1.1, (y7.1.2.1, ())))) (fun z8 => none)))

noncomputable def laws_markKeymap (a0 : TKeymap) (a1 : Int) : Option (TKeymap × (Int × Unit)) :=
 (Option.bind (laws_markActionSS a0.2.1 a1) fun r1 =>
 (some ((a0.1, r1.1, ()), (r1.2.1, ()))))

noncomputable def spec_l6Copy_3_R (t1 : Unit) (t2 : Unit) (t3 : Unit) (t4 : Int) (b1 : TKeymap) (b2 : TKeymap) (b3 : TKeymap) : Option (((Unit × (Unit × (Unit × (Int × Unit)))) × (TKeymap × (TKeymap × (TKeymap × Unit)))) ⊕ (((Unit × (Unit × Unit)) × (TKeymap × (TKeymap × Unit))) ⊕ (Unit × Unit))) :=
 (cond (decide (t4 < ((List.length b1.2.1 : Nat) : Int)))
 (Option.bind (idx b1.2.1 t4) fun x4 =>
 (cond (Nat.ble (List.length ([] : List TAction) + List.length x4) lim)
 (cond (Nat.ble (List.length b3.2.1 + List.length ([(List.append ([] : List TAction) x4)] : List (List TAction))) lim)
 (some (.inl (((), (), (), (Go.IntKind.wrap .i64 (t4 + (1 : Int))), ()), (b1, (b2.1, b2.2.1, ()), (b3.1, (List.append b3.2.1 ([(List.append ([] : List TAction) x4)] : List (List TAction))), ()), ()))))
 none)
 none))
 (some (.inr (.inl (((), (), ()), ((b2.1, b2.2.1, ()), (b3.1, b3.2.1, ()), ()))))))
noncomputable def spec_l6Copy_3_loop (x : ((Unit × (Unit × (Unit × (Int × Unit)))) × (TKeymap × (TKeymap × (TKeymap × Unit))))) : Option (((Unit × (Unit × Unit)) × (TKeymap × (TKeymap × Unit))) ⊕ (Unit × Unit)) := loopF (fun x : ((Unit × (Unit × (Unit × (Int × Unit)))) × (TKeymap × (TKeymap × (TKeymap × Unit)))) => spec_l6Copy_3_R x.1.1 x.1.2.1 x.1.2.2.1 x.1.2.2.2.1 x.2.1 x.2.2.1 x.2.2.2.1) x
noncomputable def spec_l6Copy (a0 : TKeymap) : Option (TKeymap × Unit) :=
 (Option.bind (spec_l6Copy_3_loop (((), (), (), (0 : Int), ()), (a0, ((0 : Int), ([] : List (List TAction)), ()), (a0.1, ([] : List (List TAction)), ()), ()))) (Sum.elim (fun y5 => (some ((y5.2.2.1.1, y5.2.2.1.2.1, ()), ()))) (fun z6 => none)))

noncomputable def impl_Press (a0 : TEngine) (a1 : Int) (a2 : Bool) : Option (TEngine × ((List TReport) × (Bool × Unit))) :=
 (Option.bind (impl_IsEngine a0) fun r1 =>
 (cond (!r1.1)
 (some ((((0 : Int), ([] : List (List TAction)), ()), ([] : List (List TStep)), (0 : Int), ([] : List THeld), (0 : Int), false, ()), ([] : List TReport), false, ()))
 (cond (decide (a1 < (0 : Int)))
 (some ((((0 : Int), ([] : List (List TAction)), ()), ([] : List (List TStep)), (0 : Int), ([] : List THeld), (0 : Int), false, ()), ([] : List TReport), false, ()))
 (cond (decide (a1 ≥ a0.1.1))
 (some ((((0 : Int), ([] : List (List TAction)), ()), ([] : List (List TStep)), (0 : Int), ([] : List THeld), (0 : Int), false, ()), ([] : List TReport), false, ()))
 (Option.bind (impl_HeldAt a0 a1) fun r2 =>
 (cond (decide (r2.1 ≥ (0 : Int)))
 (some ((((0 : Int), ([] : List (List TAction)), ()), ([] : List (List TStep)), (0 : Int), ([] : List THeld), (0 : Int), false, ()), ([] : List TReport), false, ()))
 (Option.bind (impl_press a0 a1 a2) fun r3 =>
 (some (r3.1, r3.2.1, true, ())))))))))

noncomputable def impl_TapKeys_6_R (t4 : Unit) (t7 : Unit) (t8 : (List TReport)) (t20 : (List Int)) (t21 : Int) (t22 : Int) (b4 : TEngine) (b7 : TEngine) : Option (((Unit × (Unit × ((List TReport) × ((List Int) × TCombo)))) × (TEngine × (TEngine × Unit))) ⊕ (((Unit × (Unit × ((List TReport) × Unit))) × (TEngine × (TEngine × Unit))) ⊕ ((Unit × ((List TReport) × (Bool × Unit))) × (TEngine × Unit)))) :=
 (cond (decide (t22 < t21))
 (Option.bind (idx t20 t22) fun x12 =>
 (Option.bind (impl_Press ((b7.1.1, b7.1.2.1, ()), b7.2) x12 false) fun r13 =>
 (cond (!r13.2.2.1)
 (some (.inr (.inr (((), ([] : List TReport), false, ()), ((((0 : Int), ([] : List (List TAction)), ()), ([] : List (List TStep)), (0 : Int), ([] : List THeld), (0 : Int), false, ()), ())))))
 (cond (Nat.ble (List.length t8 + List.length r13.2.1) lim)
 (Option.bind (impl_release r13.1 x12) fun r14 =>
 (cond (Nat.ble (List.length (List.append t8 r13.2.1) + List.length r14.2.1) lim)
 (some (.inl (((), (), (List.append (List.append t8 r13.2.1) r14.2.1), t20, t21, (Go.IntKind.wrap .i64 (t22 + (1 : Int))), ()), (((b4.1.1, b4.1.2.1, ()), b4.2), r14.1, ()))))
 none))
 none))))
 (some (.inr (.inl (((), (), t8, ()), (((b4.1.1, b4.1.2.1, ()), b4.2), ((b7.1.1, b7.1.2.1, ()), b7.2), ()))))))
noncomputable def impl_TapKeys_6_loop (x : ((Unit × (Unit × ((List TReport) × ((List Int) × TCombo)))) × (TEngine × (TEngine × Unit)))) : Option (((Unit × (Unit × ((List TReport) × Unit))) × (TEngine × (TEngine × Unit))) ⊕ ((Unit × ((List TReport) × (Bool × Unit))) × (TEngine × Unit))) := loopF (fun x : ((Unit × (Unit × ((List TReport) × ((List Int) × TCombo)))) × (TEngine × (TEngine × Unit))) => impl_TapKeys_6_R x.1.1 x.1.2.1 x.1.2.2.1 x.1.2.2.2.1 x.1.2.2.2.2.1 x.1.2.2.2.2.2.1 x.2.1 x.2.2.1) x
noncomputable def impl_TapKeys (a0 : TEngine) (a1 : (List Int)) : Option (TEngine × ((List TReport) × (Bool × Unit))) :=
 (Option.bind (impl_IsEngine a0) fun r1 =>
 (cond (!r1.1)
 (some ((((0 : Int), ([] : List (List TAction)), ()), ([] : List (List TStep)), (0 : Int), ([] : List THeld), (0 : Int), false, ()), ([] : List TReport), false, ()))
 (Option.bind (impl_copyEngine a0) fun r2 =>
 (Option.bind (impl_TapKeys_6_loop (((), (), ([] : List TReport), a1, ((List.length a1 : Nat) : Int), (0 : Int), ()), ((((0 : Int), ([] : List (List TAction)), ()), ([] : List (List TStep)), (0 : Int), ([] : List THeld), (0 : Int), false, ()), r2.1, ()))) (Sum.elim (fun y15 => (some (((y15.2.2.1.1.1, y15.2.2.1.1.2.1, ()), y15.2.2.1.2), y15.1.2.2.1, true, ()))) (fun z16 => (some (((z16.2.1.1.1, z16.2.1.1.2.1, ()), z16.2.1.2), z16.1.2.1, z16.1.2.2.1, ()))))))))

noncomputable def impl_TraceOf (a0 : TKeymap) (a1 : (List Int)) : Option ((List TReport) × (Bool × Unit)) :=
 (Option.bind (impl_NewEngine a0 ([] : List (List TStep))) fun r1 =>
 (cond (!r1.2.1)
 (some (([] : List TReport), false, ()))
 (Option.bind (impl_TapKeys r1.1 a1) fun r2 =>
 (some (r2.2.1, r2.2.2.1, ())))))

noncomputable def spec_IsHeld_3_R (t0 : (List THeld)) (t3 : Int) (t4 : Int) : Option ((((List THeld) × TCombo) × Unit) ⊕ ((Unit × Unit) ⊕ ((Bool × Unit) × Unit))) :=
 (cond (decide (t4 < ((List.length t0 : Nat) : Int)))
 (Option.bind (idx t0 t4) fun x15 =>
 (Option.bind (idx t0 t4) fun x16 =>
 (Option.bind (spec_l1In x16.1 (0 : Int) (31 : Int)) fun r17 =>
 (cond (!r17.1)
 (some (.inr (.inr ((false, ()), ()))))
 (Option.bind (idx t0 t4) fun x18 =>
 (cond (decide ((0 : Int) ≤ x18.1))
 (cond ((iand .i64 (ishr .i64 t3 x18.1) (1 : Int)) == (1 : Int))
 (some (.inr (.inr ((false, ()), ()))))
 (Option.bind (spec_IsAction x15.2.1) fun r19 =>
 (cond (!r19.1)
 (some (.inr (.inr ((false, ()), ()))))
 (cond (x15.2.1.1 == (1 : Int))
 (some (.inr (.inr ((false, ()), ()))))
 (Option.bind (spec_IsTapHold x15.2.1) fun r20 =>
 (cond r20.1
 (some (.inr (.inr ((false, ()), ()))))
 (Option.bind (idx t0 t4) fun x21 =>
 (cond (decide ((0 : Int) ≤ x21.1))
 (some (.inl ((t0, (ior .i64 t3 (ishl .i64 (1 : Int) x21.1)), (Go.IntKind.wrap .i64 (t4 + (1 : Int))), ()), ())))
 none))))))))
 none))))))
 (some (.inr (.inl ((), ())))))
noncomputable def spec_IsHeld_3_loop (x : (((List THeld) × TCombo) × Unit)) : Option ((Unit × Unit) ⊕ ((Bool × Unit) × Unit)) := loopF (fun x : (((List THeld) × TCombo) × Unit) => spec_IsHeld_3_R x.1.1 x.1.2.1 x.1.2.2.1) x
noncomputable def spec_IsHeld (a0 : (List THeld)) : Option (Bool × Unit) :=
 (Option.bind (spec_IsHeld_3_loop ((a0, (0 : Int), (0 : Int), ()), ())) (Sum.elim (fun y22 => (some (true, ()))) (fun z23 => (some (z23.1.1, ())))))

noncomputable def spec_l8Find_2_R (t0 : (List THeld)) (t3 : Unit) (t5 : Int) (b3 : TStep) : Option ((((List THeld) × (Unit × (Int × Unit))) × (TStep × Unit)) ⊕ ((Unit × Unit) ⊕ ((Int × Unit) × Unit))) :=
 (cond (decide (t5 < ((List.length t0 : Nat) : Int)))
 (Option.bind (idx t0 t5) fun x5 =>
 (cond (x5.2.1.2.1 == b3.2.1)
 (Option.bind (idx t0 t5) fun x6 =>
 (cond (x6.2.1.2.2.1 == b3.2.2.1)
 (some (.inr (.inr ((t5, ()), ()))))
 (some (.inl ((t0, (), (Go.IntKind.wrap .i64 (t5 + (1 : Int))), ()), (b3, ()))))))
 (some (.inl ((t0, (), (Go.IntKind.wrap .i64 (t5 + (1 : Int))), ()), (b3, ()))))))
 (some (.inr (.inl ((), ())))))
noncomputable def spec_l8Find_2_loop (x : (((List THeld) × (Unit × (Int × Unit))) × (TStep × Unit))) : Option ((Unit × Unit) ⊕ ((Int × Unit) × Unit)) := loopF (fun x : (((List THeld) × (Unit × (Int × Unit))) × (TStep × Unit)) => spec_l8Find_2_R x.1.1 x.1.2.1 x.1.2.2.1 x.2.1) x
noncomputable def spec_l8Find (a0 : (List THeld)) (a1 : TStep) : Option (Int × Unit) :=
 (Option.bind (spec_l8Find_2_loop ((a0, (), (0 : Int), ()), (a1, ()))) (Sum.elim (fun y7 => (some ((-1 : Int), ()))) (fun z8 => (some (z8.1.1, ())))))

noncomputable def spec_l8Action (a0 : TStep) : Option (TAction × Unit) :=
 (some (((2 : Int), a0.2.1, a0.2.2.1, (0 : Int), ()), ()))

noncomputable def spec_l8Without (a0 : (List THeld)) (a1 : Int) : Option ((List THeld) × Unit) :=
 (cond (cutOk (List.length a0) (0 : Int) a1)
 (cond (Nat.ble (List.length ([] : List THeld) + List.length (cutl a0 (Int.toNat (0 : Int)) (Int.toNat a1))) lim)
 (cond (cutOk (List.length a0) (Go.IntKind.wrap .i64 (a1 + (1 : Int))) ((List.length a0 : Nat) : Int))
 (cond (Nat.ble (List.length (List.append ([] : List THeld) (cutl a0 (Int.toNat (0 : Int)) (Int.toNat a1))) + List.length (cutl a0 (Int.toNat (Go.IntKind.wrap .i64 (a1 + (1 : Int)))) (Int.toNat ((List.length a0 : Nat) : Int)))) lim)
 (some ((List.append (List.append ([] : List THeld) (cutl a0 (Int.toNat (0 : Int)) (Int.toNat a1))) (cutl a0 (Int.toNat (Go.IntKind.wrap .i64 (a1 + (1 : Int)))) (Int.toNat ((List.length a0 : Nat) : Int)))), ()))
 none)
 none)
 none)
 none)

noncomputable def spec_IsMacro_3_R (t0 : (List TStep)) (t3 : (List THeld)) (t4 : Int) : Option ((((List TStep) × ((List THeld) × (Int × Unit))) × Unit) ⊕ ((((List TStep) × ((List THeld) × Unit)) × Unit) ⊕ ((Bool × Unit) × Unit))) :=
 (cond (decide (t4 < ((List.length t0 : Nat) : Int)))
 (Option.bind (idx t0 t4) fun x15 =>
 (Option.bind (spec_l8Find t3 x15) fun r16 =>
 (Option.bind (spec_l1In x15.1 (0 : Int) (2 : Int)) fun r17 =>
 (cond (!r17.1)
 (some (.inr (.inr ((false, ()), ()))))
 (Option.bind (spec_l8Action x15) fun r18 =>
 (Option.bind (spec_IsAction r18.1) fun r19 =>
 (cond (!r19.1)
 (some (.inr (.inr ((false, ()), ()))))
 (cond ((x15.1 == (2 : Int)) != (decide (r16.1 ≥ (0 : Int))))
 (some (.inr (.inr ((false, ()), ()))))
 (cond (x15.1 == (1 : Int))
 (Option.bind (spec_l8Action x15) fun r20 =>
 (cond (Nat.ble (List.length t3 + List.length ([((0 : Int), r20.1, ())] : List THeld)) lim)
 (some (.inl ((t0, (List.append t3 ([((0 : Int), r20.1, ())] : List THeld)), (Go.IntKind.wrap .i64 (t4 + (1 : Int))), ()), ())))
 none))
 (cond (x15.1 == (2 : Int))
 (Option.bind (spec_l8Without t3 r16.1) fun r21 =>
 (some (.inl ((t0, r21.1, (Go.IntKind.wrap .i64 (t4 + (1 : Int))), ()), ()))))
 (some (.inl ((t0, t3, (Go.IntKind.wrap .i64 (t4 + (1 : Int))), ()), ())))))))))))))
 (some (.inr (.inl ((t0, t3, ()), ())))))
noncomputable def spec_IsMacro_3_loop (x : (((List TStep) × ((List THeld) × (Int × Unit))) × Unit)) : Option ((((List TStep) × ((List THeld) × Unit)) × Unit) ⊕ ((Bool × Unit) × Unit)) := loopF (fun x : (((List TStep) × ((List THeld) × (Int × Unit))) × Unit) => spec_IsMacro_3_R x.1.1 x.1.2.1 x.1.2.2.1) x
noncomputable def spec_IsMacro (a0 : (List TStep)) : Option (Bool × Unit) :=
 (Option.bind (spec_IsMacro_3_loop ((a0, ([] : List THeld), (0 : Int), ()), ())) (Sum.elim (fun y22 => (cond (decide (((List.length y22.1.1 : Nat) : Int) ≤ (8 : Int)))
 (some ((((List.length y22.1.2.1 : Nat) : Int) == (0 : Int)), ()))
 (some (false, ())))) (fun z23 => (some (z23.1.1, ())))))

noncomputable def spec_IsEngine_4_R (t1 : Unit) (t3 : Int) (b1 : TEngine) : Option (((Unit × (Int × Unit)) × (TEngine × Unit)) ⊕ (((Unit × Unit) × (TEngine × Unit)) ⊕ ((Bool × Unit) × Unit))) :=
 (cond (decide (t3 < ((List.length b1.2.1 : Nat) : Int)))
 (Option.bind (idx b1.2.1 t3) fun x7 =>
 (Option.bind (spec_IsMacro x7) fun r8 =>
 (cond (!r8.1)
 (some (.inr (.inr ((false, ()), ()))))
 (some (.inl (((), (Go.IntKind.wrap .i64 (t3 + (1 : Int))), ()), (b1, ())))))))
 (some (.inr (.inl (((), ()), (b1, ()))))))
noncomputable def spec_IsEngine_4_loop (x : ((Unit × (Int × Unit)) × (TEngine × Unit))) : Option (((Unit × Unit) × (TEngine × Unit)) ⊕ ((Bool × Unit) × Unit)) := loopF (fun x : ((Unit × (Int × Unit)) × (TEngine × Unit)) => spec_IsEngine_4_R x.1.1 x.1.2.1 x.2.1) x
noncomputable def spec_IsEngine_9_R (t1 : Unit) (t4 : Int) (b1 : TEngine) : Option (((Unit × (Int × Unit)) × (TEngine × Unit)) ⊕ (((Unit × Unit) × (TEngine × Unit)) ⊕ ((Bool × Unit) × Unit))) :=
 (cond (decide (t4 < ((List.length b1.2.2.2.1 : Nat) : Int)))
 (Option.bind (idx b1.2.2.2.1 t4) fun x17 =>
 (cond (decide (x17.1 ≥ b1.1.1))
 (some (.inr (.inr ((false, ()), ()))))
 (Option.bind (idx b1.2.2.2.1 t4) fun x18 =>
 (cond (x18.2.1.1 != (9 : Int))
 (Option.bind (idx b1.2.2.2.1 t4) fun x19 =>
 (cond (decide (x19.2.1.2.2.2.1 ≥ ((List.length b1.1.2.1 : Nat) : Int)))
 (some (.inr (.inr ((false, ()), ()))))
 (some (.inl (((), (Go.IntKind.wrap .i64 (t4 + (1 : Int))), ()), (b1, ()))))))
 (some (.inl (((), (Go.IntKind.wrap .i64 (t4 + (1 : Int))), ()), (b1, ()))))))))
 (some (.inr (.inl (((), ()), (b1, ()))))))
noncomputable def spec_IsEngine_9_loop (x : ((Unit × (Int × Unit)) × (TEngine × Unit))) : Option (((Unit × Unit) × (TEngine × Unit)) ⊕ ((Bool × Unit) × Unit)) := loopF (fun x : ((Unit × (Int × Unit)) × (TEngine × Unit)) => spec_IsEngine_9_R x.1.1 x.1.2.1 x.2.1) x
noncomputable def spec_IsEngine (a0 : TEngine) : Option (Bool × Unit) :=
 (Option.bind (spec_IsKeymap a0.1) fun r1 =>
 (cond (!r1.1)
 (some (false, ()))
 (cond (decide (((List.length a0.2.1 : Nat) : Int) > (4 : Int)))
 (some (false, ()))
 (Option.bind (spec_IsHeld a0.2.2.2.1) fun r2 =>
 (cond (!r2.1)
 (some (false, ()))
 (Option.bind (spec_IsEngine_4_loop (((), (0 : Int), ()), (a0, ()))) (Sum.elim (fun y9 => (Option.bind (spec_IsEngine_9_loop (((), (0 : Int), ()), (y9.2.1, ()))) (Sum.elim (fun y20 => (cond (decide ((0 : Int) ≤ ((List.length y20.2.1.1.2.1 : Nat) : Int)))
 (Option.bind (spec_l1In y20.2.1.2.2.1 (0 : Int) (Go.IntKind.wrap .i64 ((ishl .i64 (1 : Int) ((List.length y20.2.1.1.2.1 : Nat) : Int)) - (1 : Int)))) fun r22 =>
 (cond r22.1
 (cond ((2 : Int) == (0 : Int))
 none
 (cond ((Int.tmod y20.2.1.2.2.1 (2 : Int)) == (0 : Int))
 (Option.bind (spec_l1In y20.2.1.2.2.2.2.1 (0 : Int) (15 : Int)) fun r23 =>
 (some (r23.1, ())))
 (some (false, ()))))
 (some (false, ()))))
 none)) (fun z21 => (some (z21.1.1, ())))))) (fun z10 => (some (z10.1.1, ()))))))))))

noncomputable def spec_l9Copy_5_R (t1 : Unit) (t2 : Unit) (t3 : Unit) (t4 : Int) (b1 : TEngine) (b2 : TEngine) (b3 : TEngine) : Option (((Unit × (Unit × (Unit × (Int × Unit)))) × (TEngine × (TEngine × (TEngine × Unit)))) ⊕ (((Unit × (Unit × (Unit × Unit))) × (TEngine × (TEngine × (TEngine × Unit)))) ⊕ (Unit × Unit))) :=
 (cond (decide (t4 < ((List.length b1.2.1 : Nat) : Int)))
 (Option.bind (idx b1.2.1 t4) fun x4 =>
 (cond (Nat.ble (List.length ([] : List TStep) + List.length x4) lim)
 (cond (Nat.ble (List.length b3.2.1 + List.length ([(List.append ([] : List TStep) x4)] : List (List TStep))) lim)
 (some (.inl (((), (), (), (Go.IntKind.wrap .i64 (t4 + (1 : Int))), ()), (b1, ((b2.1.1, b2.1.2.1, ()), b2.2), ((b3.1.1, b3.1.2.1, ()), (List.append b3.2.1 ([(List.append ([] : List TStep) x4)] : List (List TStep))), b3.2.2), ()))))
 none)
 none))
 (some (.inr (.inl (((), (), (), ()), (b1, ((b2.1.1, b2.1.2.1, ()), b2.2), ((b3.1.1, b3.1.2.1, ()), b3.2), ()))))))
noncomputable def spec_l9Copy_5_loop (x : ((Unit × (Unit × (Unit × (Int × Unit)))) × (TEngine × (TEngine × (TEngine × Unit))))) : Option (((Unit × (Unit × (Unit × Unit))) × (TEngine × (TEngine × (TEngine × Unit)))) ⊕ (Unit × Unit)) := loopF (fun x : ((Unit × (Unit × (Unit × (Int × Unit)))) × (TEngine × (TEngine × (TEngine × Unit)))) => spec_l9Copy_5_R x.1.1 x.1.2.1 x.1.2.2.1 x.1.2.2.2.1 x.2.1 x.2.2.1 x.2.2.2.1) x
noncomputable def spec_l9Copy (a0 : TEngine) : Option (TEngine × Unit) :=
 (Option.bind (spec_l6Copy a0.1) fun r1 =>
 (Option.bind (spec_l9Copy_5_loop (((), (), (), (0 : Int), ()), (a0, (((0 : Int), ([] : List (List TAction)), ()), ([] : List (List TStep)), (0 : Int), ([] : List THeld), (0 : Int), false, ()), (r1.1, ([] : List (List TStep)), a0.2.2), ()))) (Sum.elim (fun y5 => (cond (Nat.ble (List.length ([] : List THeld) + List.length y5.2.1.2.2.2.1) lim)
 (some (((y5.2.2.2.1.1.1, y5.2.2.2.1.1.2.1, ()), y5.2.2.2.1.2.1, y5.2.2.2.1.2.2.1, (List.append ([] : List THeld) y5.2.1.2.2.2.1), y5.2.2.2.1.2.2.2.2), ()))
 none)) (fun z6 => none))))

noncomputable def spec_NewEngine (a0 : TKeymap) (a1 : (List (List TStep))) : Option (TEngine × (Bool × Unit)) :=
 (Option.bind (spec_IsEngine (a0, a1, (0 : Int), ([] : List THeld), (0 : Int), false, ())) fun r1 =>
 (cond (!r1.1)
 (some ((((0 : Int), ([] : List (List TAction)), ()), ([] : List (List TStep)), (0 : Int), ([] : List THeld), (0 : Int), false, ()), false, ()))
 (Option.bind (spec_l9Copy (a0, a1, (0 : Int), ([] : List THeld), (0 : Int), false, ())) fun r2 =>
 (some (r2.1, true, ())))))

noncomputable def spec_HeldAt_2_R (t1 : Int) (t2 : Unit) (t5 : Int) (b2 : TEngine) : Option (((Int × (Unit × (Int × Unit))) × (TEngine × Unit)) ⊕ ((Unit × Unit) ⊕ ((Int × Unit) × Unit))) :=
 (cond (decide (t5 < ((List.length b2.2.2.2.1 : Nat) : Int)))
 (Option.bind (idx b2.2.2.2.1 t5) fun x3 =>
 (cond (x3.1 == t1)
 (some (.inr (.inr ((t5, ()), ()))))
 (some (.inl ((t1, (), (Go.IntKind.wrap .i64 (t5 + (1 : Int))), ()), (b2, ()))))))
 (some (.inr (.inl ((), ())))))
noncomputable def spec_HeldAt_2_loop (x : ((Int × (Unit × (Int × Unit))) × (TEngine × Unit))) : Option ((Unit × Unit) ⊕ ((Int × Unit) × Unit)) := loopF (fun x : ((Int × (Unit × (Int × Unit))) × (TEngine × Unit)) => spec_HeldAt_2_R x.1.1 x.1.2.1 x.1.2.2.1 x.2.1) x
noncomputable def spec_HeldAt (a0 : TEngine) (a1 : Int) : Option (Int × Unit) :=
 (Option.bind (spec_HeldAt_2_loop ((a1, (), (0 : Int), ()), (a0, ()))) (Sum.elim (fun y4 => (some ((-1 : Int), ()))) (fun z5 => (some (z5.1.1, ())))))

noncomputable def spec_LayersOn_5_R (t1 : (List THeld)) (t5 : Int) (t6 : Int) : Option ((((List THeld) × TCombo) × Unit) ⊕ (((Int × Unit) × Unit) ⊕ (Unit × Unit))) :=
 (cond (decide (t6 < ((List.length t1 : Nat) : Int)))
 (Option.bind (spec_IsHeld t1) fun r19 =>
 (cond r19.1
 (Option.bind (idx t1 t6) fun x20 =>
 (cond (x20.2.1.1 == (3 : Int))
 (Option.bind (idx t1 t6) fun x21 =>
 (cond (decide ((0 : Int) ≤ x21.2.1.2.2.2.1))
 (some (.inl ((t1, (ior .i64 t5 (ishl .i64 (1 : Int) x21.2.1.2.2.2.1)), (Go.IntKind.wrap .i64 (t6 + (1 : Int))), ()), ())))
 none))
 (some (.inl ((t1, t5, (Go.IntKind.wrap .i64 (t6 + (1 : Int))), ()), ())))))
 (some (.inr (.inl ((t5, ()), ()))))))
 (some (.inr (.inl ((t5, ()), ())))))
noncomputable def spec_LayersOn_5_loop (x : (((List THeld) × TCombo) × Unit)) : Option (((Int × Unit) × Unit) ⊕ (Unit × Unit)) := loopF (fun x : (((List THeld) × TCombo) × Unit) => spec_LayersOn_5_R x.1.1 x.1.2.1 x.1.2.2.1) x
noncomputable def spec_LayersOn (a0 : Int) (a1 : (List THeld)) : Option (Int × Unit) :=
 (Option.bind (spec_l1In a0 (0 : Int) (15 : Int)) fun r1 =>
 (cond r1.1
 (Option.bind (spec_LayersOn_5_loop ((a1, (ior .i64 (1 : Int) a0), (0 : Int), ()), ())) (Sum.elim (fun y11 => (some (y11.1.1, ()))) (fun z12 => none)))
 (Option.bind (spec_LayersOn_5_loop ((a1, (1 : Int), (0 : Int), ()), ())) (Sum.elim (fun y22 => (some (y22.1.1, ()))) (fun z23 => none)))))

noncomputable def spec_IsWordCode (a0 : Int) : Option (Bool × Unit) :=
 (Option.bind (spec_l1In a0 (1 : Int) (36 : Int)) fun r1 =>
 (cond r1.1
 (some (true, ()))
 (cond (a0 == (39 : Int))
 (some (true, ()))
 (some ((a0 == (42 : Int)), ())))))

noncomputable def spec_l9Key (a0 : TEngine) (a1 : TAction) : Option (TEngine × (TAction × Unit)) :=
 (Option.bind (spec_IsWordCode a1.2.1) fun r1 =>
 (cond (!r1.1)
 (some ((a0.1, a0.2.1, a0.2.2.1, a0.2.2.2.1, (0 : Int), false, a0.2.2.2.2.2.2), ((a1.1, a1.2.1, (ior .i64 a1.2.2.1 a0.2.2.2.2.1), a1.2.2.2), ())))
 (cond a0.2.2.2.2.2.1
 (cond (decide (a1.2.1 ≤ (26 : Int)))
 (cond ((iandn .i64 (ior .i64 a1.2.2.1 a0.2.2.2.2.1) (2 : Int)) == (0 : Int))
 (some ((a0.1, a0.2.1, a0.2.2.1, a0.2.2.2.1, (0 : Int), a0.2.2.2.2.2), ((a1.1, a1.2.1, (2 : Int), a1.2.2.2), ())))
 (some ((a0.1, a0.2.1, a0.2.2.1, a0.2.2.2.1, (0 : Int), a0.2.2.2.2.2), ((a1.1, a1.2.1, (ior .i64 a1.2.2.1 a0.2.2.2.2.1), a1.2.2.2), ()))))
 (some ((a0.1, a0.2.1, a0.2.2.1, a0.2.2.2.1, (0 : Int), a0.2.2.2.2.2), ((a1.1, a1.2.1, (ior .i64 a1.2.2.1 a0.2.2.2.2.1), a1.2.2.2), ()))))
 (some ((a0.1, a0.2.1, a0.2.2.1, a0.2.2.2.1, (0 : Int), a0.2.2.2.2.2), ((a1.1, a1.2.1, (ior .i64 a1.2.2.1 a0.2.2.2.2.1), a1.2.2.2), ()))))))

noncomputable def spec_l9Settle (a0 : TEngine) (a1 : TAction) : Option (TEngine × (TAction × Unit)) :=
 (cond (a1.1 == (2 : Int))
 (cond (decide (a1.2.1 > (0 : Int)))
 (Option.bind (spec_l9Key a0 a1) fun r1 =>
 (some (r1.1, (r1.2.1, ()))))
 (some (a0, (a1, ()))))
 (cond (a1.1 == (4 : Int))
 (cond (decide ((0 : Int) ≤ a1.2.2.2.1))
 (some ((a0.1, a0.2.1, (ixor .i64 a0.2.2.1 (ishl .i64 (1 : Int) a1.2.2.2.1)), a0.2.2.2), (a1, ())))
 none)
 (cond (a1.1 == (5 : Int))
 (cond (decide ((0 : Int) ≤ a1.2.2.2.1))
 (some ((a0.1, a0.2.1, (iandn .i64 (ishl .i64 (1 : Int) a1.2.2.2.1) (1 : Int)), a0.2.2.2), (a1, ())))
 none)
 (cond (a1.1 == (8 : Int))
 (cond ((iand .i64 a0.2.2.2.2.1 a1.2.2.1) == a1.2.2.1)
 (some ((a0.1, a0.2.1, a0.2.2.1, a0.2.2.2.1, (iandn .i64 a0.2.2.2.2.1 a1.2.2.1), a0.2.2.2.2.2), (a1, ())))
 (some ((a0.1, a0.2.1, a0.2.2.1, a0.2.2.2.1, (ior .i64 a0.2.2.2.2.1 a1.2.2.1), a0.2.2.2.2.2), (a1, ()))))
 (cond (a1.1 == (10 : Int))
 (some ((a0.1, a0.2.1, a0.2.2.1, a0.2.2.2.1, a0.2.2.2.2.1, (!a0.2.2.2.2.2.1), a0.2.2.2.2.2.2), (a1, ())))
 (some (a0, (a1, ()))))))))

noncomputable def spec_ReportOf_5_R (t0 : (List THeld)) (t2 : Unit) (t3 : Unit) (t4 : Int) (b2 : TReport) (b3 : TReport) : Option ((((List THeld) × (Unit × (Unit × (Int × Unit)))) × (TReport × (TReport × Unit))) ⊕ ((((List THeld) × (Unit × (Unit × Unit))) × (TReport × (TReport × Unit))) ⊕ (Unit × Unit))) :=
 (cond (decide (t4 < ((List.length t0 : Nat) : Int)))
 (Option.bind (idx t0 t4) fun x10 =>
 (cond (x10.2.1.1 == (2 : Int))
 (Option.bind (idx t0 t4) fun x11 =>
 (some (.inl ((t0, (), (), (Go.IntKind.wrap .i64 (t4 + (1 : Int))), ()), ((b2.1, b2.2.1, ()), ((ior .i64 b3.1 x11.2.1.2.2.1), b3.2.1, ()), ())))))
 (Option.bind (idx t0 t4) fun x12 =>
 (cond (x12.2.1.1 == (8 : Int))
 (Option.bind (idx t0 t4) fun x13 =>
 (some (.inl ((t0, (), (), (Go.IntKind.wrap .i64 (t4 + (1 : Int))), ()), ((b2.1, b2.2.1, ()), ((ior .i64 b3.1 x13.2.1.2.2.1), b3.2.1, ()), ())))))
 (some (.inl ((t0, (), (), (Go.IntKind.wrap .i64 (t4 + (1 : Int))), ()), ((b2.1, b2.2.1, ()), (b3.1, b3.2.1, ()), ()))))))))
 (some (.inr (.inl ((t0, (), (), ()), ((b2.1, b2.2.1, ()), (b3.1, b3.2.1, ()), ()))))))
noncomputable def spec_ReportOf_5_loop (x : (((List THeld) × (Unit × (Unit × (Int × Unit)))) × (TReport × (TReport × Unit)))) : Option ((((List THeld) × (Unit × (Unit × Unit))) × (TReport × (TReport × Unit))) ⊕ (Unit × Unit)) := loopF (fun x : (((List THeld) × (Unit × (Unit × (Int × Unit)))) × (TReport × (TReport × Unit))) => spec_ReportOf_5_R x.1.1 x.1.2.1 x.1.2.2.1 x.1.2.2.2.1 x.2.1 x.2.2.1) x
noncomputable def spec_ReportOf_13_R (t0 : (List THeld)) (t2 : Unit) (t3 : Unit) (t5 : Int) (t6 : Int) (b2 : TReport) (b3 : TReport) : Option ((((List THeld) × (Unit × (Unit × TCombo))) × (TReport × (TReport × Unit))) ⊕ ((((List THeld) × (Unit × (Unit × (Int × Unit)))) × (TReport × (TReport × Unit))) ⊕ (Unit × Unit))) :=
 (cond (decide (t6 < ((List.length t0 : Nat) : Int)))
 (Option.bind (idx t0 t6) fun x28 =>
 (cond (x28.2.1.2.1 == t5)
 (cond (Nat.ble (List.length b3.2.1 + List.length ([t5] : List Int)) lim)
 (some (.inr (.inl ((t0, (), (), t5, ()), ((b2.1, b2.2.1, ()), (b3.1, (List.append b3.2.1 ([t5] : List Int)), ()), ())))))
 none)
 (some (.inl ((t0, (), (), t5, (Go.IntKind.wrap .i64 (t6 + (1 : Int))), ()), ((b2.1, b2.2.1, ()), (b3.1, b3.2.1, ()), ()))))))
 (some (.inr (.inl ((t0, (), (), t5, ()), ((b2.1, b2.2.1, ()), (b3.1, b3.2.1, ()), ()))))))
noncomputable def spec_ReportOf_13_loop (x : (((List THeld) × (Unit × (Unit × TCombo))) × (TReport × (TReport × Unit)))) : Option ((((List THeld) × (Unit × (Unit × (Int × Unit)))) × (TReport × (TReport × Unit))) ⊕ (Unit × Unit)) := loopF (fun x : (((List THeld) × (Unit × (Unit × TCombo))) × (TReport × (TReport × Unit))) => spec_ReportOf_13_R x.1.1 x.1.2.1 x.1.2.2.1 x.1.2.2.2.1 x.1.2.2.2.2.1 x.2.1 x.2.2.1) x
noncomputable def spec_ReportOf_10_R (t0 : (List THeld)) (t2 : Unit) (t3 : Unit) (t5 : Int) (b2 : TReport) (b3 : TReport) : Option ((((List THeld) × (Unit × (Unit × (Int × Unit)))) × (TReport × (TReport × Unit))) ⊕ (((Unit × (Unit × Unit)) × (TReport × (TReport × Unit))) ⊕ (Unit × Unit))) :=
 (cond (decide (t5 ≤ (56 : Int)))
 (Option.bind (spec_ReportOf_13_loop ((t0, (), (), t5, (0 : Int), ()), ((b2.1, b2.2.1, ()), (b3.1, b3.2.1, ()), ()))) (Sum.elim (fun y29 => (some (.inl ((y29.1.1, (), (), (Go.IntKind.wrap .i64 (y29.1.2.2.2.1 + (1 : Int))), ()), ((y29.2.1.1, y29.2.1.2.1, ()), (y29.2.2.1.1, y29.2.2.1.2.1, ()), ()))))) (fun z30 => (some (.inr (.inr ((), ())))))))
 (some (.inr (.inl (((), (), ()), ((b2.1, b2.2.1, ()), (b3.1, b3.2.1, ()), ()))))))
noncomputable def spec_ReportOf_10_loop (x : (((List THeld) × (Unit × (Unit × (Int × Unit)))) × (TReport × (TReport × Unit)))) : Option (((Unit × (Unit × Unit)) × (TReport × (TReport × Unit))) ⊕ (Unit × Unit)) := loopF (fun x : (((List THeld) × (Unit × (Unit × (Int × Unit)))) × (TReport × (TReport × Unit))) => spec_ReportOf_10_R x.1.1 x.1.2.1 x.1.2.2.1 x.1.2.2.2.1 x.2.1 x.2.2.1) x
noncomputable def spec_ReportOf (a0 : (List THeld)) : Option (TReport × Unit) :=
 (Option.bind (spec_IsHeld a0) fun r1 =>
 (cond (!r1.1)
 (some (((0 : Int), ([] : List Int), ()), ()))
 (Option.bind (spec_ReportOf_5_loop ((a0, (), (), (0 : Int), ()), (((0 : Int), ([] : List Int), ()), ((0 : Int), ([] : List Int), ()), ()))) (Sum.elim (fun y14 => (Option.bind (spec_ReportOf_10_loop ((y14.1.1, (), (), (1 : Int), ()), ((y14.2.1.1, y14.2.1.2.1, ()), (y14.2.2.1.1, y14.2.2.1.2.1, ()), ()))) (Sum.elim (fun y31 => (some ((y31.2.2.1.1, y31.2.2.1.2.1, ()), ()))) (fun z32 => none)))) (fun z15 => none)))))

noncomputable def spec_l8Report_3_R (t1 : (List THeld)) (t4 : Unit) (t5 : Unit) (t6 : Int) (b4 : TReport) (b5 : TReport) : Option ((((List THeld) × (Unit × (Unit × (Int × Unit)))) × (TReport × (TReport × Unit))) ⊕ ((((List THeld) × (Unit × (Unit × Unit))) × (TReport × (TReport × Unit))) ⊕ (Unit × Unit))) :=
 (cond (decide (t6 < ((List.length t1 : Nat) : Int)))
 (Option.bind (idx t1 t6) fun x4 =>
 (some (.inl ((t1, (), (), (Go.IntKind.wrap .i64 (t6 + (1 : Int))), ()), ((b4.1, b4.2.1, ()), ((ior .i64 b5.1 x4.2.1.2.2.1), b5.2.1, ()), ())))))
 (some (.inr (.inl ((t1, (), (), ()), ((b4.1, b4.2.1, ()), (b5.1, b5.2.1, ()), ()))))))
noncomputable def spec_l8Report_3_loop (x : (((List THeld) × (Unit × (Unit × (Int × Unit)))) × (TReport × (TReport × Unit)))) : Option ((((List THeld) × (Unit × (Unit × Unit))) × (TReport × (TReport × Unit))) ⊕ (Unit × Unit)) := loopF (fun x : (((List THeld) × (Unit × (Unit × (Int × Unit)))) × (TReport × (TReport × Unit))) => spec_l8Report_3_R x.1.1 x.1.2.1 x.1.2.2.1 x.1.2.2.2.1 x.2.1 x.2.2.1) x
noncomputable def spec_l8Report_12_R (t1 : (List THeld)) (t4 : Unit) (t5 : Unit) (t7 : (List Int)) (t8 : Int) (t9 : Bool) (t10 : Int) (b4 : TReport) (b5 : TReport) : Option ((((List THeld) × (Unit × (Unit × ((List Int) × (Int × (Bool × (Int × Unit))))))) × (TReport × (TReport × Unit))) ⊕ ((((List THeld) × (Unit × (Unit × ((List Int) × (Int × (Bool × Unit)))))) × (TReport × (TReport × Unit))) ⊕ (Unit × Unit))) :=
 (cond (decide (t10 < ((List.length b5.2.1 : Nat) : Int)))
 (cond t9
 (some (.inl ((t1, (), (), t7, t8, true, (Go.IntKind.wrap .i64 (t10 + (1 : Int))), ()), ((b4.1, b4.2.1, ()), (b5.1, b5.2.1, ()), ()))))
 (cond (inb (List.length b5.2.1) t10)
 (Option.bind b5.2.1[(Int.toNat t10)]? fun x29 =>
 (some (.inl ((t1, (), (), t7, t8, (x29 == t8), (Go.IntKind.wrap .i64 (t10 + (1 : Int))), ()), ((b4.1, b4.2.1, ()), (b5.1, b5.2.1, ()), ())))))
 none))
 (some (.inr (.inl ((t1, (), (), t7, t8, t9, ()), ((b4.1, b4.2.1, ()), (b5.1, b5.2.1, ()), ()))))))
noncomputable def spec_l8Report_12_loop (x : (((List THeld) × (Unit × (Unit × ((List Int) × (Int × (Bool × (Int × Unit))))))) × (TReport × (TReport × Unit)))) : Option ((((List THeld) × (Unit × (Unit × ((List Int) × (Int × (Bool × Unit)))))) × (TReport × (TReport × Unit))) ⊕ (Unit × Unit)) := loopF (fun x : (((List THeld) × (Unit × (Unit × ((List Int) × (Int × (Bool × (Int × Unit))))))) × (TReport × (TReport × Unit))) => spec_l8Report_12_R x.1.1 x.1.2.1 x.1.2.2.1 x.1.2.2.2.1 x.1.2.2.2.2.1 x.1.2.2.2.2.2.1 x.1.2.2.2.2.2.2.1 x.2.1 x.2.2.1) x
noncomputable def spec_l8Report_16_R (t1 : (List THeld)) (t4 : Unit) (t5 : Unit) (t7 : (List Int)) (t8 : Int) (t9 : Bool) (t11 : Int) (b4 : TReport) (b5 : TReport) : Option ((((List THeld) × (Unit × (Unit × ((List Int) × (Int × (Bool × (Int × Unit))))))) × (TReport × (TReport × Unit))) ⊕ ((((List THeld) × (Unit × (Unit × ((List Int) × (Int × (Bool × Unit)))))) × (TReport × (TReport × Unit))) ⊕ (Unit × Unit))) :=
 (cond (decide (t11 < ((List.length t1 : Nat) : Int)))
 (cond t9
 (some (.inl ((t1, (), (), t7, t8, true, (Go.IntKind.wrap .i64 (t11 + (1 : Int))), ()), ((b4.1, b4.2.1, ()), (b5.1, b5.2.1, ()), ()))))
 (Option.bind (idx t1 t11) fun x34 =>
 (some (.inl ((t1, (), (), t7, t8, (x34.2.1.2.1 == t8), (Go.IntKind.wrap .i64 (t11 + (1 : Int))), ()), ((b4.1, b4.2.1, ()), (b5.1, b5.2.1, ()), ()))))))
 (some (.inr (.inl ((t1, (), (), t7, t8, t9, ()), ((b4.1, b4.2.1, ()), (b5.1, b5.2.1, ()), ()))))))
noncomputable def spec_l8Report_16_loop (x : (((List THeld) × (Unit × (Unit × ((List Int) × (Int × (Bool × (Int × Unit))))))) × (TReport × (TReport × Unit)))) : Option ((((List THeld) × (Unit × (Unit × ((List Int) × (Int × (Bool × Unit)))))) × (TReport × (TReport × Unit))) ⊕ (Unit × Unit)) := loopF (fun x : (((List THeld) × (Unit × (Unit × ((List Int) × (Int × (Bool × (Int × Unit))))))) × (TReport × (TReport × Unit))) => spec_l8Report_16_R x.1.1 x.1.2.1 x.1.2.2.1 x.1.2.2.2.1 x.1.2.2.2.2.1 x.1.2.2.2.2.2.1 x.1.2.2.2.2.2.2.1 x.2.1 x.2.2.1) x
noncomputable def spec_l8Report_8_R (t1 : (List THeld)) (t4 : Unit) (t5 : Unit) (t7 : (List Int)) (t8 : Int) (b4 : TReport) (b5 : TReport) : Option ((((List THeld) × (Unit × (Unit × ((List Int) × (Int × Unit))))) × (TReport × (TReport × Unit))) ⊕ (((Unit × (Unit × ((List Int) × Unit))) × (TReport × (TReport × Unit))) ⊕ (Unit × Unit))) :=
 (cond (decide (t8 ≤ (56 : Int)))
 (Option.bind (spec_l8Report_12_loop ((t1, (), (), t7, t8, false, (0 : Int), ()), ((b4.1, b4.2.1, ()), (b5.1, b5.2.1, ()), ()))) (Sum.elim (fun y30 => (Option.bind (spec_l8Report_16_loop ((y30.1.1, (), (), y30.1.2.2.2.1, y30.1.2.2.2.2.1, y30.1.2.2.2.2.2.1, (0 : Int), ()), ((y30.2.1.1, y30.2.1.2.1, ()), (y30.2.2.1.1, y30.2.2.1.2.1, ()), ()))) (Sum.elim (fun y35 => (cond y35.1.2.2.2.2.2.1
 (cond (Nat.ble (List.length y35.1.2.2.2.1 + List.length ([y35.1.2.2.2.2.1] : List Int)) lim)
 (some (.inl ((y35.1.1, (), (), (List.append y35.1.2.2.2.1 ([y35.1.2.2.2.2.1] : List Int)), (Go.IntKind.wrap .i64 (y35.1.2.2.2.2.1 + (1 : Int))), ()), ((y35.2.1.1, y35.2.1.2.1, ()), (y35.2.2.1.1, y35.2.2.1.2.1, ()), ()))))
 none)
 (some (.inl ((y35.1.1, (), (), y35.1.2.2.2.1, (Go.IntKind.wrap .i64 (y35.1.2.2.2.2.1 + (1 : Int))), ()), ((y35.2.1.1, y35.2.1.2.1, ()), (y35.2.2.1.1, y35.2.2.1.2.1, ()), ())))))) (fun z36 => (some (.inr (.inr ((), ())))))))) (fun z31 => (some (.inr (.inr ((), ())))))))
 (some (.inr (.inl (((), (), t7, ()), ((b4.1, b4.2.1, ()), (b5.1, b5.2.1, ()), ()))))))
noncomputable def spec_l8Report_8_loop (x : (((List THeld) × (Unit × (Unit × ((List Int) × (Int × Unit))))) × (TReport × (TReport × Unit)))) : Option (((Unit × (Unit × ((List Int) × Unit))) × (TReport × (TReport × Unit))) ⊕ (Unit × Unit)) := loopF (fun x : (((List THeld) × (Unit × (Unit × ((List Int) × (Int × Unit))))) × (TReport × (TReport × Unit))) => spec_l8Report_8_R x.1.1 x.1.2.1 x.1.2.2.1 x.1.2.2.2.1 x.1.2.2.2.2.1 x.2.1 x.2.2.1) x
noncomputable def spec_l8Report (a0 : (List THeld)) (a1 : (List THeld)) : Option (TReport × Unit) :=
 (Option.bind (spec_ReportOf a0) fun r1 =>
 (Option.bind (spec_l8Report_3_loop ((a1, (), (), (0 : Int), ()), (((0 : Int), ([] : List Int), ()), r1.1, ()))) (Sum.elim (fun y5 => (Option.bind (spec_l8Report_8_loop ((y5.1.1, (), (), ([] : List Int), (1 : Int), ()), ((y5.2.1.1, y5.2.1.2.1, ()), (y5.2.2.1.1, y5.2.2.1.2.1, ()), ()))) (Sum.elim (fun y37 => (some ((y37.2.2.1.1, y37.1.2.2.1, ()), ()))) (fun z38 => none)))) (fun z6 => none))))

noncomputable def spec_MacroReports_6_R (t0 : (List THeld)) (t1 : (List TStep)) (t5 : (List TReport)) (t6 : (List THeld)) (t7 : Int) : Option ((((List THeld) × ((List TStep) × ((List TReport) × ((List THeld) × (Int × Unit))))) × Unit) ⊕ ((((List TReport) × Unit) × Unit) ⊕ (Unit × Unit))) :=
 (cond (decide (t7 < ((List.length t1 : Nat) : Int)))
 (Option.bind (idx t1 t7) fun x21 =>
 (cond (x21.1 != (2 : Int))
 (Option.bind (spec_l8Action x21) fun r22 =>
 (cond (Nat.ble (List.length t6 + List.length ([((0 : Int), r22.1, ())] : List THeld)) lim)
 (Option.bind (spec_l8Report t0 (List.append t6 ([((0 : Int), r22.1, ())] : List THeld))) fun r23 =>
 (cond (Nat.ble (List.length t5 + List.length ([r23.1] : List TReport)) lim)
 (cond (x21.1 != (1 : Int))
 (Option.bind (spec_l8Find (List.append t6 ([((0 : Int), r22.1, ())] : List THeld)) x21) fun r24 =>
 (Option.bind (spec_l8Without (List.append t6 ([((0 : Int), r22.1, ())] : List THeld)) r24.1) fun r25 =>
 (Option.bind (spec_l8Report t0 r25.1) fun r26 =>
 (cond (Nat.ble (List.length (List.append t5 ([r23.1] : List TReport)) + List.length ([r26.1] : List TReport)) lim)
 (some (.inl ((t0, t1, (List.append (List.append t5 ([r23.1] : List TReport)) ([r26.1] : List TReport)), r25.1, (Go.IntKind.wrap .i64 (t7 + (1 : Int))), ()), ())))
 none))))
 (some (.inl ((t0, t1, (List.append t5 ([r23.1] : List TReport)), (List.append t6 ([((0 : Int), r22.1, ())] : List THeld)), (Go.IntKind.wrap .i64 (t7 + (1 : Int))), ()), ()))))
 none))
 none))
 (cond (x21.1 != (1 : Int))
 (Option.bind (spec_l8Find t6 x21) fun r27 =>
 (Option.bind (spec_l8Without t6 r27.1) fun r28 =>
 (Option.bind (spec_l8Report t0 r28.1) fun r29 =>
 (cond (Nat.ble (List.length t5 + List.length ([r29.1] : List TReport)) lim)
 (some (.inl ((t0, t1, (List.append t5 ([r29.1] : List TReport)), r28.1, (Go.IntKind.wrap .i64 (t7 + (1 : Int))), ()), ())))
 none))))
 (some (.inl ((t0, t1, t5, t6, (Go.IntKind.wrap .i64 (t7 + (1 : Int))), ()), ()))))))
 (some (.inr (.inl ((t5, ()), ())))))
noncomputable def spec_MacroReports_6_loop (x : (((List THeld) × ((List TStep) × ((List TReport) × ((List THeld) × (Int × Unit))))) × Unit)) : Option ((((List TReport) × Unit) × Unit) ⊕ (Unit × Unit)) := loopF (fun x : (((List THeld) × ((List TStep) × ((List TReport) × ((List THeld) × (Int × Unit))))) × Unit) => spec_MacroReports_6_R x.1.1 x.1.2.1 x.1.2.2.1 x.1.2.2.2.1 x.1.2.2.2.2.1) x
noncomputable def spec_MacroReports (a0 : (List THeld)) (a1 : (List TStep)) : Option ((List TReport) × Unit) :=
 (Option.bind (spec_IsHeld a0) fun r1 =>
 (cond (!r1.1)
 (some (([] : List TReport), ()))
 (Option.bind (spec_IsMacro a1) fun r2 =>
 (cond (!r2.1)
 (some (([] : List TReport), ()))
 (Option.bind (spec_MacroReports_6_loop ((a0, a1, ([] : List TReport), ([] : List THeld), (0 : Int), ()), ())) (Sum.elim (fun y30 => (some (y30.1.1, ()))) (fun z31 => none)))))))

noncomputable def spec_SameReport_4_R (t2 : Unit) (t3 : Unit) (t5 : Int) (b2 : TReport) (b3 : TReport) : Option (((Unit × (Unit × (Int × Unit))) × (TReport × (TReport × Unit))) ⊕ ((Unit × Unit) ⊕ ((Bool × Unit) × Unit))) :=
 (cond (decide (t5 < ((List.length b2.2.1 : Nat) : Int)))
 (Option.bind (idx b2.2.1 t5) fun x5 =>
 (Option.bind (idx b3.2.1 t5) fun x6 =>
 (cond (x5 != x6)
 (some (.inr (.inr ((false, ()), ()))))
 (some (.inl (((), (), (Go.IntKind.wrap .i64 (t5 + (1 : Int))), ()), (b2, b3, ())))))))
 (some (.inr (.inl ((), ())))))
noncomputable def spec_SameReport_4_loop (x : ((Unit × (Unit × (Int × Unit))) × (TReport × (TReport × Unit)))) : Option ((Unit × Unit) ⊕ ((Bool × Unit) × Unit)) := loopF (fun x : ((Unit × (Unit × (Int × Unit))) × (TReport × (TReport × Unit))) => spec_SameReport_4_R x.1.1 x.1.2.1 x.1.2.2.1 x.2.1 x.2.2.1) x
noncomputable def spec_SameReport (a0 : TReport) (a1 : TReport) : Option (Bool × Unit) :=
 (cond (a0.1 != a1.1)
 (some (false, ()))
 (cond (((List.length a0.2.1 : Nat) : Int) != ((List.length a1.2.1 : Nat) : Int))
 (some (false, ()))
 (Option.bind (spec_SameReport_4_loop (((), (), (0 : Int), ()), (a0, a1, ()))) (Sum.elim (fun y7 => (some (true, ()))) (fun z8 => (some (z8.1.1, ())))))))

noncomputable def spec_l9Changes_3_R (t1 : (List TReport)) (t2 : Unit) (t5 : (List TReport)) (t6 : Int) (b2 : TReport) : Option ((((List TReport) × (Unit × ((List TReport) × (Int × Unit)))) × (TReport × Unit)) ⊕ ((((List TReport) × Unit) × Unit) ⊕ (Unit × Unit))) :=
 (cond (decide (t6 < ((List.length t1 : Nat) : Int)))
 (Option.bind (idx t1 t6) fun x13 =>
 (Option.bind (spec_SameReport b2 x13) fun r14 =>
 (cond (!r14.1)
 (Option.bind (idx t1 t6) fun x15 =>
 (Option.bind (spec_l7Copy x15) fun r16 =>
 (cond (Nat.ble (List.length t5 + List.length ([r16.1] : List TReport)) lim)
 (Option.bind (idx t1 t6) fun x17 =>
 (some (.inl ((t1, (), (List.append t5 ([r16.1] : List TReport)), (Go.IntKind.wrap .i64 (t6 + (1 : Int))), ()), (x17, ())))))
 none)))
 (Option.bind (idx t1 t6) fun x18 =>
 (some (.inl ((t1, (), t5, (Go.IntKind.wrap .i64 (t6 + (1 : Int))), ()), (x18, ()))))))))
 (some (.inr (.inl ((t5, ()), ())))))
noncomputable def spec_l9Changes_3_loop (x : (((List TReport) × (Unit × ((List TReport) × (Int × Unit)))) × (TReport × Unit))) : Option ((((List TReport) × Unit) × Unit) ⊕ (Unit × Unit)) := loopF (fun x : (((List TReport) × (Unit × ((List TReport) × (Int × Unit)))) × (TReport × Unit)) => spec_l9Changes_3_R x.1.1 x.1.2.1 x.1.2.2.1 x.1.2.2.2.1 x.2.1) x
noncomputable def spec_l9Changes (a0 : TReport) (a1 : (List TReport)) : Option ((List TReport) × Unit) :=
 (Option.bind (spec_l9Changes_3_loop ((a1, (), ([] : List TReport), (0 : Int), ()), (a0, ()))) (Sum.elim (fun y19 => (some (y19.1.1, ()))) (fun z20 => none)))

noncomputable def spec_Press (a0 : TEngine) (a1 : Int) (a2 : Bool) : Option (TEngine × ((List TReport) × (Bool × Unit))) :=
 (Option.bind (spec_IsEngine a0) fun r1 =>
 (cond (!r1.1)
 (some ((((0 : Int), ([] : List (List TAction)), ()), ([] : List (List TStep)), (0 : Int), ([] : List THeld), (0 : Int), false, ()), ([] : List TReport), false, ()))
 (Option.bind (spec_l1In a1 (0 : Int) (Go.IntKind.wrap .i64 (a0.1.1 - (1 : Int)))) fun r2 =>
 (cond (!r2.1)
 (some ((((0 : Int), ([] : List (List TAction)), ()), ([] : List (List TStep)), (0 : Int), ([] : List THeld), (0 : Int), false, ()), ([] : List TReport), false, ()))
 (Option.bind (spec_HeldAt a0 a1) fun r3 =>
 (cond (decide (r3.1 ≥ (0 : Int)))
 (some ((((0 : Int), ([] : List (List TAction)), ()), ([] : List (List TStep)), (0 : Int), ([] : List THeld), (0 : Int), false, ()), ([] : List TReport), false, ()))
 (Option.bind (spec_l9Copy a0) fun r4 =>
 (Option.bind (spec_LayersOn a0.2.2.1 a0.2.2.2.1) fun r5 =>
 (Option.bind (spec_ActionAt a0.1 r5.1 a1) fun r6 =>
 (cond a2
 (Option.bind (spec_HoldOf r6.1) fun r7 =>
 (Option.bind (spec_l9Settle r4.1 r7.1) fun r8 =>
 (cond (Nat.ble (List.length r8.1.2.2.2.1 + List.length ([(a1, r8.2.1, ())] : List THeld)) lim)
 (cond (r8.2.1.1 == (9 : Int))
 (cond (decide (r8.2.1.2.2.2.1 < ((List.length a0.2.1 : Nat) : Int)))
 (Option.bind (idx a0.2.1 r8.2.1.2.2.2.1) fun x9 =>
 (Option.bind (spec_MacroReports (List.append r8.1.2.2.2.1 ([(a1, r8.2.1, ())] : List THeld)) x9) fun r10 =>
 (Option.bind (spec_ReportOf (List.append r8.1.2.2.2.1 ([(a1, r8.2.1, ())] : List THeld))) fun r11 =>
 (cond (Nat.ble (List.length r10.1 + List.length ([r11.1] : List TReport)) lim)
 (Option.bind (spec_ReportOf a0.2.2.2.1) fun r12 =>
 (Option.bind (spec_l9Changes r12.1 (List.append r10.1 ([r11.1] : List TReport))) fun r13 =>
 (some ((r8.1.1, r8.1.2.1, r8.1.2.2.1, (List.append r8.1.2.2.2.1 ([(a1, r8.2.1, ())] : List THeld)), r8.1.2.2.2.2), r13.1, true, ()))))
 none))))
 (Option.bind (spec_ReportOf (List.append r8.1.2.2.2.1 ([(a1, r8.2.1, ())] : List THeld))) fun r14 =>
 (cond (Nat.ble (List.length ([] : List TReport) + List.length ([r14.1] : List TReport)) lim)
 (Option.bind (spec_ReportOf a0.2.2.2.1) fun r15 =>
 (Option.bind (spec_l9Changes r15.1 (List.append ([] : List TReport) ([r14.1] : List TReport))) fun r16 =>
 (some ((r8.1.1, r8.1.2.1, r8.1.2.2.1, (List.append r8.1.2.2.2.1 ([(a1, r8.2.1, ())] : List THeld)), r8.1.2.2.2.2), r16.1, true, ()))))
 none)))
 (Option.bind (spec_ReportOf (List.append r8.1.2.2.2.1 ([(a1, r8.2.1, ())] : List THeld))) fun r17 =>
 (cond (Nat.ble (List.length ([] : List TReport) + List.length ([r17.1] : List TReport)) lim)
 (Option.bind (spec_ReportOf a0.2.2.2.1) fun r18 =>
 (Option.bind (spec_l9Changes r18.1 (List.append ([] : List TReport) ([r17.1] : List TReport))) fun r19 =>
 (some ((r8.1.1, r8.1.2.1, r8.1.2.2.1, (List.append r8.1.2.2.2.1 ([(a1, r8.2.1, ())] : List THeld)), r8.1.2.2.2.2), r19.1, true, ()))))
 none)))
 none)))
 (Option.bind (spec_TapOf r6.1) fun r20 =>
 (Option.bind (spec_l9Settle r4.1 r20.1) fun r21 =>
 (cond (Nat.ble (List.length r21.1.2.2.2.1 + List.length ([(a1, r21.2.1, ())] : List THeld)) lim)
 (cond (r21.2.1.1 == (9 : Int))
 (cond (decide (r21.2.1.2.2.2.1 < ((List.length a0.2.1 : Nat) : Int)))
 (Option.bind (idx a0.2.1 r21.2.1.2.2.2.1) fun x22 =>
 (Option.bind (spec_MacroReports (List.append r21.1.2.2.2.1 ([(a1, r21.2.1, ())] : List THeld)) x22) fun r23 =>
 (Option.bind (spec_ReportOf (List.append r21.1.2.2.2.1 ([(a1, r21.2.1, ())] : List THeld))) fun r24 =>
 (cond (Nat.ble (List.length r23.1 + List.length ([r24.1] : List TReport)) lim)
 (Option.bind (spec_ReportOf a0.2.2.2.1) fun r25 =>
 (Option.bind (spec_l9Changes r25.1 (List.append r23.1 ([r24.1] : List TReport))) fun r26 =>
 (some ((r21.1.1, r21.1.2.1, r21.1.2.2.1, (List.append r21.1.2.2.2.1 ([(a1, r21.2.1, ())] : List THeld)), r21.1.2.2.2.2), r26.1, true, ()))))
 none))))
 (Option.bind (spec_ReportOf (List.append r21.1.2.2.2.1 ([(a1, r21.2.1, ())] : List THeld))) fun r27 =>
 (cond (Nat.ble (List.length ([] : List TReport) + List.length ([r27.1] : List TReport)) lim)
 (Option.bind (spec_ReportOf a0.2.2.2.1) fun r28 =>
 (Option.bind (spec_l9Changes r28.1 (List.append ([] : List TReport) ([r27.1] : List TReport))) fun r29 =>
 (some ((r21.1.1, r21.1.2.1, r21.1.2.2.1, (List.append r21.1.2.2.2.1 ([(a1, r21.2.1, ())] : List THeld)), r21.1.2.2.2.2), r29.1, true, ()))))
 none)))
 (Option.bind (spec_ReportOf (List.append r21.1.2.2.2.1 ([(a1, r21.2.1, ())] : List THeld))) fun r30 =>
 (cond (Nat.ble (List.length ([] : List TReport) + List.length ([r30.1] : List TReport)) lim)
 (Option.bind (spec_ReportOf a0.2.2.2.1) fun r31 =>
 (Option.bind (spec_l9Changes r31.1 (List.append ([] : List TReport) ([r30.1] : List TReport))) fun r32 =>
 (some ((r21.1.1, r21.1.2.1, r21.1.2.2.1, (List.append r21.1.2.2.2.1 ([(a1, r21.2.1, ())] : List THeld)), r21.1.2.2.2.2), r32.1, true, ()))))
 none)))
 none)))))))))))))

noncomputable def spec_Release (a0 : TEngine) (a1 : Int) : Option (TEngine × ((List TReport) × (Bool × Unit))) :=
 (Option.bind (spec_HeldAt a0 a1) fun r1 =>
 (Option.bind (spec_IsEngine a0) fun r2 =>
 (cond (!r2.1)
 (some ((((0 : Int), ([] : List (List TAction)), ()), ([] : List (List TStep)), (0 : Int), ([] : List THeld), (0 : Int), false, ()), ([] : List TReport), false, ()))
 (cond (decide (r1.1 < (0 : Int)))
 (some ((((0 : Int), ([] : List (List TAction)), ()), ([] : List (List TStep)), (0 : Int), ([] : List THeld), (0 : Int), false, ()), ([] : List TReport), false, ()))
 (Option.bind (spec_l9Copy a0) fun r3 =>
 (Option.bind (spec_l8Without r3.1.2.2.2.1 r1.1) fun r4 =>
 (Option.bind (spec_ReportOf a0.2.2.2.1) fun r5 =>
 (Option.bind (spec_ReportOf r4.1) fun r6 =>
 (Option.bind (spec_l9Changes r5.1 ([r6.1] : List TReport)) fun r7 =>
 (some ((r3.1.1, r3.1.2.1, r3.1.2.2.1, r4.1, r3.1.2.2.2.2), r7.1, true, ())))))))))))

noncomputable def spec_TapKeys_4_R (t1 : (List Int)) (t4 : Unit) (t7 : (List TReport)) (t8 : Unit) (t9 : Int) (b4 : TEngine) (b8 : TEngine) : Option ((((List Int) × (Unit × ((List TReport) × (Unit × (Int × Unit))))) × (TEngine × (TEngine × Unit))) ⊕ (((Unit × ((List TReport) × (Unit × Unit))) × (TEngine × (TEngine × Unit))) ⊕ ((Unit × ((List TReport) × (Bool × Unit))) × (TEngine × Unit)))) :=
 (cond (decide (t9 < ((List.length t1 : Nat) : Int)))
 (Option.bind (idx t1 t9) fun x13 =>
 (Option.bind (spec_Press b8 x13 false) fun r14 =>
 (Option.bind (idx t1 t9) fun x15 =>
 (Option.bind (spec_Release r14.1 x15) fun r16 =>
 (cond (!r14.2.2.1)
 (some (.inr (.inr (((), ([] : List TReport), false, ()), ((((0 : Int), ([] : List (List TAction)), ()), ([] : List (List TStep)), (0 : Int), ([] : List THeld), (0 : Int), false, ()), ())))))
 (cond (!r16.2.2.1)
 (some (.inr (.inr (((), ([] : List TReport), false, ()), ((((0 : Int), ([] : List (List TAction)), ()), ([] : List (List TStep)), (0 : Int), ([] : List THeld), (0 : Int), false, ()), ())))))
 (cond (Nat.ble (List.length t7 + List.length r14.2.1) lim)
 (cond (Nat.ble (List.length (List.append t7 r14.2.1) + List.length r16.2.1) lim)
 (some (.inl ((t1, (), (List.append (List.append t7 r14.2.1) r16.2.1), (), (Go.IntKind.wrap .i64 (t9 + (1 : Int))), ()), (((b4.1.1, b4.1.2.1, ()), b4.2), r16.1, ()))))
 none)
 none)))))))
 (some (.inr (.inl (((), t7, (), ()), (((b4.1.1, b4.1.2.1, ()), b4.2), b8, ()))))))
noncomputable def spec_TapKeys_4_loop (x : (((List Int) × (Unit × ((List TReport) × (Unit × (Int × Unit))))) × (TEngine × (TEngine × Unit)))) : Option (((Unit × ((List TReport) × (Unit × Unit))) × (TEngine × (TEngine × Unit))) ⊕ ((Unit × ((List TReport) × (Bool × Unit))) × (TEngine × Unit))) := loopF (fun x : (((List Int) × (Unit × ((List TReport) × (Unit × (Int × Unit))))) × (TEngine × (TEngine × Unit))) => spec_TapKeys_4_R x.1.1 x.1.2.1 x.1.2.2.1 x.1.2.2.2.1 x.1.2.2.2.2.1 x.2.1 x.2.2.1) x
noncomputable def spec_TapKeys (a0 : TEngine) (a1 : (List Int)) : Option (TEngine × ((List TReport) × (Bool × Unit))) :=
 (Option.bind (spec_TapKeys_4_loop ((a1, (), ([] : List TReport), (), (0 : Int), ()), ((((0 : Int), ([] : List (List TAction)), ()), ([] : List (List TStep)), (0 : Int), ([] : List THeld), (0 : Int), false, ()), a0, ()))) (Sum.elim (fun y17 => (Option.bind (spec_IsEngine y17.2.2.1) fun r19 =>
 (cond (!r19.1)
 (some ((((0 : Int), ([] : List (List TAction)), ()), ([] : List (List TStep)), (0 : Int), ([] : List THeld), (0 : Int), false, ()), ([] : List TReport), false, ()))
 (Option.bind (spec_l9Copy y17.2.2.1) fun r20 =>
 (some (r20.1, y17.1.2.1, true, ())))))) (fun z18 => (some (((z18.2.1.1.1, z18.2.1.1.2.1, ()), z18.2.1.2), z18.1.2.1, z18.1.2.2.1, ())))))

noncomputable def laws_heldActionS_2_R (t0 : (List TAction)) (t1 : Int) (t5 : Int) : Option ((((List TAction) × TCombo) × Unit) ⊕ (((Int × Unit) × Unit) ⊕ ((Int × Unit) × Unit))) :=
 (cond (decide (t5 < ((List.length t0 : Nat) : Int)))
 (Option.bind (idx t0 t5) fun x9 =>
 (cond (x9.1 != t1)
 (some (.inr (.inr (((-1 : Int), ()), ()))))
 (Option.bind (idx t0 t5) fun x10 =>
 (cond (x10.2.1 != (Go.IntKind.wrap .i64 (t1 + (1 : Int))))
 (some (.inr (.inr (((-1 : Int), ()), ()))))
 (Option.bind (idx t0 t5) fun x11 =>
 (cond (x11.2.2.1 != (Go.IntKind.wrap .i64 ((Go.IntKind.wrap .i64 (t1 + (1 : Int))) + (1 : Int))))
 (some (.inr (.inr (((-1 : Int), ()), ()))))
 (Option.bind (idx t0 t5) fun x12 =>
 (cond (x12.2.2.2.1 != (Go.IntKind.wrap .i64 ((Go.IntKind.wrap .i64 ((Go.IntKind.wrap .i64 (t1 + (1 : Int))) + (1 : Int))) + (1 : Int))))
 (some (.inr (.inr (((-1 : Int), ()), ()))))
 (some (.inl ((t0, (Go.IntKind.wrap .i64 ((Go.IntKind.wrap .i64 ((Go.IntKind.wrap .i64 ((Go.IntKind.wrap .i64 (t1 + (1 : Int))) + (1 : Int))) + (1 : Int))) + (1 : Int))), (Go.IntKind.wrap .i64 (t5 + (1 : Int))), ()), ())))))))))))
 (some (.inr (.inl ((t1, ()), ())))))
noncomputable def laws_heldActionS_2_loop (x : (((List TAction) × TCombo) × Unit)) : Option (((Int × Unit) × Unit) ⊕ ((Int × Unit) × Unit)) := loopF (fun x : (((List TAction) × TCombo) × Unit) => laws_heldActionS_2_R x.1.1 x.1.2.1 x.1.2.2.1) x
noncomputable def laws_heldActionS (a0 : (List TAction)) (a1 : Int) : Option (Int × Unit) :=
 (Option.bind (laws_heldActionS_2_loop ((a0, a1, (0 : Int), ()), ())) (Sum.elim (fun y13 => (some (y13.1.1, ()))) (fun z14 => (some (z14.1.1, ())))))

noncomputable def laws_heldActionSS_2_R (t0 : (List (List TAction))) (t1 : Int) (t5 : Int) : Option ((((List (List TAction)) × TCombo) × Unit) ⊕ (((Int × Unit) × Unit) ⊕ ((Int × Unit) × Unit))) :=
 (cond (decide (t5 < ((List.length t0 : Nat) : Int)))
 (Option.bind (idx t0 t5) fun x5 =>
 (Option.bind (laws_heldActionS x5 t1) fun r6 =>
 (cond (decide (r6.1 < (0 : Int)))
 (some (.inr (.inr (((-1 : Int), ()), ()))))
 (some (.inl ((t0, r6.1, (Go.IntKind.wrap .i64 (t5 + (1 : Int))), ()), ()))))))
 (some (.inr (.inl ((t1, ()), ())))))
noncomputable def laws_heldActionSS_2_loop (x : (((List (List TAction)) × TCombo) × Unit)) : Option (((Int × Unit) × Unit) ⊕ ((Int × Unit) × Unit)) := loopF (fun x : (((List (List TAction)) × TCombo) × Unit) => laws_heldActionSS_2_R x.1.1 x.1.2.1 x.1.2.2.1) x
noncomputable def laws_heldActionSS (a0 : (List (List TAction))) (a1 : Int) : Option (Int × Unit) :=
 (Option.bind (laws_heldActionSS_2_loop ((a0, a1, (0 : Int), ()), ())) (Sum.elim (fun y7 => (some (y7.1.1, ()))) (fun z8 => (some (z8.1.1, ())))))

noncomputable def laws_heldKeymap (a0 : TKeymap) (a1 : Int) : Option (Int × Unit) :=
 (Option.bind (laws_heldActionSS a0.2.1 a1) fun r1 =>
 (cond (decide (r1.1 < (0 : Int)))
 (some ((-1 : Int), ()))
 (some (r1.1, ()))))

noncomputable def spec_UnpackAction (a0 : (List Int)) : Option (TAction × (Bool × Unit)) :=
 (cond (((List.length a0 : Nat) : Int) != (3 : Int))
 (some (((0 : Int), (0 : Int), (0 : Int), (0 : Int), ()), false, ()))
 (Option.bind (idx a0 (0 : Int)) fun x1 =>
 (cond ((16 : Int) == (0 : Int))
 none
 (Option.bind (idx a0 (0 : Int)) fun x2 =>
 (cond ((16 : Int) == (0 : Int))
 none
 (Option.bind (idx a0 (1 : Int)) fun x3 =>
 (Option.bind (idx a0 (2 : Int)) fun x4 =>
 (Option.bind (spec_IsAction ((Go.IntKind.wrap .i64 (Int.tdiv (Go.IntKind.wrap .i64 x1) (16 : Int))), (Go.IntKind.wrap .i64 x3), (Go.IntKind.wrap .i64 x4), (Int.tmod (Go.IntKind.wrap .i64 x2) (16 : Int)), ())) fun r5 =>
 (cond (!r5.1)
 (some (((0 : Int), (0 : Int), (0 : Int), (0 : Int), ()), false, ()))
 (some (((Go.IntKind.wrap .i64 (Int.tdiv (Go.IntKind.wrap .i64 x1) (16 : Int))), (Go.IntKind.wrap .i64 x3), (Go.IntKind.wrap .i64 x4), (Int.tmod (Go.IntKind.wrap .i64 x2) (16 : Int)), ()), true, ())))))))))))

noncomputable def impl_UnpackAction (a0 : (List Int)) : Option (TAction × (Bool × Unit)) :=
 (cond (((List.length a0 : Nat) : Int) != (3 : Int))
 (some (((0 : Int), (0 : Int), (0 : Int), (0 : Int), ()), false, ()))
 (Option.bind (idx a0 (0 : Int)) fun x1 =>
 (cond ((16 : Int) == (0 : Int))
 none
 (Option.bind (idx a0 (1 : Int)) fun x2 =>
 (Option.bind (idx a0 (2 : Int)) fun x3 =>
 (Option.bind (idx a0 (0 : Int)) fun x4 =>
 (cond ((16 : Int) == (0 : Int))
 none
 (Option.bind (impl_IsAction ((Go.IntKind.wrap .i64 (Int.tdiv (Go.IntKind.wrap .i64 x1) (16 : Int))), (Go.IntKind.wrap .i64 x2), (Go.IntKind.wrap .i64 x3), (Int.tmod (Go.IntKind.wrap .i64 x4) (16 : Int)), ())) fun r5 =>
 (cond (!r5.1)
 (some (((0 : Int), (0 : Int), (0 : Int), (0 : Int), ()), false, ()))
 (some (((Go.IntKind.wrap .i64 (Int.tdiv (Go.IntKind.wrap .i64 x1) (16 : Int))), (Go.IntKind.wrap .i64 x2), (Go.IntKind.wrap .i64 x3), (Int.tmod (Go.IntKind.wrap .i64 x4) (16 : Int)), ()), true, ())))))))))))

noncomputable def impl_SetAction (a0 : TKeymap) (a1 : Int) (a2 : Int) (a3 : TAction) : Option (TKeymap × (Bool × Unit)) :=
 (Option.bind (impl_IsKeymap a0) fun r1 =>
 (cond (!r1.1)
 (some (((0 : Int), ([] : List (List TAction)), ()), false, ()))
 (cond (decide (a1 < (0 : Int)))
 (some (((0 : Int), ([] : List (List TAction)), ()), false, ()))
 (cond (decide (a1 ≥ ((List.length a0.2.1 : Nat) : Int)))
 (some (((0 : Int), ([] : List (List TAction)), ()), false, ()))
 (cond (decide (a2 < (0 : Int)))
 (some (((0 : Int), ([] : List (List TAction)), ()), false, ()))
 (cond (decide (a2 ≥ a0.1))
 (some (((0 : Int), ([] : List (List TAction)), ()), false, ()))
 (Option.bind (impl_copyKeymap a0) fun r2 =>
 (cond (inb (List.length r2.1.2.1) a1)
 (Option.bind r2.1.2.1[(Int.toNat a1)]? fun x3 =>
 (cond (inb (List.length x3) a2)
 (Option.bind x3[(Int.toNat a2)]? fun x4 =>
 (Option.bind (impl_IsKeymap (r2.1.1, (List.set r2.1.2.1 (Int.toNat a1) (List.set x3 (Int.toNat a2) a3)), ())) fun r5 =>
 (cond (!r5.1)
 (some (((0 : Int), ([] : List (List TAction)), ()), false, ()))
 (some ((r2.1.1, (List.set r2.1.2.1 (Int.toNat a1) (List.set x3 (Int.toNat a2) a3)), ()), true, ())))))
 none))
 none))))))))

noncomputable def impl_AnswerPacket (a0 : TKeymap) (a1 : (List Int)) : Option (TKeymap × ((List Int) × Unit)) :=
 (Option.bind (impl_copyKeymap a0) fun r1 =>
 (Option.bind (impl_IsKeymap a0) fun r2 =>
 (cond (!r2.1)
 (Option.bind (impl_SealPacket ([(255 : Int), (1 : Int)] : List Int)) fun r3 =>
 (some (r1.1, r3.1, ())))
 (Option.bind (impl_IsPacket a1) fun r4 =>
 (cond (!r4.1)
 (Option.bind (impl_SealPacket ([(255 : Int), (1 : Int)] : List Int)) fun r5 =>
 (some (r1.1, r5.1, ())))
 (Option.bind (idx a1 (1 : Int)) fun x6 =>
 (Option.bind (idx a1 (2 : Int)) fun x7 =>
 (cond (decide ((Go.IntKind.wrap .i64 x6) < ((List.length a0.2.1 : Nat) : Int)))
 (Option.bind (impl_SealPacket ([(255 : Int), (3 : Int)] : List Int)) fun r8 =>
 (Option.bind (idx a1 (0 : Int)) fun x9 =>
 (cond (x9 == (1 : Int))
 (Option.bind (impl_SealPacket ([(1 : Int), (Go.IntKind.wrap .u8 a0.1), (Go.IntKind.wrap .u8 ((List.length a0.2.1 : Nat) : Int))] : List Int)) fun r10 =>
 (some (r1.1, r10.1, ())))
 (cond (x9 == (2 : Int))
 (cond (!(decide ((Go.IntKind.wrap .i64 x7) < a0.1)))
 (some (r1.1, r8.1, ()))
 (Option.bind (idx a1 (0 : Int)) fun x11 =>
 (Option.bind (idx a1 (1 : Int)) fun x12 =>
 (Option.bind (idx a1 (2 : Int)) fun x13 =>
 (Option.bind (idx a0.2.1 (Go.IntKind.wrap .i64 x6)) fun x14 =>
 (Option.bind (idx x14 (Go.IntKind.wrap .i64 x7)) fun x15 =>
 (Option.bind (impl_PackAction x15) fun r16 =>
 (cond (Nat.ble (List.length ([x11, x12, x13] : List Int) + List.length r16.1) lim)
 (Option.bind (impl_SealPacket (List.append ([x11, x12, x13] : List Int) r16.1)) fun r17 =>
 (some (r1.1, r17.1, ())))
 none))))))))
 (cond (x9 == (3 : Int))
 (cond (cutOk (List.length a1) (3 : Int) (6 : Int))
 (Option.bind (impl_UnpackAction (cutl a1 (Int.toNat (3 : Int)) (Int.toNat (6 : Int)))) fun r18 =>
 (cond (!(decide ((Go.IntKind.wrap .i64 x7) < a0.1)))
 (some (r1.1, r8.1, ()))
 (cond (!r18.2.1)
 (some (r1.1, r8.1, ()))
 (Option.bind (impl_SetAction a0 (Go.IntKind.wrap .i64 x6) (Go.IntKind.wrap .i64 x7) r18.1) fun r19 =>
 (cond (!r19.2.1)
 (some (r1.1, r8.1, ()))
 (cond (cutOk (List.length a1) (0 : Int) (6 : Int))
 (cond (Nat.ble (List.length ([] : List Int) + List.length (cutl a1 (Int.toNat (0 : Int)) (Int.toNat (6 : Int)))) lim)
 (Option.bind (impl_SealPacket (List.append ([] : List Int) (cutl a1 (Int.toNat (0 : Int)) (Int.toNat (6 : Int))))) fun r20 =>
 (some (r19.1, r20.1, ())))
 none)
 none))))))
 none)
 (Option.bind (impl_SealPacket ([(255 : Int), (2 : Int)] : List Int)) fun r21 =>
 (some (r1.1, r21.1, ()))))))))
 (Option.bind (impl_SealPacket ([(255 : Int), (3 : Int)] : List Int)) fun r22 =>
 (Option.bind (idx a1 (0 : Int)) fun x23 =>
 (cond (x23 == (1 : Int))
 (Option.bind (impl_SealPacket ([(1 : Int), (Go.IntKind.wrap .u8 a0.1), (Go.IntKind.wrap .u8 ((List.length a0.2.1 : Nat) : Int))] : List Int)) fun r24 =>
 (some (r1.1, r24.1, ())))
 (cond (x23 == (2 : Int))
 (some (r1.1, r22.1, ()))
 (cond (x23 == (3 : Int))
 (cond (cutOk (List.length a1) (3 : Int) (6 : Int))
 (Option.bind (impl_UnpackAction (cutl a1 (Int.toNat (3 : Int)) (Int.toNat (6 : Int)))) fun r25 =>
 (some (r1.1, r22.1, ())))
 none)
 (Option.bind (impl_SealPacket ([(255 : Int), (2 : Int)] : List Int)) fun r26 =>
 (some (r1.1, r26.1, ()))))))))))))))))

noncomputable def spec_SetAction (a0 : TKeymap) (a1 : Int) (a2 : Int) (a3 : TAction) : Option (TKeymap × (Bool × Unit)) :=
 (Option.bind (spec_IsKeymap a0) fun r1 =>
 (cond (!r1.1)
 (some (((0 : Int), ([] : List (List TAction)), ()), false, ()))
 (Option.bind (spec_l1In a1 (0 : Int) (Go.IntKind.wrap .i64 (((List.length a0.2.1 : Nat) : Int) - (1 : Int)))) fun r2 =>
 (cond (!r2.1)
 (some (((0 : Int), ([] : List (List TAction)), ()), false, ()))
 (Option.bind (spec_l1In a2 (0 : Int) (Go.IntKind.wrap .i64 (a0.1 - (1 : Int)))) fun r3 =>
 (cond (!r3.1)
 (some (((0 : Int), ([] : List (List TAction)), ()), false, ()))
 (Option.bind (spec_l6Copy a0) fun r4 =>
 (cond (inb (List.length r4.1.2.1) a1)
 (Option.bind r4.1.2.1[(Int.toNat a1)]? fun x5 =>
 (cond (inb (List.length x5) a2)
 (Option.bind x5[(Int.toNat a2)]? fun x6 =>
 (Option.bind (spec_IsKeymap (r4.1.1, (List.set r4.1.2.1 (Int.toNat a1) (List.set x5 (Int.toNat a2) a3)), ())) fun r7 =>
 (cond (!r7.1)
 (some (((0 : Int), ([] : List (List TAction)), ()), false, ()))
 (some ((r4.1.1, (List.set r4.1.2.1 (Int.toNat a1) (List.set x5 (Int.toNat a2) a3)), ()), true, ())))))
 none))
 none))))))))

noncomputable def spec_AnswerPacket (a0 : TKeymap) (a1 : (List Int)) : Option (TKeymap × ((List Int) × Unit)) :=
 (Option.bind (spec_l6Copy a0) fun r1 =>
 (Option.bind (spec_IsKeymap a0) fun r2 =>
 (cond (!r2.1)
 (Option.bind (spec_SealPacket ([(255 : Int), (1 : Int)] : List Int)) fun r3 =>
 (some (r1.1, r3.1, ())))
 (Option.bind (spec_IsPacket a1) fun r4 =>
 (cond (!r4.1)
 (Option.bind (spec_SealPacket ([(255 : Int), (1 : Int)] : List Int)) fun r5 =>
 (some (r1.1, r5.1, ())))
 (Option.bind (idx a1 (1 : Int)) fun x6 =>
 (Option.bind (idx a1 (2 : Int)) fun x7 =>
 (cond (decide ((Go.IntKind.wrap .i64 x6) < ((List.length a0.2.1 : Nat) : Int)))
 (Option.bind (idx a1 (0 : Int)) fun x8 =>
 (cond (x8 == (1 : Int))
 (Option.bind (spec_SealPacket ([(1 : Int), (Go.IntKind.wrap .u8 a0.1), (Go.IntKind.wrap .u8 ((List.length a0.2.1 : Nat) : Int))] : List Int)) fun r9 =>
 (some (r1.1, r9.1, ())))
 (cond (x8 == (2 : Int))
 (cond (decide ((Go.IntKind.wrap .i64 x7) < a0.1))
 (Option.bind (idx a1 (1 : Int)) fun x10 =>
 (Option.bind (idx a1 (2 : Int)) fun x11 =>
 (Option.bind (idx a0.2.1 (Go.IntKind.wrap .i64 x6)) fun x12 =>
 (Option.bind (idx x12 (Go.IntKind.wrap .i64 x7)) fun x13 =>
 (Option.bind (spec_PackAction x13) fun r14 =>
 (cond (Nat.ble (List.length ([(2 : Int), x10, x11] : List Int) + List.length r14.1) lim)
 (Option.bind (spec_SealPacket (List.append ([(2 : Int), x10, x11] : List Int) r14.1)) fun r15 =>
 (some (r1.1, r15.1, ())))
 none))))))
 (Option.bind (spec_SealPacket ([(255 : Int), (3 : Int)] : List Int)) fun r16 =>
 (some (r1.1, r16.1, ()))))
 (cond (x8 == (3 : Int))
 (cond (cutOk (List.length a1) (3 : Int) (6 : Int))
 (Option.bind (spec_UnpackAction (cutl a1 (Int.toNat (3 : Int)) (Int.toNat (6 : Int)))) fun r17 =>
 (Option.bind (spec_SetAction a0 (Go.IntKind.wrap .i64 x6) (Go.IntKind.wrap .i64 x7) r17.1) fun r18 =>
 (cond r17.2.1
 (cond r18.2.1
 (cond (cutOk (List.length a1) (0 : Int) (6 : Int))
 (Option.bind (spec_SealPacket (cutl a1 (Int.toNat (0 : Int)) (Int.toNat (6 : Int)))) fun r19 =>
 (some (r18.1, r19.1, ())))
 none)
 (Option.bind (spec_SealPacket ([(255 : Int), (3 : Int)] : List Int)) fun r20 =>
 (some (r1.1, r20.1, ()))))
 (Option.bind (spec_SealPacket ([(255 : Int), (3 : Int)] : List Int)) fun r21 =>
 (some (r1.1, r21.1, ()))))))
 none)
 (Option.bind (spec_SealPacket ([(255 : Int), (2 : Int)] : List Int)) fun r22 =>
 (some (r1.1, r22.1, ())))))))
 (Option.bind (idx a1 (0 : Int)) fun x23 =>
 (cond (x23 == (1 : Int))
 (Option.bind (spec_SealPacket ([(1 : Int), (Go.IntKind.wrap .u8 a0.1), (Go.IntKind.wrap .u8 ((List.length a0.2.1 : Nat) : Int))] : List Int)) fun r24 =>
 (some (r1.1, r24.1, ())))
 (cond (x23 == (2 : Int))
 (Option.bind (spec_SealPacket ([(255 : Int), (3 : Int)] : List Int)) fun r25 =>
 (some (r1.1, r25.1, ())))
 (cond (x23 == (3 : Int))
 (cond (cutOk (List.length a1) (3 : Int) (6 : Int))
 (Option.bind (spec_UnpackAction (cutl a1 (Int.toNat (3 : Int)) (Int.toNat (6 : Int)))) fun r26 =>
 (Option.bind (spec_SetAction a0 (Go.IntKind.wrap .i64 x6) (Go.IntKind.wrap .i64 x7) r26.1) fun r27 =>
 (cond r26.2.1
 (cond r27.2.1
 (cond (cutOk (List.length a1) (0 : Int) (6 : Int))
 (Option.bind (spec_SealPacket (cutl a1 (Int.toNat (0 : Int)) (Int.toNat (6 : Int)))) fun r28 =>
 (some (r27.1, r28.1, ())))
 none)
 (Option.bind (spec_SealPacket ([(255 : Int), (3 : Int)] : List Int)) fun r29 =>
 (some (r1.1, r29.1, ()))))
 (Option.bind (spec_SealPacket ([(255 : Int), (3 : Int)] : List Int)) fun r30 =>
 (some (r1.1, r30.1, ()))))))
 none)
 (Option.bind (spec_SealPacket ([(255 : Int), (2 : Int)] : List Int)) fun r31 =>
 (some (r1.1, r31.1, ())))))))))))))))

noncomputable def spec_IsDebouncer_4_R (t1 : Unit) (t3 : Int) (b1 : TDebouncer) : Option (((Unit × (Int × Unit)) × (TDebouncer × Unit)) ⊕ (((Unit × Unit) × (TDebouncer × Unit)) ⊕ ((Bool × Unit) × Unit))) :=
 (cond (decide (t3 < ((List.length b1.2.2.2.2.2.1 : Nat) : Int)))
 (Option.bind (idx b1.2.2.2.2.2.1 t3) fun x8 =>
 (Option.bind (spec_l1In x8 (0 : Int) (99 : Int)) fun r9 =>
 (cond (!r9.1)
 (some (.inr (.inr ((false, ()), ()))))
 (some (.inl (((), (Go.IntKind.wrap .i64 (t3 + (1 : Int))), ()), (b1, ())))))))
 (some (.inr (.inl (((), ()), (b1, ()))))))
noncomputable def spec_IsDebouncer_4_loop (x : ((Unit × (Int × Unit)) × (TDebouncer × Unit))) : Option (((Unit × Unit) × (TDebouncer × Unit)) ⊕ ((Bool × Unit) × Unit)) := loopF (fun x : ((Unit × (Int × Unit)) × (TDebouncer × Unit)) => spec_IsDebouncer_4_R x.1.1 x.1.2.1 x.2.1) x
noncomputable def spec_IsDebouncer (a0 : TDebouncer) : Option (Bool × Unit) :=
 (Option.bind (spec_l1In a0.1 (0 : Int) (2 : Int)) fun r1 =>
 (cond (!r1.1)
 (some (false, ()))
 (Option.bind (spec_l1In a0.2.1 (1 : Int) (20 : Int)) fun r2 =>
 (cond (!r2.1)
 (some (false, ()))
 (Option.bind (spec_l1In a0.2.2.1 (1 : Int) (24 : Int)) fun r3 =>
 (cond (!r3.1)
 (some (false, ()))
 (cond (((List.length a0.2.2.2.2.2.1 : Nat) : Int) != a0.2.2.1)
 (some (false, ()))
 (Option.bind (spec_IsDebouncer_4_loop (((), (0 : Int), ()), (a0, ()))) (Sum.elim (fun y10 => (cond (decide ((0 : Int) ≤ y10.2.1.2.2.1))
 (Option.bind (spec_l1In y10.2.1.2.2.2.1 (0 : Int) (Go.IntKind.wrap .i64 ((ishl .i64 (1 : Int) y10.2.1.2.2.1) - (1 : Int)))) fun r12 =>
 (cond r12.1
 (cond (decide ((0 : Int) ≤ y10.2.1.2.2.1))
 (Option.bind (spec_l1In y10.2.1.2.2.2.2.1 (0 : Int) (Go.IntKind.wrap .i64 ((ishl .i64 (1 : Int) y10.2.1.2.2.1) - (1 : Int)))) fun r13 =>
 (some (r13.1, ())))
 none)
 (some (false, ()))))
 none)) (fun z11 => (some (z11.1.1, ()))))))))))))

noncomputable def spec_l11Count_3_R (t0 : Int) (t3 : Int) (t4 : Int) : Option ((TStep × Unit) ⊕ (((Int × Unit) × Unit) ⊕ (Unit × Unit))) :=
 (cond (decide (t4 ≤ (31 : Int)))
 (cond (decide ((0 : Int) ≤ t4))
 (some (.inl ((t0, (Go.IntKind.wrap .i64 (t3 + (iand .i64 (ishr .i64 t0 t4) (1 : Int)))), (Go.IntKind.wrap .i64 (t4 + (1 : Int))), ()), ())))
 none)
 (some (.inr (.inl ((t3, ()), ())))))
noncomputable def spec_l11Count_3_loop (x : (TStep × Unit)) : Option (((Int × Unit) × Unit) ⊕ (Unit × Unit)) := loopF (fun x : (TStep × Unit) => spec_l11Count_3_R x.1.1 x.1.2.1 x.1.2.2.1) x
noncomputable def spec_l11Count (a0 : Int) : Option (Int × Unit) :=
 (Option.bind (spec_l11Count_3_loop ((a0, (0 : Int), (0 : Int), ()), ())) (Sum.elim (fun y1 => (some (y1.1.1, ()))) (fun z2 => none)))

noncomputable def spec_IsCombos_7_R (t0 : (List TCombo)) (t3 : Int) (t4 : Int) : Option ((((List TCombo) × TCombo) × Unit) ⊕ ((((List TCombo) × (Int × Unit)) × Unit) ⊕ ((Bool × Unit) × Unit))) :=
 (cond (decide (t4 < t3))
 (Option.bind (idx t0 t4) fun x58 =>
 (Option.bind (idx t0 t3) fun x59 =>
 (cond (x58.1 == x59.1)
 (some (.inr (.inr ((false, ()), ()))))
 (Option.bind (idx t0 t4) fun x60 =>
 (Option.bind (idx t0 t3) fun x61 =>
 (cond (x60.2.1 == x61.2.1)
 (some (.inr (.inr ((false, ()), ()))))
 (some (.inl ((t0, t3, (Go.IntKind.wrap .i64 (t4 + (1 : Int))), ()), ())))))))))
 (some (.inr (.inl ((t0, t3, ()), ())))))
noncomputable def spec_IsCombos_7_loop (x : (((List TCombo) × TCombo) × Unit)) : Option ((((List TCombo) × (Int × Unit)) × Unit) ⊕ ((Bool × Unit) × Unit)) := loopF (fun x : (((List TCombo) × TCombo) × Unit) => spec_IsCombos_7_R x.1.1 x.1.2.1 x.1.2.2.1) x
noncomputable def spec_IsCombos_2_R (t0 : (List TCombo)) (t3 : Int) : Option ((((List TCombo) × (Int × Unit)) × Unit) ⊕ ((((List TCombo) × Unit) × Unit) ⊕ ((Bool × Unit) × Unit))) :=
 (cond (decide (t3 < ((List.length t0 : Nat) : Int)))
 (Option.bind (idx t0 t3) fun x43 =>
 (Option.bind (spec_l1In x43.1 (0 : Int) (16777215 : Int)) fun r44 =>
 (cond (!r44.1)
 (some (.inr (.inr ((false, ()), ()))))
 (Option.bind (idx t0 t3) fun x45 =>
 (Option.bind (spec_l11Count x45.1) fun r46 =>
 (Option.bind (spec_l1In r46.1 (2 : Int) (4 : Int)) fun r47 =>
 (cond (!r47.1)
 (some (.inr (.inr ((false, ()), ()))))
 (Option.bind (idx t0 t3) fun x48 =>
 (Option.bind (spec_l1In x48.2.1 (24 : Int) (31 : Int)) fun r49 =>
 (cond (!r49.1)
 (some (.inr (.inr ((false, ()), ()))))
 (Option.bind (spec_IsCombos_7_loop ((t0, t3, (0 : Int), ()), ())) (Sum.elim (fun y62 => (some (.inl ((y62.1.1, (Go.IntKind.wrap .i64 (y62.1.2.1 + (1 : Int))), ()), ())))) (fun z63 => (some (.inr (.inr ((z63.1.1, ()), ())))))))))))))))))
 (some (.inr (.inl ((t0, ()), ())))))
noncomputable def spec_IsCombos_2_loop (x : (((List TCombo) × (Int × Unit)) × Unit)) : Option ((((List TCombo) × Unit) × Unit) ⊕ ((Bool × Unit) × Unit)) := loopF (fun x : (((List TCombo) × (Int × Unit)) × Unit) => spec_IsCombos_2_R x.1.1 x.1.2.1) x
noncomputable def spec_IsCombos (a0 : (List TCombo)) : Option (Bool × Unit) :=
 (Option.bind (spec_IsCombos_2_loop ((a0, (0 : Int), ()), ())) (Sum.elim (fun y64 => (some ((decide (((List.length y64.1.1 : Nat) : Int) ≤ (8 : Int))), ()))) (fun z65 => (some (z65.1.1, ())))))

noncomputable def spec_l11Keys_2_R (t0 : (List TCombo)) (t1 : Int) (t5 : Int) : Option ((((List TCombo) × TCombo) × Unit) ⊕ ((Unit × Unit) ⊕ ((Int × Unit) × Unit))) :=
 (cond (decide (t5 < ((List.length t0 : Nat) : Int)))
 (Option.bind (idx t0 t5) fun x5 =>
 (cond (x5.2.1 == t1)
 (Option.bind (idx t0 t5) fun x6 =>
 (some (.inr (.inr ((x6.1, ()), ())))))
 (some (.inl ((t0, t1, (Go.IntKind.wrap .i64 (t5 + (1 : Int))), ()), ())))))
 (some (.inr (.inl ((), ())))))
noncomputable def spec_l11Keys_2_loop (x : (((List TCombo) × TCombo) × Unit)) : Option ((Unit × Unit) ⊕ ((Int × Unit) × Unit)) := loopF (fun x : (((List TCombo) × TCombo) × Unit) => spec_l11Keys_2_R x.1.1 x.1.2.1 x.1.2.2.1) x
noncomputable def spec_l11Keys (a0 : (List TCombo)) (a1 : Int) : Option (Int × Unit) :=
 (Option.bind (spec_l11Keys_2_loop ((a0, a1, (0 : Int), ()), ())) (Sum.elim (fun y7 => (some ((0 : Int), ()))) (fun z8 => (some (z8.1.1, ())))))

noncomputable def spec_l11Active_10_R (t1 : Unit) (t3 : Int) (t4 : Int) (t5 : Unit) (t7 : Int) (b1 : TCombiner) (b5 : TEvent) : Option (((Unit × (Int × (Int × (Unit × (Int × Unit))))) × (TCombiner × (TEvent × Unit))) ⊕ (((Unit × (Int × (Int × (Unit × Unit)))) × (TCombiner × (TEvent × Unit))) ⊕ ((Bool × Unit) × Unit))) :=
 (cond (decide (t7 < t4))
 (Option.bind (idx b1.2.2.2.2.2.2.1 t7) fun x19 =>
 (cond (x19.1 == b5.1)
 (some (.inr (.inr ((false, ()), ()))))
 (some (.inl (((), t3, t4, (), (Go.IntKind.wrap .i64 (t7 + (1 : Int))), ()), (b1, b5, ()))))))
 (some (.inr (.inl (((), t3, t4, (), ()), (b1, b5, ()))))))
noncomputable def spec_l11Active_10_loop (x : ((Unit × (Int × (Int × (Unit × (Int × Unit))))) × (TCombiner × (TEvent × Unit)))) : Option (((Unit × (Int × (Int × (Unit × Unit)))) × (TCombiner × (TEvent × Unit))) ⊕ ((Bool × Unit) × Unit)) := loopF (fun x : ((Unit × (Int × (Int × (Unit × (Int × Unit))))) × (TCombiner × (TEvent × Unit))) => spec_l11Active_10_R x.1.1 x.1.2.1 x.1.2.2.1 x.1.2.2.2.1 x.1.2.2.2.2.1 x.2.1 x.2.2.1) x
noncomputable def spec_l11Active_3_R (t1 : Unit) (t3 : Int) (t4 : Int) (b1 : TCombiner) : Option (((Unit × TCombo) × (TCombiner × Unit)) ⊕ (((Unit × Unit) × (TCombiner × Unit)) ⊕ ((Bool × Unit) × Unit))) :=
 (cond (decide (t4 < ((List.length b1.2.2.2.2.2.2.1 : Nat) : Int)))
 (Option.bind (idx b1.2.2.2.2.2.2.1 t4) fun x15 =>
 (Option.bind (spec_l11Keys b1.1 x15.1) fun r16 =>
 (cond (decide (x15.2.1 ≤ (0 : Int)))
 (some (.inr (.inr ((false, ()), ()))))
 (cond ((iandn .i64 x15.2.1 r16.1) != (0 : Int))
 (some (.inr (.inr ((false, ()), ()))))
 (cond (x15.2.2.1 != (x15.2.1 == r16.1))
 (some (.inr (.inr ((false, ()), ()))))
 (cond ((iand .i64 x15.2.1 t3) != (0 : Int))
 (some (.inr (.inr ((false, ()), ()))))
 (Option.bind (spec_l11Active_10_loop (((), t3, t4, (), (0 : Int), ()), (b1, x15, ()))) (Sum.elim (fun y20 => (some (.inl (((), (ior .i64 y20.1.2.1 y20.2.2.1.2.1), (Go.IntKind.wrap .i64 (y20.1.2.2.1 + (1 : Int))), ()), (y20.2.1, ()))))) (fun z21 => (some (.inr (.inr ((z21.1.1, ()), ())))))))))))))
 (some (.inr (.inl (((), ()), (b1, ()))))))
noncomputable def spec_l11Active_3_loop (x : ((Unit × TCombo) × (TCombiner × Unit))) : Option (((Unit × Unit) × (TCombiner × Unit)) ⊕ ((Bool × Unit) × Unit)) := loopF (fun x : ((Unit × TCombo) × (TCombiner × Unit)) => spec_l11Active_3_R x.1.1 x.1.2.1 x.1.2.2.1 x.2.1) x
noncomputable def spec_l11Active (a0 : TCombiner) : Option (Bool × Unit) :=
 (Option.bind (spec_l11Active_3_loop (((), a0.2.2.2.2.2.1, (0 : Int), ()), (a0, ()))) (Sum.elim (fun y22 => (Option.bind (spec_l1In y22.2.1.2.2.2.2.2.1 (0 : Int) (16777215 : Int)) fun r24 =>
 (some (r24.1, ())))) (fun z23 => (some (z23.1.1, ())))))

noncomputable def spec_l11Held_3_R (t1 : Unit) (t3 : Int) (t4 : Int) (b1 : TCombiner) : Option (((Unit × TCombo) × (TCombiner × Unit)) ⊕ (((Int × Unit) × Unit) ⊕ (Unit × Unit))) :=
 (cond (decide (t4 < ((List.length b1.2.2.2.2.2.2.1 : Nat) : Int)))
 (Option.bind (idx b1.2.2.2.2.2.2.1 t4) fun x3 =>
 (some (.inl (((), (ior .i64 t3 x3.2.1), (Go.IntKind.wrap .i64 (t4 + (1 : Int))), ()), (b1, ())))))
 (some (.inr (.inl ((t3, ()), ())))))
noncomputable def spec_l11Held_3_loop (x : ((Unit × TCombo) × (TCombiner × Unit))) : Option (((Int × Unit) × Unit) ⊕ (Unit × Unit)) := loopF (fun x : ((Unit × TCombo) × (TCombiner × Unit)) => spec_l11Held_3_R x.1.1 x.1.2.1 x.1.2.2.1 x.2.1) x
noncomputable def spec_l11Held (a0 : TCombiner) : Option (Int × Unit) :=
 (Option.bind (spec_l11Held_3_loop (((), a0.2.2.2.2.2.1, (0 : Int), ()), (a0, ()))) (Sum.elim (fun y4 => (some (y4.1.1, ()))) (fun z5 => none)))

noncomputable def spec_IsEvent (a0 : TEvent) : Option (Bool × Unit) :=
 (Option.bind (spec_l1In a0.1 (0 : Int) (1000000 : Int)) fun r1 =>
 (cond r1.1
 (Option.bind (spec_l1In a0.2.1 (0 : Int) (31 : Int)) fun r2 =>
 (some (r2.1, ())))
 (some (false, ()))))

noncomputable def spec_l10Follows_2_R (t0 : (List TEvent)) (t1 : Int) (t2 : Int) (t3 : Int) (t9 : Int) : Option ((((List TEvent) × TAction) × Unit) ⊕ ((((List TEvent) × Unit) × Unit) ⊕ ((Bool × Unit) × Unit))) :=
 (cond (decide (t9 < ((List.length t0 : Nat) : Int)))
 (Option.bind (idx t0 t9) fun x17 =>
 (Option.bind (spec_IsEvent x17) fun r18 =>
 (cond (!r18.1)
 (some (.inr (.inr ((false, ()), ()))))
 (Option.bind (idx t0 t9) fun x19 =>
 (cond (decide (x19.2.1 ≥ t2))
 (some (.inr (.inr ((false, ()), ()))))
 (Option.bind (idx t0 t9) fun x20 =>
 (cond (decide (x20.1 < t3))
 (some (.inr (.inr ((false, ()), ()))))
 (Option.bind (idx t0 t9) fun x21 =>
 (Option.bind (idx t0 t9) fun x22 =>
 (cond (decide ((0 : Int) ≤ x22.2.1))
 (cond (x21.2.2.1 == ((iand .i64 (ishr .i64 t1 x22.2.1) (1 : Int)) == (1 : Int)))
 (some (.inr (.inr ((false, ()), ()))))
 (Option.bind (idx t0 t9) fun x23 =>
 (Option.bind (idx t0 t9) fun x24 =>
 (cond (decide ((0 : Int) ≤ x24.2.1))
 (some (.inl ((t0, (ixor .i64 t1 (ishl .i64 (1 : Int) x24.2.1)), t2, x23.1, (Go.IntKind.wrap .i64 (t9 + (1 : Int))), ()), ())))
 none))))
 none))))))))))
 (some (.inr (.inl ((t0, ()), ())))))
noncomputable def spec_l10Follows_2_loop (x : (((List TEvent) × TAction) × Unit)) : Option ((((List TEvent) × Unit) × Unit) ⊕ ((Bool × Unit) × Unit)) := loopF (fun x : (((List TEvent) × TAction) × Unit) => spec_l10Follows_2_R x.1.1 x.1.2.1 x.1.2.2.1 x.1.2.2.2.1 x.1.2.2.2.2.1) x
noncomputable def spec_l10Follows (a0 : (List TEvent)) (a1 : Int) (a2 : Int) (a3 : Int) : Option (Bool × Unit) :=
 (Option.bind (spec_l10Follows_2_loop ((a0, a1, a2, a3, (0 : Int), ()), ())) (Sum.elim (fun y25 => (some ((decide (((List.length y25.1.1 : Nat) : Int) ≤ (64 : Int))), ()))) (fun z26 => (some (z26.1.1, ())))))

noncomputable def spec_IsCombiner (a0 : TCombiner) : Option (Bool × Unit) :=
 (Option.bind (spec_IsCombos a0.1) fun r1 =>
 (cond (!r1.1)
 (some (false, ()))
 (Option.bind (spec_l1In a0.2.1 (1 : Int) (200 : Int)) fun r2 =>
 (cond (!r2.1)
 (some (false, ()))
 (Option.bind (spec_l1In a0.2.2.2.1 (0 : Int) (1000000 : Int)) fun r3 =>
 (cond (!r3.1)
 (some (false, ()))
 (Option.bind (spec_l1In a0.2.2.2.2.1 (0 : Int) a0.2.2.2.1) fun r4 =>
 (cond (!r4.1)
 (some (false, ()))
 (Option.bind (spec_l11Active a0) fun r5 =>
 (cond (!r5.1)
 (some (false, ()))
 (Option.bind (spec_l11Held a0) fun r6 =>
 (Option.bind (spec_l10Follows a0.2.2.1 r6.1 (24 : Int) (0 : Int)) fun r7 =>
 (cond r7.1
 (cond (((List.length a0.2.2.1 : Nat) : Int) == (0 : Int))
 (some (true, ()))
 (Option.bind (idx a0.2.2.1 (Go.IntKind.wrap .i64 (((List.length a0.2.2.1 : Nat) : Int) - (1 : Int)))) fun x8 =>
 (some ((decide (x8.1 ≤ a0.2.2.2.1)), ()))))
 (some (false, ())))))))))))))))

noncomputable def spec_l11Copy (a0 : TCombiner) : Option (TCombiner × Unit) :=
 (cond (Nat.ble (List.length ([] : List TCombo) + List.length a0.1) lim)
 (cond (Nat.ble (List.length ([] : List TEvent) + List.length a0.2.2.1) lim)
 (cond (Nat.ble (List.length ([] : List TEvent) + List.length a0.2.2.2.2.2.2.1) lim)
 (some (((List.append ([] : List TCombo) a0.1), a0.2.1, (List.append ([] : List TEvent) a0.2.2.1), a0.2.2.2.1, a0.2.2.2.2.1, a0.2.2.2.2.2.1, (List.append ([] : List TEvent) a0.2.2.2.2.2.2.1), a0.2.2.2.2.2.2.2), ()))
 none)
 none)
 none)

noncomputable def spec_IsTiming (a0 : TStep) : Option (Bool × Unit) :=
 (Option.bind (spec_l1In a0.1 (1 : Int) (1000 : Int)) fun r1 =>
 (cond r1.1
 (Option.bind (spec_l1In a0.2.1 (0 : Int) (1000 : Int)) fun r2 =>
 (cond r2.1
 (Option.bind (spec_l1In a0.2.2.1 (0 : Int) (2 : Int)) fun r3 =>
 (some (r3.1, ())))
 (some (false, ()))))
 (some (false, ()))))

noncomputable def spec_l10Bit (a0 : Int) : Option (Int × Unit) :=
 (Option.bind (spec_l1In a0 (0 : Int) (31 : Int)) fun r1 =>
 (cond (!r1.1)
 (some ((0 : Int), ()))
 (cond (decide ((0 : Int) ≤ a0))
 (some ((ishl .i64 (1 : Int) a0), ()))
 none)))

noncomputable def spec_l10Held_3_R (t1 : Unit) (t3 : Int) (t4 : Int) (b1 : TEngine) : Option (((Unit × TCombo) × (TEngine × Unit)) ⊕ (((Int × Unit) × Unit) ⊕ (Unit × Unit))) :=
 (cond (decide (t4 < ((List.length b1.2.2.2.1 : Nat) : Int)))
 (Option.bind (idx b1.2.2.2.1 t4) fun x5 =>
 (Option.bind (spec_l10Bit x5.1) fun r6 =>
 (some (.inl (((), (ior .i64 t3 r6.1), (Go.IntKind.wrap .i64 (t4 + (1 : Int))), ()), (b1, ()))))))
 (some (.inr (.inl ((t3, ()), ())))))
noncomputable def spec_l10Held_3_loop (x : ((Unit × TCombo) × (TEngine × Unit))) : Option (((Int × Unit) × Unit) ⊕ (Unit × Unit)) := loopF (fun x : ((Unit × TCombo) × (TEngine × Unit)) => spec_l10Held_3_R x.1.1 x.1.2.1 x.1.2.2.1 x.2.1) x
noncomputable def spec_l10Held (a0 : TEngine) : Option (Int × Unit) :=
 (Option.bind (spec_l10Held_3_loop (((), (0 : Int), (0 : Int), ()), (a0, ()))) (Sum.elim (fun y7 => (some (y7.1.1, ()))) (fun z8 => none)))

noncomputable def spec_IsDecider (a0 : TDecider) : Option (Bool × Unit) :=
 (Option.bind (spec_IsEngine a0.1) fun r1 =>
 (cond (!r1.1)
 (some (false, ()))
 (Option.bind (spec_IsTiming a0.2.1) fun r2 =>
 (cond (!r2.1)
 (some (false, ()))
 (Option.bind (spec_l1In a0.2.2.2.1 (0 : Int) (1000000 : Int)) fun r3 =>
 (cond (!r3.1)
 (some (false, ()))
 (Option.bind (spec_l1In a0.2.2.2.2.1 (0 : Int) a0.2.2.2.1) fun r4 =>
 (cond (!r4.1)
 (some (false, ()))
 (Option.bind (spec_l10Held a0.1) fun r5 =>
 (Option.bind (spec_l10Follows a0.2.2.1 r5.1 a0.1.1.1 (0 : Int)) fun r6 =>
 (cond (!r6.1)
 (some (false, ()))
 (cond (decide (((List.length a0.2.2.1 : Nat) : Int) > (0 : Int)))
 (Option.bind (idx a0.2.2.1 (Go.IntKind.wrap .i64 (((List.length a0.2.2.1 : Nat) : Int) - (1 : Int)))) fun x7 =>
 (cond (decide (x7.1 > a0.2.2.2.1))
 (some (false, ()))
 (Option.bind (spec_l1In a0.2.2.2.2.2.1 (0 : Int) a0.1.1.1) fun r8 =>
 (cond r8.1
 (Option.bind (spec_l1In a0.2.2.2.2.2.2.1 (0 : Int) a0.2.2.2.1) fun r9 =>
 (some (r9.1, ())))
 (some (false, ()))))))
 (Option.bind (spec_l1In a0.2.2.2.2.2.1 (0 : Int) a0.1.1.1) fun r10 =>
 (cond r10.1
 (Option.bind (spec_l1In a0.2.2.2.2.2.2.1 (0 : Int) a0.2.2.2.1) fun r11 =>
 (some (r11.1, ())))
 (some (false, ()))))))))))))))))

noncomputable def spec_l17Toggled_2_R (t0 : Int) (t1 : (List TEvent)) (t5 : Int) : Option (((Int × ((List TEvent) × (Int × Unit))) × Unit) ⊕ (((Int × Unit) × Unit) ⊕ (Unit × Unit))) :=
 (cond (decide (t5 < ((List.length t1 : Nat) : Int)))
 (Option.bind (idx t1 t5) fun x5 =>
 (Option.bind (spec_l10Bit x5.2.1) fun r6 =>
 (some (.inl (((ixor .i64 t0 r6.1), t1, (Go.IntKind.wrap .i64 (t5 + (1 : Int))), ()), ())))))
 (some (.inr (.inl ((t0, ()), ())))))
noncomputable def spec_l17Toggled_2_loop (x : ((Int × ((List TEvent) × (Int × Unit))) × Unit)) : Option (((Int × Unit) × Unit) ⊕ (Unit × Unit)) := loopF (fun x : ((Int × ((List TEvent) × (Int × Unit))) × Unit) => spec_l17Toggled_2_R x.1.1 x.1.2.1 x.1.2.2.1) x
noncomputable def spec_l17Toggled (a0 : Int) (a1 : (List TEvent)) : Option (Int × Unit) :=
 (Option.bind (spec_l17Toggled_2_loop ((a0, a1, (0 : Int), ()), ())) (Sum.elim (fun y7 => (some (y7.1.1, ()))) (fun z8 => none)))

noncomputable def spec_l17Out_3_R (t1 : Unit) (t3 : Int) (t4 : Int) (b1 : TCombiner) : Option (((Unit × TCombo) × (TCombiner × Unit)) ⊕ (((Int × Unit) × Unit) ⊕ (Unit × Unit))) :=
 (cond (decide (t4 < ((List.length b1.2.2.2.2.2.2.1 : Nat) : Int)))
 (Option.bind (idx b1.2.2.2.2.2.2.1 t4) fun x7 =>
 (cond x7.2.2.1
 (Option.bind (idx b1.2.2.2.2.2.2.1 t4) fun x8 =>
 (Option.bind (spec_l10Bit x8.1) fun r9 =>
 (some (.inl (((), (ior .i64 t3 r9.1), (Go.IntKind.wrap .i64 (t4 + (1 : Int))), ()), (b1, ()))))))
 (some (.inl (((), t3, (Go.IntKind.wrap .i64 (t4 + (1 : Int))), ()), (b1, ()))))))
 (some (.inr (.inl ((t3, ()), ())))))
noncomputable def spec_l17Out_3_loop (x : ((Unit × TCombo) × (TCombiner × Unit))) : Option (((Int × Unit) × Unit) ⊕ (Unit × Unit)) := loopF (fun x : ((Unit × TCombo) × (TCombiner × Unit)) => spec_l17Out_3_R x.1.1 x.1.2.1 x.1.2.2.1 x.2.1) x
noncomputable def spec_l17Out (a0 : TCombiner) : Option (Int × Unit) :=
 (Option.bind (spec_l17Out_3_loop (((), a0.2.2.2.2.2.1, (0 : Int), ()), (a0, ()))) (Sum.elim (fun y10 => (some (y10.1.1, ()))) (fun z11 => none)))

noncomputable def spec_IsBoard_6_R (t1 : Unit) (t4 : Int) (t5 : Int) (b1 : TBoard) : Option (((Unit × TCombo) × (TBoard × Unit)) ⊕ (((Unit × Unit) × (TBoard × Unit)) ⊕ ((Bool × Unit) × Unit))) :=
 (cond (decide (t5 < ((List.length b1.2.2.1.1 : Nat) : Int)))
 (Option.bind (idx b1.2.2.1.1 t5) fun x12 =>
 (Option.bind (spec_IsMask b1.1 x12.1) fun r13 =>
 (cond (!r13.1)
 (some (.inr (.inr ((false, ()), ()))))
 (Option.bind (idx b1.2.2.1.1 t5) fun x14 =>
 (cond (decide (x14.2.1 ≥ t4))
 (some (.inr (.inr ((false, ()), ()))))
 (some (.inl (((), t4, (Go.IntKind.wrap .i64 (t5 + (1 : Int))), ()), (b1, ())))))))))
 (some (.inr (.inl (((), ()), (b1, ()))))))
noncomputable def spec_IsBoard_6_loop (x : ((Unit × TCombo) × (TBoard × Unit))) : Option (((Unit × Unit) × (TBoard × Unit)) ⊕ ((Bool × Unit) × Unit)) := loopF (fun x : ((Unit × TCombo) × (TBoard × Unit)) => spec_IsBoard_6_R x.1.1 x.1.2.1 x.1.2.2.1 x.2.1) x
noncomputable def spec_IsBoard (a0 : TBoard) : Option (Bool × Unit) :=
 (Option.bind (spec_KeyCount a0.1) fun r1 =>
 (cond (r1.1 == (0 : Int))
 (some (false, ()))
 (Option.bind (spec_IsDebouncer a0.2.1) fun r2 =>
 (cond (!r2.1)
 (some (false, ()))
 (cond (a0.2.1.2.2.1 != r1.1)
 (some (false, ()))
 (Option.bind (spec_IsMask a0.1 a0.2.2.2.2.1) fun r3 =>
 (cond (!r3.1)
 (some (false, ()))
 (Option.bind (spec_IsCombiner a0.2.2.1) fun r4 =>
 (cond (!r4.1)
 (some (false, ()))
 (Option.bind (spec_IsDecider a0.2.2.2.1) fun r5 =>
 (cond (!r5.1)
 (some (false, ()))
 (cond (decide (a0.2.2.2.1.1.1.1 < r1.1))
 (some (false, ()))
 (Option.bind (spec_IsBoard_6_loop (((), a0.2.2.2.1.1.1.1, (0 : Int), ()), (a0, ()))) (Sum.elim (fun y15 => (Option.bind (spec_l1In y15.2.1.2.2.2.2.2.1 (0 : Int) (1000000 : Int)) fun r17 =>
 (cond (!r17.1)
 (some (false, ()))
 (cond (decide (y15.2.1.2.2.1.2.2.2.1 > y15.2.1.2.2.2.2.2.1))
 (some (false, ()))
 (cond (decide (y15.2.1.2.2.2.1.2.2.2.1 > y15.2.1.2.2.2.2.2.1))
 (some (false, ()))
 (Option.bind (spec_l11Held y15.2.1.2.2.1) fun r18 =>
 (Option.bind (spec_l17Toggled r18.1 y15.2.1.2.2.1.2.2.1) fun r19 =>
 (cond (r19.1 == y15.2.1.2.1.2.2.2.1)
 (Option.bind (spec_l10Held y15.2.1.2.2.2.1.1) fun r20 =>
 (Option.bind (spec_l17Toggled r20.1 y15.2.1.2.2.2.1.2.2.1) fun r21 =>
 (Option.bind (spec_l17Out y15.2.1.2.2.1) fun r22 =>
 (some ((r21.1 == r22.1), ())))))
 (some (false, ())))))))))) (fun z16 => (some (z16.1.1, ())))))))))))))))))

noncomputable def spec_l17Copy (a0 : TBoard) : Option (TBoard × Unit) :=
 (cond (Nat.ble (List.length ([] : List Int) + List.length a0.2.1.2.2.2.2.2.1) lim)
 (Option.bind (spec_l11Copy a0.2.2.1) fun r1 =>
 (Option.bind (spec_l9Copy a0.2.2.2.1.1) fun r2 =>
 (cond (Nat.ble (List.length ([] : List TEvent) + List.length a0.2.2.2.1.2.2.1) lim)
 (some ((a0.1, (a0.2.1.1, a0.2.1.2.1, a0.2.1.2.2.1, a0.2.1.2.2.2.1, a0.2.1.2.2.2.2.1, (List.append ([] : List Int) a0.2.1.2.2.2.2.2.1), a0.2.1.2.2.2.2.2.2), r1.1, (r2.1, a0.2.2.2.1.2.1, (List.append ([] : List TEvent) a0.2.2.2.1.2.2.1), a0.2.2.2.1.2.2.2), a0.2.2.2.2), ()))
 none)))
 none)

noncomputable def spec_NewBoard (a0 : TEvent) (a1 : TDebouncer) (a2 : TCombiner) (a3 : TDecider) : Option (TBoard × (Bool × Unit)) :=
 (Option.bind (spec_IsBoard (a0, a1, a2, a3, (0 : Int), (0 : Int), ())) fun r1 =>
 (cond (!r1.1)
 (some ((((0 : Int), (0 : Int), false, ()), ((0 : Int), (0 : Int), (0 : Int), (0 : Int), (0 : Int), ([] : List Int), ()), (([] : List TCombo), (0 : Int), ([] : List TEvent), (0 : Int), (0 : Int), (0 : Int), ([] : List TEvent), ()), ((((0 : Int), ([] : List (List TAction)), ()), ([] : List (List TStep)), (0 : Int), ([] : List THeld), (0 : Int), false, ()), ((0 : Int), (0 : Int), (0 : Int), ()), ([] : List TEvent), (0 : Int), (0 : Int), (0 : Int), (0 : Int), ()), (0 : Int), (0 : Int), ()), false, ()))
 (Option.bind (spec_l17Copy (a0, a1, a2, a3, (0 : Int), (0 : Int), ())) fun r2 =>
 (some (r2.1, true, ())))))

noncomputable def impl_IsDebouncer_6_R (t66 : (List Int)) (t67 : Int) (t68 : Int) : Option ((((List Int) × TCombo) × Unit) ⊕ ((Unit × Unit) ⊕ ((Bool × Unit) × Unit))) :=
 (cond (decide (t68 < t67))
 (Option.bind (idx t66 t68) fun x3 =>
 (cond (decide (x3 < (0 : Int)))
 (some (.inr (.inr ((false, ()), ()))))
 (cond (decide (x3 > (99 : Int)))
 (some (.inr (.inr ((false, ()), ()))))
 (some (.inl ((t66, t67, (Go.IntKind.wrap .i64 (t68 + (1 : Int))), ()), ()))))))
 (some (.inr (.inl ((), ())))))
noncomputable def impl_IsDebouncer_6_loop (x : (((List Int) × TCombo) × Unit)) : Option ((Unit × Unit) ⊕ ((Bool × Unit) × Unit)) := loopF (fun x : (((List Int) × TCombo) × Unit) => impl_IsDebouncer_6_R x.1.1 x.1.2.1 x.1.2.2.1) x
noncomputable def impl_IsDebouncer (a0 : TDebouncer) : Option (Bool × Unit) :=
 (cond (decide (a0.1 < (0 : Int)))
 (some (false, ()))
 (cond (decide (a0.1 > (2 : Int)))
 (some (false, ()))
 (cond (decide (a0.2.1 < (1 : Int)))
 (some (false, ()))
 (cond (decide (a0.2.1 > (20 : Int)))
 (some (false, ()))
 (cond (decide (a0.2.2.1 < (1 : Int)))
 (some (false, ()))
 (cond (decide (a0.2.2.1 > (24 : Int)))
 (some (false, ()))
 (cond (((List.length a0.2.2.2.2.2.1 : Nat) : Int) != a0.2.2.1)
 (some (false, ()))
 (cond (decide (a0.2.2.2.1 < (0 : Int)))
 (some (false, ()))
 (cond (decide ((0 : Int) ≤ a0.2.2.1))
 (cond (decide (a0.2.2.2.1 ≥ (ishl .i64 (1 : Int) a0.2.2.1)))
 (some (false, ()))
 (cond (decide (a0.2.2.2.2.1 < (0 : Int)))
 (some (false, ()))
 (cond (decide ((0 : Int) ≤ a0.2.2.1))
 (cond (decide (a0.2.2.2.2.1 ≥ (ishl .i64 (1 : Int) a0.2.2.1)))
 (some (false, ()))
 (Option.bind (impl_IsDebouncer_6_loop ((a0.2.2.2.2.2.1, ((List.length a0.2.2.2.2.2.1 : Nat) : Int), (0 : Int), ()), ())) (Sum.elim (fun y4 => (some (true, ()))) (fun z5 => (some (z5.1.1, ()))))))
 none)))
 none)))))))))

noncomputable def bits_OnesCount32 (a0 : Int) : Option (Int × Unit) :=
 (cond (decide ((0 : Int) ≤ (24 : Int)))
 (Option.bind (idx str15 (ishr .u32 a0 (24 : Int))) fun c1 =>
 (cond (decide ((0 : Int) ≤ (16 : Int)))
 (Option.bind (idx str15 (iand .u32 (ishr .u32 a0 (16 : Int)) (255 : Int))) fun c2 =>
 (cond (decide ((0 : Int) ≤ (8 : Int)))
 (Option.bind (idx str15 (iand .u32 (ishr .u32 a0 (8 : Int)) (255 : Int))) fun c3 =>
 (Option.bind (idx str15 (iand .u32 a0 (255 : Int))) fun c4 =>
 (some ((Go.IntKind.wrap .i64 (Go.IntKind.wrap .u8 ((Go.IntKind.wrap .u8 ((Go.IntKind.wrap .u8 (((UInt8.toNat c1 : Nat) : Int) + ((UInt8.toNat c2 : Nat) : Int))) + ((UInt8.toNat c3 : Nat) : Int))) + ((UInt8.toNat c4 : Nat) : Int)))), ()))))
 none))
 none))
 none)

noncomputable def bits_OnesCount64 (a0 : Int) : Option (Int × Unit) :=
 (cond (decide ((0 : Int) ≤ (1 : Int)))
 (cond (decide ((0 : Int) ≤ (2 : Int)))
 (cond (decide ((0 : Int) ≤ (4 : Int)))
 (cond (decide ((0 : Int) ≤ (8 : Int)))
 (cond (decide ((0 : Int) ≤ (16 : Int)))
 (cond (decide ((0 : Int) ≤ (32 : Int)))
 (some ((iand .i64 (Go.IntKind.wrap .i64 (Go.IntKind.wrap .u64 ((Go.IntKind.wrap .u64 ((Go.IntKind.wrap .u64 ((iand .u64 (Go.IntKind.wrap .u64 ((ishr .u64 (Go.IntKind.wrap .u64 ((iand .u64 (ishr .u64 (Go.IntKind.wrap .u64 ((iand .u64 (ishr .u64 a0 (1 : Int)) (6148914691236517205 : Int)) + (iand .u64 a0 (6148914691236517205 : Int)))) (2 : Int)) (3689348814741910323 : Int)) + (iand .u64 (Go.IntKind.wrap .u64 ((iand .u64 (ishr .u64 a0 (1 : Int)) (6148914691236517205 : Int)) + (iand .u64 a0 (6148914691236517205 : Int)))) (3689348814741910323 : Int)))) (4 : Int)) + (Go.IntKind.wrap .u64 ((iand .u64 (ishr .u64 (Go.IntKind.wrap .u64 ((iand .u64 (ishr .u64 a0 (1 : Int)) (6148914691236517205 : Int)) + (iand .u64 a0 (6148914691236517205 : Int)))) (2 : Int)) (3689348814741910323 : Int)) + (iand .u64 (Go.IntKind.wrap .u64 ((iand .u64 (ishr .u64 a0 (1 : Int)) (6148914691236517205 : Int)) + (iand .u64 a0 (6148914691236517205 : Int)))) (3689348814741910323 : Int)))))) (1085102592571150095 : Int)) + (ishr .u64 (iand .u64 (Go.IntKind.wrap .u64 ((ishr .u64 (Go.IntKind.wrap .u64 ((iand .u64 (ishr .u64 (Go.IntKind.wrap .u64 ((iand .u64 (ishr .u64 a0 (1 : Int)) (6148914691236517205 : Int)) + (iand .u64 a0 (6148914691236517205 : Int)))) (2 : Int)) (3689348814741910323 : Int)) + (iand .u64 (Go.IntKind.wrap .u64 ((iand .u64 (ishr .u64 a0 (1 : Int)) (6148914691236517205 : Int)) + (iand .u64 a0 (6148914691236517205 : Int)))) (3689348814741910323 : Int)))) (4 : Int)) + (Go.IntKind.wrap .u64 ((iand .u64 (ishr .u64 (Go.IntKind.wrap .u64 ((iand .u64 (ishr .u64 a0 (1 : Int)) (6148914691236517205 : Int)) + (iand .u64 a0 (6148914691236517205 : Int)))) (2 : Int)) (3689348814741910323 : Int)) + (iand .u64 (Go.IntKind.wrap .u64 ((iand .u64 (ishr .u64 a0 (1 : Int)) (6148914691236517205 : Int)) + (iand .u64 a0 (6148914691236517205 : Int)))) (3689348814741910323 : Int)))))) (1085102592571150095 : Int)) (8 : Int)))) + (ishr .u64 (Go.IntKind.wrap .u64 ((iand .u64 (Go.IntKind.wrap .u64 ((ishr .u64 (Go.IntKind.wrap .u64 ((iand .u64 (ishr .u64 (Go.IntKind.wrap .u64 ((iand .u64 (ishr .u64 a0 (1 : Int)) (6148914691236517205 : Int)) + (iand .u64 a0 (6148914691236517205 : Int)))) (2 : Int)) (3689348814741910323 : Int)) + (iand .u64 (Go.IntKind.wrap .u64 ((iand .u64 (ishr .u64 a0 (1 : Int)) (6148914691236517205 : Int)) + (iand .u64 a0 (6148914691236517205 : Int)))) (3689348814741910323 : Int)))) (4 : Int)) + (Go.IntKind.wrap .u64 ((iand .u64 (ishr .u64 (Go.IntKind.wrap .u64 ((iand .u64 (ishr .u64 a0 (1 : Int)) (6148914691236517205 : Int)) + (iand .u64 a0 (6148914691236517205 : Int)))) (2 : Int)) (3689348814741910323 : Int)) + (iand .u64 (Go.IntKind.wrap .u64 ((iand .u64 (ishr .u64 a0 (1 : Int)) (6148914691236517205 : Int)) + (iand .u64 a0 (6148914691236517205 : Int)))) (3689348814741910323 : Int)))))) (1085102592571150095 : Int)) + (ishr .u64 (iand .u64 (Go.IntKind.wrap .u64 ((ishr .u64 (Go.IntKind.wrap .u64 ((iand .u64 (ishr .u64 (Go.IntKind.wrap .u64 ((iand .u64 (ishr .u64 a0 (1 : Int)) (6148914691236517205 : Int)) + (iand .u64 a0 (6148914691236517205 : Int)))) (2 : Int)) (3689348814741910323 : Int)) + (iand .u64 (Go.IntKind.wrap .u64 ((iand .u64 (ishr .u64 a0 (1 : Int)) (6148914691236517205 : Int)) + (iand .u64 a0 (6148914691236517205 : Int)))) (3689348814741910323 : Int)))) (4 : Int)) + (Go.IntKind.wrap .u64 ((iand .u64 (ishr .u64 (Go.IntKind.wrap .u64 ((iand .u64 (ishr .u64 a0 (1 : Int)) (6148914691236517205 : Int)) + (iand .u64 a0 (6148914691236517205 : Int)))) (2 : Int)) (3689348814741910323 : Int)) + (iand .u64 (Go.IntKind.wrap .u64 ((iand .u64 (ishr .u64 a0 (1 : Int)) (6148914691236517205 : Int)) + (iand .u64 a0 (6148914691236517205 : Int)))) (3689348814741910323 : Int)))))) (1085102592571150095 : Int)) (8 : Int)))) (16 : Int)))) + (ishr .u64 (Go.IntKind.wrap .u64 ((Go.IntKind.wrap .u64 ((iand .u64 (Go.IntKind.wrap .u64 ((ishr .u64 (Go.IntKind.wrap .u64 ((iand .u64 (ishr .u64 (Go.IntKind.wrap .u64 ((iand .u64 (ishr .u64 a0 (1 : Int)) (6148914691236517205 : Int)) + (iand .u64 a0 (6148914691236517205 : Int)))) (2 : Int)) (3689348814741910323 : Int)) + (iand .u64 (Go.IntKind.wrap .u64 ((iand .u64 (ishr .u64 a0 (1 : Int)) (6148914691236517205 : Int)) + (iand .u64 a0 (6148914691236517205 : Int)))) (3689348814741910323 : Int)))) (4 : Int)) + (Go.IntKind.wrap .u64 ((iand .u64 (ishr .u64 (Go.IntKind.wrap .u64 ((iand .u64 (ishr .u64 a0 (1 : Int)) (6148914691236517205 : Int)) + (iand .u64 a0 (6148914691236517205 : Int)))) (2 : Int)) (3689348814741910323 : Int)) + (iand .u64 (Go.IntKind.wrap .u64 ((iand .u64 (ishr .u64 a0 (1 : Int)) (6148914691236517205 : Int)) + (iand .u64 a0 (6148914691236517205 : Int)))) (3689348814741910323 : Int)))))) (1085102592571150095 : Int)) + (ishr .u64 (iand .u64 (Go.IntKind.wrap .u64 ((ishr .u64 (Go.IntKind.wrap .u64 ((iand .u64 (ishr .u64 (Go.IntKind.wrap .u64 ((iand .u64 (ishr .u64 a0 (1 : Int)) (6148914691236517205 : Int)) + (iand .u64 a0 (6148914691236517205 : Int)))) (2 : Int)) (3689348814741910323 : Int)) + (iand .u64 (Go.IntKind.wrap .u64 ((iand .u64 (ishr .u64 a0 (1 : Int)) (6148914691236517205 : Int)) + (iand .u64 a0 (6148914691236517205 : Int)))) (3689348814741910323 : Int)))) (4 : Int)) + (Go.IntKind.wrap .u64 ((iand .u64 (ishr .u64 (Go.IntKind.wrap .u64 ((iand .u64 (ishr .u64 a0 (1 : Int)) (6148914691236517205 : Int)) + (iand .u64 a0 (6148914691236517205 : Int)))) (2 : Int)) (3689348814741910323 : Int)) + (iand .u64 (Go.IntKind.wrap .u64 ((iand .u64 (ishr .u64 a0 (1 : Int)) (6148914691236517205 : Int)) + (iand .u64 a0 (6148914691236517205 : Int)))) (3689348814741910323 : Int)))))) (1085102592571150095 : Int)) (8 : Int)))) + (ishr .u64 (Go.IntKind.wrap .u64 ((iand .u64 (Go.IntKind.wrap .u64 ((ishr .u64 (Go.IntKind.wrap .u64 ((iand .u64 (ishr .u64 (Go.IntKind.wrap .u64 ((iand .u64 (ishr .u64 a0 (1 : Int)) (6148914691236517205 : Int)) + (iand .u64 a0 (6148914691236517205 : Int)))) (2 : Int)) (3689348814741910323 : Int)) + (iand .u64 (Go.IntKind.wrap .u64 ((iand .u64 (ishr .u64 a0 (1 : Int)) (6148914691236517205 : Int)) + (iand .u64 a0 (6148914691236517205 : Int)))) (3689348814741910323 : Int)))) (4 : Int)) + (Go.IntKind.wrap .u64 ((iand .u64 (ishr .u64 (Go.IntKind.wrap .u64 ((iand .u64 (ishr .u64 a0 (1 : Int)) (6148914691236517205 : Int)) + (iand .u64 a0 (6148914691236517205 : Int)))) (2 : Int)) (3689348814741910323 : Int)) + (iand .u64 (Go.IntKind.wrap .u64 ((iand .u64 (ishr .u64 a0 (1 : Int)) (6148914691236517205 : Int)) + (iand .u64 a0 (6148914691236517205 : Int)))) (3689348814741910323 : Int)))))) (1085102592571150095 : Int)) + (ishr .u64 (iand .u64 (Go.IntKind.wrap .u64 ((ishr .u64 (Go.IntKind.wrap .u64 ((iand .u64 (ishr .u64 (Go.IntKind.wrap .u64 ((iand .u64 (ishr .u64 a0 (1 : Int)) (6148914691236517205 : Int)) + (iand .u64 a0 (6148914691236517205 : Int)))) (2 : Int)) (3689348814741910323 : Int)) + (iand .u64 (Go.IntKind.wrap .u64 ((iand .u64 (ishr .u64 a0 (1 : Int)) (6148914691236517205 : Int)) + (iand .u64 a0 (6148914691236517205 : Int)))) (3689348814741910323 : Int)))) (4 : Int)) + (Go.IntKind.wrap .u64 ((iand .u64 (ishr .u64 (Go.IntKind.wrap .u64 ((iand .u64 (ishr .u64 a0 (1 : Int)) (6148914691236517205 : Int)) + (iand .u64 a0 (6148914691236517205 : Int)))) (2 : Int)) (3689348814741910323 : Int)) + (iand .u64 (Go.IntKind.wrap .u64 ((iand .u64 (ishr .u64 a0 (1 : Int)) (6148914691236517205 : Int)) + (iand .u64 a0 (6148914691236517205 : Int)))) (3689348814741910323 : Int)))))) (1085102592571150095 : Int)) (8 : Int)))) (16 : Int)))) (32 : Int))))) (127 : Int)), ()))
 none)
 none)
 none)
 none)
 none)
 none)

noncomputable def bits_OnesCount (a0 : Int) : Option (Int × Unit) :=
 (Option.bind (bits_OnesCount64 a0) fun r1 =>
 (some (r1.1, ())))

noncomputable def impl_IsCombos_12_R (t0 : (List TCombo)) (t4 : Unit) (t11 : (List TCombo)) (t12 : Int) (t13 : Int) (t48 : (List TCombo)) (t49 : Int) (t50 : Int) (b4 : TCombo) : Option ((((List TCombo) × (Unit × ((List TCombo) × (Int × (Int × ((List TCombo) × TCombo)))))) × (TCombo × Unit)) ⊕ ((((List TCombo) × ((List TCombo) × TCombo)) × Unit) ⊕ ((Bool × Unit) × Unit))) :=
 (cond (decide (t50 < t49))
 (Option.bind (idx t48 t50) fun x19 =>
 (cond (x19.1 == b4.1)
 (some (.inr (.inr ((false, ()), ()))))
 (cond (x19.2.1 == b4.2.1)
 (some (.inr (.inr ((false, ()), ()))))
 (some (.inl ((t0, (), t11, t12, t13, t48, t49, (Go.IntKind.wrap .i64 (t50 + (1 : Int))), ()), (b4, ())))))))
 (some (.inr (.inl ((t0, t11, t12, t13, ()), ())))))
noncomputable def impl_IsCombos_12_loop (x : (((List TCombo) × (Unit × ((List TCombo) × (Int × (Int × ((List TCombo) × TCombo)))))) × (TCombo × Unit))) : Option ((((List TCombo) × ((List TCombo) × TCombo)) × Unit) ⊕ ((Bool × Unit) × Unit)) := loopF (fun x : (((List TCombo) × (Unit × ((List TCombo) × (Int × (Int × ((List TCombo) × TCombo)))))) × (TCombo × Unit)) => impl_IsCombos_12_R x.1.1 x.1.2.1 x.1.2.2.1 x.1.2.2.2.1 x.1.2.2.2.2.1 x.1.2.2.2.2.2.1 x.1.2.2.2.2.2.2.1 x.1.2.2.2.2.2.2.2.1 x.2.1) x
noncomputable def impl_IsCombos_4_R (t0 : (List TCombo)) (t11 : (List TCombo)) (t12 : Int) (t13 : Int) : Option ((((List TCombo) × ((List TCombo) × TCombo)) × Unit) ⊕ ((Unit × Unit) ⊕ ((Bool × Unit) × Unit))) :=
 (cond (decide (t13 < t12))
 (Option.bind (idx t11 t13) fun x15 =>
 (cond (decide (x15.1 < (0 : Int)))
 (some (.inr (.inr ((false, ()), ()))))
 (cond (decide (x15.1 > (16777215 : Int)))
 (some (.inr (.inr ((false, ()), ()))))
 (cond (decide (x15.2.1 < (24 : Int)))
 (some (.inr (.inr ((false, ()), ()))))
 (cond (decide (x15.2.1 > (31 : Int)))
 (some (.inr (.inr ((false, ()), ()))))
 (Option.bind (bits_OnesCount (Go.IntKind.wrap .u64 x15.1)) fun r16 =>
 (cond (decide (r16.1 < (2 : Int)))
 (some (.inr (.inr ((false, ()), ()))))
 (cond (decide (r16.1 > (4 : Int)))
 (some (.inr (.inr ((false, ()), ()))))
 (cond (cutOk (List.length t0) (0 : Int) t13)
 (Option.bind (impl_IsCombos_12_loop ((t0, (), t11, t12, t13, (cutl t0 (Int.toNat (0 : Int)) (Int.toNat t13)), ((List.length (cutl t0 (Int.toNat (0 : Int)) (Int.toNat t13)) : Nat) : Int), (0 : Int), ()), (x15, ()))) (Sum.elim (fun y20 => (some (.inl ((y20.1.1, y20.1.2.1, y20.1.2.2.1, (Go.IntKind.wrap .i64 (y20.1.2.2.2.1 + (1 : Int))), ()), ())))) (fun z21 => (some (.inr (.inr ((z21.1.1, ()), ())))))))
 none)))))))))
 (some (.inr (.inl ((), ())))))
noncomputable def impl_IsCombos_4_loop (x : (((List TCombo) × ((List TCombo) × TCombo)) × Unit)) : Option ((Unit × Unit) ⊕ ((Bool × Unit) × Unit)) := loopF (fun x : (((List TCombo) × ((List TCombo) × TCombo)) × Unit) => impl_IsCombos_4_R x.1.1 x.1.2.1 x.1.2.2.1 x.1.2.2.2.1) x
noncomputable def impl_IsCombos (a0 : (List TCombo)) : Option (Bool × Unit) :=
 (cond (decide (((List.length a0 : Nat) : Int) > (8 : Int)))
 (some (false, ()))
 (Option.bind (impl_IsCombos_4_loop ((a0, a0, ((List.length a0 : Nat) : Int), (0 : Int), ()), ())) (Sum.elim (fun y22 => (some (true, ()))) (fun z23 => (some (z23.1.1, ()))))))

noncomputable def impl_comboOf_2_R (t1 : Int) (t4 : Unit) (t8 : (List TCombo)) (t9 : Int) (t10 : Int) (b4 : TCombo) : Option (((Int × (Unit × ((List TCombo) × TCombo))) × (TCombo × Unit)) ⊕ (((Unit × Unit) × (TCombo × Unit)) ⊕ ((Unit × (Bool × Unit)) × (TCombo × Unit)))) :=
 (cond (decide (t10 < t9))
 (Option.bind (idx t8 t10) fun x3 =>
 (cond (x3.2.1 == t1)
 (some (.inr (.inr (((), true, ()), (x3, ())))))
 (some (.inl ((t1, (), t8, t9, (Go.IntKind.wrap .i64 (t10 + (1 : Int))), ()), (b4, ()))))))
 (some (.inr (.inl (((), ()), (b4, ()))))))
noncomputable def impl_comboOf_2_loop (x : ((Int × (Unit × ((List TCombo) × TCombo))) × (TCombo × Unit))) : Option (((Unit × Unit) × (TCombo × Unit)) ⊕ ((Unit × (Bool × Unit)) × (TCombo × Unit))) := loopF (fun x : ((Int × (Unit × ((List TCombo) × TCombo))) × (TCombo × Unit)) => impl_comboOf_2_R x.1.1 x.1.2.1 x.1.2.2.1 x.1.2.2.2.1 x.1.2.2.2.2.1 x.2.1) x
noncomputable def impl_comboOf (a0 : (List TCombo)) (a1 : Int) : Option (TCombo × (Bool × Unit)) :=
 (Option.bind (impl_comboOf_2_loop ((a1, (), a0, ((List.length a0 : Nat) : Int), (0 : Int), ()), (((0 : Int), (0 : Int), ()), ()))) (Sum.elim (fun y4 => (some (((0 : Int), (0 : Int), ()), false, ()))) (fun z5 => (some (z5.2.1, z5.1.2.1, ())))))

noncomputable def impl_activeFits_3_R (t1 : Unit) (t3 : Int) (t9 : (List TEvent)) (t10 : Int) (t11 : Int) (b1 : TCombiner) : Option (((Unit × (Int × ((List TEvent) × TCombo))) × (TCombiner × Unit)) ⊕ ((Unit × Unit) ⊕ ((Bool × Unit) × Unit))) :=
 (cond (decide (t11 < t10))
 (Option.bind (idx t9 t11) fun x7 =>
 (Option.bind (impl_comboOf b1.1 x7.1) fun r8 =>
 (cond (!r8.2.1)
 (some (.inr (.inr ((false, ()), ()))))
 (Option.bind (impl_bit t3 x7.1) fun r9 =>
 (cond (r9.1 == (1 : Int))
 (some (.inr (.inr ((false, ()), ()))))
 (cond (decide (x7.2.1 ≤ (0 : Int)))
 (some (.inr (.inr ((false, ()), ()))))
 (cond ((iandn .i64 x7.2.1 r8.1.1) != (0 : Int))
 (some (.inr (.inr ((false, ()), ()))))
 (cond (x7.2.2.1 != (x7.2.1 == r8.1.1))
 (some (.inr (.inr ((false, ()), ()))))
 (cond (decide ((0 : Int) ≤ x7.1))
 (some (.inl (((), (ior .i64 t3 (ishl .i64 (1 : Int) x7.1)), t9, t10, (Go.IntKind.wrap .i64 (t11 + (1 : Int))), ()), (b1, ()))))
 none)))))))))
 (some (.inr (.inl ((), ())))))
noncomputable def impl_activeFits_3_loop (x : ((Unit × (Int × ((List TEvent) × TCombo))) × (TCombiner × Unit))) : Option ((Unit × Unit) ⊕ ((Bool × Unit) × Unit)) := loopF (fun x : ((Unit × (Int × ((List TEvent) × TCombo))) × (TCombiner × Unit)) => impl_activeFits_3_R x.1.1 x.1.2.1 x.1.2.2.1 x.1.2.2.2.1 x.1.2.2.2.2.1 x.2.1) x
noncomputable def impl_activeFits (a0 : TCombiner) : Option (Bool × Unit) :=
 (Option.bind (impl_activeFits_3_loop (((), (0 : Int), a0.2.2.2.2.2.2.1, ((List.length a0.2.2.2.2.2.2.1 : Nat) : Int), (0 : Int), ()), (a0, ()))) (Sum.elim (fun y10 => (some (true, ()))) (fun z11 => (some (z11.1.1, ())))))

noncomputable def impl_switchesDown_3_R (t4 : Int) (t10 : (List TEvent)) (t11 : Int) (t12 : Int) : Option (((Int × ((List TEvent) × TCombo)) × Unit) ⊕ (((Int × Unit) × Unit) ⊕ ((Int × (Bool × Unit)) × Unit))) :=
 (cond (decide (t12 < t11))
 (Option.bind (idx t10 t12) fun x3 =>
 (cond ((iand .i64 t4 x3.2.1) != (0 : Int))
 (some (.inr (.inr (((0 : Int), false, ()), ()))))
 (some (.inl (((ior .i64 t4 x3.2.1), t10, t11, (Go.IntKind.wrap .i64 (t12 + (1 : Int))), ()), ())))))
 (some (.inr (.inl ((t4, ()), ())))))
noncomputable def impl_switchesDown_3_loop (x : ((Int × ((List TEvent) × TCombo)) × Unit)) : Option (((Int × Unit) × Unit) ⊕ ((Int × (Bool × Unit)) × Unit)) := loopF (fun x : ((Int × ((List TEvent) × TCombo)) × Unit) => impl_switchesDown_3_R x.1.1 x.1.2.1 x.1.2.2.1 x.1.2.2.2.1) x
noncomputable def impl_switchesDown (a0 : TCombiner) : Option (Int × (Bool × Unit)) :=
 (Option.bind (impl_switchesDown_3_loop ((a0.2.2.2.2.2.1, a0.2.2.2.2.2.2.1, ((List.length a0.2.2.2.2.2.2.1 : Nat) : Int), (0 : Int), ()), ())) (Sum.elim (fun y4 => (some (y4.1.1, true, ()))) (fun z5 => (some (z5.1.1, z5.1.2.1, ())))))

noncomputable def impl_IsCombiner (a0 : TCombiner) : Option (Bool × Unit) :=
 (Option.bind (impl_IsCombos a0.1) fun r1 =>
 (cond (!r1.1)
 (some (false, ()))
 (cond (decide (a0.2.1 < (1 : Int)))
 (some (false, ()))
 (cond (decide (a0.2.1 > (200 : Int)))
 (some (false, ()))
 (cond (decide (a0.2.2.2.1 < (0 : Int)))
 (some (false, ()))
 (cond (decide (a0.2.2.2.1 > (1000000 : Int)))
 (some (false, ()))
 (cond (decide (a0.2.2.2.2.1 < (0 : Int)))
 (some (false, ()))
 (cond (decide (a0.2.2.2.2.1 > a0.2.2.2.1))
 (some (false, ()))
 (cond (decide (a0.2.2.2.2.2.1 < (0 : Int)))
 (some (false, ()))
 (cond (decide (a0.2.2.2.2.2.1 > (16777215 : Int)))
 (some (false, ()))
 (Option.bind (impl_activeFits a0) fun r2 =>
 (cond (!r2.1)
 (some (false, ()))
 (Option.bind (impl_switchesDown a0) fun r3 =>
 (cond r3.2.1
 (Option.bind (impl_queueFits a0.2.2.1 r3.1 (24 : Int)) fun r4 =>
 (cond r4.1
 (Option.bind (impl_notBehind a0.2.2.1 a0.2.2.2.1) fun r5 =>
 (some (r5.1, ())))
 (some (false, ()))))
 (some (false, ()))))))))))))))))

noncomputable def impl_queueDown_2_R (t0 : Int) (t7 : (List TEvent)) (t8 : Int) (t9 : Int) : Option (((Int × ((List TEvent) × TCombo)) × Unit) ⊕ (((Int × Unit) × Unit) ⊕ (Unit × Unit))) :=
 (cond (decide (t9 < t8))
 (Option.bind (idx t7 t9) fun x3 =>
 (cond x3.2.2.1
 (cond (decide ((0 : Int) ≤ x3.2.1))
 (some (.inl (((ior .i64 t0 (ishl .i64 (1 : Int) x3.2.1)), t7, t8, (Go.IntKind.wrap .i64 (t9 + (1 : Int))), ()), ())))
 none)
 (cond (decide ((0 : Int) ≤ x3.2.1))
 (some (.inl (((iandn .i64 t0 (ishl .i64 (1 : Int) x3.2.1)), t7, t8, (Go.IntKind.wrap .i64 (t9 + (1 : Int))), ()), ())))
 none)))
 (some (.inr (.inl ((t0, ()), ())))))
noncomputable def impl_queueDown_2_loop (x : ((Int × ((List TEvent) × TCombo)) × Unit)) : Option (((Int × Unit) × Unit) ⊕ (Unit × Unit)) := loopF (fun x : ((Int × ((List TEvent) × TCombo)) × Unit) => impl_queueDown_2_R x.1.1 x.1.2.1 x.1.2.2.1 x.1.2.2.2.1) x
noncomputable def impl_queueDown (a0 : Int) (a1 : (List TEvent)) : Option (Int × Unit) :=
 (Option.bind (impl_queueDown_2_loop ((a0, a1, ((List.length a1 : Nat) : Int), (0 : Int), ()), ())) (Sum.elim (fun y4 => (some (y4.1.1, ()))) (fun z5 => none)))

noncomputable def impl_IsBoard_7_R (t1 : Unit) (t3 : Int) (t62 : (List TCombo)) (t63 : Int) (t64 : Int) (b1 : TBoard) : Option (((Unit × (Int × ((List TCombo) × TCombo))) × (TBoard × Unit)) ⊕ (((Unit × Unit) × (TBoard × Unit)) ⊕ ((Bool × Unit) × Unit))) :=
 (cond (decide (t64 < t63))
 (Option.bind (idx t62 t64) fun x12 =>
 (Option.bind (impl_IsMask b1.1 x12.1) fun r13 =>
 (cond (!r13.1)
 (some (.inr (.inr ((false, ()), ()))))
 (cond (decide (x12.2.1 ≥ t3))
 (some (.inr (.inr ((false, ()), ()))))
 (some (.inl (((), t3, t62, t63, (Go.IntKind.wrap .i64 (t64 + (1 : Int))), ()), (b1, ()))))))))
 (some (.inr (.inl (((), ()), (b1, ()))))))
noncomputable def impl_IsBoard_7_loop (x : ((Unit × (Int × ((List TCombo) × TCombo))) × (TBoard × Unit))) : Option (((Unit × Unit) × (TBoard × Unit)) ⊕ ((Bool × Unit) × Unit)) := loopF (fun x : ((Unit × (Int × ((List TCombo) × TCombo))) × (TBoard × Unit)) => impl_IsBoard_7_R x.1.1 x.1.2.1 x.1.2.2.1 x.1.2.2.2.1 x.1.2.2.2.2.1 x.2.1) x
noncomputable def impl_IsBoard_17_R (t1 : Unit) (t6 : Int) (t8 : Int) (t116 : (List TEvent)) (t117 : Int) (t118 : Int) (b1 : TBoard) : Option (((Unit × (Int × (Int × ((List TEvent) × TCombo)))) × (TBoard × Unit)) ⊕ (((Unit × TCombo) × (TBoard × Unit)) ⊕ (Unit × Unit))) :=
 (cond (decide (t118 < t117))
 (Option.bind (idx t116 t118) fun x19 =>
 (cond x19.2.2.1
 (cond (decide ((0 : Int) ≤ x19.1))
 (some (.inl (((), t6, (ior .i64 t8 (ishl .i64 (1 : Int) x19.1)), t116, t117, (Go.IntKind.wrap .i64 (t118 + (1 : Int))), ()), (b1, ()))))
 none)
 (some (.inl (((), t6, t8, t116, t117, (Go.IntKind.wrap .i64 (t118 + (1 : Int))), ()), (b1, ()))))))
 (some (.inr (.inl (((), t6, t8, ()), (b1, ()))))))
noncomputable def impl_IsBoard_17_loop (x : ((Unit × (Int × (Int × ((List TEvent) × TCombo)))) × (TBoard × Unit))) : Option (((Unit × TCombo) × (TBoard × Unit)) ⊕ (Unit × Unit)) := loopF (fun x : ((Unit × (Int × (Int × ((List TEvent) × TCombo)))) × (TBoard × Unit)) => impl_IsBoard_17_R x.1.1 x.1.2.1 x.1.2.2.1 x.1.2.2.2.1 x.1.2.2.2.2.1 x.1.2.2.2.2.2.1 x.2.1) x
noncomputable def impl_IsBoard (a0 : TBoard) : Option (Bool × Unit) :=
 (Option.bind (impl_IsMatrix a0.1) fun r1 =>
 (cond (!r1.1)
 (some (false, ()))
 (Option.bind (impl_IsDebouncer a0.2.1) fun r2 =>
 (cond (!r2.1)
 (some (false, ()))
 (Option.bind (impl_IsCombiner a0.2.2.1) fun r3 =>
 (cond (!r3.1)
 (some (false, ()))
 (Option.bind (impl_IsDecider a0.2.2.2.1) fun r4 =>
 (cond (!r4.1)
 (some (false, ()))
 (Option.bind (impl_KeyCount a0.1) fun r5 =>
 (cond (a0.2.1.2.2.1 != r5.1)
 (some (false, ()))
 (Option.bind (impl_KeyCount a0.1) fun r6 =>
 (cond (decide (a0.2.2.2.1.1.1.1 < r6.1))
 (some (false, ()))
 (Option.bind (impl_IsMask a0.1 a0.2.2.2.2.1) fun r7 =>
 (cond (!r7.1)
 (some (false, ()))
 (Option.bind (impl_IsBoard_7_loop (((), a0.2.2.2.1.1.1.1, a0.2.2.1.1, ((List.length a0.2.2.1.1 : Nat) : Int), (0 : Int), ()), (a0, ()))) (Sum.elim (fun y14 => (cond (decide (y14.2.1.2.2.2.2.2.1 < (0 : Int)))
 (some (false, ()))
 (cond (decide (y14.2.1.2.2.2.2.2.1 > (1000000 : Int)))
 (some (false, ()))
 (cond (decide (y14.2.1.2.2.1.2.2.2.1 > y14.2.1.2.2.2.2.2.1))
 (some (false, ()))
 (cond (decide (y14.2.1.2.2.2.1.2.2.2.1 > y14.2.1.2.2.2.2.2.1))
 (some (false, ()))
 (Option.bind (impl_switchesDown y14.2.1.2.2.1) fun r16 =>
 (Option.bind (impl_IsBoard_17_loop (((), r16.1, y14.2.1.2.2.1.2.2.2.2.2.1, y14.2.1.2.2.1.2.2.2.2.2.2.1, ((List.length y14.2.1.2.2.1.2.2.2.2.2.2.1 : Nat) : Int), (0 : Int), ()), (y14.2.1, ()))) (Sum.elim (fun y20 => (Option.bind (impl_queueDown y20.1.2.1 y20.2.1.2.2.1.2.2.1) fun r22 =>
 (cond (r22.1 == y20.2.1.2.1.2.2.2.1)
 (Option.bind (impl_heldMask y20.2.1.2.2.2.1.1.2.2.2.1) fun r23 =>
 (Option.bind (impl_queueDown r23.1 y20.2.1.2.2.2.1.2.2.1) fun r24 =>
 (some ((r24.1 == y20.1.2.2.1), ()))))
 (some (false, ()))))) (fun z21 => none))))))))) (fun z15 => (some (z15.1.1, ())))))))))))))))))))

noncomputable def impl_copyCombiner (a0 : TCombiner) : Option (TCombiner × Unit) :=
 (cond (Nat.ble (List.length ([] : List TCombo) + List.length a0.1) lim)
 (cond (Nat.ble (List.length ([] : List TEvent) + List.length a0.2.2.1) lim)
 (cond (Nat.ble (List.length ([] : List TEvent) + List.length a0.2.2.2.2.2.2.1) lim)
 (some (((List.append ([] : List TCombo) a0.1), a0.2.1, (List.append ([] : List TEvent) a0.2.2.1), a0.2.2.2.1, a0.2.2.2.2.1, a0.2.2.2.2.2.1, (List.append ([] : List TEvent) a0.2.2.2.2.2.2.1), a0.2.2.2.2.2.2.2), ()))
 none)
 none)
 none)

noncomputable def impl_copyBoard (a0 : TBoard) : Option (TBoard × Unit) :=
 (Option.bind (impl_copyInts a0.2.1.2.2.2.2.2.1) fun r1 =>
 (Option.bind (impl_copyCombiner a0.2.2.1) fun r2 =>
 (Option.bind (impl_copyDecider a0.2.2.2.1) fun r3 =>
 (some ((a0.1, (a0.2.1.1, a0.2.1.2.1, a0.2.1.2.2.1, a0.2.1.2.2.2.1, a0.2.1.2.2.2.2.1, r1.1, a0.2.1.2.2.2.2.2.2), r2.1, r3.1, a0.2.2.2.2), ())))))

noncomputable def spec_IsReport_2_R (t1 : Unit) (t3 : Int) (b1 : TReport) : Option (((Unit × (Int × Unit)) × (TReport × Unit)) ⊕ (((Unit × Unit) × (TReport × Unit)) ⊕ ((Bool × Unit) × Unit))) :=
 (cond (decide (t3 < ((List.length b1.2.1 : Nat) : Int)))
 (Option.bind (idx b1.2.1 t3) fun x9 =>
 (Option.bind (spec_l1In x9 (1 : Int) (56 : Int)) fun r10 =>
 (cond (!r10.1)
 (some (.inr (.inr ((false, ()), ()))))
 (cond (decide (t3 > (0 : Int)))
 (Option.bind (idx b1.2.1 (Go.IntKind.wrap .i64 (t3 - (1 : Int)))) fun x11 =>
 (Option.bind (idx b1.2.1 t3) fun x12 =>
 (cond (decide (x11 ≥ x12))
 (some (.inr (.inr ((false, ()), ()))))
 (some (.inl (((), (Go.IntKind.wrap .i64 (t3 + (1 : Int))), ()), (b1, ())))))))
 (some (.inl (((), (Go.IntKind.wrap .i64 (t3 + (1 : Int))), ()), (b1, ()))))))))
 (some (.inr (.inl (((), ()), (b1, ()))))))
noncomputable def spec_IsReport_2_loop (x : ((Unit × (Int × Unit)) × (TReport × Unit))) : Option (((Unit × Unit) × (TReport × Unit)) ⊕ ((Bool × Unit) × Unit)) := loopF (fun x : ((Unit × (Int × Unit)) × (TReport × Unit)) => spec_IsReport_2_R x.1.1 x.1.2.1 x.2.1) x
noncomputable def spec_IsReport (a0 : TReport) : Option (Bool × Unit) :=
 (Option.bind (spec_IsReport_2_loop (((), (0 : Int), ()), (a0, ()))) (Sum.elim (fun y13 => (Option.bind (spec_l1In y13.2.1.1 (0 : Int) (15 : Int)) fun r15 =>
 (some (r15.1, ())))) (fun z14 => (some (z14.1.1, ())))))

noncomputable def spec_HalfKeys (a0 : THalves) : Option (Int × Unit) :=
 (cond ((2 : Int) == (0 : Int))
 none
 (cond ((Int.tmod a0.1.1.1 (2 : Int)) != (0 : Int))
 (some ((0 : Int), ()))
 (Option.bind (spec_KeyCount a0.1.1) fun r1 =>
 (cond ((2 : Int) == (0 : Int))
 none
 (some ((Go.IntKind.wrap .i64 (Int.tdiv r1.1 (2 : Int))), ()))))))

noncomputable def impl_HalfKeys (a0 : THalves) : Option (Int × Unit) :=
 (cond ((2 : Int) == (0 : Int))
 none
 (cond ((Int.tmod a0.1.1.1 (2 : Int)) != (0 : Int))
 (some ((0 : Int), ()))
 (Option.bind (impl_KeyCount a0.1.1) fun r1 =>
 (cond ((2 : Int) == (0 : Int))
 none
 (some ((Go.IntKind.wrap .i64 (Int.tdiv r1.1 (2 : Int))), ()))))))

noncomputable def spec_IsSession_2_R (t1 : Unit) (t3 : Int) (b1 : TSession) : Option (((Unit × (Int × Unit)) × (TSession × Unit)) ⊕ (((Unit × Unit) × (TSession × Unit)) ⊕ ((Bool × Unit) × Unit))) :=
 (cond (decide (t3 < ((List.length b1.2.1 : Nat) : Int)))
 (Option.bind (idx b1.2.1 t3) fun x9 =>
 (Option.bind (spec_l1In x9.1 (0 : Int) (1000000 : Int)) fun r10 =>
 (cond (!r10.1)
 (some (.inr (.inr ((false, ()), ()))))
 (Option.bind (idx b1.2.1 t3) fun x11 =>
 (Option.bind (spec_IsReport x11.2.1) fun r12 =>
 (cond (!r12.1)
 (some (.inr (.inr ((false, ()), ()))))
 (some (.inl (((), (Go.IntKind.wrap .i64 (t3 + (1 : Int))), ()), (b1, ()))))))))))
 (some (.inr (.inl (((), ()), (b1, ()))))))
noncomputable def spec_IsSession_2_loop (x : ((Unit × (Int × Unit)) × (TSession × Unit))) : Option (((Unit × Unit) × (TSession × Unit)) ⊕ ((Bool × Unit) × Unit)) := loopF (fun x : ((Unit × (Int × Unit)) × (TSession × Unit)) => spec_IsSession_2_R x.1.1 x.1.2.1 x.2.1) x
noncomputable def spec_IsSession (a0 : TSession) : Option (Bool × Unit) :=
 (Option.bind (spec_IsSession_2_loop (((), (0 : Int), ()), (a0, ()))) (Sum.elim (fun y13 => (Option.bind (spec_IsDecider y13.2.1.1) fun r15 =>
 (cond r15.1
 (some ((decide (((List.length y13.2.1.2.1 : Nat) : Int) ≤ (200 : Int))), ()))
 (some (false, ()))))) (fun z14 => (some (z14.1.1, ())))))

noncomputable def impl_IsSession_4_R (t16 : (List TSent)) (t17 : Int) (t18 : Int) : Option ((((List TSent) × TCombo) × Unit) ⊕ ((Unit × Unit) ⊕ ((Bool × Unit) × Unit))) :=
 (cond (decide (t18 < t17))
 (Option.bind (idx t16 t18) fun x6 =>
 (cond (decide (x6.1 < (0 : Int)))
 (some (.inr (.inr ((false, ()), ()))))
 (cond (decide (x6.1 > (1000000 : Int)))
 (some (.inr (.inr ((false, ()), ()))))
 (Option.bind (impl_IsReport x6.2.1) fun r7 =>
 (cond (!r7.1)
 (some (.inr (.inr ((false, ()), ()))))
 (some (.inl ((t16, t17, (Go.IntKind.wrap .i64 (t18 + (1 : Int))), ()), ()))))))))
 (some (.inr (.inl ((), ())))))
noncomputable def impl_IsSession_4_loop (x : (((List TSent) × TCombo) × Unit)) : Option ((Unit × Unit) ⊕ ((Bool × Unit) × Unit)) := loopF (fun x : (((List TSent) × TCombo) × Unit) => impl_IsSession_4_R x.1.1 x.1.2.1 x.1.2.2.1) x
noncomputable def impl_IsSession (a0 : TSession) : Option (Bool × Unit) :=
 (Option.bind (impl_IsDecider a0.1) fun r1 =>
 (cond (!r1.1)
 (some (false, ()))
 (cond (decide (((List.length a0.2.1 : Nat) : Int) > (200 : Int)))
 (some (false, ()))
 (Option.bind (impl_IsSession_4_loop ((a0.2.1, ((List.length a0.2.1 : Nat) : Int), (0 : Int), ()), ())) (Sum.elim (fun y8 => (some (true, ()))) (fun z9 => (some (z9.1.1, ()))))))))

noncomputable def spec_TraceOf (a0 : TKeymap) (a1 : (List Int)) : Option ((List TReport) × (Bool × Unit)) :=
 (Option.bind (spec_NewEngine a0 ([] : List (List TStep))) fun r1 =>
 (Option.bind (spec_TapKeys r1.1 a1) fun r2 =>
 (cond (!r1.2.1)
 (some (([] : List TReport), false, ()))
 (cond (!r2.2.2.1)
 (some (([] : List TReport), false, ()))
 (some (r2.2.1, true, ()))))))

noncomputable def laws_FnExactTraceOf (a0 : TKeymap) (a1 : (List Int)) : Option (Bool × Unit) :=
 (cond (decide (((List.length a1 : Nat) : Int) > (1048576 : Int)))
 (some (true, ()))
 (Option.bind (laws_szKeymap a0 (1048576 : Int)) fun r1 =>
 (cond (decide (r1.1 < (0 : Int)))
 (some (true, ()))
 (Option.bind (laws_toKeymap a0) fun r2 =>
 (Option.bind (laws_toIntS a1) fun r3 =>
 (Option.bind (spec_TraceOf r2.1 r3.1) fun r4 =>
 (Option.bind (laws_toKeymap a0) fun r5 =>
 (Option.bind (laws_toIntS a1) fun r6 =>
 (Option.bind (impl_TraceOf r5.1 r6.1) fun r7 =>
 (Option.bind (laws_eqReportS r7.1 r4.1) fun r8 =>
 (cond (!r8.1)
 (some (false, ()))
 (cond (r7.2.1 != r4.2.1)
 (some (false, ()))
 (Option.bind (laws_toKeymap a0) fun r9 =>
 (Option.bind (laws_eqKeymap r5.1 r9.1) fun r10 =>
 (cond (!r10.1)
 (some (false, ()))
 (Option.bind (laws_toIntS a1) fun r11 =>
 (Option.bind (laws_eqIntS r6.1 r11.1) fun r12 =>
 (cond (!r12.1)
 (some (false, ()))
 (Option.bind (laws_markKeymap r5.1 (1 : Int)) fun r13 =>
 (Option.bind (laws_markIntS r6.1 r13.2.1) fun r14 =>
 (cond (decide (r14.2.1 < (0 : Int)))
 (some (false, ()))
 (Option.bind (laws_eqReportS r7.1 r4.1) fun r15 =>
 (cond (!r15.1)
 (some (false, ()))
 (cond (r7.2.1 != r4.2.1)
 (some (false, ()))
 (Option.bind (laws_markReportS r7.1 (1 : Int)) fun r16 =>
 (Option.bind (laws_heldReportS r16.1 (1 : Int)) fun r17 =>
 (cond (decide (r17.1 < (0 : Int)))
 (some (false, ()))
 (cond (r17.1 != r16.2.1)
 (some (false, ()))
 (Option.bind (laws_toKeymap a0) fun r18 =>
 (Option.bind (laws_toIntS a1) fun r19 =>
 (Option.bind (impl_TraceOf r18.1 r19.1) fun r20 =>
 (Option.bind (laws_eqReportS r20.1 r4.1) fun r21 =>
 (cond (!r21.1)
 (some (false, ()))
 (cond (r20.2.1 != r4.2.1)
 (some (false, ()))
 (Option.bind (laws_heldReportS r16.1 (1 : Int)) fun r22 =>
 (cond (decide (r22.1 < (0 : Int)))
 (some (false, ()))
 (cond (r22.1 != r16.2.1)
 (some (false, ()))
 (some (true, ())))))))))))))))))))))))))))))))))))))))

noncomputable def spec_IsReceiver (a0 : TReceiver) : Option (Bool × Unit) :=
 (cond (decide (((List.length a0.1 : Nat) : Int) < (6 : Int)))
 (Option.bind (spec_l1In a0.2.1 (-1 : Int) (255 : Int)) fun r1 =>
 (cond r1.1
 (Option.bind (spec_l1In a0.2.2.1 (0 : Int) (16777215 : Int)) fun r2 =>
 (cond r2.1
 (Option.bind (spec_l1In a0.2.2.2.1 (0 : Int) (20 : Int)) fun r3 =>
 (some (r3.1, ())))
 (some (false, ()))))
 (some (false, ()))))
 (some (false, ())))

noncomputable def spec_IsHalves (a0 : THalves) : Option (Bool × Unit) :=
 (Option.bind (spec_IsBoard a0.1) fun r1 =>
 (cond r1.1
 (Option.bind (spec_HalfKeys a0) fun r2 =>
 (cond (decide (r2.1 > (0 : Int)))
 (Option.bind (spec_IsReceiver a0.2.1) fun r3 =>
 (cond r3.1
 (Option.bind (spec_l1In a0.2.2.1 (0 : Int) (255 : Int)) fun r4 =>
 (some (r4.1, ())))
 (some (false, ()))))
 (some (false, ()))))
 (some (false, ()))))

noncomputable def impl_IsReceiver (a0 : TReceiver) : Option (Bool × Unit) :=
 (cond (decide (((List.length a0.1 : Nat) : Int) < (6 : Int)))
 (cond (decide (a0.2.1 ≥ (-1 : Int)))
 (cond (decide (a0.2.1 ≤ (255 : Int)))
 (cond (decide (a0.2.2.1 ≥ (0 : Int)))
 (cond (decide (a0.2.2.1 ≤ (16777215 : Int)))
 (cond (decide (a0.2.2.2.1 ≥ (0 : Int)))
 (some ((decide (a0.2.2.2.1 ≤ (20 : Int))), ()))
 (some (false, ())))
 (some (false, ())))
 (some (false, ())))
 (some (false, ())))
 (some (false, ())))
 (some (false, ())))

noncomputable def impl_IsHalves (a0 : THalves) : Option (Bool × Unit) :=
 (Option.bind (impl_IsBoard a0.1) fun r1 =>
 (cond r1.1
 (Option.bind (impl_IsReceiver a0.2.1) fun r2 =>
 (cond r2.1
 (Option.bind (impl_HalfKeys a0) fun r3 =>
 (cond (r3.1 != (0 : Int))
 (cond (decide (a0.2.2.1 ≥ (0 : Int)))
 (some ((decide (a0.2.2.1 ≤ (255 : Int))), ()))
 (some (false, ())))
 (some (false, ()))))
 (some (false, ()))))
 (some (false, ()))))

noncomputable def impl_NewBoard (a0 : TEvent) (a1 : TDebouncer) (a2 : TCombiner) (a3 : TDecider) : Option (TBoard × (Bool × Unit)) :=
 (Option.bind (impl_copyBoard (a0, a1, a2, a3, (0 : Int), (0 : Int), ())) fun r1 =>
 (Option.bind (impl_IsBoard r1.1) fun r2 =>
 (cond (!r2.1)
 (some ((((0 : Int), (0 : Int), false, ()), ((0 : Int), (0 : Int), (0 : Int), (0 : Int), (0 : Int), ([] : List Int), ()), (([] : List TCombo), (0 : Int), ([] : List TEvent), (0 : Int), (0 : Int), (0 : Int), ([] : List TEvent), ()), ((((0 : Int), ([] : List (List TAction)), ()), ([] : List (List TStep)), (0 : Int), ([] : List THeld), (0 : Int), false, ()), ((0 : Int), (0 : Int), (0 : Int), ()), ([] : List TEvent), (0 : Int), (0 : Int), (0 : Int), (0 : Int), ()), (0 : Int), (0 : Int), ()), false, ()))
 (some (r1.1, true, ())))))

noncomputable def spec_NewReceiver : Option (TReceiver × Unit) :=
 (some ((([] : List Int), (-1 : Int), (0 : Int), (0 : Int), ()), ()))

noncomputable def spec_l22Copy (a0 : THalves) : Option (THalves × Unit) :=
 (Option.bind (spec_l17Copy a0.1) fun r1 =>
 (cond (Nat.ble (List.length ([] : List Int) + List.length a0.2.1.1) lim)
 (some ((r1.1, ((List.append ([] : List Int) a0.2.1.1), a0.2.1.2), a0.2.2), ()))
 none))

noncomputable def spec_NewHalves (a0 : TBoard) : Option (THalves × (Bool × Unit)) :=
 (Option.bind spec_NewReceiver fun r1 =>
 (Option.bind (spec_IsHalves (a0, r1.1, (0 : Int), ())) fun r2 =>
 (cond (!r2.1)
 (some (((((0 : Int), (0 : Int), false, ()), ((0 : Int), (0 : Int), (0 : Int), (0 : Int), (0 : Int), ([] : List Int), ()), (([] : List TCombo), (0 : Int), ([] : List TEvent), (0 : Int), (0 : Int), (0 : Int), ([] : List TEvent), ()), ((((0 : Int), ([] : List (List TAction)), ()), ([] : List (List TStep)), (0 : Int), ([] : List THeld), (0 : Int), false, ()), ((0 : Int), (0 : Int), (0 : Int), ()), ([] : List TEvent), (0 : Int), (0 : Int), (0 : Int), (0 : Int), ()), (0 : Int), (0 : Int), ()), (([] : List Int), (0 : Int), (0 : Int), (0 : Int), ()), (0 : Int), ()), false, ()))
 (Option.bind (spec_l22Copy (a0, r1.1, (0 : Int), ())) fun r3 =>
 (some (r3.1, true, ()))))))

noncomputable def impl_NewReceiver : Option (TReceiver × Unit) :=
 (some ((([] : List Int), (-1 : Int), (0 : Int), (0 : Int), ()), ()))

noncomputable def impl_NewHalves (a0 : TBoard) : Option (THalves × (Bool × Unit)) :=
 (Option.bind (impl_copyBoard a0) fun r1 =>
 (Option.bind impl_NewReceiver fun r2 =>
 (Option.bind (impl_IsHalves (r1.1, r2.1, (0 : Int), ())) fun r3 =>
 (cond (!r3.1)
 (some (((((0 : Int), (0 : Int), false, ()), ((0 : Int), (0 : Int), (0 : Int), (0 : Int), (0 : Int), ([] : List Int), ()), (([] : List TCombo), (0 : Int), ([] : List TEvent), (0 : Int), (0 : Int), (0 : Int), ([] : List TEvent), ()), ((((0 : Int), ([] : List (List TAction)), ()), ([] : List (List TStep)), (0 : Int), ([] : List THeld), (0 : Int), false, ()), ((0 : Int), (0 : Int), (0 : Int), ()), ([] : List TEvent), (0 : Int), (0 : Int), (0 : Int), (0 : Int), ()), (0 : Int), (0 : Int), ()), (([] : List Int), (0 : Int), (0 : Int), (0 : Int), ()), (0 : Int), ()), false, ()))
 (some ((r1.1, r2.1, (0 : Int), ()), true, ()))))))
end KF
