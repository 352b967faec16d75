/- The plain functions that the Go functions compute: definitions alone (no condition). -/
import Derived.Test.YtnlnkfkpmcpbdaaCb
namespace KF
open Go
set_option linter.unusedVariables false
abbrev int : Ty := .i .i64
abbrev byte : Ty := .i .u8
abbrev tAcceptRange : Ty := (.p byte (.p byte .u))
abbrev TAcceptRange : Type := (Int × (Int × Unit))
abbrev tCombo : Ty := (.p int (.p int .u))
abbrev TCombo : Type := (Int × (Int × Unit))
abbrev tReport : Ty := (.p int (.p (.sl int) .u))
abbrev TReport : Type := (Int × ((List Int) × Unit))
abbrev tEvent : Ty := (.p int (.p int (.p .b .u)))
abbrev TEvent : Type := (Int × (Int × (Bool × Unit)))
abbrev tStep : Ty := (.p int tCombo)
abbrev TStep : Type := (Int × TCombo)
abbrev tFlash : Ty := (.p (.sl (.sl int)) (.p (.sl int) .u))
abbrev TFlash : Type := ((List (List Int)) × ((List Int) × Unit))
abbrev tL1Cur : Ty := (.p (.sl byte) tCombo)
abbrev TL1Cur : Type := ((List Int) × TCombo)
abbrev tAction : Ty := (.p int tStep)
abbrev TAction : Type := (Int × TStep)
abbrev tFlashOp : Ty := (.p .b tStep)
abbrev TFlashOp : Type := (Bool × TStep)
abbrev tReceiver : Ty := (.p (.sl byte) tStep)
abbrev TReceiver : Type := ((List Int) × TStep)
abbrev tSent : Ty := (.p int (.p tReport .u))
abbrev TSent : Type := (Int × (TReport × Unit))
abbrev tTapped : Ty := (.p tEvent (.p .s .u))
abbrev TTapped : Type := (TEvent × ((List UInt8) × Unit))
abbrev tHeld : Ty := (.p int (.p tAction .u))
abbrev THeld : Type := (Int × (TAction × Unit))
abbrev tDebouncer : Ty := (.p int (.p int (.p int (.p int tReport))))
abbrev TDebouncer : Type := (Int × (Int × (Int × (Int × TReport))))
abbrev tKeymap : Ty := (.p int (.p (.sl (.sl tAction)) .u))
abbrev TKeymap : Type := (Int × ((List (List TAction)) × Unit))
abbrev tBoth : Ty := (.p tEvent (.p tEvent .u))
abbrev TBoth : Type := (TEvent × (TEvent × Unit))
abbrev tCombiner : Ty := (.p (.sl tCombo) (.p int (.p (.sl tEvent) (.p int (.p int (.p int (.p (.sl tEvent) .u)))))))
abbrev TCombiner : Type := ((List TCombo) × (Int × ((List TEvent) × (Int × (Int × (Int × ((List TEvent) × Unit)))))))
abbrev tEngine : Ty := (.p tKeymap (.p (.sl (.sl tStep)) (.p int (.p (.sl tHeld) (.p int (.p .b .u))))))
abbrev TEngine : Type := (TKeymap × ((List (List TStep)) × (Int × ((List THeld) × (Int × (Bool × Unit))))))
abbrev tDecider : Ty := (.p tEngine (.p tStep (.p (.sl tEvent) tAction)))
abbrev TDecider : Type := (TEngine × (TStep × ((List TEvent) × TAction)))
abbrev tSession : Ty := (.p tDecider (.p (.sl tSent) .u))
abbrev TSession : Type := (TDecider × ((List TSent) × Unit))
abbrev tL19Pair : Ty := (.p tEngine (.p tEngine (.p (.sl int) .u)))
abbrev TL19Pair : Type := (TEngine × (TEngine × ((List Int) × Unit)))
abbrev tBoard : Ty := (.p tEvent (.p tDebouncer (.p tCombiner (.p tDecider tCombo))))
abbrev TBoard : Type := (TEvent × (TDebouncer × (TCombiner × (TDecider × TCombo))))
abbrev tHalves : Ty := (.p tBoard (.p tReceiver (.p int .u)))
abbrev THalves : Type := (TBoard × (TReceiver × (Int × Unit)))
abbrev tMatrix : Ty := tEvent
abbrev TMatrix : Type := TEvent
abbrev tTiming : Ty := tStep
abbrev TTiming : Type := TStep
abbrev tMemory : Ty := tEvent
abbrev TMemory : Type := TEvent
abbrev tActive : Ty := tEvent
abbrev TActive : Type := TEvent
abbrev tPair : Ty := tCombo
abbrev TPair : Type := TCombo


noncomputable def spec_SealPacket_6_R (t0 : (List Int)) (t3 : (List Int)) (t4 : Int) (t5 : Int) : Option ((((List Int) × TL1Cur) × Unit) ⊕ ((((List Int) × (Int × Unit)) × Unit) ⊕ (Unit × Unit))) :=
 (cond (decide (t5 < ((List.length t0 : Nat) : Int)))
 (Option.bind (idx t0 t5) fun x7 =>
 (cond (inb (List.length t3) t5)
 (Option.bind t3[(Int.toNat t5)]? fun x8 =>
 (Option.bind (idx t0 t5) fun x9 =>
 (some (.inl ((t0, (List.set t3 (Int.toNat t5) x7), (Go.IntKind.wrap .i64 (t4 + (Go.IntKind.wrap .i64 ((Go.IntKind.wrap .i64 (t5 + (1 : Int))) * (Go.IntKind.wrap .i64 x9))))), (Go.IntKind.wrap .i64 (t5 + (1 : Int))), ()), ())))))
 none))
 (some (.inr (.inl ((t3, t4, ()), ())))))
noncomputable def spec_SealPacket_6_loop (x : (((List Int) × TL1Cur) × Unit)) : Option ((((List Int) × (Int × Unit)) × Unit) ⊕ (Unit × Unit)) := loopF (fun x : (((List Int) × TL1Cur) × Unit) => spec_SealPacket_6_R x.1.1 x.1.2.1 x.1.2.2.1 x.1.2.2.2.1) x
noncomputable def spec_SealPacket (a0 : (List Int)) : Option ((List Int) × Unit) :=
 (cond (decide (((List.length a0 : Nat) : Int) ≥ (8 : Int)))
 (some (([] : List Int), ()))
 (cond (((8 : Int) == (8 : Int)) && (decide ((0 : Int) ≤ (8 : Int)) && decide ((8 : Int) ≤ ((lim : Nat) : Int))))
 (Option.bind (spec_SealPacket_6_loop ((a0, (List.replicate (Int.toNat (8 : Int)) (0 : Int)), (90 : Int), (0 : Int), ()), ())) (Sum.elim (fun y10 => (cond ((256 : Int) == (0 : Int))
 none
 (cond (inb (List.length y10.1.1) (7 : Int))
 (Option.bind y10.1.1[(Int.toNat (7 : Int))]? fun x12 =>
 (some ((List.set y10.1.1 (Int.toNat (7 : Int)) (Go.IntKind.wrap .u8 (Int.tmod y10.1.2.1 (256 : Int)))), ())))
 none))) (fun z11 => none)))
 none))

noncomputable def spec_IsPacket (a0 : (List Int)) : Option (Bool × Unit) :=
 (cond (((List.length a0 : Nat) : Int) == (8 : Int))
 (cond (cutOk (List.length a0) (0 : Int) (7 : Int))
 (Option.bind (spec_SealPacket (cutl a0 (Int.toNat (0 : Int)) (Int.toNat (7 : Int)))) fun r1 =>
 (some (((strOf r1.1) == (strOf a0)), ())))
 none)
 (some (false, ())))

noncomputable def impl_SealPacket_7_R (t3 : (List Int)) (t4 : Int) (t14 : (List Int)) (t15 : Int) (t16 : Int) : Option ((((List Int) × (Int × TL1Cur)) × Unit) ⊕ ((((List Int) × (Int × Unit)) × Unit) ⊕ (Unit × Unit))) :=
 (cond (decide (t16 < t15))
 (Option.bind (idx t14 t16) fun x3 =>
 (some (.inl ((t3, (Go.IntKind.wrap .i64 (t4 + (Go.IntKind.wrap .i64 ((Go.IntKind.wrap .i64 x3) * (Go.IntKind.wrap .i64 (t16 + (1 : Int))))))), t14, t15, (Go.IntKind.wrap .i64 (t16 + (1 : Int))), ()), ()))))
 (some (.inr (.inl ((t3, t4, ()), ())))))
noncomputable def impl_SealPacket_7_loop (x : (((List Int) × (Int × TL1Cur)) × Unit)) : Option ((((List Int) × (Int × Unit)) × Unit) ⊕ (Unit × Unit)) := loopF (fun x : (((List Int) × (Int × TL1Cur)) × Unit) => impl_SealPacket_7_R x.1.1 x.1.2.1 x.1.2.2.1 x.1.2.2.2.1 x.1.2.2.2.2.1) x
noncomputable def impl_SealPacket (a0 : (List Int)) : Option ((List Int) × Unit) :=
 (cond (decide (((List.length a0 : Nat) : Int) ≥ (8 : Int)))
 (some (([] : List Int), ()))
 (cond (((8 : Int) == (8 : Int)) && (decide ((0 : Int) ≤ (8 : Int)) && decide ((8 : Int) ≤ ((lim : Nat) : Int))))
 (cond (Nat.ble (List.length a0) (List.length (List.replicate (Int.toNat (8 : Int)) (0 : Int))))
 (Option.bind (impl_SealPacket_7_loop (((List.append a0 (List.drop (List.length a0) (List.replicate (Int.toNat (8 : Int)) (0 : Int)))), (90 : Int), a0, ((List.length a0 : Nat) : Int), (0 : Int), ()), ())) (Sum.elim (fun y4 => (cond ((256 : Int) == (0 : Int))
 none
 (cond (inb (List.length y4.1.1) (7 : Int))
 (Option.bind y4.1.1[(Int.toNat (7 : Int))]? fun x6 =>
 (some ((List.set y4.1.1 (Int.toNat (7 : Int)) (Go.IntKind.wrap .u8 (Int.tmod y4.1.2.1 (256 : Int)))), ())))
 none))) (fun z5 => none)))
 none)
 none))

noncomputable def impl_IsPacket (a0 : (List Int)) : Option (Bool × Unit) :=
 (cond (((List.length a0 : Nat) : Int) == (8 : Int))
 (cond (cutOk (List.length a0) (0 : Int) (7 : Int))
 (Option.bind (impl_SealPacket (cutl a0 (Int.toNat (0 : Int)) (Int.toNat (7 : Int)))) fun r1 =>
 (some (((strOf r1.1) == (strOf a0)), ())))
 none)
 (some (false, ())))

noncomputable def spec_l1In (a0 : Int) (a1 : Int) (a2 : Int) : Option (Bool × Unit) :=
 (cond (decide (a0 ≥ a1))
 (some ((decide (a0 ≤ a2)), ()))
 (some (false, ())))

noncomputable def spec_ReadScript_6_R (t0 : Int) (t1 : Int) (t5 : (List (List Int))) (t6 : Int) (t7 : Int) : Option (((Int × (Int × ((List (List Int)) × TCombo))) × Unit) ⊕ (((Int × (Int × ((List (List Int)) × (Int × Unit)))) × Unit) ⊕ (Unit × Unit))) :=
 (cond (decide (t7 < t0))
 (Option.bind (spec_SealPacket ([(2 : Int), (Go.IntKind.wrap .u8 t6), (Go.IntKind.wrap .u8 t7)] : List Int)) fun r16 =>
 (cond (Nat.ble (List.length t5 + List.length ([r16.1] : List (List Int))) lim)
 (some (.inl ((t0, t1, (List.append t5 ([r16.1] : List (List Int))), t6, (Go.IntKind.wrap .i64 (t7 + (1 : Int))), ()), ())))
 none))
 (some (.inr (.inl ((t0, t1, t5, t6, ()), ())))))
noncomputable def spec_ReadScript_6_loop (x : ((Int × (Int × ((List (List Int)) × TCombo))) × Unit)) : Option (((Int × (Int × ((List (List Int)) × (Int × Unit)))) × Unit) ⊕ (Unit × Unit)) := loopF (fun x : ((Int × (Int × ((List (List Int)) × TCombo))) × Unit) => spec_ReadScript_6_R x.1.1 x.1.2.1 x.1.2.2.1 x.1.2.2.2.1 x.1.2.2.2.2.1) x
noncomputable def spec_ReadScript_3_R (t0 : Int) (t1 : Int) (t5 : (List (List Int))) (t6 : Int) : Option (((Int × (Int × ((List (List Int)) × (Int × Unit)))) × Unit) ⊕ ((((List (List Int)) × Unit) × Unit) ⊕ (Unit × Unit))) :=
 (cond (decide (t6 < t1))
 (Option.bind (spec_l1In t0 (1 : Int) (32 : Int)) fun r13 =>
 (cond r13.1
 (cond (decide (t1 ≤ (4 : Int)))
 (Option.bind (spec_ReadScript_6_loop ((t0, t1, t5, t6, (0 : Int), ()), ())) (Sum.elim (fun y17 => (some (.inl ((y17.1.1, y17.1.2.1, y17.1.2.2.1, (Go.IntKind.wrap .i64 (y17.1.2.2.2.1 + (1 : Int))), ()), ())))) (fun z18 => (some (.inr (.inr ((), ())))))))
 (some (.inr (.inl ((t5, ()), ())))))
 (some (.inr (.inl ((t5, ()), ()))))))
 (some (.inr (.inl ((t5, ()), ())))))
noncomputable def spec_ReadScript_3_loop (x : ((Int × (Int × ((List (List Int)) × (Int × Unit)))) × Unit)) : Option ((((List (List Int)) × Unit) × Unit) ⊕ (Unit × Unit)) := loopF (fun x : ((Int × (Int × ((List (List Int)) × (Int × Unit)))) × Unit) => spec_ReadScript_3_R x.1.1 x.1.2.1 x.1.2.2.1 x.1.2.2.2.1) x
noncomputable def spec_ReadScript (a0 : Int) (a1 : Int) : Option ((List (List Int)) × Unit) :=
 (Option.bind (spec_ReadScript_3_loop ((a0, a1, ([] : List (List Int)), (0 : Int), ()), ())) (Sum.elim (fun y19 => (some (y19.1.1, ()))) (fun z20 => none)))

noncomputable def impl_ReadScript_8_R (t0 : Int) (t5 : (List (List Int))) (t6 : Int) (t22 : Int) (t23 : Int) (t26 : Int) (t27 : Int) : Option (((Int × ((List (List Int)) × (Int × TAction))) × Unit) ⊕ (((Int × ((List (List Int)) × TCombo)) × Unit) ⊕ (Unit × Unit))) :=
 (cond (decide (t27 < t26))
 (Option.bind (impl_SealPacket ([(2 : Int), (Go.IntKind.wrap .u8 t6), (Go.IntKind.wrap .u8 t27)] : List Int)) fun r19 =>
 (cond (Nat.ble (List.length t5 + List.length ([r19.1] : List (List Int))) lim)
 (some (.inl ((t0, (List.append t5 ([r19.1] : List (List Int))), t6, t22, t23, t26, (Go.IntKind.wrap .i64 (t27 + (1 : Int))), ()), ())))
 none))
 (some (.inr (.inl ((t0, t5, t22, t23, ()), ())))))
noncomputable def impl_ReadScript_8_loop (x : ((Int × ((List (List Int)) × (Int × TAction))) × Unit)) : Option (((Int × ((List (List Int)) × TCombo)) × Unit) ⊕ (Unit × Unit)) := loopF (fun x : ((Int × ((List (List Int)) × (Int × TAction))) × Unit) => impl_ReadScript_8_R x.1.1 x.1.2.1 x.1.2.2.1 x.1.2.2.2.1 x.1.2.2.2.2.1 x.1.2.2.2.2.2.1 x.1.2.2.2.2.2.2.1) x
noncomputable def impl_ReadScript_5_R (t0 : Int) (t5 : (List (List Int))) (t22 : Int) (t23 : Int) : Option (((Int × ((List (List Int)) × TCombo)) × Unit) ⊕ ((((List (List Int)) × Unit) × Unit) ⊕ (Unit × Unit))) :=
 (cond (decide (t23 < t22))
 (Option.bind (impl_ReadScript_8_loop ((t0, t5, t23, t22, t23, t0, (0 : Int), ()), ())) (Sum.elim (fun y20 => (some (.inl ((y20.1.1, y20.1.2.1, y20.1.2.2.1, (Go.IntKind.wrap .i64 (y20.1.2.2.2.1 + (1 : Int))), ()), ())))) (fun z21 => (some (.inr (.inr ((), ())))))))
 (some (.inr (.inl ((t5, ()), ())))))
noncomputable def impl_ReadScript_5_loop (x : ((Int × ((List (List Int)) × TCombo)) × Unit)) : Option ((((List (List Int)) × Unit) × Unit) ⊕ (Unit × Unit)) := loopF (fun x : ((Int × ((List (List Int)) × TCombo)) × Unit) => impl_ReadScript_5_R x.1.1 x.1.2.1 x.1.2.2.1 x.1.2.2.2.1) x
noncomputable def impl_ReadScript (a0 : Int) (a1 : Int) : Option ((List (List Int)) × Unit) :=
 (cond (decide (a0 < (1 : Int)))
 (some (([] : List (List Int)), ()))
 (cond (decide (a0 > (32 : Int)))
 (some (([] : List (List Int)), ()))
 (cond (decide (a1 < (1 : Int)))
 (some (([] : List (List Int)), ()))
 (cond (decide (a1 > (4 : Int)))
 (some (([] : List (List Int)), ()))
 (Option.bind (impl_ReadScript_5_loop ((a0, ([] : List (List Int)), a1, (0 : Int), ()), ())) (Sum.elim (fun y22 => (some (y22.1.1, ()))) (fun z23 => none)))))))

noncomputable def spec_l7Copy (a0 : TReport) : Option (TReport × Unit) :=
 (cond (Nat.ble (List.length ([] : List Int) + List.length a0.2.1) lim)
 (some ((a0.1, (List.append ([] : List Int) a0.2.1), ()), ()))
 none)

noncomputable def spec_ReportsOf_3_R (t0 : (List TSent)) (t3 : (List TReport)) (t4 : Int) : Option ((((List TSent) × ((List TReport) × (Int × Unit))) × Unit) ⊕ ((((List TReport) × Unit) × Unit) ⊕ (Unit × Unit))) :=
 (cond (decide (t4 < ((List.length t0 : Nat) : Int)))
 (Option.bind (idx t0 t4) fun x5 =>
 (Option.bind (spec_l7Copy x5.2.1) fun r6 =>
 (cond (Nat.ble (List.length t3 + List.length ([r6.1] : List TReport)) lim)
 (some (.inl ((t0, (List.append t3 ([r6.1] : List TReport)), (Go.IntKind.wrap .i64 (t4 + (1 : Int))), ()), ())))
 none)))
 (some (.inr (.inl ((t3, ()), ())))))
noncomputable def spec_ReportsOf_3_loop (x : (((List TSent) × ((List TReport) × (Int × Unit))) × Unit)) : Option ((((List TReport) × Unit) × Unit) ⊕ (Unit × Unit)) := loopF (fun x : (((List TSent) × ((List TReport) × (Int × Unit))) × Unit) => spec_ReportsOf_3_R x.1.1 x.1.2.1 x.1.2.2.1) x
noncomputable def spec_ReportsOf (a0 : (List TSent)) : Option ((List TReport) × Unit) :=
 (Option.bind (spec_ReportsOf_3_loop ((a0, ([] : List TReport), (0 : Int), ()), ())) (Sum.elim (fun y7 => (some (y7.1.1, ()))) (fun z8 => none)))

noncomputable def impl_copyInts (a0 : (List Int)) : Option ((List Int) × Unit) :=
 (cond (Nat.ble (List.length ([] : List Int) + List.length a0) lim)
 (some ((List.append ([] : List Int) a0), ()))
 none)

noncomputable def impl_copyReport (a0 : TReport) : Option (TReport × Unit) :=
 (Option.bind (impl_copyInts a0.2.1) fun r1 =>
 (some ((a0.1, r1.1, ()), ())))

noncomputable def impl_ReportsOf_3_R (t3 : (List TReport)) (t6 : (List TSent)) (t7 : Int) (t8 : Int) : Option ((((List TReport) × ((List TSent) × TCombo)) × Unit) ⊕ ((((List TReport) × Unit) × Unit) ⊕ (Unit × Unit))) :=
 (cond (decide (t8 < t7))
 (Option.bind (idx t6 t8) fun x7 =>
 (Option.bind (impl_copyReport x7.2.1) fun r8 =>
 (cond (Nat.ble (List.length t3 + List.length ([r8.1] : List TReport)) lim)
 (some (.inl (((List.append t3 ([r8.1] : List TReport)), t6, t7, (Go.IntKind.wrap .i64 (t8 + (1 : Int))), ()), ())))
 none)))
 (some (.inr (.inl ((t3, ()), ())))))
noncomputable def impl_ReportsOf_3_loop (x : (((List TReport) × ((List TSent) × TCombo)) × Unit)) : Option ((((List TReport) × Unit) × Unit) ⊕ (Unit × Unit)) := loopF (fun x : (((List TReport) × ((List TSent) × TCombo)) × Unit) => impl_ReportsOf_3_R x.1.1 x.1.2.1 x.1.2.2.1 x.1.2.2.2.1) x
noncomputable def impl_ReportsOf (a0 : (List TSent)) : Option ((List TReport) × Unit) :=
 (Option.bind (impl_ReportsOf_3_loop ((([] : List TReport), a0, ((List.length a0 : Nat) : Int), (0 : Int), ()), ())) (Sum.elim (fun y9 => (some (y9.1.1, ()))) (fun z10 => none)))

noncomputable def laws_szActionS (a0 : (List TAction)) (a1 : Int) : Option (Int × Unit) :=
 (cond (decide ((Go.IntKind.wrap .i64 (a1 - ((List.length a0 : Nat) : Int))) < (0 : Int)))
 (some ((-1 : Int), ()))
 (some ((Go.IntKind.wrap .i64 (a1 - ((List.length a0 : Nat) : Int))), ())))

noncomputable def laws_szActionSS_5_R (t0 : (List (List TAction))) (t1 : Int) (t5 : Int) : Option ((((List (List TAction)) × TCombo) × Unit) ⊕ (((Int × Unit) × Unit) ⊕ ((Int × Unit) × Unit))) :=
 (cond (decide (t5 < ((List.length t0 : Nat) : Int)))
 (Option.bind (idx t0 t5) fun x5 =>
 (Option.bind (laws_szActionS x5 t1) fun r6 =>
 (cond (decide (r6.1 < (0 : Int)))
 (some (.inr (.inr (((-1 : Int), ()), ()))))
 (some (.inl ((t0, r6.1, (Go.IntKind.wrap .i64 (t5 + (1 : Int))), ()), ()))))))
 (some (.inr (.inl ((t1, ()), ())))))
noncomputable def laws_szActionSS_5_loop (x : (((List (List TAction)) × TCombo) × Unit)) : Option (((Int × Unit) × Unit) ⊕ ((Int × Unit) × Unit)) := loopF (fun x : (((List (List TAction)) × TCombo) × Unit) => laws_szActionSS_5_R x.1.1 x.1.2.1 x.1.2.2.1) x
noncomputable def laws_szActionSS (a0 : (List (List TAction))) (a1 : Int) : Option (Int × Unit) :=
 (cond (decide ((Go.IntKind.wrap .i64 (a1 - ((List.length a0 : Nat) : Int))) < (0 : Int)))
 (some ((-1 : Int), ()))
 (Option.bind (laws_szActionSS_5_loop ((a0, (Go.IntKind.wrap .i64 (a1 - ((List.length a0 : Nat) : Int))), (0 : Int), ()), ())) (Sum.elim (fun y7 => (some (y7.1.1, ()))) (fun z8 => (some (z8.1.1, ()))))))

noncomputable def laws_szKeymap (a0 : TKeymap) (a1 : Int) : Option (Int × Unit) :=
 (Option.bind (laws_szActionSS a0.2.1 a1) fun r1 =>
 (cond (decide (r1.1 < (0 : Int)))
 (some ((-1 : Int), ()))
 (some (r1.1, ()))))

noncomputable def laws_toAction (a0 : TAction) : Option (TAction × Unit) :=
 (some ((a0.1, a0.2.1, a0.2.2.1, a0.2.2.2.1, ()), ()))

noncomputable def laws_toActionS_3_R (t0 : (List TAction)) (t3 : (List TAction)) (t4 : Int) : Option ((((List TAction) × ((List TAction) × (Int × Unit))) × Unit) ⊕ ((((List TAction) × Unit) × Unit) ⊕ (Unit × Unit))) :=
 (cond (decide (t4 < ((List.length t0 : Nat) : Int)))
 (Option.bind (idx t0 t4) fun x7 =>
 (Option.bind (laws_toAction x7) fun r8 =>
 (cond (inb (List.length t3) t4)
 (Option.bind t3[(Int.toNat t4)]? fun x9 =>
 (some (.inl ((t0, (List.set t3 (Int.toNat t4) r8.1), (Go.IntKind.wrap .i64 (t4 + (1 : Int))), ()), ()))))
 none)))
 (some (.inr (.inl ((t3, ()), ())))))
noncomputable def laws_toActionS_3_loop (x : (((List TAction) × ((List TAction) × (Int × Unit))) × Unit)) : Option ((((List TAction) × Unit) × Unit) ⊕ (Unit × Unit)) := loopF (fun x : (((List TAction) × ((List TAction) × (Int × Unit))) × Unit) => laws_toActionS_3_R x.1.1 x.1.2.1 x.1.2.2.1) x
noncomputable def laws_toActionS (a0 : (List TAction)) : Option ((List TAction) × Unit) :=
 (cond ((((List.length a0 : Nat) : Int) == ((List.length a0 : Nat) : Int)) && (decide ((0 : Int) ≤ ((List.length a0 : Nat) : Int)) && decide (((List.length a0 : Nat) : Int) ≤ ((lim : Nat) : Int))))
 (Option.bind (laws_toActionS_3_loop ((a0, (List.replicate (Int.toNat ((List.length a0 : Nat) : Int)) ((0 : Int), (0 : Int), (0 : Int), (0 : Int), ())), (0 : Int), ()), ())) (Sum.elim (fun y10 => (some (y10.1.1, ()))) (fun z11 => none)))
 none)

noncomputable def laws_toActionSS_3_R (t0 : (List (List TAction))) (t3 : (List (List TAction))) (t4 : Int) : Option ((((List (List TAction)) × ((List (List TAction)) × (Int × Unit))) × Unit) ⊕ ((((List (List TAction)) × Unit) × Unit) ⊕ (Unit × Unit))) :=
 (cond (decide (t4 < ((List.length t0 : Nat) : Int)))
 (Option.bind (idx t0 t4) fun x7 =>
 (Option.bind (laws_toActionS x7) fun r8 =>
 (cond (inb (List.length t3) t4)
 (Option.bind t3[(Int.toNat t4)]? fun x9 =>
 (some (.inl ((t0, (List.set t3 (Int.toNat t4) r8.1), (Go.IntKind.wrap .i64 (t4 + (1 : Int))), ()), ()))))
 none)))
 (some (.inr (.inl ((t3, ()), ())))))
noncomputable def laws_toActionSS_3_loop (x : (((List (List TAction)) × ((List (List TAction)) × (Int × Unit))) × Unit)) : Option ((((List (List TAction)) × Unit) × Unit) ⊕ (Unit × Unit)) := loopF (fun x : (((List (List TAction)) × ((List (List TAction)) × (Int × Unit))) × Unit) => laws_toActionSS_3_R x.1.1 x.1.2.1 x.1.2.2.1) x
noncomputable def laws_toActionSS (a0 : (List (List TAction))) : Option ((List (List TAction)) × Unit) :=
 (cond ((((List.length a0 : Nat) : Int) == ((List.length a0 : Nat) : Int)) && (decide ((0 : Int) ≤ ((List.length a0 : Nat) : Int)) && decide (((List.length a0 : Nat) : Int) ≤ ((lim : Nat) : Int))))
 (Option.bind (laws_toActionSS_3_loop ((a0, (List.replicate (Int.toNat ((List.length a0 : Nat) : Int)) ([] : List TAction)), (0 : Int), ()), ())) (Sum.elim (fun y10 => (some (y10.1.1, ()))) (fun z11 => none)))
 none)

noncomputable def laws_toKeymap (a0 : TKeymap) : Option (TKeymap × Unit) :=
 (Option.bind (laws_toActionSS a0.2.1) fun r1 =>
 (some ((a0.1, r1.1, ()), ())))

noncomputable def spec_IsAction (a0 : TAction) : Option (Bool × Unit) :=
 (Option.bind (spec_l1In a0.2.1 (1 : Int) (56 : Int)) fun r1 =>
 (Option.bind (spec_l1In a0.2.2.1 (1 : Int) (15 : Int)) fun r2 =>
 (Option.bind (spec_l1In a0.2.2.2.1 (1 : Int) (3 : Int)) fun r3 =>
 (cond (a0.1 == (0 : Int))
 (cond (a0.2.1 == (0 : Int))
 (cond (a0.2.2.1 == (0 : Int))
 (some ((a0.2.2.2.1 == (0 : Int)), ()))
 (some (false, ())))
 (some (false, ())))
 (cond (a0.1 == (1 : Int))
 (cond (a0.2.1 == (0 : Int))
 (cond (a0.2.2.1 == (0 : Int))
 (some ((a0.2.2.2.1 == (0 : Int)), ()))
 (some (false, ())))
 (some (false, ())))
 (cond (a0.1 == (10 : Int))
 (cond (a0.2.1 == (0 : Int))
 (cond (a0.2.2.1 == (0 : Int))
 (some ((a0.2.2.2.1 == (0 : Int)), ()))
 (some (false, ())))
 (some (false, ())))
 (cond (a0.1 == (2 : Int))
 (cond (a0.2.2.2.1 == (0 : Int))
 (cond r1.1
 (cond r2.1
 (some (true, ()))
 (some ((a0.2.2.1 == (0 : Int)), ())))
 (cond (a0.2.1 == (0 : Int))
 (cond r2.1
 (cond r2.1
 (some (true, ()))
 (some ((a0.2.2.1 == (0 : Int)), ())))
 (some (false, ())))
 (some (false, ()))))
 (some (false, ())))
 (cond (a0.1 == (3 : Int))
 (cond r3.1
 (cond (a0.2.1 == (0 : Int))
 (some ((a0.2.2.1 == (0 : Int)), ()))
 (some (false, ())))
 (some (false, ())))
 (cond (a0.1 == (4 : Int))
 (cond r3.1
 (cond (a0.2.1 == (0 : Int))
 (some ((a0.2.2.1 == (0 : Int)), ()))
 (some (false, ())))
 (some (false, ())))
 (cond (a0.1 == (5 : Int))
 (Option.bind (spec_l1In a0.2.2.2.1 (0 : Int) (3 : Int)) fun r4 =>
 (cond r4.1
 (cond (a0.2.1 == (0 : Int))
 (some ((a0.2.2.1 == (0 : Int)), ()))
 (some (false, ())))
 (some (false, ()))))
 (cond (a0.1 == (9 : Int))
 (Option.bind (spec_l1In a0.2.2.2.1 (0 : Int) (3 : Int)) fun r5 =>
 (cond r5.1
 (cond (a0.2.1 == (0 : Int))
 (some ((a0.2.2.1 == (0 : Int)), ()))
 (some (false, ())))
 (some (false, ()))))
 (cond (a0.1 == (6 : Int))
 (cond r1.1
 (cond r2.1
 (some ((a0.2.2.2.1 == (0 : Int)), ()))
 (some (false, ())))
 (some (false, ())))
 (cond (a0.1 == (7 : Int))
 (cond r1.1
 (cond r3.1
 (some ((a0.2.2.1 == (0 : Int)), ()))
 (some (false, ())))
 (some (false, ())))
 (cond (a0.1 == (8 : Int))
 (cond r2.1
 (cond (a0.2.1 == (0 : Int))
 (some ((a0.2.2.2.1 == (0 : Int)), ()))
 (some (false, ())))
 (some (false, ())))
 (some (false, ()))))))))))))))))

noncomputable def spec_IsKeymap_7_R (t1 : Unit) (t3 : Int) (t4 : Int) (b1 : TKeymap) : Option (((Unit × TCombo) × (TKeymap × Unit)) ⊕ (((Unit × (Int × Unit)) × (TKeymap × Unit)) ⊕ ((Bool × Unit) × Unit))) :=
 (Option.bind (idx b1.2.1 t3) fun x40 =>
 (cond (decide (t4 < ((List.length x40 : Nat) : Int)))
 (Option.bind (idx b1.2.1 t3) fun x41 =>
 (Option.bind (idx x41 t4) fun x42 =>
 (Option.bind (spec_IsAction x42) fun r43 =>
 (cond (!r43.1)
 (some (.inr (.inr ((false, ()), ()))))
 (cond (x42.1 == (1 : Int))
 (cond (t3 == (0 : Int))
 (some (.inr (.inr ((false, ()), ()))))
 (cond (x42.1 != (9 : Int))
 (cond (decide (x42.2.2.2.1 ≥ ((List.length b1.2.1 : Nat) : Int)))
 (some (.inr (.inr ((false, ()), ()))))
 (some (.inl (((), t3, (Go.IntKind.wrap .i64 (t4 + (1 : Int))), ()), (b1, ())))))
 (some (.inl (((), t3, (Go.IntKind.wrap .i64 (t4 + (1 : Int))), ()), (b1, ()))))))
 (cond (x42.1 != (9 : Int))
 (cond (decide (x42.2.2.2.1 ≥ ((List.length b1.2.1 : Nat) : Int)))
 (some (.inr (.inr ((false, ()), ()))))
 (some (.inl (((), t3, (Go.IntKind.wrap .i64 (t4 + (1 : Int))), ()), (b1, ())))))
 (some (.inl (((), t3, (Go.IntKind.wrap .i64 (t4 + (1 : Int))), ()), (b1, ()))))))))))
 (some (.inr (.inl (((), t3, ()), (b1, ())))))))
noncomputable def spec_IsKeymap_7_loop (x : ((Unit × TCombo) × (TKeymap × Unit))) : Option (((Unit × (Int × Unit)) × (TKeymap × Unit)) ⊕ ((Bool × Unit) × Unit)) := loopF (fun x : ((Unit × TCombo) × (TKeymap × Unit)) => spec_IsKeymap_7_R x.1.1 x.1.2.1 x.1.2.2.1 x.2.1) x
noncomputable def spec_IsKeymap_2_R (t1 : Unit) (t3 : Int) (b1 : TKeymap) : Option (((Unit × (Int × Unit)) × (TKeymap × Unit)) ⊕ (((Unit × Unit) × (TKeymap × Unit)) ⊕ ((Bool × Unit) × Unit))) :=
 (cond (decide (t3 < ((List.length b1.2.1 : Nat) : Int)))
 (Option.bind (idx b1.2.1 t3) fun x31 =>
 (cond (((List.length x31 : Nat) : Int) != b1.1)
 (some (.inr (.inr ((false, ()), ()))))
 (Option.bind (spec_IsKeymap_7_loop (((), t3, (0 : Int), ()), (b1, ()))) (Sum.elim (fun y44 => (some (.inl (((), (Go.IntKind.wrap .i64 (y44.1.2.1 + (1 : Int))), ()), (y44.2.1, ()))))) (fun z45 => (some (.inr (.inr ((z45.1.1, ()), ())))))))))
 (some (.inr (.inl (((), ()), (b1, ()))))))
noncomputable def spec_IsKeymap_2_loop (x : ((Unit × (Int × Unit)) × (TKeymap × Unit))) : Option (((Unit × Unit) × (TKeymap × Unit)) ⊕ ((Bool × Unit) × Unit)) := loopF (fun x : ((Unit × (Int × Unit)) × (TKeymap × Unit)) => spec_IsKeymap_2_R x.1.1 x.1.2.1 x.2.1) x
noncomputable def spec_IsKeymap (a0 : TKeymap) : Option (Bool × Unit) :=
 (Option.bind (spec_IsKeymap_2_loop (((), (0 : Int), ()), (a0, ()))) (Sum.elim (fun y46 => (Option.bind (spec_l1In y46.2.1.1 (1 : Int) (32 : Int)) fun r48 =>
 (cond r48.1
 (Option.bind (spec_l1In ((List.length y46.2.1.2.1 : Nat) : Int) (1 : Int) (4 : Int)) fun r49 =>
 (some (r49.1, ())))
 (some (false, ()))))) (fun z47 => (some (z47.1.1, ())))))

noncomputable def spec_IsFixed (a0 : TKeymap) (a1 : Int) : Option (Bool × Unit) :=
 (Option.bind (spec_IsKeymap a0) fun r1 =>
 (cond r1.1
 (cond (decide ((0 : Int) ≤ ((List.length a0.2.1 : Nat) : Int)))
 (Option.bind (spec_l1In a1 (0 : Int) (Go.IntKind.wrap .i64 ((ishl .i64 (1 : Int) ((List.length a0.2.1 : Nat) : Int)) - (1 : Int)))) fun r2 =>
 (cond r2.1
 (cond ((2 : Int) == (0 : Int))
 none
 (some (((Int.tmod a1 (2 : Int)) == (0 : Int)), ())))
 (some (false, ()))))
 none)
 (some (false, ()))))

noncomputable def impl_isCode (a0 : Int) : Option (Bool × Unit) :=
 (cond (decide (a0 ≥ (1 : Int)))
 (some ((decide (a0 ≤ (56 : Int))), ()))
 (some (false, ())))

noncomputable def impl_isMods (a0 : Int) : Option (Bool × Unit) :=
 (cond (decide (a0 ≥ (1 : Int)))
 (some ((decide (a0 ≤ (15 : Int))), ()))
 (some (false, ())))

noncomputable def impl_isUpper (a0 : Int) : Option (Bool × Unit) :=
 (cond (decide (a0 ≥ (1 : Int)))
 (some ((decide (a0 ≤ (3 : Int))), ()))
 (some (false, ())))

noncomputable def impl_IsAction (a0 : TAction) : Option (Bool × Unit) :=
 (cond (a0.1 == (0 : Int))
 (cond (a0.2.1 == (0 : Int))
 (cond (a0.2.2.1 == (0 : Int))
 (some ((a0.2.2.2.1 == (0 : Int)), ()))
 (some (false, ())))
 (some (false, ())))
 (cond (a0.1 == (1 : Int))
 (cond (a0.2.1 == (0 : Int))
 (cond (a0.2.2.1 == (0 : Int))
 (some ((a0.2.2.2.1 == (0 : Int)), ()))
 (some (false, ())))
 (some (false, ())))
 (cond (a0.1 == (10 : Int))
 (cond (a0.2.1 == (0 : Int))
 (cond (a0.2.2.1 == (0 : Int))
 (some ((a0.2.2.2.1 == (0 : Int)), ()))
 (some (false, ())))
 (some (false, ())))
 (cond (a0.1 == (2 : Int))
 (cond (a0.2.2.2.1 == (0 : Int))
 (cond (a0.2.1 == (0 : Int))
 (cond (a0.2.2.1 == (0 : Int))
 (cond (a0.2.1 != (0 : Int))
 (some (true, ()))
 (some ((a0.2.2.1 != (0 : Int)), ())))
 (Option.bind (impl_isMods a0.2.2.1) fun r1 =>
 (cond r1.1
 (cond (a0.2.1 != (0 : Int))
 (some (true, ()))
 (some ((a0.2.2.1 != (0 : Int)), ())))
 (some (false, ())))))
 (Option.bind (impl_isCode a0.2.1) fun r2 =>
 (cond r2.1
 (cond (a0.2.2.1 == (0 : Int))
 (cond (a0.2.1 != (0 : Int))
 (some (true, ()))
 (some ((a0.2.2.1 != (0 : Int)), ())))
 (Option.bind (impl_isMods a0.2.2.1) fun r3 =>
 (cond r3.1
 (cond (a0.2.1 != (0 : Int))
 (some (true, ()))
 (some ((a0.2.2.1 != (0 : Int)), ())))
 (some (false, ())))))
 (some (false, ())))))
 (some (false, ())))
 (cond (a0.1 == (3 : Int))
 (cond (a0.2.1 == (0 : Int))
 (cond (a0.2.2.1 == (0 : Int))
 (Option.bind (impl_isUpper a0.2.2.2.1) fun r4 =>
 (some (r4.1, ())))
 (some (false, ())))
 (some (false, ())))
 (cond (a0.1 == (4 : Int))
 (cond (a0.2.1 == (0 : Int))
 (cond (a0.2.2.1 == (0 : Int))
 (Option.bind (impl_isUpper a0.2.2.2.1) fun r5 =>
 (some (r5.1, ())))
 (some (false, ())))
 (some (false, ())))
 (cond (a0.1 == (5 : Int))
 (cond (a0.2.1 == (0 : Int))
 (cond (a0.2.2.1 == (0 : Int))
 (cond (decide (a0.2.2.2.1 ≥ (0 : Int)))
 (some ((decide (a0.2.2.2.1 ≤ (3 : Int))), ()))
 (some (false, ())))
 (some (false, ())))
 (some (false, ())))
 (cond (a0.1 == (9 : Int))
 (cond (a0.2.1 == (0 : Int))
 (cond (a0.2.2.1 == (0 : Int))
 (cond (decide (a0.2.2.2.1 ≥ (0 : Int)))
 (some ((decide (a0.2.2.2.1 ≤ (3 : Int))), ()))
 (some (false, ())))
 (some (false, ())))
 (some (false, ())))
 (cond (a0.1 == (6 : Int))
 (Option.bind (impl_isCode a0.2.1) fun r6 =>
 (cond r6.1
 (Option.bind (impl_isMods a0.2.2.1) fun r7 =>
 (cond r7.1
 (some ((a0.2.2.2.1 == (0 : Int)), ()))
 (some (false, ()))))
 (some (false, ()))))
 (cond (a0.1 == (7 : Int))
 (Option.bind (impl_isCode a0.2.1) fun r8 =>
 (cond r8.1
 (cond (a0.2.2.1 == (0 : Int))
 (Option.bind (impl_isUpper a0.2.2.2.1) fun r9 =>
 (some (r9.1, ())))
 (some (false, ())))
 (some (false, ()))))
 (cond (a0.1 == (8 : Int))
 (cond (a0.2.1 == (0 : Int))
 (Option.bind (impl_isMods a0.2.2.1) fun r10 =>
 (cond r10.1
 (some ((a0.2.2.2.1 == (0 : Int)), ()))
 (some (false, ()))))
 (some (false, ())))
 (some (false, ())))))))))))))

noncomputable def impl_IsKeymap_9_R (t1 : Unit) (t3 : Int) (t28 : (List (List TAction))) (t29 : Int) (t30 : Int) (t40 : (List TAction)) (t41 : Int) (t42 : Int) (b1 : TKeymap) : Option (((Unit × (Int × ((List (List TAction)) × (Int × (Int × ((List TAction) × TCombo)))))) × (TKeymap × Unit)) ⊕ (((Unit × ((List (List TAction)) × TCombo)) × (TKeymap × Unit)) ⊕ ((Bool × Unit) × Unit))) :=
 (cond (decide (t42 < t41))
 (Option.bind (idx t40 t42) fun x24 =>
 (Option.bind (impl_IsAction x24) fun r25 =>
 (cond (!r25.1)
 (some (.inr (.inr ((false, ()), ()))))
 (cond (t3 == (0 : Int))
 (cond (x24.1 == (1 : Int))
 (some (.inr (.inr ((false, ()), ()))))
 (cond (x24.1 != (9 : Int))
 (cond (decide (x24.2.2.2.1 ≥ ((List.length b1.2.1 : Nat) : Int)))
 (some (.inr (.inr ((false, ()), ()))))
 (some (.inl (((), t3, t28, t29, t30, t40, t41, (Go.IntKind.wrap .i64 (t42 + (1 : Int))), ()), (b1, ())))))
 (some (.inl (((), t3, t28, t29, t30, t40, t41, (Go.IntKind.wrap .i64 (t42 + (1 : Int))), ()), (b1, ()))))))
 (cond (x24.1 != (9 : Int))
 (cond (decide (x24.2.2.2.1 ≥ ((List.length b1.2.1 : Nat) : Int)))
 (some (.inr (.inr ((false, ()), ()))))
 (some (.inl (((), t3, t28, t29, t30, t40, t41, (Go.IntKind.wrap .i64 (t42 + (1 : Int))), ()), (b1, ())))))
 (some (.inl (((), t3, t28, t29, t30, t40, t41, (Go.IntKind.wrap .i64 (t42 + (1 : Int))), ()), (b1, ())))))))))
 (some (.inr (.inl (((), t28, t29, t30, ()), (b1, ()))))))
noncomputable def impl_IsKeymap_9_loop (x : ((Unit × (Int × ((List (List TAction)) × (Int × (Int × ((List TAction) × TCombo)))))) × (TKeymap × Unit))) : Option (((Unit × ((List (List TAction)) × TCombo)) × (TKeymap × Unit)) ⊕ ((Bool × Unit) × Unit)) := loopF (fun x : ((Unit × (Int × ((List (List TAction)) × (Int × (Int × ((List TAction) × TCombo)))))) × (TKeymap × Unit)) => impl_IsKeymap_9_R x.1.1 x.1.2.1 x.1.2.2.1 x.1.2.2.2.1 x.1.2.2.2.2.1 x.1.2.2.2.2.2.1 x.1.2.2.2.2.2.2.1 x.1.2.2.2.2.2.2.2.1 x.2.1) x
noncomputable def impl_IsKeymap_4_R (t1 : Unit) (t28 : (List (List TAction))) (t29 : Int) (t30 : Int) (b1 : TKeymap) : Option (((Unit × ((List (List TAction)) × TCombo)) × (TKeymap × Unit)) ⊕ ((Unit × Unit) ⊕ ((Bool × Unit) × Unit))) :=
 (cond (decide (t30 < t29))
 (Option.bind (idx t28 t30) fun x19 =>
 (cond (((List.length x19 : Nat) : Int) != b1.1)
 (some (.inr (.inr ((false, ()), ()))))
 (Option.bind (impl_IsKeymap_9_loop (((), t30, t28, t29, t30, x19, ((List.length x19 : Nat) : Int), (0 : Int), ()), (b1, ()))) (Sum.elim (fun y26 => (some (.inl (((), y26.1.2.1, y26.1.2.2.1, (Go.IntKind.wrap .i64 (y26.1.2.2.2.1 + (1 : Int))), ()), (y26.2.1, ()))))) (fun z27 => (some (.inr (.inr ((z27.1.1, ()), ())))))))))
 (some (.inr (.inl ((), ())))))
noncomputable def impl_IsKeymap_4_loop (x : ((Unit × ((List (List TAction)) × TCombo)) × (TKeymap × Unit))) : Option ((Unit × Unit) ⊕ ((Bool × Unit) × Unit)) := loopF (fun x : ((Unit × ((List (List TAction)) × TCombo)) × (TKeymap × Unit)) => impl_IsKeymap_4_R x.1.1 x.1.2.1 x.1.2.2.1 x.1.2.2.2.1 x.2.1) x
noncomputable def impl_IsKeymap (a0 : TKeymap) : Option (Bool × Unit) :=
 (cond (decide (a0.1 < (1 : Int)))
 (some (false, ()))
 (cond (decide (a0.1 > (32 : Int)))
 (some (false, ()))
 (cond (decide (((List.length a0.2.1 : Nat) : Int) < (1 : Int)))
 (some (false, ()))
 (cond (decide (((List.length a0.2.1 : Nat) : Int) > (4 : Int)))
 (some (false, ()))
 (Option.bind (impl_IsKeymap_4_loop (((), a0.2.1, ((List.length a0.2.1 : Nat) : Int), (0 : Int), ()), (a0, ()))) (Sum.elim (fun y28 => (some (true, ()))) (fun z29 => (some (z29.1.1, ())))))))))

noncomputable def impl_IsFixed (a0 : TKeymap) (a1 : Int) : Option (Bool × Unit) :=
 (Option.bind (impl_IsKeymap a0) fun r1 =>
 (cond r1.1
 (cond (decide (a1 ≥ (0 : Int)))
 (cond ((2 : Int) == (0 : Int))
 none
 (cond ((Int.tmod a1 (2 : Int)) == (0 : Int))
 (cond (decide ((0 : Int) ≤ ((List.length a0.2.1 : Nat) : Int)))
 (some ((decide (a1 < (ishl .i64 (1 : Int) ((List.length a0.2.1 : Nat) : Int)))), ()))
 none)
 (some (false, ()))))
 (some (false, ())))
 (some (false, ()))))

noncomputable def laws_eqAction (a0 : TAction) (a1 : TAction) : Option (Bool × Unit) :=
 (cond (a0.1 != a1.1)
 (some (false, ()))
 (cond (a0.2.1 != a1.2.1)
 (some (false, ()))
 (cond (a0.2.2.1 != a1.2.2.1)
 (some (false, ()))
 (cond (a0.2.2.2.1 != a1.2.2.2.1)
 (some (false, ()))
 (some (true, ()))))))

noncomputable def laws_eqActionS_4_R (t0 : (List TAction)) (t1 : (List TAction)) (t5 : Int) : Option ((((List TAction) × ((List TAction) × (Int × Unit))) × Unit) ⊕ ((Unit × Unit) ⊕ ((Bool × Unit) × Unit))) :=
 (cond (decide (t5 < ((List.length t0 : Nat) : Int)))
 (Option.bind (idx t0 t5) fun x7 =>
 (Option.bind (idx t1 t5) fun x8 =>
 (Option.bind (laws_eqAction x7 x8) fun r9 =>
 (cond (!r9.1)
 (some (.inr (.inr ((false, ()), ()))))
 (some (.inl ((t0, t1, (Go.IntKind.wrap .i64 (t5 + (1 : Int))), ()), ())))))))
 (some (.inr (.inl ((), ())))))
noncomputable def laws_eqActionS_4_loop (x : (((List TAction) × ((List TAction) × (Int × Unit))) × Unit)) : Option ((Unit × Unit) ⊕ ((Bool × Unit) × Unit)) := loopF (fun x : (((List TAction) × ((List TAction) × (Int × Unit))) × Unit) => laws_eqActionS_4_R x.1.1 x.1.2.1 x.1.2.2.1) x
noncomputable def laws_eqActionS (a0 : (List TAction)) (a1 : (List TAction)) : Option (Bool × Unit) :=
 (cond (((List.length a0 : Nat) : Int) != ((List.length a1 : Nat) : Int))
 (some (false, ()))
 (Option.bind (laws_eqActionS_4_loop ((a0, a1, (0 : Int), ()), ())) (Sum.elim (fun y10 => (some (true, ()))) (fun z11 => (some (z11.1.1, ()))))))

noncomputable def laws_eqActionSS_4_R (t0 : (List (List TAction))) (t1 : (List (List TAction))) (t5 : Int) : Option ((((List (List TAction)) × ((List (List TAction)) × (Int × Unit))) × Unit) ⊕ ((Unit × Unit) ⊕ ((Bool × Unit) × Unit))) :=
 (cond (decide (t5 < ((List.length t0 : Nat) : Int)))
 (Option.bind (idx t0 t5) fun x7 =>
 (Option.bind (idx t1 t5) fun x8 =>
 (Option.bind (laws_eqActionS x7 x8) fun r9 =>
 (cond (!r9.1)
 (some (.inr (.inr ((false, ()), ()))))
 (some (.inl ((t0, t1, (Go.IntKind.wrap .i64 (t5 + (1 : Int))), ()), ())))))))
 (some (.inr (.inl ((), ())))))
noncomputable def laws_eqActionSS_4_loop (x : (((List (List TAction)) × ((List (List TAction)) × (Int × Unit))) × Unit)) : Option ((Unit × Unit) ⊕ ((Bool × Unit) × Unit)) := loopF (fun x : (((List (List TAction)) × ((List (List TAction)) × (Int × Unit))) × Unit) => laws_eqActionSS_4_R x.1.1 x.1.2.1 x.1.2.2.1) x
noncomputable def laws_eqActionSS (a0 : (List (List TAction))) (a1 : (List (List TAction))) : Option (Bool × Unit) :=
 (cond (((List.length a0 : Nat) : Int) != ((List.length a1 : Nat) : Int))
 (some (false, ()))
 (Option.bind (laws_eqActionSS_4_loop ((a0, a1, (0 : Int), ()), ())) (Sum.elim (fun y10 => (some (true, ()))) (fun z11 => (some (z11.1.1, ()))))))

noncomputable def laws_eqKeymap (a0 : TKeymap) (a1 : TKeymap) : Option (Bool × Unit) :=
 (cond (a0.1 != a1.1)
 (some (false, ()))
 (Option.bind (laws_eqActionSS a0.2.1 a1.2.1) fun r1 =>
 (cond (!r1.1)
 (some (false, ()))
 (some (true, ())))))

noncomputable def spec_IsTapHold (a0 : TAction) : Option (Bool × Unit) :=
 (Option.bind (spec_IsAction a0) fun r1 =>
 (cond r1.1
 (cond (a0.1 == (6 : Int))
 (some (true, ()))
 (some ((a0.1 == (7 : Int)), ())))
 (some (false, ()))))

noncomputable def spec_TapOf (a0 : TAction) : Option (TAction × Unit) :=
 (Option.bind (spec_IsTapHold a0) fun r1 =>
 (cond (!r1.1)
 (some (a0, ()))
 (some (((2 : Int), a0.2.1, (0 : Int), (0 : Int), ()), ()))))

noncomputable def impl_IsTapHold (a0 : TAction) : Option (Bool × Unit) :=
 (Option.bind (impl_IsAction a0) fun r1 =>
 (cond r1.1
 (cond (a0.1 == (6 : Int))
 (some (true, ()))
 (some ((a0.1 == (7 : Int)), ())))
 (some (false, ()))))

noncomputable def impl_TapOf (a0 : TAction) : Option (TAction × Unit) :=
 (Option.bind (impl_IsTapHold a0) fun r1 =>
 (cond (!r1.1)
 (some (a0, ()))
 (some (((2 : Int), a0.2.1, (0 : Int), (0 : Int), ()), ()))))

noncomputable def impl_copyKeymap_3_R (t2 : Unit) (t3 : Unit) (t10 : (List (List TAction))) (t11 : Int) (t12 : Int) (b2 : TKeymap) (b3 : TKeymap) : Option (((Unit × (Unit × ((List (List TAction)) × TCombo))) × (TKeymap × (TKeymap × Unit))) ⊕ (((Unit × (Unit × Unit)) × (TKeymap × (TKeymap × Unit))) ⊕ (Unit × Unit))) :=
 (cond (decide (t12 < t11))
 (Option.bind (idx t10 t12) fun x4 =>
 (cond (Nat.ble (List.length ([] : List TAction) + List.length x4) lim)
 (cond (Nat.ble (List.length b3.2.1 + List.length ([(List.append ([] : List TAction) x4)] : List (List TAction))) lim)
 (some (.inl (((), (), t10, t11, (Go.IntKind.wrap .i64 (t12 + (1 : Int))), ()), ((b2.1, b2.2.1, ()), (b3.1, (List.append b3.2.1 ([(List.append ([] : List TAction) x4)] : List (List TAction))), ()), ()))))
 none)
 none))
 (some (.inr (.inl (((), (), ()), ((b2.1, b2.2.1, ()), (b3.1, b3.2.1, ()), ()))))))
noncomputable def impl_copyKeymap_3_loop (x : ((Unit × (Unit × ((List (List TAction)) × TCombo))) × (TKeymap × (TKeymap × Unit)))) : Option (((Unit × (Unit × Unit)) × (TKeymap × (TKeymap × Unit))) ⊕ (Unit × Unit)) := loopF (fun x : ((Unit × (Unit × ((List (List TAction)) × TCombo))) × (TKeymap × (TKeymap × Unit))) => impl_copyKeymap_3_R x.1.1 x.1.2.1 x.1.2.2.1 x.1.2.2.2.1 x.1.2.2.2.2.1 x.2.1 x.2.2.1) x
noncomputable def impl_copyKeymap (a0 : TKeymap) : Option (TKeymap × Unit) :=
 (Option.bind (impl_copyKeymap_3_loop (((), (), a0.2.1, ((List.length a0.2.1 : Nat) : Int), (0 : Int), ()), (((0 : Int), ([] : List (List TAction)), ()), (a0.1, ([] : List (List TAction)), ()), ()))) (Sum.elim (fun y5 => (some ((y5.2.2.1.1, y5.2.2.1.2.1, ()), ()))) (fun z6 => none)))

noncomputable def impl_bit (a0 : Int) (a1 : Int) : Option (Int × Unit) :=
 (cond (decide ((0 : Int) ≤ a1))
 (some ((iand .i64 (ishr .i64 a0 a1) (1 : Int)), ()))
 none)

noncomputable def impl_layerAt_2_R (t1 : Int) (t2 : Int) (t3 : Unit) (t7 : Int) (b3 : TKeymap) : Option (((Int × (Int × (Unit × (Int × Unit)))) × (TKeymap × Unit)) ⊕ ((Unit × Unit) ⊕ ((Int × Unit) × Unit))) :=
 (cond (decide (t7 > (0 : Int)))
 (Option.bind (impl_bit t1 t7) fun r7 =>
 (cond (r7.1 == (1 : Int))
 (Option.bind (idx b3.2.1 t7) fun x8 =>
 (Option.bind (idx x8 t2) fun x9 =>
 (cond (x9.1 != (1 : Int))
 (some (.inr (.inr ((t7, ()), ()))))
 (some (.inl ((t1, t2, (), (Go.IntKind.wrap .i64 (t7 - (1 : Int))), ()), (b3, ())))))))
 (some (.inl ((t1, t2, (), (Go.IntKind.wrap .i64 (t7 - (1 : Int))), ()), (b3, ()))))))
 (some (.inr (.inl ((), ())))))
noncomputable def impl_layerAt_2_loop (x : ((Int × (Int × (Unit × (Int × Unit)))) × (TKeymap × Unit))) : Option ((Unit × Unit) ⊕ ((Int × Unit) × Unit)) := loopF (fun x : ((Int × (Int × (Unit × (Int × Unit)))) × (TKeymap × Unit)) => impl_layerAt_2_R x.1.1 x.1.2.1 x.1.2.2.1 x.1.2.2.2.1 x.2.1) x
noncomputable def impl_layerAt (a0 : TKeymap) (a1 : Int) (a2 : Int) : Option (Int × Unit) :=
 (Option.bind (impl_layerAt_2_loop ((a1, a2, (), (Go.IntKind.wrap .i64 (((List.length a0.2.1 : Nat) : Int) - (1 : Int))), ()), (a0, ()))) (Sum.elim (fun y10 => (some ((0 : Int), ()))) (fun z11 => (some (z11.1.1, ())))))

noncomputable def spec_HoldOf (a0 : TAction) : Option (TAction × Unit) :=
 (Option.bind (spec_IsTapHold a0) fun r1 =>
 (cond (!r1.1)
 (some (a0, ()))
 (cond (a0.1 == (6 : Int))
 (some (((2 : Int), (0 : Int), a0.2.2.1, (0 : Int), ()), ()))
 (some (((3 : Int), (0 : Int), (0 : Int), a0.2.2.2.1, ()), ())))))

noncomputable def spec_LayersUsed_11_R (t1 : Unit) (t3 : Int) (t4 : Int) (t5 : Int) (t6 : Int) (b1 : TKeymap) : Option (((Unit × TAction) × (TKeymap × Unit)) ⊕ (((Unit × TStep) × (TKeymap × Unit)) ⊕ (Unit × Unit))) :=
 (cond (decide (t6 < b1.1))
 (cond (decide ((0 : Int) ≤ t5))
 (cond ((iand .i64 (ishr .i64 t3 t5) (1 : Int)) == (1 : Int))
 (Option.bind (idx b1.2.1 t5) fun x100 =>
 (Option.bind (idx x100 t6) fun x101 =>
 (Option.bind (spec_HoldOf x101) fun r102 =>
 (cond (r102.1.1 == (3 : Int))
 (cond (decide ((0 : Int) ≤ r102.1.2.2.2.1))
 (some (.inl (((), (ior .i64 t3 (ishl .i64 (1 : Int) r102.1.2.2.2.1)), t4, t5, (Go.IntKind.wrap .i64 (t6 + (1 : Int))), ()), (b1, ()))))
 none)
 (cond (r102.1.1 == (4 : Int))
 (cond (decide ((0 : Int) ≤ r102.1.2.2.2.1))
 (some (.inl (((), (ior .i64 t3 (ishl .i64 (1 : Int) r102.1.2.2.2.1)), t4, t5, (Go.IntKind.wrap .i64 (t6 + (1 : Int))), ()), (b1, ()))))
 none)
 (cond (r102.1.1 == (5 : Int))
 (cond (decide ((0 : Int) ≤ r102.1.2.2.2.1))
 (some (.inl (((), (ior .i64 t3 (ishl .i64 (1 : Int) r102.1.2.2.2.1)), t4, t5, (Go.IntKind.wrap .i64 (t6 + (1 : Int))), ()), (b1, ()))))
 none)
 (some (.inl (((), t3, t4, t5, (Go.IntKind.wrap .i64 (t6 + (1 : Int))), ()), (b1, ()))))))))))
 (some (.inr (.inl (((), t3, t4, t5, ()), (b1, ()))))))
 none)
 (some (.inr (.inl (((), t3, t4, t5, ()), (b1, ()))))))
noncomputable def spec_LayersUsed_11_loop (x : ((Unit × TAction) × (TKeymap × Unit))) : Option (((Unit × TStep) × (TKeymap × Unit)) ⊕ (Unit × Unit)) := loopF (fun x : ((Unit × TAction) × (TKeymap × Unit)) => spec_LayersUsed_11_R x.1.1 x.1.2.1 x.1.2.2.1 x.1.2.2.2.1 x.1.2.2.2.2.1 x.2.1) x
noncomputable def spec_LayersUsed_8_R (t1 : Unit) (t3 : Int) (t4 : Int) (t5 : Int) (b1 : TKeymap) : Option (((Unit × TStep) × (TKeymap × Unit)) ⊕ (((Unit × TCombo) × (TKeymap × Unit)) ⊕ (Unit × Unit))) :=
 (cond (decide (t5 < ((List.length b1.2.1 : Nat) : Int)))
 (Option.bind (spec_LayersUsed_11_loop (((), t3, t4, t5, (0 : Int), ()), (b1, ()))) (Sum.elim (fun y103 => (some (.inl (((), y103.1.2.1, y103.1.2.2.1, (Go.IntKind.wrap .i64 (y103.1.2.2.2.1 + (1 : Int))), ()), (y103.2.1, ()))))) (fun z104 => (some (.inr (.inr ((), ())))))))
 (some (.inr (.inl (((), t3, t4, ()), (b1, ()))))))
noncomputable def spec_LayersUsed_8_loop (x : ((Unit × TStep) × (TKeymap × Unit))) : Option (((Unit × TCombo) × (TKeymap × Unit)) ⊕ (Unit × Unit)) := loopF (fun x : ((Unit × TStep) × (TKeymap × Unit)) => spec_LayersUsed_8_R x.1.1 x.1.2.1 x.1.2.2.1 x.1.2.2.2.1 x.2.1) x
noncomputable def spec_LayersUsed_5_R (t1 : Unit) (t3 : Int) (t4 : Int) (b1 : TKeymap) : Option (((Unit × TCombo) × (TKeymap × Unit)) ⊕ (((Int × Unit) × Unit) ⊕ (Unit × Unit))) :=
 (cond (decide (t4 < ((List.length b1.2.1 : Nat) : Int)))
 (Option.bind (spec_LayersUsed_8_loop (((), t3, t4, (0 : Int), ()), (b1, ()))) (Sum.elim (fun y105 => (some (.inl (((), y105.1.2.1, (Go.IntKind.wrap .i64 (y105.1.2.2.1 + (1 : Int))), ()), (y105.2.1, ()))))) (fun z106 => (some (.inr (.inr ((), ())))))))
 (some (.inr (.inl ((t3, ()), ())))))
noncomputable def spec_LayersUsed_5_loop (x : ((Unit × TCombo) × (TKeymap × Unit))) : Option (((Int × Unit) × Unit) ⊕ (Unit × Unit)) := loopF (fun x : ((Unit × TCombo) × (TKeymap × Unit)) => spec_LayersUsed_5_R x.1.1 x.1.2.1 x.1.2.2.1 x.2.1) x
noncomputable def spec_LayersUsed (a0 : TKeymap) : Option (Int × Unit) :=
 (Option.bind (spec_IsKeymap a0) fun r1 =>
 (cond (!r1.1)
 (some ((0 : Int), ()))
 (Option.bind (spec_LayersUsed_5_loop (((), (1 : Int), (0 : Int), ()), (a0, ()))) (Sum.elim (fun y107 => (some (y107.1.1, ()))) (fun z108 => none)))))

noncomputable def impl_LayersUsed_10_R (t1 : Unit) (t3 : Int) (t4 : Int) (t13 : Int) (t14 : Int) (t17 : (List (List TAction))) (t18 : Int) (t19 : Int) (t24 : (List TAction)) (t25 : Int) (t26 : Int) (b1 : TKeymap) : Option (((Unit × (Int × (Int × (Int × (Int × ((List (List TAction)) × (Int × (Int × ((List TAction) × TCombo))))))))) × (TKeymap × Unit)) ⊕ (((Unit × (Int × (Int × (Int × ((List (List TAction)) × TCombo))))) × (TKeymap × Unit)) ⊕ (Unit × Unit))) :=
 (cond (decide (t26 < t25))
 (Option.bind (idx t24 t26) fun x161 =>
 (cond (x161.1 == (3 : Int))
 (Option.bind (impl_bit t3 t4) fun r162 =>
 (cond (r162.1 == (1 : Int))
 (cond (decide ((0 : Int) ≤ x161.2.2.2.1))
 (some (.inl (((), (ior .i64 t3 (ishl .i64 (1 : Int) x161.2.2.2.1)), t4, t13, t14, t17, t18, t19, t24, t25, (Go.IntKind.wrap .i64 (t26 + (1 : Int))), ()), (b1, ()))))
 none)
 (some (.inl (((), t3, t4, t13, t14, t17, t18, t19, t24, t25, (Go.IntKind.wrap .i64 (t26 + (1 : Int))), ()), (b1, ()))))))
 (cond (x161.1 == (4 : Int))
 (Option.bind (impl_bit t3 t4) fun r163 =>
 (cond (r163.1 == (1 : Int))
 (cond (decide ((0 : Int) ≤ x161.2.2.2.1))
 (some (.inl (((), (ior .i64 t3 (ishl .i64 (1 : Int) x161.2.2.2.1)), t4, t13, t14, t17, t18, t19, t24, t25, (Go.IntKind.wrap .i64 (t26 + (1 : Int))), ()), (b1, ()))))
 none)
 (some (.inl (((), t3, t4, t13, t14, t17, t18, t19, t24, t25, (Go.IntKind.wrap .i64 (t26 + (1 : Int))), ()), (b1, ()))))))
 (cond (x161.1 == (5 : Int))
 (Option.bind (impl_bit t3 t4) fun r164 =>
 (cond (r164.1 == (1 : Int))
 (cond (decide ((0 : Int) ≤ x161.2.2.2.1))
 (some (.inl (((), (ior .i64 t3 (ishl .i64 (1 : Int) x161.2.2.2.1)), t4, t13, t14, t17, t18, t19, t24, t25, (Go.IntKind.wrap .i64 (t26 + (1 : Int))), ()), (b1, ()))))
 none)
 (some (.inl (((), t3, t4, t13, t14, t17, t18, t19, t24, t25, (Go.IntKind.wrap .i64 (t26 + (1 : Int))), ()), (b1, ()))))))
 (cond (x161.1 == (7 : Int))
 (Option.bind (impl_bit t3 t4) fun r165 =>
 (cond (r165.1 == (1 : Int))
 (cond (decide ((0 : Int) ≤ x161.2.2.2.1))
 (some (.inl (((), (ior .i64 t3 (ishl .i64 (1 : Int) x161.2.2.2.1)), t4, t13, t14, t17, t18, t19, t24, t25, (Go.IntKind.wrap .i64 (t26 + (1 : Int))), ()), (b1, ()))))
 none)
 (some (.inl (((), t3, t4, t13, t14, t17, t18, t19, t24, t25, (Go.IntKind.wrap .i64 (t26 + (1 : Int))), ()), (b1, ()))))))
 (some (.inl (((), t3, t4, t13, t14, t17, t18, t19, t24, t25, (Go.IntKind.wrap .i64 (t26 + (1 : Int))), ()), (b1, ())))))))))
 (some (.inr (.inl (((), t3, t13, t14, t17, t18, t19, ()), (b1, ()))))))
noncomputable def impl_LayersUsed_10_loop (x : ((Unit × (Int × (Int × (Int × (Int × ((List (List TAction)) × (Int × (Int × ((List TAction) × TCombo))))))))) × (TKeymap × Unit))) : Option (((Unit × (Int × (Int × (Int × ((List (List TAction)) × TCombo))))) × (TKeymap × Unit)) ⊕ (Unit × Unit)) := loopF (fun x : ((Unit × (Int × (Int × (Int × (Int × ((List (List TAction)) × (Int × (Int × ((List TAction) × TCombo))))))))) × (TKeymap × Unit)) => impl_LayersUsed_10_R x.1.1 x.1.2.1 x.1.2.2.1 x.1.2.2.2.1 x.1.2.2.2.2.1 x.1.2.2.2.2.2.1 x.1.2.2.2.2.2.2.1 x.1.2.2.2.2.2.2.2.1 x.1.2.2.2.2.2.2.2.2.1 x.1.2.2.2.2.2.2.2.2.2.1 x.1.2.2.2.2.2.2.2.2.2.2.1 x.2.1) x
noncomputable def impl_LayersUsed_7_R (t1 : Unit) (t3 : Int) (t13 : Int) (t14 : Int) (t17 : (List (List TAction))) (t18 : Int) (t19 : Int) (b1 : TKeymap) : Option (((Unit × (Int × (Int × (Int × ((List (List TAction)) × TCombo))))) × (TKeymap × Unit)) ⊕ (((Unit × TStep) × (TKeymap × Unit)) ⊕ (Unit × Unit))) :=
 (cond (decide (t19 < t18))
 (Option.bind (idx t17 t19) fun x150 =>
 (Option.bind (impl_LayersUsed_10_loop (((), t3, t19, t13, t14, t17, t18, t19, x150, ((List.length x150 : Nat) : Int), (0 : Int), ()), (b1, ()))) (Sum.elim (fun y166 => (some (.inl (((), y166.1.2.1, y166.1.2.2.1, y166.1.2.2.2.1, y166.1.2.2.2.2.1, y166.1.2.2.2.2.2.1, (Go.IntKind.wrap .i64 (y166.1.2.2.2.2.2.2.1 + (1 : Int))), ()), (y166.2.1, ()))))) (fun z167 => (some (.inr (.inr ((), ()))))))))
 (some (.inr (.inl (((), t3, t13, t14, ()), (b1, ()))))))
noncomputable def impl_LayersUsed_7_loop (x : ((Unit × (Int × (Int × (Int × ((List (List TAction)) × TCombo))))) × (TKeymap × Unit))) : Option (((Unit × TStep) × (TKeymap × Unit)) ⊕ (Unit × Unit)) := loopF (fun x : ((Unit × (Int × (Int × (Int × ((List (List TAction)) × TCombo))))) × (TKeymap × Unit)) => impl_LayersUsed_7_R x.1.1 x.1.2.1 x.1.2.2.1 x.1.2.2.2.1 x.1.2.2.2.2.1 x.1.2.2.2.2.2.1 x.1.2.2.2.2.2.2.1 x.2.1) x
noncomputable def impl_LayersUsed_5_R (t1 : Unit) (t3 : Int) (t13 : Int) (t14 : Int) (b1 : TKeymap) : Option (((Unit × TStep) × (TKeymap × Unit)) ⊕ (((Int × Unit) × Unit) ⊕ (Unit × Unit))) :=
 (cond (decide (t14 < t13))
 (Option.bind (impl_LayersUsed_7_loop (((), t3, t13, t14, b1.2.1, ((List.length b1.2.1 : Nat) : Int), (0 : Int), ()), (b1, ()))) (Sum.elim (fun y168 => (some (.inl (((), y168.1.2.1, y168.1.2.2.1, (Go.IntKind.wrap .i64 (y168.1.2.2.2.1 + (1 : Int))), ()), (y168.2.1, ()))))) (fun z169 => (some (.inr (.inr ((), ())))))))
 (some (.inr (.inl ((t3, ()), ())))))
noncomputable def impl_LayersUsed_5_loop (x : ((Unit × TStep) × (TKeymap × Unit))) : Option (((Int × Unit) × Unit) ⊕ (Unit × Unit)) := loopF (fun x : ((Unit × TStep) × (TKeymap × Unit)) => impl_LayersUsed_5_R x.1.1 x.1.2.1 x.1.2.2.1 x.1.2.2.2.1 x.2.1) x
noncomputable def impl_LayersUsed (a0 : TKeymap) : Option (Int × Unit) :=
 (Option.bind (impl_IsKeymap a0) fun r1 =>
 (cond (!r1.1)
 (some ((0 : Int), ()))
 (Option.bind (impl_LayersUsed_5_loop (((), (1 : Int), ((List.length a0.2.1 : Nat) : Int), (0 : Int), ()), (a0, ()))) (Sum.elim (fun y170 => (some (y170.1.1, ()))) (fun z171 => none)))))

noncomputable def spec_LayerAt_4_R (t1 : Int) (t2 : Int) (t3 : Unit) (t7 : Int) (b3 : TKeymap) : Option (((Int × (Int × (Unit × (Int × Unit)))) × (TKeymap × Unit)) ⊕ ((Unit × Unit) ⊕ ((Int × Unit) × Unit))) :=
 (cond (decide (t7 > (0 : Int)))
 (cond (decide ((0 : Int) ≤ t7))
 (cond ((iand .i64 (ishr .i64 t1 t7) (1 : Int)) == (1 : Int))
 (Option.bind (idx b3.2.1 t7) fun x7 =>
 (Option.bind (idx x7 t2) fun x8 =>
 (cond (x8.1 != (1 : Int))
 (some (.inr (.inr ((t7, ()), ()))))
 (some (.inl ((t1, t2, (), (Go.IntKind.wrap .i64 (t7 - (1 : Int))), ()), (b3, ())))))))
 (some (.inl ((t1, t2, (), (Go.IntKind.wrap .i64 (t7 - (1 : Int))), ()), (b3, ())))))
 none)
 (some (.inr (.inl ((), ())))))
noncomputable def spec_LayerAt_4_loop (x : ((Int × (Int × (Unit × (Int × Unit)))) × (TKeymap × Unit))) : Option ((Unit × Unit) ⊕ ((Int × Unit) × Unit)) := loopF (fun x : ((Int × (Int × (Unit × (Int × Unit)))) × (TKeymap × Unit)) => spec_LayerAt_4_R x.1.1 x.1.2.1 x.1.2.2.1 x.1.2.2.2.1 x.2.1) x
noncomputable def spec_LayerAt (a0 : TKeymap) (a1 : Int) (a2 : Int) : Option (Int × Unit) :=
 (Option.bind (spec_IsKeymap a0) fun r1 =>
 (cond (!r1.1)
 (some ((-1 : Int), ()))
 (Option.bind (spec_l1In a2 (0 : Int) (Go.IntKind.wrap .i64 (a0.1 - (1 : Int)))) fun r2 =>
 (cond (!r2.1)
 (some ((-1 : Int), ()))
 (Option.bind (spec_LayerAt_4_loop ((a1, a2, (), (Go.IntKind.wrap .i64 (((List.length a0.2.1 : Nat) : Int) - (1 : Int))), ()), (a0, ()))) (Sum.elim (fun y9 => (some ((0 : Int), ()))) (fun z10 => (some (z10.1.1, ())))))))))

noncomputable def spec_ActionAt (a0 : TKeymap) (a1 : Int) (a2 : Int) : Option (TAction × Unit) :=
 (Option.bind (spec_LayerAt a0 a1 a2) fun r1 =>
 (cond (decide (r1.1 < (0 : Int)))
 (some (((0 : Int), (0 : Int), (0 : Int), (0 : Int), ()), ()))
 (Option.bind (idx a0.2.1 r1.1) fun x2 =>
 (Option.bind (idx x2 a2) fun x3 =>
 (some (x3, ()))))))

noncomputable def spec_FixedAfter (a0 : TKeymap) (a1 : Int) (a2 : Int) : Option (Int × Unit) :=
 (Option.bind (spec_IsFixed a0 a1) fun r1 =>
 (cond (!r1.1)
 (some ((-1 : Int), ()))
 (Option.bind (spec_l1In a2 (0 : Int) (Go.IntKind.wrap .i64 (a0.1 - (1 : Int)))) fun r2 =>
 (cond (!r2.1)
 (some ((-1 : Int), ()))
 (Option.bind (spec_ActionAt a0 (ior .i64 (1 : Int) a1) a2) fun r3 =>
 (cond (r3.1.1 == (4 : Int))
 (cond (decide ((0 : Int) ≤ r3.1.2.2.2.1))
 (some ((ixor .i64 a1 (ishl .i64 (1 : Int) r3.1.2.2.2.1)), ()))
 none)
 (cond (r3.1.1 == (5 : Int))
 (cond (decide ((0 : Int) ≤ r3.1.2.2.2.1))
 (some ((iandn .i64 (ishl .i64 (1 : Int) r3.1.2.2.2.1) (1 : Int)), ()))
 none)
 (some (a1, ())))))))))

noncomputable def impl_fixedAfter (a0 : TKeymap) (a1 : Int) (a2 : Int) : Option (Int × Unit) :=
 (Option.bind (impl_layerAt a0 a1 a2) fun r1 =>
 (Option.bind (idx a0.2.1 r1.1) fun x2 =>
 (Option.bind (idx x2 a2) fun x3 =>
 (cond (x3.1 == (4 : Int))
 (cond (decide ((0 : Int) ≤ x3.2.2.2.1))
 (some ((ixor .i64 a1 (ishl .i64 (1 : Int) x3.2.2.2.1)), ()))
 none)
 (cond (x3.1 == (5 : Int))
 (cond (decide ((0 : Int) ≤ x3.2.2.2.1))
 (some ((iandn .i64 (ishl .i64 (1 : Int) x3.2.2.2.1) (1 : Int)), ()))
 none)
 (some (a1, ())))))))

noncomputable def impl_FixedAfter (a0 : TKeymap) (a1 : Int) (a2 : Int) : Option (Int × Unit) :=
 (Option.bind (impl_IsFixed a0 a1) fun r1 =>
 (cond (!r1.1)
 (some ((-1 : Int), ()))
 (cond (decide (a2 < (0 : Int)))
 (some ((-1 : Int), ()))
 (cond (decide (a2 ≥ a0.1))
 (some ((-1 : Int), ()))
 (Option.bind (impl_fixedAfter a0 a1 a2) fun r2 =>
 (some (r2.1, ())))))))

noncomputable def spec_PackAction (a0 : TAction) : Option ((List Int) × Unit) :=
 (Option.bind (spec_IsAction a0) fun r1 =>
 (cond (!r1.1)
 (some (([] : List Int), ()))
 (some (([(Go.IntKind.wrap .u8 (Go.IntKind.wrap .i64 ((Go.IntKind.wrap .i64 ((16 : Int) * a0.1)) + a0.2.2.2.1))), (Go.IntKind.wrap .u8 a0.2.1), (Go.IntKind.wrap .u8 a0.2.2.1)] : List Int), ()))))

noncomputable def impl_PackAction (a0 : TAction) : Option ((List Int) × Unit) :=
 (Option.bind (impl_IsAction a0) fun r1 =>
 (cond (!r1.1)
 (some (([] : List Int), ()))
 (some (([(Go.IntKind.wrap .u8 (Go.IntKind.wrap .i64 ((Go.IntKind.wrap .i64 ((16 : Int) * a0.1)) + a0.2.2.2.1))), (Go.IntKind.wrap .u8 a0.2.1), (Go.IntKind.wrap .u8 a0.2.2.1)] : List Int), ()))))

noncomputable def laws_markActionS_2_R (t0 : (List TAction)) (t1 : Int) (t5 : Int) : Option ((((List TAction) × TCombo) × Unit) ⊕ ((((List TAction) × (Int × Unit)) × Unit) ⊕ (Unit × Unit))) :=
 (cond (decide (t5 < ((List.length t0 : Nat) : Int)))
 (cond (inb (List.length t0) t5)
 (Option.bind t0[(Int.toNat t5)]? fun x9 =>
 (cond (inb (List.length (List.set t0 (Int.toNat t5) (t1, x9.2))) t5)
 (Option.bind (List.set t0 (Int.toNat t5) (t1, x9.2))[(Int.toNat t5)]? fun x10 =>
 (cond (inb (List.length (List.set (List.set t0 (Int.toNat t5) (t1, x9.2)) (Int.toNat t5) (x10.1, (Go.IntKind.wrap .i64 (t1 + (1 : Int))), x10.2.2))) t5)
 (Option.bind (List.set (List.set t0 (Int.toNat t5) (t1, x9.2)) (Int.toNat t5) (x10.1, (Go.IntKind.wrap .i64 (t1 + (1 : Int))), x10.2.2))[(Int.toNat t5)]? fun x11 =>
 (cond (inb (List.length (List.set (List.set (List.set t0 (Int.toNat t5) (t1, x9.2)) (Int.toNat t5) (x10.1, (Go.IntKind.wrap .i64 (t1 + (1 : Int))), x10.2.2)) (Int.toNat t5) (x11.1, x11.2.1, (Go.IntKind.wrap .i64 ((Go.IntKind.wrap .i64 (t1 + (1 : Int))) + (1 : Int))), x11.2.2.2))) t5)
 (Option.bind (List.set (List.set (List.set t0 (Int.toNat t5) (t1, x9.2)) (Int.toNat t5) (x10.1, (Go.IntKind.wrap .i64 (t1 + (1 : Int))), x10.2.2)) (Int.toNat t5) (x11.1, x11.2.1, (Go.IntKind.wrap .i64 ((Go.IntKind.wrap .i64 (t1 + (1 : Int))) + (1 : Int))), x11.2.2.2))[(Int.toNat t5)]? fun x12 =>
 (some (.inl (((List.set (List.set (List.set (List.set t0 (Int.toNat t5) (t1, x9.2)) (Int.toNat t5) (x10.1, (Go.IntKind.wrap .i64 (t1 + (1 : Int))), x10.2.2)) (Int.toNat t5) (x11.1, x11.2.1, (Go.IntKind.wrap .i64 ((Go.IntKind.wrap .i64 (t1 + (1 : Int))) + (1 : Int))), x11.2.2.2)) (Int.toNat t5) (x12.1, x12.2.1, x12.2.2.1, (Go.IntKind.wrap .i64 ((Go.IntKind.wrap .i64 ((Go.IntKind.wrap .i64 (t1 + (1 : Int))) + (1 : Int))) + (1 : Int))), x12.2.2.2.2)), (Go.IntKind.wrap .i64 ((Go.IntKind.wrap .i64 ((Go.IntKind.wrap .i64 ((Go.IntKind.wrap .i64 (t1 + (1 : Int))) + (1 : Int))) + (1 : Int))) + (1 : Int))), (Go.IntKind.wrap .i64 (t5 + (1 : Int))), ()), ()))))
 none))
 none))
 none))
 none)
 (some (.inr (.inl ((t0, t1, ()), ())))))
noncomputable def laws_markActionS_2_loop (x : (((List TAction) × TCombo) × Unit)) : Option ((((List TAction) × (Int × Unit)) × Unit) ⊕ (Unit × Unit)) := loopF (fun x : (((List TAction) × TCombo) × Unit) => laws_markActionS_2_R x.1.1 x.1.2.1 x.1.2.2.1) x
noncomputable def laws_markActionS (a0 : (List TAction)) (a1 : Int) : Option ((List TAction) × (Int × Unit)) :=
 (Option.bind (laws_markActionS_2_loop ((a0, a1, (0 : Int), ()), ())) (Sum.elim (fun y13 => (some (y13.1.1, (y13.1.2.1, ())))) (fun z14 => none)))

noncomputable def laws_markActionSS_2_R (t0 : (List (List TAction))) (t1 : Int) (t5 : Int) : Option ((((List (List TAction)) × TCombo) × Unit) ⊕ ((((List (List TAction)) × (Int × Unit)) × Unit) ⊕ (Unit × Unit))) :=
 (cond (decide (t5 < ((List.length t0 : Nat) : Int)))
 (cond (inb (List.length t0) t5)
 (Option.bind t0[(Int.toNat t5)]? fun x5 =>
 (Option.bind (laws_markActionS x5 t1) fun r6 =>
 (some (.inl (((List.set t0 (Int.toNat t5) r6.1), r6.2.1, (Go.IntKind.wrap .i64 (t5 + (1 : Int))), ()), ())))))
 none)
 (some (.inr (.inl ((t0, t1, ()), ())))))
noncomputable def laws_markActionSS_2_loop (x : (((List (List TAction)) × TCombo) × Unit)) : Option ((((List (List TAction)) × (Int × Unit)) × Unit) ⊕ (Unit × Unit)) := loopF (fun x : (((List (List TAction)) × TCombo) × Unit) => laws_markActionSS_2_R x.1.1 x.1.2.1 x.1.2.2.1) x
noncomputable def laws_markActionSS (a0 : (List (List TAction))) (a1 : Int) : Option ((List (List TAction)) × (Int × Unit)) :=
 (Option.bind (laws_markActionSS_2_loop ((a0, a1, (0 : Int), ()), ())) (Sum.elim (fun y7 => (some (y7.1.1, (y7.1.2.1, ())))) (fun z8 => none)))

noncomputable def laws_markKeymap (a0 : TKeymap) (a1 : Int) : Option (TKeymap × (Int × Unit)) :=
 (Option.bind (laws_markActionSS a0.2.1 a1) fun r1 =>
 (some ((a0.1, r1.1, ()), (r1.2.1, ()))))

noncomputable def spec_l6Copy_3_R (t1 : Unit) (t2 : Unit) (t3 : Unit) (t4 : Int) (b1 : TKeymap) (b2 : TKeymap) (b3 : TKeymap) : Option (((Unit × (Unit × (Unit × (Int × Unit)))) × (TKeymap × (TKeymap × (TKeymap × Unit)))) ⊕ (((Unit × (Unit × Unit)) × (TKeymap × (TKeymap × Unit))) ⊕ (Unit × Unit))) :=
 (cond (decide (t4 < ((List.length b1.2.1 : Nat) : Int)))
 (Option.bind (idx b1.2.1 t4) fun x4 =>
 (cond (Nat.ble (List.length ([] : List TAction) + List.length x4) lim)
 (cond (Nat.ble (List.length b3.2.1 + List.length ([(List.append ([] : List TAction) x4)] : List (List TAction))) lim)
 (some (.inl (((), (), (), (Go.IntKind.wrap .i64 (t4 + (1 : Int))), ()), (b1, (b2.1, b2.2.1, ()), (b3.1, (List.append b3.2.1 ([(List.append ([] : List TAction) x4)] : List (List TAction))), ()), ()))))
 none)
 none))
 (some (.inr (.inl (((), (), ()), ((b2.1, b2.2.1, ()), (b3.1, b3.2.1, ()), ()))))))
noncomputable def spec_l6Copy_3_loop (x : ((Unit × (Unit × (Unit × (Int × Unit)))) × (TKeymap × (TKeymap × (TKeymap × Unit))))) : Option (((Unit × (Unit × Unit)) × (TKeymap × (TKeymap × Unit))) ⊕ (Unit × Unit)) := loopF (fun x : ((Unit × (Unit × (Unit × (Int × Unit)))) × (TKeymap × (TKeymap × (TKeymap × Unit)))) => spec_l6Copy_3_R x.1.1 x.1.2.1 x.1.2.2.1 x.1.2.2.2.1 x.2.1 x.2.2.1 x.2.2.2.1) x
noncomputable def spec_l6Copy (a0 : TKeymap) : Option (TKeymap × Unit) :=
 (Option.bind (spec_l6Copy_3_loop (((), (), (), (0 : Int), ()), (a0, ((0 : Int), ([] : List (List TAction)), ()), (a0.1, ([] : List (List TAction)), ()), ()))) (Sum.elim (fun y5 => (some ((y5.2.2.1.1, y5.2.2.1.2.1, ()), ()))) (fun z6 => none)))

noncomputable def spec_PruneKeymap_7_R (t1 : Unit) (t2 : Unit) (t3 : Unit) (t4 : Int) (t5 : Int) (t6 : Int) (b1 : TKeymap) (b2 : TKeymap) (b3 : TKeymap) : Option (((Unit × (Unit × (Unit × TStep))) × (TKeymap × (TKeymap × (TKeymap × Unit)))) ⊕ (((Unit × (Unit × (Unit × TCombo))) × (TKeymap × (TKeymap × (TKeymap × Unit)))) ⊕ (Unit × Unit))) :=
 (cond (decide (t6 < b1.1))
 (cond (decide ((0 : Int) ≤ t5))
 (cond ((iand .i64 (ishr .i64 t4 t5) (1 : Int)) == (0 : Int))
 (cond (inb (List.length b3.2.1) t5)
 (Option.bind b3.2.1[(Int.toNat t5)]? fun x31 =>
 (cond (inb (List.length x31) t6)
 (Option.bind x31[(Int.toNat t6)]? fun x32 =>
 (some (.inl (((), (), (), t4, t5, (Go.IntKind.wrap .i64 (t6 + (1 : Int))), ()), (b1, (b2.1, b2.2.1, ()), (b3.1, (List.set b3.2.1 (Int.toNat t5) (List.set x31 (Int.toNat t6) ((1 : Int), (0 : Int), (0 : Int), (0 : Int), ()))), ()), ())))))
 none))
 none)
 (some (.inr (.inl (((), (), (), t4, t5, ()), (b1, (b2.1, b2.2.1, ()), (b3.1, b3.2.1, ()), ()))))))
 none)
 (some (.inr (.inl (((), (), (), t4, t5, ()), (b1, (b2.1, b2.2.1, ()), (b3.1, b3.2.1, ()), ()))))))
noncomputable def spec_PruneKeymap_7_loop (x : ((Unit × (Unit × (Unit × TStep))) × (TKeymap × (TKeymap × (TKeymap × Unit))))) : Option (((Unit × (Unit × (Unit × TCombo))) × (TKeymap × (TKeymap × (TKeymap × Unit)))) ⊕ (Unit × Unit)) := loopF (fun x : ((Unit × (Unit × (Unit × TStep))) × (TKeymap × (TKeymap × (TKeymap × Unit)))) => spec_PruneKeymap_7_R x.1.1 x.1.2.1 x.1.2.2.1 x.1.2.2.2.1 x.1.2.2.2.2.1 x.1.2.2.2.2.2.1 x.2.1 x.2.2.1 x.2.2.2.1) x
noncomputable def spec_PruneKeymap_4_R (t1 : Unit) (t2 : Unit) (t3 : Unit) (t4 : Int) (t5 : Int) (b1 : TKeymap) (b2 : TKeymap) (b3 : TKeymap) : Option (((Unit × (Unit × (Unit × TCombo))) × (TKeymap × (TKeymap × (TKeymap × Unit)))) ⊕ (((Unit × (Unit × Unit)) × (TKeymap × (TKeymap × Unit))) ⊕ (Unit × Unit))) :=
 (cond (decide (t5 < ((List.length b1.2.1 : Nat) : Int)))
 (cond (decide (t4 > (0 : Int)))
 (Option.bind (spec_PruneKeymap_7_loop (((), (), (), t4, t5, (0 : Int), ()), (b1, (b2.1, b2.2.1, ()), (b3.1, b3.2.1, ()), ()))) (Sum.elim (fun y33 => (some (.inl (((), (), (), y33.1.2.2.2.1, (Go.IntKind.wrap .i64 (y33.1.2.2.2.2.1 + (1 : Int))), ()), (y33.2.1, (y33.2.2.1.1, y33.2.2.1.2.1, ()), (y33.2.2.2.1.1, y33.2.2.2.1.2.1, ()), ()))))) (fun z34 => (some (.inr (.inr ((), ())))))))
 (some (.inr (.inl (((), (), ()), ((b2.1, b2.2.1, ()), (b3.1, b3.2.1, ()), ()))))))
 (some (.inr (.inl (((), (), ()), ((b2.1, b2.2.1, ()), (b3.1, b3.2.1, ()), ()))))))
noncomputable def spec_PruneKeymap_4_loop (x : ((Unit × (Unit × (Unit × TCombo))) × (TKeymap × (TKeymap × (TKeymap × Unit))))) : Option (((Unit × (Unit × Unit)) × (TKeymap × (TKeymap × Unit))) ⊕ (Unit × Unit)) := loopF (fun x : ((Unit × (Unit × (Unit × TCombo))) × (TKeymap × (TKeymap × (TKeymap × Unit)))) => spec_PruneKeymap_4_R x.1.1 x.1.2.1 x.1.2.2.1 x.1.2.2.2.1 x.1.2.2.2.2.1 x.2.1 x.2.2.1 x.2.2.2.1) x
noncomputable def spec_PruneKeymap (a0 : TKeymap) : Option (TKeymap × Unit) :=
 (Option.bind (spec_l6Copy a0) fun r1 =>
 (Option.bind (spec_LayersUsed a0) fun r2 =>
 (Option.bind (spec_PruneKeymap_4_loop (((), (), (), r2.1, (0 : Int), ()), (a0, ((0 : Int), ([] : List (List TAction)), ()), r1.1, ()))) (Sum.elim (fun y35 => (some ((y35.2.2.1.1, y35.2.2.1.2.1, ()), ()))) (fun z36 => none)))))

noncomputable def impl_PruneKeymap_9_R (t2 : Unit) (t3 : Unit) (t4 : Int) (t5 : Int) (t6 : (List TAction)) (t17 : ((List (List TAction)) × (Int × ((List TAction) × (List TAction))))) (t18 : Int) (t19 : Int) (t25 : Int) (t26 : Int) (b2 : TKeymap) (b3 : (Int × (((List (List TAction)) × (Int × ((List TAction) × (List TAction)))) × Unit))) : Option (((Unit × (Unit × (Int × (Int × ((List TAction) × (((List (List TAction)) × (Int × ((List TAction) × (List TAction)))) × TAction)))))) × (TKeymap × ((Int × (((List (List TAction)) × (Int × ((List TAction) × (List TAction)))) × Unit)) × Unit))) ⊕ (((Unit × (Unit × (Int × (((List (List TAction)) × (Int × ((List TAction) × (List TAction)))) × TCombo)))) × (TKeymap × ((Int × (((List (List TAction)) × (Int × ((List TAction) × (List TAction)))) × Unit)) × Unit))) ⊕ (Unit × Unit))) :=
 (cond (decide (t26 < t25))
 (Option.bind (impl_bit t4 t5) fun r36 =>
 (cond (r36.1 == (0 : Int))
 (cond (inb (List.length t6) t26)
 (Option.bind t6[(Int.toNat t26)]? fun x37 =>
 (some (.inl (((), (), t4, t5, (List.set t6 (Int.toNat t26) ((1 : Int), (0 : Int), (0 : Int), (0 : Int), ())), (t17.1, (((Int.toNat t17.2.1) : Nat) : Int), t17.2.2.1, (List.set t6 (Int.toNat t26) ((1 : Int), (0 : Int), (0 : Int), (0 : Int), ()))), t18, t19, t25, (Go.IntKind.wrap .i64 (t26 + (1 : Int))), ()), ((b2.1, b2.2.1, ()), (b3.1, (t17.1, (((Int.toNat t17.2.1) : Nat) : Int), t17.2.2.1, (List.set t6 (Int.toNat t26) ((1 : Int), (0 : Int), (0 : Int), (0 : Int), ()))), ()), ())))))
 none)
 (some (.inl (((), (), t4, t5, t6, (t17.1, (((Int.toNat t17.2.1) : Nat) : Int), t17.2.2.1, t6), t18, t19, t25, (Go.IntKind.wrap .i64 (t26 + (1 : Int))), ()), ((b2.1, b2.2.1, ()), (b3.1, (t17.1, (((Int.toNat t17.2.1) : Nat) : Int), t17.2.2.1, t6), ()), ()))))))
 (some (.inr (.inl (((), (), t4, (t17.1, (((Int.toNat t17.2.1) : Nat) : Int), t17.2.2.1, t6), t18, t19, ()), ((b2.1, b2.2.1, ()), (b3.1, (t17.1, (((Int.toNat t17.2.1) : Nat) : Int), t17.2.2.1, t6), ()), ()))))))
noncomputable def impl_PruneKeymap_9_loop (x : ((Unit × (Unit × (Int × (Int × ((List TAction) × (((List (List TAction)) × (Int × ((List TAction) × (List TAction)))) × TAction)))))) × (TKeymap × ((Int × (((List (List TAction)) × (Int × ((List TAction) × (List TAction)))) × Unit)) × Unit)))) : Option (((Unit × (Unit × (Int × (((List (List TAction)) × (Int × ((List TAction) × (List TAction)))) × TCombo)))) × (TKeymap × ((Int × (((List (List TAction)) × (Int × ((List TAction) × (List TAction)))) × Unit)) × Unit))) ⊕ (Unit × Unit)) := loopF (fun x : ((Unit × (Unit × (Int × (Int × ((List TAction) × (((List (List TAction)) × (Int × ((List TAction) × (List TAction)))) × TAction)))))) × (TKeymap × ((Int × (((List (List TAction)) × (Int × ((List TAction) × (List TAction)))) × Unit)) × Unit))) => impl_PruneKeymap_9_R x.1.1 x.1.2.1 x.1.2.2.1 x.1.2.2.2.1 x.1.2.2.2.2.1 x.1.2.2.2.2.2.1 x.1.2.2.2.2.2.2.1 x.1.2.2.2.2.2.2.2.1 x.1.2.2.2.2.2.2.2.2.1 x.1.2.2.2.2.2.2.2.2.2.1 x.2.1 x.2.2.1) x
noncomputable def impl_PruneKeymap_6_R (t2 : Unit) (t3 : Unit) (t4 : Int) (t17 : (List (List TAction))) (t18 : Int) (t19 : Int) (b2 : TKeymap) (b3 : TKeymap) : Option (((Unit × (Unit × (Int × ((List (List TAction)) × TCombo)))) × (TKeymap × (TKeymap × Unit))) ⊕ (((Unit × (Unit × Unit)) × (TKeymap × (TKeymap × Unit))) ⊕ (Unit × Unit))) :=
 (cond (decide (t19 < t18))
 (cond (inb (List.length t17) t19)
 (Option.bind t17[(Int.toNat t19)]? fun x31 =>
 (Option.bind (impl_PruneKeymap_9_loop (((), (), t4, t19, x31, (t17, (((Int.toNat t19) : Nat) : Int), x31, x31), t18, t19, ((List.length x31 : Nat) : Int), (0 : Int), ()), ((b2.1, b2.2.1, ()), (b3.1, (t17, (((Int.toNat t19) : Nat) : Int), x31, x31), ()), ()))) (Sum.elim (fun y38 => (some (.inl (((), (), y38.1.2.2.1, (List.set y38.1.2.2.2.1.1 (Int.toNat y38.1.2.2.2.1.2.1) y38.1.2.2.2.1.2.2.2), y38.1.2.2.2.2.1, (Go.IntKind.wrap .i64 (y38.1.2.2.2.2.2.1 + (1 : Int))), ()), ((y38.2.1.1, y38.2.1.2.1, ()), (y38.2.2.1.1, (List.set y38.1.2.2.2.1.1 (Int.toNat y38.1.2.2.2.1.2.1) y38.1.2.2.2.1.2.2.2), ()), ()))))) (fun z39 => (some (.inr (.inr ((), ()))))))))
 none)
 (some (.inr (.inl (((), (), ()), ((b2.1, b2.2.1, ()), (b3.1, t17, ()), ()))))))
noncomputable def impl_PruneKeymap_6_loop (x : ((Unit × (Unit × (Int × ((List (List TAction)) × TCombo)))) × (TKeymap × (TKeymap × Unit)))) : Option (((Unit × (Unit × Unit)) × (TKeymap × (TKeymap × Unit))) ⊕ (Unit × Unit)) := loopF (fun x : ((Unit × (Unit × (Int × ((List (List TAction)) × TCombo)))) × (TKeymap × (TKeymap × Unit))) => impl_PruneKeymap_6_R x.1.1 x.1.2.1 x.1.2.2.1 x.1.2.2.2.1 x.1.2.2.2.2.1 x.1.2.2.2.2.2.1 x.2.1 x.2.2.1) x
noncomputable def impl_PruneKeymap (a0 : TKeymap) : Option (TKeymap × Unit) :=
 (Option.bind (impl_copyKeymap a0) fun r1 =>
 (Option.bind (impl_IsKeymap a0) fun r2 =>
 (cond (!r2.1)
 (some (r1.1, ()))
 (Option.bind (impl_LayersUsed a0) fun r3 =>
 (Option.bind (impl_PruneKeymap_6_loop (((), (), r3.1, r1.1.2.1, ((List.length r1.1.2.1 : Nat) : Int), (0 : Int), ()), (((0 : Int), ([] : List (List TAction)), ()), r1.1, ()))) (Sum.elim (fun y40 => (some ((y40.2.2.1.1, y40.2.2.1.2.1, ()), ()))) (fun z41 => none)))))))

noncomputable def laws_heldActionS_2_R (t0 : (List TAction)) (t1 : Int) (t5 : Int) : Option ((((List TAction) × TCombo) × Unit) ⊕ (((Int × Unit) × Unit) ⊕ ((Int × Unit) × Unit))) :=
 (cond (decide (t5 < ((List.length t0 : Nat) : Int)))
 (Option.bind (idx t0 t5) fun x9 =>
 (cond (x9.1 != t1)
 (some (.inr (.inr (((-1 : Int), ()), ()))))
 (Option.bind (idx t0 t5) fun x10 =>
 (cond (x10.2.1 != (Go.IntKind.wrap .i64 (t1 + (1 : Int))))
 (some (.inr (.inr (((-1 : Int), ()), ()))))
 (Option.bind (idx t0 t5) fun x11 =>
 (cond (x11.2.2.1 != (Go.IntKind.wrap .i64 ((Go.IntKind.wrap .i64 (t1 + (1 : Int))) + (1 : Int))))
 (some (.inr (.inr (((-1 : Int), ()), ()))))
 (Option.bind (idx t0 t5) fun x12 =>
 (cond (x12.2.2.2.1 != (Go.IntKind.wrap .i64 ((Go.IntKind.wrap .i64 ((Go.IntKind.wrap .i64 (t1 + (1 : Int))) + (1 : Int))) + (1 : Int))))
 (some (.inr (.inr (((-1 : Int), ()), ()))))
 (some (.inl ((t0, (Go.IntKind.wrap .i64 ((Go.IntKind.wrap .i64 ((Go.IntKind.wrap .i64 ((Go.IntKind.wrap .i64 (t1 + (1 : Int))) + (1 : Int))) + (1 : Int))) + (1 : Int))), (Go.IntKind.wrap .i64 (t5 + (1 : Int))), ()), ())))))))))))
 (some (.inr (.inl ((t1, ()), ())))))
noncomputable def laws_heldActionS_2_loop (x : (((List TAction) × TCombo) × Unit)) : Option (((Int × Unit) × Unit) ⊕ ((Int × Unit) × Unit)) := loopF (fun x : (((List TAction) × TCombo) × Unit) => laws_heldActionS_2_R x.1.1 x.1.2.1 x.1.2.2.1) x
noncomputable def laws_heldActionS (a0 : (List TAction)) (a1 : Int) : Option (Int × Unit) :=
 (Option.bind (laws_heldActionS_2_loop ((a0, a1, (0 : Int), ()), ())) (Sum.elim (fun y13 => (some (y13.1.1, ()))) (fun z14 => (some (z14.1.1, ())))))

noncomputable def laws_heldActionSS_2_R (t0 : (List (List TAction))) (t1 : Int) (t5 : Int) : Option ((((List (List TAction)) × TCombo) × Unit) ⊕ (((Int × Unit) × Unit) ⊕ ((Int × Unit) × Unit))) :=
 (cond (decide (t5 < ((List.length t0 : Nat) : Int)))
 (Option.bind (idx t0 t5) fun x5 =>
 (Option.bind (laws_heldActionS x5 t1) fun r6 =>
 (cond (decide (r6.1 < (0 : Int)))
 (some (.inr (.inr (((-1 : Int), ()), ()))))
 (some (.inl ((t0, r6.1, (Go.IntKind.wrap .i64 (t5 + (1 : Int))), ()), ()))))))
 (some (.inr (.inl ((t1, ()), ())))))
noncomputable def laws_heldActionSS_2_loop (x : (((List (List TAction)) × TCombo) × Unit)) : Option (((Int × Unit) × Unit) ⊕ ((Int × Unit) × Unit)) := loopF (fun x : (((List (List TAction)) × TCombo) × Unit) => laws_heldActionSS_2_R x.1.1 x.1.2.1 x.1.2.2.1) x
noncomputable def laws_heldActionSS (a0 : (List (List TAction))) (a1 : Int) : Option (Int × Unit) :=
 (Option.bind (laws_heldActionSS_2_loop ((a0, a1, (0 : Int), ()), ())) (Sum.elim (fun y7 => (some (y7.1.1, ()))) (fun z8 => (some (z8.1.1, ())))))

noncomputable def laws_heldKeymap (a0 : TKeymap) (a1 : Int) : Option (Int × Unit) :=
 (Option.bind (laws_heldActionSS a0.2.1 a1) fun r1 =>
 (cond (decide (r1.1 < (0 : Int)))
 (some ((-1 : Int), ()))
 (some (r1.1, ()))))

noncomputable def laws_FnExactPruneKeymap (a0 : TKeymap) : Option (Bool × Unit) :=
 (Option.bind (laws_szKeymap a0 (1048576 : Int)) fun r1 =>
 (cond (decide (r1.1 < (0 : Int)))
 (some (true, ()))
 (Option.bind (laws_toKeymap a0) fun r2 =>
 (Option.bind (spec_PruneKeymap r2.1) fun r3 =>
 (Option.bind (laws_toKeymap a0) fun r4 =>
 (Option.bind (impl_PruneKeymap r4.1) fun r5 =>
 (Option.bind (laws_eqKeymap r5.1 r3.1) fun r6 =>
 (cond (!r6.1)
 (some (false, ()))
 (Option.bind (laws_toKeymap a0) fun r7 =>
 (Option.bind (laws_eqKeymap r4.1 r7.1) fun r8 =>
 (cond (!r8.1)
 (some (false, ()))
 (Option.bind (laws_markKeymap r4.1 (1 : Int)) fun r9 =>
 (cond (decide (r9.2.1 < (0 : Int)))
 (some (false, ()))
 (Option.bind (laws_eqKeymap r5.1 r3.1) fun r10 =>
 (cond (!r10.1)
 (some (false, ()))
 (Option.bind (laws_markKeymap r5.1 (1 : Int)) fun r11 =>
 (Option.bind (laws_heldKeymap (r5.1.1, r11.1.2.1, ()) (1 : Int)) fun r12 =>
 (cond (decide (r12.1 < (0 : Int)))
 (some (false, ()))
 (cond (r12.1 != r11.2.1)
 (some (false, ()))
 (Option.bind (laws_toKeymap a0) fun r13 =>
 (Option.bind (impl_PruneKeymap r13.1) fun r14 =>
 (Option.bind (laws_eqKeymap r14.1 r3.1) fun r15 =>
 (cond (!r15.1)
 (some (false, ()))
 (Option.bind (laws_heldKeymap (r5.1.1, r11.1.2.1, ()) (1 : Int)) fun r16 =>
 (cond (decide (r16.1 < (0 : Int)))
 (some (false, ()))
 (cond (r16.1 != r11.2.1)
 (some (false, ()))
 (some (true, ()))))))))))))))))))))))))))))

noncomputable def spec_UnpackAction (a0 : (List Int)) : Option (TAction × (Bool × Unit)) :=
 (cond (((List.length a0 : Nat) : Int) != (3 : Int))
 (some (((0 : Int), (0 : Int), (0 : Int), (0 : Int), ()), false, ()))
 (Option.bind (idx a0 (0 : Int)) fun x1 =>
 (cond ((16 : Int) == (0 : Int))
 none
 (Option.bind (idx a0 (0 : Int)) fun x2 =>
 (cond ((16 : Int) == (0 : Int))
 none
 (Option.bind (idx a0 (1 : Int)) fun x3 =>
 (Option.bind (idx a0 (2 : Int)) fun x4 =>
 (Option.bind (spec_IsAction ((Go.IntKind.wrap .i64 (Int.tdiv (Go.IntKind.wrap .i64 x1) (16 : Int))), (Go.IntKind.wrap .i64 x3), (Go.IntKind.wrap .i64 x4), (Int.tmod (Go.IntKind.wrap .i64 x2) (16 : Int)), ())) fun r5 =>
 (cond (!r5.1)
 (some (((0 : Int), (0 : Int), (0 : Int), (0 : Int), ()), false, ()))
 (some (((Go.IntKind.wrap .i64 (Int.tdiv (Go.IntKind.wrap .i64 x1) (16 : Int))), (Go.IntKind.wrap .i64 x3), (Go.IntKind.wrap .i64 x4), (Int.tmod (Go.IntKind.wrap .i64 x2) (16 : Int)), ()), true, ())))))))))))

noncomputable def impl_UnpackAction (a0 : (List Int)) : Option (TAction × (Bool × Unit)) :=
 (cond (((List.length a0 : Nat) : Int) != (3 : Int))
 (some (((0 : Int), (0 : Int), (0 : Int), (0 : Int), ()), false, ()))
 (Option.bind (idx a0 (0 : Int)) fun x1 =>
 (cond ((16 : Int) == (0 : Int))
 none
 (Option.bind (idx a0 (1 : Int)) fun x2 =>
 (Option.bind (idx a0 (2 : Int)) fun x3 =>
 (Option.bind (idx a0 (0 : Int)) fun x4 =>
 (cond ((16 : Int) == (0 : Int))
 none
 (Option.bind (impl_IsAction ((Go.IntKind.wrap .i64 (Int.tdiv (Go.IntKind.wrap .i64 x1) (16 : Int))), (Go.IntKind.wrap .i64 x2), (Go.IntKind.wrap .i64 x3), (Int.tmod (Go.IntKind.wrap .i64 x4) (16 : Int)), ())) fun r5 =>
 (cond (!r5.1)
 (some (((0 : Int), (0 : Int), (0 : Int), (0 : Int), ()), false, ()))
 (some (((Go.IntKind.wrap .i64 (Int.tdiv (Go.IntKind.wrap .i64 x1) (16 : Int))), (Go.IntKind.wrap .i64 x2), (Go.IntKind.wrap .i64 x3), (Int.tmod (Go.IntKind.wrap .i64 x4) (16 : Int)), ()), true, ())))))))))))

noncomputable def impl_SetAction (a0 : TKeymap) (a1 : Int) (a2 : Int) (a3 : TAction) : Option (TKeymap × (Bool × Unit)) :=
 (Option.bind (impl_IsKeymap a0) fun r1 =>
 (cond (!r1.1)
 (some (((0 : Int), ([] : List (List TAction)), ()), false, ()))
 (cond (decide (a1 < (0 : Int)))
 (some (((0 : Int), ([] : List (List TAction)), ()), false, ()))
 (cond (decide (a1 ≥ ((List.length a0.2.1 : Nat) : Int)))
 (some (((0 : Int), ([] : List (List TAction)), ()), false, ()))
 (cond (decide (a2 < (0 : Int)))
 (some (((0 : Int), ([] : List (List TAction)), ()), false, ()))
 (cond (decide (a2 ≥ a0.1))
 (some (((0 : Int), ([] : List (List TAction)), ()), false, ()))
 (Option.bind (impl_copyKeymap a0) fun r2 =>
 (cond (inb (List.length r2.1.2.1) a1)
 (Option.bind r2.1.2.1[(Int.toNat a1)]? fun x3 =>
 (cond (inb (List.length x3) a2)
 (Option.bind x3[(Int.toNat a2)]? fun x4 =>
 (Option.bind (impl_IsKeymap (r2.1.1, (List.set r2.1.2.1 (Int.toNat a1) (List.set x3 (Int.toNat a2) a3)), ())) fun r5 =>
 (cond (!r5.1)
 (some (((0 : Int), ([] : List (List TAction)), ()), false, ()))
 (some ((r2.1.1, (List.set r2.1.2.1 (Int.toNat a1) (List.set x3 (Int.toNat a2) a3)), ()), true, ())))))
 none))
 none))))))))

noncomputable def impl_AnswerPacket (a0 : TKeymap) (a1 : (List Int)) : Option (TKeymap × ((List Int) × Unit)) :=
 (Option.bind (impl_copyKeymap a0) fun r1 =>
 (Option.bind (impl_IsKeymap a0) fun r2 =>
 (cond (!r2.1)
 (Option.bind (impl_SealPacket ([(255 : Int), (1 : Int)] : List Int)) fun r3 =>
 (some (r1.1, r3.1, ())))
 (Option.bind (impl_IsPacket a1) fun r4 =>
 (cond (!r4.1)
 (Option.bind (impl_SealPacket ([(255 : Int), (1 : Int)] : List Int)) fun r5 =>
 (some (r1.1, r5.1, ())))
 (Option.bind (idx a1 (1 : Int)) fun x6 =>
 (Option.bind (idx a1 (2 : Int)) fun x7 =>
 (cond (decide ((Go.IntKind.wrap .i64 x6) < ((List.length a0.2.1 : Nat) : Int)))
 (Option.bind (impl_SealPacket ([(255 : Int), (3 : Int)] : List Int)) fun r8 =>
 (Option.bind (idx a1 (0 : Int)) fun x9 =>
 (cond (x9 == (1 : Int))
 (Option.bind (impl_SealPacket ([(1 : Int), (Go.IntKind.wrap .u8 a0.1), (Go.IntKind.wrap .u8 ((List.length a0.2.1 : Nat) : Int))] : List Int)) fun r10 =>
 (some (r1.1, r10.1, ())))
 (cond (x9 == (2 : Int))
 (cond (!(decide ((Go.IntKind.wrap .i64 x7) < a0.1)))
 (some (r1.1, r8.1, ()))
 (Option.bind (idx a1 (0 : Int)) fun x11 =>
 (Option.bind (idx a1 (1 : Int)) fun x12 =>
 (Option.bind (idx a1 (2 : Int)) fun x13 =>
 (Option.bind (idx a0.2.1 (Go.IntKind.wrap .i64 x6)) fun x14 =>
 (Option.bind (idx x14 (Go.IntKind.wrap .i64 x7)) fun x15 =>
 (Option.bind (impl_PackAction x15) fun r16 =>
 (cond (Nat.ble (List.length ([x11, x12, x13] : List Int) + List.length r16.1) lim)
 (Option.bind (impl_SealPacket (List.append ([x11, x12, x13] : List Int) r16.1)) fun r17 =>
 (some (r1.1, r17.1, ())))
 none))))))))
 (cond (x9 == (3 : Int))
 (cond (cutOk (List.length a1) (3 : Int) (6 : Int))
 (Option.bind (impl_UnpackAction (cutl a1 (Int.toNat (3 : Int)) (Int.toNat (6 : Int)))) fun r18 =>
 (cond (!(decide ((Go.IntKind.wrap .i64 x7) < a0.1)))
 (some (r1.1, r8.1, ()))
 (cond (!r18.2.1)
 (some (r1.1, r8.1, ()))
 (Option.bind (impl_SetAction a0 (Go.IntKind.wrap .i64 x6) (Go.IntKind.wrap .i64 x7) r18.1) fun r19 =>
 (cond (!r19.2.1)
 (some (r1.1, r8.1, ()))
 (cond (cutOk (List.length a1) (0 : Int) (6 : Int))
 (cond (Nat.ble (List.length ([] : List Int) + List.length (cutl a1 (Int.toNat (0 : Int)) (Int.toNat (6 : Int)))) lim)
 (Option.bind (impl_SealPacket (List.append ([] : List Int) (cutl a1 (Int.toNat (0 : Int)) (Int.toNat (6 : Int))))) fun r20 =>
 (some (r19.1, r20.1, ())))
 none)
 none))))))
 none)
 (Option.bind (impl_SealPacket ([(255 : Int), (2 : Int)] : List Int)) fun r21 =>
 (some (r1.1, r21.1, ()))))))))
 (Option.bind (impl_SealPacket ([(255 : Int), (3 : Int)] : List Int)) fun r22 =>
 (Option.bind (idx a1 (0 : Int)) fun x23 =>
 (cond (x23 == (1 : Int))
 (Option.bind (impl_SealPacket ([(1 : Int), (Go.IntKind.wrap .u8 a0.1), (Go.IntKind.wrap .u8 ((List.length a0.2.1 : Nat) : Int))] : List Int)) fun r24 =>
 (some (r1.1, r24.1, ())))
 (cond (x23 == (2 : Int))
 (some (r1.1, r22.1, ()))
 (cond (x23 == (3 : Int))
 (cond (cutOk (List.length a1) (3 : Int) (6 : Int))
 (Option.bind (impl_UnpackAction (cutl a1 (Int.toNat (3 : Int)) (Int.toNat (6 : Int)))) fun r25 =>
 (some (r1.1, r22.1, ())))
 none)
 (Option.bind (impl_SealPacket ([(255 : Int), (2 : Int)] : List Int)) fun r26 =>
 (some (r1.1, r26.1, ()))))))))))))))))

noncomputable def spec_SetAction (a0 : TKeymap) (a1 : Int) (a2 : Int) (a3 : TAction) : Option (TKeymap × (Bool × Unit)) :=
 (Option.bind (spec_IsKeymap a0) fun r1 =>
 (cond (!r1.1)
 (some (((0 : Int), ([] : List (List TAction)), ()), false, ()))
 (Option.bind (spec_l1In a1 (0 : Int) (Go.IntKind.wrap .i64 (((List.length a0.2.1 : Nat) : Int) - (1 : Int)))) fun r2 =>
 (cond (!r2.1)
 (some (((0 : Int), ([] : List (List TAction)), ()), false, ()))
 (Option.bind (spec_l1In a2 (0 : Int) (Go.IntKind.wrap .i64 (a0.1 - (1 : Int)))) fun r3 =>
 (cond (!r3.1)
 (some (((0 : Int), ([] : List (List TAction)), ()), false, ()))
 (Option.bind (spec_l6Copy a0) fun r4 =>
 (cond (inb (List.length r4.1.2.1) a1)
 (Option.bind r4.1.2.1[(Int.toNat a1)]? fun x5 =>
 (cond (inb (List.length x5) a2)
 (Option.bind x5[(Int.toNat a2)]? fun x6 =>
 (Option.bind (spec_IsKeymap (r4.1.1, (List.set r4.1.2.1 (Int.toNat a1) (List.set x5 (Int.toNat a2) a3)), ())) fun r7 =>
 (cond (!r7.1)
 (some (((0 : Int), ([] : List (List TAction)), ()), false, ()))
 (some ((r4.1.1, (List.set r4.1.2.1 (Int.toNat a1) (List.set x5 (Int.toNat a2) a3)), ()), true, ())))))
 none))
 none))))))))

noncomputable def spec_AnswerPacket (a0 : TKeymap) (a1 : (List Int)) : Option (TKeymap × ((List Int) × Unit)) :=
 (Option.bind (spec_l6Copy a0) fun r1 =>
 (Option.bind (spec_IsKeymap a0) fun r2 =>
 (cond (!r2.1)
 (Option.bind (spec_SealPacket ([(255 : Int), (1 : Int)] : List Int)) fun r3 =>
 (some (r1.1, r3.1, ())))
 (Option.bind (spec_IsPacket a1) fun r4 =>
 (cond (!r4.1)
 (Option.bind (spec_SealPacket ([(255 : Int), (1 : Int)] : List Int)) fun r5 =>
 (some (r1.1, r5.1, ())))
 (Option.bind (idx a1 (1 : Int)) fun x6 =>
 (Option.bind (idx a1 (2 : Int)) fun x7 =>
 (cond (decide ((Go.IntKind.wrap .i64 x6) < ((List.length a0.2.1 : Nat) : Int)))
 (Option.bind (idx a1 (0 : Int)) fun x8 =>
 (cond (x8 == (1 : Int))
 (Option.bind (spec_SealPacket ([(1 : Int), (Go.IntKind.wrap .u8 a0.1), (Go.IntKind.wrap .u8 ((List.length a0.2.1 : Nat) : Int))] : List Int)) fun r9 =>
 (some (r1.1, r9.1, ())))
 (cond (x8 == (2 : Int))
 (cond (decide ((Go.IntKind.wrap .i64 x7) < a0.1))
 (Option.bind (idx a1 (1 : Int)) fun x10 =>
 (Option.bind (idx a1 (2 : Int)) fun x11 =>
 (Option.bind (idx a0.2.1 (Go.IntKind.wrap .i64 x6)) fun x12 =>
 (Option.bind (idx x12 (Go.IntKind.wrap .i64 x7)) fun x13 =>
 (Option.bind (spec_PackAction x13) fun r14 =>
 (cond (Nat.ble (List.length ([(2 : Int), x10, x11] : List Int) + List.length r14.1) lim)
 (Option.bind (spec_SealPacket (List.append ([(2 : Int), x10, x11] : List Int) r14.1)) fun r15 =>
 (some (r1.1, r15.1, ())))
 none))))))
 (Option.bind (spec_SealPacket ([(255 : Int), (3 : Int)] : List Int)) fun r16 =>
 (some (r1.1, r16.1, ()))))
 (cond (x8 == (3 : Int))
 (cond (cutOk (List.length a1) (3 : Int) (6 : Int))
 (Option.bind (spec_UnpackAction (cutl a1 (Int.toNat (3 : Int)) (Int.toNat (6 : Int)))) fun r17 =>
 (Option.bind (spec_SetAction a0 (Go.IntKind.wrap .i64 x6) (Go.IntKind.wrap .i64 x7) r17.1) fun r18 =>
 (cond r17.2.1
 (cond r18.2.1
 (cond (cutOk (List.length a1) (0 : Int) (6 : Int))
 (Option.bind (spec_SealPacket (cutl a1 (Int.toNat (0 : Int)) (Int.toNat (6 : Int)))) fun r19 =>
 (some (r18.1, r19.1, ())))
 none)
 (Option.bind (spec_SealPacket ([(255 : Int), (3 : Int)] : List Int)) fun r20 =>
 (some (r1.1, r20.1, ()))))
 (Option.bind (spec_SealPacket ([(255 : Int), (3 : Int)] : List Int)) fun r21 =>
 (some (r1.1, r21.1, ()))))))
 none)
 (Option.bind (spec_SealPacket ([(255 : Int), (2 : Int)] : List Int)) fun r22 =>
 (some (r1.1, r22.1, ())))))))
 (Option.bind (idx a1 (0 : Int)) fun x23 =>
 (cond (x23 == (1 : Int))
 (Option.bind (spec_SealPacket ([(1 : Int), (Go.IntKind.wrap .u8 a0.1), (Go.IntKind.wrap .u8 ((List.length a0.2.1 : Nat) : Int))] : List Int)) fun r24 =>
 (some (r1.1, r24.1, ())))
 (cond (x23 == (2 : Int))
 (Option.bind (spec_SealPacket ([(255 : Int), (3 : Int)] : List Int)) fun r25 =>
 (some (r1.1, r25.1, ())))
 (cond (x23 == (3 : Int))
 (cond (cutOk (List.length a1) (3 : Int) (6 : Int))
 (Option.bind (spec_UnpackAction (cutl a1 (Int.toNat (3 : Int)) (Int.toNat (6 : Int)))) fun r26 =>
 (Option.bind (spec_SetAction a0 (Go.IntKind.wrap .i64 x6) (Go.IntKind.wrap .i64 x7) r26.1) fun r27 =>
 (cond r26.2.1
 (cond r27.2.1
 (cond (cutOk (List.length a1) (0 : Int) (6 : Int))
 (Option.bind (spec_SealPacket (cutl a1 (Int.toNat (0 : Int)) (Int.toNat (6 : Int)))) fun r28 =>
 (some (r27.1, r28.1, ())))
 none)
 (Option.bind (spec_SealPacket ([(255 : Int), (3 : Int)] : List Int)) fun r29 =>
 (some (r1.1, r29.1, ()))))
 (Option.bind (spec_SealPacket ([(255 : Int), (3 : Int)] : List Int)) fun r30 =>
 (some (r1.1, r30.1, ()))))))
 none)
 (Option.bind (spec_SealPacket ([(255 : Int), (2 : Int)] : List Int)) fun r31 =>
 (some (r1.1, r31.1, ())))))))))))))))
end KF
