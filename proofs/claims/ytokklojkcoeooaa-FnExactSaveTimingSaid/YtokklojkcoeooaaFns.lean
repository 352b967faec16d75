/- The plain functions that the Go functions compute: definitions alone (no condition). -/
import Derived.Test.YtokklojkcoeooaaCb
namespace KF
open Go
set_option linter.unusedVariables false
abbrev int : Ty := .i .i64
abbrev byte : Ty := .i .u8
abbrev tAcceptRange : Ty := (.p byte (.p byte .u))
abbrev TAcceptRange : Type := (Int × (Int × Unit))
abbrev tCombo : Ty := (.p int (.p int .u))
abbrev TCombo : Type := (Int × (Int × Unit))
abbrev tReport : Ty := (.p int (.p (.sl int) .u))
abbrev TReport : Type := (Int × ((List Int) × Unit))
abbrev tEvent : Ty := (.p int (.p int (.p .b .u)))
abbrev TEvent : Type := (Int × (Int × (Bool × Unit)))
abbrev tStep : Ty := (.p int tCombo)
abbrev TStep : Type := (Int × TCombo)
abbrev tFlash : Ty := (.p (.sl (.sl int)) (.p (.sl int) .u))
abbrev TFlash : Type := ((List (List Int)) × ((List Int) × Unit))
abbrev tL1Cur : Ty := (.p (.sl byte) tCombo)
abbrev TL1Cur : Type := ((List Int) × TCombo)
abbrev tAction : Ty := (.p int tStep)
abbrev TAction : Type := (Int × TStep)
abbrev tFlashOp : Ty := (.p .b tStep)
abbrev TFlashOp : Type := (Bool × TStep)
abbrev tReceiver : Ty := (.p (.sl byte) tStep)
abbrev TReceiver : Type := ((List Int) × TStep)
abbrev tSent : Ty := (.p int (.p tReport .u))
abbrev TSent : Type := (Int × (TReport × Unit))
abbrev tTapped : Ty := (.p tEvent (.p .s .u))
abbrev TTapped : Type := (TEvent × ((List UInt8) × Unit))
abbrev tHeld : Ty := (.p int (.p tAction .u))
abbrev THeld : Type := (Int × (TAction × Unit))
abbrev tDebouncer : Ty := (.p int (.p int (.p int (.p int tReport))))
abbrev TDebouncer : Type := (Int × (Int × (Int × (Int × TReport))))
abbrev tKeymap : Ty := (.p int (.p (.sl (.sl tAction)) .u))
abbrev TKeymap : Type := (Int × ((List (List TAction)) × Unit))
abbrev tBoth : Ty := (.p tEvent (.p tEvent .u))
abbrev TBoth : Type := (TEvent × (TEvent × Unit))
abbrev tCombiner : Ty := (.p (.sl tCombo) (.p int (.p (.sl tEvent) (.p int (.p int (.p int (.p (.sl tEvent) .u)))))))
abbrev TCombiner : Type := ((List TCombo) × (Int × ((List TEvent) × (Int × (Int × (Int × ((List TEvent) × Unit)))))))
abbrev tEngine : Ty := (.p tKeymap (.p (.sl (.sl tStep)) (.p int (.p (.sl tHeld) (.p int (.p .b .u))))))
abbrev TEngine : Type := (TKeymap × ((List (List TStep)) × (Int × ((List THeld) × (Int × (Bool × Unit))))))
abbrev tDecider : Ty := (.p tEngine (.p tStep (.p (.sl tEvent) tAction)))
abbrev TDecider : Type := (TEngine × (TStep × ((List TEvent) × TAction)))
abbrev tSession : Ty := (.p tDecider (.p (.sl tSent) .u))
abbrev TSession : Type := (TDecider × ((List TSent) × Unit))
abbrev tL19Pair : Ty := (.p tEngine (.p tEngine (.p (.sl int) .u)))
abbrev TL19Pair : Type := (TEngine × (TEngine × ((List Int) × Unit)))
abbrev tBoard : Ty := (.p tEvent (.p tDebouncer (.p tCombiner (.p tDecider tCombo))))
abbrev TBoard : Type := (TEvent × (TDebouncer × (TCombiner × (TDecider × TCombo))))
abbrev tHalves : Ty := (.p tBoard (.p tReceiver (.p int .u)))
abbrev THalves : Type := (TBoard × (TReceiver × (Int × Unit)))
abbrev tMatrix : Ty := tEvent
abbrev TMatrix : Type := TEvent
abbrev tTiming : Ty := tStep
abbrev TTiming : Type := TStep
abbrev tMemory : Ty := tEvent
abbrev TMemory : Type := TEvent
abbrev tActive : Ty := tEvent
abbrev TActive : Type := TEvent
abbrev tPair : Ty := tCombo
abbrev TPair : Type := TCombo


noncomputable def spec_SealPacket_6_R (t0 : (List Int)) (t3 : (List Int)) (t4 : Int) (t5 : Int) : Option ((((List Int) × TL1Cur) × Unit) ⊕ ((((List Int) × (Int × Unit)) × Unit) ⊕ (Unit × Unit))) :=
 (cond (decide (t5 < ((List.length t0 : Nat) : Int)))
 (Option.bind (idx t0 t5) fun x7 =>
 (cond (inb (List.length t3) t5)
 (Option.bind t3[(Int.toNat t5)]? fun x8 =>
 (Option.bind (idx t0 t5) fun x9 =>
 (some (.inl ((t0, (List.set t3 (Int.toNat t5) x7), (Go.IntKind.wrap .i64 (t4 + (Go.IntKind.wrap .i64 ((Go.IntKind.wrap .i64 (t5 + (1 : Int))) * (Go.IntKind.wrap .i64 x9))))), (Go.IntKind.wrap .i64 (t5 + (1 : Int))), ()), ())))))
 none))
 (some (.inr (.inl ((t3, t4, ()), ())))))
noncomputable def spec_SealPacket_6_loop (x : (((List Int) × TL1Cur) × Unit)) : Option ((((List Int) × (Int × Unit)) × Unit) ⊕ (Unit × Unit)) := loopF (fun x : (((List Int) × TL1Cur) × Unit) => spec_SealPacket_6_R x.1.1 x.1.2.1 x.1.2.2.1 x.1.2.2.2.1) x
noncomputable def spec_SealPacket (a0 : (List Int)) : Option ((List Int) × Unit) :=
 (cond (decide (((List.length a0 : Nat) : Int) ≥ (8 : Int)))
 (some (([] : List Int), ()))
 (cond (((8 : Int) == (8 : Int)) && (decide ((0 : Int) ≤ (8 : Int)) && decide ((8 : Int) ≤ ((lim : Nat) : Int))))
 (Option.bind (spec_SealPacket_6_loop ((a0, (List.replicate (Int.toNat (8 : Int)) (0 : Int)), (90 : Int), (0 : Int), ()), ())) (Sum.elim (fun y10 => (cond ((256 : Int) == (0 : Int))
 none
 (cond (inb (List.length y10.1.1) (7 : Int))
 (Option.bind y10.1.1[(Int.toNat (7 : Int))]? fun x12 =>
 (some ((List.set y10.1.1 (Int.toNat (7 : Int)) (Go.IntKind.wrap .u8 (Int.tmod y10.1.2.1 (256 : Int)))), ())))
 none))) (fun z11 => none)))
 none))

noncomputable def spec_IsPacket (a0 : (List Int)) : Option (Bool × Unit) :=
 (cond (((List.length a0 : Nat) : Int) == (8 : Int))
 (cond (cutOk (List.length a0) (0 : Int) (7 : Int))
 (Option.bind (spec_SealPacket (cutl a0 (Int.toNat (0 : Int)) (Int.toNat (7 : Int)))) fun r1 =>
 (some (((strOf r1.1) == (strOf a0)), ())))
 none)
 (some (false, ())))

noncomputable def impl_SealPacket_7_R (t3 : (List Int)) (t4 : Int) (t14 : (List Int)) (t15 : Int) (t16 : Int) : Option ((((List Int) × (Int × TL1Cur)) × Unit) ⊕ ((((List Int) × (Int × Unit)) × Unit) ⊕ (Unit × Unit))) :=
 (cond (decide (t16 < t15))
 (Option.bind (idx t14 t16) fun x3 =>
 (some (.inl ((t3, (Go.IntKind.wrap .i64 (t4 + (Go.IntKind.wrap .i64 ((Go.IntKind.wrap .i64 x3) * (Go.IntKind.wrap .i64 (t16 + (1 : Int))))))), t14, t15, (Go.IntKind.wrap .i64 (t16 + (1 : Int))), ()), ()))))
 (some (.inr (.inl ((t3, t4, ()), ())))))
noncomputable def impl_SealPacket_7_loop (x : (((List Int) × (Int × TL1Cur)) × Unit)) : Option ((((List Int) × (Int × Unit)) × Unit) ⊕ (Unit × Unit)) := loopF (fun x : (((List Int) × (Int × TL1Cur)) × Unit) => impl_SealPacket_7_R x.1.1 x.1.2.1 x.1.2.2.1 x.1.2.2.2.1 x.1.2.2.2.2.1) x
noncomputable def impl_SealPacket (a0 : (List Int)) : Option ((List Int) × Unit) :=
 (cond (decide (((List.length a0 : Nat) : Int) ≥ (8 : Int)))
 (some (([] : List Int), ()))
 (cond (((8 : Int) == (8 : Int)) && (decide ((0 : Int) ≤ (8 : Int)) && decide ((8 : Int) ≤ ((lim : Nat) : Int))))
 (cond (Nat.ble (List.length a0) (List.length (List.replicate (Int.toNat (8 : Int)) (0 : Int))))
 (Option.bind (impl_SealPacket_7_loop (((List.append a0 (List.drop (List.length a0) (List.replicate (Int.toNat (8 : Int)) (0 : Int)))), (90 : Int), a0, ((List.length a0 : Nat) : Int), (0 : Int), ()), ())) (Sum.elim (fun y4 => (cond ((256 : Int) == (0 : Int))
 none
 (cond (inb (List.length y4.1.1) (7 : Int))
 (Option.bind y4.1.1[(Int.toNat (7 : Int))]? fun x6 =>
 (some ((List.set y4.1.1 (Int.toNat (7 : Int)) (Go.IntKind.wrap .u8 (Int.tmod y4.1.2.1 (256 : Int)))), ())))
 none))) (fun z5 => none)))
 none)
 none))

noncomputable def impl_IsPacket (a0 : (List Int)) : Option (Bool × Unit) :=
 (cond (((List.length a0 : Nat) : Int) == (8 : Int))
 (cond (cutOk (List.length a0) (0 : Int) (7 : Int))
 (Option.bind (impl_SealPacket (cutl a0 (Int.toNat (0 : Int)) (Int.toNat (7 : Int)))) fun r1 =>
 (some (((strOf r1.1) == (strOf a0)), ())))
 none)
 (some (false, ())))

noncomputable def spec_l1In (a0 : Int) (a1 : Int) (a2 : Int) : Option (Bool × Unit) :=
 (cond (decide (a0 ≥ a1))
 (some ((decide (a0 ≤ a2)), ()))
 (some (false, ())))

noncomputable def spec_ReadScript_6_R (t0 : Int) (t1 : Int) (t5 : (List (List Int))) (t6 : Int) (t7 : Int) : Option (((Int × (Int × ((List (List Int)) × TCombo))) × Unit) ⊕ (((Int × (Int × ((List (List Int)) × (Int × Unit)))) × Unit) ⊕ (Unit × Unit))) :=
 (cond (decide (t7 < t0))
 (Option.bind (spec_SealPacket ([(2 : Int), (Go.IntKind.wrap .u8 t6), (Go.IntKind.wrap .u8 t7)] : List Int)) fun r16 =>
 (cond (Nat.ble (List.length t5 + List.length ([r16.1] : List (List Int))) lim)
 (some (.inl ((t0, t1, (List.append t5 ([r16.1] : List (List Int))), t6, (Go.IntKind.wrap .i64 (t7 + (1 : Int))), ()), ())))
 none))
 (some (.inr (.inl ((t0, t1, t5, t6, ()), ())))))
noncomputable def spec_ReadScript_6_loop (x : ((Int × (Int × ((List (List Int)) × TCombo))) × Unit)) : Option (((Int × (Int × ((List (List Int)) × (Int × Unit)))) × Unit) ⊕ (Unit × Unit)) := loopF (fun x : ((Int × (Int × ((List (List Int)) × TCombo))) × Unit) => spec_ReadScript_6_R x.1.1 x.1.2.1 x.1.2.2.1 x.1.2.2.2.1 x.1.2.2.2.2.1) x
noncomputable def spec_ReadScript_3_R (t0 : Int) (t1 : Int) (t5 : (List (List Int))) (t6 : Int) : Option (((Int × (Int × ((List (List Int)) × (Int × Unit)))) × Unit) ⊕ ((((List (List Int)) × Unit) × Unit) ⊕ (Unit × Unit))) :=
 (cond (decide (t6 < t1))
 (Option.bind (spec_l1In t0 (1 : Int) (32 : Int)) fun r13 =>
 (cond r13.1
 (cond (decide (t1 ≤ (4 : Int)))
 (Option.bind (spec_ReadScript_6_loop ((t0, t1, t5, t6, (0 : Int), ()), ())) (Sum.elim (fun y17 => (some (.inl ((y17.1.1, y17.1.2.1, y17.1.2.2.1, (Go.IntKind.wrap .i64 (y17.1.2.2.2.1 + (1 : Int))), ()), ())))) (fun z18 => (some (.inr (.inr ((), ())))))))
 (some (.inr (.inl ((t5, ()), ())))))
 (some (.inr (.inl ((t5, ()), ()))))))
 (some (.inr (.inl ((t5, ()), ())))))
noncomputable def spec_ReadScript_3_loop (x : ((Int × (Int × ((List (List Int)) × (Int × Unit)))) × Unit)) : Option ((((List (List Int)) × Unit) × Unit) ⊕ (Unit × Unit)) := loopF (fun x : ((Int × (Int × ((List (List Int)) × (Int × Unit)))) × Unit) => spec_ReadScript_3_R x.1.1 x.1.2.1 x.1.2.2.1 x.1.2.2.2.1) x
noncomputable def spec_ReadScript (a0 : Int) (a1 : Int) : Option ((List (List Int)) × Unit) :=
 (Option.bind (spec_ReadScript_3_loop ((a0, a1, ([] : List (List Int)), (0 : Int), ()), ())) (Sum.elim (fun y19 => (some (y19.1.1, ()))) (fun z20 => none)))

noncomputable def impl_ReadScript_8_R (t0 : Int) (t5 : (List (List Int))) (t6 : Int) (t22 : Int) (t23 : Int) (t26 : Int) (t27 : Int) : Option (((Int × ((List (List Int)) × (Int × TAction))) × Unit) ⊕ (((Int × ((List (List Int)) × TCombo)) × Unit) ⊕ (Unit × Unit))) :=
 (cond (decide (t27 < t26))
 (Option.bind (impl_SealPacket ([(2 : Int), (Go.IntKind.wrap .u8 t6), (Go.IntKind.wrap .u8 t27)] : List Int)) fun r19 =>
 (cond (Nat.ble (List.length t5 + List.length ([r19.1] : List (List Int))) lim)
 (some (.inl ((t0, (List.append t5 ([r19.1] : List (List Int))), t6, t22, t23, t26, (Go.IntKind.wrap .i64 (t27 + (1 : Int))), ()), ())))
 none))
 (some (.inr (.inl ((t0, t5, t22, t23, ()), ())))))
noncomputable def impl_ReadScript_8_loop (x : ((Int × ((List (List Int)) × (Int × TAction))) × Unit)) : Option (((Int × ((List (List Int)) × TCombo)) × Unit) ⊕ (Unit × Unit)) := loopF (fun x : ((Int × ((List (List Int)) × (Int × TAction))) × Unit) => impl_ReadScript_8_R x.1.1 x.1.2.1 x.1.2.2.1 x.1.2.2.2.1 x.1.2.2.2.2.1 x.1.2.2.2.2.2.1 x.1.2.2.2.2.2.2.1) x
noncomputable def impl_ReadScript_5_R (t0 : Int) (t5 : (List (List Int))) (t22 : Int) (t23 : Int) : Option (((Int × ((List (List Int)) × TCombo)) × Unit) ⊕ ((((List (List Int)) × Unit) × Unit) ⊕ (Unit × Unit))) :=
 (cond (decide (t23 < t22))
 (Option.bind (impl_ReadScript_8_loop ((t0, t5, t23, t22, t23, t0, (0 : Int), ()), ())) (Sum.elim (fun y20 => (some (.inl ((y20.1.1, y20.1.2.1, y20.1.2.2.1, (Go.IntKind.wrap .i64 (y20.1.2.2.2.1 + (1 : Int))), ()), ())))) (fun z21 => (some (.inr (.inr ((), ())))))))
 (some (.inr (.inl ((t5, ()), ())))))
noncomputable def impl_ReadScript_5_loop (x : ((Int × ((List (List Int)) × TCombo)) × Unit)) : Option ((((List (List Int)) × Unit) × Unit) ⊕ (Unit × Unit)) := loopF (fun x : ((Int × ((List (List Int)) × TCombo)) × Unit) => impl_ReadScript_5_R x.1.1 x.1.2.1 x.1.2.2.1 x.1.2.2.2.1) x
noncomputable def impl_ReadScript (a0 : Int) (a1 : Int) : Option ((List (List Int)) × Unit) :=
 (cond (decide (a0 < (1 : Int)))
 (some (([] : List (List Int)), ()))
 (cond (decide (a0 > (32 : Int)))
 (some (([] : List (List Int)), ()))
 (cond (decide (a1 < (1 : Int)))
 (some (([] : List (List Int)), ()))
 (cond (decide (a1 > (4 : Int)))
 (some (([] : List (List Int)), ()))
 (Option.bind (impl_ReadScript_5_loop ((a0, ([] : List (List Int)), a1, (0 : Int), ()), ())) (Sum.elim (fun y22 => (some (y22.1.1, ()))) (fun z23 => none)))))))

noncomputable def laws_szIntS (a0 : (List Int)) (a1 : Int) : Option (Int × Unit) :=
 (cond (decide ((Go.IntKind.wrap .i64 (a1 - ((List.length a0 : Nat) : Int))) < (0 : Int)))
 (some ((-1 : Int), ()))
 (some ((Go.IntKind.wrap .i64 (a1 - ((List.length a0 : Nat) : Int))), ())))

noncomputable def laws_toIntS_3_R (t0 : (List Int)) (t3 : (List Int)) (t4 : Int) : Option ((((List Int) × ((List Int) × (Int × Unit))) × Unit) ⊕ ((((List Int) × Unit) × Unit) ⊕ (Unit × Unit))) :=
 (cond (decide (t4 < ((List.length t0 : Nat) : Int)))
 (Option.bind (idx t0 t4) fun x5 =>
 (cond (inb (List.length t3) t4)
 (Option.bind t3[(Int.toNat t4)]? fun x6 =>
 (some (.inl ((t0, (List.set t3 (Int.toNat t4) x5), (Go.IntKind.wrap .i64 (t4 + (1 : Int))), ()), ()))))
 none))
 (some (.inr (.inl ((t3, ()), ())))))
noncomputable def laws_toIntS_3_loop (x : (((List Int) × ((List Int) × (Int × Unit))) × Unit)) : Option ((((List Int) × Unit) × Unit) ⊕ (Unit × Unit)) := loopF (fun x : (((List Int) × ((List Int) × (Int × Unit))) × Unit) => laws_toIntS_3_R x.1.1 x.1.2.1 x.1.2.2.1) x
noncomputable def laws_toIntS (a0 : (List Int)) : Option ((List Int) × Unit) :=
 (cond ((((List.length a0 : Nat) : Int) == ((List.length a0 : Nat) : Int)) && (decide ((0 : Int) ≤ ((List.length a0 : Nat) : Int)) && decide (((List.length a0 : Nat) : Int) ≤ ((lim : Nat) : Int))))
 (Option.bind (laws_toIntS_3_loop ((a0, (List.replicate (Int.toNat ((List.length a0 : Nat) : Int)) (0 : Int)), (0 : Int), ()), ())) (Sum.elim (fun y7 => (some (y7.1.1, ()))) (fun z8 => none)))
 none)

noncomputable def spec_l7Copy (a0 : TReport) : Option (TReport × Unit) :=
 (cond (Nat.ble (List.length ([] : List Int) + List.length a0.2.1) lim)
 (some ((a0.1, (List.append ([] : List Int) a0.2.1), ()), ()))
 none)

noncomputable def spec_ReportsOf_3_R (t0 : (List TSent)) (t3 : (List TReport)) (t4 : Int) : Option ((((List TSent) × ((List TReport) × (Int × Unit))) × Unit) ⊕ ((((List TReport) × Unit) × Unit) ⊕ (Unit × Unit))) :=
 (cond (decide (t4 < ((List.length t0 : Nat) : Int)))
 (Option.bind (idx t0 t4) fun x5 =>
 (Option.bind (spec_l7Copy x5.2.1) fun r6 =>
 (cond (Nat.ble (List.length t3 + List.length ([r6.1] : List TReport)) lim)
 (some (.inl ((t0, (List.append t3 ([r6.1] : List TReport)), (Go.IntKind.wrap .i64 (t4 + (1 : Int))), ()), ())))
 none)))
 (some (.inr (.inl ((t3, ()), ())))))
noncomputable def spec_ReportsOf_3_loop (x : (((List TSent) × ((List TReport) × (Int × Unit))) × Unit)) : Option ((((List TReport) × Unit) × Unit) ⊕ (Unit × Unit)) := loopF (fun x : (((List TSent) × ((List TReport) × (Int × Unit))) × Unit) => spec_ReportsOf_3_R x.1.1 x.1.2.1 x.1.2.2.1) x
noncomputable def spec_ReportsOf (a0 : (List TSent)) : Option ((List TReport) × Unit) :=
 (Option.bind (spec_ReportsOf_3_loop ((a0, ([] : List TReport), (0 : Int), ()), ())) (Sum.elim (fun y7 => (some (y7.1.1, ()))) (fun z8 => none)))

noncomputable def impl_copyInts (a0 : (List Int)) : Option ((List Int) × Unit) :=
 (cond (Nat.ble (List.length ([] : List Int) + List.length a0) lim)
 (some ((List.append ([] : List Int) a0), ()))
 none)

noncomputable def impl_copyReport (a0 : TReport) : Option (TReport × Unit) :=
 (Option.bind (impl_copyInts a0.2.1) fun r1 =>
 (some ((a0.1, r1.1, ()), ())))

noncomputable def impl_ReportsOf_3_R (t3 : (List TReport)) (t6 : (List TSent)) (t7 : Int) (t8 : Int) : Option ((((List TReport) × ((List TSent) × TCombo)) × Unit) ⊕ ((((List TReport) × Unit) × Unit) ⊕ (Unit × Unit))) :=
 (cond (decide (t8 < t7))
 (Option.bind (idx t6 t8) fun x7 =>
 (Option.bind (impl_copyReport x7.2.1) fun r8 =>
 (cond (Nat.ble (List.length t3 + List.length ([r8.1] : List TReport)) lim)
 (some (.inl (((List.append t3 ([r8.1] : List TReport)), t6, t7, (Go.IntKind.wrap .i64 (t8 + (1 : Int))), ()), ())))
 none)))
 (some (.inr (.inl ((t3, ()), ())))))
noncomputable def impl_ReportsOf_3_loop (x : (((List TReport) × ((List TSent) × TCombo)) × Unit)) : Option ((((List TReport) × Unit) × Unit) ⊕ (Unit × Unit)) := loopF (fun x : (((List TReport) × ((List TSent) × TCombo)) × Unit) => impl_ReportsOf_3_R x.1.1 x.1.2.1 x.1.2.2.1 x.1.2.2.2.1) x
noncomputable def impl_ReportsOf (a0 : (List TSent)) : Option ((List TReport) × Unit) :=
 (Option.bind (impl_ReportsOf_3_loop ((([] : List TReport), a0, ((List.length a0 : Nat) : Int), (0 : Int), ()), ())) (Sum.elim (fun y9 => (some (y9.1.1, ()))) (fun z10 => none)))

noncomputable def laws_eqIntS_4_R (t0 : (List Int)) (t1 : (List Int)) (t5 : Int) : Option ((((List Int) × ((List Int) × (Int × Unit))) × Unit) ⊕ ((Unit × Unit) ⊕ ((Bool × Unit) × Unit))) :=
 (cond (decide (t5 < ((List.length t0 : Nat) : Int)))
 (Option.bind (idx t0 t5) fun x5 =>
 (Option.bind (idx t1 t5) fun x6 =>
 (cond (x5 != x6)
 (some (.inr (.inr ((false, ()), ()))))
 (some (.inl ((t0, t1, (Go.IntKind.wrap .i64 (t5 + (1 : Int))), ()), ()))))))
 (some (.inr (.inl ((), ())))))
noncomputable def laws_eqIntS_4_loop (x : (((List Int) × ((List Int) × (Int × Unit))) × Unit)) : Option ((Unit × Unit) ⊕ ((Bool × Unit) × Unit)) := loopF (fun x : (((List Int) × ((List Int) × (Int × Unit))) × Unit) => laws_eqIntS_4_R x.1.1 x.1.2.1 x.1.2.2.1) x
noncomputable def laws_eqIntS (a0 : (List Int)) (a1 : (List Int)) : Option (Bool × Unit) :=
 (cond (((List.length a0 : Nat) : Int) != ((List.length a1 : Nat) : Int))
 (some (false, ()))
 (Option.bind (laws_eqIntS_4_loop ((a0, a1, (0 : Int), ()), ())) (Sum.elim (fun y7 => (some (true, ()))) (fun z8 => (some (z8.1.1, ()))))))

noncomputable def laws_markIntS_2_R (t0 : (List Int)) (t1 : Int) (t5 : Int) : Option ((((List Int) × TCombo) × Unit) ⊕ ((((List Int) × (Int × Unit)) × Unit) ⊕ (Unit × Unit))) :=
 (cond (decide (t5 < ((List.length t0 : Nat) : Int)))
 (cond (inb (List.length t0) t5)
 (Option.bind t0[(Int.toNat t5)]? fun x3 =>
 (some (.inl (((List.set t0 (Int.toNat t5) t1), (Go.IntKind.wrap .i64 (t1 + (1 : Int))), (Go.IntKind.wrap .i64 (t5 + (1 : Int))), ()), ()))))
 none)
 (some (.inr (.inl ((t0, t1, ()), ())))))
noncomputable def laws_markIntS_2_loop (x : (((List Int) × TCombo) × Unit)) : Option ((((List Int) × (Int × Unit)) × Unit) ⊕ (Unit × Unit)) := loopF (fun x : (((List Int) × TCombo) × Unit) => laws_markIntS_2_R x.1.1 x.1.2.1 x.1.2.2.1) x
noncomputable def laws_markIntS (a0 : (List Int)) (a1 : Int) : Option ((List Int) × (Int × Unit)) :=
 (Option.bind (laws_markIntS_2_loop ((a0, a1, (0 : Int), ()), ())) (Sum.elim (fun y4 => (some (y4.1.1, (y4.1.2.1, ())))) (fun z5 => none)))

noncomputable def laws_heldIntS_2_R (t0 : (List Int)) (t1 : Int) (t5 : Int) : Option ((((List Int) × TCombo) × Unit) ⊕ (((Int × Unit) × Unit) ⊕ ((Int × Unit) × Unit))) :=
 (cond (decide (t5 < ((List.length t0 : Nat) : Int)))
 (Option.bind (idx t0 t5) fun x3 =>
 (cond (x3 != t1)
 (some (.inr (.inr (((-1 : Int), ()), ()))))
 (some (.inl ((t0, (Go.IntKind.wrap .i64 (t1 + (1 : Int))), (Go.IntKind.wrap .i64 (t5 + (1 : Int))), ()), ())))))
 (some (.inr (.inl ((t1, ()), ())))))
noncomputable def laws_heldIntS_2_loop (x : (((List Int) × TCombo) × Unit)) : Option (((Int × Unit) × Unit) ⊕ ((Int × Unit) × Unit)) := loopF (fun x : (((List Int) × TCombo) × Unit) => laws_heldIntS_2_R x.1.1 x.1.2.1 x.1.2.2.1) x
noncomputable def laws_heldIntS (a0 : (List Int)) (a1 : Int) : Option (Int × Unit) :=
 (Option.bind (laws_heldIntS_2_loop ((a0, a1, (0 : Int), ()), ())) (Sum.elim (fun y4 => (some (y4.1.1, ()))) (fun z5 => (some (z5.1.1, ())))))

noncomputable def spec_IsAction (a0 : TAction) : Option (Bool × Unit) :=
 (Option.bind (spec_l1In a0.2.1 (1 : Int) (56 : Int)) fun r1 =>
 (Option.bind (spec_l1In a0.2.2.1 (1 : Int) (15 : Int)) fun r2 =>
 (Option.bind (spec_l1In a0.2.2.2.1 (1 : Int) (3 : Int)) fun r3 =>
 (cond (a0.1 == (0 : Int))
 (cond (a0.2.1 == (0 : Int))
 (cond (a0.2.2.1 == (0 : Int))
 (some ((a0.2.2.2.1 == (0 : Int)), ()))
 (some (false, ())))
 (some (false, ())))
 (cond (a0.1 == (1 : Int))
 (cond (a0.2.1 == (0 : Int))
 (cond (a0.2.2.1 == (0 : Int))
 (some ((a0.2.2.2.1 == (0 : Int)), ()))
 (some (false, ())))
 (some (false, ())))
 (cond (a0.1 == (10 : Int))
 (cond (a0.2.1 == (0 : Int))
 (cond (a0.2.2.1 == (0 : Int))
 (some ((a0.2.2.2.1 == (0 : Int)), ()))
 (some (false, ())))
 (some (false, ())))
 (cond (a0.1 == (2 : Int))
 (cond (a0.2.2.2.1 == (0 : Int))
 (cond r1.1
 (cond r2.1
 (some (true, ()))
 (some ((a0.2.2.1 == (0 : Int)), ())))
 (cond (a0.2.1 == (0 : Int))
 (cond r2.1
 (cond r2.1
 (some (true, ()))
 (some ((a0.2.2.1 == (0 : Int)), ())))
 (some (false, ())))
 (some (false, ()))))
 (some (false, ())))
 (cond (a0.1 == (3 : Int))
 (cond r3.1
 (cond (a0.2.1 == (0 : Int))
 (some ((a0.2.2.1 == (0 : Int)), ()))
 (some (false, ())))
 (some (false, ())))
 (cond (a0.1 == (4 : Int))
 (cond r3.1
 (cond (a0.2.1 == (0 : Int))
 (some ((a0.2.2.1 == (0 : Int)), ()))
 (some (false, ())))
 (some (false, ())))
 (cond (a0.1 == (5 : Int))
 (Option.bind (spec_l1In a0.2.2.2.1 (0 : Int) (3 : Int)) fun r4 =>
 (cond r4.1
 (cond (a0.2.1 == (0 : Int))
 (some ((a0.2.2.1 == (0 : Int)), ()))
 (some (false, ())))
 (some (false, ()))))
 (cond (a0.1 == (9 : Int))
 (Option.bind (spec_l1In a0.2.2.2.1 (0 : Int) (3 : Int)) fun r5 =>
 (cond r5.1
 (cond (a0.2.1 == (0 : Int))
 (some ((a0.2.2.1 == (0 : Int)), ()))
 (some (false, ())))
 (some (false, ()))))
 (cond (a0.1 == (6 : Int))
 (cond r1.1
 (cond r2.1
 (some ((a0.2.2.2.1 == (0 : Int)), ()))
 (some (false, ())))
 (some (false, ())))
 (cond (a0.1 == (7 : Int))
 (cond r1.1
 (cond r3.1
 (some ((a0.2.2.1 == (0 : Int)), ()))
 (some (false, ())))
 (some (false, ())))
 (cond (a0.1 == (8 : Int))
 (cond r2.1
 (cond (a0.2.1 == (0 : Int))
 (some ((a0.2.2.2.1 == (0 : Int)), ()))
 (some (false, ())))
 (some (false, ())))
 (some (false, ()))))))))))))))))

noncomputable def spec_IsKeymap_7_R (t1 : Unit) (t3 : Int) (t4 : Int) (b1 : TKeymap) : Option (((Unit × TCombo) × (TKeymap × Unit)) ⊕ (((Unit × (Int × Unit)) × (TKeymap × Unit)) ⊕ ((Bool × Unit) × Unit))) :=
 (Option.bind (idx b1.2.1 t3) fun x40 =>
 (cond (decide (t4 < ((List.length x40 : Nat) : Int)))
 (Option.bind (idx b1.2.1 t3) fun x41 =>
 (Option.bind (idx x41 t4) fun x42 =>
 (Option.bind (spec_IsAction x42) fun r43 =>
 (cond (!r43.1)
 (some (.inr (.inr ((false, ()), ()))))
 (cond (x42.1 == (1 : Int))
 (cond (t3 == (0 : Int))
 (some (.inr (.inr ((false, ()), ()))))
 (cond (x42.1 != (9 : Int))
 (cond (decide (x42.2.2.2.1 ≥ ((List.length b1.2.1 : Nat) : Int)))
 (some (.inr (.inr ((false, ()), ()))))
 (some (.inl (((), t3, (Go.IntKind.wrap .i64 (t4 + (1 : Int))), ()), (b1, ())))))
 (some (.inl (((), t3, (Go.IntKind.wrap .i64 (t4 + (1 : Int))), ()), (b1, ()))))))
 (cond (x42.1 != (9 : Int))
 (cond (decide (x42.2.2.2.1 ≥ ((List.length b1.2.1 : Nat) : Int)))
 (some (.inr (.inr ((false, ()), ()))))
 (some (.inl (((), t3, (Go.IntKind.wrap .i64 (t4 + (1 : Int))), ()), (b1, ())))))
 (some (.inl (((), t3, (Go.IntKind.wrap .i64 (t4 + (1 : Int))), ()), (b1, ()))))))))))
 (some (.inr (.inl (((), t3, ()), (b1, ())))))))
noncomputable def spec_IsKeymap_7_loop (x : ((Unit × TCombo) × (TKeymap × Unit))) : Option (((Unit × (Int × Unit)) × (TKeymap × Unit)) ⊕ ((Bool × Unit) × Unit)) := loopF (fun x : ((Unit × TCombo) × (TKeymap × Unit)) => spec_IsKeymap_7_R x.1.1 x.1.2.1 x.1.2.2.1 x.2.1) x
noncomputable def spec_IsKeymap_2_R (t1 : Unit) (t3 : Int) (b1 : TKeymap) : Option (((Unit × (Int × Unit)) × (TKeymap × Unit)) ⊕ (((Unit × Unit) × (TKeymap × Unit)) ⊕ ((Bool × Unit) × Unit))) :=
 (cond (decide (t3 < ((List.length b1.2.1 : Nat) : Int)))
 (Option.bind (idx b1.2.1 t3) fun x31 =>
 (cond (((List.length x31 : Nat) : Int) != b1.1)
 (some (.inr (.inr ((false, ()), ()))))
 (Option.bind (spec_IsKeymap_7_loop (((), t3, (0 : Int), ()), (b1, ()))) (Sum.elim (fun y44 => (some (.inl (((), (Go.IntKind.wrap .i64 (y44.1.2.1 + (1 : Int))), ()), (y44.2.1, ()))))) (fun z45 => (some (.inr (.inr ((z45.1.1, ()), ())))))))))
 (some (.inr (.inl (((), ()), (b1, ()))))))
noncomputable def spec_IsKeymap_2_loop (x : ((Unit × (Int × Unit)) × (TKeymap × Unit))) : Option (((Unit × Unit) × (TKeymap × Unit)) ⊕ ((Bool × Unit) × Unit)) := loopF (fun x : ((Unit × (Int × Unit)) × (TKeymap × Unit)) => spec_IsKeymap_2_R x.1.1 x.1.2.1 x.2.1) x
noncomputable def spec_IsKeymap (a0 : TKeymap) : Option (Bool × Unit) :=
 (Option.bind (spec_IsKeymap_2_loop (((), (0 : Int), ()), (a0, ()))) (Sum.elim (fun y46 => (Option.bind (spec_l1In y46.2.1.1 (1 : Int) (32 : Int)) fun r48 =>
 (cond r48.1
 (Option.bind (spec_l1In ((List.length y46.2.1.2.1 : Nat) : Int) (1 : Int) (4 : Int)) fun r49 =>
 (some (r49.1, ())))
 (some (false, ()))))) (fun z47 => (some (z47.1.1, ())))))

noncomputable def spec_IsFixed (a0 : TKeymap) (a1 : Int) : Option (Bool × Unit) :=
 (Option.bind (spec_IsKeymap a0) fun r1 =>
 (cond r1.1
 (cond (decide ((0 : Int) ≤ ((List.length a0.2.1 : Nat) : Int)))
 (Option.bind (spec_l1In a1 (0 : Int) (Go.IntKind.wrap .i64 ((ishl .i64 (1 : Int) ((List.length a0.2.1 : Nat) : Int)) - (1 : Int)))) fun r2 =>
 (cond r2.1
 (cond ((2 : Int) == (0 : Int))
 none
 (some (((Int.tmod a1 (2 : Int)) == (0 : Int)), ())))
 (some (false, ()))))
 none)
 (some (false, ()))))

noncomputable def impl_isCode (a0 : Int) : Option (Bool × Unit) :=
 (cond (decide (a0 ≥ (1 : Int)))
 (some ((decide (a0 ≤ (56 : Int))), ()))
 (some (false, ())))

noncomputable def impl_isMods (a0 : Int) : Option (Bool × Unit) :=
 (cond (decide (a0 ≥ (1 : Int)))
 (some ((decide (a0 ≤ (15 : Int))), ()))
 (some (false, ())))

noncomputable def impl_isUpper (a0 : Int) : Option (Bool × Unit) :=
 (cond (decide (a0 ≥ (1 : Int)))
 (some ((decide (a0 ≤ (3 : Int))), ()))
 (some (false, ())))

noncomputable def impl_IsAction (a0 : TAction) : Option (Bool × Unit) :=
 (cond (a0.1 == (0 : Int))
 (cond (a0.2.1 == (0 : Int))
 (cond (a0.2.2.1 == (0 : Int))
 (some ((a0.2.2.2.1 == (0 : Int)), ()))
 (some (false, ())))
 (some (false, ())))
 (cond (a0.1 == (1 : Int))
 (cond (a0.2.1 == (0 : Int))
 (cond (a0.2.2.1 == (0 : Int))
 (some ((a0.2.2.2.1 == (0 : Int)), ()))
 (some (false, ())))
 (some (false, ())))
 (cond (a0.1 == (10 : Int))
 (cond (a0.2.1 == (0 : Int))
 (cond (a0.2.2.1 == (0 : Int))
 (some ((a0.2.2.2.1 == (0 : Int)), ()))
 (some (false, ())))
 (some (false, ())))
 (cond (a0.1 == (2 : Int))
 (cond (a0.2.2.2.1 == (0 : Int))
 (cond (a0.2.1 == (0 : Int))
 (cond (a0.2.2.1 == (0 : Int))
 (cond (a0.2.1 != (0 : Int))
 (some (true, ()))
 (some ((a0.2.2.1 != (0 : Int)), ())))
 (Option.bind (impl_isMods a0.2.2.1) fun r1 =>
 (cond r1.1
 (cond (a0.2.1 != (0 : Int))
 (some (true, ()))
 (some ((a0.2.2.1 != (0 : Int)), ())))
 (some (false, ())))))
 (Option.bind (impl_isCode a0.2.1) fun r2 =>
 (cond r2.1
 (cond (a0.2.2.1 == (0 : Int))
 (cond (a0.2.1 != (0 : Int))
 (some (true, ()))
 (some ((a0.2.2.1 != (0 : Int)), ())))
 (Option.bind (impl_isMods a0.2.2.1) fun r3 =>
 (cond r3.1
 (cond (a0.2.1 != (0 : Int))
 (some (true, ()))
 (some ((a0.2.2.1 != (0 : Int)), ())))
 (some (false, ())))))
 (some (false, ())))))
 (some (false, ())))
 (cond (a0.1 == (3 : Int))
 (cond (a0.2.1 == (0 : Int))
 (cond (a0.2.2.1 == (0 : Int))
 (Option.bind (impl_isUpper a0.2.2.2.1) fun r4 =>
 (some (r4.1, ())))
 (some (false, ())))
 (some (false, ())))
 (cond (a0.1 == (4 : Int))
 (cond (a0.2.1 == (0 : Int))
 (cond (a0.2.2.1 == (0 : Int))
 (Option.bind (impl_isUpper a0.2.2.2.1) fun r5 =>
 (some (r5.1, ())))
 (some (false, ())))
 (some (false, ())))
 (cond (a0.1 == (5 : Int))
 (cond (a0.2.1 == (0 : Int))
 (cond (a0.2.2.1 == (0 : Int))
 (cond (decide (a0.2.2.2.1 ≥ (0 : Int)))
 (some ((decide (a0.2.2.2.1 ≤ (3 : Int))), ()))
 (some (false, ())))
 (some (false, ())))
 (some (false, ())))
 (cond (a0.1 == (9 : Int))
 (cond (a0.2.1 == (0 : Int))
 (cond (a0.2.2.1 == (0 : Int))
 (cond (decide (a0.2.2.2.1 ≥ (0 : Int)))
 (some ((decide (a0.2.2.2.1 ≤ (3 : Int))), ()))
 (some (false, ())))
 (some (false, ())))
 (some (false, ())))
 (cond (a0.1 == (6 : Int))
 (Option.bind (impl_isCode a0.2.1) fun r6 =>
 (cond r6.1
 (Option.bind (impl_isMods a0.2.2.1) fun r7 =>
 (cond r7.1
 (some ((a0.2.2.2.1 == (0 : Int)), ()))
 (some (false, ()))))
 (some (false, ()))))
 (cond (a0.1 == (7 : Int))
 (Option.bind (impl_isCode a0.2.1) fun r8 =>
 (cond r8.1
 (cond (a0.2.2.1 == (0 : Int))
 (Option.bind (impl_isUpper a0.2.2.2.1) fun r9 =>
 (some (r9.1, ())))
 (some (false, ())))
 (some (false, ()))))
 (cond (a0.1 == (8 : Int))
 (cond (a0.2.1 == (0 : Int))
 (Option.bind (impl_isMods a0.2.2.1) fun r10 =>
 (cond r10.1
 (some ((a0.2.2.2.1 == (0 : Int)), ()))
 (some (false, ()))))
 (some (false, ())))
 (some (false, ())))))))))))))

noncomputable def impl_IsKeymap_9_R (t1 : Unit) (t3 : Int) (t28 : (List (List TAction))) (t29 : Int) (t30 : Int) (t40 : (List TAction)) (t41 : Int) (t42 : Int) (b1 : TKeymap) : Option (((Unit × (Int × ((List (List TAction)) × (Int × (Int × ((List TAction) × TCombo)))))) × (TKeymap × Unit)) ⊕ (((Unit × ((List (List TAction)) × TCombo)) × (TKeymap × Unit)) ⊕ ((Bool × Unit) × Unit))) :=
 (cond (decide (t42 < t41))
 (Option.bind (idx t40 t42) fun x24 =>
 (Option.bind (impl_IsAction x24) fun r25 =>
 (cond (!r25.1)
 (some (.inr (.inr ((false, ()), ()))))
 (cond (t3 == (0 : Int))
 (cond (x24.1 == (1 : Int))
 (some (.inr (.inr ((false, ()), ()))))
 (cond (x24.1 != (9 : Int))
 (cond (decide (x24.2.2.2.1 ≥ ((List.length b1.2.1 : Nat) : Int)))
 (some (.inr (.inr ((false, ()), ()))))
 (some (.inl (((), t3, t28, t29, t30, t40, t41, (Go.IntKind.wrap .i64 (t42 + (1 : Int))), ()), (b1, ())))))
 (some (.inl (((), t3, t28, t29, t30, t40, t41, (Go.IntKind.wrap .i64 (t42 + (1 : Int))), ()), (b1, ()))))))
 (cond (x24.1 != (9 : Int))
 (cond (decide (x24.2.2.2.1 ≥ ((List.length b1.2.1 : Nat) : Int)))
 (some (.inr (.inr ((false, ()), ()))))
 (some (.inl (((), t3, t28, t29, t30, t40, t41, (Go.IntKind.wrap .i64 (t42 + (1 : Int))), ()), (b1, ())))))
 (some (.inl (((), t3, t28, t29, t30, t40, t41, (Go.IntKind.wrap .i64 (t42 + (1 : Int))), ()), (b1, ())))))))))
 (some (.inr (.inl (((), t28, t29, t30, ()), (b1, ()))))))
noncomputable def impl_IsKeymap_9_loop (x : ((Unit × (Int × ((List (List TAction)) × (Int × (Int × ((List TAction) × TCombo)))))) × (TKeymap × Unit))) : Option (((Unit × ((List (List TAction)) × TCombo)) × (TKeymap × Unit)) ⊕ ((Bool × Unit) × Unit)) := loopF (fun x : ((Unit × (Int × ((List (List TAction)) × (Int × (Int × ((List TAction) × TCombo)))))) × (TKeymap × Unit)) => impl_IsKeymap_9_R x.1.1 x.1.2.1 x.1.2.2.1 x.1.2.2.2.1 x.1.2.2.2.2.1 x.1.2.2.2.2.2.1 x.1.2.2.2.2.2.2.1 x.1.2.2.2.2.2.2.2.1 x.2.1) x
noncomputable def impl_IsKeymap_4_R (t1 : Unit) (t28 : (List (List TAction))) (t29 : Int) (t30 : Int) (b1 : TKeymap) : Option (((Unit × ((List (List TAction)) × TCombo)) × (TKeymap × Unit)) ⊕ ((Unit × Unit) ⊕ ((Bool × Unit) × Unit))) :=
 (cond (decide (t30 < t29))
 (Option.bind (idx t28 t30) fun x19 =>
 (cond (((List.length x19 : Nat) : Int) != b1.1)
 (some (.inr (.inr ((false, ()), ()))))
 (Option.bind (impl_IsKeymap_9_loop (((), t30, t28, t29, t30, x19, ((List.length x19 : Nat) : Int), (0 : Int), ()), (b1, ()))) (Sum.elim (fun y26 => (some (.inl (((), y26.1.2.1, y26.1.2.2.1, (Go.IntKind.wrap .i64 (y26.1.2.2.2.1 + (1 : Int))), ()), (y26.2.1, ()))))) (fun z27 => (some (.inr (.inr ((z27.1.1, ()), ())))))))))
 (some (.inr (.inl ((), ())))))
noncomputable def impl_IsKeymap_4_loop (x : ((Unit × ((List (List TAction)) × TCombo)) × (TKeymap × Unit))) : Option ((Unit × Unit) ⊕ ((Bool × Unit) × Unit)) := loopF (fun x : ((Unit × ((List (List TAction)) × TCombo)) × (TKeymap × Unit)) => impl_IsKeymap_4_R x.1.1 x.1.2.1 x.1.2.2.1 x.1.2.2.2.1 x.2.1) x
noncomputable def impl_IsKeymap (a0 : TKeymap) : Option (Bool × Unit) :=
 (cond (decide (a0.1 < (1 : Int)))
 (some (false, ()))
 (cond (decide (a0.1 > (32 : Int)))
 (some (false, ()))
 (cond (decide (((List.length a0.2.1 : Nat) : Int) < (1 : Int)))
 (some (false, ()))
 (cond (decide (((List.length a0.2.1 : Nat) : Int) > (4 : Int)))
 (some (false, ()))
 (Option.bind (impl_IsKeymap_4_loop (((), a0.2.1, ((List.length a0.2.1 : Nat) : Int), (0 : Int), ()), (a0, ()))) (Sum.elim (fun y28 => (some (true, ()))) (fun z29 => (some (z29.1.1, ())))))))))

noncomputable def impl_IsFixed (a0 : TKeymap) (a1 : Int) : Option (Bool × Unit) :=
 (Option.bind (impl_IsKeymap a0) fun r1 =>
 (cond r1.1
 (cond (decide (a1 ≥ (0 : Int)))
 (cond ((2 : Int) == (0 : Int))
 none
 (cond ((Int.tmod a1 (2 : Int)) == (0 : Int))
 (cond (decide ((0 : Int) ≤ ((List.length a0.2.1 : Nat) : Int)))
 (some ((decide (a1 < (ishl .i64 (1 : Int) ((List.length a0.2.1 : Nat) : Int)))), ()))
 none)
 (some (false, ()))))
 (some (false, ())))
 (some (false, ()))))

noncomputable def impl_IsTiming (a0 : TStep) : Option (Bool × Unit) :=
 (cond (decide (a0.1 ≥ (1 : Int)))
 (cond (decide (a0.1 ≤ (1000 : Int)))
 (cond (decide (a0.2.1 ≥ (0 : Int)))
 (cond (decide (a0.2.1 ≤ (1000 : Int)))
 (cond (decide (a0.2.2.1 ≥ (0 : Int)))
 (some ((decide (a0.2.2.1 ≤ (2 : Int))), ()))
 (some (false, ())))
 (some (false, ())))
 (some (false, ())))
 (some (false, ())))
 (some (false, ())))

noncomputable def laws_szIntSS_5_R (t0 : (List (List Int))) (t1 : Int) (t5 : Int) : Option ((((List (List Int)) × TCombo) × Unit) ⊕ (((Int × Unit) × Unit) ⊕ ((Int × Unit) × Unit))) :=
 (cond (decide (t5 < ((List.length t0 : Nat) : Int)))
 (Option.bind (idx t0 t5) fun x5 =>
 (Option.bind (laws_szIntS x5 t1) fun r6 =>
 (cond (decide (r6.1 < (0 : Int)))
 (some (.inr (.inr (((-1 : Int), ()), ()))))
 (some (.inl ((t0, r6.1, (Go.IntKind.wrap .i64 (t5 + (1 : Int))), ()), ()))))))
 (some (.inr (.inl ((t1, ()), ())))))
noncomputable def laws_szIntSS_5_loop (x : (((List (List Int)) × TCombo) × Unit)) : Option (((Int × Unit) × Unit) ⊕ ((Int × Unit) × Unit)) := loopF (fun x : (((List (List Int)) × TCombo) × Unit) => laws_szIntSS_5_R x.1.1 x.1.2.1 x.1.2.2.1) x
noncomputable def laws_szIntSS (a0 : (List (List Int))) (a1 : Int) : Option (Int × Unit) :=
 (cond (decide ((Go.IntKind.wrap .i64 (a1 - ((List.length a0 : Nat) : Int))) < (0 : Int)))
 (some ((-1 : Int), ()))
 (Option.bind (laws_szIntSS_5_loop ((a0, (Go.IntKind.wrap .i64 (a1 - ((List.length a0 : Nat) : Int))), (0 : Int), ()), ())) (Sum.elim (fun y7 => (some (y7.1.1, ()))) (fun z8 => (some (z8.1.1, ()))))))

noncomputable def laws_szFlash (a0 : TFlash) (a1 : Int) : Option (Int × Unit) :=
 (Option.bind (laws_szIntSS a0.1 a1) fun r1 =>
 (cond (decide (r1.1 < (0 : Int)))
 (some ((-1 : Int), ()))
 (Option.bind (laws_szIntS a0.2.1 r1.1) fun r2 =>
 (cond (decide (r2.1 < (0 : Int)))
 (some ((-1 : Int), ()))
 (some (r2.1, ()))))))

noncomputable def laws_toIntSS_3_R (t0 : (List (List Int))) (t3 : (List (List Int))) (t4 : Int) : Option ((((List (List Int)) × ((List (List Int)) × (Int × Unit))) × Unit) ⊕ ((((List (List Int)) × Unit) × Unit) ⊕ (Unit × Unit))) :=
 (cond (decide (t4 < ((List.length t0 : Nat) : Int)))
 (Option.bind (idx t0 t4) fun x7 =>
 (Option.bind (laws_toIntS x7) fun r8 =>
 (cond (inb (List.length t3) t4)
 (Option.bind t3[(Int.toNat t4)]? fun x9 =>
 (some (.inl ((t0, (List.set t3 (Int.toNat t4) r8.1), (Go.IntKind.wrap .i64 (t4 + (1 : Int))), ()), ()))))
 none)))
 (some (.inr (.inl ((t3, ()), ())))))
noncomputable def laws_toIntSS_3_loop (x : (((List (List Int)) × ((List (List Int)) × (Int × Unit))) × Unit)) : Option ((((List (List Int)) × Unit) × Unit) ⊕ (Unit × Unit)) := loopF (fun x : (((List (List Int)) × ((List (List Int)) × (Int × Unit))) × Unit) => laws_toIntSS_3_R x.1.1 x.1.2.1 x.1.2.2.1) x
noncomputable def laws_toIntSS (a0 : (List (List Int))) : Option ((List (List Int)) × Unit) :=
 (cond ((((List.length a0 : Nat) : Int) == ((List.length a0 : Nat) : Int)) && (decide ((0 : Int) ≤ ((List.length a0 : Nat) : Int)) && decide (((List.length a0 : Nat) : Int) ≤ ((lim : Nat) : Int))))
 (Option.bind (laws_toIntSS_3_loop ((a0, (List.replicate (Int.toNat ((List.length a0 : Nat) : Int)) ([] : List Int)), (0 : Int), ()), ())) (Sum.elim (fun y10 => (some (y10.1.1, ()))) (fun z11 => none)))
 none)

noncomputable def laws_toFlash (a0 : TFlash) : Option (TFlash × Unit) :=
 (Option.bind (laws_toIntSS a0.1) fun r1 =>
 (Option.bind (laws_toIntS a0.2.1) fun r2 =>
 (some ((r1.1, r2.1, ()), ()))))

noncomputable def spec_IsFlash_9_R (t1 : Unit) (t3 : Int) (t4 : Int) (b1 : TFlash) : Option (((Unit × TCombo) × (TFlash × Unit)) ⊕ (((Unit × (Int × Unit)) × (TFlash × Unit)) ⊕ ((Bool × Unit) × Unit))) :=
 (Option.bind (idx b1.1 t3) fun x46 =>
 (cond (decide (t4 < ((List.length x46 : Nat) : Int)))
 (Option.bind (idx b1.1 t3) fun x47 =>
 (Option.bind (idx x47 t4) fun x48 =>
 (Option.bind (spec_l1In x48 (0 : Int) (65535 : Int)) fun r49 =>
 (cond (!r49.1)
 (some (.inr (.inr ((false, ()), ()))))
 (some (.inl (((), t3, (Go.IntKind.wrap .i64 (t4 + (1 : Int))), ()), (b1, ()))))))))
 (some (.inr (.inl (((), t3, ()), (b1, ())))))))
noncomputable def spec_IsFlash_9_loop (x : ((Unit × TCombo) × (TFlash × Unit))) : Option (((Unit × (Int × Unit)) × (TFlash × Unit)) ⊕ ((Bool × Unit) × Unit)) := loopF (fun x : ((Unit × TCombo) × (TFlash × Unit)) => spec_IsFlash_9_R x.1.1 x.1.2.1 x.1.2.2.1 x.2.1) x
noncomputable def spec_IsFlash_4_R (t1 : Unit) (t3 : Int) (b1 : TFlash) : Option (((Unit × (Int × Unit)) × (TFlash × Unit)) ⊕ ((Unit × Unit) ⊕ ((Bool × Unit) × Unit))) :=
 (cond (decide (t3 < (2 : Int)))
 (Option.bind (idx b1.1 t3) fun x35 =>
 (cond (((List.length x35 : Nat) : Int) != (19 : Int))
 (some (.inr (.inr ((false, ()), ()))))
 (Option.bind (idx b1.2.1 t3) fun x36 =>
 (Option.bind (spec_l1In x36 (0 : Int) (1000 : Int)) fun r37 =>
 (cond (!r37.1)
 (some (.inr (.inr ((false, ()), ()))))
 (Option.bind (spec_IsFlash_9_loop (((), t3, (0 : Int), ()), (b1, ()))) (Sum.elim (fun y50 => (some (.inl (((), (Go.IntKind.wrap .i64 (y50.1.2.1 + (1 : Int))), ()), (y50.2.1, ()))))) (fun z51 => (some (.inr (.inr ((z51.1.1, ()), ()))))))))))))
 (some (.inr (.inl ((), ())))))
noncomputable def spec_IsFlash_4_loop (x : ((Unit × (Int × Unit)) × (TFlash × Unit))) : Option ((Unit × Unit) ⊕ ((Bool × Unit) × Unit)) := loopF (fun x : ((Unit × (Int × Unit)) × (TFlash × Unit)) => spec_IsFlash_4_R x.1.1 x.1.2.1 x.2.1) x
noncomputable def spec_IsFlash (a0 : TFlash) : Option (Bool × Unit) :=
 (cond (((List.length a0.1 : Nat) : Int) != (2 : Int))
 (some (false, ()))
 (cond (((List.length a0.2.1 : Nat) : Int) != (2 : Int))
 (some (false, ()))
 (Option.bind (spec_IsFlash_4_loop (((), (0 : Int), ()), (a0, ()))) (Sum.elim (fun y52 => (some (true, ()))) (fun z53 => (some (z53.1.1, ())))))))

noncomputable def spec_ActivePage_3_R (t1 : Unit) (t3 : Int) (t4 : Int) (b1 : TFlash) : Option (((Unit × TCombo) × (TFlash × Unit)) ⊕ (((Int × Unit) × Unit) ⊕ (Unit × Unit))) :=
 (cond (decide (t4 < (2 : Int)))
 (Option.bind (spec_IsFlash b1) fun r13 =>
 (cond r13.1
 (Option.bind (idx b1.1 t4) fun x14 =>
 (Option.bind (idx x14 (0 : Int)) fun x15 =>
 (Option.bind (spec_l1In x15 (1 : Int) (60000 : Int)) fun r16 =>
 (cond r16.1
 (cond (decide (t3 < (0 : Int)))
 (some (.inl (((), t4, (Go.IntKind.wrap .i64 (t4 + (1 : Int))), ()), (b1, ()))))
 (Option.bind (idx b1.1 t3) fun x17 =>
 (Option.bind (idx x17 (0 : Int)) fun x18 =>
 (cond (decide (x15 > x18))
 (some (.inl (((), t4, (Go.IntKind.wrap .i64 (t4 + (1 : Int))), ()), (b1, ()))))
 (some (.inl (((), t3, (Go.IntKind.wrap .i64 (t4 + (1 : Int))), ()), (b1, ()))))))))
 (some (.inl (((), t3, (Go.IntKind.wrap .i64 (t4 + (1 : Int))), ()), (b1, ()))))))))
 (some (.inr (.inl ((t3, ()), ()))))))
 (some (.inr (.inl ((t3, ()), ())))))
noncomputable def spec_ActivePage_3_loop (x : ((Unit × TCombo) × (TFlash × Unit))) : Option (((Int × Unit) × Unit) ⊕ (Unit × Unit)) := loopF (fun x : ((Unit × TCombo) × (TFlash × Unit)) => spec_ActivePage_3_R x.1.1 x.1.2.1 x.1.2.2.1 x.2.1) x
noncomputable def spec_ActivePage (a0 : TFlash) : Option (Int × Unit) :=
 (Option.bind (spec_ActivePage_3_loop (((), (-1 : Int), (0 : Int), ()), (a0, ()))) (Sum.elim (fun y19 => (some (y19.1.1, ()))) (fun z20 => none)))

noncomputable def spec_CheckOf (a0 : Int) (a1 : Int) (a2 : Int) : Option (Int × Unit) :=
 (Option.bind (spec_l1In a0 (0 : Int) (3 : Int)) fun r1 =>
 (cond (!r1.1)
 (some ((65535 : Int), ()))
 (Option.bind (spec_l1In a1 (0 : Int) (9999 : Int)) fun r2 =>
 (cond (!r2.1)
 (some ((65535 : Int), ()))
 (Option.bind (spec_l1In a2 (1 : Int) (60000 : Int)) fun r3 =>
 (cond (!r3.1)
 (some ((65535 : Int), ()))
 (cond ((60000 : Int) == (0 : Int))
 none
 (some ((Int.tmod (Go.IntKind.wrap .i64 ((Go.IntKind.wrap .i64 ((Go.IntKind.wrap .i64 ((Go.IntKind.wrap .i64 ((7 : Int) * a0)) + (Go.IntKind.wrap .i64 ((13 : Int) * a1)))) + (Go.IntKind.wrap .i64 ((31 : Int) * a2)))) + (5 : Int))) (60000 : Int)), ())))))))))

noncomputable def spec_ReadSetting_7_R (t1 : Int) (t2 : Unit) (t6 : Int) (t7 : Int) (t8 : Bool) (t9 : Int) (b2 : TFlash) : Option (((Int × (Unit × (Int × (Int × (Bool × (Int × Unit)))))) × (TFlash × Unit)) ⊕ (((Int × (Bool × Unit)) × Unit) ⊕ (Unit × Unit))) :=
 (cond (decide (t9 < (6 : Int)))
 (Option.bind (idx b2.1 t6) fun x21 =>
 (Option.bind (idx x21 (Go.IntKind.wrap .i64 ((Go.IntKind.wrap .i64 ((1 : Int) + (Go.IntKind.wrap .i64 ((3 : Int) * t9)))) + (1 : Int)))) fun x22 =>
 (Option.bind (idx b2.1 t6) fun x23 =>
 (Option.bind (idx x23 (0 : Int)) fun x24 =>
 (Option.bind (spec_CheckOf t1 x22 x24) fun r25 =>
 (Option.bind (idx b2.1 t6) fun x26 =>
 (Option.bind (idx x26 (Go.IntKind.wrap .i64 ((1 : Int) + (Go.IntKind.wrap .i64 ((3 : Int) * t9))))) fun x27 =>
 (cond (x27 == t1)
 (cond (r25.1 != (65535 : Int))
 (Option.bind (idx b2.1 t6) fun x28 =>
 (Option.bind (idx x28 (Go.IntKind.wrap .i64 ((Go.IntKind.wrap .i64 ((1 : Int) + (Go.IntKind.wrap .i64 ((3 : Int) * t9)))) + (2 : Int)))) fun x29 =>
 (cond (x29 == r25.1)
 (some (.inl ((t1, (), t6, x22, true, (Go.IntKind.wrap .i64 (t9 + (1 : Int))), ()), (b2, ()))))
 (some (.inl ((t1, (), t6, t7, t8, (Go.IntKind.wrap .i64 (t9 + (1 : Int))), ()), (b2, ())))))))
 (some (.inl ((t1, (), t6, t7, t8, (Go.IntKind.wrap .i64 (t9 + (1 : Int))), ()), (b2, ())))))
 (some (.inl ((t1, (), t6, t7, t8, (Go.IntKind.wrap .i64 (t9 + (1 : Int))), ()), (b2, ()))))))))))))
 (some (.inr (.inl ((t7, t8, ()), ())))))
noncomputable def spec_ReadSetting_7_loop (x : ((Int × (Unit × (Int × (Int × (Bool × (Int × Unit)))))) × (TFlash × Unit))) : Option (((Int × (Bool × Unit)) × Unit) ⊕ (Unit × Unit)) := loopF (fun x : ((Int × (Unit × (Int × (Int × (Bool × (Int × Unit)))))) × (TFlash × Unit)) => spec_ReadSetting_7_R x.1.1 x.1.2.1 x.1.2.2.1 x.1.2.2.2.1 x.1.2.2.2.2.1 x.1.2.2.2.2.2.1 x.2.1) x
noncomputable def spec_ReadSetting (a0 : TFlash) (a1 : Int) : Option (Int × (Bool × Unit)) :=
 (Option.bind (spec_ActivePage a0) fun r1 =>
 (cond (decide (r1.1 < (0 : Int)))
 (some ((0 : Int), false, ()))
 (Option.bind (spec_l1In a1 (0 : Int) (3 : Int)) fun r2 =>
 (cond (!r2.1)
 (some ((0 : Int), false, ()))
 (Option.bind (spec_ReadSetting_7_loop ((a1, (), r1.1, (0 : Int), false, (0 : Int), ()), (a0, ()))) (Sum.elim (fun y30 => (some (y30.1.1, y30.1.2.1, ()))) (fun z31 => none)))))))

noncomputable def spec_l23Part (a0 : TFlash) (a1 : Int) (a2 : Int) (a3 : Int) (a4 : Int) : Option (Int × Unit) :=
 (Option.bind (spec_ReadSetting a0 a1) fun r1 =>
 (cond (!r1.2.1)
 (some (a4, ()))
 (Option.bind (spec_l1In r1.1 a2 a3) fun r2 =>
 (cond (!r2.1)
 (some (a4, ()))
 (some (r1.1, ()))))))

noncomputable def spec_StartTiming (a0 : TFlash) : Option (TStep × Unit) :=
 (Option.bind (spec_l23Part a0 (0 : Int) (1 : Int) (1000 : Int) (200 : Int)) fun r1 =>
 (Option.bind (spec_l23Part a0 (1 : Int) (0 : Int) (1000 : Int) (100 : Int)) fun r2 =>
 (Option.bind (spec_l23Part a0 (2 : Int) (0 : Int) (2 : Int) (0 : Int)) fun r3 =>
 (some ((r1.1, r2.1, r3.1, ()), ())))))

noncomputable def impl_IsFlash_9_R (t1 : Unit) (t16 : Int) (t46 : (List Int)) (t47 : Int) (t48 : Int) (b1 : TFlash) : Option (((Unit × (Int × ((List Int) × TCombo))) × (TFlash × Unit)) ⊕ (((Unit × (Int × Unit)) × (TFlash × Unit)) ⊕ ((Bool × Unit) × Unit))) :=
 (cond (decide (t48 < t47))
 (Option.bind (idx t46 t48) fun x25 =>
 (cond (decide (x25 < (0 : Int)))
 (some (.inr (.inr ((false, ()), ()))))
 (cond (decide (x25 > (65535 : Int)))
 (some (.inr (.inr ((false, ()), ()))))
 (some (.inl (((), t16, t46, t47, (Go.IntKind.wrap .i64 (t48 + (1 : Int))), ()), (b1, ())))))))
 (some (.inr (.inl (((), t16, ()), (b1, ()))))))
noncomputable def impl_IsFlash_9_loop (x : ((Unit × (Int × ((List Int) × TCombo))) × (TFlash × Unit))) : Option (((Unit × (Int × Unit)) × (TFlash × Unit)) ⊕ ((Bool × Unit) × Unit)) := loopF (fun x : ((Unit × (Int × ((List Int) × TCombo))) × (TFlash × Unit)) => impl_IsFlash_9_R x.1.1 x.1.2.1 x.1.2.2.1 x.1.2.2.2.1 x.1.2.2.2.2.1 x.2.1) x
noncomputable def impl_IsFlash_4_R (t1 : Unit) (t16 : Int) (b1 : TFlash) : Option (((Unit × (Int × Unit)) × (TFlash × Unit)) ⊕ ((Unit × Unit) ⊕ ((Bool × Unit) × Unit))) :=
 (cond (decide (t16 < (2 : Int)))
 (Option.bind (idx b1.1 t16) fun x19 =>
 (cond (((List.length x19 : Nat) : Int) != (19 : Int))
 (some (.inr (.inr ((false, ()), ()))))
 (Option.bind (idx b1.2.1 t16) fun x20 =>
 (cond (decide (x20 < (0 : Int)))
 (some (.inr (.inr ((false, ()), ()))))
 (Option.bind (idx b1.2.1 t16) fun x21 =>
 (cond (decide (x21 > (1000 : Int)))
 (some (.inr (.inr ((false, ()), ()))))
 (Option.bind (idx b1.1 t16) fun x22 =>
 (Option.bind (impl_IsFlash_9_loop (((), t16, x22, ((List.length x22 : Nat) : Int), (0 : Int), ()), (b1, ()))) (Sum.elim (fun y26 => (some (.inl (((), (Go.IntKind.wrap .i64 (y26.1.2.1 + (1 : Int))), ()), (y26.2.1, ()))))) (fun z27 => (some (.inr (.inr ((z27.1.1, ()), ()))))))))))))))
 (some (.inr (.inl ((), ())))))
noncomputable def impl_IsFlash_4_loop (x : ((Unit × (Int × Unit)) × (TFlash × Unit))) : Option ((Unit × Unit) ⊕ ((Bool × Unit) × Unit)) := loopF (fun x : ((Unit × (Int × Unit)) × (TFlash × Unit)) => impl_IsFlash_4_R x.1.1 x.1.2.1 x.2.1) x
noncomputable def impl_IsFlash (a0 : TFlash) : Option (Bool × Unit) :=
 (cond (((List.length a0.1 : Nat) : Int) != (2 : Int))
 (some (false, ()))
 (cond (((List.length a0.2.1 : Nat) : Int) != (2 : Int))
 (some (false, ()))
 (Option.bind (impl_IsFlash_4_loop (((), (0 : Int), ()), (a0, ()))) (Sum.elim (fun y28 => (some (true, ()))) (fun z29 => (some (z29.1.1, ())))))))

noncomputable def impl_ActivePage_5_R (t1 : Unit) (t3 : Int) (t11 : (List (List Int))) (t12 : Int) (t13 : Int) (b1 : TFlash) : Option (((Unit × (Int × ((List (List Int)) × TCombo))) × (TFlash × Unit)) ⊕ (((Int × Unit) × Unit) ⊕ (Unit × Unit))) :=
 (cond (decide (t13 < t12))
 (Option.bind (idx t11 t13) fun x14 =>
 (Option.bind (idx x14 (0 : Int)) fun x15 =>
 (cond (decide (x15 ≥ (1 : Int)))
 (Option.bind (idx x14 (0 : Int)) fun x16 =>
 (cond (decide (x16 ≤ (60000 : Int)))
 (cond (decide (t3 < (0 : Int)))
 (some (.inl (((), t13, t11, t12, (Go.IntKind.wrap .i64 (t13 + (1 : Int))), ()), (b1, ()))))
 (Option.bind (idx x14 (0 : Int)) fun x17 =>
 (Option.bind (idx b1.1 t3) fun x18 =>
 (Option.bind (idx x18 (0 : Int)) fun x19 =>
 (cond (decide (x17 > x19))
 (some (.inl (((), t13, t11, t12, (Go.IntKind.wrap .i64 (t13 + (1 : Int))), ()), (b1, ()))))
 (some (.inl (((), t3, t11, t12, (Go.IntKind.wrap .i64 (t13 + (1 : Int))), ()), (b1, ())))))))))
 (some (.inl (((), t3, t11, t12, (Go.IntKind.wrap .i64 (t13 + (1 : Int))), ()), (b1, ()))))))
 (some (.inl (((), t3, t11, t12, (Go.IntKind.wrap .i64 (t13 + (1 : Int))), ()), (b1, ())))))))
 (some (.inr (.inl ((t3, ()), ())))))
noncomputable def impl_ActivePage_5_loop (x : ((Unit × (Int × ((List (List Int)) × TCombo))) × (TFlash × Unit))) : Option (((Int × Unit) × Unit) ⊕ (Unit × Unit)) := loopF (fun x : ((Unit × (Int × ((List (List Int)) × TCombo))) × (TFlash × Unit)) => impl_ActivePage_5_R x.1.1 x.1.2.1 x.1.2.2.1 x.1.2.2.2.1 x.1.2.2.2.2.1 x.2.1) x
noncomputable def impl_ActivePage (a0 : TFlash) : Option (Int × Unit) :=
 (Option.bind (impl_IsFlash a0) fun r1 =>
 (cond (!r1.1)
 (some ((-1 : Int), ()))
 (Option.bind (impl_ActivePage_5_loop (((), (-1 : Int), a0.1, ((List.length a0.1 : Nat) : Int), (0 : Int), ()), (a0, ()))) (Sum.elim (fun y20 => (some (y20.1.1, ()))) (fun z21 => none)))))

noncomputable def impl_isSetting (a0 : Int) (a1 : Int) : Option (Bool × Unit) :=
 (cond (decide (a0 ≥ (0 : Int)))
 (cond (decide (a0 < (4 : Int)))
 (cond (decide (a1 ≥ (0 : Int)))
 (some ((decide (a1 ≤ (9999 : Int))), ()))
 (some (false, ())))
 (some (false, ())))
 (some (false, ())))

noncomputable def impl_CheckOf (a0 : Int) (a1 : Int) (a2 : Int) : Option (Int × Unit) :=
 (Option.bind (impl_isSetting a0 a1) fun r1 =>
 (cond (!r1.1)
 (some ((65535 : Int), ()))
 (cond (decide (a2 < (1 : Int)))
 (some ((65535 : Int), ()))
 (cond (decide (a2 > (60000 : Int)))
 (some ((65535 : Int), ()))
 (cond ((60000 : Int) == (0 : Int))
 none
 (some ((Int.tmod (Go.IntKind.wrap .i64 ((Go.IntKind.wrap .i64 ((Go.IntKind.wrap .i64 ((Go.IntKind.wrap .i64 ((7 : Int) * a0)) + (Go.IntKind.wrap .i64 ((13 : Int) * a1)))) + (Go.IntKind.wrap .i64 ((31 : Int) * a2)))) + (5 : Int))) (60000 : Int)), ())))))))

noncomputable def impl_ReadSetting_6_R (t1 : Int) (t7 : (List Int)) (t8 : Int) : Option (((Int × ((List Int) × (Int × Unit))) × Unit) ⊕ ((Unit × Unit) ⊕ ((Int × (Bool × Unit)) × Unit))) :=
 (cond (decide (t8 ≥ (0 : Int)))
 (cond (cutOk (List.length t7) (Go.IntKind.wrap .i64 ((1 : Int) + (Go.IntKind.wrap .i64 ((3 : Int) * t8)))) (Go.IntKind.wrap .i64 ((4 : Int) + (Go.IntKind.wrap .i64 ((3 : Int) * t8)))))
 (Option.bind (idx (cutl t7 (Int.toNat (Go.IntKind.wrap .i64 ((1 : Int) + (Go.IntKind.wrap .i64 ((3 : Int) * t8))))) (Int.toNat (Go.IntKind.wrap .i64 ((4 : Int) + (Go.IntKind.wrap .i64 ((3 : Int) * t8)))))) (0 : Int)) fun x23 =>
 (Option.bind (idx (cutl t7 (Int.toNat (Go.IntKind.wrap .i64 ((1 : Int) + (Go.IntKind.wrap .i64 ((3 : Int) * t8))))) (Int.toNat (Go.IntKind.wrap .i64 ((4 : Int) + (Go.IntKind.wrap .i64 ((3 : Int) * t8)))))) (1 : Int)) fun x24 =>
 (Option.bind (impl_isSetting x23 x24) fun r25 =>
 (cond r25.1
 (Option.bind (idx (cutl t7 (Int.toNat (Go.IntKind.wrap .i64 ((1 : Int) + (Go.IntKind.wrap .i64 ((3 : Int) * t8))))) (Int.toNat (Go.IntKind.wrap .i64 ((4 : Int) + (Go.IntKind.wrap .i64 ((3 : Int) * t8)))))) (0 : Int)) fun x26 =>
 (cond (x26 == t1)
 (Option.bind (idx (cutl t7 (Int.toNat (Go.IntKind.wrap .i64 ((1 : Int) + (Go.IntKind.wrap .i64 ((3 : Int) * t8))))) (Int.toNat (Go.IntKind.wrap .i64 ((4 : Int) + (Go.IntKind.wrap .i64 ((3 : Int) * t8)))))) (2 : Int)) fun x27 =>
 (Option.bind (idx (cutl t7 (Int.toNat (Go.IntKind.wrap .i64 ((1 : Int) + (Go.IntKind.wrap .i64 ((3 : Int) * t8))))) (Int.toNat (Go.IntKind.wrap .i64 ((4 : Int) + (Go.IntKind.wrap .i64 ((3 : Int) * t8)))))) (0 : Int)) fun x28 =>
 (Option.bind (idx (cutl t7 (Int.toNat (Go.IntKind.wrap .i64 ((1 : Int) + (Go.IntKind.wrap .i64 ((3 : Int) * t8))))) (Int.toNat (Go.IntKind.wrap .i64 ((4 : Int) + (Go.IntKind.wrap .i64 ((3 : Int) * t8)))))) (1 : Int)) fun x29 =>
 (Option.bind (idx t7 (0 : Int)) fun x30 =>
 (Option.bind (impl_CheckOf x28 x29 x30) fun r31 =>
 (cond (x27 == r31.1)
 (Option.bind (idx (cutl t7 (Int.toNat (Go.IntKind.wrap .i64 ((1 : Int) + (Go.IntKind.wrap .i64 ((3 : Int) * t8))))) (Int.toNat (Go.IntKind.wrap .i64 ((4 : Int) + (Go.IntKind.wrap .i64 ((3 : Int) * t8)))))) (1 : Int)) fun x32 =>
 (some (.inr (.inr ((x32, true, ()), ())))))
 (some (.inl ((t1, t7, (Go.IntKind.wrap .i64 (t8 - (1 : Int))), ()), ())))))))))
 (some (.inl ((t1, t7, (Go.IntKind.wrap .i64 (t8 - (1 : Int))), ()), ())))))
 (some (.inl ((t1, t7, (Go.IntKind.wrap .i64 (t8 - (1 : Int))), ()), ())))))))
 none)
 (some (.inr (.inl ((), ())))))
noncomputable def impl_ReadSetting_6_loop (x : ((Int × ((List Int) × (Int × Unit))) × Unit)) : Option ((Unit × Unit) ⊕ ((Int × (Bool × Unit)) × Unit)) := loopF (fun x : ((Int × ((List Int) × (Int × Unit))) × Unit) => impl_ReadSetting_6_R x.1.1 x.1.2.1 x.1.2.2.1) x
noncomputable def impl_ReadSetting (a0 : TFlash) (a1 : Int) : Option (Int × (Bool × Unit)) :=
 (Option.bind (impl_ActivePage a0) fun r1 =>
 (cond (decide (r1.1 < (0 : Int)))
 (some ((0 : Int), false, ()))
 (Option.bind (idx a0.1 r1.1) fun x2 =>
 (Option.bind (impl_ReadSetting_6_loop ((a1, x2, (5 : Int), ()), ())) (Sum.elim (fun y33 => (some ((0 : Int), false, ()))) (fun z34 => (some (z34.1.1, z34.1.2.1, ()))))))))

noncomputable def impl_StartTiming (a0 : TFlash) : Option (TStep × Unit) :=
 (Option.bind (impl_ReadSetting a0 (0 : Int)) fun r1 =>
 (cond r1.2.1
 (cond (decide (r1.1 ≥ (1 : Int)))
 (cond (decide (r1.1 ≤ (1000 : Int)))
 (Option.bind (impl_ReadSetting a0 (1 : Int)) fun r2 =>
 (cond r2.2.1
 (cond (decide (r2.1 ≤ (1000 : Int)))
 (Option.bind (impl_ReadSetting a0 (2 : Int)) fun r3 =>
 (cond r3.2.1
 (cond (decide (r3.1 ≤ (2 : Int)))
 (some ((r1.1, r2.1, r3.1, ()), ()))
 (some ((r1.1, r2.1, (0 : Int), ()), ())))
 (some ((r1.1, r2.1, (0 : Int), ()), ()))))
 (Option.bind (impl_ReadSetting a0 (2 : Int)) fun r4 =>
 (cond r4.2.1
 (cond (decide (r4.1 ≤ (2 : Int)))
 (some ((r1.1, (100 : Int), r4.1, ()), ()))
 (some ((r1.1, (100 : Int), (0 : Int), ()), ())))
 (some ((r1.1, (100 : Int), (0 : Int), ()), ())))))
 (Option.bind (impl_ReadSetting a0 (2 : Int)) fun r5 =>
 (cond r5.2.1
 (cond (decide (r5.1 ≤ (2 : Int)))
 (some ((r1.1, (100 : Int), r5.1, ()), ()))
 (some ((r1.1, (100 : Int), (0 : Int), ()), ())))
 (some ((r1.1, (100 : Int), (0 : Int), ()), ()))))))
 (Option.bind (impl_ReadSetting a0 (1 : Int)) fun r6 =>
 (cond r6.2.1
 (cond (decide (r6.1 ≤ (1000 : Int)))
 (Option.bind (impl_ReadSetting a0 (2 : Int)) fun r7 =>
 (cond r7.2.1
 (cond (decide (r7.1 ≤ (2 : Int)))
 (some (((200 : Int), r6.1, r7.1, ()), ()))
 (some (((200 : Int), r6.1, (0 : Int), ()), ())))
 (some (((200 : Int), r6.1, (0 : Int), ()), ()))))
 (Option.bind (impl_ReadSetting a0 (2 : Int)) fun r8 =>
 (cond r8.2.1
 (cond (decide (r8.1 ≤ (2 : Int)))
 (some (((200 : Int), (100 : Int), r8.1, ()), ()))
 (some (((200 : Int), (100 : Int), (0 : Int), ()), ())))
 (some (((200 : Int), (100 : Int), (0 : Int), ()), ())))))
 (Option.bind (impl_ReadSetting a0 (2 : Int)) fun r9 =>
 (cond r9.2.1
 (cond (decide (r9.1 ≤ (2 : Int)))
 (some (((200 : Int), (100 : Int), r9.1, ()), ()))
 (some (((200 : Int), (100 : Int), (0 : Int), ()), ())))
 (some (((200 : Int), (100 : Int), (0 : Int), ()), ())))))))
 (Option.bind (impl_ReadSetting a0 (1 : Int)) fun r10 =>
 (cond r10.2.1
 (cond (decide (r10.1 ≤ (1000 : Int)))
 (Option.bind (impl_ReadSetting a0 (2 : Int)) fun r11 =>
 (cond r11.2.1
 (cond (decide (r11.1 ≤ (2 : Int)))
 (some (((200 : Int), r10.1, r11.1, ()), ()))
 (some (((200 : Int), r10.1, (0 : Int), ()), ())))
 (some (((200 : Int), r10.1, (0 : Int), ()), ()))))
 (Option.bind (impl_ReadSetting a0 (2 : Int)) fun r12 =>
 (cond r12.2.1
 (cond (decide (r12.1 ≤ (2 : Int)))
 (some (((200 : Int), (100 : Int), r12.1, ()), ()))
 (some (((200 : Int), (100 : Int), (0 : Int), ()), ())))
 (some (((200 : Int), (100 : Int), (0 : Int), ()), ())))))
 (Option.bind (impl_ReadSetting a0 (2 : Int)) fun r13 =>
 (cond r13.2.1
 (cond (decide (r13.1 ≤ (2 : Int)))
 (some (((200 : Int), (100 : Int), r13.1, ()), ()))
 (some (((200 : Int), (100 : Int), (0 : Int), ()), ())))
 (some (((200 : Int), (100 : Int), (0 : Int), ()), ())))))))
 (Option.bind (impl_ReadSetting a0 (1 : Int)) fun r14 =>
 (cond r14.2.1
 (cond (decide (r14.1 ≤ (1000 : Int)))
 (Option.bind (impl_ReadSetting a0 (2 : Int)) fun r15 =>
 (cond r15.2.1
 (cond (decide (r15.1 ≤ (2 : Int)))
 (some (((200 : Int), r14.1, r15.1, ()), ()))
 (some (((200 : Int), r14.1, (0 : Int), ()), ())))
 (some (((200 : Int), r14.1, (0 : Int), ()), ()))))
 (Option.bind (impl_ReadSetting a0 (2 : Int)) fun r16 =>
 (cond r16.2.1
 (cond (decide (r16.1 ≤ (2 : Int)))
 (some (((200 : Int), (100 : Int), r16.1, ()), ()))
 (some (((200 : Int), (100 : Int), (0 : Int), ()), ())))
 (some (((200 : Int), (100 : Int), (0 : Int), ()), ())))))
 (Option.bind (impl_ReadSetting a0 (2 : Int)) fun r17 =>
 (cond r17.2.1
 (cond (decide (r17.1 ≤ (2 : Int)))
 (some (((200 : Int), (100 : Int), r17.1, ()), ()))
 (some (((200 : Int), (100 : Int), (0 : Int), ()), ())))
 (some (((200 : Int), (100 : Int), (0 : Int), ()), ()))))))))

noncomputable def laws_eqIntSS_4_R (t0 : (List (List Int))) (t1 : (List (List Int))) (t5 : Int) : Option ((((List (List Int)) × ((List (List Int)) × (Int × Unit))) × Unit) ⊕ ((Unit × Unit) ⊕ ((Bool × Unit) × Unit))) :=
 (cond (decide (t5 < ((List.length t0 : Nat) : Int)))
 (Option.bind (idx t0 t5) fun x7 =>
 (Option.bind (idx t1 t5) fun x8 =>
 (Option.bind (laws_eqIntS x7 x8) fun r9 =>
 (cond (!r9.1)
 (some (.inr (.inr ((false, ()), ()))))
 (some (.inl ((t0, t1, (Go.IntKind.wrap .i64 (t5 + (1 : Int))), ()), ())))))))
 (some (.inr (.inl ((), ())))))
noncomputable def laws_eqIntSS_4_loop (x : (((List (List Int)) × ((List (List Int)) × (Int × Unit))) × Unit)) : Option ((Unit × Unit) ⊕ ((Bool × Unit) × Unit)) := loopF (fun x : (((List (List Int)) × ((List (List Int)) × (Int × Unit))) × Unit) => laws_eqIntSS_4_R x.1.1 x.1.2.1 x.1.2.2.1) x
noncomputable def laws_eqIntSS (a0 : (List (List Int))) (a1 : (List (List Int))) : Option (Bool × Unit) :=
 (cond (((List.length a0 : Nat) : Int) != ((List.length a1 : Nat) : Int))
 (some (false, ()))
 (Option.bind (laws_eqIntSS_4_loop ((a0, a1, (0 : Int), ()), ())) (Sum.elim (fun y10 => (some (true, ()))) (fun z11 => (some (z11.1.1, ()))))))

noncomputable def laws_eqFlash (a0 : TFlash) (a1 : TFlash) : Option (Bool × Unit) :=
 (Option.bind (laws_eqIntSS a0.1 a1.1) fun r1 =>
 (cond (!r1.1)
 (some (false, ()))
 (Option.bind (laws_eqIntS a0.2.1 a1.2.1) fun r2 =>
 (cond (!r2.1)
 (some (false, ()))
 (some (true, ()))))))

noncomputable def spec_IsTiming (a0 : TStep) : Option (Bool × Unit) :=
 (Option.bind (spec_l1In a0.1 (1 : Int) (1000 : Int)) fun r1 =>
 (cond r1.1
 (Option.bind (spec_l1In a0.2.1 (0 : Int) (1000 : Int)) fun r2 =>
 (cond r2.1
 (Option.bind (spec_l1In a0.2.2.1 (0 : Int) (2 : Int)) fun r3 =>
 (some (r3.1, ())))
 (some (false, ()))))
 (some (false, ()))))

noncomputable def spec_FreeRecord_8_R (t1 : Int) (t2 : Unit) (t5 : Int) (t6 : Int) (t7 : Int) (b2 : TFlash) : Option (((Int × (Unit × TStep)) × (TFlash × Unit)) ⊕ (((Int × (Unit × (Int × Unit))) × (TFlash × Unit)) ⊕ ((Int × Unit) × Unit))) :=
 (cond (decide (t7 ≤ (3 : Int)))
 (Option.bind (idx b2.1 t1) fun x23 =>
 (Option.bind (idx x23 (Go.IntKind.wrap .i64 ((Go.IntKind.wrap .i64 ((3 : Int) * t6)) + t7))) fun x24 =>
 (cond (x24 != (65535 : Int))
 (some (.inr (.inr ((t5, ()), ()))))
 (some (.inl ((t1, (), t5, t6, (Go.IntKind.wrap .i64 (t7 + (1 : Int))), ()), (b2, ())))))))
 (some (.inr (.inl ((t1, (), t6, ()), (b2, ()))))))
noncomputable def spec_FreeRecord_8_loop (x : ((Int × (Unit × TStep)) × (TFlash × Unit))) : Option (((Int × (Unit × (Int × Unit))) × (TFlash × Unit)) ⊕ ((Int × Unit) × Unit)) := loopF (fun x : ((Int × (Unit × TStep)) × (TFlash × Unit)) => spec_FreeRecord_8_R x.1.1 x.1.2.1 x.1.2.2.1 x.1.2.2.2.1 x.1.2.2.2.2.1 x.2.1) x
noncomputable def spec_FreeRecord_5_R (t1 : Int) (t2 : Unit) (t5 : Int) (t6 : Int) (b2 : TFlash) : Option (((Int × (Unit × TCombo)) × (TFlash × Unit)) ⊕ (((Int × Unit) × Unit) ⊕ ((Int × Unit) × Unit))) :=
 (cond (decide (t6 ≥ (0 : Int)))
 (Option.bind (spec_FreeRecord_8_loop ((t1, (), t5, t6, (1 : Int), ()), (b2, ()))) (Sum.elim (fun y25 => (some (.inl ((y25.1.1, (), y25.1.2.2.1, (Go.IntKind.wrap .i64 (y25.1.2.2.1 - (1 : Int))), ()), (y25.2.1, ()))))) (fun z26 => (some (.inr (.inr ((z26.1.1, ()), ())))))))
 (some (.inr (.inl ((t5, ()), ())))))
noncomputable def spec_FreeRecord_5_loop (x : ((Int × (Unit × TCombo)) × (TFlash × Unit))) : Option (((Int × Unit) × Unit) ⊕ ((Int × Unit) × Unit)) := loopF (fun x : ((Int × (Unit × TCombo)) × (TFlash × Unit)) => spec_FreeRecord_5_R x.1.1 x.1.2.1 x.1.2.2.1 x.1.2.2.2.1 x.2.1) x
noncomputable def spec_FreeRecord (a0 : TFlash) (a1 : Int) : Option (Int × Unit) :=
 (Option.bind (spec_IsFlash a0) fun r1 =>
 (cond (!r1.1)
 (some ((-1 : Int), ()))
 (Option.bind (spec_l1In a1 (0 : Int) (1 : Int)) fun r2 =>
 (cond (!r2.1)
 (some ((-1 : Int), ()))
 (Option.bind (spec_FreeRecord_5_loop ((a1, (), (6 : Int), (5 : Int), ()), (a0, ()))) (Sum.elim (fun y27 => (some (y27.1.1, ()))) (fun z28 => (some (z28.1.1, ())))))))))

noncomputable def spec_l14Record (a0 : Int) (a1 : Int) (a2 : Int) (a3 : Int) (a4 : Int) : Option ((List TFlashOp) × Unit) :=
 (Option.bind (spec_CheckOf a2 a3 a4) fun r1 =>
 (cond (Nat.ble (List.length ([(false, a0, (Go.IntKind.wrap .i64 ((1 : Int) + (Go.IntKind.wrap .i64 ((3 : Int) * a1)))), a2, ()), (false, a0, (Go.IntKind.wrap .i64 ((2 : Int) + (Go.IntKind.wrap .i64 ((3 : Int) * a1)))), a3, ())] : List TFlashOp) + List.length ([(false, a0, (Go.IntKind.wrap .i64 ((3 : Int) + (Go.IntKind.wrap .i64 ((3 : Int) * a1)))), r1.1, ())] : List TFlashOp)) lim)
 (some ((List.append ([(false, a0, (Go.IntKind.wrap .i64 ((1 : Int) + (Go.IntKind.wrap .i64 ((3 : Int) * a1)))), a2, ()), (false, a0, (Go.IntKind.wrap .i64 ((2 : Int) + (Go.IntKind.wrap .i64 ((3 : Int) * a1)))), a3, ())] : List TFlashOp) ([(false, a0, (Go.IntKind.wrap .i64 ((3 : Int) + (Go.IntKind.wrap .i64 ((3 : Int) * a1)))), r1.1, ())] : List TFlashOp)), ()))
 none))

noncomputable def spec_SettingOps_13_R (t1 : Int) (t2 : Int) (t3 : Unit) (t8 : Int) (t10 : Int) (t11 : (List TFlashOp)) (t12 : Int) (t13 : Int) (b3 : TFlash) : Option (((Int × (Int × (Unit × (Int × (Int × ((List TFlashOp) × TCombo)))))) × (TFlash × Unit)) ⊕ (((Int × (Int × ((List TFlashOp) × Unit))) × Unit) ⊕ (Unit × Unit))) :=
 (cond (decide (t13 < (4 : Int)))
 (Option.bind (spec_ReadSetting b3 t13) fun r19 =>
 (cond (t13 == t1)
 (cond r19.2.1
 (Option.bind (spec_l14Record (Go.IntKind.wrap .i64 ((1 : Int) - t8)) t12 t13 t2 (Go.IntKind.wrap .i64 (t10 + (1 : Int)))) fun r20 =>
 (cond (Nat.ble (List.length t11 + List.length r20.1) lim)
 (some (.inl ((t1, t2, (), t8, t10, (List.append t11 r20.1), (Go.IntKind.wrap .i64 (t12 + (1 : Int))), (Go.IntKind.wrap .i64 (t13 + (1 : Int))), ()), (b3, ()))))
 none))
 (cond (t13 == t1)
 (Option.bind (spec_l14Record (Go.IntKind.wrap .i64 ((1 : Int) - t8)) t12 t13 t2 (Go.IntKind.wrap .i64 (t10 + (1 : Int)))) fun r21 =>
 (cond (Nat.ble (List.length t11 + List.length r21.1) lim)
 (some (.inl ((t1, t2, (), t8, t10, (List.append t11 r21.1), (Go.IntKind.wrap .i64 (t12 + (1 : Int))), (Go.IntKind.wrap .i64 (t13 + (1 : Int))), ()), (b3, ()))))
 none))
 (some (.inl ((t1, t2, (), t8, t10, t11, t12, (Go.IntKind.wrap .i64 (t13 + (1 : Int))), ()), (b3, ()))))))
 (cond r19.2.1
 (Option.bind (spec_l14Record (Go.IntKind.wrap .i64 ((1 : Int) - t8)) t12 t13 r19.1 (Go.IntKind.wrap .i64 (t10 + (1 : Int)))) fun r22 =>
 (cond (Nat.ble (List.length t11 + List.length r22.1) lim)
 (some (.inl ((t1, t2, (), t8, t10, (List.append t11 r22.1), (Go.IntKind.wrap .i64 (t12 + (1 : Int))), (Go.IntKind.wrap .i64 (t13 + (1 : Int))), ()), (b3, ()))))
 none))
 (cond (t13 == t1)
 (Option.bind (spec_l14Record (Go.IntKind.wrap .i64 ((1 : Int) - t8)) t12 t13 r19.1 (Go.IntKind.wrap .i64 (t10 + (1 : Int)))) fun r23 =>
 (cond (Nat.ble (List.length t11 + List.length r23.1) lim)
 (some (.inl ((t1, t2, (), t8, t10, (List.append t11 r23.1), (Go.IntKind.wrap .i64 (t12 + (1 : Int))), (Go.IntKind.wrap .i64 (t13 + (1 : Int))), ()), (b3, ()))))
 none))
 (some (.inl ((t1, t2, (), t8, t10, t11, t12, (Go.IntKind.wrap .i64 (t13 + (1 : Int))), ()), (b3, ()))))))))
 (some (.inr (.inl ((t8, t10, t11, ()), ())))))
noncomputable def spec_SettingOps_13_loop (x : ((Int × (Int × (Unit × (Int × (Int × ((List TFlashOp) × TCombo)))))) × (TFlash × Unit))) : Option (((Int × (Int × ((List TFlashOp) × Unit))) × Unit) ⊕ (Unit × Unit)) := loopF (fun x : ((Int × (Int × (Unit × (Int × (Int × ((List TFlashOp) × TCombo)))))) × (TFlash × Unit)) => spec_SettingOps_13_R x.1.1 x.1.2.1 x.1.2.2.1 x.1.2.2.2.1 x.1.2.2.2.2.1 x.1.2.2.2.2.2.1 x.1.2.2.2.2.2.2.1 x.1.2.2.2.2.2.2.2.1 x.2.1) x
noncomputable def spec_SettingOps (a0 : TFlash) (a1 : Int) (a2 : Int) : Option ((List TFlashOp) × (Bool × Unit)) :=
 (Option.bind (spec_ActivePage a0) fun r1 =>
 (cond (decide (r1.1 < (0 : Int)))
 (some (([] : List TFlashOp), false, ()))
 (Option.bind (spec_l1In a1 (0 : Int) (3 : Int)) fun r2 =>
 (cond (!r2.1)
 (some (([] : List TFlashOp), false, ()))
 (Option.bind (spec_l1In a2 (0 : Int) (9999 : Int)) fun r3 =>
 (cond (!r3.1)
 (some (([] : List TFlashOp), false, ()))
 (Option.bind (spec_FreeRecord a0 r1.1) fun r4 =>
 (Option.bind (idx a0.1 r1.1) fun x5 =>
 (Option.bind (idx x5 (0 : Int)) fun x6 =>
 (cond (decide (r4.1 < (6 : Int)))
 (Option.bind (spec_l14Record r1.1 r4.1 a1 a2 x6) fun r7 =>
 (some (r7.1, true, ())))
 (cond (x6 == (60000 : Int))
 (some (([] : List TFlashOp), false, ()))
 (Option.bind (idx a0.2.1 (Go.IntKind.wrap .i64 ((1 : Int) - r1.1))) fun x8 =>
 (cond (x8 == (1000 : Int))
 (some (([] : List TFlashOp), false, ()))
 (Option.bind (spec_SettingOps_13_loop ((a1, a2, (), r1.1, x6, ([(true, (Go.IntKind.wrap .i64 ((1 : Int) - r1.1)), (0 : Int), (0 : Int), ())] : List TFlashOp), (0 : Int), (0 : Int), ()), (a0, ()))) (Sum.elim (fun y24 => (cond (Nat.ble (List.length y24.1.2.2.1 + List.length ([(false, (Go.IntKind.wrap .i64 ((1 : Int) - y24.1.1)), (0 : Int), (Go.IntKind.wrap .i64 (y24.1.2.1 + (1 : Int))), ())] : List TFlashOp)) lim)
 (some ((List.append y24.1.2.2.1 ([(false, (Go.IntKind.wrap .i64 ((1 : Int) - y24.1.1)), (0 : Int), (Go.IntKind.wrap .i64 (y24.1.2.1 + (1 : Int))), ())] : List TFlashOp)), true, ()))
 none)) (fun z25 => none))))))))))))))))

noncomputable def spec_l14Copy_3_R (t1 : Unit) (t2 : Unit) (t3 : Unit) (t4 : Int) (b1 : TFlash) (b2 : TFlash) (b3 : TFlash) : Option (((Unit × (Unit × (Unit × (Int × Unit)))) × (TFlash × (TFlash × (TFlash × Unit)))) ⊕ (((Unit × (Unit × Unit)) × (TFlash × (TFlash × Unit))) ⊕ (Unit × Unit))) :=
 (cond (decide (t4 < ((List.length b1.1 : Nat) : Int)))
 (Option.bind (idx b1.1 t4) fun x4 =>
 (cond (Nat.ble (List.length ([] : List Int) + List.length x4) lim)
 (cond (Nat.ble (List.length b3.1 + List.length ([(List.append ([] : List Int) x4)] : List (List Int))) lim)
 (some (.inl (((), (), (), (Go.IntKind.wrap .i64 (t4 + (1 : Int))), ()), (b1, (b2.1, b2.2.1, ()), ((List.append b3.1 ([(List.append ([] : List Int) x4)] : List (List Int))), b3.2.1, ()), ()))))
 none)
 none))
 (some (.inr (.inl (((), (), ()), ((b2.1, b2.2.1, ()), (b3.1, b3.2.1, ()), ()))))))
noncomputable def spec_l14Copy_3_loop (x : ((Unit × (Unit × (Unit × (Int × Unit)))) × (TFlash × (TFlash × (TFlash × Unit))))) : Option (((Unit × (Unit × Unit)) × (TFlash × (TFlash × Unit))) ⊕ (Unit × Unit)) := loopF (fun x : ((Unit × (Unit × (Unit × (Int × Unit)))) × (TFlash × (TFlash × (TFlash × Unit)))) => spec_l14Copy_3_R x.1.1 x.1.2.1 x.1.2.2.1 x.1.2.2.2.1 x.2.1 x.2.2.1 x.2.2.2.1) x
noncomputable def spec_l14Copy (a0 : TFlash) : Option (TFlash × Unit) :=
 (cond (Nat.ble (List.length ([] : List Int) + List.length a0.2.1) lim)
 (Option.bind (spec_l14Copy_3_loop (((), (), (), (0 : Int), ()), (a0, (([] : List (List Int)), ([] : List Int), ()), (([] : List (List Int)), (List.append ([] : List Int) a0.2.1), ()), ()))) (Sum.elim (fun y5 => (some ((y5.2.2.1.1, y5.2.2.1.2.1, ()), ()))) (fun z6 => none)))
 none)

noncomputable def spec_DoFlash_6_R (t3 : Unit) (t4 : Unit) (t6 : Unit) (t7 : Int) (b3 : TFlashOp) (b4 : TFlash) (b6 : TFlash) : Option (((Unit × (Unit × (Unit × (Int × Unit)))) × (TFlashOp × (TFlash × (TFlash × Unit)))) ⊕ (((Unit × (Unit × (Unit × Unit))) × (TFlashOp × (TFlash × (TFlash × Unit)))) ⊕ (Unit × Unit))) :=
 (cond (decide (t7 < (19 : Int)))
 (cond (inb (List.length b6.1) b3.2.1)
 (Option.bind b6.1[(Int.toNat b3.2.1)]? fun x8 =>
 (cond (inb (List.length x8) t7)
 (Option.bind x8[(Int.toNat t7)]? fun x9 =>
 (some (.inl (((), (), (), (Go.IntKind.wrap .i64 (t7 + (1 : Int))), ()), (b3, (b4.1, b4.2.1, ()), ((List.set b6.1 (Int.toNat b3.2.1) (List.set x8 (Int.toNat t7) (65535 : Int))), b6.2.1, ()), ())))))
 none))
 none)
 (some (.inr (.inl (((), (), (), ()), (b3, (b4.1, b4.2.1, ()), (b6.1, b6.2.1, ()), ()))))))
noncomputable def spec_DoFlash_6_loop (x : ((Unit × (Unit × (Unit × (Int × Unit)))) × (TFlashOp × (TFlash × (TFlash × Unit))))) : Option (((Unit × (Unit × (Unit × Unit))) × (TFlashOp × (TFlash × (TFlash × Unit)))) ⊕ (Unit × Unit)) := loopF (fun x : ((Unit × (Unit × (Unit × (Int × Unit)))) × (TFlashOp × (TFlash × (TFlash × Unit)))) => spec_DoFlash_6_R x.1.1 x.1.2.1 x.1.2.2.1 x.1.2.2.2.1 x.2.1 x.2.2.1 x.2.2.2.1) x
noncomputable def spec_DoFlash (a0 : TFlash) (a1 : TFlashOp) : Option (TFlash × (Bool × Unit)) :=
 (Option.bind (spec_IsFlash a0) fun r1 =>
 (cond (!r1.1)
 (some ((([] : List (List Int)), ([] : List Int), ()), false, ()))
 (Option.bind (spec_l1In a1.2.1 (0 : Int) (1 : Int)) fun r2 =>
 (cond (!r2.1)
 (some ((([] : List (List Int)), ([] : List Int), ()), false, ()))
 (Option.bind (spec_l14Copy a0) fun r3 =>
 (cond a1.1
 (Option.bind (spec_DoFlash_6_loop (((), (), (), (0 : Int), ()), (a1, (([] : List (List Int)), ([] : List Int), ()), r3.1, ()))) (Sum.elim (fun y10 => (cond (inb (List.length y10.2.2.2.1.2.1) y10.2.1.2.1)
 (Option.bind y10.2.2.2.1.2.1[(Int.toNat y10.2.1.2.1)]? fun x12 =>
 (cond (inb (List.length y10.2.2.2.1.2.1) y10.2.1.2.1)
 (Option.bind y10.2.2.2.1.2.1[(Int.toNat y10.2.1.2.1)]? fun x13 =>
 (cond (y10.2.1.2.2.1 != (0 : Int))
 (some ((([] : List (List Int)), ([] : List Int), ()), false, ()))
 (cond (y10.2.1.2.2.2.1 != (0 : Int))
 (some ((([] : List (List Int)), ([] : List Int), ()), false, ()))
 (Option.bind (spec_IsFlash (y10.2.2.2.1.1, (List.set y10.2.2.2.1.2.1 (Int.toNat y10.2.1.2.1) (Go.IntKind.wrap .i64 (x12 + (1 : Int)))), ())) fun r14 =>
 (cond (!r14.1)
 (some ((([] : List (List Int)), ([] : List Int), ()), false, ()))
 (some ((y10.2.2.2.1.1, (List.set y10.2.2.2.1.2.1 (Int.toNat y10.2.1.2.1) (Go.IntKind.wrap .i64 (x12 + (1 : Int)))), ()), true, ())))))))
 none))
 none)) (fun z11 => none)))
 (Option.bind (spec_l1In a1.2.2.1 (0 : Int) (18 : Int)) fun r15 =>
 (cond (!r15.1)
 (some ((([] : List (List Int)), ([] : List Int), ()), false, ()))
 (Option.bind (spec_l1In a1.2.2.2.1 (0 : Int) (65534 : Int)) fun r16 =>
 (cond (!r16.1)
 (some ((([] : List (List Int)), ([] : List Int), ()), false, ()))
 (Option.bind (idx a0.1 a1.2.1) fun x17 =>
 (Option.bind (idx x17 a1.2.2.1) fun x18 =>
 (cond (x18 != (65535 : Int))
 (some ((([] : List (List Int)), ([] : List Int), ()), false, ()))
 (cond (inb (List.length r3.1.1) a1.2.1)
 (Option.bind r3.1.1[(Int.toNat a1.2.1)]? fun x19 =>
 (cond (inb (List.length x19) a1.2.2.1)
 (Option.bind x19[(Int.toNat a1.2.2.1)]? fun x20 =>
 (some (((List.set r3.1.1 (Int.toNat a1.2.1) (List.set x19 (Int.toNat a1.2.2.1) a1.2.2.2.1)), r3.1.2), true, ())))
 none))
 none))))))))))))))

noncomputable def spec_CutSetting_6_R (t3 : Int) (t8 : Unit) (t10 : (List TFlashOp)) (t12 : Unit) (t13 : Int) (b8 : TFlash) (b12 : TFlash) : Option (((Int × (Unit × ((List TFlashOp) × (Unit × (Int × Unit))))) × (TFlash × (TFlash × Unit))) ⊕ (((Unit × (Unit × Unit)) × (TFlash × (TFlash × Unit))) ⊕ ((Unit × (Bool × Unit)) × (TFlash × Unit)))) :=
 (cond (decide (t13 < t3))
 (cond (inb (List.length t10) t13)
 (Option.bind t10[(Int.toNat t13)]? fun x8 =>
 (Option.bind (spec_DoFlash (b12.1, b12.2.1, ()) x8) fun r9 =>
 (cond (!r9.2.1)
 (some (.inr (.inr (((), false, ()), ((([] : List (List Int)), ([] : List Int), ()), ())))))
 (some (.inl ((t3, (), t10, (), (Go.IntKind.wrap .i64 (t13 + (1 : Int))), ()), ((b8.1, b8.2.1, ()), r9.1, ())))))))
 none)
 (some (.inr (.inl (((), (), ()), ((b8.1, b8.2.1, ()), (b12.1, b12.2.1, ()), ()))))))
noncomputable def spec_CutSetting_6_loop (x : ((Int × (Unit × ((List TFlashOp) × (Unit × (Int × Unit))))) × (TFlash × (TFlash × Unit)))) : Option (((Unit × (Unit × Unit)) × (TFlash × (TFlash × Unit))) ⊕ ((Unit × (Bool × Unit)) × (TFlash × Unit))) := loopF (fun x : ((Int × (Unit × ((List TFlashOp) × (Unit × (Int × Unit))))) × (TFlash × (TFlash × Unit))) => spec_CutSetting_6_R x.1.1 x.1.2.1 x.1.2.2.1 x.1.2.2.2.1 x.1.2.2.2.2.1 x.2.1 x.2.2.1) x
noncomputable def spec_CutSetting (a0 : TFlash) (a1 : Int) (a2 : Int) (a3 : Int) : Option (TFlash × (Bool × Unit)) :=
 (Option.bind (spec_SettingOps a0 a1 a2) fun r1 =>
 (cond (!r1.2.1)
 (some ((([] : List (List Int)), ([] : List Int), ()), false, ()))
 (Option.bind (spec_l1In a3 (0 : Int) ((List.length r1.1 : Nat) : Int)) fun r2 =>
 (cond (!r2.1)
 (some ((([] : List (List Int)), ([] : List Int), ()), false, ()))
 (Option.bind (spec_l14Copy a0) fun r3 =>
 (Option.bind (spec_CutSetting_6_loop ((a3, (), r1.1, (), (0 : Int), ()), ((([] : List (List Int)), ([] : List Int), ()), r3.1, ()))) (Sum.elim (fun y10 => (some ((y10.2.2.1.1, y10.2.2.1.2.1, ()), true, ()))) (fun z11 => (some ((z11.2.1.1, z11.2.1.2.1, ()), z11.1.2.1, ()))))))))))

noncomputable def spec_WriteSetting (a0 : TFlash) (a1 : Int) (a2 : Int) : Option (TFlash × (Bool × Unit)) :=
 (Option.bind (spec_SettingOps a0 a1 a2) fun r1 =>
 (Option.bind (spec_CutSetting a0 a1 a2 ((List.length r1.1 : Nat) : Int)) fun r2 =>
 (some (r2.1, r2.2.1, ()))))

noncomputable def spec_SaveOps_7_R (t6 : (List TFlashOp)) (t7 : Unit) (t8 : (List Int)) (t9 : Int) (b7 : TFlash) : Option ((((List TFlashOp) × (Unit × ((List Int) × (Int × Unit)))) × (TFlash × Unit)) ⊕ ((((List TFlashOp) × Unit) × Unit) ⊕ (((List TFlashOp) × (Bool × Unit)) × Unit))) :=
 (cond (decide (t9 < ((List.length t8 : Nat) : Int)))
 (Option.bind (spec_ReadSetting b7 t9) fun r33 =>
 (cond r33.2.1
 (cond (inb (List.length t8) t9)
 (Option.bind t8[(Int.toNat t9)]? fun x34 =>
 (cond (r33.1 == x34)
 (some (.inl ((t6, (), t8, (Go.IntKind.wrap .i64 (t9 + (1 : Int))), ()), (b7, ()))))
 (cond (inb (List.length t8) t9)
 (Option.bind t8[(Int.toNat t9)]? fun x35 =>
 (Option.bind (spec_SettingOps b7 t9 x35) fun r36 =>
 (cond (inb (List.length t8) t9)
 (Option.bind t8[(Int.toNat t9)]? fun x37 =>
 (Option.bind (spec_WriteSetting b7 t9 x37) fun r38 =>
 (cond (!r36.2.1)
 (some (.inr (.inr ((([] : List TFlashOp), false, ()), ()))))
 (cond (!r38.2.1)
 (some (.inr (.inr ((([] : List TFlashOp), false, ()), ()))))
 (cond (Nat.ble (List.length t6 + List.length r36.1) lim)
 (some (.inl (((List.append t6 r36.1), (), t8, (Go.IntKind.wrap .i64 (t9 + (1 : Int))), ()), (r38.1, ()))))
 none)))))
 none)))
 none)))
 none)
 (cond (inb (List.length t8) t9)
 (Option.bind t8[(Int.toNat t9)]? fun x39 =>
 (Option.bind (spec_SettingOps b7 t9 x39) fun r40 =>
 (cond (inb (List.length t8) t9)
 (Option.bind t8[(Int.toNat t9)]? fun x41 =>
 (Option.bind (spec_WriteSetting b7 t9 x41) fun r42 =>
 (cond (!r40.2.1)
 (some (.inr (.inr ((([] : List TFlashOp), false, ()), ()))))
 (cond (!r42.2.1)
 (some (.inr (.inr ((([] : List TFlashOp), false, ()), ()))))
 (cond (Nat.ble (List.length t6 + List.length r40.1) lim)
 (some (.inl (((List.append t6 r40.1), (), t8, (Go.IntKind.wrap .i64 (t9 + (1 : Int))), ()), (r42.1, ()))))
 none)))))
 none)))
 none)))
 (some (.inr (.inl ((t6, ()), ())))))
noncomputable def spec_SaveOps_7_loop (x : (((List TFlashOp) × (Unit × ((List Int) × (Int × Unit)))) × (TFlash × Unit))) : Option ((((List TFlashOp) × Unit) × Unit) ⊕ (((List TFlashOp) × (Bool × Unit)) × Unit)) := loopF (fun x : (((List TFlashOp) × (Unit × ((List Int) × (Int × Unit)))) × (TFlash × Unit)) => spec_SaveOps_7_R x.1.1 x.1.2.1 x.1.2.2.1 x.1.2.2.2.1 x.2.1) x
noncomputable def spec_SaveOps (a0 : TFlash) (a1 : TStep) : Option ((List TFlashOp) × (Bool × Unit)) :=
 (Option.bind (spec_IsTiming a1) fun r1 =>
 (cond (!r1.1)
 (some (([] : List TFlashOp), false, ()))
 (Option.bind (spec_ActivePage a0) fun r2 =>
 (cond (decide (r2.1 < (0 : Int)))
 (some (([] : List TFlashOp), false, ()))
 (Option.bind (spec_SaveOps_7_loop ((([] : List TFlashOp), (), ([a1.1, a1.2.1, a1.2.2.1] : List Int), (0 : Int), ()), (a0, ()))) (Sum.elim (fun y43 => (some (y43.1.1, true, ()))) (fun z44 => (some (z44.1.1, z44.1.2.1, ())))))))))

noncomputable def spec_CutSave_6_R (t2 : Int) (t6 : Unit) (t8 : (List TFlashOp)) (t10 : Unit) (t11 : Int) (b6 : TFlash) (b10 : TFlash) : Option (((Int × (Unit × ((List TFlashOp) × (Unit × (Int × Unit))))) × (TFlash × (TFlash × Unit))) ⊕ (((Unit × (Unit × Unit)) × (TFlash × (TFlash × Unit))) ⊕ ((Unit × (Bool × Unit)) × (TFlash × Unit)))) :=
 (cond (decide (t11 < t2))
 (cond (inb (List.length t8) t11)
 (Option.bind t8[(Int.toNat t11)]? fun x8 =>
 (Option.bind (spec_DoFlash (b10.1, b10.2.1, ()) x8) fun r9 =>
 (cond (!r9.2.1)
 (some (.inr (.inr (((), false, ()), ((([] : List (List Int)), ([] : List Int), ()), ())))))
 (some (.inl ((t2, (), t8, (), (Go.IntKind.wrap .i64 (t11 + (1 : Int))), ()), ((b6.1, b6.2.1, ()), r9.1, ())))))))
 none)
 (some (.inr (.inl (((), (), ()), ((b6.1, b6.2.1, ()), (b10.1, b10.2.1, ()), ()))))))
noncomputable def spec_CutSave_6_loop (x : ((Int × (Unit × ((List TFlashOp) × (Unit × (Int × Unit))))) × (TFlash × (TFlash × Unit)))) : Option (((Unit × (Unit × Unit)) × (TFlash × (TFlash × Unit))) ⊕ ((Unit × (Bool × Unit)) × (TFlash × Unit))) := loopF (fun x : ((Int × (Unit × ((List TFlashOp) × (Unit × (Int × Unit))))) × (TFlash × (TFlash × Unit))) => spec_CutSave_6_R x.1.1 x.1.2.1 x.1.2.2.1 x.1.2.2.2.1 x.1.2.2.2.2.1 x.2.1 x.2.2.1) x
noncomputable def spec_CutSave (a0 : TFlash) (a1 : TStep) (a2 : Int) : Option (TFlash × (Bool × Unit)) :=
 (Option.bind (spec_SaveOps a0 a1) fun r1 =>
 (cond (!r1.2.1)
 (some ((([] : List (List Int)), ([] : List Int), ()), false, ()))
 (Option.bind (spec_l1In a2 (0 : Int) ((List.length r1.1 : Nat) : Int)) fun r2 =>
 (cond (!r2.1)
 (some ((([] : List (List Int)), ([] : List Int), ()), false, ()))
 (Option.bind (spec_l14Copy a0) fun r3 =>
 (Option.bind (spec_CutSave_6_loop ((a2, (), r1.1, (), (0 : Int), ()), ((([] : List (List Int)), ([] : List Int), ()), r3.1, ()))) (Sum.elim (fun y10 => (some ((y10.2.2.1.1, y10.2.2.1.2.1, ()), true, ()))) (fun z11 => (some ((z11.2.1.1, z11.2.1.2.1, ()), z11.1.2.1, ()))))))))))

noncomputable def spec_SaveTiming (a0 : TFlash) (a1 : TStep) : Option (TFlash × (Bool × Unit)) :=
 (Option.bind (spec_SaveOps a0 a1) fun r1 =>
 (Option.bind (spec_CutSave a0 a1 ((List.length r1.1 : Nat) : Int)) fun r2 =>
 (some (r2.1, r2.2.1, ()))))

noncomputable def impl_FreeRecord_4_R (t1 : Int) (t2 : Unit) (t5 : Int) (b2 : TFlash) : Option (((Int × (Unit × (Int × Unit))) × (TFlash × Unit)) ⊕ (((Int × Unit) × Unit) ⊕ (Unit × Unit))) :=
 (cond (decide (t5 > (0 : Int)))
 (Option.bind (idx b2.1 t1) fun x10 =>
 (cond (cutOk (List.length x10) (Go.IntKind.wrap .i64 ((Go.IntKind.wrap .i64 ((3 : Int) * t5)) - (2 : Int))) (Go.IntKind.wrap .i64 ((Go.IntKind.wrap .i64 ((3 : Int) * t5)) + (1 : Int))))
 (Option.bind (idx (cutl x10 (Int.toNat (Go.IntKind.wrap .i64 ((Go.IntKind.wrap .i64 ((3 : Int) * t5)) - (2 : Int)))) (Int.toNat (Go.IntKind.wrap .i64 ((Go.IntKind.wrap .i64 ((3 : Int) * t5)) + (1 : Int))))) (0 : Int)) fun x11 =>
 (cond (x11 != (65535 : Int))
 (some (.inr (.inl ((t5, ()), ()))))
 (Option.bind (idx (cutl x10 (Int.toNat (Go.IntKind.wrap .i64 ((Go.IntKind.wrap .i64 ((3 : Int) * t5)) - (2 : Int)))) (Int.toNat (Go.IntKind.wrap .i64 ((Go.IntKind.wrap .i64 ((3 : Int) * t5)) + (1 : Int))))) (1 : Int)) fun x12 =>
 (cond (x12 != (65535 : Int))
 (some (.inr (.inl ((t5, ()), ()))))
 (Option.bind (idx (cutl x10 (Int.toNat (Go.IntKind.wrap .i64 ((Go.IntKind.wrap .i64 ((3 : Int) * t5)) - (2 : Int)))) (Int.toNat (Go.IntKind.wrap .i64 ((Go.IntKind.wrap .i64 ((3 : Int) * t5)) + (1 : Int))))) (2 : Int)) fun x13 =>
 (cond (x13 != (65535 : Int))
 (some (.inr (.inl ((t5, ()), ()))))
 (some (.inl ((t1, (), (Go.IntKind.wrap .i64 (t5 - (1 : Int))), ()), (b2, ()))))))))))
 none))
 (some (.inr (.inl ((t5, ()), ())))))
noncomputable def impl_FreeRecord_4_loop (x : ((Int × (Unit × (Int × Unit))) × (TFlash × Unit))) : Option (((Int × Unit) × Unit) ⊕ (Unit × Unit)) := loopF (fun x : ((Int × (Unit × (Int × Unit))) × (TFlash × Unit)) => impl_FreeRecord_4_R x.1.1 x.1.2.1 x.1.2.2.1 x.2.1) x
noncomputable def impl_FreeRecord (a0 : TFlash) (a1 : Int) : Option (Int × Unit) :=
 (Option.bind (impl_IsFlash a0) fun r1 =>
 (cond (!r1.1)
 (some ((-1 : Int), ()))
 (cond (decide (a1 < (0 : Int)))
 (some ((-1 : Int), ()))
 (cond (decide (a1 > (1 : Int)))
 (some ((-1 : Int), ()))
 (Option.bind (impl_FreeRecord_4_loop ((a1, (), (6 : Int), ()), (a0, ()))) (Sum.elim (fun y14 => (some (y14.1.1, ()))) (fun z15 => none)))))))

noncomputable def impl_recordOps_3_R (t0 : Int) (t1 : Int) (t11 : (List TFlashOp)) (t20 : (List Int)) (t21 : Int) (t22 : Int) : Option (((Int × (Int × ((List TFlashOp) × ((List Int) × TCombo)))) × Unit) ⊕ ((((List TFlashOp) × Unit) × Unit) ⊕ (Unit × Unit))) :=
 (cond (decide (t22 < t21))
 (cond (inb (List.length t20) t22)
 (Option.bind t20[(Int.toNat t22)]? fun x5 =>
 (cond (Nat.ble (List.length t11 + List.length ([(false, t0, (Go.IntKind.wrap .i64 ((Go.IntKind.wrap .i64 ((1 : Int) + (Go.IntKind.wrap .i64 ((3 : Int) * t1)))) + t22)), x5, ())] : List TFlashOp)) lim)
 (some (.inl ((t0, t1, (List.append t11 ([(false, t0, (Go.IntKind.wrap .i64 ((Go.IntKind.wrap .i64 ((1 : Int) + (Go.IntKind.wrap .i64 ((3 : Int) * t1)))) + t22)), x5, ())] : List TFlashOp)), t20, t21, (Go.IntKind.wrap .i64 (t22 + (1 : Int))), ()), ())))
 none))
 none)
 (some (.inr (.inl ((t11, ()), ())))))
noncomputable def impl_recordOps_3_loop (x : ((Int × (Int × ((List TFlashOp) × ((List Int) × TCombo)))) × Unit)) : Option ((((List TFlashOp) × Unit) × Unit) ⊕ (Unit × Unit)) := loopF (fun x : ((Int × (Int × ((List TFlashOp) × ((List Int) × TCombo)))) × Unit) => impl_recordOps_3_R x.1.1 x.1.2.1 x.1.2.2.1 x.1.2.2.2.1 x.1.2.2.2.2.1 x.1.2.2.2.2.2.1) x
noncomputable def impl_recordOps (a0 : Int) (a1 : Int) (a2 : Int) (a3 : Int) (a4 : Int) : Option ((List TFlashOp) × Unit) :=
 (Option.bind (impl_CheckOf a2 a3 a4) fun r1 =>
 (Option.bind (impl_recordOps_3_loop ((a0, a1, ([] : List TFlashOp), ([a2, a3, r1.1] : List Int), ((List.length ([a2, a3, r1.1] : List Int) : Nat) : Int), (0 : Int), ()), ())) (Sum.elim (fun y6 => (some (y6.1.1, ()))) (fun z7 => none))))

noncomputable def impl_SettingOps_14_R (t1 : Int) (t2 : Int) (t3 : Unit) (t9 : Int) (t11 : Int) (t12 : (List TFlashOp)) (t13 : Int) (t60 : Int) (b3 : TFlash) : Option (((Int × (Int × (Unit × (Int × (Int × ((List TFlashOp) × TCombo)))))) × (TFlash × Unit)) ⊕ (((Int × (Int × ((List TFlashOp) × Unit))) × Unit) ⊕ (Unit × Unit))) :=
 (cond (decide (t60 < (4 : Int)))
 (Option.bind (impl_ReadSetting b3 t60) fun r14 =>
 (cond (t60 == t1)
 (Option.bind (impl_recordOps t11 t13 t60 t2 (Go.IntKind.wrap .i64 (t9 + (1 : Int)))) fun r15 =>
 (cond (Nat.ble (List.length t12 + List.length r15.1) lim)
 (some (.inl ((t1, t2, (), t9, t11, (List.append t12 r15.1), (Go.IntKind.wrap .i64 (t13 + (1 : Int))), (Go.IntKind.wrap .i64 (t60 + (1 : Int))), ()), (b3, ()))))
 none))
 (cond r14.2.1
 (Option.bind (impl_recordOps t11 t13 t60 r14.1 (Go.IntKind.wrap .i64 (t9 + (1 : Int)))) fun r16 =>
 (cond (Nat.ble (List.length t12 + List.length r16.1) lim)
 (some (.inl ((t1, t2, (), t9, t11, (List.append t12 r16.1), (Go.IntKind.wrap .i64 (t13 + (1 : Int))), (Go.IntKind.wrap .i64 (t60 + (1 : Int))), ()), (b3, ()))))
 none))
 (some (.inl ((t1, t2, (), t9, t11, t12, t13, (Go.IntKind.wrap .i64 (t60 + (1 : Int))), ()), (b3, ())))))))
 (some (.inr (.inl ((t9, t11, t12, ()), ())))))
noncomputable def impl_SettingOps_14_loop (x : ((Int × (Int × (Unit × (Int × (Int × ((List TFlashOp) × TCombo)))))) × (TFlash × Unit))) : Option (((Int × (Int × ((List TFlashOp) × Unit))) × Unit) ⊕ (Unit × Unit)) := loopF (fun x : ((Int × (Int × (Unit × (Int × (Int × ((List TFlashOp) × TCombo)))))) × (TFlash × Unit)) => impl_SettingOps_14_R x.1.1 x.1.2.1 x.1.2.2.1 x.1.2.2.2.1 x.1.2.2.2.2.1 x.1.2.2.2.2.2.1 x.1.2.2.2.2.2.2.1 x.1.2.2.2.2.2.2.2.1 x.2.1) x
noncomputable def impl_SettingOps (a0 : TFlash) (a1 : Int) (a2 : Int) : Option ((List TFlashOp) × (Bool × Unit)) :=
 (Option.bind (impl_ActivePage a0) fun r1 =>
 (cond (decide (r1.1 < (0 : Int)))
 (some (([] : List TFlashOp), false, ()))
 (Option.bind (impl_isSetting a1 a2) fun r2 =>
 (cond (!r2.1)
 (some (([] : List TFlashOp), false, ()))
 (Option.bind (idx a0.1 r1.1) fun x3 =>
 (Option.bind (idx x3 (0 : Int)) fun x4 =>
 (Option.bind (impl_FreeRecord a0 r1.1) fun r5 =>
 (cond (decide (r5.1 < (6 : Int)))
 (Option.bind (impl_recordOps r1.1 r5.1 a1 a2 x4) fun r6 =>
 (some (r6.1, true, ())))
 (cond (decide (x4 ≥ (60000 : Int)))
 (some (([] : List TFlashOp), false, ()))
 (Option.bind (idx a0.2.1 (Go.IntKind.wrap .i64 ((1 : Int) - r1.1))) fun x7 =>
 (cond (decide (x7 ≥ (1000 : Int)))
 (some (([] : List TFlashOp), false, ()))
 (Option.bind (impl_SettingOps_14_loop ((a1, a2, (), x4, (Go.IntKind.wrap .i64 ((1 : Int) - r1.1)), ([(true, (Go.IntKind.wrap .i64 ((1 : Int) - r1.1)), (0 : Int), (0 : Int), ())] : List TFlashOp), (0 : Int), (0 : Int), ()), (a0, ()))) (Sum.elim (fun y17 => (cond (Nat.ble (List.length y17.1.2.2.1 + List.length ([(false, y17.1.2.1, (0 : Int), (Go.IntKind.wrap .i64 (y17.1.1 + (1 : Int))), ())] : List TFlashOp)) lim)
 (some ((List.append y17.1.2.2.1 ([(false, y17.1.2.1, (0 : Int), (Go.IntKind.wrap .i64 (y17.1.1 + (1 : Int))), ())] : List TFlashOp)), true, ()))
 none)) (fun z18 => none))))))))))))))

noncomputable def impl_copyFlash_3_R (t2 : Unit) (t3 : Unit) (t11 : (List (List Int))) (t12 : Int) (t13 : Int) (b2 : TFlash) (b3 : TFlash) : Option (((Unit × (Unit × ((List (List Int)) × TCombo))) × (TFlash × (TFlash × Unit))) ⊕ (((Unit × (Unit × Unit)) × (TFlash × (TFlash × Unit))) ⊕ (Unit × Unit))) :=
 (cond (decide (t13 < t12))
 (Option.bind (idx t11 t13) fun x8 =>
 (Option.bind (impl_copyInts x8) fun r9 =>
 (cond (Nat.ble (List.length b3.1 + List.length ([r9.1] : List (List Int))) lim)
 (some (.inl (((), (), t11, t12, (Go.IntKind.wrap .i64 (t13 + (1 : Int))), ()), ((b2.1, b2.2.1, ()), ((List.append b3.1 ([r9.1] : List (List Int))), b3.2.1, ()), ()))))
 none)))
 (some (.inr (.inl (((), (), ()), ((b2.1, b2.2.1, ()), (b3.1, b3.2.1, ()), ()))))))
noncomputable def impl_copyFlash_3_loop (x : ((Unit × (Unit × ((List (List Int)) × TCombo))) × (TFlash × (TFlash × Unit)))) : Option (((Unit × (Unit × Unit)) × (TFlash × (TFlash × Unit))) ⊕ (Unit × Unit)) := loopF (fun x : ((Unit × (Unit × ((List (List Int)) × TCombo))) × (TFlash × (TFlash × Unit))) => impl_copyFlash_3_R x.1.1 x.1.2.1 x.1.2.2.1 x.1.2.2.2.1 x.1.2.2.2.2.1 x.2.1 x.2.2.1) x
noncomputable def impl_copyFlash (a0 : TFlash) : Option (TFlash × Unit) :=
 (Option.bind (impl_copyInts a0.2.1) fun r1 =>
 (Option.bind (impl_copyFlash_3_loop (((), (), a0.1, ((List.length a0.1 : Nat) : Int), (0 : Int), ()), ((([] : List (List Int)), ([] : List Int), ()), (([] : List (List Int)), r1.1, ()), ()))) (Sum.elim (fun y10 => (some ((y10.2.2.1.1, y10.2.2.1.2.1, ()), ()))) (fun z11 => none))))

noncomputable def impl_DoFlash_9_R (t3 : Unit) (t4 : Unit) (t6 : Unit) (t7 : (List Int)) (t58 : Int) (t59 : Int) (b3 : TFlashOp) (b4 : TFlash) (b6 : (((List (List Int)) × (Int × ((List Int) × (List Int)))) × ((List Int) × Unit))) : Option (((Unit × (Unit × (Unit × ((List Int) × TCombo)))) × (TFlashOp × (TFlash × ((((List (List Int)) × (Int × ((List Int) × (List Int)))) × ((List Int) × Unit)) × Unit)))) ⊕ (((Unit × (Unit × (Unit × Unit))) × (TFlashOp × (TFlash × ((((List (List Int)) × (Int × ((List Int) × (List Int)))) × ((List Int) × Unit)) × Unit)))) ⊕ (Unit × Unit))) :=
 (cond (decide (t59 < t58))
 (cond (inb (List.length t7) t59)
 (Option.bind t7[(Int.toNat t59)]? fun x16 =>
 (some (.inl (((), (), (), (List.set t7 (Int.toNat t59) (65535 : Int)), t58, (Go.IntKind.wrap .i64 (t59 + (1 : Int))), ()), (b3, (b4.1, b4.2.1, ()), ((b6.1.1, (((Int.toNat b6.1.2.1) : Nat) : Int), b6.1.2.2.1, (List.set t7 (Int.toNat t59) (65535 : Int))), b6.2.1, ()), ())))))
 none)
 (some (.inr (.inl (((), (), (), ()), (b3, (b4.1, b4.2.1, ()), ((b6.1.1, (((Int.toNat b6.1.2.1) : Nat) : Int), b6.1.2.2.1, t7), b6.2.1, ()), ()))))))
noncomputable def impl_DoFlash_9_loop (x : ((Unit × (Unit × (Unit × ((List Int) × TCombo)))) × (TFlashOp × (TFlash × ((((List (List Int)) × (Int × ((List Int) × (List Int)))) × ((List Int) × Unit)) × Unit))))) : Option (((Unit × (Unit × (Unit × Unit))) × (TFlashOp × (TFlash × ((((List (List Int)) × (Int × ((List Int) × (List Int)))) × ((List Int) × Unit)) × Unit)))) ⊕ (Unit × Unit)) := loopF (fun x : ((Unit × (Unit × (Unit × ((List Int) × TCombo)))) × (TFlashOp × (TFlash × ((((List (List Int)) × (Int × ((List Int) × (List Int)))) × ((List Int) × Unit)) × Unit)))) => impl_DoFlash_9_R x.1.1 x.1.2.1 x.1.2.2.1 x.1.2.2.2.1 x.1.2.2.2.2.1 x.1.2.2.2.2.2.1 x.2.1 x.2.2.1 x.2.2.2.1) x
noncomputable def impl_DoFlash (a0 : TFlash) (a1 : TFlashOp) : Option (TFlash × (Bool × Unit)) :=
 (Option.bind (impl_IsFlash a0) fun r1 =>
 (cond (!r1.1)
 (some ((([] : List (List Int)), ([] : List Int), ()), false, ()))
 (cond (decide (a1.2.1 < (0 : Int)))
 (some ((([] : List (List Int)), ([] : List Int), ()), false, ()))
 (cond (decide (a1.2.1 > (1 : Int)))
 (some ((([] : List (List Int)), ([] : List Int), ()), false, ()))
 (Option.bind (impl_copyFlash a0) fun r2 =>
 (cond (inb (List.length r2.1.1) a1.2.1)
 (Option.bind r2.1.1[(Int.toNat a1.2.1)]? fun x3 =>
 (cond a1.1
 (cond (a1.2.2.1 != (0 : Int))
 (some ((([] : List (List Int)), ([] : List Int), ()), false, ()))
 (cond (a1.2.2.2.1 != (0 : Int))
 (some ((([] : List (List Int)), ([] : List Int), ()), false, ()))
 (cond (inb (List.length r2.1.2.1) a1.2.1)
 (Option.bind r2.1.2.1[(Int.toNat a1.2.1)]? fun x4 =>
 (cond (decide (x4 ≥ (1000 : Int)))
 (some ((([] : List (List Int)), ([] : List Int), ()), false, ()))
 (cond a1.1
 (Option.bind (impl_DoFlash_9_loop (((), (), (), x3, ((List.length x3 : Nat) : Int), (0 : Int), ()), (a1, (([] : List (List Int)), ([] : List Int), ()), ((r2.1.1, (((Int.toNat a1.2.1) : Nat) : Int), x3, x3), r2.1.2), ()))) (Sum.elim (fun y8 => (cond (inb (List.length y8.2.2.2.1.2.1) y8.2.1.2.1)
 (Option.bind y8.2.2.2.1.2.1[(Int.toNat y8.2.1.2.1)]? fun x10 =>
 (cond (inb (List.length y8.2.2.2.1.2.1) y8.2.1.2.1)
 (Option.bind y8.2.2.2.1.2.1[(Int.toNat y8.2.1.2.1)]? fun x11 =>
 (some (((List.set y8.2.2.2.1.1.1 (Int.toNat y8.2.2.2.1.1.2.1) y8.2.2.2.1.1.2.2.2), (List.set y8.2.2.2.1.2.1 (Int.toNat y8.2.1.2.1) (Go.IntKind.wrap .i64 (x10 + (1 : Int)))), ()), true, ())))
 none))
 none)) (fun z9 => none)))
 (cond (decide (a1.2.2.1 < (0 : Int)))
 (some ((([] : List (List Int)), ([] : List Int), ()), false, ()))
 (cond (decide (a1.2.2.1 ≥ (19 : Int)))
 (some ((([] : List (List Int)), ([] : List Int), ()), false, ()))
 (cond (decide (a1.2.2.2.1 < (0 : Int)))
 (some ((([] : List (List Int)), ([] : List Int), ()), false, ()))
 (cond (decide (a1.2.2.2.1 ≥ (65535 : Int)))
 (some ((([] : List (List Int)), ([] : List Int), ()), false, ()))
 (cond (inb (List.length x3) a1.2.2.1)
 (Option.bind x3[(Int.toNat a1.2.2.1)]? fun x12 =>
 (cond (x12 != (65535 : Int))
 (some ((([] : List (List Int)), ([] : List Int), ()), false, ()))
 (cond (inb (List.length x3) a1.2.2.1)
 (Option.bind x3[(Int.toNat a1.2.2.1)]? fun x13 =>
 (some (((List.set r2.1.1 (Int.toNat a1.2.1) (List.set x3 (Int.toNat a1.2.2.1) a1.2.2.2.1)), r2.1.2), true, ())))
 none)))
 none))))))))
 none)))
 (cond a1.1
 (Option.bind (impl_DoFlash_9_loop (((), (), (), x3, ((List.length x3 : Nat) : Int), (0 : Int), ()), (a1, (([] : List (List Int)), ([] : List Int), ()), ((r2.1.1, (((Int.toNat a1.2.1) : Nat) : Int), x3, x3), r2.1.2), ()))) (Sum.elim (fun y17 => (cond (inb (List.length y17.2.2.2.1.2.1) y17.2.1.2.1)
 (Option.bind y17.2.2.2.1.2.1[(Int.toNat y17.2.1.2.1)]? fun x19 =>
 (cond (inb (List.length y17.2.2.2.1.2.1) y17.2.1.2.1)
 (Option.bind y17.2.2.2.1.2.1[(Int.toNat y17.2.1.2.1)]? fun x20 =>
 (some (((List.set y17.2.2.2.1.1.1 (Int.toNat y17.2.2.2.1.1.2.1) y17.2.2.2.1.1.2.2.2), (List.set y17.2.2.2.1.2.1 (Int.toNat y17.2.1.2.1) (Go.IntKind.wrap .i64 (x19 + (1 : Int)))), ()), true, ())))
 none))
 none)) (fun z18 => none)))
 (cond (decide (a1.2.2.1 < (0 : Int)))
 (some ((([] : List (List Int)), ([] : List Int), ()), false, ()))
 (cond (decide (a1.2.2.1 ≥ (19 : Int)))
 (some ((([] : List (List Int)), ([] : List Int), ()), false, ()))
 (cond (decide (a1.2.2.2.1 < (0 : Int)))
 (some ((([] : List (List Int)), ([] : List Int), ()), false, ()))
 (cond (decide (a1.2.2.2.1 ≥ (65535 : Int)))
 (some ((([] : List (List Int)), ([] : List Int), ()), false, ()))
 (cond (inb (List.length x3) a1.2.2.1)
 (Option.bind x3[(Int.toNat a1.2.2.1)]? fun x21 =>
 (cond (x21 != (65535 : Int))
 (some ((([] : List (List Int)), ([] : List Int), ()), false, ()))
 (cond (inb (List.length x3) a1.2.2.1)
 (Option.bind x3[(Int.toNat a1.2.2.1)]? fun x22 =>
 (some (((List.set r2.1.1 (Int.toNat a1.2.1) (List.set x3 (Int.toNat a1.2.2.1) a1.2.2.2.1)), r2.1.2), true, ())))
 none)))
 none))))))))
 none))))))

noncomputable def impl_doOps_3_R (t4 : Unit) (t6 : Unit) (t13 : (List TFlashOp)) (t14 : Int) (t15 : Int) (b4 : TFlash) (b6 : TFlash) : Option (((Unit × (Unit × ((List TFlashOp) × TCombo))) × (TFlash × (TFlash × Unit))) ⊕ (((Unit × (Unit × Unit)) × (TFlash × (TFlash × Unit))) ⊕ ((Unit × (Bool × Unit)) × (TFlash × Unit)))) :=
 (cond (decide (t15 < t14))
 (Option.bind (idx t13 t15) fun x6 =>
 (Option.bind (impl_DoFlash (b6.1, b6.2.1, ()) x6) fun r7 =>
 (cond (!r7.2.1)
 (some (.inr (.inr (((), false, ()), ((([] : List (List Int)), ([] : List Int), ()), ())))))
 (some (.inl (((), (), t13, t14, (Go.IntKind.wrap .i64 (t15 + (1 : Int))), ()), ((b4.1, b4.2.1, ()), r7.1, ())))))))
 (some (.inr (.inl (((), (), ()), ((b4.1, b4.2.1, ()), (b6.1, b6.2.1, ()), ()))))))
noncomputable def impl_doOps_3_loop (x : ((Unit × (Unit × ((List TFlashOp) × TCombo))) × (TFlash × (TFlash × Unit)))) : Option (((Unit × (Unit × Unit)) × (TFlash × (TFlash × Unit))) ⊕ ((Unit × (Bool × Unit)) × (TFlash × Unit))) := loopF (fun x : ((Unit × (Unit × ((List TFlashOp) × TCombo))) × (TFlash × (TFlash × Unit))) => impl_doOps_3_R x.1.1 x.1.2.1 x.1.2.2.1 x.1.2.2.2.1 x.1.2.2.2.2.1 x.2.1 x.2.2.1) x
noncomputable def impl_doOps (a0 : TFlash) (a1 : (List TFlashOp)) : Option (TFlash × (Bool × Unit)) :=
 (Option.bind (impl_copyFlash a0) fun r1 =>
 (Option.bind (impl_doOps_3_loop (((), (), a1, ((List.length a1 : Nat) : Int), (0 : Int), ()), ((([] : List (List Int)), ([] : List Int), ()), r1.1, ()))) (Sum.elim (fun y8 => (some ((y8.2.2.1.1, y8.2.2.1.2.1, ()), true, ()))) (fun z9 => (some ((z9.2.1.1, z9.2.1.2.1, ()), z9.1.2.1, ()))))))

noncomputable def impl_SaveOps_5_R (t2 : Unit) (t6 : (List TFlashOp)) (t27 : (List Int)) (t28 : Int) (t29 : Int) (b2 : TFlash) : Option (((Unit × ((List TFlashOp) × ((List Int) × TCombo))) × (TFlash × Unit)) ⊕ ((((List TFlashOp) × Unit) × Unit) ⊕ (((List TFlashOp) × (Bool × Unit)) × Unit))) :=
 (cond (decide (t29 < t28))
 (cond (inb (List.length t27) t29)
 (Option.bind t27[(Int.toNat t29)]? fun x21 =>
 (Option.bind (impl_ReadSetting b2 t29) fun r22 =>
 (cond r22.2.1
 (cond (r22.1 == x21)
 (some (.inl (((), t6, t27, t28, (Go.IntKind.wrap .i64 (t29 + (1 : Int))), ()), (b2, ()))))
 (Option.bind (impl_SettingOps b2 t29 x21) fun r23 =>
 (cond (!r23.2.1)
 (some (.inr (.inr ((([] : List TFlashOp), false, ()), ()))))
 (cond (Nat.ble (List.length t6 + List.length r23.1) lim)
 (Option.bind (impl_doOps b2 r23.1) fun r24 =>
 (some (.inl (((), (List.append t6 r23.1), t27, t28, (Go.IntKind.wrap .i64 (t29 + (1 : Int))), ()), (r24.1, ())))))
 none))))
 (Option.bind (impl_SettingOps b2 t29 x21) fun r25 =>
 (cond (!r25.2.1)
 (some (.inr (.inr ((([] : List TFlashOp), false, ()), ()))))
 (cond (Nat.ble (List.length t6 + List.length r25.1) lim)
 (Option.bind (impl_doOps b2 r25.1) fun r26 =>
 (some (.inl (((), (List.append t6 r25.1), t27, t28, (Go.IntKind.wrap .i64 (t29 + (1 : Int))), ()), (r26.1, ())))))
 none))))))
 none)
 (some (.inr (.inl ((t6, ()), ())))))
noncomputable def impl_SaveOps_5_loop (x : ((Unit × ((List TFlashOp) × ((List Int) × TCombo))) × (TFlash × Unit))) : Option ((((List TFlashOp) × Unit) × Unit) ⊕ (((List TFlashOp) × (Bool × Unit)) × Unit)) := loopF (fun x : ((Unit × ((List TFlashOp) × ((List Int) × TCombo))) × (TFlash × Unit)) => impl_SaveOps_5_R x.1.1 x.1.2.1 x.1.2.2.1 x.1.2.2.2.1 x.1.2.2.2.2.1 x.2.1) x
noncomputable def impl_SaveOps (a0 : TFlash) (a1 : TStep) : Option ((List TFlashOp) × (Bool × Unit)) :=
 (Option.bind (impl_IsTiming a1) fun r1 =>
 (cond (!r1.1)
 (some (([] : List TFlashOp), false, ()))
 (Option.bind (impl_ActivePage a0) fun r2 =>
 (cond (decide (r2.1 < (0 : Int)))
 (some (([] : List TFlashOp), false, ()))
 (Option.bind (impl_SaveOps_5_loop (((), ([] : List TFlashOp), ([a1.1, a1.2.1, a1.2.2.1] : List Int), ((List.length ([a1.1, a1.2.1, a1.2.2.1] : List Int) : Nat) : Int), (0 : Int), ()), (a0, ()))) (Sum.elim (fun y27 => (some (y27.1.1, true, ()))) (fun z28 => (some (z28.1.1, z28.1.2.1, ())))))))))

noncomputable def impl_CutSave (a0 : TFlash) (a1 : TStep) (a2 : Int) : Option (TFlash × (Bool × Unit)) :=
 (Option.bind (impl_SaveOps a0 a1) fun r1 =>
 (cond (!r1.2.1)
 (some ((([] : List (List Int)), ([] : List Int), ()), false, ()))
 (cond (decide (a2 < (0 : Int)))
 (some ((([] : List (List Int)), ([] : List Int), ()), false, ()))
 (cond (decide (a2 > ((List.length r1.1 : Nat) : Int)))
 (some ((([] : List (List Int)), ([] : List Int), ()), false, ()))
 (cond (cutOk (List.length r1.1) (0 : Int) a2)
 (Option.bind (impl_doOps a0 (cutl r1.1 (Int.toNat (0 : Int)) (Int.toNat a2))) fun r2 =>
 (some (r2.1, r2.2.1, ())))
 none)))))

noncomputable def impl_SaveTiming (a0 : TFlash) (a1 : TStep) : Option (TFlash × (Bool × Unit)) :=
 (Option.bind (impl_SaveOps a0 a1) fun r1 =>
 (cond (!r1.2.1)
 (some ((([] : List (List Int)), ([] : List Int), ()), false, ()))
 (Option.bind (impl_doOps a0 r1.1) fun r2 =>
 (some (r2.1, r2.2.1, ())))))

noncomputable def laws_toTiming (a0 : TStep) : Option (TStep × Unit) :=
 (some ((a0.1, a0.2.1, a0.2.2.1, ()), ()))

noncomputable def laws_markIntSS_2_R (t0 : (List (List Int))) (t1 : Int) (t5 : Int) : Option ((((List (List Int)) × TCombo) × Unit) ⊕ ((((List (List Int)) × (Int × Unit)) × Unit) ⊕ (Unit × Unit))) :=
 (cond (decide (t5 < ((List.length t0 : Nat) : Int)))
 (cond (inb (List.length t0) t5)
 (Option.bind t0[(Int.toNat t5)]? fun x5 =>
 (Option.bind (laws_markIntS x5 t1) fun r6 =>
 (some (.inl (((List.set t0 (Int.toNat t5) r6.1), r6.2.1, (Go.IntKind.wrap .i64 (t5 + (1 : Int))), ()), ())))))
 none)
 (some (.inr (.inl ((t0, t1, ()), ())))))
noncomputable def laws_markIntSS_2_loop (x : (((List (List Int)) × TCombo) × Unit)) : Option ((((List (List Int)) × (Int × Unit)) × Unit) ⊕ (Unit × Unit)) := loopF (fun x : (((List (List Int)) × TCombo) × Unit) => laws_markIntSS_2_R x.1.1 x.1.2.1 x.1.2.2.1) x
noncomputable def laws_markIntSS (a0 : (List (List Int))) (a1 : Int) : Option ((List (List Int)) × (Int × Unit)) :=
 (Option.bind (laws_markIntSS_2_loop ((a0, a1, (0 : Int), ()), ())) (Sum.elim (fun y7 => (some (y7.1.1, (y7.1.2.1, ())))) (fun z8 => none)))

noncomputable def laws_markFlash (a0 : TFlash) (a1 : Int) : Option (TFlash × (Int × Unit)) :=
 (Option.bind (laws_markIntSS a0.1 a1) fun r1 =>
 (Option.bind (laws_markIntS a0.2.1 r1.2.1) fun r2 =>
 (some ((r1.1, r2.1, ()), (r2.2.1, ())))))

noncomputable def laws_heldIntSS_2_R (t0 : (List (List Int))) (t1 : Int) (t5 : Int) : Option ((((List (List Int)) × TCombo) × Unit) ⊕ (((Int × Unit) × Unit) ⊕ ((Int × Unit) × Unit))) :=
 (cond (decide (t5 < ((List.length t0 : Nat) : Int)))
 (Option.bind (idx t0 t5) fun x5 =>
 (Option.bind (laws_heldIntS x5 t1) fun r6 =>
 (cond (decide (r6.1 < (0 : Int)))
 (some (.inr (.inr (((-1 : Int), ()), ()))))
 (some (.inl ((t0, r6.1, (Go.IntKind.wrap .i64 (t5 + (1 : Int))), ()), ()))))))
 (some (.inr (.inl ((t1, ()), ())))))
noncomputable def laws_heldIntSS_2_loop (x : (((List (List Int)) × TCombo) × Unit)) : Option (((Int × Unit) × Unit) ⊕ ((Int × Unit) × Unit)) := loopF (fun x : (((List (List Int)) × TCombo) × Unit) => laws_heldIntSS_2_R x.1.1 x.1.2.1 x.1.2.2.1) x
noncomputable def laws_heldIntSS (a0 : (List (List Int))) (a1 : Int) : Option (Int × Unit) :=
 (Option.bind (laws_heldIntSS_2_loop ((a0, a1, (0 : Int), ()), ())) (Sum.elim (fun y7 => (some (y7.1.1, ()))) (fun z8 => (some (z8.1.1, ())))))

noncomputable def laws_heldFlash (a0 : TFlash) (a1 : Int) : Option (Int × Unit) :=
 (Option.bind (laws_heldIntSS a0.1 a1) fun r1 =>
 (cond (decide (r1.1 < (0 : Int)))
 (some ((-1 : Int), ()))
 (Option.bind (laws_heldIntS a0.2.1 r1.1) fun r2 =>
 (cond (decide (r2.1 < (0 : Int)))
 (some ((-1 : Int), ()))
 (some (r2.1, ()))))))

noncomputable def laws_FnExactSaveTiming (a0 : TFlash) (a1 : TStep) : Option (Bool × Unit) :=
 (Option.bind (laws_szFlash a0 (1048576 : Int)) fun r1 =>
 (cond (decide (r1.1 < (0 : Int)))
 (some (true, ()))
 (Option.bind (laws_toFlash a0) fun r2 =>
 (Option.bind (laws_toTiming a1) fun r3 =>
 (Option.bind (spec_SaveTiming r2.1 r3.1) fun r4 =>
 (Option.bind (laws_toFlash a0) fun r5 =>
 (Option.bind (laws_toTiming a1) fun r6 =>
 (Option.bind (impl_SaveTiming r5.1 r6.1) fun r7 =>
 (Option.bind (laws_eqFlash r7.1 r4.1) fun r8 =>
 (cond (!r8.1)
 (some (false, ()))
 (cond (r7.2.1 != r4.2.1)
 (some (false, ()))
 (Option.bind (laws_toFlash a0) fun r9 =>
 (Option.bind (laws_eqFlash r5.1 r9.1) fun r10 =>
 (cond (!r10.1)
 (some (false, ()))
 (Option.bind (laws_markFlash r5.1 (1 : Int)) fun r11 =>
 (cond (decide (r11.2.1 < (0 : Int)))
 (some (false, ()))
 (Option.bind (laws_eqFlash r7.1 r4.1) fun r12 =>
 (cond (!r12.1)
 (some (false, ()))
 (cond (r7.2.1 != r4.2.1)
 (some (false, ()))
 (Option.bind (laws_markFlash r7.1 (1 : Int)) fun r13 =>
 (Option.bind (laws_heldFlash (r13.1.1, r13.1.2.1, ()) (1 : Int)) fun r14 =>
 (cond (decide (r14.1 < (0 : Int)))
 (some (false, ()))
 (cond (r14.1 != r13.2.1)
 (some (false, ()))
 (Option.bind (laws_toFlash a0) fun r15 =>
 (Option.bind (laws_toTiming a1) fun r16 =>
 (Option.bind (impl_SaveTiming r15.1 r16.1) fun r17 =>
 (Option.bind (laws_eqFlash r17.1 r4.1) fun r18 =>
 (cond (!r18.1)
 (some (false, ()))
 (cond (r17.2.1 != r4.2.1)
 (some (false, ()))
 (Option.bind (laws_heldFlash (r13.1.1, r13.1.2.1, ()) (1 : Int)) fun r19 =>
 (cond (decide (r19.1 < (0 : Int)))
 (some (false, ()))
 (cond (r19.1 != r13.2.1)
 (some (false, ()))
 (some (true, ()))))))))))))))))))))))))))))))))))
end KF
