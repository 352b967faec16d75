/- The plain functions that the Go functions compute: definitions alone (no condition). -/
import Derived.Test.YtabfbdolbfnfcaaCb
namespace KF
open Go
set_option linter.unusedVariables false
abbrev int : Ty := .i .i64
abbrev byte : Ty := .i .u8
abbrev tAcceptRange : Ty := (.p byte (.p byte .u))
abbrev TAcceptRange : Type := (Int × (Int × Unit))
abbrev tCombo : Ty := (.p int (.p int .u))
abbrev TCombo : Type := (Int × (Int × Unit))
abbrev tReport : Ty := (.p int (.p (.sl int) .u))
abbrev TReport : Type := (Int × ((List Int) × Unit))
abbrev tEvent : Ty := (.p int (.p int (.p .b .u)))
abbrev TEvent : Type := (Int × (Int × (Bool × Unit)))
abbrev tStep : Ty := (.p int tCombo)
abbrev TStep : Type := (Int × TCombo)
abbrev tFlash : Ty := (.p (.sl (.sl int)) (.p (.sl int) .u))
abbrev TFlash : Type := ((List (List Int)) × ((List Int) × Unit))
abbrev tL1Cur : Ty := (.p (.sl byte) tCombo)
abbrev TL1Cur : Type := ((List Int) × TCombo)
abbrev tAction : Ty := (.p int tStep)
abbrev TAction : Type := (Int × TStep)
abbrev tFlashOp : Ty := (.p .b tStep)
abbrev TFlashOp : Type := (Bool × TStep)
abbrev tReceiver : Ty := (.p (.sl byte) tStep)
abbrev TReceiver : Type := ((List Int) × TStep)
abbrev tSent : Ty := (.p int (.p tReport .u))
abbrev TSent : Type := (Int × (TReport × Unit))
abbrev tTapped : Ty := (.p tEvent (.p .s .u))
abbrev TTapped : Type := (TEvent × ((List UInt8) × Unit))
abbrev tHeld : Ty := (.p int (.p tAction .u))
abbrev THeld : Type := (Int × (TAction × Unit))
abbrev tDebouncer : Ty := (.p int (.p int (.p int (.p int tReport))))
abbrev TDebouncer : Type := (Int × (Int × (Int × (Int × TReport))))
abbrev tKeymap : Ty := (.p int (.p (.sl (.sl tAction)) .u))
abbrev TKeymap : Type := (Int × ((List (List TAction)) × Unit))
abbrev tBoth : Ty := (.p tEvent (.p tEvent .u))
abbrev TBoth : Type := (TEvent × (TEvent × Unit))
abbrev tCombiner : Ty := (.p (.sl tCombo) (.p int (.p (.sl tEvent) (.p int (.p int (.p int (.p (.sl tEvent) .u)))))))
abbrev TCombiner : Type := ((List TCombo) × (Int × ((List TEvent) × (Int × (Int × (Int × ((List TEvent) × Unit)))))))
abbrev tEngine : Ty := (.p tKeymap (.p (.sl (.sl tStep)) (.p int (.p (.sl tHeld) (.p int (.p .b .u))))))
abbrev TEngine : Type := (TKeymap × ((List (List TStep)) × (Int × ((List THeld) × (Int × (Bool × Unit))))))
abbrev tDecider : Ty := (.p tEngine (.p tStep (.p (.sl tEvent) tAction)))
abbrev TDecider : Type := (TEngine × (TStep × ((List TEvent) × TAction)))
abbrev tSession : Ty := (.p tDecider (.p (.sl tSent) .u))
abbrev TSession : Type := (TDecider × ((List TSent) × Unit))
abbrev tL19Pair : Ty := (.p tEngine (.p tEngine (.p (.sl int) .u)))
abbrev TL19Pair : Type := (TEngine × (TEngine × ((List Int) × Unit)))
abbrev tBoard : Ty := (.p tEvent (.p tDebouncer (.p tCombiner (.p tDecider tCombo))))
abbrev TBoard : Type := (TEvent × (TDebouncer × (TCombiner × (TDecider × TCombo))))
abbrev tHalves : Ty := (.p tBoard (.p tReceiver (.p int .u)))
abbrev THalves : Type := (TBoard × (TReceiver × (Int × Unit)))
abbrev tMatrix : Ty := tEvent
abbrev TMatrix : Type := TEvent
abbrev tTiming : Ty := tStep
abbrev TTiming : Type := TStep
abbrev tMemory : Ty := tEvent
abbrev TMemory : Type := TEvent
abbrev tActive : Ty := tEvent
abbrev TActive : Type := TEvent
abbrev tPair : Ty := tCombo
abbrev TPair : Type := TCombo


noncomputable def spec_SealPacket_6_R (t0 : (List Int)) (t3 : (List Int)) (t4 : Int) (t5 : Int) : Option ((((List Int) × TL1Cur) × Unit) ⊕ ((((List Int) × (Int × Unit)) × Unit) ⊕ (Unit × Unit))) :=
 (cond (decide (t5 < ((List.length t0 : Nat) : Int)))
 (Option.bind (idx t0 t5) fun x7 =>
 (cond (inb (List.length t3) t5)
 (Option.bind t3[(Int.toNat t5)]? fun x8 =>
 (Option.bind (idx t0 t5) fun x9 =>
 (some (.inl ((t0, (List.set t3 (Int.toNat t5) x7), (Go.IntKind.wrap .i64 (t4 + (Go.IntKind.wrap .i64 ((Go.IntKind.wrap .i64 (t5 + (1 : Int))) * (Go.IntKind.wrap .i64 x9))))), (Go.IntKind.wrap .i64 (t5 + (1 : Int))), ()), ())))))
 none))
 (some (.inr (.inl ((t3, t4, ()), ())))))
noncomputable def spec_SealPacket_6_loop (x : (((List Int) × TL1Cur) × Unit)) : Option ((((List Int) × (Int × Unit)) × Unit) ⊕ (Unit × Unit)) := loopF (fun x : (((List Int) × TL1Cur) × Unit) => spec_SealPacket_6_R x.1.1 x.1.2.1 x.1.2.2.1 x.1.2.2.2.1) x
noncomputable def spec_SealPacket (a0 : (List Int)) : Option ((List Int) × Unit) :=
 (cond (decide (((List.length a0 : Nat) : Int) ≥ (8 : Int)))
 (some (([] : List Int), ()))
 (cond (((8 : Int) == (8 : Int)) && (decide ((0 : Int) ≤ (8 : Int)) && decide ((8 : Int) ≤ ((lim : Nat) : Int))))
 (Option.bind (spec_SealPacket_6_loop ((a0, (List.replicate (Int.toNat (8 : Int)) (0 : Int)), (90 : Int), (0 : Int), ()), ())) (Sum.elim (fun y10 => (cond ((256 : Int) == (0 : Int))
 none
 (cond (inb (List.length y10.1.1) (7 : Int))
 (Option.bind y10.1.1[(Int.toNat (7 : Int))]? fun x12 =>
 (some ((List.set y10.1.1 (Int.toNat (7 : Int)) (Go.IntKind.wrap .u8 (Int.tmod y10.1.2.1 (256 : Int)))), ())))
 none))) (fun z11 => none)))
 none))

noncomputable def spec_IsPacket (a0 : (List Int)) : Option (Bool × Unit) :=
 (cond (((List.length a0 : Nat) : Int) == (8 : Int))
 (cond (cutOk (List.length a0) (0 : Int) (7 : Int))
 (Option.bind (spec_SealPacket (cutl a0 (Int.toNat (0 : Int)) (Int.toNat (7 : Int)))) fun r1 =>
 (some (((strOf r1.1) == (strOf a0)), ())))
 none)
 (some (false, ())))

noncomputable def impl_SealPacket_7_R (t3 : (List Int)) (t4 : Int) (t14 : (List Int)) (t15 : Int) (t16 : Int) : Option ((((List Int) × (Int × TL1Cur)) × Unit) ⊕ ((((List Int) × (Int × Unit)) × Unit) ⊕ (Unit × Unit))) :=
 (cond (decide (t16 < t15))
 (Option.bind (idx t14 t16) fun x3 =>
 (some (.inl ((t3, (Go.IntKind.wrap .i64 (t4 + (Go.IntKind.wrap .i64 ((Go.IntKind.wrap .i64 x3) * (Go.IntKind.wrap .i64 (t16 + (1 : Int))))))), t14, t15, (Go.IntKind.wrap .i64 (t16 + (1 : Int))), ()), ()))))
 (some (.inr (.inl ((t3, t4, ()), ())))))
noncomputable def impl_SealPacket_7_loop (x : (((List Int) × (Int × TL1Cur)) × Unit)) : Option ((((List Int) × (Int × Unit)) × Unit) ⊕ (Unit × Unit)) := loopF (fun x : (((List Int) × (Int × TL1Cur)) × Unit) => impl_SealPacket_7_R x.1.1 x.1.2.1 x.1.2.2.1 x.1.2.2.2.1 x.1.2.2.2.2.1) x
noncomputable def impl_SealPacket (a0 : (List Int)) : Option ((List Int) × Unit) :=
 (cond (decide (((List.length a0 : Nat) : Int) ≥ (8 : Int)))
 (some (([] : List Int), ()))
 (cond (((8 : Int) == (8 : Int)) && (decide ((0 : Int) ≤ (8 : Int)) && decide ((8 : Int) ≤ ((lim : Nat) : Int))))
 (cond (Nat.ble (List.length a0) (List.length (List.replicate (Int.toNat (8 : Int)) (0 : Int))))
 (Option.bind (impl_SealPacket_7_loop (((List.append a0 (List.drop (List.length a0) (List.replicate (Int.toNat (8 : Int)) (0 : Int)))), (90 : Int), a0, ((List.length a0 : Nat) : Int), (0 : Int), ()), ())) (Sum.elim (fun y4 => (cond ((256 : Int) == (0 : Int))
 none
 (cond (inb (List.length y4.1.1) (7 : Int))
 (Option.bind y4.1.1[(Int.toNat (7 : Int))]? fun x6 =>
 (some ((List.set y4.1.1 (Int.toNat (7 : Int)) (Go.IntKind.wrap .u8 (Int.tmod y4.1.2.1 (256 : Int)))), ())))
 none))) (fun z5 => none)))
 none)
 none))

noncomputable def impl_IsPacket (a0 : (List Int)) : Option (Bool × Unit) :=
 (cond (((List.length a0 : Nat) : Int) == (8 : Int))
 (cond (cutOk (List.length a0) (0 : Int) (7 : Int))
 (Option.bind (impl_SealPacket (cutl a0 (Int.toNat (0 : Int)) (Int.toNat (7 : Int)))) fun r1 =>
 (some (((strOf r1.1) == (strOf a0)), ())))
 none)
 (some (false, ())))

noncomputable def spec_l1In (a0 : Int) (a1 : Int) (a2 : Int) : Option (Bool × Unit) :=
 (cond (decide (a0 ≥ a1))
 (some ((decide (a0 ≤ a2)), ()))
 (some (false, ())))

noncomputable def spec_ReadScript_6_R (t0 : Int) (t1 : Int) (t5 : (List (List Int))) (t6 : Int) (t7 : Int) : Option (((Int × (Int × ((List (List Int)) × TCombo))) × Unit) ⊕ (((Int × (Int × ((List (List Int)) × (Int × Unit)))) × Unit) ⊕ (Unit × Unit))) :=
 (cond (decide (t7 < t0))
 (Option.bind (spec_SealPacket ([(2 : Int), (Go.IntKind.wrap .u8 t6), (Go.IntKind.wrap .u8 t7)] : List Int)) fun r16 =>
 (cond (Nat.ble (List.length t5 + List.length ([r16.1] : List (List Int))) lim)
 (some (.inl ((t0, t1, (List.append t5 ([r16.1] : List (List Int))), t6, (Go.IntKind.wrap .i64 (t7 + (1 : Int))), ()), ())))
 none))
 (some (.inr (.inl ((t0, t1, t5, t6, ()), ())))))
noncomputable def spec_ReadScript_6_loop (x : ((Int × (Int × ((List (List Int)) × TCombo))) × Unit)) : Option (((Int × (Int × ((List (List Int)) × (Int × Unit)))) × Unit) ⊕ (Unit × Unit)) := loopF (fun x : ((Int × (Int × ((List (List Int)) × TCombo))) × Unit) => spec_ReadScript_6_R x.1.1 x.1.2.1 x.1.2.2.1 x.1.2.2.2.1 x.1.2.2.2.2.1) x
noncomputable def spec_ReadScript_3_R (t0 : Int) (t1 : Int) (t5 : (List (List Int))) (t6 : Int) : Option (((Int × (Int × ((List (List Int)) × (Int × Unit)))) × Unit) ⊕ ((((List (List Int)) × Unit) × Unit) ⊕ (Unit × Unit))) :=
 (cond (decide (t6 < t1))
 (Option.bind (spec_l1In t0 (1 : Int) (32 : Int)) fun r13 =>
 (cond r13.1
 (cond (decide (t1 ≤ (4 : Int)))
 (Option.bind (spec_ReadScript_6_loop ((t0, t1, t5, t6, (0 : Int), ()), ())) (Sum.elim (fun y17 => (some (.inl ((y17.1.1, y17.1.2.1, y17.1.2.2.1, (Go.IntKind.wrap .i64 (y17.1.2.2.2.1 + (1 : Int))), ()), ())))) (fun z18 => (some (.inr (.inr ((), ())))))))
 (some (.inr (.inl ((t5, ()), ())))))
 (some (.inr (.inl ((t5, ()), ()))))))
 (some (.inr (.inl ((t5, ()), ())))))
noncomputable def spec_ReadScript_3_loop (x : ((Int × (Int × ((List (List Int)) × (Int × Unit)))) × Unit)) : Option ((((List (List Int)) × Unit) × Unit) ⊕ (Unit × Unit)) := loopF (fun x : ((Int × (Int × ((List (List Int)) × (Int × Unit)))) × Unit) => spec_ReadScript_3_R x.1.1 x.1.2.1 x.1.2.2.1 x.1.2.2.2.1) x
noncomputable def spec_ReadScript (a0 : Int) (a1 : Int) : Option ((List (List Int)) × Unit) :=
 (Option.bind (spec_ReadScript_3_loop ((a0, a1, ([] : List (List Int)), (0 : Int), ()), ())) (Sum.elim (fun y19 => (some (y19.1.1, ()))) (fun z20 => none)))

noncomputable def impl_ReadScript_8_R (t0 : Int) (t5 : (List (List Int))) (t6 : Int) (t22 : Int) (t23 : Int) (t26 : Int) (t27 : Int) : Option (((Int × ((List (List Int)) × (Int × TAction))) × Unit) ⊕ (((Int × ((List (List Int)) × TCombo)) × Unit) ⊕ (Unit × Unit))) :=
 (cond (decide (t27 < t26))
 (Option.bind (impl_SealPacket ([(2 : Int), (Go.IntKind.wrap .u8 t6), (Go.IntKind.wrap .u8 t27)] : List Int)) fun r19 =>
 (cond (Nat.ble (List.length t5 + List.length ([r19.1] : List (List Int))) lim)
 (some (.inl ((t0, (List.append t5 ([r19.1] : List (List Int))), t6, t22, t23, t26, (Go.IntKind.wrap .i64 (t27 + (1 : Int))), ()), ())))
 none))
 (some (.inr (.inl ((t0, t5, t22, t23, ()), ())))))
noncomputable def impl_ReadScript_8_loop (x : ((Int × ((List (List Int)) × (Int × TAction))) × Unit)) : Option (((Int × ((List (List Int)) × TCombo)) × Unit) ⊕ (Unit × Unit)) := loopF (fun x : ((Int × ((List (List Int)) × (Int × TAction))) × Unit) => impl_ReadScript_8_R x.1.1 x.1.2.1 x.1.2.2.1 x.1.2.2.2.1 x.1.2.2.2.2.1 x.1.2.2.2.2.2.1 x.1.2.2.2.2.2.2.1) x
noncomputable def impl_ReadScript_5_R (t0 : Int) (t5 : (List (List Int))) (t22 : Int) (t23 : Int) : Option (((Int × ((List (List Int)) × TCombo)) × Unit) ⊕ ((((List (List Int)) × Unit) × Unit) ⊕ (Unit × Unit))) :=
 (cond (decide (t23 < t22))
 (Option.bind (impl_ReadScript_8_loop ((t0, t5, t23, t22, t23, t0, (0 : Int), ()), ())) (Sum.elim (fun y20 => (some (.inl ((y20.1.1, y20.1.2.1, y20.1.2.2.1, (Go.IntKind.wrap .i64 (y20.1.2.2.2.1 + (1 : Int))), ()), ())))) (fun z21 => (some (.inr (.inr ((), ())))))))
 (some (.inr (.inl ((t5, ()), ())))))
noncomputable def impl_ReadScript_5_loop (x : ((Int × ((List (List Int)) × TCombo)) × Unit)) : Option ((((List (List Int)) × Unit) × Unit) ⊕ (Unit × Unit)) := loopF (fun x : ((Int × ((List (List Int)) × TCombo)) × Unit) => impl_ReadScript_5_R x.1.1 x.1.2.1 x.1.2.2.1 x.1.2.2.2.1) x
noncomputable def impl_ReadScript (a0 : Int) (a1 : Int) : Option ((List (List Int)) × Unit) :=
 (cond (decide (a0 < (1 : Int)))
 (some (([] : List (List Int)), ()))
 (cond (decide (a0 > (32 : Int)))
 (some (([] : List (List Int)), ()))
 (cond (decide (a1 < (1 : Int)))
 (some (([] : List (List Int)), ()))
 (cond (decide (a1 > (4 : Int)))
 (some (([] : List (List Int)), ()))
 (Option.bind (impl_ReadScript_5_loop ((a0, ([] : List (List Int)), a1, (0 : Int), ()), ())) (Sum.elim (fun y22 => (some (y22.1.1, ()))) (fun z23 => none)))))))

noncomputable def laws_szIntS (a0 : (List Int)) (a1 : Int) : Option (Int × Unit) :=
 (cond (decide ((Go.IntKind.wrap .i64 (a1 - ((List.length a0 : Nat) : Int))) < (0 : Int)))
 (some ((-1 : Int), ()))
 (some ((Go.IntKind.wrap .i64 (a1 - ((List.length a0 : Nat) : Int))), ())))

noncomputable def laws_szReport (a0 : TReport) (a1 : Int) : Option (Int × Unit) :=
 (Option.bind (laws_szIntS a0.2.1 a1) fun r1 =>
 (cond (decide (r1.1 < (0 : Int)))
 (some ((-1 : Int), ()))
 (some (r1.1, ()))))

noncomputable def laws_szSent (a0 : TSent) (a1 : Int) : Option (Int × Unit) :=
 (Option.bind (laws_szReport a0.2.1 a1) fun r1 =>
 (cond (decide (r1.1 < (0 : Int)))
 (some ((-1 : Int), ()))
 (some (r1.1, ()))))

noncomputable def laws_szSentS_5_R (t0 : (List TSent)) (t1 : Int) (t5 : Int) : Option ((((List TSent) × TCombo) × Unit) ⊕ (((Int × Unit) × Unit) ⊕ ((Int × Unit) × Unit))) :=
 (cond (decide (t5 < ((List.length t0 : Nat) : Int)))
 (Option.bind (idx t0 t5) fun x5 =>
 (Option.bind (laws_szSent x5 t1) fun r6 =>
 (cond (decide (r6.1 < (0 : Int)))
 (some (.inr (.inr (((-1 : Int), ()), ()))))
 (some (.inl ((t0, r6.1, (Go.IntKind.wrap .i64 (t5 + (1 : Int))), ()), ()))))))
 (some (.inr (.inl ((t1, ()), ())))))
noncomputable def laws_szSentS_5_loop (x : (((List TSent) × TCombo) × Unit)) : Option (((Int × Unit) × Unit) ⊕ ((Int × Unit) × Unit)) := loopF (fun x : (((List TSent) × TCombo) × Unit) => laws_szSentS_5_R x.1.1 x.1.2.1 x.1.2.2.1) x
noncomputable def laws_szSentS (a0 : (List TSent)) (a1 : Int) : Option (Int × Unit) :=
 (cond (decide ((Go.IntKind.wrap .i64 (a1 - ((List.length a0 : Nat) : Int))) < (0 : Int)))
 (some ((-1 : Int), ()))
 (Option.bind (laws_szSentS_5_loop ((a0, (Go.IntKind.wrap .i64 (a1 - ((List.length a0 : Nat) : Int))), (0 : Int), ()), ())) (Sum.elim (fun y7 => (some (y7.1.1, ()))) (fun z8 => (some (z8.1.1, ()))))))

noncomputable def laws_toIntS_3_R (t0 : (List Int)) (t3 : (List Int)) (t4 : Int) : Option ((((List Int) × ((List Int) × (Int × Unit))) × Unit) ⊕ ((((List Int) × Unit) × Unit) ⊕ (Unit × Unit))) :=
 (cond (decide (t4 < ((List.length t0 : Nat) : Int)))
 (Option.bind (idx t0 t4) fun x5 =>
 (cond (inb (List.length t3) t4)
 (Option.bind t3[(Int.toNat t4)]? fun x6 =>
 (some (.inl ((t0, (List.set t3 (Int.toNat t4) x5), (Go.IntKind.wrap .i64 (t4 + (1 : Int))), ()), ()))))
 none))
 (some (.inr (.inl ((t3, ()), ())))))
noncomputable def laws_toIntS_3_loop (x : (((List Int) × ((List Int) × (Int × Unit))) × Unit)) : Option ((((List Int) × Unit) × Unit) ⊕ (Unit × Unit)) := loopF (fun x : (((List Int) × ((List Int) × (Int × Unit))) × Unit) => laws_toIntS_3_R x.1.1 x.1.2.1 x.1.2.2.1) x
noncomputable def laws_toIntS (a0 : (List Int)) : Option ((List Int) × Unit) :=
 (cond ((((List.length a0 : Nat) : Int) == ((List.length a0 : Nat) : Int)) && (decide ((0 : Int) ≤ ((List.length a0 : Nat) : Int)) && decide (((List.length a0 : Nat) : Int) ≤ ((lim : Nat) : Int))))
 (Option.bind (laws_toIntS_3_loop ((a0, (List.replicate (Int.toNat ((List.length a0 : Nat) : Int)) (0 : Int)), (0 : Int), ()), ())) (Sum.elim (fun y7 => (some (y7.1.1, ()))) (fun z8 => none)))
 none)

noncomputable def laws_toReport (a0 : TReport) : Option (TReport × Unit) :=
 (Option.bind (laws_toIntS a0.2.1) fun r1 =>
 (some ((a0.1, r1.1, ()), ())))

noncomputable def laws_toSent (a0 : TSent) : Option (TSent × Unit) :=
 (Option.bind (laws_toReport a0.2.1) fun r1 =>
 (some ((a0.1, r1.1, ()), ())))

noncomputable def laws_toSentS_3_R (t0 : (List TSent)) (t3 : (List TSent)) (t4 : Int) : Option ((((List TSent) × ((List TSent) × (Int × Unit))) × Unit) ⊕ ((((List TSent) × Unit) × Unit) ⊕ (Unit × Unit))) :=
 (cond (decide (t4 < ((List.length t0 : Nat) : Int)))
 (Option.bind (idx t0 t4) fun x7 =>
 (Option.bind (laws_toSent x7) fun r8 =>
 (cond (inb (List.length t3) t4)
 (Option.bind t3[(Int.toNat t4)]? fun x9 =>
 (some (.inl ((t0, (List.set t3 (Int.toNat t4) r8.1), (Go.IntKind.wrap .i64 (t4 + (1 : Int))), ()), ()))))
 none)))
 (some (.inr (.inl ((t3, ()), ())))))
noncomputable def laws_toSentS_3_loop (x : (((List TSent) × ((List TSent) × (Int × Unit))) × Unit)) : Option ((((List TSent) × Unit) × Unit) ⊕ (Unit × Unit)) := loopF (fun x : (((List TSent) × ((List TSent) × (Int × Unit))) × Unit) => laws_toSentS_3_R x.1.1 x.1.2.1 x.1.2.2.1) x
noncomputable def laws_toSentS (a0 : (List TSent)) : Option ((List TSent) × Unit) :=
 (cond ((((List.length a0 : Nat) : Int) == ((List.length a0 : Nat) : Int)) && (decide ((0 : Int) ≤ ((List.length a0 : Nat) : Int)) && decide (((List.length a0 : Nat) : Int) ≤ ((lim : Nat) : Int))))
 (Option.bind (laws_toSentS_3_loop ((a0, (List.replicate (Int.toNat ((List.length a0 : Nat) : Int)) ((0 : Int), ((0 : Int), ([] : List Int), ()), ())), (0 : Int), ()), ())) (Sum.elim (fun y10 => (some (y10.1.1, ()))) (fun z11 => none)))
 none)

noncomputable def spec_l7Copy (a0 : TReport) : Option (TReport × Unit) :=
 (cond (Nat.ble (List.length ([] : List Int) + List.length a0.2.1) lim)
 (some ((a0.1, (List.append ([] : List Int) a0.2.1), ()), ()))
 none)

noncomputable def spec_ReportsOf_3_R (t0 : (List TSent)) (t3 : (List TReport)) (t4 : Int) : Option ((((List TSent) × ((List TReport) × (Int × Unit))) × Unit) ⊕ ((((List TReport) × Unit) × Unit) ⊕ (Unit × Unit))) :=
 (cond (decide (t4 < ((List.length t0 : Nat) : Int)))
 (Option.bind (idx t0 t4) fun x5 =>
 (Option.bind (spec_l7Copy x5.2.1) fun r6 =>
 (cond (Nat.ble (List.length t3 + List.length ([r6.1] : List TReport)) lim)
 (some (.inl ((t0, (List.append t3 ([r6.1] : List TReport)), (Go.IntKind.wrap .i64 (t4 + (1 : Int))), ()), ())))
 none)))
 (some (.inr (.inl ((t3, ()), ())))))
noncomputable def spec_ReportsOf_3_loop (x : (((List TSent) × ((List TReport) × (Int × Unit))) × Unit)) : Option ((((List TReport) × Unit) × Unit) ⊕ (Unit × Unit)) := loopF (fun x : (((List TSent) × ((List TReport) × (Int × Unit))) × Unit) => spec_ReportsOf_3_R x.1.1 x.1.2.1 x.1.2.2.1) x
noncomputable def spec_ReportsOf (a0 : (List TSent)) : Option ((List TReport) × Unit) :=
 (Option.bind (spec_ReportsOf_3_loop ((a0, ([] : List TReport), (0 : Int), ()), ())) (Sum.elim (fun y7 => (some (y7.1.1, ()))) (fun z8 => none)))

noncomputable def impl_copyInts (a0 : (List Int)) : Option ((List Int) × Unit) :=
 (cond (Nat.ble (List.length ([] : List Int) + List.length a0) lim)
 (some ((List.append ([] : List Int) a0), ()))
 none)

noncomputable def impl_copyReport (a0 : TReport) : Option (TReport × Unit) :=
 (Option.bind (impl_copyInts a0.2.1) fun r1 =>
 (some ((a0.1, r1.1, ()), ())))

noncomputable def impl_ReportsOf_3_R (t3 : (List TReport)) (t6 : (List TSent)) (t7 : Int) (t8 : Int) : Option ((((List TReport) × ((List TSent) × TCombo)) × Unit) ⊕ ((((List TReport) × Unit) × Unit) ⊕ (Unit × Unit))) :=
 (cond (decide (t8 < t7))
 (Option.bind (idx t6 t8) fun x7 =>
 (Option.bind (impl_copyReport x7.2.1) fun r8 =>
 (cond (Nat.ble (List.length t3 + List.length ([r8.1] : List TReport)) lim)
 (some (.inl (((List.append t3 ([r8.1] : List TReport)), t6, t7, (Go.IntKind.wrap .i64 (t8 + (1 : Int))), ()), ())))
 none)))
 (some (.inr (.inl ((t3, ()), ())))))
noncomputable def impl_ReportsOf_3_loop (x : (((List TReport) × ((List TSent) × TCombo)) × Unit)) : Option ((((List TReport) × Unit) × Unit) ⊕ (Unit × Unit)) := loopF (fun x : (((List TReport) × ((List TSent) × TCombo)) × Unit) => impl_ReportsOf_3_R x.1.1 x.1.2.1 x.1.2.2.1 x.1.2.2.2.1) x
noncomputable def impl_ReportsOf (a0 : (List TSent)) : Option ((List TReport) × Unit) :=
 (Option.bind (impl_ReportsOf_3_loop ((([] : List TReport), a0, ((List.length a0 : Nat) : Int), (0 : Int), ()), ())) (Sum.elim (fun y9 => (some (y9.1.1, ()))) (fun z10 => none)))

noncomputable def laws_eqIntS_4_R (t0 : (List Int)) (t1 : (List Int)) (t5 : Int) : Option ((((List Int) × ((List Int) × (Int × Unit))) × Unit) ⊕ ((Unit × Unit) ⊕ ((Bool × Unit) × Unit))) :=
 (cond (decide (t5 < ((List.length t0 : Nat) : Int)))
 (Option.bind (idx t0 t5) fun x5 =>
 (Option.bind (idx t1 t5) fun x6 =>
 (cond (x5 != x6)
 (some (.inr (.inr ((false, ()), ()))))
 (some (.inl ((t0, t1, (Go.IntKind.wrap .i64 (t5 + (1 : Int))), ()), ()))))))
 (some (.inr (.inl ((), ())))))
noncomputable def laws_eqIntS_4_loop (x : (((List Int) × ((List Int) × (Int × Unit))) × Unit)) : Option ((Unit × Unit) ⊕ ((Bool × Unit) × Unit)) := loopF (fun x : (((List Int) × ((List Int) × (Int × Unit))) × Unit) => laws_eqIntS_4_R x.1.1 x.1.2.1 x.1.2.2.1) x
noncomputable def laws_eqIntS (a0 : (List Int)) (a1 : (List Int)) : Option (Bool × Unit) :=
 (cond (((List.length a0 : Nat) : Int) != ((List.length a1 : Nat) : Int))
 (some (false, ()))
 (Option.bind (laws_eqIntS_4_loop ((a0, a1, (0 : Int), ()), ())) (Sum.elim (fun y7 => (some (true, ()))) (fun z8 => (some (z8.1.1, ()))))))

noncomputable def laws_eqReport (a0 : TReport) (a1 : TReport) : Option (Bool × Unit) :=
 (cond (a0.1 != a1.1)
 (some (false, ()))
 (Option.bind (laws_eqIntS a0.2.1 a1.2.1) fun r1 =>
 (cond (!r1.1)
 (some (false, ()))
 (some (true, ())))))

noncomputable def laws_eqReportS_4_R (t0 : (List TReport)) (t1 : (List TReport)) (t5 : Int) : Option ((((List TReport) × ((List TReport) × (Int × Unit))) × Unit) ⊕ ((Unit × Unit) ⊕ ((Bool × Unit) × Unit))) :=
 (cond (decide (t5 < ((List.length t0 : Nat) : Int)))
 (Option.bind (idx t0 t5) fun x7 =>
 (Option.bind (idx t1 t5) fun x8 =>
 (Option.bind (laws_eqReport x7 x8) fun r9 =>
 (cond (!r9.1)
 (some (.inr (.inr ((false, ()), ()))))
 (some (.inl ((t0, t1, (Go.IntKind.wrap .i64 (t5 + (1 : Int))), ()), ())))))))
 (some (.inr (.inl ((), ())))))
noncomputable def laws_eqReportS_4_loop (x : (((List TReport) × ((List TReport) × (Int × Unit))) × Unit)) : Option ((Unit × Unit) ⊕ ((Bool × Unit) × Unit)) := loopF (fun x : (((List TReport) × ((List TReport) × (Int × Unit))) × Unit) => laws_eqReportS_4_R x.1.1 x.1.2.1 x.1.2.2.1) x
noncomputable def laws_eqReportS (a0 : (List TReport)) (a1 : (List TReport)) : Option (Bool × Unit) :=
 (cond (((List.length a0 : Nat) : Int) != ((List.length a1 : Nat) : Int))
 (some (false, ()))
 (Option.bind (laws_eqReportS_4_loop ((a0, a1, (0 : Int), ()), ())) (Sum.elim (fun y10 => (some (true, ()))) (fun z11 => (some (z11.1.1, ()))))))

noncomputable def laws_eqSent (a0 : TSent) (a1 : TSent) : Option (Bool × Unit) :=
 (cond (a0.1 != a1.1)
 (some (false, ()))
 (Option.bind (laws_eqReport a0.2.1 a1.2.1) fun r1 =>
 (cond (!r1.1)
 (some (false, ()))
 (some (true, ())))))

noncomputable def laws_eqSentS_4_R (t0 : (List TSent)) (t1 : (List TSent)) (t5 : Int) : Option ((((List TSent) × ((List TSent) × (Int × Unit))) × Unit) ⊕ ((Unit × Unit) ⊕ ((Bool × Unit) × Unit))) :=
 (cond (decide (t5 < ((List.length t0 : Nat) : Int)))
 (Option.bind (idx t0 t5) fun x7 =>
 (Option.bind (idx t1 t5) fun x8 =>
 (Option.bind (laws_eqSent x7 x8) fun r9 =>
 (cond (!r9.1)
 (some (.inr (.inr ((false, ()), ()))))
 (some (.inl ((t0, t1, (Go.IntKind.wrap .i64 (t5 + (1 : Int))), ()), ())))))))
 (some (.inr (.inl ((), ())))))
noncomputable def laws_eqSentS_4_loop (x : (((List TSent) × ((List TSent) × (Int × Unit))) × Unit)) : Option ((Unit × Unit) ⊕ ((Bool × Unit) × Unit)) := loopF (fun x : (((List TSent) × ((List TSent) × (Int × Unit))) × Unit) => laws_eqSentS_4_R x.1.1 x.1.2.1 x.1.2.2.1) x
noncomputable def laws_eqSentS (a0 : (List TSent)) (a1 : (List TSent)) : Option (Bool × Unit) :=
 (cond (((List.length a0 : Nat) : Int) != ((List.length a1 : Nat) : Int))
 (some (false, ()))
 (Option.bind (laws_eqSentS_4_loop ((a0, a1, (0 : Int), ()), ())) (Sum.elim (fun y10 => (some (true, ()))) (fun z11 => (some (z11.1.1, ()))))))

noncomputable def laws_markIntS_2_R (t0 : (List Int)) (t1 : Int) (t5 : Int) : Option ((((List Int) × TCombo) × Unit) ⊕ ((((List Int) × (Int × Unit)) × Unit) ⊕ (Unit × Unit))) :=
 (cond (decide (t5 < ((List.length t0 : Nat) : Int)))
 (cond (inb (List.length t0) t5)
 (Option.bind t0[(Int.toNat t5)]? fun x3 =>
 (some (.inl (((List.set t0 (Int.toNat t5) t1), (Go.IntKind.wrap .i64 (t1 + (1 : Int))), (Go.IntKind.wrap .i64 (t5 + (1 : Int))), ()), ()))))
 none)
 (some (.inr (.inl ((t0, t1, ()), ())))))
noncomputable def laws_markIntS_2_loop (x : (((List Int) × TCombo) × Unit)) : Option ((((List Int) × (Int × Unit)) × Unit) ⊕ (Unit × Unit)) := loopF (fun x : (((List Int) × TCombo) × Unit) => laws_markIntS_2_R x.1.1 x.1.2.1 x.1.2.2.1) x
noncomputable def laws_markIntS (a0 : (List Int)) (a1 : Int) : Option ((List Int) × (Int × Unit)) :=
 (Option.bind (laws_markIntS_2_loop ((a0, a1, (0 : Int), ()), ())) (Sum.elim (fun y4 => (some (y4.1.1, (y4.1.2.1, ())))) (fun z5 => none)))

noncomputable def laws_markSentS_2_R (t0 : (List TSent)) (t1 : Int) (t5 : Int) : Option ((((List TSent) × TCombo) × Unit) ⊕ ((((List TSent) × (Int × Unit)) × Unit) ⊕ (Unit × Unit))) :=
 (cond (decide (t5 < ((List.length t0 : Nat) : Int)))
 (cond (inb (List.length t0) t5)
 (Option.bind t0[(Int.toNat t5)]? fun x9 =>
 (cond (inb (List.length (List.set t0 (Int.toNat t5) (t1, x9.2))) t5)
 (Option.bind (List.set t0 (Int.toNat t5) (t1, x9.2))[(Int.toNat t5)]? fun x10 =>
 (cond (inb (List.length (List.set (List.set t0 (Int.toNat t5) (t1, x9.2)) (Int.toNat t5) (x10.1, ((Go.IntKind.wrap .i64 (t1 + (1 : Int))), x10.2.1.2), x10.2.2))) t5)
 (Option.bind (List.set (List.set t0 (Int.toNat t5) (t1, x9.2)) (Int.toNat t5) (x10.1, ((Go.IntKind.wrap .i64 (t1 + (1 : Int))), x10.2.1.2), x10.2.2))[(Int.toNat t5)]? fun x11 =>
 (Option.bind (laws_markIntS x11.2.1.2.1 (Go.IntKind.wrap .i64 ((Go.IntKind.wrap .i64 (t1 + (1 : Int))) + (1 : Int)))) fun r12 =>
 (some (.inl (((List.set (List.set (List.set t0 (Int.toNat t5) (t1, x9.2)) (Int.toNat t5) (x10.1, ((Go.IntKind.wrap .i64 (t1 + (1 : Int))), x10.2.1.2), x10.2.2)) (Int.toNat t5) (x11.1, (x11.2.1.1, r12.1, x11.2.1.2.2), x11.2.2)), r12.2.1, (Go.IntKind.wrap .i64 (t5 + (1 : Int))), ()), ())))))
 none))
 none))
 none)
 (some (.inr (.inl ((t0, t1, ()), ())))))
noncomputable def laws_markSentS_2_loop (x : (((List TSent) × TCombo) × Unit)) : Option ((((List TSent) × (Int × Unit)) × Unit) ⊕ (Unit × Unit)) := loopF (fun x : (((List TSent) × TCombo) × Unit) => laws_markSentS_2_R x.1.1 x.1.2.1 x.1.2.2.1) x
noncomputable def laws_markSentS (a0 : (List TSent)) (a1 : Int) : Option ((List TSent) × (Int × Unit)) :=
 (Option.bind (laws_markSentS_2_loop ((a0, a1, (0 : Int), ()), ())) (Sum.elim (fun y13 => (some (y13.1.1, (y13.1.2.1, ())))) (fun z14 => none)))

noncomputable def laws_markReportS_2_R (t0 : (List TReport)) (t1 : Int) (t5 : Int) : Option ((((List TReport) × TCombo) × Unit) ⊕ ((((List TReport) × (Int × Unit)) × Unit) ⊕ (Unit × Unit))) :=
 (cond (decide (t5 < ((List.length t0 : Nat) : Int)))
 (cond (inb (List.length t0) t5)
 (Option.bind t0[(Int.toNat t5)]? fun x7 =>
 (cond (inb (List.length (List.set t0 (Int.toNat t5) (t1, x7.2))) t5)
 (Option.bind (List.set t0 (Int.toNat t5) (t1, x7.2))[(Int.toNat t5)]? fun x8 =>
 (Option.bind (laws_markIntS x8.2.1 (Go.IntKind.wrap .i64 (t1 + (1 : Int)))) fun r9 =>
 (some (.inl (((List.set (List.set t0 (Int.toNat t5) (t1, x7.2)) (Int.toNat t5) (x8.1, r9.1, x8.2.2)), r9.2.1, (Go.IntKind.wrap .i64 (t5 + (1 : Int))), ()), ())))))
 none))
 none)
 (some (.inr (.inl ((t0, t1, ()), ())))))
noncomputable def laws_markReportS_2_loop (x : (((List TReport) × TCombo) × Unit)) : Option ((((List TReport) × (Int × Unit)) × Unit) ⊕ (Unit × Unit)) := loopF (fun x : (((List TReport) × TCombo) × Unit) => laws_markReportS_2_R x.1.1 x.1.2.1 x.1.2.2.1) x
noncomputable def laws_markReportS (a0 : (List TReport)) (a1 : Int) : Option ((List TReport) × (Int × Unit)) :=
 (Option.bind (laws_markReportS_2_loop ((a0, a1, (0 : Int), ()), ())) (Sum.elim (fun y10 => (some (y10.1.1, (y10.1.2.1, ())))) (fun z11 => none)))

noncomputable def laws_heldIntS_2_R (t0 : (List Int)) (t1 : Int) (t5 : Int) : Option ((((List Int) × TCombo) × Unit) ⊕ (((Int × Unit) × Unit) ⊕ ((Int × Unit) × Unit))) :=
 (cond (decide (t5 < ((List.length t0 : Nat) : Int)))
 (Option.bind (idx t0 t5) fun x3 =>
 (cond (x3 != t1)
 (some (.inr (.inr (((-1 : Int), ()), ()))))
 (some (.inl ((t0, (Go.IntKind.wrap .i64 (t1 + (1 : Int))), (Go.IntKind.wrap .i64 (t5 + (1 : Int))), ()), ())))))
 (some (.inr (.inl ((t1, ()), ())))))
noncomputable def laws_heldIntS_2_loop (x : (((List Int) × TCombo) × Unit)) : Option (((Int × Unit) × Unit) ⊕ ((Int × Unit) × Unit)) := loopF (fun x : (((List Int) × TCombo) × Unit) => laws_heldIntS_2_R x.1.1 x.1.2.1 x.1.2.2.1) x
noncomputable def laws_heldIntS (a0 : (List Int)) (a1 : Int) : Option (Int × Unit) :=
 (Option.bind (laws_heldIntS_2_loop ((a0, a1, (0 : Int), ()), ())) (Sum.elim (fun y4 => (some (y4.1.1, ()))) (fun z5 => (some (z5.1.1, ())))))

noncomputable def laws_heldReportS_2_R (t0 : (List TReport)) (t1 : Int) (t5 : Int) : Option ((((List TReport) × TCombo) × Unit) ⊕ (((Int × Unit) × Unit) ⊕ ((Int × Unit) × Unit))) :=
 (cond (decide (t5 < ((List.length t0 : Nat) : Int)))
 (Option.bind (idx t0 t5) fun x7 =>
 (cond (x7.1 != t1)
 (some (.inr (.inr (((-1 : Int), ()), ()))))
 (Option.bind (idx t0 t5) fun x8 =>
 (Option.bind (laws_heldIntS x8.2.1 (Go.IntKind.wrap .i64 (t1 + (1 : Int)))) fun r9 =>
 (cond (decide (r9.1 < (0 : Int)))
 (some (.inr (.inr (((-1 : Int), ()), ()))))
 (some (.inl ((t0, r9.1, (Go.IntKind.wrap .i64 (t5 + (1 : Int))), ()), ()))))))))
 (some (.inr (.inl ((t1, ()), ())))))
noncomputable def laws_heldReportS_2_loop (x : (((List TReport) × TCombo) × Unit)) : Option (((Int × Unit) × Unit) ⊕ ((Int × Unit) × Unit)) := loopF (fun x : (((List TReport) × TCombo) × Unit) => laws_heldReportS_2_R x.1.1 x.1.2.1 x.1.2.2.1) x
noncomputable def laws_heldReportS (a0 : (List TReport)) (a1 : Int) : Option (Int × Unit) :=
 (Option.bind (laws_heldReportS_2_loop ((a0, a1, (0 : Int), ()), ())) (Sum.elim (fun y10 => (some (y10.1.1, ()))) (fun z11 => (some (z11.1.1, ())))))

noncomputable def laws_FnExactReportsOf (a0 : (List TSent)) : Option (Bool × Unit) :=
 (Option.bind (laws_szSentS a0 (1048576 : Int)) fun r1 =>
 (cond (decide (r1.1 < (0 : Int)))
 (some (true, ()))
 (Option.bind (laws_toSentS a0) fun r2 =>
 (Option.bind (spec_ReportsOf r2.1) fun r3 =>
 (Option.bind (laws_toSentS a0) fun r4 =>
 (Option.bind (impl_ReportsOf r4.1) fun r5 =>
 (Option.bind (laws_eqReportS r5.1 r3.1) fun r6 =>
 (cond (!r6.1)
 (some (false, ()))
 (Option.bind (laws_toSentS a0) fun r7 =>
 (Option.bind (laws_eqSentS r4.1 r7.1) fun r8 =>
 (cond (!r8.1)
 (some (false, ()))
 (Option.bind (laws_markSentS r4.1 (1 : Int)) fun r9 =>
 (cond (decide (r9.2.1 < (0 : Int)))
 (some (false, ()))
 (Option.bind (laws_eqReportS r5.1 r3.1) fun r10 =>
 (cond (!r10.1)
 (some (false, ()))
 (Option.bind (laws_markReportS r5.1 (1 : Int)) fun r11 =>
 (Option.bind (laws_heldReportS r11.1 (1 : Int)) fun r12 =>
 (cond (decide (r12.1 < (0 : Int)))
 (some (false, ()))
 (cond (r12.1 != r11.2.1)
 (some (false, ()))
 (Option.bind (laws_toSentS a0) fun r13 =>
 (Option.bind (impl_ReportsOf r13.1) fun r14 =>
 (Option.bind (laws_eqReportS r14.1 r3.1) fun r15 =>
 (cond (!r15.1)
 (some (false, ()))
 (Option.bind (laws_heldReportS r11.1 (1 : Int)) fun r16 =>
 (cond (decide (r16.1 < (0 : Int)))
 (some (false, ()))
 (cond (r16.1 != r11.2.1)
 (some (false, ()))
 (some (true, ()))))))))))))))))))))))))))))

noncomputable def spec_IsAction (a0 : TAction) : Option (Bool × Unit) :=
 (Option.bind (spec_l1In a0.2.1 (1 : Int) (56 : Int)) fun r1 =>
 (Option.bind (spec_l1In a0.2.2.1 (1 : Int) (15 : Int)) fun r2 =>
 (Option.bind (spec_l1In a0.2.2.2.1 (1 : Int) (3 : Int)) fun r3 =>
 (cond (a0.1 == (0 : Int))
 (cond (a0.2.1 == (0 : Int))
 (cond (a0.2.2.1 == (0 : Int))
 (some ((a0.2.2.2.1 == (0 : Int)), ()))
 (some (false, ())))
 (some (false, ())))
 (cond (a0.1 == (1 : Int))
 (cond (a0.2.1 == (0 : Int))
 (cond (a0.2.2.1 == (0 : Int))
 (some ((a0.2.2.2.1 == (0 : Int)), ()))
 (some (false, ())))
 (some (false, ())))
 (cond (a0.1 == (10 : Int))
 (cond (a0.2.1 == (0 : Int))
 (cond (a0.2.2.1 == (0 : Int))
 (some ((a0.2.2.2.1 == (0 : Int)), ()))
 (some (false, ())))
 (some (false, ())))
 (cond (a0.1 == (2 : Int))
 (cond (a0.2.2.2.1 == (0 : Int))
 (cond r1.1
 (cond r2.1
 (some (true, ()))
 (some ((a0.2.2.1 == (0 : Int)), ())))
 (cond (a0.2.1 == (0 : Int))
 (cond r2.1
 (cond r2.1
 (some (true, ()))
 (some ((a0.2.2.1 == (0 : Int)), ())))
 (some (false, ())))
 (some (false, ()))))
 (some (false, ())))
 (cond (a0.1 == (3 : Int))
 (cond r3.1
 (cond (a0.2.1 == (0 : Int))
 (some ((a0.2.2.1 == (0 : Int)), ()))
 (some (false, ())))
 (some (false, ())))
 (cond (a0.1 == (4 : Int))
 (cond r3.1
 (cond (a0.2.1 == (0 : Int))
 (some ((a0.2.2.1 == (0 : Int)), ()))
 (some (false, ())))
 (some (false, ())))
 (cond (a0.1 == (5 : Int))
 (Option.bind (spec_l1In a0.2.2.2.1 (0 : Int) (3 : Int)) fun r4 =>
 (cond r4.1
 (cond (a0.2.1 == (0 : Int))
 (some ((a0.2.2.1 == (0 : Int)), ()))
 (some (false, ())))
 (some (false, ()))))
 (cond (a0.1 == (9 : Int))
 (Option.bind (spec_l1In a0.2.2.2.1 (0 : Int) (3 : Int)) fun r5 =>
 (cond r5.1
 (cond (a0.2.1 == (0 : Int))
 (some ((a0.2.2.1 == (0 : Int)), ()))
 (some (false, ())))
 (some (false, ()))))
 (cond (a0.1 == (6 : Int))
 (cond r1.1
 (cond r2.1
 (some ((a0.2.2.2.1 == (0 : Int)), ()))
 (some (false, ())))
 (some (false, ())))
 (cond (a0.1 == (7 : Int))
 (cond r1.1
 (cond r3.1
 (some ((a0.2.2.1 == (0 : Int)), ()))
 (some (false, ())))
 (some (false, ())))
 (cond (a0.1 == (8 : Int))
 (cond r2.1
 (cond (a0.2.1 == (0 : Int))
 (some ((a0.2.2.2.1 == (0 : Int)), ()))
 (some (false, ())))
 (some (false, ())))
 (some (false, ()))))))))))))))))

noncomputable def spec_IsKeymap_7_R (t1 : Unit) (t3 : Int) (t4 : Int) (b1 : TKeymap) : Option (((Unit × TCombo) × (TKeymap × Unit)) ⊕ (((Unit × (Int × Unit)) × (TKeymap × Unit)) ⊕ ((Bool × Unit) × Unit))) :=
 (Option.bind (idx b1.2.1 t3) fun x40 =>
 (cond (decide (t4 < ((List.length x40 : Nat) : Int)))
 (Option.bind (idx b1.2.1 t3) fun x41 =>
 (Option.bind (idx x41 t4) fun x42 =>
 (Option.bind (spec_IsAction x42) fun r43 =>
 (cond (!r43.1)
 (some (.inr (.inr ((false, ()), ()))))
 (cond (x42.1 == (1 : Int))
 (cond (t3 == (0 : Int))
 (some (.inr (.inr ((false, ()), ()))))
 (cond (x42.1 != (9 : Int))
 (cond (decide (x42.2.2.2.1 ≥ ((List.length b1.2.1 : Nat) : Int)))
 (some (.inr (.inr ((false, ()), ()))))
 (some (.inl (((), t3, (Go.IntKind.wrap .i64 (t4 + (1 : Int))), ()), (b1, ())))))
 (some (.inl (((), t3, (Go.IntKind.wrap .i64 (t4 + (1 : Int))), ()), (b1, ()))))))
 (cond (x42.1 != (9 : Int))
 (cond (decide (x42.2.2.2.1 ≥ ((List.length b1.2.1 : Nat) : Int)))
 (some (.inr (.inr ((false, ()), ()))))
 (some (.inl (((), t3, (Go.IntKind.wrap .i64 (t4 + (1 : Int))), ()), (b1, ())))))
 (some (.inl (((), t3, (Go.IntKind.wrap .i64 (t4 + (1 : Int))), ()), (b1, ()))))))))))
 (some (.inr (.inl (((), t3, ()), (b1, ())))))))
noncomputable def spec_IsKeymap_7_loop (x : ((Unit × TCombo) × (TKeymap × Unit))) : Option (((Unit × (Int × Unit)) × (TKeymap × Unit)) ⊕ ((Bool × Unit) × Unit)) := loopF (fun x : ((Unit × TCombo) × (TKeymap × Unit)) => spec_IsKeymap_7_R x.1.1 x.1.2.1 x.1.2.2.1 x.2.1) x
noncomputable def spec_IsKeymap_2_R (t1 : Unit) (t3 : Int) (b1 : TKeymap) : Option (((Unit × (Int × Unit)) × (TKeymap × Unit)) ⊕ (((Unit × Unit) × (TKeymap × Unit)) ⊕ ((Bool × Unit) × Unit))) :=
 (cond (decide (t3 < ((List.length b1.2.1 : Nat) : Int)))
 (Option.bind (idx b1.2.1 t3) fun x31 =>
 (cond (((List.length x31 : Nat) : Int) != b1.1)
 (some (.inr (.inr ((false, ()), ()))))
 (Option.bind (spec_IsKeymap_7_loop (((), t3, (0 : Int), ()), (b1, ()))) (Sum.elim (fun y44 => (some (.inl (((), (Go.IntKind.wrap .i64 (y44.1.2.1 + (1 : Int))), ()), (y44.2.1, ()))))) (fun z45 => (some (.inr (.inr ((z45.1.1, ()), ())))))))))
 (some (.inr (.inl (((), ()), (b1, ()))))))
noncomputable def spec_IsKeymap_2_loop (x : ((Unit × (Int × Unit)) × (TKeymap × Unit))) : Option (((Unit × Unit) × (TKeymap × Unit)) ⊕ ((Bool × Unit) × Unit)) := loopF (fun x : ((Unit × (Int × Unit)) × (TKeymap × Unit)) => spec_IsKeymap_2_R x.1.1 x.1.2.1 x.2.1) x
noncomputable def spec_IsKeymap (a0 : TKeymap) : Option (Bool × Unit) :=
 (Option.bind (spec_IsKeymap_2_loop (((), (0 : Int), ()), (a0, ()))) (Sum.elim (fun y46 => (Option.bind (spec_l1In y46.2.1.1 (1 : Int) (32 : Int)) fun r48 =>
 (cond r48.1
 (Option.bind (spec_l1In ((List.length y46.2.1.2.1 : Nat) : Int) (1 : Int) (4 : Int)) fun r49 =>
 (some (r49.1, ())))
 (some (false, ()))))) (fun z47 => (some (z47.1.1, ())))))

noncomputable def spec_IsFixed (a0 : TKeymap) (a1 : Int) : Option (Bool × Unit) :=
 (Option.bind (spec_IsKeymap a0) fun r1 =>
 (cond r1.1
 (cond (decide ((0 : Int) ≤ ((List.length a0.2.1 : Nat) : Int)))
 (Option.bind (spec_l1In a1 (0 : Int) (Go.IntKind.wrap .i64 ((ishl .i64 (1 : Int) ((List.length a0.2.1 : Nat) : Int)) - (1 : Int)))) fun r2 =>
 (cond r2.1
 (cond ((2 : Int) == (0 : Int))
 none
 (some (((Int.tmod a1 (2 : Int)) == (0 : Int)), ())))
 (some (false, ()))))
 none)
 (some (false, ()))))

noncomputable def impl_isCode (a0 : Int) : Option (Bool × Unit) :=
 (cond (decide (a0 ≥ (1 : Int)))
 (some ((decide (a0 ≤ (56 : Int))), ()))
 (some (false, ())))

noncomputable def impl_isMods (a0 : Int) : Option (Bool × Unit) :=
 (cond (decide (a0 ≥ (1 : Int)))
 (some ((decide (a0 ≤ (15 : Int))), ()))
 (some (false, ())))

noncomputable def impl_isUpper (a0 : Int) : Option (Bool × Unit) :=
 (cond (decide (a0 ≥ (1 : Int)))
 (some ((decide (a0 ≤ (3 : Int))), ()))
 (some (false, ())))

noncomputable def impl_IsAction (a0 : TAction) : Option (Bool × Unit) :=
 (cond (a0.1 == (0 : Int))
 (cond (a0.2.1 == (0 : Int))
 (cond (a0.2.2.1 == (0 : Int))
 (some ((a0.2.2.2.1 == (0 : Int)), ()))
 (some (false, ())))
 (some (false, ())))
 (cond (a0.1 == (1 : Int))
 (cond (a0.2.1 == (0 : Int))
 (cond (a0.2.2.1 == (0 : Int))
 (some ((a0.2.2.2.1 == (0 : Int)), ()))
 (some (false, ())))
 (some (false, ())))
 (cond (a0.1 == (10 : Int))
 (cond (a0.2.1 == (0 : Int))
 (cond (a0.2.2.1 == (0 : Int))
 (some ((a0.2.2.2.1 == (0 : Int)), ()))
 (some (false, ())))
 (some (false, ())))
 (cond (a0.1 == (2 : Int))
 (cond (a0.2.2.2.1 == (0 : Int))
 (cond (a0.2.1 == (0 : Int))
 (cond (a0.2.2.1 == (0 : Int))
 (cond (a0.2.1 != (0 : Int))
 (some (true, ()))
 (some ((a0.2.2.1 != (0 : Int)), ())))
 (Option.bind (impl_isMods a0.2.2.1) fun r1 =>
 (cond r1.1
 (cond (a0.2.1 != (0 : Int))
 (some (true, ()))
 (some ((a0.2.2.1 != (0 : Int)), ())))
 (some (false, ())))))
 (Option.bind (impl_isCode a0.2.1) fun r2 =>
 (cond r2.1
 (cond (a0.2.2.1 == (0 : Int))
 (cond (a0.2.1 != (0 : Int))
 (some (true, ()))
 (some ((a0.2.2.1 != (0 : Int)), ())))
 (Option.bind (impl_isMods a0.2.2.1) fun r3 =>
 (cond r3.1
 (cond (a0.2.1 != (0 : Int))
 (some (true, ()))
 (some ((a0.2.2.1 != (0 : Int)), ())))
 (some (false, ())))))
 (some (false, ())))))
 (some (false, ())))
 (cond (a0.1 == (3 : Int))
 (cond (a0.2.1 == (0 : Int))
 (cond (a0.2.2.1 == (0 : Int))
 (Option.bind (impl_isUpper a0.2.2.2.1) fun r4 =>
 (some (r4.1, ())))
 (some (false, ())))
 (some (false, ())))
 (cond (a0.1 == (4 : Int))
 (cond (a0.2.1 == (0 : Int))
 (cond (a0.2.2.1 == (0 : Int))
 (Option.bind (impl_isUpper a0.2.2.2.1) fun r5 =>
 (some (r5.1, ())))
 (some (false, ())))
 (some (false, ())))
 (cond (a0.1 == (5 : Int))
 (cond (a0.2.1 == (0 : Int))
 (cond (a0.2.2.1 == (0 : Int))
 (cond (decide (a0.2.2.2.1 ≥ (0 : Int)))
 (some ((decide (a0.2.2.2.1 ≤ (3 : Int))), ()))
 (some (false, ())))
 (some (false, ())))
 (some (false, ())))
 (cond (a0.1 == (9 : Int))
 (cond (a0.2.1 == (0 : Int))
 (cond (a0.2.2.1 == (0 : Int))
 (cond (decide (a0.2.2.2.1 ≥ (0 : Int)))
 (some ((decide (a0.2.2.2.1 ≤ (3 : Int))), ()))
 (some (false, ())))
 (some (false, ())))
 (some (false, ())))
 (cond (a0.1 == (6 : Int))
 (Option.bind (impl_isCode a0.2.1) fun r6 =>
 (cond r6.1
 (Option.bind (impl_isMods a0.2.2.1) fun r7 =>
 (cond r7.1
 (some ((a0.2.2.2.1 == (0 : Int)), ()))
 (some (false, ()))))
 (some (false, ()))))
 (cond (a0.1 == (7 : Int))
 (Option.bind (impl_isCode a0.2.1) fun r8 =>
 (cond r8.1
 (cond (a0.2.2.1 == (0 : Int))
 (Option.bind (impl_isUpper a0.2.2.2.1) fun r9 =>
 (some (r9.1, ())))
 (some (false, ())))
 (some (false, ()))))
 (cond (a0.1 == (8 : Int))
 (cond (a0.2.1 == (0 : Int))
 (Option.bind (impl_isMods a0.2.2.1) fun r10 =>
 (cond r10.1
 (some ((a0.2.2.2.1 == (0 : Int)), ()))
 (some (false, ()))))
 (some (false, ())))
 (some (false, ())))))))))))))

noncomputable def impl_IsKeymap_9_R (t1 : Unit) (t3 : Int) (t28 : (List (List TAction))) (t29 : Int) (t30 : Int) (t40 : (List TAction)) (t41 : Int) (t42 : Int) (b1 : TKeymap) : Option (((Unit × (Int × ((List (List TAction)) × (Int × (Int × ((List TAction) × TCombo)))))) × (TKeymap × Unit)) ⊕ (((Unit × ((List (List TAction)) × TCombo)) × (TKeymap × Unit)) ⊕ ((Bool × Unit) × Unit))) :=
 (cond (decide (t42 < t41))
 (Option.bind (idx t40 t42) fun x24 =>
 (Option.bind (impl_IsAction x24) fun r25 =>
 (cond (!r25.1)
 (some (.inr (.inr ((false, ()), ()))))
 (cond (t3 == (0 : Int))
 (cond (x24.1 == (1 : Int))
 (some (.inr (.inr ((false, ()), ()))))
 (cond (x24.1 != (9 : Int))
 (cond (decide (x24.2.2.2.1 ≥ ((List.length b1.2.1 : Nat) : Int)))
 (some (.inr (.inr ((false, ()), ()))))
 (some (.inl (((), t3, t28, t29, t30, t40, t41, (Go.IntKind.wrap .i64 (t42 + (1 : Int))), ()), (b1, ())))))
 (some (.inl (((), t3, t28, t29, t30, t40, t41, (Go.IntKind.wrap .i64 (t42 + (1 : Int))), ()), (b1, ()))))))
 (cond (x24.1 != (9 : Int))
 (cond (decide (x24.2.2.2.1 ≥ ((List.length b1.2.1 : Nat) : Int)))
 (some (.inr (.inr ((false, ()), ()))))
 (some (.inl (((), t3, t28, t29, t30, t40, t41, (Go.IntKind.wrap .i64 (t42 + (1 : Int))), ()), (b1, ())))))
 (some (.inl (((), t3, t28, t29, t30, t40, t41, (Go.IntKind.wrap .i64 (t42 + (1 : Int))), ()), (b1, ())))))))))
 (some (.inr (.inl (((), t28, t29, t30, ()), (b1, ()))))))
noncomputable def impl_IsKeymap_9_loop (x : ((Unit × (Int × ((List (List TAction)) × (Int × (Int × ((List TAction) × TCombo)))))) × (TKeymap × Unit))) : Option (((Unit × ((List (List TAction)) × TCombo)) × (TKeymap × Unit)) ⊕ ((Bool × Unit) × Unit)) := loopF (fun x : ((Unit × (Int × ((List (List TAction)) × (Int × (Int × ((List TAction) × TCombo)))))) × (TKeymap × Unit)) => impl_IsKeymap_9_R x.1.1 x.1.2.1 x.1.2.2.1 x.1.2.2.2.1 x.1.2.2.2.2.1 x.1.2.2.2.2.2.1 x.1.2.2.2.2.2.2.1 x.1.2.2.2.2.2.2.2.1 x.2.1) x
noncomputable def impl_IsKeymap_4_R (t1 : Unit) (t28 : (List (List TAction))) (t29 : Int) (t30 : Int) (b1 : TKeymap) : Option (((Unit × ((List (List TAction)) × TCombo)) × (TKeymap × Unit)) ⊕ ((Unit × Unit) ⊕ ((Bool × Unit) × Unit))) :=
 (cond (decide (t30 < t29))
 (Option.bind (idx t28 t30) fun x19 =>
 (cond (((List.length x19 : Nat) : Int) != b1.1)
 (some (.inr (.inr ((false, ()), ()))))
 (Option.bind (impl_IsKeymap_9_loop (((), t30, t28, t29, t30, x19, ((List.length x19 : Nat) : Int), (0 : Int), ()), (b1, ()))) (Sum.elim (fun y26 => (some (.inl (((), y26.1.2.1, y26.1.2.2.1, (Go.IntKind.wrap .i64 (y26.1.2.2.2.1 + (1 : Int))), ()), (y26.2.1, ()))))) (fun z27 => (some (.inr (.inr ((z27.1.1, ()), ())))))))))
 (some (.inr (.inl ((), ())))))
noncomputable def impl_IsKeymap_4_loop (x : ((Unit × ((List (List TAction)) × TCombo)) × (TKeymap × Unit))) : Option ((Unit × Unit) ⊕ ((Bool × Unit) × Unit)) := loopF (fun x : ((Unit × ((List (List TAction)) × TCombo)) × (TKeymap × Unit)) => impl_IsKeymap_4_R x.1.1 x.1.2.1 x.1.2.2.1 x.1.2.2.2.1 x.2.1) x
noncomputable def impl_IsKeymap (a0 : TKeymap) : Option (Bool × Unit) :=
 (cond (decide (a0.1 < (1 : Int)))
 (some (false, ()))
 (cond (decide (a0.1 > (32 : Int)))
 (some (false, ()))
 (cond (decide (((List.length a0.2.1 : Nat) : Int) < (1 : Int)))
 (some (false, ()))
 (cond (decide (((List.length a0.2.1 : Nat) : Int) > (4 : Int)))
 (some (false, ()))
 (Option.bind (impl_IsKeymap_4_loop (((), a0.2.1, ((List.length a0.2.1 : Nat) : Int), (0 : Int), ()), (a0, ()))) (Sum.elim (fun y28 => (some (true, ()))) (fun z29 => (some (z29.1.1, ())))))))))

noncomputable def impl_IsFixed (a0 : TKeymap) (a1 : Int) : Option (Bool × Unit) :=
 (Option.bind (impl_IsKeymap a0) fun r1 =>
 (cond r1.1
 (cond (decide (a1 ≥ (0 : Int)))
 (cond ((2 : Int) == (0 : Int))
 none
 (cond ((Int.tmod a1 (2 : Int)) == (0 : Int))
 (cond (decide ((0 : Int) ≤ ((List.length a0.2.1 : Nat) : Int)))
 (some ((decide (a1 < (ishl .i64 (1 : Int) ((List.length a0.2.1 : Nat) : Int)))), ()))
 none)
 (some (false, ()))))
 (some (false, ())))
 (some (false, ()))))

noncomputable def laws_heldSentS_2_R (t0 : (List TSent)) (t1 : Int) (t5 : Int) : Option ((((List TSent) × TCombo) × Unit) ⊕ (((Int × Unit) × Unit) ⊕ ((Int × Unit) × Unit))) :=
 (cond (decide (t5 < ((List.length t0 : Nat) : Int)))
 (Option.bind (idx t0 t5) fun x9 =>
 (cond (x9.1 != t1)
 (some (.inr (.inr (((-1 : Int), ()), ()))))
 (Option.bind (idx t0 t5) fun x10 =>
 (cond (x10.2.1.1 != (Go.IntKind.wrap .i64 (t1 + (1 : Int))))
 (some (.inr (.inr (((-1 : Int), ()), ()))))
 (Option.bind (idx t0 t5) fun x11 =>
 (Option.bind (laws_heldIntS x11.2.1.2.1 (Go.IntKind.wrap .i64 ((Go.IntKind.wrap .i64 (t1 + (1 : Int))) + (1 : Int)))) fun r12 =>
 (cond (decide (r12.1 < (0 : Int)))
 (some (.inr (.inr (((-1 : Int), ()), ()))))
 (some (.inl ((t0, r12.1, (Go.IntKind.wrap .i64 (t5 + (1 : Int))), ()), ()))))))))))
 (some (.inr (.inl ((t1, ()), ())))))
noncomputable def laws_heldSentS_2_loop (x : (((List TSent) × TCombo) × Unit)) : Option (((Int × Unit) × Unit) ⊕ ((Int × Unit) × Unit)) := loopF (fun x : (((List TSent) × TCombo) × Unit) => laws_heldSentS_2_R x.1.1 x.1.2.1 x.1.2.2.1) x
noncomputable def laws_heldSentS (a0 : (List TSent)) (a1 : Int) : Option (Int × Unit) :=
 (Option.bind (laws_heldSentS_2_loop ((a0, a1, (0 : Int), ()), ())) (Sum.elim (fun y13 => (some (y13.1.1, ()))) (fun z14 => (some (z14.1.1, ())))))
end KF
