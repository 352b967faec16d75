/- The plain functions that the Go functions compute: definitions alone (no condition). -/
import Derived.Test.YtbinnhkjbaoakaaCb
namespace KF
open Go
set_option linter.unusedVariables false
abbrev int : Ty := .i .i64
abbrev byte : Ty := .i .u8
abbrev tAcceptRange : Ty := (.p byte (.p byte .u))
abbrev TAcceptRange : Type := (Int × (Int × Unit))
abbrev tCombo : Ty := (.p int (.p int .u))
abbrev TCombo : Type := (Int × (Int × Unit))
abbrev tReport : Ty := (.p int (.p (.sl int) .u))
abbrev TReport : Type := (Int × ((List Int) × Unit))
abbrev tEvent : Ty := (.p int (.p int (.p .b .u)))
abbrev TEvent : Type := (Int × (Int × (Bool × Unit)))
abbrev tStep : Ty := (.p int tCombo)
abbrev TStep : Type := (Int × TCombo)
abbrev tFlash : Ty := (.p (.sl (.sl int)) (.p (.sl int) .u))
abbrev TFlash : Type := ((List (List Int)) × ((List Int) × Unit))
abbrev tL1Cur : Ty := (.p (.sl byte) tCombo)
abbrev TL1Cur : Type := ((List Int) × TCombo)
abbrev tAction : Ty := (.p int tStep)
abbrev TAction : Type := (Int × TStep)
abbrev tFlashOp : Ty := (.p .b tStep)
abbrev TFlashOp : Type := (Bool × TStep)
abbrev tReceiver : Ty := (.p (.sl byte) tStep)
abbrev TReceiver : Type := ((List Int) × TStep)
abbrev tSent : Ty := (.p int (.p tReport .u))
abbrev TSent : Type := (Int × (TReport × Unit))
abbrev tTapped : Ty := (.p tEvent (.p .s .u))
abbrev TTapped : Type := (TEvent × ((List UInt8) × Unit))
abbrev tHeld : Ty := (.p int (.p tAction .u))
abbrev THeld : Type := (Int × (TAction × Unit))
abbrev tDebouncer : Ty := (.p int (.p int (.p int (.p int tReport))))
abbrev TDebouncer : Type := (Int × (Int × (Int × (Int × TReport))))
abbrev tKeymap : Ty := (.p int (.p (.sl (.sl tAction)) .u))
abbrev TKeymap : Type := (Int × ((List (List TAction)) × Unit))
abbrev tBoth : Ty := (.p tEvent (.p tEvent .u))
abbrev TBoth : Type := (TEvent × (TEvent × Unit))
abbrev tCombiner : Ty := (.p (.sl tCombo) (.p int (.p (.sl tEvent) (.p int (.p int (.p int (.p (.sl tEvent) .u)))))))
abbrev TCombiner : Type := ((List TCombo) × (Int × ((List TEvent) × (Int × (Int × (Int × ((List TEvent) × Unit)))))))
abbrev tEngine : Ty := (.p tKeymap (.p (.sl (.sl tStep)) (.p int (.p (.sl tHeld) (.p int (.p .b .u))))))
abbrev TEngine : Type := (TKeymap × ((List (List TStep)) × (Int × ((List THeld) × (Int × (Bool × Unit))))))
abbrev tDecider : Ty := (.p tEngine (.p tStep (.p (.sl tEvent) tAction)))
abbrev TDecider : Type := (TEngine × (TStep × ((List TEvent) × TAction)))
abbrev tSession : Ty := (.p tDecider (.p (.sl tSent) .u))
abbrev TSession : Type := (TDecider × ((List TSent) × Unit))
abbrev tL19Pair : Ty := (.p tEngine (.p tEngine (.p (.sl int) .u)))
abbrev TL19Pair : Type := (TEngine × (TEngine × ((List Int) × Unit)))
abbrev tBoard : Ty := (.p tEvent (.p tDebouncer (.p tCombiner (.p tDecider tCombo))))
abbrev TBoard : Type := (TEvent × (TDebouncer × (TCombiner × (TDecider × TCombo))))
abbrev tHalves : Ty := (.p tBoard (.p tReceiver (.p int .u)))
abbrev THalves : Type := (TBoard × (TReceiver × (Int × Unit)))
abbrev tMatrix : Ty := tEvent
abbrev TMatrix : Type := TEvent
abbrev tTiming : Ty := tStep
abbrev TTiming : Type := TStep
abbrev tMemory : Ty := tEvent
abbrev TMemory : Type := TEvent
abbrev tActive : Ty := tEvent
abbrev TActive : Type := TEvent
abbrev tPair : Ty := tCombo
abbrev TPair : Type := TCombo


noncomputable def spec_l1In (a0 : Int) (a1 : Int) (a2 : Int) : Option (Bool × Unit) :=
 (cond (decide (a0 ≥ a1))
 (some ((decide (a0 ≤ a2)), ()))
 (some (false, ())))

noncomputable def laws_szActionS (a0 : (List TAction)) (a1 : Int) : Option (Int × Unit) :=
 (cond (decide ((Go.IntKind.wrap .i64 (a1 - ((List.length a0 : Nat) : Int))) < (0 : Int)))
 (some ((-1 : Int), ()))
 (some ((Go.IntKind.wrap .i64 (a1 - ((List.length a0 : Nat) : Int))), ())))

noncomputable def laws_szActionSS_5_R (t0 : (List (List TAction))) (t1 : Int) (t5 : Int) : Option ((((List (List TAction)) × TCombo) × Unit) ⊕ (((Int × Unit) × Unit) ⊕ ((Int × Unit) × Unit))) :=
 (cond (decide (t5 < ((List.length t0 : Nat) : Int)))
 (Option.bind (idx t0 t5) fun x5 =>
 (Option.bind (laws_szActionS x5 t1) fun r6 =>
 (cond (decide (r6.1 < (0 : Int)))
 (some (.inr (.inr (((-1 : Int), ()), ()))))
 (some (.inl ((t0, r6.1, (Go.IntKind.wrap .i64 (t5 + (1 : Int))), ()), ()))))))
 (some (.inr (.inl ((t1, ()), ())))))
noncomputable def laws_szActionSS_5_loop (x : (((List (List TAction)) × TCombo) × Unit)) : Option (((Int × Unit) × Unit) ⊕ ((Int × Unit) × Unit)) := loopF (fun x : (((List (List TAction)) × TCombo) × Unit) => laws_szActionSS_5_R x.1.1 x.1.2.1 x.1.2.2.1) x
noncomputable def laws_szActionSS (a0 : (List (List TAction))) (a1 : Int) : Option (Int × Unit) :=
 (cond (decide ((Go.IntKind.wrap .i64 (a1 - ((List.length a0 : Nat) : Int))) < (0 : Int)))
 (some ((-1 : Int), ()))
 (Option.bind (laws_szActionSS_5_loop ((a0, (Go.IntKind.wrap .i64 (a1 - ((List.length a0 : Nat) : Int))), (0 : Int), ()), ())) (Sum.elim (fun y7 => (some (y7.1.1, ()))) (fun z8 => (some (z8.1.1, ()))))))

noncomputable def laws_szKeymap (a0 : TKeymap) (a1 : Int) : Option (Int × Unit) :=
 (Option.bind (laws_szActionSS a0.2.1 a1) fun r1 =>
 (cond (decide (r1.1 < (0 : Int)))
 (some ((-1 : Int), ()))
 (some (r1.1, ()))))

noncomputable def laws_toAction (a0 : TAction) : Option (TAction × Unit) :=
 (some ((a0.1, a0.2.1, a0.2.2.1, a0.2.2.2.1, ()), ()))

noncomputable def laws_toActionS_3_R (t0 : (List TAction)) (t3 : (List TAction)) (t4 : Int) : Option ((((List TAction) × ((List TAction) × (Int × Unit))) × Unit) ⊕ ((((List TAction) × Unit) × Unit) ⊕ (Unit × Unit))) :=
 (cond (decide (t4 < ((List.length t0 : Nat) : Int)))
 (Option.bind (idx t0 t4) fun x7 =>
 (Option.bind (laws_toAction x7) fun r8 =>
 (cond (inb (List.length t3) t4)
 (Option.bind t3[(Int.toNat t4)]? fun x9 =>
 (some (.inl ((t0, (List.set t3 (Int.toNat t4) r8.1), (Go.IntKind.wrap .i64 (t4 + (1 : Int))), ()), ()))))
 none)))
 (some (.inr (.inl ((t3, ()), ())))))
noncomputable def laws_toActionS_3_loop (x : (((List TAction) × ((List TAction) × (Int × Unit))) × Unit)) : Option ((((List TAction) × Unit) × Unit) ⊕ (Unit × Unit)) := loopF (fun x : (((List TAction) × ((List TAction) × (Int × Unit))) × Unit) => laws_toActionS_3_R x.1.1 x.1.2.1 x.1.2.2.1) x
noncomputable def laws_toActionS (a0 : (List TAction)) : Option ((List TAction) × Unit) :=
 (cond ((((List.length a0 : Nat) : Int) == ((List.length a0 : Nat) : Int)) && (decide ((0 : Int) ≤ ((List.length a0 : Nat) : Int)) && decide (((List.length a0 : Nat) : Int) ≤ ((lim : Nat) : Int))))
 (Option.bind (laws_toActionS_3_loop ((a0, (List.replicate (Int.toNat ((List.length a0 : Nat) : Int)) ((0 : Int), (0 : Int), (0 : Int), (0 : Int), ())), (0 : Int), ()), ())) (Sum.elim (fun y10 => (some (y10.1.1, ()))) (fun z11 => none)))
 none)

noncomputable def laws_toActionSS_3_R (t0 : (List (List TAction))) (t3 : (List (List TAction))) (t4 : Int) : Option ((((List (List TAction)) × ((List (List TAction)) × (Int × Unit))) × Unit) ⊕ ((((List (List TAction)) × Unit) × Unit) ⊕ (Unit × Unit))) :=
 (cond (decide (t4 < ((List.length t0 : Nat) : Int)))
 (Option.bind (idx t0 t4) fun x7 =>
 (Option.bind (laws_toActionS x7) fun r8 =>
 (cond (inb (List.length t3) t4)
 (Option.bind t3[(Int.toNat t4)]? fun x9 =>
 (some (.inl ((t0, (List.set t3 (Int.toNat t4) r8.1), (Go.IntKind.wrap .i64 (t4 + (1 : Int))), ()), ()))))
 none)))
 (some (.inr (.inl ((t3, ()), ())))))
noncomputable def laws_toActionSS_3_loop (x : (((List (List TAction)) × ((List (List TAction)) × (Int × Unit))) × Unit)) : Option ((((List (List TAction)) × Unit) × Unit) ⊕ (Unit × Unit)) := loopF (fun x : (((List (List TAction)) × ((List (List TAction)) × (Int × Unit))) × Unit) => laws_toActionSS_3_R x.1.1 x.1.2.1 x.1.2.2.1) x
noncomputable def laws_toActionSS (a0 : (List (List TAction))) : Option ((List (List TAction)) × Unit) :=
 (cond ((((List.length a0 : Nat) : Int) == ((List.length a0 : Nat) : Int)) && (decide ((0 : Int) ≤ ((List.length a0 : Nat) : Int)) && decide (((List.length a0 : Nat) : Int) ≤ ((lim : Nat) : Int))))
 (Option.bind (laws_toActionSS_3_loop ((a0, (List.replicate (Int.toNat ((List.length a0 : Nat) : Int)) ([] : List TAction)), (0 : Int), ()), ())) (Sum.elim (fun y10 => (some (y10.1.1, ()))) (fun z11 => none)))
 none)

noncomputable def laws_toKeymap (a0 : TKeymap) : Option (TKeymap × Unit) :=
 (Option.bind (laws_toActionSS a0.2.1) fun r1 =>
 (some ((a0.1, r1.1, ()), ())))

noncomputable def spec_IsAction (a0 : TAction) : Option (Bool × Unit) :=
 (Option.bind (spec_l1In a0.2.1 (1 : Int) (56 : Int)) fun r1 =>
 (Option.bind (spec_l1In a0.2.2.1 (1 : Int) (15 : Int)) fun r2 =>
 (Option.bind (spec_l1In a0.2.2.2.1 (1 : Int) (3 : Int)) fun r3 =>
 (cond (a0.1 == (0 : Int))
 (cond (a0.2.1 == (0 : Int))
 (cond (a0.2.2.1 == (0 : Int))
 (some ((a0.2.2.2.1 == (0 : Int)), ()))
 (some (false, ())))
 (some (false, ())))
 (cond (a0.1 == (1 : Int))
 (cond (a0.2.1 == (0 : Int))
 (cond (a0.2.2.1 == (0 : Int))
 (some ((a0.2.2.2.1 == (0 : Int)), ()))
 (some (false, ())))
 (some (false, ())))
 (cond (a0.1 == (10 : Int))
 (cond (a0.2.1 == (0 : Int))
 (cond (a0.2.2.1 == (0 : Int))
 (some ((a0.2.2.2.1 == (0 : Int)), ()))
 (some (false, ())))
 (some (false, ())))
 (cond (a0.1 == (2 : Int))
 (cond (a0.2.2.2.1 == (0 : Int))
 (cond r1.1
 (cond r2.1
 (some (true, ()))
 (some ((a0.2.2.1 == (0 : Int)), ())))
 (cond (a0.2.1 == (0 : Int))
 (cond r2.1
 (cond r2.1
 (some (true, ()))
 (some ((a0.2.2.1 == (0 : Int)), ())))
 (some (false, ())))
 (some (false, ()))))
 (some (false, ())))
 (cond (a0.1 == (3 : Int))
 (cond r3.1
 (cond (a0.2.1 == (0 : Int))
 (some ((a0.2.2.1 == (0 : Int)), ()))
 (some (false, ())))
 (some (false, ())))
 (cond (a0.1 == (4 : Int))
 (cond r3.1
 (cond (a0.2.1 == (0 : Int))
 (some ((a0.2.2.1 == (0 : Int)), ()))
 (some (false, ())))
 (some (false, ())))
 (cond (a0.1 == (5 : Int))
 (Option.bind (spec_l1In a0.2.2.2.1 (0 : Int) (3 : Int)) fun r4 =>
 (cond r4.1
 (cond (a0.2.1 == (0 : Int))
 (some ((a0.2.2.1 == (0 : Int)), ()))
 (some (false, ())))
 (some (false, ()))))
 (cond (a0.1 == (9 : Int))
 (Option.bind (spec_l1In a0.2.2.2.1 (0 : Int) (3 : Int)) fun r5 =>
 (cond r5.1
 (cond (a0.2.1 == (0 : Int))
 (some ((a0.2.2.1 == (0 : Int)), ()))
 (some (false, ())))
 (some (false, ()))))
 (cond (a0.1 == (6 : Int))
 (cond r1.1
 (cond r2.1
 (some ((a0.2.2.2.1 == (0 : Int)), ()))
 (some (false, ())))
 (some (false, ())))
 (cond (a0.1 == (7 : Int))
 (cond r1.1
 (cond r3.1
 (some ((a0.2.2.1 == (0 : Int)), ()))
 (some (false, ())))
 (some (false, ())))
 (cond (a0.1 == (8 : Int))
 (cond r2.1
 (cond (a0.2.1 == (0 : Int))
 (some ((a0.2.2.2.1 == (0 : Int)), ()))
 (some (false, ())))
 (some (false, ())))
 (some (false, ()))))))))))))))))

noncomputable def spec_IsKeymap_7_R (t1 : Unit) (t3 : Int) (t4 : Int) (b1 : TKeymap) : Option (((Unit × TCombo) × (TKeymap × Unit)) ⊕ (((Unit × (Int × Unit)) × (TKeymap × Unit)) ⊕ ((Bool × Unit) × Unit))) :=
 (Option.bind (idx b1.2.1 t3) fun x40 =>
 (cond (decide (t4 < ((List.length x40 : Nat) : Int)))
 (Option.bind (idx b1.2.1 t3) fun x41 =>
 (Option.bind (idx x41 t4) fun x42 =>
 (Option.bind (spec_IsAction x42) fun r43 =>
 (cond (!r43.1)
 (some (.inr (.inr ((false, ()), ()))))
 (cond (x42.1 == (1 : Int))
 (cond (t3 == (0 : Int))
 (some (.inr (.inr ((false, ()), ()))))
 (cond (x42.1 != (9 : Int))
 (cond (decide (x42.2.2.2.1 ≥ ((List.length b1.2.1 : Nat) : Int)))
 (some (.inr (.inr ((false, ()), ()))))
 (some (.inl (((), t3, (Go.IntKind.wrap .i64 (t4 + (1 : Int))), ()), (b1, ())))))
 (some (.inl (((), t3, (Go.IntKind.wrap .i64 (t4 + (1 : Int))), ()), (b1, ()))))))
 (cond (x42.1 != (9 : Int))
 (cond (decide (x42.2.2.2.1 ≥ ((List.length b1.2.1 : Nat) : Int)))
 (some (.inr (.inr ((false, ()), ()))))
 (some (.inl (((), t3, (Go.IntKind.wrap .i64 (t4 + (1 : Int))), ()), (b1, ())))))
 (some (.inl (((), t3, (Go.IntKind.wrap .i64 (t4 + (1 : Int))), ()), (b1, ()))))))))))
 (some (.inr (.inl (((), t3, ()), (b1, ())))))))
noncomputable def spec_IsKeymap_7_loop (x : ((Unit × TCombo) × (TKeymap × Unit))) : Option (((Unit × (Int × Unit)) × (TKeymap × Unit)) ⊕ ((Bool × Unit) × Unit)) := loopF (fun x : ((Unit × TCombo) × (TKeymap × Unit)) => spec_IsKeymap_7_R x.1.1 x.1.2.1 x.1.2.2.1 x.2.1) x
noncomputable def spec_IsKeymap_2_R (t1 : Unit) (t3 : Int) (b1 : TKeymap) : Option (((Unit × (Int × Unit)) × (TKeymap × Unit)) ⊕ (((Unit × Unit) × (TKeymap × Unit)) ⊕ ((Bool × Unit) × Unit))) :=
 (cond (decide (t3 < ((List.length b1.2.1 : Nat) : Int)))
 (Option.bind (idx b1.2.1 t3) fun x31 =>
 (cond (((List.length x31 : Nat) : Int) != b1.1)
 (some (.inr (.inr ((false, ()), ()))))
 (Option.bind (spec_IsKeymap_7_loop (((), t3, (0 : Int), ()), (b1, ()))) (Sum.elim (fun y44 => (some (.inl (((), (Go.IntKind.wrap .i64 (y44.1.2.1 + (1 : Int))), ()), (y44.2.1, ()))))) (fun z45 => (some (.inr (.inr ((z45.1.1, ()), ())))))))))
 (some (.inr (.inl (((), ()), (b1, ()))))))
noncomputable def spec_IsKeymap_2_loop (x : ((Unit × (Int × Unit)) × (TKeymap × Unit))) : Option (((Unit × Unit) × (TKeymap × Unit)) ⊕ ((Bool × Unit) × Unit)) := loopF (fun x : ((Unit × (Int × Unit)) × (TKeymap × Unit)) => spec_IsKeymap_2_R x.1.1 x.1.2.1 x.2.1) x
noncomputable def spec_IsKeymap (a0 : TKeymap) : Option (Bool × Unit) :=
 (Option.bind (spec_IsKeymap_2_loop (((), (0 : Int), ()), (a0, ()))) (Sum.elim (fun y46 => (Option.bind (spec_l1In y46.2.1.1 (1 : Int) (32 : Int)) fun r48 =>
 (cond r48.1
 (Option.bind (spec_l1In ((List.length y46.2.1.2.1 : Nat) : Int) (1 : Int) (4 : Int)) fun r49 =>
 (some (r49.1, ())))
 (some (false, ()))))) (fun z47 => (some (z47.1.1, ())))))

noncomputable def spec_IsFixed (a0 : TKeymap) (a1 : Int) : Option (Bool × Unit) :=
 (Option.bind (spec_IsKeymap a0) fun r1 =>
 (cond r1.1
 (cond (decide ((0 : Int) ≤ ((List.length a0.2.1 : Nat) : Int)))
 (Option.bind (spec_l1In a1 (0 : Int) (Go.IntKind.wrap .i64 ((ishl .i64 (1 : Int) ((List.length a0.2.1 : Nat) : Int)) - (1 : Int)))) fun r2 =>
 (cond r2.1
 (cond ((2 : Int) == (0 : Int))
 none
 (some (((Int.tmod a1 (2 : Int)) == (0 : Int)), ())))
 (some (false, ()))))
 none)
 (some (false, ()))))

noncomputable def impl_isCode (a0 : Int) : Option (Bool × Unit) :=
 (cond (decide (a0 ≥ (1 : Int)))
 (some ((decide (a0 ≤ (56 : Int))), ()))
 (some (false, ())))

noncomputable def impl_isMods (a0 : Int) : Option (Bool × Unit) :=
 (cond (decide (a0 ≥ (1 : Int)))
 (some ((decide (a0 ≤ (15 : Int))), ()))
 (some (false, ())))

noncomputable def impl_isUpper (a0 : Int) : Option (Bool × Unit) :=
 (cond (decide (a0 ≥ (1 : Int)))
 (some ((decide (a0 ≤ (3 : Int))), ()))
 (some (false, ())))

noncomputable def impl_IsAction (a0 : TAction) : Option (Bool × Unit) :=
 (cond (a0.1 == (0 : Int))
 (cond (a0.2.1 == (0 : Int))
 (cond (a0.2.2.1 == (0 : Int))
 (some ((a0.2.2.2.1 == (0 : Int)), ()))
 (some (false, ())))
 (some (false, ())))
 (cond (a0.1 == (1 : Int))
 (cond (a0.2.1 == (0 : Int))
 (cond (a0.2.2.1 == (0 : Int))
 (some ((a0.2.2.2.1 == (0 : Int)), ()))
 (some (false, ())))
 (some (false, ())))
 (cond (a0.1 == (10 : Int))
 (cond (a0.2.1 == (0 : Int))
 (cond (a0.2.2.1 == (0 : Int))
 (some ((a0.2.2.2.1 == (0 : Int)), ()))
 (some (false, ())))
 (some (false, ())))
 (cond (a0.1 == (2 : Int))
 (cond (a0.2.2.2.1 == (0 : Int))
 (cond (a0.2.1 == (0 : Int))
 (cond (a0.2.2.1 == (0 : Int))
 (cond (a0.2.1 != (0 : Int))
 (some (true, ()))
 (some ((a0.2.2.1 != (0 : Int)), ())))
 (Option.bind (impl_isMods a0.2.2.1) fun r1 =>
 (cond r1.1
 (cond (a0.2.1 != (0 : Int))
 (some (true, ()))
 (some ((a0.2.2.1 != (0 : Int)), ())))
 (some (false, ())))))
 (Option.bind (impl_isCode a0.2.1) fun r2 =>
 (cond r2.1
 (cond (a0.2.2.1 == (0 : Int))
 (cond (a0.2.1 != (0 : Int))
 (some (true, ()))
 (some ((a0.2.2.1 != (0 : Int)), ())))
 (Option.bind (impl_isMods a0.2.2.1) fun r3 =>
 (cond r3.1
 (cond (a0.2.1 != (0 : Int))
 (some (true, ()))
 (some ((a0.2.2.1 != (0 : Int)), ())))
 (some (false, ())))))
 (some (false, ())))))
 (some (false, ())))
 (cond (a0.1 == (3 : Int))
 (cond (a0.2.1 == (0 : Int))
 (cond (a0.2.2.1 == (0 : Int))
 (Option.bind (impl_isUpper a0.2.2.2.1) fun r4 =>
 (some (r4.1, ())))
 (some (false, ())))
 (some (false, ())))
 (cond (a0.1 == (4 : Int))
 (cond (a0.2.1 == (0 : Int))
 (cond (a0.2.2.1 == (0 : Int))
 (Option.bind (impl_isUpper a0.2.2.2.1) fun r5 =>
 (some (r5.1, ())))
 (some (false, ())))
 (some (false, ())))
 (cond (a0.1 == (5 : Int))
 (cond (a0.2.1 == (0 : Int))
 (cond (a0.2.2.1 == (0 : Int))
 (cond (decide (a0.2.2.2.1 ≥ (0 : Int)))
 (some ((decide (a0.2.2.2.1 ≤ (3 : Int))), ()))
 (some (false, ())))
 (some (false, ())))
 (some (false, ())))
 (cond (a0.1 == (9 : Int))
 (cond (a0.2.1 == (0 : Int))
 (cond (a0.2.2.1 == (0 : Int))
 (cond (decide (a0.2.2.2.1 ≥ (0 : Int)))
 (some ((decide (a0.2.2.2.1 ≤ (3 : Int))), ()))
 (some (false, ())))
 (some (false, ())))
 (some (false, ())))
 (cond (a0.1 == (6 : Int))
 (Option.bind (impl_isCode a0.2.1) fun r6 =>
 (cond r6.1
 (Option.bind (impl_isMods a0.2.2.1) fun r7 =>
 (cond r7.1
 (some ((a0.2.2.2.1 == (0 : Int)), ()))
 (some (false, ()))))
 (some (false, ()))))
 (cond (a0.1 == (7 : Int))
 (Option.bind (impl_isCode a0.2.1) fun r8 =>
 (cond r8.1
 (cond (a0.2.2.1 == (0 : Int))
 (Option.bind (impl_isUpper a0.2.2.2.1) fun r9 =>
 (some (r9.1, ())))
 (some (false, ())))
 (some (false, ()))))
 (cond (a0.1 == (8 : Int))
 (cond (a0.2.1 == (0 : Int))
 (Option.bind (impl_isMods a0.2.2.1) fun r10 =>
 (cond r10.1
 (some ((a0.2.2.2.1 == (0 : Int)), ()))
 (some (false, ()))))
 (some (false, ())))
 (some (false, ())))))))))))))

noncomputable def impl_IsKeymap_9_R (t1 : Unit) (t3 : Int) (t28 : (List (List TAction))) (t29 : Int) (t30 : Int) (t40 : (List TAction)) (t41 : Int) (t42 : Int) (b1 : TKeymap) : Option (((Unit × (Int × ((List (List TAction)) × (Int × (Int × ((List TAction) × TCombo)))))) × (TKeymap × Unit)) ⊕ (((Unit × ((List (List TAction)) × TCombo)) × (TKeymap × Unit)) ⊕ ((Bool × Unit) × Unit))) :=
 (cond (decide (t42 < t41))
 (Option.bind (idx t40 t42) fun x24 =>
 (Option.bind (impl_IsAction x24) fun r25 =>
 (cond (!r25.1)
 (some (.inr (.inr ((false, ()), ()))))
 (cond (t3 == (0 : Int))
 (cond (x24.1 == (1 : Int))
 (some (.inr (.inr ((false, ()), ()))))
 (cond (x24.1 != (9 : Int))
 (cond (decide (x24.2.2.2.1 ≥ ((List.length b1.2.1 : Nat) : Int)))
 (some (.inr (.inr ((false, ()), ()))))
 (some (.inl (((), t3, t28, t29, t30, t40, t41, (Go.IntKind.wrap .i64 (t42 + (1 : Int))), ()), (b1, ())))))
 (some (.inl (((), t3, t28, t29, t30, t40, t41, (Go.IntKind.wrap .i64 (t42 + (1 : Int))), ()), (b1, ()))))))
 (cond (x24.1 != (9 : Int))
 (cond (decide (x24.2.2.2.1 ≥ ((List.length b1.2.1 : Nat) : Int)))
 (some (.inr (.inr ((false, ()), ()))))
 (some (.inl (((), t3, t28, t29, t30, t40, t41, (Go.IntKind.wrap .i64 (t42 + (1 : Int))), ()), (b1, ())))))
 (some (.inl (((), t3, t28, t29, t30, t40, t41, (Go.IntKind.wrap .i64 (t42 + (1 : Int))), ()), (b1, ())))))))))
 (some (.inr (.inl (((), t28, t29, t30, ()), (b1, ()))))))
noncomputable def impl_IsKeymap_9_loop (x : ((Unit × (Int × ((List (List TAction)) × (Int × (Int × ((List TAction) × TCombo)))))) × (TKeymap × Unit))) : Option (((Unit × ((List (List TAction)) × TCombo)) × (TKeymap × Unit)) ⊕ ((Bool × Unit) × Unit)) := loopF (fun x : ((Unit × (Int × ((List (List TAction)) × (Int × (Int × ((List TAction) × TCombo)))))) × (TKeymap × Unit)) => impl_IsKeymap_9_R x.1.1 x.1.2.1 x.1.2.2.1 x.1.2.2.2.1 x.1.2.2.2.2.1 x.1.2.2.2.2.2.1 x.1.2.2.2.2.2.2.1 x.1.2.2.2.2.2.2.2.1 x.2.1) x
noncomputable def impl_IsKeymap_4_R (t1 : Unit) (t28 : (List (List TAction))) (t29 : Int) (t30 : Int) (b1 : TKeymap) : Option (((Unit × ((List (List TAction)) × TCombo)) × (TKeymap × Unit)) ⊕ ((Unit × Unit) ⊕ ((Bool × Unit) × Unit))) :=
 (cond (decide (t30 < t29))
 (Option.bind (idx t28 t30) fun x19 =>
 (cond (((List.length x19 : Nat) : Int) != b1.1)
 (some (.inr (.inr ((false, ()), ()))))
 (Option.bind (impl_IsKeymap_9_loop (((), t30, t28, t29, t30, x19, ((List.length x19 : Nat) : Int), (0 : Int), ()), (b1, ()))) (Sum.elim (fun y26 => (some (.inl (((), y26.1.2.1, y26.1.2.2.1, (Go.IntKind.wrap .i64 (y26.1.2.2.2.1 + (1 : Int))), ()), (y26.2.1, ()))))) (fun z27 => (some (.inr (.inr ((z27.1.1, ()), ())))))))))
 (some (.inr (.inl ((), ())))))
noncomputable def impl_IsKeymap_4_loop (x : ((Unit × ((List (List TAction)) × TCombo)) × (TKeymap × Unit))) : Option ((Unit × Unit) ⊕ ((Bool × Unit) × Unit)) := loopF (fun x : ((Unit × ((List (List TAction)) × TCombo)) × (TKeymap × Unit)) => impl_IsKeymap_4_R x.1.1 x.1.2.1 x.1.2.2.1 x.1.2.2.2.1 x.2.1) x
noncomputable def impl_IsKeymap (a0 : TKeymap) : Option (Bool × Unit) :=
 (cond (decide (a0.1 < (1 : Int)))
 (some (false, ()))
 (cond (decide (a0.1 > (32 : Int)))
 (some (false, ()))
 (cond (decide (((List.length a0.2.1 : Nat) : Int) < (1 : Int)))
 (some (false, ()))
 (cond (decide (((List.length a0.2.1 : Nat) : Int) > (4 : Int)))
 (some (false, ()))
 (Option.bind (impl_IsKeymap_4_loop (((), a0.2.1, ((List.length a0.2.1 : Nat) : Int), (0 : Int), ()), (a0, ()))) (Sum.elim (fun y28 => (some (true, ()))) (fun z29 => (some (z29.1.1, ())))))))))

noncomputable def impl_IsFixed (a0 : TKeymap) (a1 : Int) : Option (Bool × Unit) :=
 (Option.bind (impl_IsKeymap a0) fun r1 =>
 (cond r1.1
 (cond (decide (a1 ≥ (0 : Int)))
 (cond ((2 : Int) == (0 : Int))
 none
 (cond ((Int.tmod a1 (2 : Int)) == (0 : Int))
 (cond (decide ((0 : Int) ≤ ((List.length a0.2.1 : Nat) : Int)))
 (some ((decide (a1 < (ishl .i64 (1 : Int) ((List.length a0.2.1 : Nat) : Int)))), ()))
 none)
 (some (false, ()))))
 (some (false, ())))
 (some (false, ()))))

noncomputable def laws_eqAction (a0 : TAction) (a1 : TAction) : Option (Bool × Unit) :=
 (cond (a0.1 != a1.1)
 (some (false, ()))
 (cond (a0.2.1 != a1.2.1)
 (some (false, ()))
 (cond (a0.2.2.1 != a1.2.2.1)
 (some (false, ()))
 (cond (a0.2.2.2.1 != a1.2.2.2.1)
 (some (false, ()))
 (some (true, ()))))))

noncomputable def laws_eqActionS_4_R (t0 : (List TAction)) (t1 : (List TAction)) (t5 : Int) : Option ((((List TAction) × ((List TAction) × (Int × Unit))) × Unit) ⊕ ((Unit × Unit) ⊕ ((Bool × Unit) × Unit))) :=
 (cond (decide (t5 < ((List.length t0 : Nat) : Int)))
 (Option.bind (idx t0 t5) fun x7 =>
 (Option.bind (idx t1 t5) fun x8 =>
 (Option.bind (laws_eqAction x7 x8) fun r9 =>
 (cond (!r9.1)
 (some (.inr (.inr ((false, ()), ()))))
 (some (.inl ((t0, t1, (Go.IntKind.wrap .i64 (t5 + (1 : Int))), ()), ())))))))
 (some (.inr (.inl ((), ())))))
noncomputable def laws_eqActionS_4_loop (x : (((List TAction) × ((List TAction) × (Int × Unit))) × Unit)) : Option ((Unit × Unit) ⊕ ((Bool × Unit) × Unit)) := loopF (fun x : (((List TAction) × ((List TAction) × (Int × Unit))) × Unit) => laws_eqActionS_4_R x.1.1 x.1.2.1 x.1.2.2.1) x
noncomputable def laws_eqActionS (a0 : (List TAction)) (a1 : (List TAction)) : Option (Bool × Unit) :=
 (cond (((List.length a0 : Nat) : Int) != ((List.length a1 : Nat) : Int))
 (some (false, ()))
 (Option.bind (laws_eqActionS_4_loop ((a0, a1, (0 : Int), ()), ())) (Sum.elim (fun y10 => (some (true, ()))) (fun z11 => (some (z11.1.1, ()))))))

noncomputable def laws_eqActionSS_4_R (t0 : (List (List TAction))) (t1 : (List (List TAction))) (t5 : Int) : Option ((((List (List TAction)) × ((List (List TAction)) × (Int × Unit))) × Unit) ⊕ ((Unit × Unit) ⊕ ((Bool × Unit) × Unit))) :=
 (cond (decide (t5 < ((List.length t0 : Nat) : Int)))
 (Option.bind (idx t0 t5) fun x7 =>
 (Option.bind (idx t1 t5) fun x8 =>
 (Option.bind (laws_eqActionS x7 x8) fun r9 =>
 (cond (!r9.1)
 (some (.inr (.inr ((false, ()), ()))))
 (some (.inl ((t0, t1, (Go.IntKind.wrap .i64 (t5 + (1 : Int))), ()), ())))))))
 (some (.inr (.inl ((), ())))))
noncomputable def laws_eqActionSS_4_loop (x : (((List (List TAction)) × ((List (List TAction)) × (Int × Unit))) × Unit)) : Option ((Unit × Unit) ⊕ ((Bool × Unit) × Unit)) := loopF (fun x : (((List (List TAction)) × ((List (List TAction)) × (Int × Unit))) × Unit) => laws_eqActionSS_4_R x.1.1 x.1.2.1 x.1.2.2.1) x
noncomputable def laws_eqActionSS (a0 : (List (List TAction))) (a1 : (List (List TAction))) : Option (Bool × Unit) :=
 (cond (((List.length a0 : Nat) : Int) != ((List.length a1 : Nat) : Int))
 (some (false, ()))
 (Option.bind (laws_eqActionSS_4_loop ((a0, a1, (0 : Int), ()), ())) (Sum.elim (fun y10 => (some (true, ()))) (fun z11 => (some (z11.1.1, ()))))))

noncomputable def laws_eqKeymap (a0 : TKeymap) (a1 : TKeymap) : Option (Bool × Unit) :=
 (cond (a0.1 != a1.1)
 (some (false, ()))
 (Option.bind (laws_eqActionSS a0.2.1 a1.2.1) fun r1 =>
 (cond (!r1.1)
 (some (false, ()))
 (some (true, ())))))

noncomputable def spec_IsTapHold (a0 : TAction) : Option (Bool × Unit) :=
 (Option.bind (spec_IsAction a0) fun r1 =>
 (cond r1.1
 (cond (a0.1 == (6 : Int))
 (some (true, ()))
 (some ((a0.1 == (7 : Int)), ())))
 (some (false, ()))))

noncomputable def spec_TapOf (a0 : TAction) : Option (TAction × Unit) :=
 (Option.bind (spec_IsTapHold a0) fun r1 =>
 (cond (!r1.1)
 (some (a0, ()))
 (some (((2 : Int), a0.2.1, (0 : Int), (0 : Int), ()), ()))))

noncomputable def spec_KeyFor_2_R (t1 : Int) (t2 : Int) (t3 : Unit) (t7 : Int) (b3 : TKeymap) : Option (((Int × (Int × (Unit × (Int × Unit)))) × (TKeymap × Unit)) ⊕ ((Unit × Unit) ⊕ ((Int × Unit) × Unit))) :=
 (cond (decide (t7 < b3.1))
 (Option.bind (spec_IsKeymap b3) fun r11 =>
 (cond r11.1
 (Option.bind (spec_l1In t1 (0 : Int) (56 : Int)) fun r12 =>
 (cond r12.1
 (Option.bind (idx b3.2.1 (0 : Int)) fun x13 =>
 (Option.bind (idx x13 t7) fun x14 =>
 (cond (decide (t1 > (0 : Int)))
 (Option.bind (spec_TapOf x14) fun r15 =>
 (cond (r15.1.1 == (2 : Int))
 (cond (r15.1.2.1 == t1)
 (cond (r15.1.2.2.1 == t2)
 (some (.inr (.inr ((t7, ()), ()))))
 (some (.inl ((t1, t2, (), (Go.IntKind.wrap .i64 (t7 + (1 : Int))), ()), (b3, ())))))
 (some (.inl ((t1, t2, (), (Go.IntKind.wrap .i64 (t7 + (1 : Int))), ()), (b3, ())))))
 (some (.inl ((t1, t2, (), (Go.IntKind.wrap .i64 (t7 + (1 : Int))), ()), (b3, ()))))))
 (cond (x14.1 == (2 : Int))
 (cond (x14.2.1 == t1)
 (cond (x14.2.2.1 == t2)
 (some (.inr (.inr ((t7, ()), ()))))
 (some (.inl ((t1, t2, (), (Go.IntKind.wrap .i64 (t7 + (1 : Int))), ()), (b3, ())))))
 (some (.inl ((t1, t2, (), (Go.IntKind.wrap .i64 (t7 + (1 : Int))), ()), (b3, ())))))
 (some (.inl ((t1, t2, (), (Go.IntKind.wrap .i64 (t7 + (1 : Int))), ()), (b3, ()))))))))
 (some (.inr (.inl ((), ()))))))
 (some (.inr (.inl ((), ()))))))
 (some (.inr (.inl ((), ())))))
noncomputable def spec_KeyFor_2_loop (x : ((Int × (Int × (Unit × (Int × Unit)))) × (TKeymap × Unit))) : Option ((Unit × Unit) ⊕ ((Int × Unit) × Unit)) := loopF (fun x : ((Int × (Int × (Unit × (Int × Unit)))) × (TKeymap × Unit)) => spec_KeyFor_2_R x.1.1 x.1.2.1 x.1.2.2.1 x.1.2.2.2.1 x.2.1) x
noncomputable def spec_KeyFor (a0 : TKeymap) (a1 : Int) (a2 : Int) : Option (Int × Unit) :=
 (Option.bind (spec_KeyFor_2_loop ((a1, a2, (), (0 : Int), ()), (a0, ()))) (Sum.elim (fun y16 => (some ((-1 : Int), ()))) (fun z17 => (some (z17.1.1, ())))))

noncomputable def impl_IsTapHold (a0 : TAction) : Option (Bool × Unit) :=
 (Option.bind (impl_IsAction a0) fun r1 =>
 (cond r1.1
 (cond (a0.1 == (6 : Int))
 (some (true, ()))
 (some ((a0.1 == (7 : Int)), ())))
 (some (false, ()))))

noncomputable def impl_TapOf (a0 : TAction) : Option (TAction × Unit) :=
 (Option.bind (impl_IsTapHold a0) fun r1 =>
 (cond (!r1.1)
 (some (a0, ()))
 (some (((2 : Int), a0.2.1, (0 : Int), (0 : Int), ()), ()))))

noncomputable def impl_keyFor_2_R (t1 : Int) (t2 : Int) (t12 : (List TAction)) (t13 : Int) (t14 : Int) : Option (((Int × (Int × ((List TAction) × TCombo))) × Unit) ⊕ ((Unit × Unit) ⊕ ((Int × Unit) × Unit))) :=
 (cond (decide (t14 < t13))
 (Option.bind (idx t12 t14) fun x6 =>
 (cond (t1 != (0 : Int))
 (Option.bind (impl_TapOf x6) fun r7 =>
 (cond (r7.1.1 == (2 : Int))
 (cond (r7.1.2.1 == t1)
 (cond (r7.1.2.2.1 == t2)
 (some (.inr (.inr ((t14, ()), ()))))
 (some (.inl ((t1, t2, t12, t13, (Go.IntKind.wrap .i64 (t14 + (1 : Int))), ()), ()))))
 (some (.inl ((t1, t2, t12, t13, (Go.IntKind.wrap .i64 (t14 + (1 : Int))), ()), ()))))
 (some (.inl ((t1, t2, t12, t13, (Go.IntKind.wrap .i64 (t14 + (1 : Int))), ()), ())))))
 (cond (x6.1 == (2 : Int))
 (cond (x6.2.1 == t1)
 (cond (x6.2.2.1 == t2)
 (some (.inr (.inr ((t14, ()), ()))))
 (some (.inl ((t1, t2, t12, t13, (Go.IntKind.wrap .i64 (t14 + (1 : Int))), ()), ()))))
 (some (.inl ((t1, t2, t12, t13, (Go.IntKind.wrap .i64 (t14 + (1 : Int))), ()), ()))))
 (some (.inl ((t1, t2, t12, t13, (Go.IntKind.wrap .i64 (t14 + (1 : Int))), ()), ()))))))
 (some (.inr (.inl ((), ())))))
noncomputable def impl_keyFor_2_loop (x : ((Int × (Int × ((List TAction) × TCombo))) × Unit)) : Option ((Unit × Unit) ⊕ ((Int × Unit) × Unit)) := loopF (fun x : ((Int × (Int × ((List TAction) × TCombo))) × Unit) => impl_keyFor_2_R x.1.1 x.1.2.1 x.1.2.2.1 x.1.2.2.2.1 x.1.2.2.2.2.1) x
noncomputable def impl_keyFor (a0 : TKeymap) (a1 : Int) (a2 : Int) : Option (Int × Unit) :=
 (Option.bind (idx a0.2.1 (0 : Int)) fun x1 =>
 (Option.bind (impl_keyFor_2_loop ((a1, a2, x1, ((List.length x1 : Nat) : Int), (0 : Int), ()), ())) (Sum.elim (fun y8 => (some ((-1 : Int), ()))) (fun z9 => (some (z9.1.1, ()))))))

noncomputable def impl_bit (a0 : Int) (a1 : Int) : Option (Int × Unit) :=
 (cond (decide ((0 : Int) ≤ a1))
 (some ((iand .i64 (ishr .i64 a0 a1) (1 : Int)), ()))
 none)

noncomputable def impl_layerAt_2_R (t1 : Int) (t2 : Int) (t3 : Unit) (t7 : Int) (b3 : TKeymap) : Option (((Int × (Int × (Unit × (Int × Unit)))) × (TKeymap × Unit)) ⊕ ((Unit × Unit) ⊕ ((Int × Unit) × Unit))) :=
 (cond (decide (t7 > (0 : Int)))
 (Option.bind (impl_bit t1 t7) fun r7 =>
 (cond (r7.1 == (1 : Int))
 (Option.bind (idx b3.2.1 t7) fun x8 =>
 (Option.bind (idx x8 t2) fun x9 =>
 (cond (x9.1 != (1 : Int))
 (some (.inr (.inr ((t7, ()), ()))))
 (some (.inl ((t1, t2, (), (Go.IntKind.wrap .i64 (t7 - (1 : Int))), ()), (b3, ())))))))
 (some (.inl ((t1, t2, (), (Go.IntKind.wrap .i64 (t7 - (1 : Int))), ()), (b3, ()))))))
 (some (.inr (.inl ((), ())))))
noncomputable def impl_layerAt_2_loop (x : ((Int × (Int × (Unit × (Int × Unit)))) × (TKeymap × Unit))) : Option ((Unit × Unit) ⊕ ((Int × Unit) × Unit)) := loopF (fun x : ((Int × (Int × (Unit × (Int × Unit)))) × (TKeymap × Unit)) => impl_layerAt_2_R x.1.1 x.1.2.1 x.1.2.2.1 x.1.2.2.2.1 x.2.1) x
noncomputable def impl_layerAt (a0 : TKeymap) (a1 : Int) (a2 : Int) : Option (Int × Unit) :=
 (Option.bind (impl_layerAt_2_loop ((a1, a2, (), (Go.IntKind.wrap .i64 (((List.length a0.2.1 : Nat) : Int) - (1 : Int))), ()), (a0, ()))) (Sum.elim (fun y10 => (some ((0 : Int), ()))) (fun z11 => (some (z11.1.1, ())))))

noncomputable def impl_KeyFor (a0 : TKeymap) (a1 : Int) (a2 : Int) : Option (Int × Unit) :=
 (Option.bind (impl_IsKeymap a0) fun r1 =>
 (cond (!r1.1)
 (some ((-1 : Int), ()))
 (cond (decide (a1 < (0 : Int)))
 (some ((-1 : Int), ()))
 (cond (decide (a1 > (56 : Int)))
 (some ((-1 : Int), ()))
 (Option.bind (impl_keyFor a0 a1 a2) fun r2 =>
 (some (r2.1, ())))))))

noncomputable def laws_FnExactKeyFor (a0 : TKeymap) (a1 : Int) (a2 : Int) : Option (Bool × Unit) :=
 (Option.bind (laws_szKeymap a0 (1048576 : Int)) fun r1 =>
 (cond (decide (r1.1 < (0 : Int)))
 (some (true, ()))
 (Option.bind (laws_toKeymap a0) fun r2 =>
 (Option.bind (spec_KeyFor r2.1 a1 a2) fun r3 =>
 (Option.bind (laws_toKeymap a0) fun r4 =>
 (Option.bind (impl_KeyFor r4.1 a1 a2) fun r5 =>
 (cond (r5.1 != r3.1)
 (some (false, ()))
 (Option.bind (laws_toKeymap a0) fun r6 =>
 (Option.bind (laws_eqKeymap r4.1 r6.1) fun r7 =>
 (cond (!r7.1)
 (some (false, ()))
 (some (true, ()))))))))))))

noncomputable def spec_HoldOf (a0 : TAction) : Option (TAction × Unit) :=
 (Option.bind (spec_IsTapHold a0) fun r1 =>
 (cond (!r1.1)
 (some (a0, ()))
 (cond (a0.1 == (6 : Int))
 (some (((2 : Int), (0 : Int), a0.2.2.1, (0 : Int), ()), ()))
 (some (((3 : Int), (0 : Int), (0 : Int), a0.2.2.2.1, ()), ())))))

noncomputable def spec_LayersUsed_11_R (t1 : Unit) (t3 : Int) (t4 : Int) (t5 : Int) (t6 : Int) (b1 : TKeymap) : Option (((Unit × TAction) × (TKeymap × Unit)) ⊕ (((Unit × TStep) × (TKeymap × Unit)) ⊕ (Unit × Unit))) :=
 (cond (decide (t6 < b1.1))
 (cond (decide ((0 : Int) ≤ t5))
 (cond ((iand .i64 (ishr .i64 t3 t5) (1 : Int)) == (1 : Int))
 (Option.bind (idx b1.2.1 t5) fun x100 =>
 (Option.bind (idx x100 t6) fun x101 =>
 (Option.bind (spec_HoldOf x101) fun r102 =>
 (cond (r102.1.1 == (3 : Int))
 (cond (decide ((0 : Int) ≤ r102.1.2.2.2.1))
 (some (.inl (((), (ior .i64 t3 (ishl .i64 (1 : Int) r102.1.2.2.2.1)), t4, t5, (Go.IntKind.wrap .i64 (t6 + (1 : Int))), ()), (b1, ()))))
 none)
 (cond (r102.1.1 == (4 : Int))
 (cond (decide ((0 : Int) ≤ r102.1.2.2.2.1))
 (some (.inl (((), (ior .i64 t3 (ishl .i64 (1 : Int) r102.1.2.2.2.1)), t4, t5, (Go.IntKind.wrap .i64 (t6 + (1 : Int))), ()), (b1, ()))))
 none)
 (cond (r102.1.1 == (5 : Int))
 (cond (decide ((0 : Int) ≤ r102.1.2.2.2.1))
 (some (.inl (((), (ior .i64 t3 (ishl .i64 (1 : Int) r102.1.2.2.2.1)), t4, t5, (Go.IntKind.wrap .i64 (t6 + (1 : Int))), ()), (b1, ()))))
 none)
 (some (.inl (((), t3, t4, t5, (Go.IntKind.wrap .i64 (t6 + (1 : Int))), ()), (b1, ()))))))))))
 (some (.inr (.inl (((), t3, t4, t5, ()), (b1, ()))))))
 none)
 (some (.inr (.inl (((), t3, t4, t5, ()), (b1, ()))))))
noncomputable def spec_LayersUsed_11_loop (x : ((Unit × TAction) × (TKeymap × Unit))) : Option (((Unit × TStep) × (TKeymap × Unit)) ⊕ (Unit × Unit)) := loopF (fun x : ((Unit × TAction) × (TKeymap × Unit)) => spec_LayersUsed_11_R x.1.1 x.1.2.1 x.1.2.2.1 x.1.2.2.2.1 x.1.2.2.2.2.1 x.2.1) x
noncomputable def spec_LayersUsed_8_R (t1 : Unit) (t3 : Int) (t4 : Int) (t5 : Int) (b1 : TKeymap) : Option (((Unit × TStep) × (TKeymap × Unit)) ⊕ (((Unit × TCombo) × (TKeymap × Unit)) ⊕ (Unit × Unit))) :=
 (cond (decide (t5 < ((List.length b1.2.1 : Nat) : Int)))
 (Option.bind (spec_LayersUsed_11_loop (((), t3, t4, t5, (0 : Int), ()), (b1, ()))) (Sum.elim (fun y103 => (some (.inl (((), y103.1.2.1, y103.1.2.2.1, (Go.IntKind.wrap .i64 (y103.1.2.2.2.1 + (1 : Int))), ()), (y103.2.1, ()))))) (fun z104 => (some (.inr (.inr ((), ())))))))
 (some (.inr (.inl (((), t3, t4, ()), (b1, ()))))))
noncomputable def spec_LayersUsed_8_loop (x : ((Unit × TStep) × (TKeymap × Unit))) : Option (((Unit × TCombo) × (TKeymap × Unit)) ⊕ (Unit × Unit)) := loopF (fun x : ((Unit × TStep) × (TKeymap × Unit)) => spec_LayersUsed_8_R x.1.1 x.1.2.1 x.1.2.2.1 x.1.2.2.2.1 x.2.1) x
noncomputable def spec_LayersUsed_5_R (t1 : Unit) (t3 : Int) (t4 : Int) (b1 : TKeymap) : Option (((Unit × TCombo) × (TKeymap × Unit)) ⊕ (((Int × Unit) × Unit) ⊕ (Unit × Unit))) :=
 (cond (decide (t4 < ((List.length b1.2.1 : Nat) : Int)))
 (Option.bind (spec_LayersUsed_8_loop (((), t3, t4, (0 : Int), ()), (b1, ()))) (Sum.elim (fun y105 => (some (.inl (((), y105.1.2.1, (Go.IntKind.wrap .i64 (y105.1.2.2.1 + (1 : Int))), ()), (y105.2.1, ()))))) (fun z106 => (some (.inr (.inr ((), ())))))))
 (some (.inr (.inl ((t3, ()), ())))))
noncomputable def spec_LayersUsed_5_loop (x : ((Unit × TCombo) × (TKeymap × Unit))) : Option (((Int × Unit) × Unit) ⊕ (Unit × Unit)) := loopF (fun x : ((Unit × TCombo) × (TKeymap × Unit)) => spec_LayersUsed_5_R x.1.1 x.1.2.1 x.1.2.2.1 x.2.1) x
noncomputable def spec_LayersUsed (a0 : TKeymap) : Option (Int × Unit) :=
 (Option.bind (spec_IsKeymap a0) fun r1 =>
 (cond (!r1.1)
 (some ((0 : Int), ()))
 (Option.bind (spec_LayersUsed_5_loop (((), (1 : Int), (0 : Int), ()), (a0, ()))) (Sum.elim (fun y107 => (some (y107.1.1, ()))) (fun z108 => none)))))

noncomputable def impl_LayersUsed_10_R (t1 : Unit) (t3 : Int) (t4 : Int) (t13 : Int) (t14 : Int) (t17 : (List (List TAction))) (t18 : Int) (t19 : Int) (t24 : (List TAction)) (t25 : Int) (t26 : Int) (b1 : TKeymap) : Option (((Unit × (Int × (Int × (Int × (Int × ((List (List TAction)) × (Int × (Int × ((List TAction) × TCombo))))))))) × (TKeymap × Unit)) ⊕ (((Unit × (Int × (Int × (Int × ((List (List TAction)) × TCombo))))) × (TKeymap × Unit)) ⊕ (Unit × Unit))) :=
 (cond (decide (t26 < t25))
 (Option.bind (idx t24 t26) fun x161 =>
 (cond (x161.1 == (3 : Int))
 (Option.bind (impl_bit t3 t4) fun r162 =>
 (cond (r162.1 == (1 : Int))
 (cond (decide ((0 : Int) ≤ x161.2.2.2.1))
 (some (.inl (((), (ior .i64 t3 (ishl .i64 (1 : Int) x161.2.2.2.1)), t4, t13, t14, t17, t18, t19, t24, t25, (Go.IntKind.wrap .i64 (t26 + (1 : Int))), ()), (b1, ()))))
 none)
 (some (.inl (((), t3, t4, t13, t14, t17, t18, t19, t24, t25, (Go.IntKind.wrap .i64 (t26 + (1 : Int))), ()), (b1, ()))))))
 (cond (x161.1 == (4 : Int))
 (Option.bind (impl_bit t3 t4) fun r163 =>
 (cond (r163.1 == (1 : Int))
 (cond (decide ((0 : Int) ≤ x161.2.2.2.1))
 (some (.inl (((), (ior .i64 t3 (ishl .i64 (1 : Int) x161.2.2.2.1)), t4, t13, t14, t17, t18, t19, t24, t25, (Go.IntKind.wrap .i64 (t26 + (1 : Int))), ()), (b1, ()))))
 none)
 (some (.inl (((), t3, t4, t13, t14, t17, t18, t19, t24, t25, (Go.IntKind.wrap .i64 (t26 + (1 : Int))), ()), (b1, ()))))))
 (cond (x161.1 == (5 : Int))
 (Option.bind (impl_bit t3 t4) fun r164 =>
 (cond (r164.1 == (1 : Int))
 (cond (decide ((0 : Int) ≤ x161.2.2.2.1))
 (some (.inl (((), (ior .i64 t3 (ishl .i64 (1 : Int) x161.2.2.2.1)), t4, t13, t14, t17, t18, t19, t24, t25, (Go.IntKind.wrap .i64 (t26 + (1 : Int))), ()), (b1, ()))))
 none)
 (some (.inl (((), t3, t4, t13, t14, t17, t18, t19, t24, t25, (Go.IntKind.wrap .i64 (t26 + (1 : Int))), ()), (b1, ()))))))
 (cond (x161.1 == (7 : Int))
 (Option.bind (impl_bit t3 t4) fun r165 =>
 (cond (r165.1 == (1 : Int))
 (cond (decide ((0 : Int) ≤ x161.2.2.2.1))
 (some (.inl (((), (ior .i64 t3 (ishl .i64 (1 : Int) x161.2.2.2.1)), t4, t13, t14, t17, t18, t19, t24, t25, (Go.IntKind.wrap .i64 (t26 + (1 : Int))), ()), (b1, ()))))
 none)
 (some (.inl (((), t3, t4, t13, t14, t17, t18, t19, t24, t25, (Go.IntKind.wrap .i64 (t26 + (1 : Int))), ()), (b1, ()))))))
 (some (.inl (((), t3, t4, t13, t14, t17, t18, t19, t24, t25, (Go.IntKind.wrap .i64 (t26 + (1 : Int))), ()), (b1, ())))))))))
 (some (.inr (.inl (((), t3, t13, t14, t17, t18, t19, ()), (b1, ()))))))
noncomputable def impl_LayersUsed_10_loop (x : ((Unit × (Int × (Int × (Int × (Int × ((List (List TAction)) × (Int × (Int × ((List TAction) × TCombo))))))))) × (TKeymap × Unit))) : Option (((Unit × (Int × (Int × (Int × ((List (List TAction)) × TCombo))))) × (TKeymap × Unit)) ⊕ (Unit × Unit)) := loopF (fun x : ((Unit × (Int × (Int × (Int × (Int × ((List (List TAction)) × (Int × (Int × ((List TAction) × TCombo))))))))) × (TKeymap × Unit)) => impl_LayersUsed_10_R x.1.1 x.1.2.1 x.1.2.2.1 x.1.2.2.2.1 x.1.2.2.2.2.1 x.1.2.2.2.2.2.1 x.1.2.2.2.2.2.2.1 x.1.2.2.2.2.2.2.2.1 x.1.2.2.2.2.2.2.2.2.1 x.1.2.2.2.2.2.2.2.2.2.1 x.1.2.2.2.2.2.2.2.2.2.2.1 x.2.1) x
noncomputable def impl_LayersUsed_7_R (t1 : Unit) (t3 : Int) (t13 : Int) (t14 : Int) (t17 : (List (List TAction))) (t18 : Int) (t19 : Int) (b1 : TKeymap) : Option (((Unit × (Int × (Int × (Int × ((List (List TAction)) × TCombo))))) × (TKeymap × Unit)) ⊕ (((Unit × TStep) × (TKeymap × Unit)) ⊕ (Unit × Unit))) :=
 (cond (decide (t19 < t18))
 (Option.bind (idx t17 t19) fun x150 =>
 (Option.bind (impl_LayersUsed_10_loop (((), t3, t19, t13, t14, t17, t18, t19, x150, ((List.length x150 : Nat) : Int), (0 : Int), ()), (b1, ()))) (Sum.elim (fun y166 => (some (.inl (((), y166.1.2.1, y166.1.2.2.1, y166.1.2.2.2.1, y166.1.2.2.2.2.1, y166.1.2.2.2.2.2.1, (Go.IntKind.wrap .i64 (y166.1.2.2.2.2.2.2.1 + (1 : Int))), ()), (y166.2.1, ()))))) (fun z167 => (some (.inr (.inr ((), ()))))))))
 (some (.inr (.inl (((), t3, t13, t14, ()), (b1, ()))))))
noncomputable def impl_LayersUsed_7_loop (x : ((Unit × (Int × (Int × (Int × ((List (List TAction)) × TCombo))))) × (TKeymap × Unit))) : Option (((Unit × TStep) × (TKeymap × Unit)) ⊕ (Unit × Unit)) := loopF (fun x : ((Unit × (Int × (Int × (Int × ((List (List TAction)) × TCombo))))) × (TKeymap × Unit)) => impl_LayersUsed_7_R x.1.1 x.1.2.1 x.1.2.2.1 x.1.2.2.2.1 x.1.2.2.2.2.1 x.1.2.2.2.2.2.1 x.1.2.2.2.2.2.2.1 x.2.1) x
noncomputable def impl_LayersUsed_5_R (t1 : Unit) (t3 : Int) (t13 : Int) (t14 : Int) (b1 : TKeymap) : Option (((Unit × TStep) × (TKeymap × Unit)) ⊕ (((Int × Unit) × Unit) ⊕ (Unit × Unit))) :=
 (cond (decide (t14 < t13))
 (Option.bind (impl_LayersUsed_7_loop (((), t3, t13, t14, b1.2.1, ((List.length b1.2.1 : Nat) : Int), (0 : Int), ()), (b1, ()))) (Sum.elim (fun y168 => (some (.inl (((), y168.1.2.1, y168.1.2.2.1, (Go.IntKind.wrap .i64 (y168.1.2.2.2.1 + (1 : Int))), ()), (y168.2.1, ()))))) (fun z169 => (some (.inr (.inr ((), ())))))))
 (some (.inr (.inl ((t3, ()), ())))))
noncomputable def impl_LayersUsed_5_loop (x : ((Unit × TStep) × (TKeymap × Unit))) : Option (((Int × Unit) × Unit) ⊕ (Unit × Unit)) := loopF (fun x : ((Unit × TStep) × (TKeymap × Unit)) => impl_LayersUsed_5_R x.1.1 x.1.2.1 x.1.2.2.1 x.1.2.2.2.1 x.2.1) x
noncomputable def impl_LayersUsed (a0 : TKeymap) : Option (Int × Unit) :=
 (Option.bind (impl_IsKeymap a0) fun r1 =>
 (cond (!r1.1)
 (some ((0 : Int), ()))
 (Option.bind (impl_LayersUsed_5_loop (((), (1 : Int), ((List.length a0.2.1 : Nat) : Int), (0 : Int), ()), (a0, ()))) (Sum.elim (fun y170 => (some (y170.1.1, ()))) (fun z171 => none)))))

noncomputable def spec_LayerAt_4_R (t1 : Int) (t2 : Int) (t3 : Unit) (t7 : Int) (b3 : TKeymap) : Option (((Int × (Int × (Unit × (Int × Unit)))) × (TKeymap × Unit)) ⊕ ((Unit × Unit) ⊕ ((Int × Unit) × Unit))) :=
 (cond (decide (t7 > (0 : Int)))
 (cond (decide ((0 : Int) ≤ t7))
 (cond ((iand .i64 (ishr .i64 t1 t7) (1 : Int)) == (1 : Int))
 (Option.bind (idx b3.2.1 t7) fun x7 =>
 (Option.bind (idx x7 t2) fun x8 =>
 (cond (x8.1 != (1 : Int))
 (some (.inr (.inr ((t7, ()), ()))))
 (some (.inl ((t1, t2, (), (Go.IntKind.wrap .i64 (t7 - (1 : Int))), ()), (b3, ())))))))
 (some (.inl ((t1, t2, (), (Go.IntKind.wrap .i64 (t7 - (1 : Int))), ()), (b3, ())))))
 none)
 (some (.inr (.inl ((), ())))))
noncomputable def spec_LayerAt_4_loop (x : ((Int × (Int × (Unit × (Int × Unit)))) × (TKeymap × Unit))) : Option ((Unit × Unit) ⊕ ((Int × Unit) × Unit)) := loopF (fun x : ((Int × (Int × (Unit × (Int × Unit)))) × (TKeymap × Unit)) => spec_LayerAt_4_R x.1.1 x.1.2.1 x.1.2.2.1 x.1.2.2.2.1 x.2.1) x
noncomputable def spec_LayerAt (a0 : TKeymap) (a1 : Int) (a2 : Int) : Option (Int × Unit) :=
 (Option.bind (spec_IsKeymap a0) fun r1 =>
 (cond (!r1.1)
 (some ((-1 : Int), ()))
 (Option.bind (spec_l1In a2 (0 : Int) (Go.IntKind.wrap .i64 (a0.1 - (1 : Int)))) fun r2 =>
 (cond (!r2.1)
 (some ((-1 : Int), ()))
 (Option.bind (spec_LayerAt_4_loop ((a1, a2, (), (Go.IntKind.wrap .i64 (((List.length a0.2.1 : Nat) : Int) - (1 : Int))), ()), (a0, ()))) (Sum.elim (fun y9 => (some ((0 : Int), ()))) (fun z10 => (some (z10.1.1, ())))))))))

noncomputable def spec_ActionAt (a0 : TKeymap) (a1 : Int) (a2 : Int) : Option (TAction × Unit) :=
 (Option.bind (spec_LayerAt a0 a1 a2) fun r1 =>
 (cond (decide (r1.1 < (0 : Int)))
 (some (((0 : Int), (0 : Int), (0 : Int), (0 : Int), ()), ()))
 (Option.bind (idx a0.2.1 r1.1) fun x2 =>
 (Option.bind (idx x2 a2) fun x3 =>
 (some (x3, ()))))))

noncomputable def spec_FixedAfter (a0 : TKeymap) (a1 : Int) (a2 : Int) : Option (Int × Unit) :=
 (Option.bind (spec_IsFixed a0 a1) fun r1 =>
 (cond (!r1.1)
 (some ((-1 : Int), ()))
 (Option.bind (spec_l1In a2 (0 : Int) (Go.IntKind.wrap .i64 (a0.1 - (1 : Int)))) fun r2 =>
 (cond (!r2.1)
 (some ((-1 : Int), ()))
 (Option.bind (spec_ActionAt a0 (ior .i64 (1 : Int) a1) a2) fun r3 =>
 (cond (r3.1.1 == (4 : Int))
 (cond (decide ((0 : Int) ≤ r3.1.2.2.2.1))
 (some ((ixor .i64 a1 (ishl .i64 (1 : Int) r3.1.2.2.2.1)), ()))
 none)
 (cond (r3.1.1 == (5 : Int))
 (cond (decide ((0 : Int) ≤ r3.1.2.2.2.1))
 (some ((iandn .i64 (ishl .i64 (1 : Int) r3.1.2.2.2.1) (1 : Int)), ()))
 none)
 (some (a1, ())))))))))

noncomputable def impl_fixedAfter (a0 : TKeymap) (a1 : Int) (a2 : Int) : Option (Int × Unit) :=
 (Option.bind (impl_layerAt a0 a1 a2) fun r1 =>
 (Option.bind (idx a0.2.1 r1.1) fun x2 =>
 (Option.bind (idx x2 a2) fun x3 =>
 (cond (x3.1 == (4 : Int))
 (cond (decide ((0 : Int) ≤ x3.2.2.2.1))
 (some ((ixor .i64 a1 (ishl .i64 (1 : Int) x3.2.2.2.1)), ()))
 none)
 (cond (x3.1 == (5 : Int))
 (cond (decide ((0 : Int) ≤ x3.2.2.2.1))
 (some ((iandn .i64 (ishl .i64 (1 : Int) x3.2.2.2.1) (1 : Int)), ()))
 none)
 (some (a1, ())))))))

noncomputable def impl_FixedAfter (a0 : TKeymap) (a1 : Int) (a2 : Int) : Option (Int × Unit) :=
 (Option.bind (impl_IsFixed a0 a1) fun r1 =>
 (cond (!r1.1)
 (some ((-1 : Int), ()))
 (cond (decide (a2 < (0 : Int)))
 (some ((-1 : Int), ()))
 (cond (decide (a2 ≥ a0.1))
 (some ((-1 : Int), ()))
 (Option.bind (impl_fixedAfter a0 a1 a2) fun r2 =>
 (some (r2.1, ())))))))
end KF
