/- The plain functions that the Go functions compute: definitions alone (no condition). -/
import Derived.Test.YtbinnhkjbaoakaaCb
namespace KF
open Go
set_option linter.unusedVariables false
abbrev int : Ty := .i .i64
abbrev byte : Ty := .i .u8
abbrev tAcceptRange : Ty := (.p byte (.p byte .u))
abbrev TAcceptRange : Type := (Int × (Int × Unit))
abbrev tCombo : Ty := (.p int (.p int .u))
abbrev TCombo : Type := (Int × (Int × Unit))
abbrev tReport : Ty := (.p int (.p (.sl int) .u))
abbrev TReport : Type := (Int × ((List Int) × Unit))
abbrev tEvent : Ty := (.p int (.p int (.p .b .u)))
abbrev TEvent : Type := (Int × (Int × (Bool × Unit)))
abbrev tStep : Ty := (.p int tCombo)
abbrev TStep : Type := (Int × TCombo)
abbrev tFlash : Ty := (.p (.sl (.sl int)) (.p (.sl int) .u))
abbrev TFlash : Type := ((List (List Int)) × ((List Int) × Unit))
abbrev tL1Cur : Ty := (.p (.sl byte) tCombo)
abbrev TL1Cur : Type := ((List Int) × TCombo)
abbrev tAction : Ty := (.p int tStep)
abbrev TAction : Type := (Int × TStep)
abbrev tFlashOp : Ty := (.p .b tStep)
abbrev TFlashOp : Type := (Bool × TStep)
abbrev tReceiver : Ty := (.p (.sl byte) tStep)
abbrev TReceiver : Type := ((List Int) × TStep)
abbrev tSent : Ty := (.p int (.p tReport .u))
abbrev TSent : Type := (Int × (TReport × Unit))
abbrev tTapped : Ty := (.p tEvent (.p .s .u))
abbrev TTapped : Type := (TEvent × ((List UInt8) × Unit))
abbrev tHeld : Ty := (.p int (.p tAction .u))
abbrev THeld : Type := (Int × (TAction × Unit))
abbrev tDebouncer : Ty := (.p int (.p int (.p int (.p int tReport))))
abbrev TDebouncer : Type := (Int × (Int × (Int × (Int × TReport))))
abbrev tKeymap : Ty := (.p int (.p (.sl (.sl tAction)) .u))
abbrev TKeymap : Type := (Int × ((List (List TAction)) × Unit))
abbrev tBoth : Ty := (.p tEvent (.p tEvent .u))
abbrev TBoth : Type := (TEvent × (TEvent × Unit))
abbrev tCombiner : Ty := (.p (.sl tCombo) (.p int (.p (.sl tEvent) (.p int (.p int (.p int (.p (.sl tEvent) .u)))))))
abbrev TCombiner : Type := ((List TCombo) × (Int × ((List TEvent) × (Int × (Int × (Int × ((List TEvent) × Unit)))))))
abbrev tEngine : Ty := (.p tKeymap (.p (.sl (.sl tStep)) (.p int (.p (.sl tHeld) (.p int (.p .b .u))))))
abbrev TEngine : Type := (TKeymap × ((List (List TStep)) × (Int × ((List THeld) × (Int × (Bool × Unit))))))
abbrev tDecider : Ty := (.p tEngine (.p tStep (.p (.sl tEvent) tAction)))
abbrev TDecider : Type := (TEngine × (TStep × ((List TEvent) × TAction)))
abbrev tSession : Ty := (.p tDecider (.p (.sl tSent) .u))
abbrev TSession : Type := (TDecider × ((List TSent) × Unit))
abbrev tL19Pair : Ty := (.p tEngine (.p tEngine (.p (.sl int) .u)))
abbrev TL19Pair : Type := (TEngine × (TEngine × ((List Int) × Unit)))
abbrev tBoard : Ty := (.p tEvent (.p tDebouncer (.p tCombiner (.p tDecider tCombo))))
abbrev TBoard : Type := (TEvent × (TDebouncer × (TCombiner × (TDecider × TCombo))))
abbrev tHalves : Ty := (.p tBoard (.p tReceiver (.p int .u)))
abbrev THalves : Type := (TBoard × (TReceiver × (Int × Unit)))
abbrev tMatrix : Ty := tEvent
abbrev TMatrix : Type := TEvent
abbrev tTiming : Ty := tStep
abbrev TTiming : Type := TStep
abbrev tMemory : Ty := tEvent
abbrev TMemory : Type := TEvent
abbrev tActive : Ty := tEvent
abbrev TActive : Type := TEvent
abbrev tPair : Ty := tCombo
abbrev TPair : Type := TCombo


noncomputable def laws_toByteS_3_R (t0 : (List Int)) (t3 : (List Int)) (t4 : Int) : Option ((((List Int) × ((List Int) × (Int × Unit))) × Unit) ⊕ ((((List Int) × Unit) × Unit) ⊕ (Unit × Unit))) :=
 (cond (decide (t4 < ((List.length t0 : Nat) : Int)))
 (Option.bind (idx t0 t4) fun x5 =>
 (cond (inb (List.length t3) t4)
 (Option.bind t3[(Int.toNat t4)]? fun x6 =>
 (some (.inl ((t0, (List.set t3 (Int.toNat t4) x5), (Go.IntKind.wrap .i64 (t4 + (1 : Int))), ()), ()))))
 none))
 (some (.inr (.inl ((t3, ()), ())))))
noncomputable def laws_toByteS_3_loop (x : (((List Int) × ((List Int) × (Int × Unit))) × Unit)) : Option ((((List Int) × Unit) × Unit) ⊕ (Unit × Unit)) := loopF (fun x : (((List Int) × ((List Int) × (Int × Unit))) × Unit) => laws_toByteS_3_R x.1.1 x.1.2.1 x.1.2.2.1) x
noncomputable def laws_toByteS (a0 : (List Int)) : Option ((List Int) × Unit) :=
 (cond ((((List.length a0 : Nat) : Int) == ((List.length a0 : Nat) : Int)) && (decide ((0 : Int) ≤ ((List.length a0 : Nat) : Int)) && decide (((List.length a0 : Nat) : Int) ≤ ((lim : Nat) : Int))))
 (Option.bind (laws_toByteS_3_loop ((a0, (List.replicate (Int.toNat ((List.length a0 : Nat) : Int)) (0 : Int)), (0 : Int), ()), ())) (Sum.elim (fun y7 => (some (y7.1.1, ()))) (fun z8 => none)))
 none)

noncomputable def laws_eqByteS_4_R (t0 : (List Int)) (t1 : (List Int)) (t5 : Int) : Option ((((List Int) × ((List Int) × (Int × Unit))) × Unit) ⊕ ((Unit × Unit) ⊕ ((Bool × Unit) × Unit))) :=
 (cond (decide (t5 < ((List.length t0 : Nat) : Int)))
 (Option.bind (idx t0 t5) fun x5 =>
 (Option.bind (idx t1 t5) fun x6 =>
 (cond (x5 != x6)
 (some (.inr (.inr ((false, ()), ()))))
 (some (.inl ((t0, t1, (Go.IntKind.wrap .i64 (t5 + (1 : Int))), ()), ()))))))
 (some (.inr (.inl ((), ())))))
noncomputable def laws_eqByteS_4_loop (x : (((List Int) × ((List Int) × (Int × Unit))) × Unit)) : Option ((Unit × Unit) ⊕ ((Bool × Unit) × Unit)) := loopF (fun x : (((List Int) × ((List Int) × (Int × Unit))) × Unit) => laws_eqByteS_4_R x.1.1 x.1.2.1 x.1.2.2.1) x
noncomputable def laws_eqByteS (a0 : (List Int)) (a1 : (List Int)) : Option (Bool × Unit) :=
 (cond (((List.length a0 : Nat) : Int) != ((List.length a1 : Nat) : Int))
 (some (false, ()))
 (Option.bind (laws_eqByteS_4_loop ((a0, a1, (0 : Int), ()), ())) (Sum.elim (fun y7 => (some (true, ()))) (fun z8 => (some (z8.1.1, ()))))))

noncomputable def spec_l1In (a0 : Int) (a1 : Int) (a2 : Int) : Option (Bool × Unit) :=
 (cond (decide (a0 ≥ a1))
 (some ((decide (a0 ≤ a2)), ()))
 (some (false, ())))

noncomputable def laws_szIntS (a0 : (List Int)) (a1 : Int) : Option (Int × Unit) :=
 (cond (decide ((Go.IntKind.wrap .i64 (a1 - ((List.length a0 : Nat) : Int))) < (0 : Int)))
 (some ((-1 : Int), ()))
 (some ((Go.IntKind.wrap .i64 (a1 - ((List.length a0 : Nat) : Int))), ())))

noncomputable def laws_toIntS_3_R (t0 : (List Int)) (t3 : (List Int)) (t4 : Int) : Option ((((List Int) × ((List Int) × (Int × Unit))) × Unit) ⊕ ((((List Int) × Unit) × Unit) ⊕ (Unit × Unit))) :=
 (cond (decide (t4 < ((List.length t0 : Nat) : Int)))
 (Option.bind (idx t0 t4) fun x5 =>
 (cond (inb (List.length t3) t4)
 (Option.bind t3[(Int.toNat t4)]? fun x6 =>
 (some (.inl ((t0, (List.set t3 (Int.toNat t4) x5), (Go.IntKind.wrap .i64 (t4 + (1 : Int))), ()), ()))))
 none))
 (some (.inr (.inl ((t3, ()), ())))))
noncomputable def laws_toIntS_3_loop (x : (((List Int) × ((List Int) × (Int × Unit))) × Unit)) : Option ((((List Int) × Unit) × Unit) ⊕ (Unit × Unit)) := loopF (fun x : (((List Int) × ((List Int) × (Int × Unit))) × Unit) => laws_toIntS_3_R x.1.1 x.1.2.1 x.1.2.2.1) x
noncomputable def laws_toIntS (a0 : (List Int)) : Option ((List Int) × Unit) :=
 (cond ((((List.length a0 : Nat) : Int) == ((List.length a0 : Nat) : Int)) && (decide ((0 : Int) ≤ ((List.length a0 : Nat) : Int)) && decide (((List.length a0 : Nat) : Int) ≤ ((lim : Nat) : Int))))
 (Option.bind (laws_toIntS_3_loop ((a0, (List.replicate (Int.toNat ((List.length a0 : Nat) : Int)) (0 : Int)), (0 : Int), ()), ())) (Sum.elim (fun y7 => (some (y7.1.1, ()))) (fun z8 => none)))
 none)

noncomputable def laws_eqIntS_4_R (t0 : (List Int)) (t1 : (List Int)) (t5 : Int) : Option ((((List Int) × ((List Int) × (Int × Unit))) × Unit) ⊕ ((Unit × Unit) ⊕ ((Bool × Unit) × Unit))) :=
 (cond (decide (t5 < ((List.length t0 : Nat) : Int)))
 (Option.bind (idx t0 t5) fun x5 =>
 (Option.bind (idx t1 t5) fun x6 =>
 (cond (x5 != x6)
 (some (.inr (.inr ((false, ()), ()))))
 (some (.inl ((t0, t1, (Go.IntKind.wrap .i64 (t5 + (1 : Int))), ()), ()))))))
 (some (.inr (.inl ((), ())))))
noncomputable def laws_eqIntS_4_loop (x : (((List Int) × ((List Int) × (Int × Unit))) × Unit)) : Option ((Unit × Unit) ⊕ ((Bool × Unit) × Unit)) := loopF (fun x : (((List Int) × ((List Int) × (Int × Unit))) × Unit) => laws_eqIntS_4_R x.1.1 x.1.2.1 x.1.2.2.1) x
noncomputable def laws_eqIntS (a0 : (List Int)) (a1 : (List Int)) : Option (Bool × Unit) :=
 (cond (((List.length a0 : Nat) : Int) != ((List.length a1 : Nat) : Int))
 (some (false, ()))
 (Option.bind (laws_eqIntS_4_loop ((a0, a1, (0 : Int), ()), ())) (Sum.elim (fun y7 => (some (true, ()))) (fun z8 => (some (z8.1.1, ()))))))

noncomputable def laws_szActionS (a0 : (List TAction)) (a1 : Int) : Option (Int × Unit) :=
 (cond (decide ((Go.IntKind.wrap .i64 (a1 - ((List.length a0 : Nat) : Int))) < (0 : Int)))
 (some ((-1 : Int), ()))
 (some ((Go.IntKind.wrap .i64 (a1 - ((List.length a0 : Nat) : Int))), ())))

noncomputable def laws_szActionSS_5_R (t0 : (List (List TAction))) (t1 : Int) (t5 : Int) : Option ((((List (List TAction)) × TCombo) × Unit) ⊕ (((Int × Unit) × Unit) ⊕ ((Int × Unit) × Unit))) :=
 (cond (decide (t5 < ((List.length t0 : Nat) : Int)))
 (Option.bind (idx t0 t5) fun x5 =>
 (Option.bind (laws_szActionS x5 t1) fun r6 =>
 (cond (decide (r6.1 < (0 : Int)))
 (some (.inr (.inr (((-1 : Int), ()), ()))))
 (some (.inl ((t0, r6.1, (Go.IntKind.wrap .i64 (t5 + (1 : Int))), ()), ()))))))
 (some (.inr (.inl ((t1, ()), ())))))
noncomputable def laws_szActionSS_5_loop (x : (((List (List TAction)) × TCombo) × Unit)) : Option (((Int × Unit) × Unit) ⊕ ((Int × Unit) × Unit)) := loopF (fun x : (((List (List TAction)) × TCombo) × Unit) => laws_szActionSS_5_R x.1.1 x.1.2.1 x.1.2.2.1) x
noncomputable def laws_szActionSS (a0 : (List (List TAction))) (a1 : Int) : Option (Int × Unit) :=
 (cond (decide ((Go.IntKind.wrap .i64 (a1 - ((List.length a0 : Nat) : Int))) < (0 : Int)))
 (some ((-1 : Int), ()))
 (Option.bind (laws_szActionSS_5_loop ((a0, (Go.IntKind.wrap .i64 (a1 - ((List.length a0 : Nat) : Int))), (0 : Int), ()), ())) (Sum.elim (fun y7 => (some (y7.1.1, ()))) (fun z8 => (some (z8.1.1, ()))))))

noncomputable def laws_szKeymap (a0 : TKeymap) (a1 : Int) : Option (Int × Unit) :=
 (Option.bind (laws_szActionSS a0.2.1 a1) fun r1 =>
 (cond (decide (r1.1 < (0 : Int)))
 (some ((-1 : Int), ()))
 (some (r1.1, ()))))

noncomputable def laws_toAction (a0 : TAction) : Option (TAction × Unit) :=
 (some ((a0.1, a0.2.1, a0.2.2.1, a0.2.2.2.1, ()), ()))

noncomputable def laws_toActionS_3_R (t0 : (List TAction)) (t3 : (List TAction)) (t4 : Int) : Option ((((List TAction) × ((List TAction) × (Int × Unit))) × Unit) ⊕ ((((List TAction) × Unit) × Unit) ⊕ (Unit × Unit))) :=
 (cond (decide (t4 < ((List.length t0 : Nat) : Int)))
 (Option.bind (idx t0 t4) fun x7 =>
 (Option.bind (laws_toAction x7) fun r8 =>
 (cond (inb (List.length t3) t4)
 (Option.bind t3[(Int.toNat t4)]? fun x9 =>
 (some (.inl ((t0, (List.set t3 (Int.toNat t4) r8.1), (Go.IntKind.wrap .i64 (t4 + (1 : Int))), ()), ()))))
 none)))
 (some (.inr (.inl ((t3, ()), ())))))
noncomputable def laws_toActionS_3_loop (x : (((List TAction) × ((List TAction) × (Int × Unit))) × Unit)) : Option ((((List TAction) × Unit) × Unit) ⊕ (Unit × Unit)) := loopF (fun x : (((List TAction) × ((List TAction) × (Int × Unit))) × Unit) => laws_toActionS_3_R x.1.1 x.1.2.1 x.1.2.2.1) x
noncomputable def laws_toActionS (a0 : (List TAction)) : Option ((List TAction) × Unit) :=
 (cond ((((List.length a0 : Nat) : Int) == ((List.length a0 : Nat) : Int)) && (decide ((0 : Int) ≤ ((List.length a0 : Nat) : Int)) && decide (((List.length a0 : Nat) : Int) ≤ ((lim : Nat) : Int))))
 (Option.bind (laws_toActionS_3_loop ((a0, (List.replicate (Int.toNat ((List.length a0 : Nat) : Int)) ((0 : Int), (0 : Int), (0 : Int), (0 : Int), ())), (0 : Int), ()), ())) (Sum.elim (fun y10 => (some (y10.1.1, ()))) (fun z11 => none)))
 none)

noncomputable def laws_toActionSS_3_R (t0 : (List (List TAction))) (t3 : (List (List TAction))) (t4 : Int) : Option ((((List (List TAction)) × ((List (List TAction)) × (Int × Unit))) × Unit) ⊕ ((((List (List TAction)) × Unit) × Unit) ⊕ (Unit × Unit))) :=
 (cond (decide (t4 < ((List.length t0 : Nat) : Int)))
 (Option.bind (idx t0 t4) fun x7 =>
 (Option.bind (laws_toActionS x7) fun r8 =>
 (cond (inb (List.length t3) t4)
 (Option.bind t3[(Int.toNat t4)]? fun x9 =>
 (some (.inl ((t0, (List.set t3 (Int.toNat t4) r8.1), (Go.IntKind.wrap .i64 (t4 + (1 : Int))), ()), ()))))
 none)))
 (some (.inr (.inl ((t3, ()), ())))))
noncomputable def laws_toActionSS_3_loop (x : (((List (List TAction)) × ((List (List TAction)) × (Int × Unit))) × Unit)) : Option ((((List (List TAction)) × Unit) × Unit) ⊕ (Unit × Unit)) := loopF (fun x : (((List (List TAction)) × ((List (List TAction)) × (Int × Unit))) × Unit) => laws_toActionSS_3_R x.1.1 x.1.2.1 x.1.2.2.1) x
noncomputable def laws_toActionSS (a0 : (List (List TAction))) : Option ((List (List TAction)) × Unit) :=
 (cond ((((List.length a0 : Nat) : Int) == ((List.length a0 : Nat) : Int)) && (decide ((0 : Int) ≤ ((List.length a0 : Nat) : Int)) && decide (((List.length a0 : Nat) : Int) ≤ ((lim : Nat) : Int))))
 (Option.bind (laws_toActionSS_3_loop ((a0, (List.replicate (Int.toNat ((List.length a0 : Nat) : Int)) ([] : List TAction)), (0 : Int), ()), ())) (Sum.elim (fun y10 => (some (y10.1.1, ()))) (fun z11 => none)))
 none)

noncomputable def laws_toKeymap (a0 : TKeymap) : Option (TKeymap × Unit) :=
 (Option.bind (laws_toActionSS a0.2.1) fun r1 =>
 (some ((a0.1, r1.1, ()), ())))

noncomputable def spec_IsAction (a0 : TAction) : Option (Bool × Unit) :=
 (Option.bind (spec_l1In a0.2.1 (1 : Int) (56 : Int)) fun r1 =>
 (Option.bind (spec_l1In a0.2.2.1 (1 : Int) (15 : Int)) fun r2 =>
 (Option.bind (spec_l1In a0.2.2.2.1 (1 : Int) (3 : Int)) fun r3 =>
 (cond (a0.1 == (0 : Int))
 (cond (a0.2.1 == (0 : Int))
 (cond (a0.2.2.1 == (0 : Int))
 (some ((a0.2.2.2.1 == (0 : Int)), ()))
 (some (false, ())))
 (some (false, ())))
 (cond (a0.1 == (1 : Int))
 (cond (a0.2.1 == (0 : Int))
 (cond (a0.2.2.1 == (0 : Int))
 (some ((a0.2.2.2.1 == (0 : Int)), ()))
 (some (false, ())))
 (some (false, ())))
 (cond (a0.1 == (10 : Int))
 (cond (a0.2.1 == (0 : Int))
 (cond (a0.2.2.1 == (0 : Int))
 (some ((a0.2.2.2.1 == (0 : Int)), ()))
 (some (false, ())))
 (some (false, ())))
 (cond (a0.1 == (2 : Int))
 (cond (a0.2.2.2.1 == (0 : Int))
 (cond r1.1
 (cond r2.1
 (some (true, ()))
 (some ((a0.2.2.1 == (0 : Int)), ())))
 (cond (a0.2.1 == (0 : Int))
 (cond r2.1
 (cond r2.1
 (some (true, ()))
 (some ((a0.2.2.1 == (0 : Int)), ())))
 (some (false, ())))
 (some (false, ()))))
 (some (false, ())))
 (cond (a0.1 == (3 : Int))
 (cond r3.1
 (cond (a0.2.1 == (0 : Int))
 (some ((a0.2.2.1 == (0 : Int)), ()))
 (some (false, ())))
 (some (false, ())))
 (cond (a0.1 == (4 : Int))
 (cond r3.1
 (cond (a0.2.1 == (0 : Int))
 (some ((a0.2.2.1 == (0 : Int)), ()))
 (some (false, ())))
 (some (false, ())))
 (cond (a0.1 == (5 : Int))
 (Option.bind (spec_l1In a0.2.2.2.1 (0 : Int) (3 : Int)) fun r4 =>
 (cond r4.1
 (cond (a0.2.1 == (0 : Int))
 (some ((a0.2.2.1 == (0 : Int)), ()))
 (some (false, ())))
 (some (false, ()))))
 (cond (a0.1 == (9 : Int))
 (Option.bind (spec_l1In a0.2.2.2.1 (0 : Int) (3 : Int)) fun r5 =>
 (cond r5.1
 (cond (a0.2.1 == (0 : Int))
 (some ((a0.2.2.1 == (0 : Int)), ()))
 (some (false, ())))
 (some (false, ()))))
 (cond (a0.1 == (6 : Int))
 (cond r1.1
 (cond r2.1
 (some ((a0.2.2.2.1 == (0 : Int)), ()))
 (some (false, ())))
 (some (false, ())))
 (cond (a0.1 == (7 : Int))
 (cond r1.1
 (cond r3.1
 (some ((a0.2.2.1 == (0 : Int)), ()))
 (some (false, ())))
 (some (false, ())))
 (cond (a0.1 == (8 : Int))
 (cond r2.1
 (cond (a0.2.1 == (0 : Int))
 (some ((a0.2.2.2.1 == (0 : Int)), ()))
 (some (false, ())))
 (some (false, ())))
 (some (false, ()))))))))))))))))

noncomputable def spec_IsKeymap_7_R (t1 : Unit) (t3 : Int) (t4 : Int) (b1 : TKeymap) : Option (((Unit × TCombo) × (TKeymap × Unit)) ⊕ (((Unit × (Int × Unit)) × (TKeymap × Unit)) ⊕ ((Bool × Unit) × Unit))) :=
 (Option.bind (idx b1.2.1 t3) fun x40 =>
 (cond (decide (t4 < ((List.length x40 : Nat) : Int)))
 (Option.bind (idx b1.2.1 t3) fun x41 =>
 (Option.bind (idx x41 t4) fun x42 =>
 (Option.bind (spec_IsAction x42) fun r43 =>
 (cond (!r43.1)
 (some (.inr (.inr ((false, ()), ()))))
 (cond (x42.1 == (1 : Int))
 (cond (t3 == (0 : Int))
 (some (.inr (.inr ((false, ()), ()))))
 (cond (x42.1 != (9 : Int))
 (cond (decide (x42.2.2.2.1 ≥ ((List.length b1.2.1 : Nat) : Int)))
 (some (.inr (.inr ((false, ()), ()))))
 (some (.inl (((), t3, (Go.IntKind.wrap .i64 (t4 + (1 : Int))), ()), (b1, ())))))
 (some (.inl (((), t3, (Go.IntKind.wrap .i64 (t4 + (1 : Int))), ()), (b1, ()))))))
 (cond (x42.1 != (9 : Int))
 (cond (decide (x42.2.2.2.1 ≥ ((List.length b1.2.1 : Nat) : Int)))
 (some (.inr (.inr ((false, ()), ()))))
 (some (.inl (((), t3, (Go.IntKind.wrap .i64 (t4 + (1 : Int))), ()), (b1, ())))))
 (some (.inl (((), t3, (Go.IntKind.wrap .i64 (t4 + (1 : Int))), ()), (b1, ()))))))))))
 (some (.inr (.inl (((), t3, ()), (b1, ())))))))
noncomputable def spec_IsKeymap_7_loop (x : ((Unit × TCombo) × (TKeymap × Unit))) : Option (((Unit × (Int × Unit)) × (TKeymap × Unit)) ⊕ ((Bool × Unit) × Unit)) := loopF (fun x : ((Unit × TCombo) × (TKeymap × Unit)) => spec_IsKeymap_7_R x.1.1 x.1.2.1 x.1.2.2.1 x.2.1) x
noncomputable def spec_IsKeymap_2_R (t1 : Unit) (t3 : Int) (b1 : TKeymap) : Option (((Unit × (Int × Unit)) × (TKeymap × Unit)) ⊕ (((Unit × Unit) × (TKeymap × Unit)) ⊕ ((Bool × Unit) × Unit))) :=
 (cond (decide (t3 < ((List.length b1.2.1 : Nat) : Int)))
 (Option.bind (idx b1.2.1 t3) fun x31 =>
 (cond (((List.length x31 : Nat) : Int) != b1.1)
 (some (.inr (.inr ((false, ()), ()))))
 (Option.bind (spec_IsKeymap_7_loop (((), t3, (0 : Int), ()), (b1, ()))) (Sum.elim (fun y44 => (some (.inl (((), (Go.IntKind.wrap .i64 (y44.1.2.1 + (1 : Int))), ()), (y44.2.1, ()))))) (fun z45 => (some (.inr (.inr ((z45.1.1, ()), ())))))))))
 (some (.inr (.inl (((), ()), (b1, ()))))))
noncomputable def spec_IsKeymap_2_loop (x : ((Unit × (Int × Unit)) × (TKeymap × Unit))) : Option (((Unit × Unit) × (TKeymap × Unit)) ⊕ ((Bool × Unit) × Unit)) := loopF (fun x : ((Unit × (Int × Unit)) × (TKeymap × Unit)) => spec_IsKeymap_2_R x.1.1 x.1.2.1 x.2.1) x
noncomputable def spec_IsKeymap (a0 : TKeymap) : Option (Bool × Unit) :=
 (Option.bind (spec_IsKeymap_2_loop (((), (0 : Int), ()), (a0, ()))) (Sum.elim (fun y46 => (Option.bind (spec_l1In y46.2.1.1 (1 : Int) (32 : Int)) fun r48 =>
 (cond r48.1
 (Option.bind (spec_l1In ((List.length y46.2.1.2.1 : Nat) : Int) (1 : Int) (4 : Int)) fun r49 =>
 (some (r49.1, ())))
 (some (false, ()))))) (fun z47 => (some (z47.1.1, ())))))

noncomputable def spec_IsFixed (a0 : TKeymap) (a1 : Int) : Option (Bool × Unit) :=
 (Option.bind (spec_IsKeymap a0) fun r1 =>
 (cond r1.1
 (cond (decide ((0 : Int) ≤ ((List.length a0.2.1 : Nat) : Int)))
 (Option.bind (spec_l1In a1 (0 : Int) (Go.IntKind.wrap .i64 ((ishl .i64 (1 : Int) ((List.length a0.2.1 : Nat) : Int)) - (1 : Int)))) fun r2 =>
 (cond r2.1
 (cond ((2 : Int) == (0 : Int))
 none
 (some (((Int.tmod a1 (2 : Int)) == (0 : Int)), ())))
 (some (false, ()))))
 none)
 (some (false, ()))))

noncomputable def impl_isCode (a0 : Int) : Option (Bool × Unit) :=
 (cond (decide (a0 ≥ (1 : Int)))
 (some ((decide (a0 ≤ (56 : Int))), ()))
 (some (false, ())))

noncomputable def impl_isMods (a0 : Int) : Option (Bool × Unit) :=
 (cond (decide (a0 ≥ (1 : Int)))
 (some ((decide (a0 ≤ (15 : Int))), ()))
 (some (false, ())))

noncomputable def impl_isUpper (a0 : Int) : Option (Bool × Unit) :=
 (cond (decide (a0 ≥ (1 : Int)))
 (some ((decide (a0 ≤ (3 : Int))), ()))
 (some (false, ())))

noncomputable def impl_IsAction (a0 : TAction) : Option (Bool × Unit) :=
 (cond (a0.1 == (0 : Int))
 (cond (a0.2.1 == (0 : Int))
 (cond (a0.2.2.1 == (0 : Int))
 (some ((a0.2.2.2.1 == (0 : Int)), ()))
 (some (false, ())))
 (some (false, ())))
 (cond (a0.1 == (1 : Int))
 (cond (a0.2.1 == (0 : Int))
 (cond (a0.2.2.1 == (0 : Int))
 (some ((a0.2.2.2.1 == (0 : Int)), ()))
 (some (false, ())))
 (some (false, ())))
 (cond (a0.1 == (10 : Int))
 (cond (a0.2.1 == (0 : Int))
 (cond (a0.2.2.1 == (0 : Int))
 (some ((a0.2.2.2.1 == (0 : Int)), ()))
 (some (false, ())))
 (some (false, ())))
 (cond (a0.1 == (2 : Int))
 (cond (a0.2.2.2.1 == (0 : Int))
 (cond (a0.2.1 == (0 : Int))
 (cond (a0.2.2.1 == (0 : Int))
 (cond (a0.2.1 != (0 : Int))
 (some (true, ()))
 (some ((a0.2.2.1 != (0 : Int)), ())))
 (Option.bind (impl_isMods a0.2.2.1) fun r1 =>
 (cond r1.1
 (cond (a0.2.1 != (0 : Int))
 (some (true, ()))
 (some ((a0.2.2.1 != (0 : Int)), ())))
 (some (false, ())))))
 (Option.bind (impl_isCode a0.2.1) fun r2 =>
 (cond r2.1
 (cond (a0.2.2.1 == (0 : Int))
 (cond (a0.2.1 != (0 : Int))
 (some (true, ()))
 (some ((a0.2.2.1 != (0 : Int)), ())))
 (Option.bind (impl_isMods a0.2.2.1) fun r3 =>
 (cond r3.1
 (cond (a0.2.1 != (0 : Int))
 (some (true, ()))
 (some ((a0.2.2.1 != (0 : Int)), ())))
 (some (false, ())))))
 (some (false, ())))))
 (some (false, ())))
 (cond (a0.1 == (3 : Int))
 (cond (a0.2.1 == (0 : Int))
 (cond (a0.2.2.1 == (0 : Int))
 (Option.bind (impl_isUpper a0.2.2.2.1) fun r4 =>
 (some (r4.1, ())))
 (some (false, ())))
 (some (false, ())))
 (cond (a0.1 == (4 : Int))
 (cond (a0.2.1 == (0 : Int))
 (cond (a0.2.2.1 == (0 : Int))
 (Option.bind (impl_isUpper a0.2.2.2.1) fun r5 =>
 (some (r5.1, ())))
 (some (false, ())))
 (some (false, ())))
 (cond (a0.1 == (5 : Int))
 (cond (a0.2.1 == (0 : Int))
 (cond (a0.2.2.1 == (0 : Int))
 (cond (decide (a0.2.2.2.1 ≥ (0 : Int)))
 (some ((decide (a0.2.2.2.1 ≤ (3 : Int))), ()))
 (some (false, ())))
 (some (false, ())))
 (some (false, ())))
 (cond (a0.1 == (9 : Int))
 (cond (a0.2.1 == (0 : Int))
 (cond (a0.2.2.1 == (0 : Int))
 (cond (decide (a0.2.2.2.1 ≥ (0 : Int)))
 (some ((decide (a0.2.2.2.1 ≤ (3 : Int))), ()))
 (some (false, ())))
 (some (false, ())))
 (some (false, ())))
 (cond (a0.1 == (6 : Int))
 (Option.bind (impl_isCode a0.2.1) fun r6 =>
 (cond r6.1
 (Option.bind (impl_isMods a0.2.2.1) fun r7 =>
 (cond r7.1
 (some ((a0.2.2.2.1 == (0 : Int)), ()))
 (some (false, ()))))
 (some (false, ()))))
 (cond (a0.1 == (7 : Int))
 (Option.bind (impl_isCode a0.2.1) fun r8 =>
 (cond r8.1
 (cond (a0.2.2.1 == (0 : Int))
 (Option.bind (impl_isUpper a0.2.2.2.1) fun r9 =>
 (some (r9.1, ())))
 (some (false, ())))
 (some (false, ()))))
 (cond (a0.1 == (8 : Int))
 (cond (a0.2.1 == (0 : Int))
 (Option.bind (impl_isMods a0.2.2.1) fun r10 =>
 (cond r10.1
 (some ((a0.2.2.2.1 == (0 : Int)), ()))
 (some (false, ()))))
 (some (false, ())))
 (some (false, ())))))))))))))

noncomputable def impl_IsKeymap_9_R (t1 : Unit) (t3 : Int) (t28 : (List (List TAction))) (t29 : Int) (t30 : Int) (t40 : (List TAction)) (t41 : Int) (t42 : Int) (b1 : TKeymap) : Option (((Unit × (Int × ((List (List TAction)) × (Int × (Int × ((List TAction) × TCombo)))))) × (TKeymap × Unit)) ⊕ (((Unit × ((List (List TAction)) × TCombo)) × (TKeymap × Unit)) ⊕ ((Bool × Unit) × Unit))) :=
 (cond (decide (t42 < t41))
 (Option.bind (idx t40 t42) fun x24 =>
 (Option.bind (impl_IsAction x24) fun r25 =>
 (cond (!r25.1)
 (some (.inr (.inr ((false, ()), ()))))
 (cond (t3 == (0 : Int))
 (cond (x24.1 == (1 : Int))
 (some (.inr (.inr ((false, ()), ()))))
 (cond (x24.1 != (9 : Int))
 (cond (decide (x24.2.2.2.1 ≥ ((List.length b1.2.1 : Nat) : Int)))
 (some (.inr (.inr ((false, ()), ()))))
 (some (.inl (((), t3, t28, t29, t30, t40, t41, (Go.IntKind.wrap .i64 (t42 + (1 : Int))), ()), (b1, ())))))
 (some (.inl (((), t3, t28, t29, t30, t40, t41, (Go.IntKind.wrap .i64 (t42 + (1 : Int))), ()), (b1, ()))))))
 (cond (x24.1 != (9 : Int))
 (cond (decide (x24.2.2.2.1 ≥ ((List.length b1.2.1 : Nat) : Int)))
 (some (.inr (.inr ((false, ()), ()))))
 (some (.inl (((), t3, t28, t29, t30, t40, t41, (Go.IntKind.wrap .i64 (t42 + (1 : Int))), ()), (b1, ())))))
 (some (.inl (((), t3, t28, t29, t30, t40, t41, (Go.IntKind.wrap .i64 (t42 + (1 : Int))), ()), (b1, ())))))))))
 (some (.inr (.inl (((), t28, t29, t30, ()), (b1, ()))))))
noncomputable def impl_IsKeymap_9_loop (x : ((Unit × (Int × ((List (List TAction)) × (Int × (Int × ((List TAction) × TCombo)))))) × (TKeymap × Unit))) : Option (((Unit × ((List (List TAction)) × TCombo)) × (TKeymap × Unit)) ⊕ ((Bool × Unit) × Unit)) := loopF (fun x : ((Unit × (Int × ((List (List TAction)) × (Int × (Int × ((List TAction) × TCombo)))))) × (TKeymap × Unit)) => impl_IsKeymap_9_R x.1.1 x.1.2.1 x.1.2.2.1 x.1.2.2.2.1 x.1.2.2.2.2.1 x.1.2.2.2.2.2.1 x.1.2.2.2.2.2.2.1 x.1.2.2.2.2.2.2.2.1 x.2.1) x
noncomputable def impl_IsKeymap_4_R (t1 : Unit) (t28 : (List (List TAction))) (t29 : Int) (t30 : Int) (b1 : TKeymap) : Option (((Unit × ((List (List TAction)) × TCombo)) × (TKeymap × Unit)) ⊕ ((Unit × Unit) ⊕ ((Bool × Unit) × Unit))) :=
 (cond (decide (t30 < t29))
 (Option.bind (idx t28 t30) fun x19 =>
 (cond (((List.length x19 : Nat) : Int) != b1.1)
 (some (.inr (.inr ((false, ()), ()))))
 (Option.bind (impl_IsKeymap_9_loop (((), t30, t28, t29, t30, x19, ((List.length x19 : Nat) : Int), (0 : Int), ()), (b1, ()))) (Sum.elim (fun y26 => (some (.inl (((), y26.1.2.1, y26.1.2.2.1, (Go.IntKind.wrap .i64 (y26.1.2.2.2.1 + (1 : Int))), ()), (y26.2.1, ()))))) (fun z27 => (some (.inr (.inr ((z27.1.1, ()), ())))))))))
 (some (.inr (.inl ((), ())))))
noncomputable def impl_IsKeymap_4_loop (x : ((Unit × ((List (List TAction)) × TCombo)) × (TKeymap × Unit))) : Option ((Unit × Unit) ⊕ ((Bool × Unit) × Unit)) := loopF (fun x : ((Unit × ((List (List TAction)) × TCombo)) × (TKeymap × Unit)) => impl_IsKeymap_4_R x.1.1 x.1.2.1 x.1.2.2.1 x.1.2.2.2.1 x.2.1) x
noncomputable def impl_IsKeymap (a0 : TKeymap) : Option (Bool × Unit) :=
 (cond (decide (a0.1 < (1 : Int)))
 (some (false, ()))
 (cond (decide (a0.1 > (32 : Int)))
 (some (false, ()))
 (cond (decide (((List.length a0.2.1 : Nat) : Int) < (1 : Int)))
 (some (false, ()))
 (cond (decide (((List.length a0.2.1 : Nat) : Int) > (4 : Int)))
 (some (false, ()))
 (Option.bind (impl_IsKeymap_4_loop (((), a0.2.1, ((List.length a0.2.1 : Nat) : Int), (0 : Int), ()), (a0, ()))) (Sum.elim (fun y28 => (some (true, ()))) (fun z29 => (some (z29.1.1, ())))))))))

noncomputable def impl_IsFixed (a0 : TKeymap) (a1 : Int) : Option (Bool × Unit) :=
 (Option.bind (impl_IsKeymap a0) fun r1 =>
 (cond r1.1
 (cond (decide (a1 ≥ (0 : Int)))
 (cond ((2 : Int) == (0 : Int))
 none
 (cond ((Int.tmod a1 (2 : Int)) == (0 : Int))
 (cond (decide ((0 : Int) ≤ ((List.length a0.2.1 : Nat) : Int)))
 (some ((decide (a1 < (ishl .i64 (1 : Int) ((List.length a0.2.1 : Nat) : Int)))), ()))
 none)
 (some (false, ()))))
 (some (false, ())))
 (some (false, ()))))

noncomputable def laws_eqAction (a0 : TAction) (a1 : TAction) : Option (Bool × Unit) :=
 (cond (a0.1 != a1.1)
 (some (false, ()))
 (cond (a0.2.1 != a1.2.1)
 (some (false, ()))
 (cond (a0.2.2.1 != a1.2.2.1)
 (some (false, ()))
 (cond (a0.2.2.2.1 != a1.2.2.2.1)
 (some (false, ()))
 (some (true, ()))))))

noncomputable def laws_eqActionS_4_R (t0 : (List TAction)) (t1 : (List TAction)) (t5 : Int) : Option ((((List TAction) × ((List TAction) × (Int × Unit))) × Unit) ⊕ ((Unit × Unit) ⊕ ((Bool × Unit) × Unit))) :=
 (cond (decide (t5 < ((List.length t0 : Nat) : Int)))
 (Option.bind (idx t0 t5) fun x7 =>
 (Option.bind (idx t1 t5) fun x8 =>
 (Option.bind (laws_eqAction x7 x8) fun r9 =>
 (cond (!r9.1)
 (some (.inr (.inr ((false, ()), ()))))
 (some (.inl ((t0, t1, (Go.IntKind.wrap .i64 (t5 + (1 : Int))), ()), ())))))))
 (some (.inr (.inl ((), ())))))
noncomputable def laws_eqActionS_4_loop (x : (((List TAction) × ((List TAction) × (Int × Unit))) × Unit)) : Option ((Unit × Unit) ⊕ ((Bool × Unit) × Unit)) := loopF (fun x : (((List TAction) × ((List TAction) × (Int × Unit))) × Unit) => laws_eqActionS_4_R x.1.1 x.1.2.1 x.1.2.2.1) x
noncomputable def laws_eqActionS (a0 : (List TAction)) (a1 : (List TAction)) : Option (Bool × Unit) :=
 (cond (((List.length a0 : Nat) : Int) != ((List.length a1 : Nat) : Int))
 (some (false, ()))
 (Option.bind (laws_eqActionS_4_loop ((a0, a1, (0 : Int), ()), ())) (Sum.elim (fun y10 => (some (true, ()))) (fun z11 => (some (z11.1.1, ()))))))

noncomputable def laws_eqActionSS_4_R (t0 : (List (List TAction))) (t1 : (List (List TAction))) (t5 : Int) : Option ((((List (List TAction)) × ((List (List TAction)) × (Int × Unit))) × Unit) ⊕ ((Unit × Unit) ⊕ ((Bool × Unit) × Unit))) :=
 (cond (decide (t5 < ((List.length t0 : Nat) : Int)))
 (Option.bind (idx t0 t5) fun x7 =>
 (Option.bind (idx t1 t5) fun x8 =>
 (Option.bind (laws_eqActionS x7 x8) fun r9 =>
 (cond (!r9.1)
 (some (.inr (.inr ((false, ()), ()))))
 (some (.inl ((t0, t1, (Go.IntKind.wrap .i64 (t5 + (1 : Int))), ()), ())))))))
 (some (.inr (.inl ((), ())))))
noncomputable def laws_eqActionSS_4_loop (x : (((List (List TAction)) × ((List (List TAction)) × (Int × Unit))) × Unit)) : Option ((Unit × Unit) ⊕ ((Bool × Unit) × Unit)) := loopF (fun x : (((List (List TAction)) × ((List (List TAction)) × (Int × Unit))) × Unit) => laws_eqActionSS_4_R x.1.1 x.1.2.1 x.1.2.2.1) x
noncomputable def laws_eqActionSS (a0 : (List (List TAction))) (a1 : (List (List TAction))) : Option (Bool × Unit) :=
 (cond (((List.length a0 : Nat) : Int) != ((List.length a1 : Nat) : Int))
 (some (false, ()))
 (Option.bind (laws_eqActionSS_4_loop ((a0, a1, (0 : Int), ()), ())) (Sum.elim (fun y10 => (some (true, ()))) (fun z11 => (some (z11.1.1, ()))))))

noncomputable def laws_eqKeymap (a0 : TKeymap) (a1 : TKeymap) : Option (Bool × Unit) :=
 (cond (a0.1 != a1.1)
 (some (false, ()))
 (Option.bind (laws_eqActionSS a0.2.1 a1.2.1) fun r1 =>
 (cond (!r1.1)
 (some (false, ()))
 (some (true, ())))))

noncomputable def laws_toMatrix (a0 : TEvent) : Option (TEvent × Unit) :=
 (some ((a0.1, a0.2.1, a0.2.2.1, ()), ()))

noncomputable def spec_IsMatrix (a0 : TEvent) : Option (Bool × Unit) :=
 (Option.bind (spec_l1In a0.1 (1 : Int) (4 : Int)) fun r1 =>
 (cond r1.1
 (Option.bind (spec_l1In a0.2.1 (1 : Int) (6 : Int)) fun r2 =>
 (some (r2.1, ())))
 (some (false, ()))))

noncomputable def spec_KeyCount (a0 : TEvent) : Option (Int × Unit) :=
 (Option.bind (spec_IsMatrix a0) fun r1 =>
 (cond (!r1.1)
 (some ((0 : Int), ()))
 (some ((Go.IntKind.wrap .i64 (a0.1 * a0.2.1)), ()))))

noncomputable def impl_IsMatrix (a0 : TEvent) : Option (Bool × Unit) :=
 (cond (decide (a0.1 ≥ (1 : Int)))
 (cond (decide (a0.1 ≤ (4 : Int)))
 (cond (decide (a0.2.1 ≥ (1 : Int)))
 (some ((decide (a0.2.1 ≤ (6 : Int))), ()))
 (some (false, ())))
 (some (false, ())))
 (some (false, ())))

noncomputable def impl_KeyCount (a0 : TEvent) : Option (Int × Unit) :=
 (Option.bind (impl_IsMatrix a0) fun r1 =>
 (cond (!r1.1)
 (some ((0 : Int), ()))
 (some ((Go.IntKind.wrap .i64 (a0.1 * a0.2.1)), ()))))

noncomputable def laws_eqTiming (a0 : TStep) (a1 : TStep) : Option (Bool × Unit) :=
 (cond (a0.1 != a1.1)
 (some (false, ()))
 (cond (a0.2.1 != a1.2.1)
 (some (false, ()))
 (cond (a0.2.2.1 != a1.2.2.1)
 (some (false, ()))
 (some (true, ())))))

noncomputable def laws_szByteS (a0 : (List Int)) (a1 : Int) : Option (Int × Unit) :=
 (cond (decide ((Go.IntKind.wrap .i64 (a1 - ((List.length a0 : Nat) : Int))) < (0 : Int)))
 (some ((-1 : Int), ()))
 (some ((Go.IntKind.wrap .i64 (a1 - ((List.length a0 : Nat) : Int))), ())))

noncomputable def laws_toTiming (a0 : TStep) : Option (TStep × Unit) :=
 (some ((a0.1, a0.2.1, a0.2.2.1, ()), ()))

noncomputable def laws_eqEvent (a0 : TEvent) (a1 : TEvent) : Option (Bool × Unit) :=
 (cond (a0.1 != a1.1)
 (some (false, ()))
 (cond (a0.2.1 != a1.2.1)
 (some (false, ()))
 (cond (a0.2.2.1 != a1.2.2.1)
 (some (false, ()))
 (some (true, ())))))

noncomputable def laws_eqEventS_4_R (t0 : (List TEvent)) (t1 : (List TEvent)) (t5 : Int) : Option ((((List TEvent) × ((List TEvent) × (Int × Unit))) × Unit) ⊕ ((Unit × Unit) ⊕ ((Bool × Unit) × Unit))) :=
 (cond (decide (t5 < ((List.length t0 : Nat) : Int)))
 (Option.bind (idx t0 t5) fun x7 =>
 (Option.bind (idx t1 t5) fun x8 =>
 (Option.bind (laws_eqEvent x7 x8) fun r9 =>
 (cond (!r9.1)
 (some (.inr (.inr ((false, ()), ()))))
 (some (.inl ((t0, t1, (Go.IntKind.wrap .i64 (t5 + (1 : Int))), ()), ())))))))
 (some (.inr (.inl ((), ())))))
noncomputable def laws_eqEventS_4_loop (x : (((List TEvent) × ((List TEvent) × (Int × Unit))) × Unit)) : Option ((Unit × Unit) ⊕ ((Bool × Unit) × Unit)) := loopF (fun x : (((List TEvent) × ((List TEvent) × (Int × Unit))) × Unit) => laws_eqEventS_4_R x.1.1 x.1.2.1 x.1.2.2.1) x
noncomputable def laws_eqEventS (a0 : (List TEvent)) (a1 : (List TEvent)) : Option (Bool × Unit) :=
 (cond (((List.length a0 : Nat) : Int) != ((List.length a1 : Nat) : Int))
 (some (false, ()))
 (Option.bind (laws_eqEventS_4_loop ((a0, a1, (0 : Int), ()), ())) (Sum.elim (fun y10 => (some (true, ()))) (fun z11 => (some (z11.1.1, ()))))))

noncomputable def laws_szDebouncer (a0 : TDebouncer) (a1 : Int) : Option (Int × Unit) :=
 (Option.bind (laws_szIntS a0.2.2.2.2.2.1 a1) fun r1 =>
 (cond (decide (r1.1 < (0 : Int)))
 (some ((-1 : Int), ()))
 (some (r1.1, ()))))

noncomputable def laws_szComboS (a0 : (List TCombo)) (a1 : Int) : Option (Int × Unit) :=
 (cond (decide ((Go.IntKind.wrap .i64 (a1 - ((List.length a0 : Nat) : Int))) < (0 : Int)))
 (some ((-1 : Int), ()))
 (some ((Go.IntKind.wrap .i64 (a1 - ((List.length a0 : Nat) : Int))), ())))

noncomputable def laws_szEventS (a0 : (List TEvent)) (a1 : Int) : Option (Int × Unit) :=
 (cond (decide ((Go.IntKind.wrap .i64 (a1 - ((List.length a0 : Nat) : Int))) < (0 : Int)))
 (some ((-1 : Int), ()))
 (some ((Go.IntKind.wrap .i64 (a1 - ((List.length a0 : Nat) : Int))), ())))

noncomputable def laws_szActiveS (a0 : (List TEvent)) (a1 : Int) : Option (Int × Unit) :=
 (cond (decide ((Go.IntKind.wrap .i64 (a1 - ((List.length a0 : Nat) : Int))) < (0 : Int)))
 (some ((-1 : Int), ()))
 (some ((Go.IntKind.wrap .i64 (a1 - ((List.length a0 : Nat) : Int))), ())))

noncomputable def laws_szCombiner (a0 : TCombiner) (a1 : Int) : Option (Int × Unit) :=
 (Option.bind (laws_szComboS a0.1 a1) fun r1 =>
 (cond (decide (r1.1 < (0 : Int)))
 (some ((-1 : Int), ()))
 (Option.bind (laws_szEventS a0.2.2.1 r1.1) fun r2 =>
 (cond (decide (r2.1 < (0 : Int)))
 (some ((-1 : Int), ()))
 (Option.bind (laws_szActiveS a0.2.2.2.2.2.2.1 r2.1) fun r3 =>
 (cond (decide (r3.1 < (0 : Int)))
 (some ((-1 : Int), ()))
 (some (r3.1, ()))))))))

noncomputable def laws_szStepS (a0 : (List TStep)) (a1 : Int) : Option (Int × Unit) :=
 (cond (decide ((Go.IntKind.wrap .i64 (a1 - ((List.length a0 : Nat) : Int))) < (0 : Int)))
 (some ((-1 : Int), ()))
 (some ((Go.IntKind.wrap .i64 (a1 - ((List.length a0 : Nat) : Int))), ())))

noncomputable def laws_szStepSS_5_R (t0 : (List (List TStep))) (t1 : Int) (t5 : Int) : Option ((((List (List TStep)) × TCombo) × Unit) ⊕ (((Int × Unit) × Unit) ⊕ ((Int × Unit) × Unit))) :=
 (cond (decide (t5 < ((List.length t0 : Nat) : Int)))
 (Option.bind (idx t0 t5) fun x5 =>
 (Option.bind (laws_szStepS x5 t1) fun r6 =>
 (cond (decide (r6.1 < (0 : Int)))
 (some (.inr (.inr (((-1 : Int), ()), ()))))
 (some (.inl ((t0, r6.1, (Go.IntKind.wrap .i64 (t5 + (1 : Int))), ()), ()))))))
 (some (.inr (.inl ((t1, ()), ())))))
noncomputable def laws_szStepSS_5_loop (x : (((List (List TStep)) × TCombo) × Unit)) : Option (((Int × Unit) × Unit) ⊕ ((Int × Unit) × Unit)) := loopF (fun x : (((List (List TStep)) × TCombo) × Unit) => laws_szStepSS_5_R x.1.1 x.1.2.1 x.1.2.2.1) x
noncomputable def laws_szStepSS (a0 : (List (List TStep))) (a1 : Int) : Option (Int × Unit) :=
 (cond (decide ((Go.IntKind.wrap .i64 (a1 - ((List.length a0 : Nat) : Int))) < (0 : Int)))
 (some ((-1 : Int), ()))
 (Option.bind (laws_szStepSS_5_loop ((a0, (Go.IntKind.wrap .i64 (a1 - ((List.length a0 : Nat) : Int))), (0 : Int), ()), ())) (Sum.elim (fun y7 => (some (y7.1.1, ()))) (fun z8 => (some (z8.1.1, ()))))))

noncomputable def laws_szHeldS (a0 : (List THeld)) (a1 : Int) : Option (Int × Unit) :=
 (cond (decide ((Go.IntKind.wrap .i64 (a1 - ((List.length a0 : Nat) : Int))) < (0 : Int)))
 (some ((-1 : Int), ()))
 (some ((Go.IntKind.wrap .i64 (a1 - ((List.length a0 : Nat) : Int))), ())))

noncomputable def laws_szEngine (a0 : TEngine) (a1 : Int) : Option (Int × Unit) :=
 (Option.bind (laws_szKeymap a0.1 a1) fun r1 =>
 (cond (decide (r1.1 < (0 : Int)))
 (some ((-1 : Int), ()))
 (Option.bind (laws_szStepSS a0.2.1 r1.1) fun r2 =>
 (cond (decide (r2.1 < (0 : Int)))
 (some ((-1 : Int), ()))
 (Option.bind (laws_szHeldS a0.2.2.2.1 r2.1) fun r3 =>
 (cond (decide (r3.1 < (0 : Int)))
 (some ((-1 : Int), ()))
 (some (r3.1, ()))))))))

noncomputable def laws_szDecider (a0 : TDecider) (a1 : Int) : Option (Int × Unit) :=
 (Option.bind (laws_szEngine a0.1 a1) fun r1 =>
 (cond (decide (r1.1 < (0 : Int)))
 (some ((-1 : Int), ()))
 (Option.bind (laws_szEventS a0.2.2.1 r1.1) fun r2 =>
 (cond (decide (r2.1 < (0 : Int)))
 (some ((-1 : Int), ()))
 (some (r2.1, ()))))))

noncomputable def laws_szBoard (a0 : TBoard) (a1 : Int) : Option (Int × Unit) :=
 (Option.bind (laws_szDebouncer a0.2.1 a1) fun r1 =>
 (cond (decide (r1.1 < (0 : Int)))
 (some ((-1 : Int), ()))
 (Option.bind (laws_szCombiner a0.2.2.1 r1.1) fun r2 =>
 (cond (decide (r2.1 < (0 : Int)))
 (some ((-1 : Int), ()))
 (Option.bind (laws_szDecider a0.2.2.2.1 r2.1) fun r3 =>
 (cond (decide (r3.1 < (0 : Int)))
 (some ((-1 : Int), ()))
 (some (r3.1, ()))))))))

noncomputable def laws_szReceiver (a0 : TReceiver) (a1 : Int) : Option (Int × Unit) :=
 (Option.bind (laws_szByteS a0.1 a1) fun r1 =>
 (cond (decide (r1.1 < (0 : Int)))
 (some ((-1 : Int), ()))
 (some (r1.1, ()))))

noncomputable def laws_szHalves (a0 : THalves) (a1 : Int) : Option (Int × Unit) :=
 (Option.bind (laws_szBoard a0.1 a1) fun r1 =>
 (cond (decide (r1.1 < (0 : Int)))
 (some ((-1 : Int), ()))
 (Option.bind (laws_szReceiver a0.2.1 r1.1) fun r2 =>
 (cond (decide (r2.1 < (0 : Int)))
 (some ((-1 : Int), ()))
 (some (r2.1, ()))))))

noncomputable def laws_toDebouncer (a0 : TDebouncer) : Option (TDebouncer × Unit) :=
 (Option.bind (laws_toIntS a0.2.2.2.2.2.1) fun r1 =>
 (some ((a0.1, a0.2.1, a0.2.2.1, a0.2.2.2.1, a0.2.2.2.2.1, r1.1, ()), ())))

noncomputable def laws_toCombo (a0 : TCombo) : Option (TCombo × Unit) :=
 (some ((a0.1, a0.2.1, ()), ()))

noncomputable def laws_toComboS_3_R (t0 : (List TCombo)) (t3 : (List TCombo)) (t4 : Int) : Option ((((List TCombo) × ((List TCombo) × (Int × Unit))) × Unit) ⊕ ((((List TCombo) × Unit) × Unit) ⊕ (Unit × Unit))) :=
 (cond (decide (t4 < ((List.length t0 : Nat) : Int)))
 (Option.bind (idx t0 t4) fun x7 =>
 (Option.bind (laws_toCombo x7) fun r8 =>
 (cond (inb (List.length t3) t4)
 (Option.bind t3[(Int.toNat t4)]? fun x9 =>
 (some (.inl ((t0, (List.set t3 (Int.toNat t4) r8.1), (Go.IntKind.wrap .i64 (t4 + (1 : Int))), ()), ()))))
 none)))
 (some (.inr (.inl ((t3, ()), ())))))
noncomputable def laws_toComboS_3_loop (x : (((List TCombo) × ((List TCombo) × (Int × Unit))) × Unit)) : Option ((((List TCombo) × Unit) × Unit) ⊕ (Unit × Unit)) := loopF (fun x : (((List TCombo) × ((List TCombo) × (Int × Unit))) × Unit) => laws_toComboS_3_R x.1.1 x.1.2.1 x.1.2.2.1) x
noncomputable def laws_toComboS (a0 : (List TCombo)) : Option ((List TCombo) × Unit) :=
 (cond ((((List.length a0 : Nat) : Int) == ((List.length a0 : Nat) : Int)) && (decide ((0 : Int) ≤ ((List.length a0 : Nat) : Int)) && decide (((List.length a0 : Nat) : Int) ≤ ((lim : Nat) : Int))))
 (Option.bind (laws_toComboS_3_loop ((a0, (List.replicate (Int.toNat ((List.length a0 : Nat) : Int)) ((0 : Int), (0 : Int), ())), (0 : Int), ()), ())) (Sum.elim (fun y10 => (some (y10.1.1, ()))) (fun z11 => none)))
 none)

noncomputable def laws_toEvent (a0 : TEvent) : Option (TEvent × Unit) :=
 (some ((a0.1, a0.2.1, a0.2.2.1, ()), ()))

noncomputable def laws_toEventS_3_R (t0 : (List TEvent)) (t3 : (List TEvent)) (t4 : Int) : Option ((((List TEvent) × ((List TEvent) × (Int × Unit))) × Unit) ⊕ ((((List TEvent) × Unit) × Unit) ⊕ (Unit × Unit))) :=
 (cond (decide (t4 < ((List.length t0 : Nat) : Int)))
 (Option.bind (idx t0 t4) fun x7 =>
 (Option.bind (laws_toEvent x7) fun r8 =>
 (cond (inb (List.length t3) t4)
 (Option.bind t3[(Int.toNat t4)]? fun x9 =>
 (some (.inl ((t0, (List.set t3 (Int.toNat t4) r8.1), (Go.IntKind.wrap .i64 (t4 + (1 : Int))), ()), ()))))
 none)))
 (some (.inr (.inl ((t3, ()), ())))))
noncomputable def laws_toEventS_3_loop (x : (((List TEvent) × ((List TEvent) × (Int × Unit))) × Unit)) : Option ((((List TEvent) × Unit) × Unit) ⊕ (Unit × Unit)) := loopF (fun x : (((List TEvent) × ((List TEvent) × (Int × Unit))) × Unit) => laws_toEventS_3_R x.1.1 x.1.2.1 x.1.2.2.1) x
noncomputable def laws_toEventS (a0 : (List TEvent)) : Option ((List TEvent) × Unit) :=
 (cond ((((List.length a0 : Nat) : Int) == ((List.length a0 : Nat) : Int)) && (decide ((0 : Int) ≤ ((List.length a0 : Nat) : Int)) && decide (((List.length a0 : Nat) : Int) ≤ ((lim : Nat) : Int))))
 (Option.bind (laws_toEventS_3_loop ((a0, (List.replicate (Int.toNat ((List.length a0 : Nat) : Int)) ((0 : Int), (0 : Int), false, ())), (0 : Int), ()), ())) (Sum.elim (fun y10 => (some (y10.1.1, ()))) (fun z11 => none)))
 none)

noncomputable def laws_toActive (a0 : TEvent) : Option (TEvent × Unit) :=
 (some ((a0.1, a0.2.1, a0.2.2.1, ()), ()))

noncomputable def laws_toActiveS_3_R (t0 : (List TEvent)) (t3 : (List TEvent)) (t4 : Int) : Option ((((List TEvent) × ((List TEvent) × (Int × Unit))) × Unit) ⊕ ((((List TEvent) × Unit) × Unit) ⊕ (Unit × Unit))) :=
 (cond (decide (t4 < ((List.length t0 : Nat) : Int)))
 (Option.bind (idx t0 t4) fun x7 =>
 (Option.bind (laws_toActive x7) fun r8 =>
 (cond (inb (List.length t3) t4)
 (Option.bind t3[(Int.toNat t4)]? fun x9 =>
 (some (.inl ((t0, (List.set t3 (Int.toNat t4) r8.1), (Go.IntKind.wrap .i64 (t4 + (1 : Int))), ()), ()))))
 none)))
 (some (.inr (.inl ((t3, ()), ())))))
noncomputable def laws_toActiveS_3_loop (x : (((List TEvent) × ((List TEvent) × (Int × Unit))) × Unit)) : Option ((((List TEvent) × Unit) × Unit) ⊕ (Unit × Unit)) := loopF (fun x : (((List TEvent) × ((List TEvent) × (Int × Unit))) × Unit) => laws_toActiveS_3_R x.1.1 x.1.2.1 x.1.2.2.1) x
noncomputable def laws_toActiveS (a0 : (List TEvent)) : Option ((List TEvent) × Unit) :=
 (cond ((((List.length a0 : Nat) : Int) == ((List.length a0 : Nat) : Int)) && (decide ((0 : Int) ≤ ((List.length a0 : Nat) : Int)) && decide (((List.length a0 : Nat) : Int) ≤ ((lim : Nat) : Int))))
 (Option.bind (laws_toActiveS_3_loop ((a0, (List.replicate (Int.toNat ((List.length a0 : Nat) : Int)) ((0 : Int), (0 : Int), false, ())), (0 : Int), ()), ())) (Sum.elim (fun y10 => (some (y10.1.1, ()))) (fun z11 => none)))
 none)

noncomputable def laws_toCombiner (a0 : TCombiner) : Option (TCombiner × Unit) :=
 (Option.bind (laws_toComboS a0.1) fun r1 =>
 (Option.bind (laws_toEventS a0.2.2.1) fun r2 =>
 (Option.bind (laws_toActiveS a0.2.2.2.2.2.2.1) fun r3 =>
 (some ((r1.1, a0.2.1, r2.1, a0.2.2.2.1, a0.2.2.2.2.1, a0.2.2.2.2.2.1, r3.1, ()), ())))))

noncomputable def laws_toStep (a0 : TStep) : Option (TStep × Unit) :=
 (some ((a0.1, a0.2.1, a0.2.2.1, ()), ()))

noncomputable def laws_toStepS_3_R (t0 : (List TStep)) (t3 : (List TStep)) (t4 : Int) : Option ((((List TStep) × ((List TStep) × (Int × Unit))) × Unit) ⊕ ((((List TStep) × Unit) × Unit) ⊕ (Unit × Unit))) :=
 (cond (decide (t4 < ((List.length t0 : Nat) : Int)))
 (Option.bind (idx t0 t4) fun x7 =>
 (Option.bind (laws_toStep x7) fun r8 =>
 (cond (inb (List.length t3) t4)
 (Option.bind t3[(Int.toNat t4)]? fun x9 =>
 (some (.inl ((t0, (List.set t3 (Int.toNat t4) r8.1), (Go.IntKind.wrap .i64 (t4 + (1 : Int))), ()), ()))))
 none)))
 (some (.inr (.inl ((t3, ()), ())))))
noncomputable def laws_toStepS_3_loop (x : (((List TStep) × ((List TStep) × (Int × Unit))) × Unit)) : Option ((((List TStep) × Unit) × Unit) ⊕ (Unit × Unit)) := loopF (fun x : (((List TStep) × ((List TStep) × (Int × Unit))) × Unit) => laws_toStepS_3_R x.1.1 x.1.2.1 x.1.2.2.1) x
noncomputable def laws_toStepS (a0 : (List TStep)) : Option ((List TStep) × Unit) :=
 (cond ((((List.length a0 : Nat) : Int) == ((List.length a0 : Nat) : Int)) && (decide ((0 : Int) ≤ ((List.length a0 : Nat) : Int)) && decide (((List.length a0 : Nat) : Int) ≤ ((lim : Nat) : Int))))
 (Option.bind (laws_toStepS_3_loop ((a0, (List.replicate (Int.toNat ((List.length a0 : Nat) : Int)) ((0 : Int), (0 : Int), (0 : Int), ())), (0 : Int), ()), ())) (Sum.elim (fun y10 => (some (y10.1.1, ()))) (fun z11 => none)))
 none)

noncomputable def laws_toStepSS_3_R (t0 : (List (List TStep))) (t3 : (List (List TStep))) (t4 : Int) : Option ((((List (List TStep)) × ((List (List TStep)) × (Int × Unit))) × Unit) ⊕ ((((List (List TStep)) × Unit) × Unit) ⊕ (Unit × Unit))) :=
 (cond (decide (t4 < ((List.length t0 : Nat) : Int)))
 (Option.bind (idx t0 t4) fun x7 =>
 (Option.bind (laws_toStepS x7) fun r8 =>
 (cond (inb (List.length t3) t4)
 (Option.bind t3[(Int.toNat t4)]? fun x9 =>
 (some (.inl ((t0, (List.set t3 (Int.toNat t4) r8.1), (Go.IntKind.wrap .i64 (t4 + (1 : Int))), ()), ()))))
 none)))
 (some (.inr (.inl ((t3, ()), ())))))
noncomputable def laws_toStepSS_3_loop (x : (((List (List TStep)) × ((List (List TStep)) × (Int × Unit))) × Unit)) : Option ((((List (List TStep)) × Unit) × Unit) ⊕ (Unit × Unit)) := loopF (fun x : (((List (List TStep)) × ((List (List TStep)) × (Int × Unit))) × Unit) => laws_toStepSS_3_R x.1.1 x.1.2.1 x.1.2.2.1) x
noncomputable def laws_toStepSS (a0 : (List (List TStep))) : Option ((List (List TStep)) × Unit) :=
 (cond ((((List.length a0 : Nat) : Int) == ((List.length a0 : Nat) : Int)) && (decide ((0 : Int) ≤ ((List.length a0 : Nat) : Int)) && decide (((List.length a0 : Nat) : Int) ≤ ((lim : Nat) : Int))))
 (Option.bind (laws_toStepSS_3_loop ((a0, (List.replicate (Int.toNat ((List.length a0 : Nat) : Int)) ([] : List TStep)), (0 : Int), ()), ())) (Sum.elim (fun y10 => (some (y10.1.1, ()))) (fun z11 => none)))
 none)

noncomputable def laws_toHeld (a0 : THeld) : Option (THeld × Unit) :=
 (Option.bind (laws_toAction a0.2.1) fun r1 =>
 (some ((a0.1, r1.1, ()), ())))

noncomputable def laws_toHeldS_3_R (t0 : (List THeld)) (t3 : (List THeld)) (t4 : Int) : Option ((((List THeld) × ((List THeld) × (Int × Unit))) × Unit) ⊕ ((((List THeld) × Unit) × Unit) ⊕ (Unit × Unit))) :=
 (cond (decide (t4 < ((List.length t0 : Nat) : Int)))
 (Option.bind (idx t0 t4) fun x7 =>
 (Option.bind (laws_toHeld x7) fun r8 =>
 (cond (inb (List.length t3) t4)
 (Option.bind t3[(Int.toNat t4)]? fun x9 =>
 (some (.inl ((t0, (List.set t3 (Int.toNat t4) r8.1), (Go.IntKind.wrap .i64 (t4 + (1 : Int))), ()), ()))))
 none)))
 (some (.inr (.inl ((t3, ()), ())))))
noncomputable def laws_toHeldS_3_loop (x : (((List THeld) × ((List THeld) × (Int × Unit))) × Unit)) : Option ((((List THeld) × Unit) × Unit) ⊕ (Unit × Unit)) := loopF (fun x : (((List THeld) × ((List THeld) × (Int × Unit))) × Unit) => laws_toHeldS_3_R x.1.1 x.1.2.1 x.1.2.2.1) x
noncomputable def laws_toHeldS (a0 : (List THeld)) : Option ((List THeld) × Unit) :=
 (cond ((((List.length a0 : Nat) : Int) == ((List.length a0 : Nat) : Int)) && (decide ((0 : Int) ≤ ((List.length a0 : Nat) : Int)) && decide (((List.length a0 : Nat) : Int) ≤ ((lim : Nat) : Int))))
 (Option.bind (laws_toHeldS_3_loop ((a0, (List.replicate (Int.toNat ((List.length a0 : Nat) : Int)) ((0 : Int), ((0 : Int), (0 : Int), (0 : Int), (0 : Int), ()), ())), (0 : Int), ()), ())) (Sum.elim (fun y10 => (some (y10.1.1, ()))) (fun z11 => none)))
 none)

noncomputable def laws_toEngine (a0 : TEngine) : Option (TEngine × Unit) :=
 (Option.bind (laws_toKeymap a0.1) fun r1 =>
 (Option.bind (laws_toStepSS a0.2.1) fun r2 =>
 (Option.bind (laws_toHeldS a0.2.2.2.1) fun r3 =>
 (some ((r1.1, r2.1, a0.2.2.1, r3.1, a0.2.2.2.2.1, a0.2.2.2.2.2.1, ()), ())))))

noncomputable def laws_toDecider (a0 : TDecider) : Option (TDecider × Unit) :=
 (Option.bind (laws_toEngine a0.1) fun r1 =>
 (Option.bind (laws_toTiming a0.2.1) fun r2 =>
 (Option.bind (laws_toEventS a0.2.2.1) fun r3 =>
 (some ((r1.1, r2.1, r3.1, a0.2.2.2.1, a0.2.2.2.2.1, a0.2.2.2.2.2.1, a0.2.2.2.2.2.2.1, ()), ())))))

noncomputable def laws_toBoard (a0 : TBoard) : Option (TBoard × Unit) :=
 (Option.bind (laws_toMatrix a0.1) fun r1 =>
 (Option.bind (laws_toDebouncer a0.2.1) fun r2 =>
 (Option.bind (laws_toCombiner a0.2.2.1) fun r3 =>
 (Option.bind (laws_toDecider a0.2.2.2.1) fun r4 =>
 (some ((r1.1, r2.1, r3.1, r4.1, a0.2.2.2.2.1, a0.2.2.2.2.2.1, ()), ()))))))

noncomputable def laws_toReceiver (a0 : TReceiver) : Option (TReceiver × Unit) :=
 (Option.bind (laws_toByteS a0.1) fun r1 =>
 (some ((r1.1, a0.2.1, a0.2.2.1, a0.2.2.2.1, ()), ())))

noncomputable def laws_toHalves (a0 : THalves) : Option (THalves × Unit) :=
 (Option.bind (laws_toBoard a0.1) fun r1 =>
 (Option.bind (laws_toReceiver a0.2.1) fun r2 =>
 (some ((r1.1, r2.1, a0.2.2.1, ()), ()))))

noncomputable def spec_HalfKeys (a0 : THalves) : Option (Int × Unit) :=
 (cond ((2 : Int) == (0 : Int))
 none
 (cond ((Int.tmod a0.1.1.1 (2 : Int)) != (0 : Int))
 (some ((0 : Int), ()))
 (Option.bind (spec_KeyCount a0.1.1) fun r1 =>
 (cond ((2 : Int) == (0 : Int))
 none
 (some ((Go.IntKind.wrap .i64 (Int.tdiv r1.1 (2 : Int))), ()))))))

noncomputable def impl_HalfKeys (a0 : THalves) : Option (Int × Unit) :=
 (cond ((2 : Int) == (0 : Int))
 none
 (cond ((Int.tmod a0.1.1.1 (2 : Int)) != (0 : Int))
 (some ((0 : Int), ()))
 (Option.bind (impl_KeyCount a0.1.1) fun r1 =>
 (cond ((2 : Int) == (0 : Int))
 none
 (some ((Go.IntKind.wrap .i64 (Int.tdiv r1.1 (2 : Int))), ()))))))

noncomputable def laws_eqMatrix (a0 : TEvent) (a1 : TEvent) : Option (Bool × Unit) :=
 (cond (a0.1 != a1.1)
 (some (false, ()))
 (cond (a0.2.1 != a1.2.1)
 (some (false, ()))
 (cond (a0.2.2.1 != a1.2.2.1)
 (some (false, ()))
 (some (true, ())))))

noncomputable def laws_eqDebouncer (a0 : TDebouncer) (a1 : TDebouncer) : Option (Bool × Unit) :=
 (cond (a0.1 != a1.1)
 (some (false, ()))
 (cond (a0.2.1 != a1.2.1)
 (some (false, ()))
 (cond (a0.2.2.1 != a1.2.2.1)
 (some (false, ()))
 (cond (a0.2.2.2.1 != a1.2.2.2.1)
 (some (false, ()))
 (cond (a0.2.2.2.2.1 != a1.2.2.2.2.1)
 (some (false, ()))
 (Option.bind (laws_eqIntS a0.2.2.2.2.2.1 a1.2.2.2.2.2.1) fun r1 =>
 (cond (!r1.1)
 (some (false, ()))
 (some (true, ())))))))))

noncomputable def laws_eqCombo (a0 : TCombo) (a1 : TCombo) : Option (Bool × Unit) :=
 (cond (a0.1 != a1.1)
 (some (false, ()))
 (cond (a0.2.1 != a1.2.1)
 (some (false, ()))
 (some (true, ()))))

noncomputable def laws_eqComboS_4_R (t0 : (List TCombo)) (t1 : (List TCombo)) (t5 : Int) : Option ((((List TCombo) × ((List TCombo) × (Int × Unit))) × Unit) ⊕ ((Unit × Unit) ⊕ ((Bool × Unit) × Unit))) :=
 (cond (decide (t5 < ((List.length t0 : Nat) : Int)))
 (Option.bind (idx t0 t5) fun x7 =>
 (Option.bind (idx t1 t5) fun x8 =>
 (Option.bind (laws_eqCombo x7 x8) fun r9 =>
 (cond (!r9.1)
 (some (.inr (.inr ((false, ()), ()))))
 (some (.inl ((t0, t1, (Go.IntKind.wrap .i64 (t5 + (1 : Int))), ()), ())))))))
 (some (.inr (.inl ((), ())))))
noncomputable def laws_eqComboS_4_loop (x : (((List TCombo) × ((List TCombo) × (Int × Unit))) × Unit)) : Option ((Unit × Unit) ⊕ ((Bool × Unit) × Unit)) := loopF (fun x : (((List TCombo) × ((List TCombo) × (Int × Unit))) × Unit) => laws_eqComboS_4_R x.1.1 x.1.2.1 x.1.2.2.1) x
noncomputable def laws_eqComboS (a0 : (List TCombo)) (a1 : (List TCombo)) : Option (Bool × Unit) :=
 (cond (((List.length a0 : Nat) : Int) != ((List.length a1 : Nat) : Int))
 (some (false, ()))
 (Option.bind (laws_eqComboS_4_loop ((a0, a1, (0 : Int), ()), ())) (Sum.elim (fun y10 => (some (true, ()))) (fun z11 => (some (z11.1.1, ()))))))

noncomputable def laws_eqActive (a0 : TEvent) (a1 : TEvent) : Option (Bool × Unit) :=
 (cond (a0.1 != a1.1)
 (some (false, ()))
 (cond (a0.2.1 != a1.2.1)
 (some (false, ()))
 (cond (a0.2.2.1 != a1.2.2.1)
 (some (false, ()))
 (some (true, ())))))

noncomputable def laws_eqActiveS_4_R (t0 : (List TEvent)) (t1 : (List TEvent)) (t5 : Int) : Option ((((List TEvent) × ((List TEvent) × (Int × Unit))) × Unit) ⊕ ((Unit × Unit) ⊕ ((Bool × Unit) × Unit))) :=
 (cond (decide (t5 < ((List.length t0 : Nat) : Int)))
 (Option.bind (idx t0 t5) fun x7 =>
 (Option.bind (idx t1 t5) fun x8 =>
 (Option.bind (laws_eqActive x7 x8) fun r9 =>
 (cond (!r9.1)
 (some (.inr (.inr ((false, ()), ()))))
 (some (.inl ((t0, t1, (Go.IntKind.wrap .i64 (t5 + (1 : Int))), ()), ())))))))
 (some (.inr (.inl ((), ())))))
noncomputable def laws_eqActiveS_4_loop (x : (((List TEvent) × ((List TEvent) × (Int × Unit))) × Unit)) : Option ((Unit × Unit) ⊕ ((Bool × Unit) × Unit)) := loopF (fun x : (((List TEvent) × ((List TEvent) × (Int × Unit))) × Unit) => laws_eqActiveS_4_R x.1.1 x.1.2.1 x.1.2.2.1) x
noncomputable def laws_eqActiveS (a0 : (List TEvent)) (a1 : (List TEvent)) : Option (Bool × Unit) :=
 (cond (((List.length a0 : Nat) : Int) != ((List.length a1 : Nat) : Int))
 (some (false, ()))
 (Option.bind (laws_eqActiveS_4_loop ((a0, a1, (0 : Int), ()), ())) (Sum.elim (fun y10 => (some (true, ()))) (fun z11 => (some (z11.1.1, ()))))))

noncomputable def laws_eqCombiner (a0 : TCombiner) (a1 : TCombiner) : Option (Bool × Unit) :=
 (Option.bind (laws_eqComboS a0.1 a1.1) fun r1 =>
 (cond (!r1.1)
 (some (false, ()))
 (cond (a0.2.1 != a1.2.1)
 (some (false, ()))
 (Option.bind (laws_eqEventS a0.2.2.1 a1.2.2.1) fun r2 =>
 (cond (!r2.1)
 (some (false, ()))
 (cond (a0.2.2.2.1 != a1.2.2.2.1)
 (some (false, ()))
 (cond (a0.2.2.2.2.1 != a1.2.2.2.2.1)
 (some (false, ()))
 (cond (a0.2.2.2.2.2.1 != a1.2.2.2.2.2.1)
 (some (false, ()))
 (Option.bind (laws_eqActiveS a0.2.2.2.2.2.2.1 a1.2.2.2.2.2.2.1) fun r3 =>
 (cond (!r3.1)
 (some (false, ()))
 (some (true, ()))))))))))))

noncomputable def laws_eqStep (a0 : TStep) (a1 : TStep) : Option (Bool × Unit) :=
 (cond (a0.1 != a1.1)
 (some (false, ()))
 (cond (a0.2.1 != a1.2.1)
 (some (false, ()))
 (cond (a0.2.2.1 != a1.2.2.1)
 (some (false, ()))
 (some (true, ())))))

noncomputable def laws_eqStepS_4_R (t0 : (List TStep)) (t1 : (List TStep)) (t5 : Int) : Option ((((List TStep) × ((List TStep) × (Int × Unit))) × Unit) ⊕ ((Unit × Unit) ⊕ ((Bool × Unit) × Unit))) :=
 (cond (decide (t5 < ((List.length t0 : Nat) : Int)))
 (Option.bind (idx t0 t5) fun x7 =>
 (Option.bind (idx t1 t5) fun x8 =>
 (Option.bind (laws_eqStep x7 x8) fun r9 =>
 (cond (!r9.1)
 (some (.inr (.inr ((false, ()), ()))))
 (some (.inl ((t0, t1, (Go.IntKind.wrap .i64 (t5 + (1 : Int))), ()), ())))))))
 (some (.inr (.inl ((), ())))))
noncomputable def laws_eqStepS_4_loop (x : (((List TStep) × ((List TStep) × (Int × Unit))) × Unit)) : Option ((Unit × Unit) ⊕ ((Bool × Unit) × Unit)) := loopF (fun x : (((List TStep) × ((List TStep) × (Int × Unit))) × Unit) => laws_eqStepS_4_R x.1.1 x.1.2.1 x.1.2.2.1) x
noncomputable def laws_eqStepS (a0 : (List TStep)) (a1 : (List TStep)) : Option (Bool × Unit) :=
 (cond (((List.length a0 : Nat) : Int) != ((List.length a1 : Nat) : Int))
 (some (false, ()))
 (Option.bind (laws_eqStepS_4_loop ((a0, a1, (0 : Int), ()), ())) (Sum.elim (fun y10 => (some (true, ()))) (fun z11 => (some (z11.1.1, ()))))))

noncomputable def laws_eqStepSS_4_R (t0 : (List (List TStep))) (t1 : (List (List TStep))) (t5 : Int) : Option ((((List (List TStep)) × ((List (List TStep)) × (Int × Unit))) × Unit) ⊕ ((Unit × Unit) ⊕ ((Bool × Unit) × Unit))) :=
 (cond (decide (t5 < ((List.length t0 : Nat) : Int)))
 (Option.bind (idx t0 t5) fun x7 =>
 (Option.bind (idx t1 t5) fun x8 =>
 (Option.bind (laws_eqStepS x7 x8) fun r9 =>
 (cond (!r9.1)
 (some (.inr (.inr ((false, ()), ()))))
 (some (.inl ((t0, t1, (Go.IntKind.wrap .i64 (t5 + (1 : Int))), ()), ())))))))
 (some (.inr (.inl ((), ())))))
noncomputable def laws_eqStepSS_4_loop (x : (((List (List TStep)) × ((List (List TStep)) × (Int × Unit))) × Unit)) : Option ((Unit × Unit) ⊕ ((Bool × Unit) × Unit)) := loopF (fun x : (((List (List TStep)) × ((List (List TStep)) × (Int × Unit))) × Unit) => laws_eqStepSS_4_R x.1.1 x.1.2.1 x.1.2.2.1) x
noncomputable def laws_eqStepSS (a0 : (List (List TStep))) (a1 : (List (List TStep))) : Option (Bool × Unit) :=
 (cond (((List.length a0 : Nat) : Int) != ((List.length a1 : Nat) : Int))
 (some (false, ()))
 (Option.bind (laws_eqStepSS_4_loop ((a0, a1, (0 : Int), ()), ())) (Sum.elim (fun y10 => (some (true, ()))) (fun z11 => (some (z11.1.1, ()))))))

noncomputable def laws_eqHeld (a0 : THeld) (a1 : THeld) : Option (Bool × Unit) :=
 (cond (a0.1 != a1.1)
 (some (false, ()))
 (Option.bind (laws_eqAction a0.2.1 a1.2.1) fun r1 =>
 (cond (!r1.1)
 (some (false, ()))
 (some (true, ())))))

noncomputable def laws_eqHeldS_4_R (t0 : (List THeld)) (t1 : (List THeld)) (t5 : Int) : Option ((((List THeld) × ((List THeld) × (Int × Unit))) × Unit) ⊕ ((Unit × Unit) ⊕ ((Bool × Unit) × Unit))) :=
 (cond (decide (t5 < ((List.length t0 : Nat) : Int)))
 (Option.bind (idx t0 t5) fun x7 =>
 (Option.bind (idx t1 t5) fun x8 =>
 (Option.bind (laws_eqHeld x7 x8) fun r9 =>
 (cond (!r9.1)
 (some (.inr (.inr ((false, ()), ()))))
 (some (.inl ((t0, t1, (Go.IntKind.wrap .i64 (t5 + (1 : Int))), ()), ())))))))
 (some (.inr (.inl ((), ())))))
noncomputable def laws_eqHeldS_4_loop (x : (((List THeld) × ((List THeld) × (Int × Unit))) × Unit)) : Option ((Unit × Unit) ⊕ ((Bool × Unit) × Unit)) := loopF (fun x : (((List THeld) × ((List THeld) × (Int × Unit))) × Unit) => laws_eqHeldS_4_R x.1.1 x.1.2.1 x.1.2.2.1) x
noncomputable def laws_eqHeldS (a0 : (List THeld)) (a1 : (List THeld)) : Option (Bool × Unit) :=
 (cond (((List.length a0 : Nat) : Int) != ((List.length a1 : Nat) : Int))
 (some (false, ()))
 (Option.bind (laws_eqHeldS_4_loop ((a0, a1, (0 : Int), ()), ())) (Sum.elim (fun y10 => (some (true, ()))) (fun z11 => (some (z11.1.1, ()))))))

noncomputable def laws_eqEngine (a0 : TEngine) (a1 : TEngine) : Option (Bool × Unit) :=
 (Option.bind (laws_eqKeymap a0.1 a1.1) fun r1 =>
 (cond (!r1.1)
 (some (false, ()))
 (Option.bind (laws_eqStepSS a0.2.1 a1.2.1) fun r2 =>
 (cond (!r2.1)
 (some (false, ()))
 (cond (a0.2.2.1 != a1.2.2.1)
 (some (false, ()))
 (Option.bind (laws_eqHeldS a0.2.2.2.1 a1.2.2.2.1) fun r3 =>
 (cond (!r3.1)
 (some (false, ()))
 (cond (a0.2.2.2.2.1 != a1.2.2.2.2.1)
 (some (false, ()))
 (cond (a0.2.2.2.2.2.1 != a1.2.2.2.2.2.1)
 (some (false, ()))
 (some (true, ())))))))))))

noncomputable def laws_eqDecider (a0 : TDecider) (a1 : TDecider) : Option (Bool × Unit) :=
 (Option.bind (laws_eqEngine a0.1 a1.1) fun r1 =>
 (cond (!r1.1)
 (some (false, ()))
 (Option.bind (laws_eqTiming a0.2.1 a1.2.1) fun r2 =>
 (cond (!r2.1)
 (some (false, ()))
 (Option.bind (laws_eqEventS a0.2.2.1 a1.2.2.1) fun r3 =>
 (cond (!r3.1)
 (some (false, ()))
 (cond (a0.2.2.2.1 != a1.2.2.2.1)
 (some (false, ()))
 (cond (a0.2.2.2.2.1 != a1.2.2.2.2.1)
 (some (false, ()))
 (cond (a0.2.2.2.2.2.1 != a1.2.2.2.2.2.1)
 (some (false, ()))
 (cond (a0.2.2.2.2.2.2.1 != a1.2.2.2.2.2.2.1)
 (some (false, ()))
 (some (true, ()))))))))))))

noncomputable def laws_eqBoard (a0 : TBoard) (a1 : TBoard) : Option (Bool × Unit) :=
 (Option.bind (laws_eqMatrix a0.1 a1.1) fun r1 =>
 (cond (!r1.1)
 (some (false, ()))
 (Option.bind (laws_eqDebouncer a0.2.1 a1.2.1) fun r2 =>
 (cond (!r2.1)
 (some (false, ()))
 (Option.bind (laws_eqCombiner a0.2.2.1 a1.2.2.1) fun r3 =>
 (cond (!r3.1)
 (some (false, ()))
 (Option.bind (laws_eqDecider a0.2.2.2.1 a1.2.2.2.1) fun r4 =>
 (cond (!r4.1)
 (some (false, ()))
 (cond (a0.2.2.2.2.1 != a1.2.2.2.2.1)
 (some (false, ()))
 (cond (a0.2.2.2.2.2.1 != a1.2.2.2.2.2.1)
 (some (false, ()))
 (some (true, ()))))))))))))

noncomputable def laws_eqReceiver (a0 : TReceiver) (a1 : TReceiver) : Option (Bool × Unit) :=
 (Option.bind (laws_eqByteS a0.1 a1.1) fun r1 =>
 (cond (!r1.1)
 (some (false, ()))
 (cond (a0.2.1 != a1.2.1)
 (some (false, ()))
 (cond (a0.2.2.1 != a1.2.2.1)
 (some (false, ()))
 (cond (a0.2.2.2.1 != a1.2.2.2.1)
 (some (false, ()))
 (some (true, ())))))))

noncomputable def laws_eqHalves (a0 : THalves) (a1 : THalves) : Option (Bool × Unit) :=
 (Option.bind (laws_eqBoard a0.1 a1.1) fun r1 =>
 (cond (!r1.1)
 (some (false, ()))
 (Option.bind (laws_eqReceiver a0.2.1 a1.2.1) fun r2 =>
 (cond (!r2.1)
 (some (false, ()))
 (cond (a0.2.2.1 != a1.2.2.1)
 (some (false, ()))
 (some (true, ())))))))

noncomputable def laws_FnExactHalfKeys (a0 : THalves) : Option (Bool × Unit) :=
 (Option.bind (laws_szHalves a0 (1048576 : Int)) fun r1 =>
 (cond (decide (r1.1 < (0 : Int)))
 (some (true, ()))
 (Option.bind (laws_toHalves a0) fun r2 =>
 (Option.bind (spec_HalfKeys r2.1) fun r3 =>
 (Option.bind (laws_toHalves a0) fun r4 =>
 (Option.bind (impl_HalfKeys r4.1) fun r5 =>
 (cond (r5.1 != r3.1)
 (some (false, ()))
 (Option.bind (laws_toHalves a0) fun r6 =>
 (Option.bind (laws_eqHalves r4.1 r6.1) fun r7 =>
 (cond (!r7.1)
 (some (false, ()))
 (some (true, ()))))))))))))
end KF
