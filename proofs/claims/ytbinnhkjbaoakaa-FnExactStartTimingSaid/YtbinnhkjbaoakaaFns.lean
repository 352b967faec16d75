/- The plain functions that the Go functions compute: definitions alone (no condition). -/
import Derived.Test.YtbinnhkjbaoakaaCb
namespace KF
open Go
set_option linter.unusedVariables false
abbrev int : Ty := .i .i64
abbrev byte : Ty := .i .u8
abbrev tAcceptRange : Ty := (.p byte (.p byte .u))
abbrev TAcceptRange : Type := (Int × (Int × Unit))
abbrev tCombo : Ty := (.p int (.p int .u))
abbrev TCombo : Type := (Int × (Int × Unit))
abbrev tReport : Ty := (.p int (.p (.sl int) .u))
abbrev TReport : Type := (Int × ((List Int) × Unit))
abbrev tEvent : Ty := (.p int (.p int (.p .b .u)))
abbrev TEvent : Type := (Int × (Int × (Bool × Unit)))
abbrev tStep : Ty := (.p int tCombo)
abbrev TStep : Type := (Int × TCombo)
abbrev tFlash : Ty := (.p (.sl (.sl int)) (.p (.sl int) .u))
abbrev TFlash : Type := ((List (List Int)) × ((List Int) × Unit))
abbrev tL1Cur : Ty := (.p (.sl byte) tCombo)
abbrev TL1Cur : Type := ((List Int) × TCombo)
abbrev tAction : Ty := (.p int tStep)
abbrev TAction : Type := (Int × TStep)
abbrev tFlashOp : Ty := (.p .b tStep)
abbrev TFlashOp : Type := (Bool × TStep)
abbrev tReceiver : Ty := (.p (.sl byte) tStep)
abbrev TReceiver : Type := ((List Int) × TStep)
abbrev tSent : Ty := (.p int (.p tReport .u))
abbrev TSent : Type := (Int × (TReport × Unit))
abbrev tTapped : Ty := (.p tEvent (.p .s .u))
abbrev TTapped : Type := (TEvent × ((List UInt8) × Unit))
abbrev tHeld : Ty := (.p int (.p tAction .u))
abbrev THeld : Type := (Int × (TAction × Unit))
abbrev tDebouncer : Ty := (.p int (.p int (.p int (.p int tReport))))
abbrev TDebouncer : Type := (Int × (Int × (Int × (Int × TReport))))
abbrev tKeymap : Ty := (.p int (.p (.sl (.sl tAction)) .u))
abbrev TKeymap : Type := (Int × ((List (List TAction)) × Unit))
abbrev tBoth : Ty := (.p tEvent (.p tEvent .u))
abbrev TBoth : Type := (TEvent × (TEvent × Unit))
abbrev tCombiner : Ty := (.p (.sl tCombo) (.p int (.p (.sl tEvent) (.p int (.p int (.p int (.p (.sl tEvent) .u)))))))
abbrev TCombiner : Type := ((List TCombo) × (Int × ((List TEvent) × (Int × (Int × (Int × ((List TEvent) × Unit)))))))
abbrev tEngine : Ty := (.p tKeymap (.p (.sl (.sl tStep)) (.p int (.p (.sl tHeld) (.p int (.p .b .u))))))
abbrev TEngine : Type := (TKeymap × ((List (List TStep)) × (Int × ((List THeld) × (Int × (Bool × Unit))))))
abbrev tDecider : Ty := (.p tEngine (.p tStep (.p (.sl tEvent) tAction)))
abbrev TDecider : Type := (TEngine × (TStep × ((List TEvent) × TAction)))
abbrev tSession : Ty := (.p tDecider (.p (.sl tSent) .u))
abbrev TSession : Type := (TDecider × ((List TSent) × Unit))
abbrev tL19Pair : Ty := (.p tEngine (.p tEngine (.p (.sl int) .u)))
abbrev TL19Pair : Type := (TEngine × (TEngine × ((List Int) × Unit)))
abbrev tBoard : Ty := (.p tEvent (.p tDebouncer (.p tCombiner (.p tDecider tCombo))))
abbrev TBoard : Type := (TEvent × (TDebouncer × (TCombiner × (TDecider × TCombo))))
abbrev tHalves : Ty := (.p tBoard (.p tReceiver (.p int .u)))
abbrev THalves : Type := (TBoard × (TReceiver × (Int × Unit)))
abbrev tMatrix : Ty := tEvent
abbrev TMatrix : Type := TEvent
abbrev tTiming : Ty := tStep
abbrev TTiming : Type := TStep
abbrev tMemory : Ty := tEvent
abbrev TMemory : Type := TEvent
abbrev tActive : Ty := tEvent
abbrev TActive : Type := TEvent
abbrev tPair : Ty := tCombo
abbrev TPair : Type := TCombo


noncomputable def spec_l1In (a0 : Int) (a1 : Int) (a2 : Int) : Option (Bool × Unit) :=
 (cond (decide (a0 ≥ a1))
 (some ((decide (a0 ≤ a2)), ()))
 (some (false, ())))

noncomputable def laws_szIntS (a0 : (List Int)) (a1 : Int) : Option (Int × Unit) :=
 (cond (decide ((Go.IntKind.wrap .i64 (a1 - ((List.length a0 : Nat) : Int))) < (0 : Int)))
 (some ((-1 : Int), ()))
 (some ((Go.IntKind.wrap .i64 (a1 - ((List.length a0 : Nat) : Int))), ())))

noncomputable def laws_toIntS_3_R (t0 : (List Int)) (t3 : (List Int)) (t4 : Int) : Option ((((List Int) × ((List Int) × (Int × Unit))) × Unit) ⊕ ((((List Int) × Unit) × Unit) ⊕ (Unit × Unit))) :=
 (cond (decide (t4 < ((List.length t0 : Nat) : Int)))
 (Option.bind (idx t0 t4) fun x5 =>
 (cond (inb (List.length t3) t4)
 (Option.bind t3[(Int.toNat t4)]? fun x6 =>
 (some (.inl ((t0, (List.set t3 (Int.toNat t4) x5), (Go.IntKind.wrap .i64 (t4 + (1 : Int))), ()), ()))))
 none))
 (some (.inr (.inl ((t3, ()), ())))))
noncomputable def laws_toIntS_3_loop (x : (((List Int) × ((List Int) × (Int × Unit))) × Unit)) : Option ((((List Int) × Unit) × Unit) ⊕ (Unit × Unit)) := loopF (fun x : (((List Int) × ((List Int) × (Int × Unit))) × Unit) => laws_toIntS_3_R x.1.1 x.1.2.1 x.1.2.2.1) x
noncomputable def laws_toIntS (a0 : (List Int)) : Option ((List Int) × Unit) :=
 (cond ((((List.length a0 : Nat) : Int) == ((List.length a0 : Nat) : Int)) && (decide ((0 : Int) ≤ ((List.length a0 : Nat) : Int)) && decide (((List.length a0 : Nat) : Int) ≤ ((lim : Nat) : Int))))
 (Option.bind (laws_toIntS_3_loop ((a0, (List.replicate (Int.toNat ((List.length a0 : Nat) : Int)) (0 : Int)), (0 : Int), ()), ())) (Sum.elim (fun y7 => (some (y7.1.1, ()))) (fun z8 => none)))
 none)

noncomputable def laws_eqIntS_4_R (t0 : (List Int)) (t1 : (List Int)) (t5 : Int) : Option ((((List Int) × ((List Int) × (Int × Unit))) × Unit) ⊕ ((Unit × Unit) ⊕ ((Bool × Unit) × Unit))) :=
 (cond (decide (t5 < ((List.length t0 : Nat) : Int)))
 (Option.bind (idx t0 t5) fun x5 =>
 (Option.bind (idx t1 t5) fun x6 =>
 (cond (x5 != x6)
 (some (.inr (.inr ((false, ()), ()))))
 (some (.inl ((t0, t1, (Go.IntKind.wrap .i64 (t5 + (1 : Int))), ()), ()))))))
 (some (.inr (.inl ((), ())))))
noncomputable def laws_eqIntS_4_loop (x : (((List Int) × ((List Int) × (Int × Unit))) × Unit)) : Option ((Unit × Unit) ⊕ ((Bool × Unit) × Unit)) := loopF (fun x : (((List Int) × ((List Int) × (Int × Unit))) × Unit) => laws_eqIntS_4_R x.1.1 x.1.2.1 x.1.2.2.1) x
noncomputable def laws_eqIntS (a0 : (List Int)) (a1 : (List Int)) : Option (Bool × Unit) :=
 (cond (((List.length a0 : Nat) : Int) != ((List.length a1 : Nat) : Int))
 (some (false, ()))
 (Option.bind (laws_eqIntS_4_loop ((a0, a1, (0 : Int), ()), ())) (Sum.elim (fun y7 => (some (true, ()))) (fun z8 => (some (z8.1.1, ()))))))

noncomputable def spec_IsAction (a0 : TAction) : Option (Bool × Unit) :=
 (Option.bind (spec_l1In a0.2.1 (1 : Int) (56 : Int)) fun r1 =>
 (Option.bind (spec_l1In a0.2.2.1 (1 : Int) (15 : Int)) fun r2 =>
 (Option.bind (spec_l1In a0.2.2.2.1 (1 : Int) (3 : Int)) fun r3 =>
 (cond (a0.1 == (0 : Int))
 (cond (a0.2.1 == (0 : Int))
 (cond (a0.2.2.1 == (0 : Int))
 (some ((a0.2.2.2.1 == (0 : Int)), ()))
 (some (false, ())))
 (some (false, ())))
 (cond (a0.1 == (1 : Int))
 (cond (a0.2.1 == (0 : Int))
 (cond (a0.2.2.1 == (0 : Int))
 (some ((a0.2.2.2.1 == (0 : Int)), ()))
 (some (false, ())))
 (some (false, ())))
 (cond (a0.1 == (10 : Int))
 (cond (a0.2.1 == (0 : Int))
 (cond (a0.2.2.1 == (0 : Int))
 (some ((a0.2.2.2.1 == (0 : Int)), ()))
 (some (false, ())))
 (some (false, ())))
 (cond (a0.1 == (2 : Int))
 (cond (a0.2.2.2.1 == (0 : Int))
 (cond r1.1
 (cond r2.1
 (some (true, ()))
 (some ((a0.2.2.1 == (0 : Int)), ())))
 (cond (a0.2.1 == (0 : Int))
 (cond r2.1
 (cond r2.1
 (some (true, ()))
 (some ((a0.2.2.1 == (0 : Int)), ())))
 (some (false, ())))
 (some (false, ()))))
 (some (false, ())))
 (cond (a0.1 == (3 : Int))
 (cond r3.1
 (cond (a0.2.1 == (0 : Int))
 (some ((a0.2.2.1 == (0 : Int)), ()))
 (some (false, ())))
 (some (false, ())))
 (cond (a0.1 == (4 : Int))
 (cond r3.1
 (cond (a0.2.1 == (0 : Int))
 (some ((a0.2.2.1 == (0 : Int)), ()))
 (some (false, ())))
 (some (false, ())))
 (cond (a0.1 == (5 : Int))
 (Option.bind (spec_l1In a0.2.2.2.1 (0 : Int) (3 : Int)) fun r4 =>
 (cond r4.1
 (cond (a0.2.1 == (0 : Int))
 (some ((a0.2.2.1 == (0 : Int)), ()))
 (some (false, ())))
 (some (false, ()))))
 (cond (a0.1 == (9 : Int))
 (Option.bind (spec_l1In a0.2.2.2.1 (0 : Int) (3 : Int)) fun r5 =>
 (cond r5.1
 (cond (a0.2.1 == (0 : Int))
 (some ((a0.2.2.1 == (0 : Int)), ()))
 (some (false, ())))
 (some (false, ()))))
 (cond (a0.1 == (6 : Int))
 (cond r1.1
 (cond r2.1
 (some ((a0.2.2.2.1 == (0 : Int)), ()))
 (some (false, ())))
 (some (false, ())))
 (cond (a0.1 == (7 : Int))
 (cond r1.1
 (cond r3.1
 (some ((a0.2.2.1 == (0 : Int)), ()))
 (some (false, ())))
 (some (false, ())))
 (cond (a0.1 == (8 : Int))
 (cond r2.1
 (cond (a0.2.1 == (0 : Int))
 (some ((a0.2.2.2.1 == (0 : Int)), ()))
 (some (false, ())))
 (some (false, ())))
 (some (false, ()))))))))))))))))

noncomputable def spec_IsKeymap_7_R (t1 : Unit) (t3 : Int) (t4 : Int) (b1 : TKeymap) : Option (((Unit × TCombo) × (TKeymap × Unit)) ⊕ (((Unit × (Int × Unit)) × (TKeymap × Unit)) ⊕ ((Bool × Unit) × Unit))) :=
 (Option.bind (idx b1.2.1 t3) fun x40 =>
 (cond (decide (t4 < ((List.length x40 : Nat) : Int)))
 (Option.bind (idx b1.2.1 t3) fun x41 =>
 (Option.bind (idx x41 t4) fun x42 =>
 (Option.bind (spec_IsAction x42) fun r43 =>
 (cond (!r43.1)
 (some (.inr (.inr ((false, ()), ()))))
 (cond (x42.1 == (1 : Int))
 (cond (t3 == (0 : Int))
 (some (.inr (.inr ((false, ()), ()))))
 (cond (x42.1 != (9 : Int))
 (cond (decide (x42.2.2.2.1 ≥ ((List.length b1.2.1 : Nat) : Int)))
 (some (.inr (.inr ((false, ()), ()))))
 (some (.inl (((), t3, (Go.IntKind.wrap .i64 (t4 + (1 : Int))), ()), (b1, ())))))
 (some (.inl (((), t3, (Go.IntKind.wrap .i64 (t4 + (1 : Int))), ()), (b1, ()))))))
 (cond (x42.1 != (9 : Int))
 (cond (decide (x42.2.2.2.1 ≥ ((List.length b1.2.1 : Nat) : Int)))
 (some (.inr (.inr ((false, ()), ()))))
 (some (.inl (((), t3, (Go.IntKind.wrap .i64 (t4 + (1 : Int))), ()), (b1, ())))))
 (some (.inl (((), t3, (Go.IntKind.wrap .i64 (t4 + (1 : Int))), ()), (b1, ()))))))))))
 (some (.inr (.inl (((), t3, ()), (b1, ())))))))
noncomputable def spec_IsKeymap_7_loop (x : ((Unit × TCombo) × (TKeymap × Unit))) : Option (((Unit × (Int × Unit)) × (TKeymap × Unit)) ⊕ ((Bool × Unit) × Unit)) := loopF (fun x : ((Unit × TCombo) × (TKeymap × Unit)) => spec_IsKeymap_7_R x.1.1 x.1.2.1 x.1.2.2.1 x.2.1) x
noncomputable def spec_IsKeymap_2_R (t1 : Unit) (t3 : Int) (b1 : TKeymap) : Option (((Unit × (Int × Unit)) × (TKeymap × Unit)) ⊕ (((Unit × Unit) × (TKeymap × Unit)) ⊕ ((Bool × Unit) × Unit))) :=
 (cond (decide (t3 < ((List.length b1.2.1 : Nat) : Int)))
 (Option.bind (idx b1.2.1 t3) fun x31 =>
 (cond (((List.length x31 : Nat) : Int) != b1.1)
 (some (.inr (.inr ((false, ()), ()))))
 (Option.bind (spec_IsKeymap_7_loop (((), t3, (0 : Int), ()), (b1, ()))) (Sum.elim (fun y44 => (some (.inl (((), (Go.IntKind.wrap .i64 (y44.1.2.1 + (1 : Int))), ()), (y44.2.1, ()))))) (fun z45 => (some (.inr (.inr ((z45.1.1, ()), ())))))))))
 (some (.inr (.inl (((), ()), (b1, ()))))))
noncomputable def spec_IsKeymap_2_loop (x : ((Unit × (Int × Unit)) × (TKeymap × Unit))) : Option (((Unit × Unit) × (TKeymap × Unit)) ⊕ ((Bool × Unit) × Unit)) := loopF (fun x : ((Unit × (Int × Unit)) × (TKeymap × Unit)) => spec_IsKeymap_2_R x.1.1 x.1.2.1 x.2.1) x
noncomputable def spec_IsKeymap (a0 : TKeymap) : Option (Bool × Unit) :=
 (Option.bind (spec_IsKeymap_2_loop (((), (0 : Int), ()), (a0, ()))) (Sum.elim (fun y46 => (Option.bind (spec_l1In y46.2.1.1 (1 : Int) (32 : Int)) fun r48 =>
 (cond r48.1
 (Option.bind (spec_l1In ((List.length y46.2.1.2.1 : Nat) : Int) (1 : Int) (4 : Int)) fun r49 =>
 (some (r49.1, ())))
 (some (false, ()))))) (fun z47 => (some (z47.1.1, ())))))

noncomputable def spec_IsFixed (a0 : TKeymap) (a1 : Int) : Option (Bool × Unit) :=
 (Option.bind (spec_IsKeymap a0) fun r1 =>
 (cond r1.1
 (cond (decide ((0 : Int) ≤ ((List.length a0.2.1 : Nat) : Int)))
 (Option.bind (spec_l1In a1 (0 : Int) (Go.IntKind.wrap .i64 ((ishl .i64 (1 : Int) ((List.length a0.2.1 : Nat) : Int)) - (1 : Int)))) fun r2 =>
 (cond r2.1
 (cond ((2 : Int) == (0 : Int))
 none
 (some (((Int.tmod a1 (2 : Int)) == (0 : Int)), ())))
 (some (false, ()))))
 none)
 (some (false, ()))))

noncomputable def impl_isCode (a0 : Int) : Option (Bool × Unit) :=
 (cond (decide (a0 ≥ (1 : Int)))
 (some ((decide (a0 ≤ (56 : Int))), ()))
 (some (false, ())))

noncomputable def impl_isMods (a0 : Int) : Option (Bool × Unit) :=
 (cond (decide (a0 ≥ (1 : Int)))
 (some ((decide (a0 ≤ (15 : Int))), ()))
 (some (false, ())))

noncomputable def impl_isUpper (a0 : Int) : Option (Bool × Unit) :=
 (cond (decide (a0 ≥ (1 : Int)))
 (some ((decide (a0 ≤ (3 : Int))), ()))
 (some (false, ())))

noncomputable def impl_IsAction (a0 : TAction) : Option (Bool × Unit) :=
 (cond (a0.1 == (0 : Int))
 (cond (a0.2.1 == (0 : Int))
 (cond (a0.2.2.1 == (0 : Int))
 (some ((a0.2.2.2.1 == (0 : Int)), ()))
 (some (false, ())))
 (some (false, ())))
 (cond (a0.1 == (1 : Int))
 (cond (a0.2.1 == (0 : Int))
 (cond (a0.2.2.1 == (0 : Int))
 (some ((a0.2.2.2.1 == (0 : Int)), ()))
 (some (false, ())))
 (some (false, ())))
 (cond (a0.1 == (10 : Int))
 (cond (a0.2.1 == (0 : Int))
 (cond (a0.2.2.1 == (0 : Int))
 (some ((a0.2.2.2.1 == (0 : Int)), ()))
 (some (false, ())))
 (some (false, ())))
 (cond (a0.1 == (2 : Int))
 (cond (a0.2.2.2.1 == (0 : Int))
 (cond (a0.2.1 == (0 : Int))
 (cond (a0.2.2.1 == (0 : Int))
 (cond (a0.2.1 != (0 : Int))
 (some (true, ()))
 (some ((a0.2.2.1 != (0 : Int)), ())))
 (Option.bind (impl_isMods a0.2.2.1) fun r1 =>
 (cond r1.1
 (cond (a0.2.1 != (0 : Int))
 (some (true, ()))
 (some ((a0.2.2.1 != (0 : Int)), ())))
 (some (false, ())))))
 (Option.bind (impl_isCode a0.2.1) fun r2 =>
 (cond r2.1
 (cond (a0.2.2.1 == (0 : Int))
 (cond (a0.2.1 != (0 : Int))
 (some (true, ()))
 (some ((a0.2.2.1 != (0 : Int)), ())))
 (Option.bind (impl_isMods a0.2.2.1) fun r3 =>
 (cond r3.1
 (cond (a0.2.1 != (0 : Int))
 (some (true, ()))
 (some ((a0.2.2.1 != (0 : Int)), ())))
 (some (false, ())))))
 (some (false, ())))))
 (some (false, ())))
 (cond (a0.1 == (3 : Int))
 (cond (a0.2.1 == (0 : Int))
 (cond (a0.2.2.1 == (0 : Int))
 (Option.bind (impl_isUpper a0.2.2.2.1) fun r4 =>
 (some (r4.1, ())))
 (some (false, ())))
 (some (false, ())))
 (cond (a0.1 == (4 : Int))
 (cond (a0.2.1 == (0 : Int))
 (cond (a0.2.2.1 == (0 : Int))
 (Option.bind (impl_isUpper a0.2.2.2.1) fun r5 =>
 (some (r5.1, ())))
 (some (false, ())))
 (some (false, ())))
 (cond (a0.1 == (5 : Int))
 (cond (a0.2.1 == (0 : Int))
 (cond (a0.2.2.1 == (0 : Int))
 (cond (decide (a0.2.2.2.1 ≥ (0 : Int)))
 (some ((decide (a0.2.2.2.1 ≤ (3 : Int))), ()))
 (some (false, ())))
 (some (false, ())))
 (some (false, ())))
 (cond (a0.1 == (9 : Int))
 (cond (a0.2.1 == (0 : Int))
 (cond (a0.2.2.1 == (0 : Int))
 (cond (decide (a0.2.2.2.1 ≥ (0 : Int)))
 (some ((decide (a0.2.2.2.1 ≤ (3 : Int))), ()))
 (some (false, ())))
 (some (false, ())))
 (some (false, ())))
 (cond (a0.1 == (6 : Int))
 (Option.bind (impl_isCode a0.2.1) fun r6 =>
 (cond r6.1
 (Option.bind (impl_isMods a0.2.2.1) fun r7 =>
 (cond r7.1
 (some ((a0.2.2.2.1 == (0 : Int)), ()))
 (some (false, ()))))
 (some (false, ()))))
 (cond (a0.1 == (7 : Int))
 (Option.bind (impl_isCode a0.2.1) fun r8 =>
 (cond r8.1
 (cond (a0.2.2.1 == (0 : Int))
 (Option.bind (impl_isUpper a0.2.2.2.1) fun r9 =>
 (some (r9.1, ())))
 (some (false, ())))
 (some (false, ()))))
 (cond (a0.1 == (8 : Int))
 (cond (a0.2.1 == (0 : Int))
 (Option.bind (impl_isMods a0.2.2.1) fun r10 =>
 (cond r10.1
 (some ((a0.2.2.2.1 == (0 : Int)), ()))
 (some (false, ()))))
 (some (false, ())))
 (some (false, ())))))))))))))

noncomputable def impl_IsKeymap_9_R (t1 : Unit) (t3 : Int) (t28 : (List (List TAction))) (t29 : Int) (t30 : Int) (t40 : (List TAction)) (t41 : Int) (t42 : Int) (b1 : TKeymap) : Option (((Unit × (Int × ((List (List TAction)) × (Int × (Int × ((List TAction) × TCombo)))))) × (TKeymap × Unit)) ⊕ (((Unit × ((List (List TAction)) × TCombo)) × (TKeymap × Unit)) ⊕ ((Bool × Unit) × Unit))) :=
 (cond (decide (t42 < t41))
 (Option.bind (idx t40 t42) fun x24 =>
 (Option.bind (impl_IsAction x24) fun r25 =>
 (cond (!r25.1)
 (some (.inr (.inr ((false, ()), ()))))
 (cond (t3 == (0 : Int))
 (cond (x24.1 == (1 : Int))
 (some (.inr (.inr ((false, ()), ()))))
 (cond (x24.1 != (9 : Int))
 (cond (decide (x24.2.2.2.1 ≥ ((List.length b1.2.1 : Nat) : Int)))
 (some (.inr (.inr ((false, ()), ()))))
 (some (.inl (((), t3, t28, t29, t30, t40, t41, (Go.IntKind.wrap .i64 (t42 + (1 : Int))), ()), (b1, ())))))
 (some (.inl (((), t3, t28, t29, t30, t40, t41, (Go.IntKind.wrap .i64 (t42 + (1 : Int))), ()), (b1, ()))))))
 (cond (x24.1 != (9 : Int))
 (cond (decide (x24.2.2.2.1 ≥ ((List.length b1.2.1 : Nat) : Int)))
 (some (.inr (.inr ((false, ()), ()))))
 (some (.inl (((), t3, t28, t29, t30, t40, t41, (Go.IntKind.wrap .i64 (t42 + (1 : Int))), ()), (b1, ())))))
 (some (.inl (((), t3, t28, t29, t30, t40, t41, (Go.IntKind.wrap .i64 (t42 + (1 : Int))), ()), (b1, ())))))))))
 (some (.inr (.inl (((), t28, t29, t30, ()), (b1, ()))))))
noncomputable def impl_IsKeymap_9_loop (x : ((Unit × (Int × ((List (List TAction)) × (Int × (Int × ((List TAction) × TCombo)))))) × (TKeymap × Unit))) : Option (((Unit × ((List (List TAction)) × TCombo)) × (TKeymap × Unit)) ⊕ ((Bool × Unit) × Unit)) := loopF (fun x : ((Unit × (Int × ((List (List TAction)) × (Int × (Int × ((List TAction) × TCombo)))))) × (TKeymap × Unit)) => impl_IsKeymap_9_R x.1.1 x.1.2.1 x.1.2.2.1 x.1.2.2.2.1 x.1.2.2.2.2.1 x.1.2.2.2.2.2.1 x.1.2.2.2.2.2.2.1 x.1.2.2.2.2.2.2.2.1 x.2.1) x
noncomputable def impl_IsKeymap_4_R (t1 : Unit) (t28 : (List (List TAction))) (t29 : Int) (t30 : Int) (b1 : TKeymap) : Option (((Unit × ((List (List TAction)) × TCombo)) × (TKeymap × Unit)) ⊕ ((Unit × Unit) ⊕ ((Bool × Unit) × Unit))) :=
 (cond (decide (t30 < t29))
 (Option.bind (idx t28 t30) fun x19 =>
 (cond (((List.length x19 : Nat) : Int) != b1.1)
 (some (.inr (.inr ((false, ()), ()))))
 (Option.bind (impl_IsKeymap_9_loop (((), t30, t28, t29, t30, x19, ((List.length x19 : Nat) : Int), (0 : Int), ()), (b1, ()))) (Sum.elim (fun y26 => (some (.inl (((), y26.1.2.1, y26.1.2.2.1, (Go.IntKind.wrap .i64 (y26.1.2.2.2.1 + (1 : Int))), ()), (y26.2.1, ()))))) (fun z27 => (some (.inr (.inr ((z27.1.1, ()), ())))))))))
 (some (.inr (.inl ((), ())))))
noncomputable def impl_IsKeymap_4_loop (x : ((Unit × ((List (List TAction)) × TCombo)) × (TKeymap × Unit))) : Option ((Unit × Unit) ⊕ ((Bool × Unit) × Unit)) := loopF (fun x : ((Unit × ((List (List TAction)) × TCombo)) × (TKeymap × Unit)) => impl_IsKeymap_4_R x.1.1 x.1.2.1 x.1.2.2.1 x.1.2.2.2.1 x.2.1) x
noncomputable def impl_IsKeymap (a0 : TKeymap) : Option (Bool × Unit) :=
 (cond (decide (a0.1 < (1 : Int)))
 (some (false, ()))
 (cond (decide (a0.1 > (32 : Int)))
 (some (false, ()))
 (cond (decide (((List.length a0.2.1 : Nat) : Int) < (1 : Int)))
 (some (false, ()))
 (cond (decide (((List.length a0.2.1 : Nat) : Int) > (4 : Int)))
 (some (false, ()))
 (Option.bind (impl_IsKeymap_4_loop (((), a0.2.1, ((List.length a0.2.1 : Nat) : Int), (0 : Int), ()), (a0, ()))) (Sum.elim (fun y28 => (some (true, ()))) (fun z29 => (some (z29.1.1, ())))))))))

noncomputable def impl_IsFixed (a0 : TKeymap) (a1 : Int) : Option (Bool × Unit) :=
 (Option.bind (impl_IsKeymap a0) fun r1 =>
 (cond r1.1
 (cond (decide (a1 ≥ (0 : Int)))
 (cond ((2 : Int) == (0 : Int))
 none
 (cond ((Int.tmod a1 (2 : Int)) == (0 : Int))
 (cond (decide ((0 : Int) ≤ ((List.length a0.2.1 : Nat) : Int)))
 (some ((decide (a1 < (ishl .i64 (1 : Int) ((List.length a0.2.1 : Nat) : Int)))), ()))
 none)
 (some (false, ()))))
 (some (false, ())))
 (some (false, ()))))

noncomputable def laws_szIntSS_5_R (t0 : (List (List Int))) (t1 : Int) (t5 : Int) : Option ((((List (List Int)) × TCombo) × Unit) ⊕ (((Int × Unit) × Unit) ⊕ ((Int × Unit) × Unit))) :=
 (cond (decide (t5 < ((List.length t0 : Nat) : Int)))
 (Option.bind (idx t0 t5) fun x5 =>
 (Option.bind (laws_szIntS x5 t1) fun r6 =>
 (cond (decide (r6.1 < (0 : Int)))
 (some (.inr (.inr (((-1 : Int), ()), ()))))
 (some (.inl ((t0, r6.1, (Go.IntKind.wrap .i64 (t5 + (1 : Int))), ()), ()))))))
 (some (.inr (.inl ((t1, ()), ())))))
noncomputable def laws_szIntSS_5_loop (x : (((List (List Int)) × TCombo) × Unit)) : Option (((Int × Unit) × Unit) ⊕ ((Int × Unit) × Unit)) := loopF (fun x : (((List (List Int)) × TCombo) × Unit) => laws_szIntSS_5_R x.1.1 x.1.2.1 x.1.2.2.1) x
noncomputable def laws_szIntSS (a0 : (List (List Int))) (a1 : Int) : Option (Int × Unit) :=
 (cond (decide ((Go.IntKind.wrap .i64 (a1 - ((List.length a0 : Nat) : Int))) < (0 : Int)))
 (some ((-1 : Int), ()))
 (Option.bind (laws_szIntSS_5_loop ((a0, (Go.IntKind.wrap .i64 (a1 - ((List.length a0 : Nat) : Int))), (0 : Int), ()), ())) (Sum.elim (fun y7 => (some (y7.1.1, ()))) (fun z8 => (some (z8.1.1, ()))))))

noncomputable def laws_szFlash (a0 : TFlash) (a1 : Int) : Option (Int × Unit) :=
 (Option.bind (laws_szIntSS a0.1 a1) fun r1 =>
 (cond (decide (r1.1 < (0 : Int)))
 (some ((-1 : Int), ()))
 (Option.bind (laws_szIntS a0.2.1 r1.1) fun r2 =>
 (cond (decide (r2.1 < (0 : Int)))
 (some ((-1 : Int), ()))
 (some (r2.1, ()))))))

noncomputable def laws_toIntSS_3_R (t0 : (List (List Int))) (t3 : (List (List Int))) (t4 : Int) : Option ((((List (List Int)) × ((List (List Int)) × (Int × Unit))) × Unit) ⊕ ((((List (List Int)) × Unit) × Unit) ⊕ (Unit × Unit))) :=
 (cond (decide (t4 < ((List.length t0 : Nat) : Int)))
 (Option.bind (idx t0 t4) fun x7 =>
 (Option.bind (laws_toIntS x7) fun r8 =>
 (cond (inb (List.length t3) t4)
 (Option.bind t3[(Int.toNat t4)]? fun x9 =>
 (some (.inl ((t0, (List.set t3 (Int.toNat t4) r8.1), (Go.IntKind.wrap .i64 (t4 + (1 : Int))), ()), ()))))
 none)))
 (some (.inr (.inl ((t3, ()), ())))))
noncomputable def laws_toIntSS_3_loop (x : (((List (List Int)) × ((List (List Int)) × (Int × Unit))) × Unit)) : Option ((((List (List Int)) × Unit) × Unit) ⊕ (Unit × Unit)) := loopF (fun x : (((List (List Int)) × ((List (List Int)) × (Int × Unit))) × Unit) => laws_toIntSS_3_R x.1.1 x.1.2.1 x.1.2.2.1) x
noncomputable def laws_toIntSS (a0 : (List (List Int))) : Option ((List (List Int)) × Unit) :=
 (cond ((((List.length a0 : Nat) : Int) == ((List.length a0 : Nat) : Int)) && (decide ((0 : Int) ≤ ((List.length a0 : Nat) : Int)) && decide (((List.length a0 : Nat) : Int) ≤ ((lim : Nat) : Int))))
 (Option.bind (laws_toIntSS_3_loop ((a0, (List.replicate (Int.toNat ((List.length a0 : Nat) : Int)) ([] : List Int)), (0 : Int), ()), ())) (Sum.elim (fun y10 => (some (y10.1.1, ()))) (fun z11 => none)))
 none)

noncomputable def laws_toFlash (a0 : TFlash) : Option (TFlash × Unit) :=
 (Option.bind (laws_toIntSS a0.1) fun r1 =>
 (Option.bind (laws_toIntS a0.2.1) fun r2 =>
 (some ((r1.1, r2.1, ()), ()))))

noncomputable def spec_IsFlash_9_R (t1 : Unit) (t3 : Int) (t4 : Int) (b1 : TFlash) : Option (((Unit × TCombo) × (TFlash × Unit)) ⊕ (((Unit × (Int × Unit)) × (TFlash × Unit)) ⊕ ((Bool × Unit) × Unit))) :=
 (Option.bind (idx b1.1 t3) fun x46 =>
 (cond (decide (t4 < ((List.length x46 : Nat) : Int)))
 (Option.bind (idx b1.1 t3) fun x47 =>
 (Option.bind (idx x47 t4) fun x48 =>
 (Option.bind (spec_l1In x48 (0 : Int) (65535 : Int)) fun r49 =>
 (cond (!r49.1)
 (some (.inr (.inr ((false, ()), ()))))
 (some (.inl (((), t3, (Go.IntKind.wrap .i64 (t4 + (1 : Int))), ()), (b1, ()))))))))
 (some (.inr (.inl (((), t3, ()), (b1, ())))))))
noncomputable def spec_IsFlash_9_loop (x : ((Unit × TCombo) × (TFlash × Unit))) : Option (((Unit × (Int × Unit)) × (TFlash × Unit)) ⊕ ((Bool × Unit) × Unit)) := loopF (fun x : ((Unit × TCombo) × (TFlash × Unit)) => spec_IsFlash_9_R x.1.1 x.1.2.1 x.1.2.2.1 x.2.1) x
noncomputable def spec_IsFlash_4_R (t1 : Unit) (t3 : Int) (b1 : TFlash) : Option (((Unit × (Int × Unit)) × (TFlash × Unit)) ⊕ ((Unit × Unit) ⊕ ((Bool × Unit) × Unit))) :=
 (cond (decide (t3 < (2 : Int)))
 (Option.bind (idx b1.1 t3) fun x35 =>
 (cond (((List.length x35 : Nat) : Int) != (19 : Int))
 (some (.inr (.inr ((false, ()), ()))))
 (Option.bind (idx b1.2.1 t3) fun x36 =>
 (Option.bind (spec_l1In x36 (0 : Int) (1000 : Int)) fun r37 =>
 (cond (!r37.1)
 (some (.inr (.inr ((false, ()), ()))))
 (Option.bind (spec_IsFlash_9_loop (((), t3, (0 : Int), ()), (b1, ()))) (Sum.elim (fun y50 => (some (.inl (((), (Go.IntKind.wrap .i64 (y50.1.2.1 + (1 : Int))), ()), (y50.2.1, ()))))) (fun z51 => (some (.inr (.inr ((z51.1.1, ()), ()))))))))))))
 (some (.inr (.inl ((), ())))))
noncomputable def spec_IsFlash_4_loop (x : ((Unit × (Int × Unit)) × (TFlash × Unit))) : Option ((Unit × Unit) ⊕ ((Bool × Unit) × Unit)) := loopF (fun x : ((Unit × (Int × Unit)) × (TFlash × Unit)) => spec_IsFlash_4_R x.1.1 x.1.2.1 x.2.1) x
noncomputable def spec_IsFlash (a0 : TFlash) : Option (Bool × Unit) :=
 (cond (((List.length a0.1 : Nat) : Int) != (2 : Int))
 (some (false, ()))
 (cond (((List.length a0.2.1 : Nat) : Int) != (2 : Int))
 (some (false, ()))
 (Option.bind (spec_IsFlash_4_loop (((), (0 : Int), ()), (a0, ()))) (Sum.elim (fun y52 => (some (true, ()))) (fun z53 => (some (z53.1.1, ())))))))

noncomputable def spec_ActivePage_3_R (t1 : Unit) (t3 : Int) (t4 : Int) (b1 : TFlash) : Option (((Unit × TCombo) × (TFlash × Unit)) ⊕ (((Int × Unit) × Unit) ⊕ (Unit × Unit))) :=
 (cond (decide (t4 < (2 : Int)))
 (Option.bind (spec_IsFlash b1) fun r13 =>
 (cond r13.1
 (Option.bind (idx b1.1 t4) fun x14 =>
 (Option.bind (idx x14 (0 : Int)) fun x15 =>
 (Option.bind (spec_l1In x15 (1 : Int) (60000 : Int)) fun r16 =>
 (cond r16.1
 (cond (decide (t3 < (0 : Int)))
 (some (.inl (((), t4, (Go.IntKind.wrap .i64 (t4 + (1 : Int))), ()), (b1, ()))))
 (Option.bind (idx b1.1 t3) fun x17 =>
 (Option.bind (idx x17 (0 : Int)) fun x18 =>
 (cond (decide (x15 > x18))
 (some (.inl (((), t4, (Go.IntKind.wrap .i64 (t4 + (1 : Int))), ()), (b1, ()))))
 (some (.inl (((), t3, (Go.IntKind.wrap .i64 (t4 + (1 : Int))), ()), (b1, ()))))))))
 (some (.inl (((), t3, (Go.IntKind.wrap .i64 (t4 + (1 : Int))), ()), (b1, ()))))))))
 (some (.inr (.inl ((t3, ()), ()))))))
 (some (.inr (.inl ((t3, ()), ())))))
noncomputable def spec_ActivePage_3_loop (x : ((Unit × TCombo) × (TFlash × Unit))) : Option (((Int × Unit) × Unit) ⊕ (Unit × Unit)) := loopF (fun x : ((Unit × TCombo) × (TFlash × Unit)) => spec_ActivePage_3_R x.1.1 x.1.2.1 x.1.2.2.1 x.2.1) x
noncomputable def spec_ActivePage (a0 : TFlash) : Option (Int × Unit) :=
 (Option.bind (spec_ActivePage_3_loop (((), (-1 : Int), (0 : Int), ()), (a0, ()))) (Sum.elim (fun y19 => (some (y19.1.1, ()))) (fun z20 => none)))

noncomputable def spec_CheckOf (a0 : Int) (a1 : Int) (a2 : Int) : Option (Int × Unit) :=
 (Option.bind (spec_l1In a0 (0 : Int) (3 : Int)) fun r1 =>
 (cond (!r1.1)
 (some ((65535 : Int), ()))
 (Option.bind (spec_l1In a1 (0 : Int) (9999 : Int)) fun r2 =>
 (cond (!r2.1)
 (some ((65535 : Int), ()))
 (Option.bind (spec_l1In a2 (1 : Int) (60000 : Int)) fun r3 =>
 (cond (!r3.1)
 (some ((65535 : Int), ()))
 (cond ((60000 : Int) == (0 : Int))
 none
 (some ((Int.tmod (Go.IntKind.wrap .i64 ((Go.IntKind.wrap .i64 ((Go.IntKind.wrap .i64 ((Go.IntKind.wrap .i64 ((7 : Int) * a0)) + (Go.IntKind.wrap .i64 ((13 : Int) * a1)))) + (Go.IntKind.wrap .i64 ((31 : Int) * a2)))) + (5 : Int))) (60000 : Int)), ())))))))))

noncomputable def spec_ReadSetting_7_R (t1 : Int) (t2 : Unit) (t6 : Int) (t7 : Int) (t8 : Bool) (t9 : Int) (b2 : TFlash) : Option (((Int × (Unit × (Int × (Int × (Bool × (Int × Unit)))))) × (TFlash × Unit)) ⊕ (((Int × (Bool × Unit)) × Unit) ⊕ (Unit × Unit))) :=
 (cond (decide (t9 < (6 : Int)))
 (Option.bind (idx b2.1 t6) fun x21 =>
 (Option.bind (idx x21 (Go.IntKind.wrap .i64 ((Go.IntKind.wrap .i64 ((1 : Int) + (Go.IntKind.wrap .i64 ((3 : Int) * t9)))) + (1 : Int)))) fun x22 =>
 (Option.bind (idx b2.1 t6) fun x23 =>
 (Option.bind (idx x23 (0 : Int)) fun x24 =>
 (Option.bind (spec_CheckOf t1 x22 x24) fun r25 =>
 (Option.bind (idx b2.1 t6) fun x26 =>
 (Option.bind (idx x26 (Go.IntKind.wrap .i64 ((1 : Int) + (Go.IntKind.wrap .i64 ((3 : Int) * t9))))) fun x27 =>
 (cond (x27 == t1)
 (cond (r25.1 != (65535 : Int))
 (Option.bind (idx b2.1 t6) fun x28 =>
 (Option.bind (idx x28 (Go.IntKind.wrap .i64 ((Go.IntKind.wrap .i64 ((1 : Int) + (Go.IntKind.wrap .i64 ((3 : Int) * t9)))) + (2 : Int)))) fun x29 =>
 (cond (x29 == r25.1)
 (some (.inl ((t1, (), t6, x22, true, (Go.IntKind.wrap .i64 (t9 + (1 : Int))), ()), (b2, ()))))
 (some (.inl ((t1, (), t6, t7, t8, (Go.IntKind.wrap .i64 (t9 + (1 : Int))), ()), (b2, ())))))))
 (some (.inl ((t1, (), t6, t7, t8, (Go.IntKind.wrap .i64 (t9 + (1 : Int))), ()), (b2, ())))))
 (some (.inl ((t1, (), t6, t7, t8, (Go.IntKind.wrap .i64 (t9 + (1 : Int))), ()), (b2, ()))))))))))))
 (some (.inr (.inl ((t7, t8, ()), ())))))
noncomputable def spec_ReadSetting_7_loop (x : ((Int × (Unit × (Int × (Int × (Bool × (Int × Unit)))))) × (TFlash × Unit))) : Option (((Int × (Bool × Unit)) × Unit) ⊕ (Unit × Unit)) := loopF (fun x : ((Int × (Unit × (Int × (Int × (Bool × (Int × Unit)))))) × (TFlash × Unit)) => spec_ReadSetting_7_R x.1.1 x.1.2.1 x.1.2.2.1 x.1.2.2.2.1 x.1.2.2.2.2.1 x.1.2.2.2.2.2.1 x.2.1) x
noncomputable def spec_ReadSetting (a0 : TFlash) (a1 : Int) : Option (Int × (Bool × Unit)) :=
 (Option.bind (spec_ActivePage a0) fun r1 =>
 (cond (decide (r1.1 < (0 : Int)))
 (some ((0 : Int), false, ()))
 (Option.bind (spec_l1In a1 (0 : Int) (3 : Int)) fun r2 =>
 (cond (!r2.1)
 (some ((0 : Int), false, ()))
 (Option.bind (spec_ReadSetting_7_loop ((a1, (), r1.1, (0 : Int), false, (0 : Int), ()), (a0, ()))) (Sum.elim (fun y30 => (some (y30.1.1, y30.1.2.1, ()))) (fun z31 => none)))))))

noncomputable def spec_l23Part (a0 : TFlash) (a1 : Int) (a2 : Int) (a3 : Int) (a4 : Int) : Option (Int × Unit) :=
 (Option.bind (spec_ReadSetting a0 a1) fun r1 =>
 (cond (!r1.2.1)
 (some (a4, ()))
 (Option.bind (spec_l1In r1.1 a2 a3) fun r2 =>
 (cond (!r2.1)
 (some (a4, ()))
 (some (r1.1, ()))))))

noncomputable def spec_StartTiming (a0 : TFlash) : Option (TStep × Unit) :=
 (Option.bind (spec_l23Part a0 (0 : Int) (1 : Int) (1000 : Int) (200 : Int)) fun r1 =>
 (Option.bind (spec_l23Part a0 (1 : Int) (0 : Int) (1000 : Int) (100 : Int)) fun r2 =>
 (Option.bind (spec_l23Part a0 (2 : Int) (0 : Int) (2 : Int) (0 : Int)) fun r3 =>
 (some ((r1.1, r2.1, r3.1, ()), ())))))

noncomputable def impl_IsFlash_9_R (t1 : Unit) (t16 : Int) (t46 : (List Int)) (t47 : Int) (t48 : Int) (b1 : TFlash) : Option (((Unit × (Int × ((List Int) × TCombo))) × (TFlash × Unit)) ⊕ (((Unit × (Int × Unit)) × (TFlash × Unit)) ⊕ ((Bool × Unit) × Unit))) :=
 (cond (decide (t48 < t47))
 (Option.bind (idx t46 t48) fun x25 =>
 (cond (decide (x25 < (0 : Int)))
 (some (.inr (.inr ((false, ()), ()))))
 (cond (decide (x25 > (65535 : Int)))
 (some (.inr (.inr ((false, ()), ()))))
 (some (.inl (((), t16, t46, t47, (Go.IntKind.wrap .i64 (t48 + (1 : Int))), ()), (b1, ())))))))
 (some (.inr (.inl (((), t16, ()), (b1, ()))))))
noncomputable def impl_IsFlash_9_loop (x : ((Unit × (Int × ((List Int) × TCombo))) × (TFlash × Unit))) : Option (((Unit × (Int × Unit)) × (TFlash × Unit)) ⊕ ((Bool × Unit) × Unit)) := loopF (fun x : ((Unit × (Int × ((List Int) × TCombo))) × (TFlash × Unit)) => impl_IsFlash_9_R x.1.1 x.1.2.1 x.1.2.2.1 x.1.2.2.2.1 x.1.2.2.2.2.1 x.2.1) x
noncomputable def impl_IsFlash_4_R (t1 : Unit) (t16 : Int) (b1 : TFlash) : Option (((Unit × (Int × Unit)) × (TFlash × Unit)) ⊕ ((Unit × Unit) ⊕ ((Bool × Unit) × Unit))) :=
 (cond (decide (t16 < (2 : Int)))
 (Option.bind (idx b1.1 t16) fun x19 =>
 (cond (((List.length x19 : Nat) : Int) != (19 : Int))
 (some (.inr (.inr ((false, ()), ()))))
 (Option.bind (idx b1.2.1 t16) fun x20 =>
 (cond (decide (x20 < (0 : Int)))
 (some (.inr (.inr ((false, ()), ()))))
 (Option.bind (idx b1.2.1 t16) fun x21 =>
 (cond (decide (x21 > (1000 : Int)))
 (some (.inr (.inr ((false, ()), ()))))
 (Option.bind (idx b1.1 t16) fun x22 =>
 (Option.bind (impl_IsFlash_9_loop (((), t16, x22, ((List.length x22 : Nat) : Int), (0 : Int), ()), (b1, ()))) (Sum.elim (fun y26 => (some (.inl (((), (Go.IntKind.wrap .i64 (y26.1.2.1 + (1 : Int))), ()), (y26.2.1, ()))))) (fun z27 => (some (.inr (.inr ((z27.1.1, ()), ()))))))))))))))
 (some (.inr (.inl ((), ())))))
noncomputable def impl_IsFlash_4_loop (x : ((Unit × (Int × Unit)) × (TFlash × Unit))) : Option ((Unit × Unit) ⊕ ((Bool × Unit) × Unit)) := loopF (fun x : ((Unit × (Int × Unit)) × (TFlash × Unit)) => impl_IsFlash_4_R x.1.1 x.1.2.1 x.2.1) x
noncomputable def impl_IsFlash (a0 : TFlash) : Option (Bool × Unit) :=
 (cond (((List.length a0.1 : Nat) : Int) != (2 : Int))
 (some (false, ()))
 (cond (((List.length a0.2.1 : Nat) : Int) != (2 : Int))
 (some (false, ()))
 (Option.bind (impl_IsFlash_4_loop (((), (0 : Int), ()), (a0, ()))) (Sum.elim (fun y28 => (some (true, ()))) (fun z29 => (some (z29.1.1, ())))))))

noncomputable def impl_ActivePage_5_R (t1 : Unit) (t3 : Int) (t11 : (List (List Int))) (t12 : Int) (t13 : Int) (b1 : TFlash) : Option (((Unit × (Int × ((List (List Int)) × TCombo))) × (TFlash × Unit)) ⊕ (((Int × Unit) × Unit) ⊕ (Unit × Unit))) :=
 (cond (decide (t13 < t12))
 (Option.bind (idx t11 t13) fun x14 =>
 (Option.bind (idx x14 (0 : Int)) fun x15 =>
 (cond (decide (x15 ≥ (1 : Int)))
 (Option.bind (idx x14 (0 : Int)) fun x16 =>
 (cond (decide (x16 ≤ (60000 : Int)))
 (cond (decide (t3 < (0 : Int)))
 (some (.inl (((), t13, t11, t12, (Go.IntKind.wrap .i64 (t13 + (1 : Int))), ()), (b1, ()))))
 (Option.bind (idx x14 (0 : Int)) fun x17 =>
 (Option.bind (idx b1.1 t3) fun x18 =>
 (Option.bind (idx x18 (0 : Int)) fun x19 =>
 (cond (decide (x17 > x19))
 (some (.inl (((), t13, t11, t12, (Go.IntKind.wrap .i64 (t13 + (1 : Int))), ()), (b1, ()))))
 (some (.inl (((), t3, t11, t12, (Go.IntKind.wrap .i64 (t13 + (1 : Int))), ()), (b1, ())))))))))
 (some (.inl (((), t3, t11, t12, (Go.IntKind.wrap .i64 (t13 + (1 : Int))), ()), (b1, ()))))))
 (some (.inl (((), t3, t11, t12, (Go.IntKind.wrap .i64 (t13 + (1 : Int))), ()), (b1, ())))))))
 (some (.inr (.inl ((t3, ()), ())))))
noncomputable def impl_ActivePage_5_loop (x : ((Unit × (Int × ((List (List Int)) × TCombo))) × (TFlash × Unit))) : Option (((Int × Unit) × Unit) ⊕ (Unit × Unit)) := loopF (fun x : ((Unit × (Int × ((List (List Int)) × TCombo))) × (TFlash × Unit)) => impl_ActivePage_5_R x.1.1 x.1.2.1 x.1.2.2.1 x.1.2.2.2.1 x.1.2.2.2.2.1 x.2.1) x
noncomputable def impl_ActivePage (a0 : TFlash) : Option (Int × Unit) :=
 (Option.bind (impl_IsFlash a0) fun r1 =>
 (cond (!r1.1)
 (some ((-1 : Int), ()))
 (Option.bind (impl_ActivePage_5_loop (((), (-1 : Int), a0.1, ((List.length a0.1 : Nat) : Int), (0 : Int), ()), (a0, ()))) (Sum.elim (fun y20 => (some (y20.1.1, ()))) (fun z21 => none)))))

noncomputable def impl_isSetting (a0 : Int) (a1 : Int) : Option (Bool × Unit) :=
 (cond (decide (a0 ≥ (0 : Int)))
 (cond (decide (a0 < (4 : Int)))
 (cond (decide (a1 ≥ (0 : Int)))
 (some ((decide (a1 ≤ (9999 : Int))), ()))
 (some (false, ())))
 (some (false, ())))
 (some (false, ())))

noncomputable def impl_CheckOf (a0 : Int) (a1 : Int) (a2 : Int) : Option (Int × Unit) :=
 (Option.bind (impl_isSetting a0 a1) fun r1 =>
 (cond (!r1.1)
 (some ((65535 : Int), ()))
 (cond (decide (a2 < (1 : Int)))
 (some ((65535 : Int), ()))
 (cond (decide (a2 > (60000 : Int)))
 (some ((65535 : Int), ()))
 (cond ((60000 : Int) == (0 : Int))
 none
 (some ((Int.tmod (Go.IntKind.wrap .i64 ((Go.IntKind.wrap .i64 ((Go.IntKind.wrap .i64 ((Go.IntKind.wrap .i64 ((7 : Int) * a0)) + (Go.IntKind.wrap .i64 ((13 : Int) * a1)))) + (Go.IntKind.wrap .i64 ((31 : Int) * a2)))) + (5 : Int))) (60000 : Int)), ())))))))

noncomputable def impl_ReadSetting_6_R (t1 : Int) (t7 : (List Int)) (t8 : Int) : Option (((Int × ((List Int) × (Int × Unit))) × Unit) ⊕ ((Unit × Unit) ⊕ ((Int × (Bool × Unit)) × Unit))) :=
 (cond (decide (t8 ≥ (0 : Int)))
 (cond (cutOk (List.length t7) (Go.IntKind.wrap .i64 ((1 : Int) + (Go.IntKind.wrap .i64 ((3 : Int) * t8)))) (Go.IntKind.wrap .i64 ((4 : Int) + (Go.IntKind.wrap .i64 ((3 : Int) * t8)))))
 (Option.bind (idx (cutl t7 (Int.toNat (Go.IntKind.wrap .i64 ((1 : Int) + (Go.IntKind.wrap .i64 ((3 : Int) * t8))))) (Int.toNat (Go.IntKind.wrap .i64 ((4 : Int) + (Go.IntKind.wrap .i64 ((3 : Int) * t8)))))) (0 : Int)) fun x23 =>
 (Option.bind (idx (cutl t7 (Int.toNat (Go.IntKind.wrap .i64 ((1 : Int) + (Go.IntKind.wrap .i64 ((3 : Int) * t8))))) (Int.toNat (Go.IntKind.wrap .i64 ((4 : Int) + (Go.IntKind.wrap .i64 ((3 : Int) * t8)))))) (1 : Int)) fun x24 =>
 (Option.bind (impl_isSetting x23 x24) fun r25 =>
 (cond r25.1
 (Option.bind (idx (cutl t7 (Int.toNat (Go.IntKind.wrap .i64 ((1 : Int) + (Go.IntKind.wrap .i64 ((3 : Int) * t8))))) (Int.toNat (Go.IntKind.wrap .i64 ((4 : Int) + (Go.IntKind.wrap .i64 ((3 : Int) * t8)))))) (0 : Int)) fun x26 =>
 (cond (x26 == t1)
 (Option.bind (idx (cutl t7 (Int.toNat (Go.IntKind.wrap .i64 ((1 : Int) + (Go.IntKind.wrap .i64 ((3 : Int) * t8))))) (Int.toNat (Go.IntKind.wrap .i64 ((4 : Int) + (Go.IntKind.wrap .i64 ((3 : Int) * t8)))))) (2 : Int)) fun x27 =>
 (Option.bind (idx (cutl t7 (Int.toNat (Go.IntKind.wrap .i64 ((1 : Int) + (Go.IntKind.wrap .i64 ((3 : Int) * t8))))) (Int.toNat (Go.IntKind.wrap .i64 ((4 : Int) + (Go.IntKind.wrap .i64 ((3 : Int) * t8)))))) (0 : Int)) fun x28 =>
 (Option.bind (idx (cutl t7 (Int.toNat (Go.IntKind.wrap .i64 ((1 : Int) + (Go.IntKind.wrap .i64 ((3 : Int) * t8))))) (Int.toNat (Go.IntKind.wrap .i64 ((4 : Int) + (Go.IntKind.wrap .i64 ((3 : Int) * t8)))))) (1 : Int)) fun x29 =>
 (Option.bind (idx t7 (0 : Int)) fun x30 =>
 (Option.bind (impl_CheckOf x28 x29 x30) fun r31 =>
 (cond (x27 == r31.1)
 (Option.bind (idx (cutl t7 (Int.toNat (Go.IntKind.wrap .i64 ((1 : Int) + (Go.IntKind.wrap .i64 ((3 : Int) * t8))))) (Int.toNat (Go.IntKind.wrap .i64 ((4 : Int) + (Go.IntKind.wrap .i64 ((3 : Int) * t8)))))) (1 : Int)) fun x32 =>
 (some (.inr (.inr ((x32, true, ()), ())))))
 (some (.inl ((t1, t7, (Go.IntKind.wrap .i64 (t8 - (1 : Int))), ()), ())))))))))
 (some (.inl ((t1, t7, (Go.IntKind.wrap .i64 (t8 - (1 : Int))), ()), ())))))
 (some (.inl ((t1, t7, (Go.IntKind.wrap .i64 (t8 - (1 : Int))), ()), ())))))))
 none)
 (some (.inr (.inl ((), ())))))
noncomputable def impl_ReadSetting_6_loop (x : ((Int × ((List Int) × (Int × Unit))) × Unit)) : Option ((Unit × Unit) ⊕ ((Int × (Bool × Unit)) × Unit)) := loopF (fun x : ((Int × ((List Int) × (Int × Unit))) × Unit) => impl_ReadSetting_6_R x.1.1 x.1.2.1 x.1.2.2.1) x
noncomputable def impl_ReadSetting (a0 : TFlash) (a1 : Int) : Option (Int × (Bool × Unit)) :=
 (Option.bind (impl_ActivePage a0) fun r1 =>
 (cond (decide (r1.1 < (0 : Int)))
 (some ((0 : Int), false, ()))
 (Option.bind (idx a0.1 r1.1) fun x2 =>
 (Option.bind (impl_ReadSetting_6_loop ((a1, x2, (5 : Int), ()), ())) (Sum.elim (fun y33 => (some ((0 : Int), false, ()))) (fun z34 => (some (z34.1.1, z34.1.2.1, ()))))))))

noncomputable def impl_StartTiming (a0 : TFlash) : Option (TStep × Unit) :=
 (Option.bind (impl_ReadSetting a0 (0 : Int)) fun r1 =>
 (cond r1.2.1
 (cond (decide (r1.1 ≥ (1 : Int)))
 (cond (decide (r1.1 ≤ (1000 : Int)))
 (Option.bind (impl_ReadSetting a0 (1 : Int)) fun r2 =>
 (cond r2.2.1
 (cond (decide (r2.1 ≤ (1000 : Int)))
 (Option.bind (impl_ReadSetting a0 (2 : Int)) fun r3 =>
 (cond r3.2.1
 (cond (decide (r3.1 ≤ (2 : Int)))
 (some ((r1.1, r2.1, r3.1, ()), ()))
 (some ((r1.1, r2.1, (0 : Int), ()), ())))
 (some ((r1.1, r2.1, (0 : Int), ()), ()))))
 (Option.bind (impl_ReadSetting a0 (2 : Int)) fun r4 =>
 (cond r4.2.1
 (cond (decide (r4.1 ≤ (2 : Int)))
 (some ((r1.1, (100 : Int), r4.1, ()), ()))
 (some ((r1.1, (100 : Int), (0 : Int), ()), ())))
 (some ((r1.1, (100 : Int), (0 : Int), ()), ())))))
 (Option.bind (impl_ReadSetting a0 (2 : Int)) fun r5 =>
 (cond r5.2.1
 (cond (decide (r5.1 ≤ (2 : Int)))
 (some ((r1.1, (100 : Int), r5.1, ()), ()))
 (some ((r1.1, (100 : Int), (0 : Int), ()), ())))
 (some ((r1.1, (100 : Int), (0 : Int), ()), ()))))))
 (Option.bind (impl_ReadSetting a0 (1 : Int)) fun r6 =>
 (cond r6.2.1
 (cond (decide (r6.1 ≤ (1000 : Int)))
 (Option.bind (impl_ReadSetting a0 (2 : Int)) fun r7 =>
 (cond r7.2.1
 (cond (decide (r7.1 ≤ (2 : Int)))
 (some (((200 : Int), r6.1, r7.1, ()), ()))
 (some (((200 : Int), r6.1, (0 : Int), ()), ())))
 (some (((200 : Int), r6.1, (0 : Int), ()), ()))))
 (Option.bind (impl_ReadSetting a0 (2 : Int)) fun r8 =>
 (cond r8.2.1
 (cond (decide (r8.1 ≤ (2 : Int)))
 (some (((200 : Int), (100 : Int), r8.1, ()), ()))
 (some (((200 : Int), (100 : Int), (0 : Int), ()), ())))
 (some (((200 : Int), (100 : Int), (0 : Int), ()), ())))))
 (Option.bind (impl_ReadSetting a0 (2 : Int)) fun r9 =>
 (cond r9.2.1
 (cond (decide (r9.1 ≤ (2 : Int)))
 (some (((200 : Int), (100 : Int), r9.1, ()), ()))
 (some (((200 : Int), (100 : Int), (0 : Int), ()), ())))
 (some (((200 : Int), (100 : Int), (0 : Int), ()), ())))))))
 (Option.bind (impl_ReadSetting a0 (1 : Int)) fun r10 =>
 (cond r10.2.1
 (cond (decide (r10.1 ≤ (1000 : Int)))
 (Option.bind (impl_ReadSetting a0 (2 : Int)) fun r11 =>
 (cond r11.2.1
 (cond (decide (r11.1 ≤ (2 : Int)))
 (some (((200 : Int), r10.1, r11.1, ()), ()))
 (some (((200 : Int), r10.1, (0 : Int), ()), ())))
 (some (((200 : Int), r10.1, (0 : Int), ()), ()))))
 (Option.bind (impl_ReadSetting a0 (2 : Int)) fun r12 =>
 (cond r12.2.1
 (cond (decide (r12.1 ≤ (2 : Int)))
 (some (((200 : Int), (100 : Int), r12.1, ()), ()))
 (some (((200 : Int), (100 : Int), (0 : Int), ()), ())))
 (some (((200 : Int), (100 : Int), (0 : Int), ()), ())))))
 (Option.bind (impl_ReadSetting a0 (2 : Int)) fun r13 =>
 (cond r13.2.1
 (cond (decide (r13.1 ≤ (2 : Int)))
 (some (((200 : Int), (100 : Int), r13.1, ()), ()))
 (some (((200 : Int), (100 : Int), (0 : Int), ()), ())))
 (some (((200 : Int), (100 : Int), (0 : Int), ()), ())))))))
 (Option.bind (impl_ReadSetting a0 (1 : Int)) fun r14 =>
 (cond r14.2.1
 (cond (decide (r14.1 ≤ (1000 : Int)))
 (Option.bind (impl_ReadSetting a0 (2 : Int)) fun r15 =>
 (cond r15.2.1
 (cond (decide (r15.1 ≤ (2 : Int)))
 (some (((200 : Int), r14.1, r15.1, ()), ()))
 (some (((200 : Int), r14.1, (0 : Int), ()), ())))
 (some (((200 : Int), r14.1, (0 : Int), ()), ()))))
 (Option.bind (impl_ReadSetting a0 (2 : Int)) fun r16 =>
 (cond r16.2.1
 (cond (decide (r16.1 ≤ (2 : Int)))
 (some (((200 : Int), (100 : Int), r16.1, ()), ()))
 (some (((200 : Int), (100 : Int), (0 : Int), ()), ())))
 (some (((200 : Int), (100 : Int), (0 : Int), ()), ())))))
 (Option.bind (impl_ReadSetting a0 (2 : Int)) fun r17 =>
 (cond r17.2.1
 (cond (decide (r17.1 ≤ (2 : Int)))
 (some (((200 : Int), (100 : Int), r17.1, ()), ()))
 (some (((200 : Int), (100 : Int), (0 : Int), ()), ())))
 (some (((200 : Int), (100 : Int), (0 : Int), ()), ()))))))))

noncomputable def laws_eqTiming (a0 : TStep) (a1 : TStep) : Option (Bool × Unit) :=
 (cond (a0.1 != a1.1)
 (some (false, ()))
 (cond (a0.2.1 != a1.2.1)
 (some (false, ()))
 (cond (a0.2.2.1 != a1.2.2.1)
 (some (false, ()))
 (some (true, ())))))

noncomputable def laws_eqIntSS_4_R (t0 : (List (List Int))) (t1 : (List (List Int))) (t5 : Int) : Option ((((List (List Int)) × ((List (List Int)) × (Int × Unit))) × Unit) ⊕ ((Unit × Unit) ⊕ ((Bool × Unit) × Unit))) :=
 (cond (decide (t5 < ((List.length t0 : Nat) : Int)))
 (Option.bind (idx t0 t5) fun x7 =>
 (Option.bind (idx t1 t5) fun x8 =>
 (Option.bind (laws_eqIntS x7 x8) fun r9 =>
 (cond (!r9.1)
 (some (.inr (.inr ((false, ()), ()))))
 (some (.inl ((t0, t1, (Go.IntKind.wrap .i64 (t5 + (1 : Int))), ()), ())))))))
 (some (.inr (.inl ((), ())))))
noncomputable def laws_eqIntSS_4_loop (x : (((List (List Int)) × ((List (List Int)) × (Int × Unit))) × Unit)) : Option ((Unit × Unit) ⊕ ((Bool × Unit) × Unit)) := loopF (fun x : (((List (List Int)) × ((List (List Int)) × (Int × Unit))) × Unit) => laws_eqIntSS_4_R x.1.1 x.1.2.1 x.1.2.2.1) x
noncomputable def laws_eqIntSS (a0 : (List (List Int))) (a1 : (List (List Int))) : Option (Bool × Unit) :=
 (cond (((List.length a0 : Nat) : Int) != ((List.length a1 : Nat) : Int))
 (some (false, ()))
 (Option.bind (laws_eqIntSS_4_loop ((a0, a1, (0 : Int), ()), ())) (Sum.elim (fun y10 => (some (true, ()))) (fun z11 => (some (z11.1.1, ()))))))

noncomputable def laws_eqFlash (a0 : TFlash) (a1 : TFlash) : Option (Bool × Unit) :=
 (Option.bind (laws_eqIntSS a0.1 a1.1) fun r1 =>
 (cond (!r1.1)
 (some (false, ()))
 (Option.bind (laws_eqIntS a0.2.1 a1.2.1) fun r2 =>
 (cond (!r2.1)
 (some (false, ()))
 (some (true, ()))))))

noncomputable def laws_FnExactStartTiming (a0 : TFlash) : Option (Bool × Unit) :=
 (Option.bind (laws_szFlash a0 (1048576 : Int)) fun r1 =>
 (cond (decide (r1.1 < (0 : Int)))
 (some (true, ()))
 (Option.bind (laws_toFlash a0) fun r2 =>
 (Option.bind (spec_StartTiming r2.1) fun r3 =>
 (Option.bind (laws_toFlash a0) fun r4 =>
 (Option.bind (impl_StartTiming r4.1) fun r5 =>
 (Option.bind (laws_eqTiming r5.1 r3.1) fun r6 =>
 (cond (!r6.1)
 (some (false, ()))
 (Option.bind (laws_toFlash a0) fun r7 =>
 (Option.bind (laws_eqFlash r4.1 r7.1) fun r8 =>
 (cond (!r8.1)
 (some (false, ()))
 (some (true, ())))))))))))))
end KF
