/- An evaluator of Go functions on plain data, its soundness, and plain laws on what the functions compute, part 4 (conditions: as each lemma tells). -/
import Derived.Test.YtoncbegnhhcgmaaGreatC
set_option linter.unusedSimpArgs false
set_option linter.unusedVariables false
namespace KF
open Go
open List renaming length → ja, getElem?_eq_getElem → je, append → jf, mem_append → jl, mem_cons → jp, mem_cons_of_mem → jr, length_cons → jw, set → j6, length_nil → j8, length_set → j9, mem_singleton → qe, length_append → qf, getElem?_append_left → qh, getElem?_append_right → qi, getD_eq_getElem?_getD → qj, getElem_mem → qr, mem_of_mem_drop → qs, getElem_of_mem → qt, mem_map → qu, getElem?_set_self → qv, length_drop → qw, mem_cons_self → qy
open Option renaming bind_some → jb, bind → jz, map_some → qd, bind_eq_some_iff → qg
open Option.some renaming injEq → jc
open Bool renaming and_eq_true → jd, not_true → jg, true_and → jk, false_eq_true → jq, not_false → qa, not_eq_true → qb, false_and → qp, eq_iff_iff → qx
open Prod.mk renaming injEq → jh
open Nat renaming ble_eq_true_of_le → ji, mul_le_mul_right → jm, le_refl → jo, zero_add → js, add_assoc → jt, eq_of_beq_eq_true → ju, ble → jx, le_trans → qc, lt_of_lt_of_le → ql, pow_le_pow_right → qm, testBit_xor → qn, testBit_two_pow → qo, xor_lt_two_pow → qq
open Int renaming toNat_natCast → jn, eq_ofNat_of_zero_le → jv, toNat → jy
open Go.IntKind renaming wrap → j5
open Sum renaming elim → j7, elim_inl → qk
open Result renaming andThen_ok → qz
open Sem renaming run_bind → q0
abbrev int : Ty := .i .i64
abbrev Pa8 : Ty := .i .u8
abbrev Sb : Ty := (.p int (.p int .u))
abbrev Va : Type := (Int × (Int × Unit))
abbrev Ac : Ty := (.p int (.p (.sl int) .u))
abbrev Ha : Type := (Int × ((List Int) × Unit))
abbrev Za : Ty := (.p int (.p int (.p .b .u)))
abbrev Ca : Type := (Int × (Int × (Bool × Unit)))
abbrev Yb : Ty := (.p int Sb)
abbrev Sc : Type := (Int × Va)
abbrev Qb : Ty := (.p int Yb)
abbrev Bb : Type := (Int × Sc)
abbrev Wh : Ty := (.p int (.p Ac .u))
abbrev Pe : Type := (Int × (Ha × Unit))
abbrev Xe : Ty := (.p int (.p Qb .u))
abbrev Pa : Type := (Int × (Bb × Unit))
abbrev Lb : Ty := (.p int (.p int (.p int (.p int Ac))))
abbrev Ob : Type := (Int × (Int × (Int × (Int × Ha))))
abbrev Vb : Ty := (.p int (.p (.sl (.sl Qb)) .u))
abbrev Tb : Type := (Int × ((List (List Bb)) × Unit))
abbrev Cas : Ty := (.p Za (.p Za .u))
abbrev Nb : Ty := (.p (.sl Sb) (.p int (.p (.sl Za) (.p int (.p int (.p int (.p (.sl Za) .u)))))))
abbrev Oa : Type := ((List Va) × (Int × ((List Ca) × (Int × (Int × (Int × ((List Ca) × Unit)))))))
abbrev Xb : Ty := (.p Vb (.p (.sl (.sl Yb)) (.p int (.p (.sl Xe) (.p int (.p .b .u))))))
abbrev Gb : Type := (Tb × ((List (List Sc)) × (Int × ((List Pa) × (Int × (Bool × Unit))))))
abbrev Dc : Ty := (.p Xb (.p Yb (.p (.sl Za) Qb)))
abbrev Hb : Type := (Gb × (Sc × ((List Ca) × Bb)))
abbrev Jc : Ty := (.p Za (.p Lb (.p Nb (.p Dc Sb))))
abbrev Bc : Type := (Ca × (Ob × (Oa × (Hb × Va))))
abbrev Zd : Type := Ca
abbrev CL : Type := Sc
def Lab : List UInt8 := [0, 1, 1, 2, 1, 2, 2, 3, 1, 2, 2, 3, 2, 3, 3, 4, 1, 2, 2, 3, 2, 3, 3, 4, 2, 3, 3, 4, 3, 4, 4, 5, 1, 2, 2, 3, 2, 3, 3, 4, 2, 3, 3, 4, 3, 4, 4, 5, 2, 3, 3, 4, 3, 4, 4, 5, 3, 4, 4, 5, 4, 5, 5, 6, 1, 2, 2, 3, 2, 3, 3, 4, 2, 3, 3, 4, 3, 4, 4, 5, 2, 3, 3, 4, 3, 4, 4, 5, 3, 4, 4, 5, 4, 5, 5, 6, 2, 3, 3, 4, 3, 4, 4, 5, 3, 4, 4, 5, 4, 5, 5, 6, 3, 4, 4, 5, 4, 5, 5, 6, 4, 5, 5, 6, 5, 6, 6, 7, 1, 2, 2, 3, 2, 3, 3, 4, 2, 3, 3, 4, 3, 4, 4, 5, 2, 3, 3, 4, 3, 4, 4, 5, 3, 4, 4, 5, 4, 5, 5, 6, 2, 3, 3, 4, 3, 4, 4, 5, 3, 4, 4, 5, 4, 5, 5, 6, 3, 4, 4, 5, 4, 5, 5, 6, 4, 5, 5, 6, 5, 6, 6, 7, 2, 3, 3, 4, 3, 4, 4, 5, 3, 4, 4, 5, 4, 5, 5, 6, 3, 4, 4, 5, 4, 5, 5, 6, 4, 5, 5, 6, 5, 6, 6, 7, 3, 4, 4, 5, 4, 5, 5, 6, 4, 5, 5, 6, 5, 6, 6, 7, 4, 5, 5, 6, 5, 6, 6, 7, 5, 6, 6, 7, 6, 7, 7, 8]
noncomputable section
open Option renaming bind → ob
open Go.IntKind renaming wrap → wr
open Int renaming toNat → tn
open List renaming length → ln, append → ap, set → ls
open Sum renaming elim → se
open Nat renaming ble → bl
abbrev Oc : Type := Int × Unit
abbrev Vc : Type := Bool × Unit
abbrev De : Type := Unit × Unit
abbrev Qd : Type := List Ca
abbrev Te : Type := List Int
abbrev Xd : Type := List Va
abbrev Zk : Type := List Bb
abbrev Vd : Type := List Pa
abbrev Eh : Type := List Sc
abbrev Ck : Type := List Ha
abbrev As : Type := Tb × Unit
abbrev Cg : Type := List Pe
abbrev Dh : Type := Ca × Unit
abbrev WC : Type := Oa × Unit
abbrev Hl : Type := Gb × Unit
abbrev HY : Type := Oc × Unit
abbrev Mj : Type := Unit × Oc
abbrev Ri : Type := List Zk
abbrev DG : Type := Te × Va
abbrev Vp : Type := Xd × Va
abbrev Jh : Type := List Eh
abbrev Cv : Type := Unit × Va
abbrev Nap : Type := Qd × Va
abbrev Dv : Type := Bc × Unit
abbrev IY : Type := Vd × Va
abbrev LO : Type := Ob × Unit
abbrev XC : Type := Qd × Unit
abbrev FM : Type := Ha × Unit
abbrev ZA : Type := Ha × FM
abbrev Oap : Type := (Vd × (Unit × (Unit × (Te × (Int × (Bool × Oc)))))) × ZA
abbrev MO : Type := Te × Unit
abbrev Il : Type := Vc × Unit
abbrev Qk : Type := De ⊕ Il
abbrev QT : Type := (Vd × (Unit × Mj)) × ZA
abbrev UI : Type := Ri × Va
abbrev YC : Type := HY ⊕ De
abbrev NO : Type := Hb × Unit
abbrev PO : Type := Unit × Sc
abbrev Qaa : Type := (Int × (Int × Mj)) × As
abbrev KaD : Type := Int × (Int × (Zk × Va))
abbrev JY : Type := Unit × (Cg × Unit)
abbrev Ev : Type := Int × Vc
abbrev RT : Type := Ck × Unit
abbrev EG : Type := HY ⊕ HY
abbrev NQ : Type := (Int × IY) × Unit
abbrev VI : Type := Va × Unit
abbrev ZC : Type := Sc × Unit
abbrev Dz : Type := Int × Nap
abbrev WI : Type := Bb × Unit
abbrev GM : Type := Jh × Va
abbrev Raa : Type := (Cg × Va) × Unit
abbrev Pap : Type := Gb × Hl
abbrev KY : Type := (Unit × XC) × WC
abbrev V3 : Type := Te × Oc
abbrev LY : Type := Unit × (Unit × Mj)
abbrev XI : Type := Qd × Oc
abbrev MQ : Type := (Qd × XI) × Unit
abbrev Saa : Type := Ob × (Ob × LO)
abbrev Qap : Type := Ck × Vc
abbrev HM : Type := Vp × Unit
abbrev Taa : Type := (Ri × (Ri × Oc)) × Unit
abbrev Uaa : Type := (Jh × (Jh × Oc)) × Unit
abbrev ST : Type := De ⊕ HY
abbrev Rap : Type := (Unit × (Unit × XC)) × (Oa × WC)
abbrev Vaa : Type := (Xd × (Xd × Oc)) × Unit
abbrev Waa : Type := (Zk × (Zk × Oc)) × Unit
abbrev Xaa : Type := (Vd × (Vd × Oc)) × Unit
abbrev Yaa : Type := (Eh × (Eh × Oc)) × Unit
abbrev Sap : Type := (RT × Unit) ⊕ De
abbrev TT : Type := Unit × DG
abbrev LaD : Type := (Xd × (Int × (Int × (Unit × (Int × (Int × (Int × (Bool × Nap)))))))) × Dh
abbrev Tap : Type := ((Unit × (Unit × MO)) × ZA) ⊕ De
abbrev OQ : Type := Cv × WC
abbrev PQ : Type := Eh × Va
abbrev QQ : Type := Cg × Vc
abbrev RQ : Type := Nap × Unit
abbrev SQ : Type := IY × Unit
abbrev MaD : Type := Oap ⊕ (((Vd × (Unit × (Unit × (Te × Ev)))) × ZA) ⊕ De)
abbrev Uap : Type := (Unit × JY) × (Hb × NO)
abbrev MY : Type := Tb × As
abbrev TQ : Type := Unit × De
abbrev NaD : Type := (Unit × (Unit × (Int × (Unit × XI)))) × (Bc × (Bc × LO))
abbrev Vap : Type := (Unit × (Te × Bb)) × Dh
abbrev Zaa : Type := (Zk × Va) × Unit
abbrev NY : Type := Bc × Dv
abbrev Aab : Type := Unit × Bb
abbrev Bab : Type := (Te × DG) × Unit
abbrev Cab : Type := (Te × V3) × Unit
abbrev OaD : Type := (Unit × (Cg × (Int × ((Ck × Int) × Oc)))) × NO
abbrev PaD : Type := (Unit × (Te × (Int × (Int × (Int × Bb))))) × Dh
abbrev QaD : Type := (Xd × (Unit × (Xd × (Int × (Int × Vp))))) × VI
abbrev Dab : Type := (Xd × Oc) × Unit
def Cc (a0 : Int) (a1 : Int) (a2 : Int) : Option Vc :=
 (cond (decide (a0 ≥ a1))
 (some ((decide (a0 ≤ a2)), ()))
 (some (false, ())))
def SM (a0 : Te) (a1 : Int) : Option Oc :=
 (cond (decide ((wr .i64 (a1 - ((ln a0 : Nat) : Int))) < 0))
 (some ((-1), ()))
 (some ((wr .i64 (a1 - ((ln a0 : Nat) : Int))), ())))
def FA (t0 : Te) (t3 : Te) (t4 : Int) : Option (Cab ⊕ ((MO × Unit) ⊕ De)) :=
 (cond (decide (t4 < ((ln t0 : Nat) : Int)))
 (ob (Ab t0 t4) fun x5 =>
 (cond (Af (ln t3) t4)
 (ob t3[(tn t4)]? fun x6 =>
 (some (.inl ((t0, (ls t3 (tn t4) x5), (wr .i64 (t4 + 1)), ()), ()))))
 none))
 (some (.inr (.inl ((t3, ()), ())))))
def DC := Ua fun x : Cab => FA x.1.1 x.1.2.1 x.1.2.2.1
def Jn (a0 : Te) : Option MO :=
 (cond ((((ln a0 : Nat) : Int) == ((ln a0 : Nat) : Int)) && (decide (0 ≤ ((ln a0 : Nat) : Int)) && decide (((ln a0 : Nat) : Int) ≤ ((Sa : Nat) : Int))))
 (ob (DC ((a0, (List.replicate (tn ((ln a0 : Nat) : Int)) 0), 0, ()), ())) (se (fun y7 => (some (y7.1.1, ()))) (fun z8 => none)))
 none)
def YM (a0 : Ha) : Option FM :=
 (cond (bl (ln ([] : List Int) + ln a0.2.1) Sa)
 (some ((a0.1, (ap [] a0.2.1), ()), ()))
 none)
def Pp (a0 : Te) : Option MO :=
 (cond (bl (ln ([] : List Int) + ln a0) Sa)
 (some ((ap [] a0), ()))
 none)
def Vz (t0 : Te) (t1 : Te) (t5 : Int) : Option (Cab ⊕ Qk) :=
 (cond (decide (t5 < ((ln t0 : Nat) : Int)))
 (ob (Ab t0 t5) fun x5 =>
 (ob (Ab t1 t5) fun x6 =>
 (cond (x5 != x6)
 (some (.inr (.inr ((false, ()), ()))))
 (some (.inl ((t0, t1, (wr .i64 (t5 + 1)), ()), ()))))))
 (some (.inr (.inl ((), ())))))
def WB := Ua fun x : Cab => Vz x.1.1 x.1.2.1 x.1.2.2.1
def Ky (a0 : Te) (a1 : Te) : Option Vc :=
 (cond (((ln a0 : Nat) : Int) != ((ln a1 : Nat) : Int))
 (some (false, ()))
 (ob (WB ((a0, a1, 0, ()), ())) (se (fun y7 => (some (true, ()))) (fun z8 => (some (z8.1.1, ()))))))
def PG (a0 : Ha) (a1 : Ha) : Option Vc :=
 (cond (a0.1 != a1.1)
 (some (false, ()))
 (ob (Ky a0.2.1 a1.2.1) fun r1 =>
 (cond (!r1.1)
 (some (false, ()))
 (some (true, ())))))
def IF (a0 : Pe) (a1 : Pe) : Option Vc :=
 (cond (a0.1 != a1.1)
 (some (false, ()))
 (ob (PG a0.2.1 a1.2.1) fun r1 =>
 (cond (!r1.1)
 (some (false, ()))
 (some (true, ())))))
def M2 (t0 : Cg) (t1 : Cg) (t5 : Int) : Option (((Cg × (Cg × Oc)) × Unit) ⊕ Qk) :=
 (cond (decide (t5 < ((ln t0 : Nat) : Int)))
 (ob (Ab t0 t5) fun x7 =>
 (ob (Ab t1 t5) fun x8 =>
 (ob (IF x7 x8) fun r9 =>
 (cond (!r9.1)
 (some (.inr (.inr ((false, ()), ()))))
 (some (.inl ((t0, t1, (wr .i64 (t5 + 1)), ()), ())))))))
 (some (.inr (.inl ((), ())))))
def TK := Ua fun x : ((Cg × (Cg × Oc)) × Unit) => M2 x.1.1 x.1.2.1 x.1.2.2.1
def Eu (a0 : Cg) (a1 : Cg) : Option Vc :=
 (cond (((ln a0 : Nat) : Int) != ((ln a1 : Nat) : Int))
 (some (false, ()))
 (ob (TK ((a0, a1, 0, ()), ())) (se (fun y10 => (some (true, ()))) (fun z11 => (some (z11.1.1, ()))))))
def Us (t0 : Te) (t1 : Int) (t5 : Int) : Option ((DG × Unit) ⊕ ((V3 × Unit) ⊕ De)) :=
 (cond (decide (t5 < ((ln t0 : Nat) : Int)))
 (cond (Af (ln t0) t5)
 (ob t0[(tn t5)]? fun x3 =>
 (some (.inl (((ls t0 (tn t5) t1), (wr .i64 (t1 + 1)), (wr .i64 (t5 + 1)), ()), ()))))
 none)
 (some (.inr (.inl ((t0, t1, ()), ())))))
def UJ := Ua fun x : (DG × Unit) => Us x.1.1 x.1.2.1 x.1.2.2.1
def Rx (a0 : Te) (a1 : Int) : Option V3 :=
 (ob (UJ ((a0, a1, 0, ()), ())) (se (fun y4 => (some (y4.1.1, (y4.1.2.1, ())))) (fun z5 => none)))
def Pq (t0 : Cg) (t1 : Int) (t5 : Int) : Option (Raa ⊕ (((Cg × Oc) × Unit) ⊕ De)) :=
 (cond (decide (t5 < ((ln t0 : Nat) : Int)))
 (cond (Af (ln t0) t5)
 (ob t0[(tn t5)]? fun x9 =>
 (cond (Af (ln (ls t0 (tn t5) (t1, x9.2))) t5)
 (ob (ls t0 (tn t5) (t1, x9.2))[(tn t5)]? fun x10 =>
 (cond (Af (ln (ls (ls t0 (tn t5) (t1, x9.2)) (tn t5) (x10.1, ((wr .i64 (t1 + 1)), x10.2.1.2), x10.2.2))) t5)
 (ob (ls (ls t0 (tn t5) (t1, x9.2)) (tn t5) (x10.1, ((wr .i64 (t1 + 1)), x10.2.1.2), x10.2.2))[(tn t5)]? fun x11 =>
 (ob (Rx x11.2.1.2.1 (wr .i64 ((wr .i64 (t1 + 1)) + 1))) fun r12 =>
 (some (.inl (((ls (ls (ls t0 (tn t5) (t1, x9.2)) (tn t5) (x10.1, ((wr .i64 (t1 + 1)), x10.2.1.2), x10.2.2)) (tn t5) (x11.1, (x11.2.1.1, r12.1, x11.2.1.2.2), x11.2.2)), r12.2.1, (wr .i64 (t5 + 1)), ()), ())))))
 none))
 none))
 none)
 (some (.inr (.inl ((t0, t1, ()), ())))))
def MI := Ua fun x : Raa => Pq x.1.1 x.1.2.1 x.1.2.2.1
def UL (a0 : Cg) (a1 : Int) : Option (Cg × Oc) :=
 (ob (MI ((a0, a1, 0, ()), ())) (se (fun y13 => (some (y13.1.1, (y13.1.2.1, ())))) (fun z14 => none)))
def Ss (t0 : Te) (t1 : Int) (t5 : Int) : Option ((DG × Unit) ⊕ EG) :=
 (cond (decide (t5 < ((ln t0 : Nat) : Int)))
 (ob (Ab t0 t5) fun x3 =>
 (cond (x3 != t1)
 (some (.inr (.inr (((-1), ()), ()))))
 (some (.inl ((t0, (wr .i64 (t1 + 1)), (wr .i64 (t5 + 1)), ()), ())))))
 (some (.inr (.inl ((t1, ()), ())))))
def RJ := Ua fun x : (DG × Unit) => Ss x.1.1 x.1.2.1 x.1.2.2.1
def SG (a0 : Te) (a1 : Int) : Option Oc :=
 (ob (RJ ((a0, a1, 0, ()), ())) (se (fun y4 => (some (y4.1.1, ()))) (fun z5 => (some (z5.1.1, ())))))
def Hu (a0 : Zk) (a1 : Int) : Option Oc :=
 (cond (decide ((wr .i64 (a1 - ((ln a0 : Nat) : Int))) < 0))
 (some ((-1), ()))
 (some ((wr .i64 (a1 - ((ln a0 : Nat) : Int))), ())))
def ZV (t0 : Ri) (t1 : Int) (t5 : Int) : Option ((UI × Unit) ⊕ EG) :=
 (cond (decide (t5 < ((ln t0 : Nat) : Int)))
 (ob (Ab t0 t5) fun x5 =>
 (ob (Hu x5 t1) fun r6 =>
 (cond (decide (r6.1 < 0))
 (some (.inr (.inr (((-1), ()), ()))))
 (some (.inl ((t0, r6.1, (wr .i64 (t5 + 1)), ()), ()))))))
 (some (.inr (.inl ((t1, ()), ())))))
def SF := Ua fun x : (UI × Unit) => ZV x.1.1 x.1.2.1 x.1.2.2.1
def CA (a0 : Ri) (a1 : Int) : Option Oc :=
 (cond (decide ((wr .i64 (a1 - ((ln a0 : Nat) : Int))) < 0))
 (some ((-1), ()))
 (ob (SF ((a0, (wr .i64 (a1 - ((ln a0 : Nat) : Int))), 0, ()), ())) (se (fun y7 => (some (y7.1.1, ()))) (fun z8 => (some (z8.1.1, ()))))))
def VG (a0 : Tb) (a1 : Int) : Option Oc :=
 (ob (CA a0.2.1 a1) fun r1 =>
 (cond (decide (r1.1 < 0))
 (some ((-1), ()))
 (some (r1.1, ()))))
def Rp (a0 : Bb) : Option WI :=
 (some (a0, ()))
def FX (t0 : Zk) (t3 : Zk) (t4 : Int) : Option (Waa ⊕ (((Zk × Unit) × Unit) ⊕ De)) :=
 (cond (decide (t4 < ((ln t0 : Nat) : Int)))
 (ob (Ab t0 t4) fun x7 =>
 (ob (Rp x7) fun r8 =>
 (cond (Af (ln t3) t4)
 (ob t3[(tn t4)]? fun x9 =>
 (some (.inl ((t0, (ls t3 (tn t4) r8.1), (wr .i64 (t4 + 1)), ()), ()))))
 none)))
 (some (.inr (.inl ((t3, ()), ())))))
def OI := Ua fun x : Waa => FX x.1.1 x.1.2.1 x.1.2.2.1
def PD (a0 : Zk) : Option (Zk × Unit) :=
 (cond ((((ln a0 : Nat) : Int) == ((ln a0 : Nat) : Int)) && (decide (0 ≤ ((ln a0 : Nat) : Int)) && decide (((ln a0 : Nat) : Int) ≤ ((Sa : Nat) : Int))))
 (ob (OI ((a0, (List.replicate (tn ((ln a0 : Nat) : Int)) (0, 0, 0, 0, ())), 0, ()), ())) (se (fun y10 => (some (y10.1.1, ()))) (fun z11 => none)))
 none)
def AW (t0 : Ri) (t3 : Ri) (t4 : Int) : Option (Taa ⊕ (((Ri × Unit) × Unit) ⊕ De)) :=
 (cond (decide (t4 < ((ln t0 : Nat) : Int)))
 (ob (Ab t0 t4) fun x7 =>
 (ob (PD x7) fun r8 =>
 (cond (Af (ln t3) t4)
 (ob t3[(tn t4)]? fun x9 =>
 (some (.inl ((t0, (ls t3 (tn t4) r8.1), (wr .i64 (t4 + 1)), ()), ()))))
 none)))
 (some (.inr (.inl ((t3, ()), ())))))
def TF := Ua fun x : Taa => AW x.1.1 x.1.2.1 x.1.2.2.1
def ZJ (a0 : Ri) : Option (Ri × Unit) :=
 (cond ((((ln a0 : Nat) : Int) == ((ln a0 : Nat) : Int)) && (decide (0 ≤ ((ln a0 : Nat) : Int)) && decide (((ln a0 : Nat) : Int) ≤ ((Sa : Nat) : Int))))
 (ob (TF ((a0, (List.replicate (tn ((ln a0 : Nat) : Int)) []), 0, ()), ())) (se (fun y10 => (some (y10.1.1, ()))) (fun z11 => none)))
 none)
def AH (a0 : Tb) : Option As :=
 (ob (ZJ a0.2.1) fun r1 =>
 (some ((a0.1, r1.1, ()), ())))
def Zj (a0 : Bb) : Option Vc :=
 (ob (Cc a0.2.1 1 56) fun r1 =>
 (ob (Cc a0.2.2.1 1 15) fun r2 =>
 (ob (Cc a0.2.2.2.1 1 3) fun r3 =>
 (cond (a0.1 == 0)
 (cond (a0.2.1 == 0)
 (cond (a0.2.2.1 == 0)
 (some ((a0.2.2.2.1 == 0), ()))
 (some (false, ())))
 (some (false, ())))
 (cond (a0.1 == 1)
 (cond (a0.2.1 == 0)
 (cond (a0.2.2.1 == 0)
 (some ((a0.2.2.2.1 == 0), ()))
 (some (false, ())))
 (some (false, ())))
 (cond (a0.1 == 10)
 (cond (a0.2.1 == 0)
 (cond (a0.2.2.1 == 0)
 (some ((a0.2.2.2.1 == 0), ()))
 (some (false, ())))
 (some (false, ())))
 (cond (a0.1 == 2)
 (cond (a0.2.2.2.1 == 0)
 (cond r1.1
 (cond r2.1
 (some (true, ()))
 (some ((a0.2.2.1 == 0), ())))
 (cond (a0.2.1 == 0)
 (cond r2.1
 (cond r2.1
 (some (true, ()))
 (some ((a0.2.2.1 == 0), ())))
 (some (false, ())))
 (some (false, ()))))
 (some (false, ())))
 (cond (a0.1 == 3)
 (cond r3.1
 (cond (a0.2.1 == 0)
 (some ((a0.2.2.1 == 0), ()))
 (some (false, ())))
 (some (false, ())))
 (cond (a0.1 == 4)
 (cond r3.1
 (cond (a0.2.1 == 0)
 (some ((a0.2.2.1 == 0), ()))
 (some (false, ())))
 (some (false, ())))
 (cond (a0.1 == 5)
 (ob (Cc a0.2.2.2.1 0 3) fun r4 =>
 (cond r4.1
 (cond (a0.2.1 == 0)
 (some ((a0.2.2.1 == 0), ()))
 (some (false, ())))
 (some (false, ()))))
 (cond (a0.1 == 9)
 (ob (Cc a0.2.2.2.1 0 3) fun r5 =>
 (cond r5.1
 (cond (a0.2.1 == 0)
 (some ((a0.2.2.1 == 0), ()))
 (some (false, ())))
 (some (false, ()))))
 (cond (a0.1 == 6)
 (cond r1.1
 (cond r2.1
 (some ((a0.2.2.2.1 == 0), ()))
 (some (false, ())))
 (some (false, ())))
 (cond (a0.1 == 7)
 (cond r1.1
 (cond r3.1
 (some ((a0.2.2.1 == 0), ()))
 (some (false, ())))
 (some (false, ())))
 (cond (a0.1 == 8)
 (cond r2.1
 (cond (a0.2.1 == 0)
 (some ((a0.2.2.2.1 == 0), ()))
 (some (false, ())))
 (some (false, ())))
 (some (false, ()))))))))))))))))
def UE (t1 : Unit) (t3 : Int) (t4 : Int) (b1 : Tb) : Option ((Cv × As) ⊕ ((Mj × As) ⊕ Il)) :=
 (ob (Ab b1.2.1 t3) fun x40 =>
 (cond (decide (t4 < ((ln x40 : Nat) : Int)))
 (ob (Ab b1.2.1 t3) fun x41 =>
 (ob (Ab x41 t4) fun x42 =>
 (ob (Zj x42) fun r43 =>
 (cond (!r43.1)
 (some (.inr (.inr ((false, ()), ()))))
 (cond (x42.1 == 1)
 (cond (t3 == 0)
 (some (.inr (.inr ((false, ()), ()))))
 (cond (x42.1 != 9)
 (cond (decide (x42.2.2.2.1 ≥ ((ln b1.2.1 : Nat) : Int)))
 (some (.inr (.inr ((false, ()), ()))))
 (some (.inl (((), t3, (wr .i64 (t4 + 1)), ()), (b1, ())))))
 (some (.inl (((), t3, (wr .i64 (t4 + 1)), ()), (b1, ()))))))
 (cond (x42.1 != 9)
 (cond (decide (x42.2.2.2.1 ≥ ((ln b1.2.1 : Nat) : Int)))
 (some (.inr (.inr ((false, ()), ()))))
 (some (.inl (((), t3, (wr .i64 (t4 + 1)), ()), (b1, ())))))
 (some (.inl (((), t3, (wr .i64 (t4 + 1)), ()), (b1, ()))))))))))
 (some (.inr (.inl (((), t3, ()), (b1, ())))))))
def En := Ua fun x : (Cv × As) => UE x.1.1 x.1.2.1 x.1.2.2.1 x.2.1
def TE (t1 : Unit) (t3 : Int) (b1 : Tb) : Option ((Mj × As) ⊕ ((De × As) ⊕ Il)) :=
 (cond (decide (t3 < ((ln b1.2.1 : Nat) : Int)))
 (ob (Ab b1.2.1 t3) fun x31 =>
 (cond (((ln x31 : Nat) : Int) != b1.1)
 (some (.inr (.inr ((false, ()), ()))))
 (ob (En (((), t3, 0, ()), (b1, ()))) (se (fun y44 => (some (.inl (((), (wr .i64 (y44.1.2.1 + 1)), ()), (y44.2.1, ()))))) (fun z45 => (some (.inr (.inr ((z45.1.1, ()), ())))))))))
 (some (.inr (.inl (((), ()), (b1, ()))))))
def Dn := Ua fun x : (Mj × As) => TE x.1.1 x.1.2.1 x.2.1
def Yx (a0 : Tb) : Option Vc :=
 (ob (Dn (((), 0, ()), (a0, ()))) (se (fun y46 => (ob (Cc y46.2.1.1 1 32) fun r48 =>
 (cond r48.1
 (ob (Cc ((ln y46.2.1.2.1 : Nat) : Int) 1 4) fun r49 =>
 (some (r49.1, ())))
 (some (false, ()))))) (fun z47 => (some (z47.1.1, ())))))
def Jy (a0 : Int) : Option Vc :=
 (cond (decide (a0 ≥ 1))
 (some ((decide (a0 ≤ 56)), ()))
 (some (false, ())))
def Pr (a0 : Int) : Option Vc :=
 (cond (decide (a0 ≥ 1))
 (some ((decide (a0 ≤ 15)), ()))
 (some (false, ())))
def Yt (a0 : Int) : Option Vc :=
 (cond (decide (a0 ≥ 1))
 (some ((decide (a0 ≤ 3)), ()))
 (some (false, ())))
def Wj (a0 : Bb) : Option Vc :=
 (cond (a0.1 == 0)
 (cond (a0.2.1 == 0)
 (cond (a0.2.2.1 == 0)
 (some ((a0.2.2.2.1 == 0), ()))
 (some (false, ())))
 (some (false, ())))
 (cond (a0.1 == 1)
 (cond (a0.2.1 == 0)
 (cond (a0.2.2.1 == 0)
 (some ((a0.2.2.2.1 == 0), ()))
 (some (false, ())))
 (some (false, ())))
 (cond (a0.1 == 10)
 (cond (a0.2.1 == 0)
 (cond (a0.2.2.1 == 0)
 (some ((a0.2.2.2.1 == 0), ()))
 (some (false, ())))
 (some (false, ())))
 (cond (a0.1 == 2)
 (cond (a0.2.2.2.1 == 0)
 (cond (a0.2.1 == 0)
 (cond (a0.2.2.1 == 0)
 (cond (a0.2.1 != 0)
 (some (true, ()))
 (some ((a0.2.2.1 != 0), ())))
 (ob (Pr a0.2.2.1) fun r1 =>
 (cond r1.1
 (cond (a0.2.1 != 0)
 (some (true, ()))
 (some ((a0.2.2.1 != 0), ())))
 (some (false, ())))))
 (ob (Jy a0.2.1) fun r2 =>
 (cond r2.1
 (cond (a0.2.2.1 == 0)
 (cond (a0.2.1 != 0)
 (some (true, ()))
 (some ((a0.2.2.1 != 0), ())))
 (ob (Pr a0.2.2.1) fun r3 =>
 (cond r3.1
 (cond (a0.2.1 != 0)
 (some (true, ()))
 (some ((a0.2.2.1 != 0), ())))
 (some (false, ())))))
 (some (false, ())))))
 (some (false, ())))
 (cond (a0.1 == 3)
 (cond (a0.2.1 == 0)
 (cond (a0.2.2.1 == 0)
 (ob (Yt a0.2.2.2.1) fun r4 =>
 (some (r4.1, ())))
 (some (false, ())))
 (some (false, ())))
 (cond (a0.1 == 4)
 (cond (a0.2.1 == 0)
 (cond (a0.2.2.1 == 0)
 (ob (Yt a0.2.2.2.1) fun r5 =>
 (some (r5.1, ())))
 (some (false, ())))
 (some (false, ())))
 (cond (a0.1 == 5)
 (cond (a0.2.1 == 0)
 (cond (a0.2.2.1 == 0)
 (cond (decide (a0.2.2.2.1 ≥ 0))
 (some ((decide (a0.2.2.2.1 ≤ 3)), ()))
 (some (false, ())))
 (some (false, ())))
 (some (false, ())))
 (cond (a0.1 == 9)
 (cond (a0.2.1 == 0)
 (cond (a0.2.2.1 == 0)
 (cond (decide (a0.2.2.2.1 ≥ 0))
 (some ((decide (a0.2.2.2.1 ≤ 3)), ()))
 (some (false, ())))
 (some (false, ())))
 (some (false, ())))
 (cond (a0.1 == 6)
 (ob (Jy a0.2.1) fun r6 =>
 (cond r6.1
 (ob (Pr a0.2.2.1) fun r7 =>
 (cond r7.1
 (some ((a0.2.2.2.1 == 0), ()))
 (some (false, ()))))
 (some (false, ()))))
 (cond (a0.1 == 7)
 (ob (Jy a0.2.1) fun r8 =>
 (cond r8.1
 (cond (a0.2.2.1 == 0)
 (ob (Yt a0.2.2.2.1) fun r9 =>
 (some (r9.1, ())))
 (some (false, ())))
 (some (false, ()))))
 (cond (a0.1 == 8)
 (cond (a0.2.1 == 0)
 (ob (Pr a0.2.2.1) fun r10 =>
 (cond r10.1
 (some ((a0.2.2.2.1 == 0), ()))
 (some (false, ()))))
 (some (false, ())))
 (some (false, ())))))))))))))
def JE (t1 : Unit) (t3 : Int) (t28 : Ri) (t29 : Int) (t30 : Int) (t40 : Zk) (t41 : Int) (t42 : Int) (b1 : Tb) : Option (((Unit × (Int × (Ri × KaD))) × As) ⊕ (((Unit × UI) × As) ⊕ Il)) :=
 (cond (decide (t42 < t41))
 (ob (Ab t40 t42) fun x24 =>
 (ob (Wj x24) fun r25 =>
 (cond (!r25.1)
 (some (.inr (.inr ((false, ()), ()))))
 (cond (t3 == 0)
 (cond (x24.1 == 1)
 (some (.inr (.inr ((false, ()), ()))))
 (cond (x24.1 != 9)
 (cond (decide (x24.2.2.2.1 ≥ ((ln b1.2.1 : Nat) : Int)))
 (some (.inr (.inr ((false, ()), ()))))
 (some (.inl (((), t3, t28, t29, t30, t40, t41, (wr .i64 (t42 + 1)), ()), (b1, ())))))
 (some (.inl (((), t3, t28, t29, t30, t40, t41, (wr .i64 (t42 + 1)), ()), (b1, ()))))))
 (cond (x24.1 != 9)
 (cond (decide (x24.2.2.2.1 ≥ ((ln b1.2.1 : Nat) : Int)))
 (some (.inr (.inr ((false, ()), ()))))
 (some (.inl (((), t3, t28, t29, t30, t40, t41, (wr .i64 (t42 + 1)), ()), (b1, ())))))
 (some (.inl (((), t3, t28, t29, t30, t40, t41, (wr .i64 (t42 + 1)), ()), (b1, ())))))))))
 (some (.inr (.inl (((), t28, t29, t30, ()), (b1, ()))))))
def Rm := Ua fun x : ((Unit × (Int × (Ri × KaD))) × As) => JE x.1.1 x.1.2.1 x.1.2.2.1 x.1.2.2.2.1 x.1.2.2.2.2.1 x.1.2.2.2.2.2.1 x.1.2.2.2.2.2.2.1 x.1.2.2.2.2.2.2.2.1 x.2.1
def IE (t1 : Unit) (t28 : Ri) (t29 : Int) (t30 : Int) (b1 : Tb) : Option (((Unit × UI) × As) ⊕ Qk) :=
 (cond (decide (t30 < t29))
 (ob (Ab t28 t30) fun x19 =>
 (cond (((ln x19 : Nat) : Int) != b1.1)
 (some (.inr (.inr ((false, ()), ()))))
 (ob (Rm (((), t30, t28, t29, t30, x19, ((ln x19 : Nat) : Int), 0, ()), (b1, ()))) (se (fun y26 => (some (.inl (((), y26.1.2.1, y26.1.2.2.1, (wr .i64 (y26.1.2.2.2.1 + 1)), ()), (y26.2.1, ()))))) (fun z27 => (some (.inr (.inr ((z27.1.1, ()), ())))))))))
 (some (.inr (.inl ((), ())))))
def Qm := Ua fun x : ((Unit × UI) × As) => IE x.1.1 x.1.2.1 x.1.2.2.1 x.1.2.2.2.1 x.2.1
def Mx (a0 : Tb) : Option Vc :=
 (cond (decide (a0.1 < 1))
 (some (false, ()))
 (cond (decide (a0.1 > 32))
 (some (false, ()))
 (cond (decide (((ln a0.2.1 : Nat) : Int) < 1))
 (some (false, ()))
 (cond (decide (((ln a0.2.1 : Nat) : Int) > 4))
 (some (false, ()))
 (ob (Qm (((), a0.2.1, ((ln a0.2.1 : Nat) : Int), 0, ()), (a0, ()))) (se (fun y28 => (some (true, ()))) (fun z29 => (some (z29.1.1, ())))))))))
def Qp (a0 : Bb) (a1 : Bb) : Option Vc :=
 (cond (a0.1 != a1.1)
 (some (false, ()))
 (cond (a0.2.1 != a1.2.1)
 (some (false, ()))
 (cond (a0.2.2.1 != a1.2.2.1)
 (some (false, ()))
 (cond (a0.2.2.2.1 != a1.2.2.2.1)
 (some (false, ()))
 (some (true, ()))))))
def DX (t0 : Zk) (t1 : Zk) (t5 : Int) : Option (Waa ⊕ Qk) :=
 (cond (decide (t5 < ((ln t0 : Nat) : Int)))
 (ob (Ab t0 t5) fun x7 =>
 (ob (Ab t1 t5) fun x8 =>
 (ob (Qp x7 x8) fun r9 =>
 (cond (!r9.1)
 (some (.inr (.inr ((false, ()), ()))))
 (some (.inl ((t0, t1, (wr .i64 (t5 + 1)), ()), ())))))))
 (some (.inr (.inl ((), ())))))
def FI := Ua fun x : Waa => DX x.1.1 x.1.2.1 x.1.2.2.1
def Du (a0 : Zk) (a1 : Zk) : Option Vc :=
 (cond (((ln a0 : Nat) : Int) != ((ln a1 : Nat) : Int))
 (some (false, ()))
 (ob (FI ((a0, a1, 0, ()), ())) (se (fun y10 => (some (true, ()))) (fun z11 => (some (z11.1.1, ()))))))
def YV (t0 : Ri) (t1 : Ri) (t5 : Int) : Option (Taa ⊕ Qk) :=
 (cond (decide (t5 < ((ln t0 : Nat) : Int)))
 (ob (Ab t0 t5) fun x7 =>
 (ob (Ab t1 t5) fun x8 =>
 (ob (Du x7 x8) fun r9 =>
 (cond (!r9.1)
 (some (.inr (.inr ((false, ()), ()))))
 (some (.inl ((t0, t1, (wr .i64 (t5 + 1)), ()), ())))))))
 (some (.inr (.inl ((), ())))))
def GF := Ua fun x : Taa => YV x.1.1 x.1.2.1 x.1.2.2.1
def Tz (a0 : Ri) (a1 : Ri) : Option Vc :=
 (cond (((ln a0 : Nat) : Int) != ((ln a1 : Nat) : Int))
 (some (false, ()))
 (ob (GF ((a0, a1, 0, ()), ())) (se (fun y10 => (some (true, ()))) (fun z11 => (some (z11.1.1, ()))))))
def NG (a0 : Tb) (a1 : Tb) : Option Vc :=
 (cond (a0.1 != a1.1)
 (some (false, ()))
 (ob (Tz a0.2.1 a1.2.1) fun r1 =>
 (cond (!r1.1)
 (some (false, ()))
 (some (true, ())))))
def BH (a0 : Ca) : Option Dh :=
 (some (a0, ()))
def Zx (a0 : Ca) : Option Vc :=
 (ob (Cc a0.1 1 4) fun r1 =>
 (cond r1.1
 (ob (Cc a0.2.1 1 6) fun r2 =>
 (some (r2.1, ())))
 (some (false, ()))))
def Cm (a0 : Ca) : Option Oc :=
 (ob (Zx a0) fun r1 =>
 (cond (!r1.1)
 (some (0, ()))
 (some ((wr .i64 (a0.1 * a0.2.1)), ()))))
def Ln (a0 : Ca) (a1 : Int) : Option Vc :=
 (ob (Zx a0) fun r1 =>
 (cond r1.1
 (ob (Cm a0) fun r2 =>
 (cond (decide (0 ≤ r2.1))
 (ob (Cc a1 0 (wr .i64 ((Ta .i64 1 r2.1) - 1))) fun r3 =>
 (some (r3.1, ())))
 none))
 (some (false, ()))))
def AE (a0 : Ca) (a1 : Int) (a2 : Int) : Option Oc :=
 (cond (decide (0 ≤ (wr .i64 (a2 * a0.2.1))))
 (cond (decide (0 ≤ a0.2.1))
 (some ((Wa .i64 (Zb .i64 a1 (wr .i64 (a2 * a0.2.1))) (wr .i64 ((Ta .i64 1 a0.2.1) - 1))), ()))
 none)
 none)
def Yw (t2 : Unit) (t5 : Int) (t6 : Int) (t7 : Int) (t8 : Int) (b2 : Ca) : Option ((Aab × Dh) ⊕ ((PO × Dh) ⊕ De)) :=
 (cond (decide (t8 < b2.1))
 (ob (AE b2 t5 t7) fun r99 =>
 (ob (AE b2 t5 t8) fun r100 =>
 (cond ((Wa .i64 r99.1 r100.1) != 0)
 (ob (AE b2 t5 t8) fun r101 =>
 (cond (decide (0 ≤ (wr .i64 (t7 * b2.2.1))))
 (some (.inl (((), (Rc .i64 t5 (Ta .i64 r101.1 (wr .i64 (t7 * b2.2.1)))), t6, t7, (wr .i64 (t8 + 1)), ()), (b2, ()))))
 none))
 (some (.inl (((), t5, t6, t7, (wr .i64 (t8 + 1)), ()), (b2, ())))))))
 (some (.inr (.inl (((), t5, t6, t7, ()), (b2, ()))))))
def Cz := Ua fun x : (Aab × Dh) => Yw x.1.1 x.1.2.1 x.1.2.2.1 x.1.2.2.2.1 x.1.2.2.2.2.1 x.2.1
def TA (t2 : Unit) (t5 : Int) (t6 : Int) (t7 : Int) (b2 : Ca) : Option ((PO × Dh) ⊕ ((Cv × Dh) ⊕ De)) :=
 (cond (decide (t7 < b2.1))
 (ob (Cz (((), t5, t6, t7, 0, ()), (b2, ()))) (se (fun y102 => (some (.inl (((), y102.1.2.1, y102.1.2.2.1, (wr .i64 (y102.1.2.2.2.1 + 1)), ()), (y102.2.1, ()))))) (fun z103 => (some (.inr (.inr ((), ())))))))
 (some (.inr (.inl (((), t5, t6, ()), (b2, ()))))))
def RC := Ua fun x : (PO × Dh) => TA x.1.1 x.1.2.1 x.1.2.2.1 x.1.2.2.2.1 x.2.1
def SA (t2 : Unit) (t5 : Int) (t6 : Int) (b2 : Ca) : Option ((Cv × Dh) ⊕ YC) :=
 (cond (decide (t6 < b2.1))
 (ob (RC (((), t5, t6, 0, ()), (b2, ()))) (se (fun y104 => (some (.inl (((), y104.1.2.1, (wr .i64 (y104.1.2.2.1 + 1)), ()), (y104.2.1, ()))))) (fun z105 => (some (.inr (.inr ((), ())))))))
 (some (.inr (.inl ((t5, ()), ())))))
def QC := Ua fun x : (Cv × Dh) => SA x.1.1 x.1.2.1 x.1.2.2.1 x.2.1
def Yr (a0 : Ca) (a1 : Int) : Option Oc :=
 (cond a0.2.2.1
 (some (a1, ()))
 (ob (QC (((), a1, 0, ()), (a0, ()))) (se (fun y106 => (some (y106.1.1, ()))) (fun z107 => none))))
def OA (a0 : Ca) (a1 : Int) : Option Ev :=
 (ob (Ln a0 a1) fun r1 =>
 (cond (!r1.1)
 (some (0, false, ()))
 (ob (Yr a0 a1) fun r2 =>
 (some (r2.1, true, ())))))
def Sn (a0 : Ca) (a1 : Int) : Option Vc :=
 (ob (Ln a0 a1) fun r1 =>
 (cond r1.1
 (ob (Yr a0 a1) fun r2 =>
 (some ((r2.1 == a1), ())))
 (some (false, ()))))
def Jw (a0 : Ca) (a1 : Int) (a2 : Int) : Option Ev :=
 (ob (Sn a0 a1) fun r1 =>
 (cond (!r1.1)
 (some (0, false, ()))
 (ob (Cm a0) fun r2 =>
 (ob (Cc a2 0 (wr .i64 (r2.1 - 1))) fun r3 =>
 (cond (!r3.1)
 (some (0, false, ()))
 (cond (decide (0 ≤ a2))
 (cond ((Wa .i64 (Zb .i64 a1 a2) 1) == 0)
 (some (0, false, ()))
 (cond (decide (0 ≤ a2))
 (ob (Yr a0 (Jb .i64 a1 (Ta .i64 1 a2))) fun r4 =>
 (cond (r4.1 != a1)
 (some (0, false, ()))
 (some ((Jb .i64 a1 (Ta .i64 1 a2)), true, ()))))
 none))
 none))))))
def Ej (t1 : Int) (t2 : Unit) (t5 : Int) (t6 : Int) (b2 : Ca) : Option (((Int × Cv) × Dh) ⊕ YC) :=
 (ob (Cm b2) fun r7 =>
 (cond (decide (t6 < r7.1))
 (ob (Sn b2 t1) fun r8 =>
 (cond r8.1
 (ob (Jw b2 t1 t6) fun r9 =>
 (cond (decide (0 ≤ t6))
 (cond ((Wa .i64 (Zb .i64 t1 t6) 1) == 1)
 (cond (!r9.2.1)
 (cond (decide (0 ≤ t6))
 (some (.inl ((t1, (), (Rc .i64 t5 (Ta .i64 1 t6)), (wr .i64 (t6 + 1)), ()), (b2, ()))))
 none)
 (some (.inl ((t1, (), t5, (wr .i64 (t6 + 1)), ()), (b2, ())))))
 (some (.inl ((t1, (), t5, (wr .i64 (t6 + 1)), ()), (b2, ())))))
 none))
 (some (.inr (.inl ((t5, ()), ()))))))
 (some (.inr (.inl ((t5, ()), ()))))))
def Sl := Ua fun x : ((Int × Cv) × Dh) => Ej x.1.1 x.1.2.1 x.1.2.2.1 x.1.2.2.2.1 x.2.1
def WD (a0 : Ca) (a1 : Int) : Option Oc :=
 (ob (Sl ((a1, (), 0, 0, ()), (a0, ()))) (se (fun y10 => (some (y10.1.1, ()))) (fun z11 => none)))
def Tq (a0 : Ca) (a1 : Int) (a2 : Int) : Option Ev :=
 (ob (Ln a0 a1) fun r1 =>
 (cond (!r1.1)
 (some (0, false, ()))
 (ob (Sn a0 a2) fun r2 =>
 (cond (!r2.1)
 (some (0, false, ()))
 (ob (WD a0 a2) fun r3 =>
 (some ((Wa .i64 a2 (Rc .i64 a1 r3.1)), true, ())))))))
def Np (a0 : Ca) : Option Vc :=
 (cond (decide (a0.1 ≥ 1))
 (cond (decide (a0.1 ≤ 4))
 (cond (decide (a0.2.1 ≥ 1))
 (some ((decide (a0.2.1 ≤ 6)), ()))
 (some (false, ())))
 (some (false, ())))
 (some (false, ())))
def Xj (a0 : Ca) : Option Oc :=
 (ob (Np a0) fun r1 =>
 (cond (!r1.1)
 (some (0, ()))
 (some ((wr .i64 (a0.1 * a0.2.1)), ()))))
def Gn (a0 : Ca) (a1 : Int) : Option Vc :=
 (ob (Np a0) fun r1 =>
 (cond r1.1
 (cond (decide (a1 ≥ 0))
 (ob (Xj a0) fun r2 =>
 (cond (decide (0 ≤ r2.1))
 (some ((decide (a1 < (Ta .i64 1 r2.1))), ()))
 none))
 (some (false, ())))
 (some (false, ()))))
def IG (t1 : Int) (t2 : Unit) (t5 : Te) (t15 : Int) (t16 : Int) (b2 : Ca) : Option (((Int × TT) × Dh) ⊕ (((Unit × MO) × Dh) ⊕ De)) :=
 (cond (decide (t16 < t15))
 (cond (decide (0 ≤ (wr .i64 (t16 * b2.2.1))))
 (cond (decide (0 ≤ b2.2.1))
 (cond (Nat.beq 4 (ln t5))
 (cond (Af (ln t5) t16)
 (ob t5[(tn t16)]? fun x3 =>
 (some (.inl ((t1, (), (ls t5 (tn t16) (Wa .i64 (Zb .i64 t1 (wr .i64 (t16 * b2.2.1))) (wr .i64 ((Ta .i64 1 b2.2.1) - 1)))), t15, (wr .i64 (t16 + 1)), ()), (b2, ())))))
 none)
 none)
 none)
 none)
 (some (.inr (.inl (((), t5, ()), (b2, ()))))))
def QH := Ua fun x : ((Int × TT) × Dh) => IG x.1.1 x.1.2.1 x.1.2.2.1 x.1.2.2.2.1 x.1.2.2.2.2.1 x.2.1
def GD (t2 : Unit) (t5 : Te) (t7 : Int) (t34 : Int) (t35 : Int) (t38 : Int) (t39 : Int) (t43 : Int) (t44 : Int) (b2 : Ca) : Option (PaD ⊕ (Vap ⊕ De)) :=
 (cond (decide (t44 < t43))
 (cond (Nat.beq 4 (ln t5))
 (cond (Af (ln t5) t7)
 (ob t5[(tn t7)]? fun x156 =>
 (cond (Nat.beq 4 (ln t5))
 (cond (Af (ln t5) t44)
 (ob t5[(tn t44)]? fun x157 =>
 (cond ((Wa .i64 x156 x157) != 0)
 (cond (Nat.beq 4 (ln t5))
 (cond (Af (ln t5) t7)
 (ob t5[(tn t7)]? fun x158 =>
 (cond (Nat.beq 4 (ln t5))
 (cond (Af (ln t5) t44)
 (ob t5[(tn t44)]? fun x159 =>
 (cond (Nat.beq 4 (ln t5))
 (cond (Af (ln t5) t7)
 (ob t5[(tn t7)]? fun x160 =>
 (some (.inl (((), (ls t5 (tn t7) (Rc .i64 x158 x159)), t7, t34, t35, t38, t39, t43, (wr .i64 (t44 + 1)), ()), (b2, ())))))
 none)
 none))
 none)
 none))
 none)
 none)
 (some (.inl (((), t5, t7, t34, t35, t38, t39, t43, (wr .i64 (t44 + 1)), ()), (b2, ()))))))
 none)
 none))
 none)
 none)
 (some (.inr (.inl (((), t5, t34, t35, t38, t39, ()), (b2, ()))))))
def OE := Ua fun x : PaD => GD x.1.1 x.1.2.1 x.1.2.2.1 x.1.2.2.2.1 x.1.2.2.2.2.1 x.1.2.2.2.2.2.1 x.1.2.2.2.2.2.2.1 x.1.2.2.2.2.2.2.2.1 x.1.2.2.2.2.2.2.2.2.1 x.2.1
def FD (t2 : Unit) (t5 : Te) (t34 : Int) (t35 : Int) (t38 : Int) (t39 : Int) (b2 : Ca) : Option (Vap ⊕ ((TT × Dh) ⊕ De)) :=
 (cond (decide (t39 < t38))
 (ob (OE (((), t5, t39, t34, t35, t38, t39, b2.1, 0, ()), (b2, ()))) (se (fun y161 => (some (.inl (((), y161.1.2.1, y161.1.2.2.1, y161.1.2.2.2.1, y161.1.2.2.2.2.1, (wr .i64 (y161.1.2.2.2.2.2.1 + 1)), ()), (y161.2.1, ()))))) (fun z162 => (some (.inr (.inr ((), ())))))))
 (some (.inr (.inl (((), t5, t34, t35, ()), (b2, ()))))))
def NE := Ua fun x : Vap => FD x.1.1 x.1.2.1 x.1.2.2.1 x.1.2.2.2.1 x.1.2.2.2.2.1 x.1.2.2.2.2.2.1 x.2.1
def ED (t2 : Unit) (t5 : Te) (t34 : Int) (t35 : Int) (b2 : Ca) : Option ((TT × Dh) ⊕ (((Unit × MO) × Dh) ⊕ De)) :=
 (cond (decide (t35 < t34))
 (ob (NE (((), t5, t34, t35, b2.1, 0, ()), (b2, ()))) (se (fun y163 => (some (.inl (((), y163.1.2.1, y163.1.2.2.1, (wr .i64 (y163.1.2.2.2.1 + 1)), ()), (y163.2.1, ()))))) (fun z164 => (some (.inr (.inr ((), ())))))))
 (some (.inr (.inl (((), t5, ()), (b2, ()))))))
def ME := Ua fun x : (TT × Dh) => ED x.1.1 x.1.2.1 x.1.2.2.1 x.1.2.2.2.1 x.2.1
def HD (t2 : Unit) (t5 : Te) (t9 : Int) (t67 : Int) (t68 : Int) (b2 : Ca) : Option (((Unit × (Te × Sc)) × Dh) ⊕ YC) :=
 (cond (decide (t68 < t67))
 (cond (Nat.beq 4 (ln t5))
 (cond (Af (ln t5) t68)
 (ob t5[(tn t68)]? fun x169 =>
 (cond (decide (0 ≤ (wr .i64 (t68 * b2.2.1))))
 (some (.inl (((), t5, (Rc .i64 t9 (Ta .i64 x169 (wr .i64 (t68 * b2.2.1)))), t67, (wr .i64 (t68 + 1)), ()), (b2, ()))))
 none))
 none)
 none)
 (some (.inr (.inl ((t9, ()), ())))))
def PE := Ua fun x : ((Unit × (Te × Sc)) × Dh) => HD x.1.1 x.1.2.1 x.1.2.2.1 x.1.2.2.2.1 x.1.2.2.2.2.1 x.2.1
def RB (a0 : Ca) (a1 : Int) : Option Oc :=
 (cond a0.2.2.1
 (some (a1, ()))
 (ob (QH ((a1, (), (List.replicate 4 0), a0.1, 0, ()), (a0, ()))) (se (fun y4 => (ob (ME (((), y4.1.2.1, y4.2.1.1, 0, ()), (y4.2.1, ()))) (se (fun y165 => (ob (PE (((), y165.1.2.1, 0, y165.2.1.1, 0, ()), (y165.2.1, ()))) (se (fun y170 => (some (y170.1.1, ()))) (fun z171 => none)))) (fun z166 => none)))) (fun z5 => none))))
def On (a0 : Ca) (a1 : Int) : Option Vc :=
 (ob (Gn a0 a1) fun r1 =>
 (cond r1.1
 (ob (RB a0 a1) fun r2 =>
 (some ((r2.1 == a1), ())))
 (some (false, ()))))
def Mv (a0 : Ca) (a1 : Int) (a2 : Int) : Option Ev :=
 (ob (On a0 a1) fun r1 =>
 (cond (!r1.1)
 (some (0, false, ()))
 (cond (decide (a2 < 0))
 (some (0, false, ()))
 (ob (Xj a0) fun r2 =>
 (cond (decide (a2 ≥ r2.1))
 (some (0, false, ()))
 (cond (decide (0 ≤ a2))
 (cond ((Wa .i64 (Zb .i64 a1 a2) 1) == 0)
 (some (0, false, ()))
 (cond (decide (0 ≤ a2))
 (ob (RB a0 (Jb .i64 a1 (Ta .i64 1 a2))) fun r3 =>
 (cond (r3.1 != a1)
 (some (0, false, ()))
 (some ((Jb .i64 a1 (Ta .i64 1 a2)), true, ()))))
 none))
 none))))))
def Yp (t1 : Int) (t2 : Unit) (t5 : Int) (t14 : Int) (t15 : Int) (b2 : Ca) : Option (((Int × PO) × Dh) ⊕ YC) :=
 (cond (decide (t15 < t14))
 (cond (decide (0 ≤ t15))
 (cond ((Wa .i64 (Zb .i64 t1 t15) 1) == 1)
 (ob (Mv b2 t1 t15) fun r5 =>
 (cond (!r5.2.1)
 (cond (decide (0 ≤ t15))
 (some (.inl ((t1, (), (Rc .i64 t5 (Ta .i64 1 t15)), t14, (wr .i64 (t15 + 1)), ()), (b2, ()))))
 none)
 (some (.inl ((t1, (), t5, t14, (wr .i64 (t15 + 1)), ()), (b2, ()))))))
 (some (.inl ((t1, (), t5, t14, (wr .i64 (t15 + 1)), ()), (b2, ())))))
 none)
 (some (.inr (.inl ((t5, ()), ())))))
def Rt := Ua fun x : ((Int × PO) × Dh) => Yp x.1.1 x.1.2.1 x.1.2.2.1 x.1.2.2.2.1 x.1.2.2.2.2.1 x.2.1
def BD (a0 : Ca) (a1 : Int) : Option Oc :=
 (ob (On a0 a1) fun r1 =>
 (cond (!r1.1)
 (some (0, ()))
 (ob (Xj a0) fun r2 =>
 (ob (Rt ((a1, (), 0, r2.1, 0, ()), (a0, ()))) (se (fun y6 => (some (y6.1.1, ()))) (fun z7 => none))))))
def Xp (a0 : Ca) (a1 : Int) (a2 : Int) : Option Ev :=
 (ob (Gn a0 a1) fun r1 =>
 (cond (!r1.1)
 (some (0, false, ()))
 (ob (On a0 a2) fun r2 =>
 (cond (!r2.1)
 (some (0, false, ()))
 (ob (BD a0 a2) fun r3 =>
 (some ((Wa .i64 a2 (Rc .i64 a1 r3.1)), true, ())))))))
def Mk (a0 : Bb) : Option Vc :=
 (ob (Zj a0) fun r1 =>
 (cond r1.1
 (cond (a0.1 == 6)
 (some (true, ()))
 (some ((a0.1 == 7), ())))
 (some (false, ()))))
def VO (a0 : Bb) : Option WI :=
 (ob (Mk a0) fun r1 =>
 (cond (!r1.1)
 (some (a0, ()))
 (some ((2, a0.2.1, 0, 0, ()), ()))))
def Pn (a0 : Bb) : Option Vc :=
 (ob (Wj a0) fun r1 =>
 (cond r1.1
 (cond (a0.1 == 6)
 (some (true, ()))
 (some ((a0.1 == 7), ())))
 (some (false, ()))))
def QO (a0 : Bb) : Option WI :=
 (ob (Pn a0) fun r1 =>
 (cond (!r1.1)
 (some (a0, ()))
 (some ((2, a0.2.1, 0, 0, ()), ()))))
def Oo (t2 : Unit) (t3 : Unit) (t10 : Ri) (t11 : Int) (t12 : Int) (b2 : Tb) (b3 : Tb) : Option (((Unit × (Unit × UI)) × MY) ⊕ ((TQ × MY) ⊕ De)) :=
 (cond (decide (t12 < t11))
 (ob (Ab t10 t12) fun x4 =>
 (cond (bl (ln ([] : List Bb) + ln x4) Sa)
 (cond (bl (ln b3.2.1 + ln ([(ap [] x4)] : List Zk)) Sa)
 (some (.inl (((), (), t10, t11, (wr .i64 (t12 + 1)), ()), (b2, (b3.1, (ap b3.2.1 ([(ap [] x4)] : List Zk)), ()), ()))))
 none)
 none))
 (some (.inr (.inl (((), (), ()), (b2, b3, ()))))))
def Mr := Ua fun x : ((Unit × (Unit × UI)) × MY) => Oo x.1.1 x.1.2.1 x.1.2.2.1 x.1.2.2.2.1 x.1.2.2.2.2.1 x.2.1 x.2.2.1
def Nz (a0 : Tb) : Option As :=
 (ob (Mr (((), (), a0.2.1, ((ln a0.2.1 : Nat) : Int), 0, ()), ((0, [], ()), (a0.1, [], ()), ()))) (se (fun y5 => (some (y5.2.2.1, ()))) (fun z6 => none)))
def Po (t3 : Jh) (t6 : Jh) (t7 : Int) (t8 : Int) : Option (((Jh × GM) × Unit) ⊕ (((Jh × Unit) × Unit) ⊕ De)) :=
 (cond (decide (t8 < t7))
 (ob (Ab t6 t8) fun x4 =>
 (cond (bl (ln ([] : List Sc) + ln x4) Sa)
 (cond (bl (ln t3 + ln ([(ap [] x4)] : List Eh)) Sa)
 (some (.inl (((ap t3 ([(ap [] x4)] : List Eh)), t6, t7, (wr .i64 (t8 + 1)), ()), ())))
 none)
 none))
 (some (.inr (.inl ((t3, ()), ())))))
def Nr := Ua fun x : ((Jh × GM) × Unit) => Po x.1.1 x.1.2.1 x.1.2.2.1 x.1.2.2.2.1
def Oz (a0 : Jh) : Option (Jh × Unit) :=
 (ob (Nr (([], a0, ((ln a0 : Nat) : Int), 0, ()), ())) (se (fun y5 => (some (y5.1.1, ()))) (fun z6 => none)))
def Le (a0 : Int) (a1 : Int) : Option Oc :=
 (cond (decide (0 ≤ a1))
 (some ((Wa .i64 (Zb .i64 a0 a1) 1), ()))
 none)
def Iz (t3 : Int) (t6 : Vd) (t7 : Int) (t8 : Int) : Option (NQ ⊕ Qk) :=
 (cond (decide (t8 < t7))
 (ob (Ab t6 t8) fun x7 =>
 (cond (decide (x7.1 < 0))
 (some (.inr (.inr ((false, ()), ()))))
 (cond (decide (x7.1 > 31))
 (some (.inr (.inr ((false, ()), ()))))
 (ob (Le t3 x7.1) fun r8 =>
 (cond (r8.1 == 1)
 (some (.inr (.inr ((false, ()), ()))))
 (ob (Wj x7.2.1) fun r9 =>
 (cond (!r9.1)
 (some (.inr (.inr ((false, ()), ()))))
 (cond (x7.2.1.1 == 1)
 (some (.inr (.inr ((false, ()), ()))))
 (cond (x7.2.1.1 == 6)
 (some (.inr (.inr ((false, ()), ()))))
 (cond (x7.2.1.1 == 7)
 (some (.inr (.inr ((false, ()), ()))))
 (cond (decide (0 ≤ x7.1))
 (some (.inl (((Rc .i64 t3 (Ta .i64 1 x7.1)), t6, t7, (wr .i64 (t8 + 1)), ()), ())))
 none)))))))))))
 (some (.inr (.inl ((), ())))))
def JB := Ua fun x : NQ => Iz x.1.1 x.1.2.1 x.1.2.2.1 x.1.2.2.2.1
def Tk (a0 : Vd) : Option Vc :=
 (ob (JB ((0, a0, ((ln a0 : Nat) : Int), 0, ()), ())) (se (fun y10 => (some (true, ()))) (fun z11 => (some (z11.1.1, ())))))
def Rz (t3 : Unit) (t7 : Xd) (t8 : Int) (t9 : Int) (b3 : Va) : Option (((Unit × Vp) × VI) ⊕ ST) :=
 (cond (decide (t9 < t8))
 (ob (Ab t7 t9) fun x3 =>
 (cond (Ez Sb x3 b3)
 (some (.inr (.inr ((t9, ()), ()))))
 (some (.inl (((), t7, t8, (wr .i64 (t9 + 1)), ()), (b3, ()))))))
 (some (.inr (.inl ((), ())))))
def QB := Ua fun x : ((Unit × Vp) × VI) => Rz x.1.1 x.1.2.1 x.1.2.2.1 x.1.2.2.2.1 x.2.1
def EF (a0 : Xd) (a1 : Va) : Option Oc :=
 (ob (QB (((), a0, ((ln a0 : Nat) : Int), 0, ()), (a1, ()))) (se (fun y4 => (some ((-1), ()))) (fun z5 => (some (z5.1.1, ())))))
def Yn (t3 : Xd) (t11 : Eh) (t12 : Int) (t13 : Int) : Option (((Xd × PQ) × Unit) ⊕ (((Xd × Unit) × Unit) ⊕ Il)) :=
 (cond (decide (t13 < t12))
 (ob (Ab t11 t13) fun x10 =>
 (ob (EF t3 x10.2) fun r11 =>
 (ob (Wj (2, x10.2.1, x10.2.2.1, 0, ())) fun r12 =>
 (cond (!r12.1)
 (some (.inr (.inr ((false, ()), ()))))
 (cond (x10.1 == 0)
 (cond (decide (r11.1 ≥ 0))
 (some (.inr (.inr ((false, ()), ()))))
 (cond (x10.1 == 1)
 (cond (bl (ln t3 + ln ([x10.2] : List Va)) Sa)
 (some (.inl (((ap t3 ([x10.2] : List Va)), t11, t12, (wr .i64 (t13 + 1)), ()), ())))
 none)
 (some (.inl ((t3, t11, t12, (wr .i64 (t13 + 1)), ()), ())))))
 (cond (x10.1 == 1)
 (cond (decide (r11.1 ≥ 0))
 (some (.inr (.inr ((false, ()), ()))))
 (cond (x10.1 == 1)
 (cond (bl (ln t3 + ln ([x10.2] : List Va)) Sa)
 (some (.inl (((ap t3 ([x10.2] : List Va)), t11, t12, (wr .i64 (t13 + 1)), ()), ())))
 none)
 (some (.inl ((t3, t11, t12, (wr .i64 (t13 + 1)), ()), ())))))
 (cond (x10.1 == 2)
 (cond (decide (r11.1 < 0))
 (some (.inr (.inr ((false, ()), ()))))
 (cond (Md (ln t3) 0 r11.1)
 (cond (Md (ln t3) (wr .i64 (r11.1 + 1)) ((ln t3 : Nat) : Int))
 (cond (bl (ln (Eb t3 (tn 0) (tn r11.1)) + ln (Eb t3 (tn (wr .i64 (r11.1 + 1))) (tn ((ln t3 : Nat) : Int)))) Sa)
 (some (.inl (((ap (Eb t3 (tn 0) (tn r11.1)) (Eb t3 (tn (wr .i64 (r11.1 + 1))) (tn ((ln t3 : Nat) : Int)))), t11, t12, (wr .i64 (t13 + 1)), ()), ())))
 none)
 none)
 none))
 (some (.inr (.inr ((false, ()), ())))))))))))
 (some (.inr (.inl ((t3, ()), ())))))
def Sy := Ua fun x : ((Xd × PQ) × Unit) => Yn x.1.1 x.1.2.1 x.1.2.2.1 x.1.2.2.2.1
def KB (a0 : Eh) : Option Vc :=
 (cond (decide (((ln a0 : Nat) : Int) > 8))
 (some (false, ()))
 (ob (Sy (([], a0, ((ln a0 : Nat) : Int), 0, ()), ())) (se (fun y13 => (some ((((ln y13.1.1 : Nat) : Int) == 0), ()))) (fun z14 => (some (z14.1.1, ()))))))
def Hs (t1 : Unit) (t35 : Jh) (t36 : Int) (t37 : Int) (b1 : Gb) : Option (((Unit × GM) × Hl) ⊕ ((De × Hl) ⊕ Il)) :=
 (cond (decide (t37 < t36))
 (ob (Ab t35 t37) fun x7 =>
 (ob (KB x7) fun r8 =>
 (cond (!r8.1)
 (some (.inr (.inr ((false, ()), ()))))
 (some (.inl (((), t35, t36, (wr .i64 (t37 + 1)), ()), (b1, ())))))))
 (some (.inr (.inl (((), ()), (b1, ()))))))
def Pm := Ua fun x : ((Unit × GM) × Hl) => Hs x.1.1 x.1.2.1 x.1.2.2.1 x.1.2.2.2.1 x.2.1
def Cq (t1 : Unit) (t5 : Int) (t50 : Vd) (t51 : Int) (t52 : Int) (b1 : Gb) : Option (((Unit × (Int × IY)) × Hl) ⊕ ((Mj × Hl) ⊕ Il)) :=
 (cond (decide (t52 < t51))
 (ob (Ab t50 t52) fun x13 =>
 (cond (decide (x13.1 ≥ b1.1.1))
 (some (.inr (.inr ((false, ()), ()))))
 (cond (x13.2.1.1 != 9)
 (cond (decide (x13.2.1.2.2.2.1 ≥ t5))
 (some (.inr (.inr ((false, ()), ()))))
 (some (.inl (((), t5, t50, t51, (wr .i64 (t52 + 1)), ()), (b1, ())))))
 (some (.inl (((), t5, t50, t51, (wr .i64 (t52 + 1)), ()), (b1, ())))))))
 (some (.inr (.inl (((), t5, ()), (b1, ()))))))
def Ll := Ua fun x : ((Unit × (Int × IY)) × Hl) => Cq x.1.1 x.1.2.1 x.1.2.2.1 x.1.2.2.2.1 x.1.2.2.2.2.1 x.2.1
def HG (a0 : Gb) : Option Vc :=
 (ob (Mx a0.1) fun r1 =>
 (cond (!r1.1)
 (some (false, ()))
 (cond (decide (((ln a0.2.1 : Nat) : Int) > 4))
 (some (false, ()))
 (ob (Tk a0.2.2.2.1) fun r2 =>
 (cond (!r2.1)
 (some (false, ()))
 (cond (decide (a0.2.2.2.2.1 < 0))
 (some (false, ()))
 (cond (decide (a0.2.2.2.2.1 > 15))
 (some (false, ()))
 (ob (Pm (((), a0.2.1, ((ln a0.2.1 : Nat) : Int), 0, ()), (a0, ()))) (se (fun y9 => (ob (Ll (((), ((ln y9.2.1.1.2.1 : Nat) : Int), y9.2.1.2.2.2.1, ((ln y9.2.1.2.2.2.1 : Nat) : Int), 0, ()), (y9.2.1, ()))) (se (fun y14 => (cond (decide (y14.2.1.2.2.1 ≥ 0))
 (cond ((2 : Int) == 0)
 none
 (cond ((Int.tmod y14.2.1.2.2.1 2) == 0)
 (cond (decide (0 ≤ y14.1.2.1))
 (some ((decide (y14.2.1.2.2.1 < (Ta .i64 1 y14.1.2.1))), ()))
 none)
 (some (false, ()))))
 (some (false, ())))) (fun z15 => (some (z15.1.1, ())))))) (fun z10 => (some (z10.1.1, ()))))))))))))
def Nl (a0 : Gb) : Option Hl :=
 (ob (Nz a0.1) fun r1 =>
 (ob (Oz a0.2.1) fun r2 =>
 (cond (bl (ln ([] : List Pa) + ln a0.2.2.2.1) Sa)
 (some ((r1.1, r2.1, a0.2.2.1, (ap [] a0.2.2.2.1), a0.2.2.2.2), ()))
 none)))
def Nx (a0 : Sc) : Option Vc :=
 (cond (decide (a0.1 ≥ 1))
 (cond (decide (a0.1 ≤ 1000))
 (cond (decide (a0.2.1 ≥ 0))
 (cond (decide (a0.2.1 ≤ 1000))
 (cond (decide (a0.2.2.1 ≥ 0))
 (some ((decide (a0.2.2.1 ≤ 2)), ()))
 (some (false, ())))
 (some (false, ())))
 (some (false, ())))
 (some (false, ())))
 (some (false, ())))
def Ks (t3 : Int) (t6 : Vd) (t7 : Int) (t8 : Int) : Option (NQ ⊕ YC) :=
 (cond (decide (t8 < t7))
 (ob (Ab t6 t8) fun x3 =>
 (cond (decide (0 ≤ x3.1))
 (some (.inl (((Rc .i64 t3 (Ta .i64 1 x3.1)), t6, t7, (wr .i64 (t8 + 1)), ()), ())))
 none))
 (some (.inr (.inl ((t3, ()), ())))))
def Xv := Ua fun x : NQ => Ks x.1.1 x.1.2.1 x.1.2.2.1 x.1.2.2.2.1
def Yl (a0 : Vd) : Option Oc :=
 (ob (Xv ((0, a0, ((ln a0 : Nat) : Int), 0, ()), ())) (se (fun y4 => (some (y4.1.1, ()))) (fun z5 => none)))
def Vt (a0 : Ca) : Option Vc :=
 (cond (decide (a0.1 ≥ 0))
 (cond (decide (a0.1 ≤ 1000000))
 (cond (decide (a0.2.1 ≥ 0))
 (some ((decide (a0.2.1 ≤ 31)), ()))
 (some (false, ())))
 (some (false, ())))
 (some (false, ())))
def Pz (t0 : Qd) (t1 : Int) (t11 : Qd) (t12 : Int) (t13 : Int) : Option (((Qd × Dz) × Unit) ⊕ (HY ⊕ (Ev × Unit))) :=
 (cond (decide (t13 < t12))
 (ob (Ab t11 t13) fun x11 =>
 (ob (Vt x11) fun r12 =>
 (cond (!r12.1)
 (some (.inr (.inr ((0, false, ()), ()))))
 (cond (decide (t13 > 0))
 (ob (Ab t0 (wr .i64 (t13 - 1))) fun x13 =>
 (cond (decide (x13.1 > x11.1))
 (some (.inr (.inr ((0, false, ()), ()))))
 (ob (Le t1 x11.2.1) fun r14 =>
 (cond (x11.2.2.1 == (r14.1 == 1))
 (some (.inr (.inr ((0, false, ()), ()))))
 (cond (decide (0 ≤ x11.2.1))
 (some (.inl ((t0, (Me .i64 t1 (Ta .i64 1 x11.2.1)), t11, t12, (wr .i64 (t13 + 1)), ()), ())))
 none)))))
 (ob (Le t1 x11.2.1) fun r15 =>
 (cond (x11.2.2.1 == (r15.1 == 1))
 (some (.inr (.inr ((0, false, ()), ()))))
 (cond (decide (0 ≤ x11.2.1))
 (some (.inl ((t0, (Me .i64 t1 (Ta .i64 1 x11.2.1)), t11, t12, (wr .i64 (t13 + 1)), ()), ())))
 none)))))))
 (some (.inr (.inl ((t1, ()), ())))))
def NB := Ua fun x : ((Qd × Dz) × Unit) => Pz x.1.1 x.1.2.1 x.1.2.2.1 x.1.2.2.2.1 x.1.2.2.2.2.1
def OM (a0 : Qd) (a1 : Int) : Option Ev :=
 (cond (decide (((ln a0 : Nat) : Int) > 64))
 (some (0, false, ()))
 (ob (NB ((a0, a1, a0, ((ln a0 : Nat) : Int), 0, ()), ())) (se (fun y16 => (some (y16.1.1, true, ()))) (fun z17 => (some z17.1)))))
def Hq (t0 : Qd) (t1 : Int) (t2 : Int) (t11 : Qd) (t12 : Int) (t13 : Int) : Option (((Qd × (Int × Dz)) × Unit) ⊕ ((XI × Unit) ⊕ Il)) :=
 (cond (decide (t13 < t12))
 (ob (Ab t11 t13) fun x3 =>
 (cond (decide (x3.2.1 ≥ t2))
 (some (.inr (.inr ((false, ()), ()))))
 (some (.inl ((t0, t1, t2, t11, t12, (wr .i64 (t13 + 1)), ()), ())))))
 (some (.inr (.inl ((t0, t1, ()), ())))))
def Bu := Ua fun x : ((Qd × (Int × Dz)) × Unit) => Hq x.1.1 x.1.2.1 x.1.2.2.1 x.1.2.2.2.1 x.1.2.2.2.2.1 x.1.2.2.2.2.2.1
def Vh (a0 : Qd) (a1 : Int) (a2 : Int) : Option Vc :=
 (ob (Bu ((a0, a1, a2, a0, ((ln a0 : Nat) : Int), 0, ()), ())) (se (fun y4 => (ob (OM y4.1.1 y4.1.2.1) fun r6 =>
 (some (r6.2.1, ())))) (fun z5 => (some (z5.1.1, ())))))
def Th (a0 : Qd) (a1 : Int) : Option Vc :=
 (cond (((ln a0 : Nat) : Int) == 0)
 (some (true, ()))
 (ob (Ab a0 (wr .i64 (((ln a0 : Nat) : Int) - 1))) fun x1 =>
 (some ((decide (x1.1 ≤ a1)), ()))))
def Ut (a0 : Hb) : Option Vc :=
 (ob (HG a0.1) fun r1 =>
 (cond (!r1.1)
 (some (false, ()))
 (ob (Nx a0.2.1) fun r2 =>
 (cond (!r2.1)
 (some (false, ()))
 (cond (decide (a0.2.2.2.1 < 0))
 (some (false, ()))
 (cond (decide (a0.2.2.2.1 > 1000000))
 (some (false, ()))
 (cond (decide (a0.2.2.2.2.1 < 0))
 (some (false, ()))
 (cond (decide (a0.2.2.2.2.1 > a0.2.2.2.1))
 (some (false, ()))
 (ob (Yl a0.1.2.2.2.1) fun r3 =>
 (ob (Vh a0.2.2.1 r3.1 a0.1.1.1) fun r4 =>
 (cond (!r4.1)
 (some (false, ()))
 (ob (Th a0.2.2.1 a0.2.2.2.1) fun r5 =>
 (cond (!r5.1)
 (some (false, ()))
 (cond (decide (a0.2.2.2.2.2.1 ≥ 0))
 (cond (decide (a0.2.2.2.2.2.1 ≤ a0.1.1.1))
 (cond (decide (a0.2.2.2.2.2.2.1 ≥ 0))
 (some ((decide (a0.2.2.2.2.2.2.1 ≤ a0.2.2.2.1)), ()))
 (some (false, ())))
 (some (false, ())))
 (some (false, ()))))))))))))))))
def Jk (a0 : Hb) : Option NO :=
 (ob (Nl a0.1) fun r1 =>
 (cond (bl (ln ([] : List Ca) + ln a0.2.2.1) Sa)
 (some ((r1.1, a0.2.1, (ap [] a0.2.2.1), a0.2.2.2), ()))
 none))
def Hz (t1 : Int) (t8 : Vd) (t9 : Int) (t10 : Int) : Option (NQ ⊕ ST) :=
 (cond (decide (t10 < t9))
 (ob (Ab t8 t10) fun x3 =>
 (cond (x3.1 == t1)
 (some (.inr (.inr ((t10, ()), ()))))
 (some (.inl ((t1, t8, t9, (wr .i64 (t10 + 1)), ()), ())))))
 (some (.inr (.inl ((), ())))))
def HB := Ua fun x : NQ => Hz x.1.1 x.1.2.1 x.1.2.2.1 x.1.2.2.2.1
def MM (a0 : Gb) (a1 : Int) : Option Oc :=
 (ob (HB ((a1, a0.2.2.2.1, ((ln a0.2.2.2.1 : Nat) : Int), 0, ()), ())) (se (fun y4 => (some ((-1), ()))) (fun z5 => (some (z5.1.1, ())))))
def sort_Ints (x0 : Te) : Option MO := srt x0
def Qz (t1 : Int) (t7 : Te) (t8 : Int) (t9 : Int) : Option (((Int × DG) × Unit) ⊕ Qk) :=
 (cond (decide (t9 < t8))
 (ob (Ab t7 t9) fun x3 =>
 (cond (x3 == t1)
 (some (.inr (.inr ((true, ()), ()))))
 (some (.inl ((t1, t7, t8, (wr .i64 (t9 + 1)), ()), ())))))
 (some (.inr (.inl ((), ())))))
def OB := Ua fun x : ((Int × DG) × Unit) => Qz x.1.1 x.1.2.1 x.1.2.2.1 x.1.2.2.2.1
def QM (a0 : Te) (a1 : Int) : Option Vc :=
 (ob (OB ((a1, a0, ((ln a0 : Nat) : Int), 0, ()), ())) (se (fun y4 => (some (false, ()))) (fun z5 => (some (z5.1.1, ())))))
def Vv (t4 : Te) (t11 : Te) (t12 : Int) (t13 : Int) : Option (Bab ⊕ ((MO × Unit) ⊕ De)) :=
 (cond (decide (t13 < t12))
 (cond (Af (ln t11) t13)
 (ob t11[(tn t13)]? fun x9 =>
 (cond (x9 != 0)
 (ob (QM t4 x9) fun r10 =>
 (cond (!r10.1)
 (cond (bl (ln t4 + ln ([x9] : List Int)) Sa)
 (some (.inl (((ap t4 ([x9] : List Int)), t11, t12, (wr .i64 (t13 + 1)), ()), ())))
 none)
 (some (.inl ((t4, t11, t12, (wr .i64 (t13 + 1)), ()), ())))))
 (some (.inl ((t4, t11, t12, (wr .i64 (t13 + 1)), ()), ())))))
 none)
 (some (.inr (.inl ((t4, ()), ())))))
def Uy := Ua fun x : Bab => Vv x.1.1 x.1.2.1 x.1.2.2.1 x.1.2.2.2.1
def Xt (a0 : Te) : Option MO :=
 (ob (Pp a0) fun r1 =>
 (ob (sort_Ints r1.1) fun r2 =>
 (ob (Uy (([], r2.1, ((ln r2.1 : Nat) : Int), 0, ()), ())) (se (fun y11 => (some (y11.1.1, ()))) (fun z12 => none)))))
def Js (t2 : Unit) (t3 : Unit) (t4 : Te) (t11 : Vd) (t12 : Int) (t13 : Int) (b2 : Ha) (b3 : Ha) : Option (((Unit × (Unit × (Te × IY))) × ZA) ⊕ Tap) :=
 (cond (decide (t13 < t12))
 (ob (Ab t11 t13) fun x5 =>
 (cond (x5.2.1.1 == 2)
 (cond (bl (ln t4 + ln ([x5.2.1.2.1] : List Int)) Sa)
 (some (.inl (((), (), (ap t4 ([x5.2.1.2.1] : List Int)), t11, t12, (wr .i64 (t13 + 1)), ()), (b2, ((Rc .i64 b3.1 x5.2.1.2.2.1), b3.2.1, ()), ()))))
 none)
 (cond (x5.2.1.1 == 8)
 (cond (bl (ln t4 + ln ([x5.2.1.2.1] : List Int)) Sa)
 (some (.inl (((), (), (ap t4 ([x5.2.1.2.1] : List Int)), t11, t12, (wr .i64 (t13 + 1)), ()), (b2, ((Rc .i64 b3.1 x5.2.1.2.2.1), b3.2.1, ()), ()))))
 none)
 (cond (bl (ln t4 + ln ([x5.2.1.2.1] : List Int)) Sa)
 (some (.inl (((), (), (ap t4 ([x5.2.1.2.1] : List Int)), t11, t12, (wr .i64 (t13 + 1)), ()), (b2, b3, ()))))
 none))))
 (some (.inr (.inl (((), (), t4, ()), (b2, b3, ()))))))
def Tv := Ua fun x : ((Unit × (Unit × (Te × IY))) × ZA) => Js x.1.1 x.1.2.1 x.1.2.2.1 x.1.2.2.2.1 x.1.2.2.2.2.1 x.1.2.2.2.2.2.1 x.2.1 x.2.2.1
def Ae (a0 : Vd) : Option FM :=
 (ob (Tk a0) fun r1 =>
 (cond (!r1.1)
 (some ((0, [], ()), ()))
 (ob (Tv (((), (), [], a0, ((ln a0 : Nat) : Int), 0, ()), ((0, [], ()), (0, [], ()), ()))) (se (fun y6 => (ob (Xt y6.1.2.2.1) fun r8 =>
 (some ((y6.2.2.1.1, r8.1, ()), ())))) (fun z7 => none)))))
def Ps (t0 : Te) (t1 : Te) (t12 : Int) (t13 : Int) : Option (Bab ⊕ Qk) :=
 (cond (decide (t13 < t12))
 (ob (Ab t0 t13) fun x5 =>
 (ob (Ab t1 t13) fun x6 =>
 (cond (x5 != x6)
 (some (.inr (.inr ((false, ()), ()))))
 (some (.inl ((t0, t1, t12, (wr .i64 (t13 + 1)), ()), ()))))))
 (some (.inr (.inl ((), ())))))
def Yv := Ua fun x : Bab => Ps x.1.1 x.1.2.1 x.1.2.2.1 x.1.2.2.2.1
def JG (a0 : Te) (a1 : Te) : Option Vc :=
 (cond (((ln a0 : Nat) : Int) != ((ln a1 : Nat) : Int))
 (some (false, ()))
 (ob (Yv ((a0, a1, ((ln a0 : Nat) : Int), 0, ()), ())) (se (fun y7 => (some (true, ()))) (fun z8 => (some (z8.1.1, ()))))))
def Dq (a0 : Ha) (a1 : Ha) : Option Vc :=
 (cond (a0.1 == a1.1)
 (ob (JG a0.2.1 a1.2.1) fun r1 =>
 (some (r1.1, ())))
 (some (false, ())))
def Ek (a b : Ha) : Bool := (a.1 == b.1) && (a.2.1 == b.2.1)
def JaD (c : T Se → T Se → Option Bool) (a b : T Se) : Option Vc := ob (c a b) fun x => some (x, ())
def JL (c : T Se → T Se → Option Bool) (t2 : Unit) (t5 : (List (Int × ((T .o) × Unit)))) (t8 : (List (Int × ((T .o) × Unit)))) (t9 : Int) (t10 : Int) (b2 : (Int × ((T .o) × Unit))) : Option (((Unit × ((List (Int × ((T .o) × Unit))) × ((List (Int × ((T .o) × Unit))) × Va))) × ((Int × ((T .o) × Unit)) × Unit)) ⊕ ((((List (Int × ((T .o) × Unit))) × Unit) × Unit) ⊕ De)) :=
 (cond (decide (t10 < t9))
 (ob (Ab t8 t10) fun x7 =>
 (ob (JaD c b2 x7) fun r8 =>
 (cond (!r8.1)
 (cond (bl (ln t5 + ln ([x7] : List (Int × ((T .o) × Unit)))) Sa)
 (some (.inl (((), (ap t5 ([x7] : List (Int × ((T .o) × Unit)))), t8, t9, (wr .i64 (t10 + 1)), ()), (x7, ()))))
 none)
 (some (.inl (((), t5, t8, t9, (wr .i64 (t10 + 1)), ()), (x7, ())))))))
 (some (.inr (.inl ((t5, ()), ())))))
def Gy (c : T Se → T Se → Option Bool) (x : ((Unit × ((List (Int × ((T .o) × Unit))) × ((List (Int × ((T .o) × Unit))) × Va))) × ((Int × ((T .o) × Unit)) × Unit))) : Option ((((List (Int × ((T .o) × Unit))) × Unit) × Unit) ⊕ De) := Ua (fun x : ((Unit × ((List (Int × ((T .o) × Unit))) × ((List (Int × ((T .o) × Unit))) × Va))) × ((Int × ((T .o) × Unit)) × Unit)) => JL c x.1.1 x.1.2.1 x.1.2.2.1 x.1.2.2.2.1 x.1.2.2.2.2.1 x.2.1) x
def Haq (c : T Se → T Se → Option Bool) (a0 : (Int × ((T .o) × Unit))) (a1 : (List (Int × ((T .o) × Unit)))) : Option ((List (Int × ((T .o) × Unit))) × Unit) :=
 (ob (Gy c (((), ([] : List (Int × ((T .o) × Unit))), a1, ((ln a1 : Nat) : Int), 0, ()), (a0, ()))) (se (fun y9 => (some (y9.1.1, ()))) (fun z10 => none)))
def Ye (a0 : Ha) (a1 : List Ha) : Option RT := Gaq Ek a0 a1
def SB (a0 : Gb) (a1 : Int) : Option (Gb × RT) :=
 (ob (Nl a0) fun r1 =>
 (ob (MM a0 a1) fun r2 =>
 (cond (Md (ln r1.1.2.2.2.1) 0 r2.1)
 (cond (Md (ln r1.1.2.2.2.1) (wr .i64 (r2.1 + 1)) ((ln r1.1.2.2.2.1 : Nat) : Int))
 (cond (bl (ln (Eb r1.1.2.2.2.1 (tn 0) (tn r2.1)) + ln (Eb r1.1.2.2.2.1 (tn (wr .i64 (r2.1 + 1))) (tn ((ln r1.1.2.2.2.1 : Nat) : Int)))) Sa)
 (ob (Ae a0.2.2.2.1) fun r3 =>
 (ob (Ae (ap (Eb r1.1.2.2.2.1 (tn 0) (tn r2.1)) (Eb r1.1.2.2.2.1 (tn (wr .i64 (r2.1 + 1))) (tn ((ln r1.1.2.2.2.1 : Nat) : Int))))) fun r4 =>
 (ob (Ye r3.1 ([r4.1] : List Ha)) fun r5 =>
 (some ((r1.1.1, r1.1.2.1, r1.1.2.2.1, (ap (Eb r1.1.2.2.2.1 (tn 0) (tn r2.1)) (Eb r1.1.2.2.2.1 (tn (wr .i64 (r2.1 + 1))) (tn ((ln r1.1.2.2.2.1 : Nat) : Int)))), r1.1.2.2.2.2), r5.1, ())))))
 none)
 none)
 none)))
def Is (t5 : Int) (t21 : Vd) (t22 : Int) (t23 : Int) : Option (NQ ⊕ YC) :=
 (cond (decide (t23 < t22))
 (ob (Ab t21 t23) fun x16 =>
 (cond (x16.2.1.1 == 3)
 (cond (decide (0 ≤ x16.2.1.2.2.2.1))
 (some (.inl (((Rc .i64 t5 (Ta .i64 1 x16.2.1.2.2.2.1)), t21, t22, (wr .i64 (t23 + 1)), ()), ())))
 none)
 (some (.inl ((t5, t21, t22, (wr .i64 (t23 + 1)), ()), ())))))
 (some (.inr (.inl ((t5, ()), ())))))
def Oj := Ua fun x : NQ => Is x.1.1 x.1.2.1 x.1.2.2.1 x.1.2.2.2.1
def Ox (a0 : Int) (a1 : Vd) : Option Oc :=
 (cond (decide (a0 ≥ 0))
 (cond (decide (a0 ≤ 15))
 (ob (Tk a1) fun r1 =>
 (cond (!r1.1)
 (some ((Rc .i64 1 a0), ()))
 (ob (Oj (((Rc .i64 1 a0), a1, ((ln a1 : Nat) : Int), 0, ()), ())) (se (fun y5 => (some (y5.1.1, ()))) (fun z6 => none)))))
 (ob (Tk a1) fun r7 =>
 (cond (!r7.1)
 (some (1, ()))
 (ob (Oj ((1, a1, ((ln a1 : Nat) : Int), 0, ()), ())) (se (fun y11 => (some (y11.1.1, ()))) (fun z12 => none))))))
 (ob (Tk a1) fun r13 =>
 (cond (!r13.1)
 (some (1, ()))
 (ob (Oj ((1, a1, ((ln a1 : Nat) : Int), 0, ()), ())) (se (fun y17 => (some (y17.1.1, ()))) (fun z18 => none))))))
def TP (t1 : Int) (t2 : Int) (t3 : Unit) (t7 : Int) (b3 : Tb) : Option (Qaa ⊕ ST) :=
 (cond (decide (t7 > 0))
 (ob (Le t1 t7) fun r7 =>
 (cond (r7.1 == 1)
 (ob (Ab b3.2.1 t7) fun x8 =>
 (ob (Ab x8 t2) fun x9 =>
 (cond (x9.1 != 1)
 (some (.inr (.inr ((t7, ()), ()))))
 (some (.inl ((t1, t2, (), (wr .i64 (t7 - 1)), ()), (b3, ())))))))
 (some (.inl ((t1, t2, (), (wr .i64 (t7 - 1)), ()), (b3, ()))))))
 (some (.inr (.inl ((), ())))))
def Ji := Ua fun x : Qaa => TP x.1.1 x.1.2.1 x.1.2.2.1 x.1.2.2.2.1 x.2.1
def PB (a0 : Tb) (a1 : Int) (a2 : Int) : Option Oc :=
 (ob (Ji ((a1, a2, (), (wr .i64 (((ln a0.2.1 : Nat) : Int) - 1)), ()), (a0, ()))) (se (fun y10 => (some (0, ()))) (fun z11 => (some (z11.1.1, ())))))
def SP (a0 : Tb) (a1 : Int) (a2 : Int) : Option Oc :=
 (ob (Mx a0) fun r1 =>
 (cond (!r1.1)
 (some ((-1), ()))
 (cond (decide (a2 < 0))
 (some ((-1), ()))
 (cond (decide (a2 ≥ a0.1))
 (some ((-1), ()))
 (ob (PB a0 a1 a2) fun r2 =>
 (some (r2.1, ())))))))
def GG (a0 : Tb) (a1 : Int) (a2 : Int) : Option WI :=
 (ob (SP a0 a1 a2) fun r1 =>
 (cond (decide (r1.1 < 0))
 (some ((0, 0, 0, 0, ()), ()))
 (ob (Ab a0.2.1 r1.1) fun x2 =>
 (ob (Ab x2 a2) fun x3 =>
 (some (x3, ()))))))
def Cs (t1 : Int) (t2 : Int) (t4 : Int) (t5 : Unit) (t12 : Int) (t26 : Qd) (t27 : Int) (t28 : Int) (b5 : Sc) : Option (((Int × (Int × (Int × (Unit × Dz)))) × ZC) ⊕ (((Int × (Int × De)) × ZC) ⊕ VI)) :=
 (cond (decide (t28 < t27))
 (ob (Ab t26 t28) fun x10 =>
 (ob (Vt x10) fun r11 =>
 (cond (!r11.1)
 (some (.inr (.inr ((0, 0, ()), ()))))
 (cond (decide (x10.1 ≥ (wr .i64 (t2 + b5.1))))
 (some (.inr (.inr ((2, (wr .i64 (t2 + b5.1)), ()), ()))))
 (cond (x10.2.1 == t1)
 (cond (!x10.2.2.1)
 (some (.inr (.inr ((1, x10.1, ()), ()))))
 (cond (x10.2.1 == t1)
 (some (.inl ((t1, t2, t4, (), t12, t26, t27, (wr .i64 (t28 + 1)), ()), (b5, ()))))
 (cond x10.2.2.1
 (cond (b5.2.2.1 == 1)
 (some (.inr (.inr ((2, x10.1, ()), ()))))
 (cond (decide (0 ≤ x10.2.1))
 (some (.inl ((t1, t2, t4, (), (Rc .i64 t12 (Ta .i64 1 x10.2.1)), t26, t27, (wr .i64 (t28 + 1)), ()), (b5, ()))))
 none))
 (cond (b5.2.2.1 == 2)
 (ob (Le t12 x10.2.1) fun r12 =>
 (cond (r12.1 == 1)
 (some (.inr (.inr ((2, x10.1, ()), ()))))
 (some (.inl ((t1, t2, t4, (), t12, t26, t27, (wr .i64 (t28 + 1)), ()), (b5, ()))))))
 (some (.inl ((t1, t2, t4, (), t12, t26, t27, (wr .i64 (t28 + 1)), ()), (b5, ()))))))))
 (cond (x10.2.1 == t1)
 (some (.inl ((t1, t2, t4, (), t12, t26, t27, (wr .i64 (t28 + 1)), ()), (b5, ()))))
 (cond x10.2.2.1
 (cond (b5.2.2.1 == 1)
 (some (.inr (.inr ((2, x10.1, ()), ()))))
 (cond (decide (0 ≤ x10.2.1))
 (some (.inl ((t1, t2, t4, (), (Rc .i64 t12 (Ta .i64 1 x10.2.1)), t26, t27, (wr .i64 (t28 + 1)), ()), (b5, ()))))
 none))
 (cond (b5.2.2.1 == 2)
 (ob (Le t12 x10.2.1) fun r13 =>
 (cond (r13.1 == 1)
 (some (.inr (.inr ((2, x10.1, ()), ()))))
 (some (.inl ((t1, t2, t4, (), t12, t26, t27, (wr .i64 (t28 + 1)), ()), (b5, ()))))))
 (some (.inl ((t1, t2, t4, (), t12, t26, t27, (wr .i64 (t28 + 1)), ()), (b5, ()))))))))))))
 (some (.inr (.inl ((t2, t4, (), ()), (b5, ()))))))
def Ov := Ua fun x : ((Int × (Int × (Int × (Unit × Dz)))) × ZC) => Cs x.1.1 x.1.2.1 x.1.2.2.1 x.1.2.2.2.1 x.1.2.2.2.2.1 x.1.2.2.2.2.2.1 x.1.2.2.2.2.2.2.1 x.1.2.2.2.2.2.2.2.1 x.2.1
def Kx (a0 : Sc) (a1 : Int) (a2 : Int) (a3 : Qd) (a4 : Int) : Option Va :=
 (ob (Nx a0) fun r1 =>
 (cond (!r1.1)
 (some (0, 0, ()))
 (cond (decide (a2 < 0))
 (some (0, 0, ()))
 (cond (decide (a2 > 1000000))
 (some (0, 0, ()))
 (ob (Ov ((a1, a2, a4, (), 0, a3, ((ln a3 : Nat) : Int), 0, ()), (a0, ()))) (se (fun y14 => (cond (decide (y14.1.2.1 ≥ (wr .i64 (y14.1.1 + y14.2.1.1))))
 (some (2, (wr .i64 (y14.1.1 + y14.2.1.1)), ()))
 (some (0, 0, ())))) (fun z15 => (some z15.1))))))))
def NM (a0 : Bb) : Option WI :=
 (ob (Pn a0) fun r1 =>
 (cond (!r1.1)
 (some (a0, ()))
 (cond (a0.1 == 6)
 (some ((2, 0, a0.2.2.1, 0, ()), ()))
 (some ((3, 0, 0, a0.2.2.2.1, ()), ())))))
def Jz (a0 : Int) : Option Vc :=
 (cond (decide (a0 ≥ 1))
 (cond (decide (a0 ≤ 36))
 (some (true, ()))
 (cond (a0 == 39)
 (some (true, ()))
 (some ((a0 == 42), ()))))
 (cond (a0 == 39)
 (some (true, ()))
 (some ((a0 == 42), ()))))
def Qr (a0 : Gb) (a1 : Bb) : Option (Gb × WI) :=
 (cond (a1.1 == 2)
 (cond (a1.2.1 == 0)
 (some (a0, (a1, ())))
 (cond a0.2.2.2.2.2.1
 (ob (Jz a1.2.1) fun r1 =>
 (cond r1.1
 (cond (decide (a1.2.1 ≤ 26))
 (cond ((Jb .i64 (Rc .i64 a1.2.2.1 a0.2.2.2.2.1) 2) == 0)
 (some ((a0.1, a0.2.1, a0.2.2.1, a0.2.2.2.1, 0, r1.1, a0.2.2.2.2.2.2), ((a1.1, a1.2.1, 2, a1.2.2.2), ())))
 (some ((a0.1, a0.2.1, a0.2.2.1, a0.2.2.2.1, 0, r1.1, a0.2.2.2.2.2.2), ((a1.1, a1.2.1, (Rc .i64 a1.2.2.1 a0.2.2.2.2.1), a1.2.2.2), ()))))
 (some ((a0.1, a0.2.1, a0.2.2.1, a0.2.2.2.1, 0, r1.1, a0.2.2.2.2.2.2), ((a1.1, a1.2.1, (Rc .i64 a1.2.2.1 a0.2.2.2.2.1), a1.2.2.2), ()))))
 (some ((a0.1, a0.2.1, a0.2.2.1, a0.2.2.2.1, 0, r1.1, a0.2.2.2.2.2.2), ((a1.1, a1.2.1, (Rc .i64 a1.2.2.1 a0.2.2.2.2.1), a1.2.2.2), ())))))
 (some ((a0.1, a0.2.1, a0.2.2.1, a0.2.2.2.1, 0, false, a0.2.2.2.2.2.2), ((a1.1, a1.2.1, (Rc .i64 a1.2.2.1 a0.2.2.2.2.1), a1.2.2.2), ())))))
 (cond (a1.1 == 4)
 (cond (decide (0 ≤ a1.2.2.2.1))
 (some ((a0.1, a0.2.1, (Me .i64 a0.2.2.1 (Ta .i64 1 a1.2.2.2.1)), a0.2.2.2), (a1, ())))
 none)
 (cond (a1.1 == 5)
 (cond (decide (0 ≤ a1.2.2.2.1))
 (some ((a0.1, a0.2.1, (Jb .i64 (Ta .i64 1 a1.2.2.2.1) 1), a0.2.2.2), (a1, ())))
 none)
 (cond (a1.1 == 8)
 (cond ((Wa .i64 a0.2.2.2.2.1 a1.2.2.1) == a1.2.2.1)
 (some ((a0.1, a0.2.1, a0.2.2.1, a0.2.2.2.1, (Jb .i64 a0.2.2.2.2.1 a1.2.2.1), a0.2.2.2.2.2), (a1, ())))
 (some ((a0.1, a0.2.1, a0.2.2.1, a0.2.2.2.1, (Rc .i64 a0.2.2.2.2.1 a1.2.2.1), a0.2.2.2.2.2), (a1, ()))))
 (cond (a1.1 == 10)
 (some ((a0.1, a0.2.1, a0.2.2.1, a0.2.2.2.1, a0.2.2.2.2.1, (!a0.2.2.2.2.2.1), a0.2.2.2.2.2.2), (a1, ())))
 (some (a0, (a1, ()))))))))
def Iq (t4 : Unit) (t5 : Unit) (t6 : Te) (t15 : Xd) (t16 : Int) (t17 : Int) (b4 : Ha) (b5 : Ha) : Option (((Unit × (Unit × (Te × Vp))) × ZA) ⊕ Tap) :=
 (cond (decide (t17 < t16))
 (ob (Ab t15 t17) fun x4 =>
 (cond (bl (ln t6 + ln ([x4.1] : List Int)) Sa)
 (some (.inl (((), (), (ap t6 ([x4.1] : List Int)), t15, t16, (wr .i64 (t17 + 1)), ()), (b4, ((Rc .i64 b5.1 x4.2.1), b5.2.1, ()), ()))))
 none))
 (some (.inr (.inl (((), (), t6, ()), (b4, b5, ()))))))
def Cu := Ua fun x : ((Unit × (Unit × (Te × Vp))) × ZA) => Iq x.1.1 x.1.2.1 x.1.2.2.1 x.1.2.2.2.1 x.1.2.2.2.2.1 x.1.2.2.2.2.2.1 x.2.1 x.2.2.1
def Qf (a0 : Ha) (a1 : Xd) : Option FM :=
 (ob (Pp a0.2.1) fun r1 =>
 (ob (Cu (((), (), r1.1, a1, ((ln a1 : Nat) : Int), 0, ()), ((0, [], ()), (a0.1, [], ()), ()))) (se (fun y5 => (ob (Xt y5.1.2.2.1) fun r7 =>
 (some ((y5.2.2.1.1, r7.1, ()), ())))) (fun z6 => none))))
def Ml (t5 : Unit) (t6 : Ck) (t7 : Xd) (t22 : Eh) (t23 : Int) (t24 : Int) (b5 : Ha) : Option (((Unit × (Ck × (Xd × PQ))) × FM) ⊕ Sap) :=
 (cond (decide (t24 < t23))
 (ob (Ab t22 t24) fun x25 =>
 (cond (x25.1 == 0)
 (cond (bl (ln ([] : List Va) + ln t7) Sa)
 (cond (bl (ln (ap [] t7) + ln ([x25.2] : List Va)) Sa)
 (ob (Qf b5 (ap (ap [] t7) ([x25.2] : List Va))) fun r26 =>
 (cond (bl (ln t6 + ln ([r26.1] : List Ha)) Sa)
 (ob (Qf b5 t7) fun r27 =>
 (cond (bl (ln (ap t6 ([r26.1] : List Ha)) + ln ([r27.1] : List Ha)) Sa)
 (some (.inl (((), (ap (ap t6 ([r26.1] : List Ha)) ([r27.1] : List Ha)), t7, t22, t23, (wr .i64 (t24 + 1)), ()), (b5, ()))))
 none))
 none))
 none)
 none)
 (cond (x25.1 == 1)
 (cond (bl (ln t7 + ln ([x25.2] : List Va)) Sa)
 (ob (Qf b5 (ap t7 ([x25.2] : List Va))) fun r28 =>
 (cond (bl (ln t6 + ln ([r28.1] : List Ha)) Sa)
 (some (.inl (((), (ap t6 ([r28.1] : List Ha)), (ap t7 ([x25.2] : List Va)), t22, t23, (wr .i64 (t24 + 1)), ()), (b5, ()))))
 none))
 none)
 (cond (x25.1 == 2)
 (ob (EF t7 x25.2) fun r29 =>
 (cond (Md (ln t7) 0 r29.1)
 (cond (Md (ln t7) (wr .i64 (r29.1 + 1)) ((ln t7 : Nat) : Int))
 (cond (bl (ln (Eb t7 (tn 0) (tn r29.1)) + ln (Eb t7 (tn (wr .i64 (r29.1 + 1))) (tn ((ln t7 : Nat) : Int)))) Sa)
 (ob (Qf b5 (ap (Eb t7 (tn 0) (tn r29.1)) (Eb t7 (tn (wr .i64 (r29.1 + 1))) (tn ((ln t7 : Nat) : Int))))) fun r30 =>
 (cond (bl (ln t6 + ln ([r30.1] : List Ha)) Sa)
 (some (.inl (((), (ap t6 ([r30.1] : List Ha)), (ap (Eb t7 (tn 0) (tn r29.1)) (Eb t7 (tn (wr .i64 (r29.1 + 1))) (tn ((ln t7 : Nat) : Int)))), t22, t23, (wr .i64 (t24 + 1)), ()), (b5, ()))))
 none))
 none)
 none)
 none))
 (ob (Qf b5 t7) fun r31 =>
 (cond (bl (ln t6 + ln ([r31.1] : List Ha)) Sa)
 (some (.inl (((), (ap t6 ([r31.1] : List Ha)), t7, t22, t23, (wr .i64 (t24 + 1)), ()), (b5, ()))))
 none))))))
 (some (.inr (.inl ((t6, ()), ())))))
def Zn := Ua fun x : ((Unit × (Ck × (Xd × PQ))) × FM) => Ml x.1.1 x.1.2.1 x.1.2.2.1 x.1.2.2.2.1 x.1.2.2.2.2.1 x.1.2.2.2.2.2.1 x.2.1
def Sj (a0 : Vd) (a1 : Eh) : Option RT :=
 (ob (Tk a0) fun r1 =>
 (cond (!r1.1)
 (some ([], ()))
 (ob (KB a1) fun r2 =>
 (cond (!r2.1)
 (some ([], ()))
 (ob (Ae a0) fun r3 =>
 (ob (Zn (((), [], [], a1, ((ln a1 : Nat) : Int), 0, ()), (r3.1, ()))) (se (fun y32 => (some (y32.1.1, ()))) (fun z33 => none))))))))
def Uh (a0 : Gb) (a1 : Int) (a2 : Bool) : Option (Gb × RT) :=
 (ob (Nl a0) fun r1 =>
 (ob (Ox a0.2.2.1 a0.2.2.2.1) fun r2 =>
 (ob (PB a0.1 r2.1 a1) fun r3 =>
 (ob (Ab a0.1.2.1 r3.1) fun x4 =>
 (ob (Ab x4 a1) fun x5 =>
 (cond a2
 (ob (NM x5) fun r6 =>
 (ob (Qr r1.1 r6.1) fun r7 =>
 (cond (bl (ln r7.1.2.2.2.1 + ln ([(a1, r7.2.1, ())] : List Pa)) Sa)
 (cond (r7.2.1.1 == 9)
 (cond (decide (r7.2.1.2.2.2.1 < ((ln a0.2.1 : Nat) : Int)))
 (ob (Ab a0.2.1 r7.2.1.2.2.2.1) fun x8 =>
 (ob (Sj (ap r7.1.2.2.2.1 ([(a1, r7.2.1, ())] : List Pa)) x8) fun r9 =>
 (ob (Ae (ap r7.1.2.2.2.1 ([(a1, r7.2.1, ())] : List Pa))) fun r10 =>
 (cond (bl (ln r9.1 + ln ([r10.1] : List Ha)) Sa)
 (ob (Ae a0.2.2.2.1) fun r11 =>
 (ob (Ye r11.1 (ap r9.1 ([r10.1] : List Ha))) fun r12 =>
 (some ((r7.1.1, r7.1.2.1, r7.1.2.2.1, (ap r7.1.2.2.2.1 ([(a1, r7.2.1, ())] : List Pa)), r7.1.2.2.2.2), r12.1, ()))))
 none))))
 (ob (Ae (ap r7.1.2.2.2.1 ([(a1, r7.2.1, ())] : List Pa))) fun r13 =>
 (cond (bl (ln ([] : List Ha) + ln ([r13.1] : List Ha)) Sa)
 (ob (Ae a0.2.2.2.1) fun r14 =>
 (ob (Ye r14.1 (ap [] ([r13.1] : List Ha))) fun r15 =>
 (some ((r7.1.1, r7.1.2.1, r7.1.2.2.1, (ap r7.1.2.2.2.1 ([(a1, r7.2.1, ())] : List Pa)), r7.1.2.2.2.2), r15.1, ()))))
 none)))
 (ob (Ae (ap r7.1.2.2.2.1 ([(a1, r7.2.1, ())] : List Pa))) fun r16 =>
 (cond (bl (ln ([] : List Ha) + ln ([r16.1] : List Ha)) Sa)
 (ob (Ae a0.2.2.2.1) fun r17 =>
 (ob (Ye r17.1 (ap [] ([r16.1] : List Ha))) fun r18 =>
 (some ((r7.1.1, r7.1.2.1, r7.1.2.2.1, (ap r7.1.2.2.2.1 ([(a1, r7.2.1, ())] : List Pa)), r7.1.2.2.2.2), r18.1, ()))))
 none)))
 none)))
 (ob (QO x5) fun r19 =>
 (ob (Qr r1.1 r19.1) fun r20 =>
 (cond (bl (ln r20.1.2.2.2.1 + ln ([(a1, r20.2.1, ())] : List Pa)) Sa)
 (cond (r20.2.1.1 == 9)
 (cond (decide (r20.2.1.2.2.2.1 < ((ln a0.2.1 : Nat) : Int)))
 (ob (Ab a0.2.1 r20.2.1.2.2.2.1) fun x21 =>
 (ob (Sj (ap r20.1.2.2.2.1 ([(a1, r20.2.1, ())] : List Pa)) x21) fun r22 =>
 (ob (Ae (ap r20.1.2.2.2.1 ([(a1, r20.2.1, ())] : List Pa))) fun r23 =>
 (cond (bl (ln r22.1 + ln ([r23.1] : List Ha)) Sa)
 (ob (Ae a0.2.2.2.1) fun r24 =>
 (ob (Ye r24.1 (ap r22.1 ([r23.1] : List Ha))) fun r25 =>
 (some ((r20.1.1, r20.1.2.1, r20.1.2.2.1, (ap r20.1.2.2.2.1 ([(a1, r20.2.1, ())] : List Pa)), r20.1.2.2.2.2), r25.1, ()))))
 none))))
 (ob (Ae (ap r20.1.2.2.2.1 ([(a1, r20.2.1, ())] : List Pa))) fun r26 =>
 (cond (bl (ln ([] : List Ha) + ln ([r26.1] : List Ha)) Sa)
 (ob (Ae a0.2.2.2.1) fun r27 =>
 (ob (Ye r27.1 (ap [] ([r26.1] : List Ha))) fun r28 =>
 (some ((r20.1.1, r20.1.2.1, r20.1.2.2.1, (ap r20.1.2.2.2.1 ([(a1, r20.2.1, ())] : List Pa)), r20.1.2.2.2.2), r28.1, ()))))
 none)))
 (ob (Ae (ap r20.1.2.2.2.1 ([(a1, r20.2.1, ())] : List Pa))) fun r29 =>
 (cond (bl (ln ([] : List Ha) + ln ([r29.1] : List Ha)) Sa)
 (ob (Ae a0.2.2.2.1) fun r30 =>
 (ob (Ye r30.1 (ap [] ([r29.1] : List Ha))) fun r31 =>
 (some ((r20.1.1, r20.1.2.1, r20.1.2.2.1, (ap r20.1.2.2.2.1 ([(a1, r20.2.1, ())] : List Pa)), r20.1.2.2.2.2), r31.1, ()))))
 none)))
 none)))))))))
def Sh (a0 : Hb) : Option (Hb × Qap) :=
 (cond (Af (ln a0.2.2.1) 0)
 (ob a0.2.2.1[(tn 0)]? fun x1 =>
 (cond (Md (ln a0.2.2.1) 1 ((ln a0.2.2.1 : Nat) : Int))
 (cond (!x1.2.2.1)
 (cond (a0.2.2.2.2.2.1 == (wr .i64 (x1.2.1 + 1)))
 (ob (SB a0.1 x1.2.1) fun r2 =>
 (cond (bl (ln ([] : List Ca) + ln (Eb a0.2.2.1 (tn 1) (tn ((ln a0.2.2.1 : Nat) : Int)))) Sa)
 (some ((r2.1, a0.2.1, (ap [] (Eb a0.2.2.1 (tn 1) (tn ((ln a0.2.2.1 : Nat) : Int)))), a0.2.2.2.1, (max a0.2.2.2.2.1 x1.1), a0.2.2.2.2.2.1, x1.1, a0.2.2.2.2.2.2.2), (r2.2.1, true, ())))
 none))
 (ob (SB a0.1 x1.2.1) fun r3 =>
 (cond (bl (ln ([] : List Ca) + ln (Eb a0.2.2.1 (tn 1) (tn ((ln a0.2.2.1 : Nat) : Int)))) Sa)
 (some ((r3.1, a0.2.1, (ap [] (Eb a0.2.2.1 (tn 1) (tn ((ln a0.2.2.1 : Nat) : Int)))), a0.2.2.2.1, (max a0.2.2.2.2.1 x1.1), a0.2.2.2.2.2), (r3.2.1, true, ())))
 none)))
 (ob (Ox a0.1.2.2.1 a0.1.2.2.2.1) fun r4 =>
 (ob (GG a0.1.1 r4.1 x1.2.1) fun r5 =>
 (ob (Pn r5.1) fun r6 =>
 (cond r6.1
 (cond (a0.2.2.2.2.2.1 != (wr .i64 (x1.2.1 + 1)))
 (ob (Kx a0.2.1 x1.2.1 x1.1 (Eb a0.2.2.1 (tn 1) (tn ((ln a0.2.2.1 : Nat) : Int))) a0.2.2.2.1) fun r7 =>
 (cond (r7.1 == 0)
 (some (a0, ([], false, ())))
 (cond (r7.1 == 1)
 (ob (Uh a0.1 x1.2.1 false) fun r8 =>
 (cond (bl (ln ([] : List Ca) + ln (Eb a0.2.2.1 (tn 1) (tn ((ln a0.2.2.1 : Nat) : Int)))) Sa)
 (some ((r8.1, a0.2.1, (ap [] (Eb a0.2.2.1 (tn 1) (tn ((ln a0.2.2.1 : Nat) : Int)))), a0.2.2.2.1, (max (max a0.2.2.2.2.1 x1.1) r7.2.1), (wr .i64 (x1.2.1 + 1)), x1.1, a0.2.2.2.2.2.2.2), (r8.2.1, true, ())))
 none))
 (cond (r7.1 == 2)
 (ob (Uh a0.1 x1.2.1 true) fun r9 =>
 (cond (bl (ln ([] : List Ca) + ln (Eb a0.2.2.1 (tn 1) (tn ((ln a0.2.2.1 : Nat) : Int)))) Sa)
 (some ((r9.1, a0.2.1, (ap [] (Eb a0.2.2.1 (tn 1) (tn ((ln a0.2.2.1 : Nat) : Int)))), a0.2.2.2.1, (max (max a0.2.2.2.2.1 x1.1) r7.2.1), 0, a0.2.2.2.2.2.2), (r9.2.1, true, ())))
 none))
 (ob (Uh a0.1 x1.2.1 false) fun r10 =>
 (cond (bl (ln ([] : List Ca) + ln (Eb a0.2.2.1 (tn 1) (tn ((ln a0.2.2.1 : Nat) : Int)))) Sa)
 (some ((r10.1, a0.2.1, (ap [] (Eb a0.2.2.1 (tn 1) (tn ((ln a0.2.2.1 : Nat) : Int)))), a0.2.2.2.1, (max (max a0.2.2.2.2.1 x1.1) r7.2.1), a0.2.2.2.2.2), (r10.2.1, true, ())))
 none))))))
 (cond (decide ((wr .i64 (x1.1 - a0.2.2.2.2.2.2.1)) ≥ a0.2.1.2.1))
 (ob (Kx a0.2.1 x1.2.1 x1.1 (Eb a0.2.2.1 (tn 1) (tn ((ln a0.2.2.1 : Nat) : Int))) a0.2.2.2.1) fun r11 =>
 (cond (r11.1 == 0)
 (some (a0, ([], false, ())))
 (cond (r11.1 == 1)
 (ob (Uh a0.1 x1.2.1 false) fun r12 =>
 (cond (bl (ln ([] : List Ca) + ln (Eb a0.2.2.1 (tn 1) (tn ((ln a0.2.2.1 : Nat) : Int)))) Sa)
 (some ((r12.1, a0.2.1, (ap [] (Eb a0.2.2.1 (tn 1) (tn ((ln a0.2.2.1 : Nat) : Int)))), a0.2.2.2.1, (max (max a0.2.2.2.2.1 x1.1) r11.2.1), (wr .i64 (x1.2.1 + 1)), x1.1, a0.2.2.2.2.2.2.2), (r12.2.1, true, ())))
 none))
 (cond (r11.1 == 2)
 (ob (Uh a0.1 x1.2.1 true) fun r13 =>
 (cond (bl (ln ([] : List Ca) + ln (Eb a0.2.2.1 (tn 1) (tn ((ln a0.2.2.1 : Nat) : Int)))) Sa)
 (some ((r13.1, a0.2.1, (ap [] (Eb a0.2.2.1 (tn 1) (tn ((ln a0.2.2.1 : Nat) : Int)))), a0.2.2.2.1, (max (max a0.2.2.2.2.1 x1.1) r11.2.1), 0, a0.2.2.2.2.2.2), (r13.2.1, true, ())))
 none))
 (ob (Uh a0.1 x1.2.1 false) fun r14 =>
 (cond (bl (ln ([] : List Ca) + ln (Eb a0.2.2.1 (tn 1) (tn ((ln a0.2.2.1 : Nat) : Int)))) Sa)
 (some ((r14.1, a0.2.1, (ap [] (Eb a0.2.2.1 (tn 1) (tn ((ln a0.2.2.1 : Nat) : Int)))), a0.2.2.2.1, (max (max a0.2.2.2.2.1 x1.1) r11.2.1), a0.2.2.2.2.2), (r14.2.1, true, ())))
 none))))))
 (cond ((1 : Int) == 0)
 (some (a0, ([], false, ())))
 (cond ((1 : Int) == 1)
 (ob (Uh a0.1 x1.2.1 false) fun r15 =>
 (cond (bl (ln ([] : List Ca) + ln (Eb a0.2.2.1 (tn 1) (tn ((ln a0.2.2.1 : Nat) : Int)))) Sa)
 (some ((r15.1, a0.2.1, (ap [] (Eb a0.2.2.1 (tn 1) (tn ((ln a0.2.2.1 : Nat) : Int)))), a0.2.2.2.1, (max (max a0.2.2.2.2.1 x1.1) x1.1), (wr .i64 (x1.2.1 + 1)), x1.1, a0.2.2.2.2.2.2.2), (r15.2.1, true, ())))
 none))
 (cond ((1 : Int) == 2)
 (ob (Uh a0.1 x1.2.1 true) fun r16 =>
 (cond (bl (ln ([] : List Ca) + ln (Eb a0.2.2.1 (tn 1) (tn ((ln a0.2.2.1 : Nat) : Int)))) Sa)
 (some ((r16.1, a0.2.1, (ap [] (Eb a0.2.2.1 (tn 1) (tn ((ln a0.2.2.1 : Nat) : Int)))), a0.2.2.2.1, (max (max a0.2.2.2.2.1 x1.1) x1.1), 0, a0.2.2.2.2.2.2), (r16.2.1, true, ())))
 none))
 (ob (Uh a0.1 x1.2.1 false) fun r17 =>
 (cond (bl (ln ([] : List Ca) + ln (Eb a0.2.2.1 (tn 1) (tn ((ln a0.2.2.1 : Nat) : Int)))) Sa)
 (some ((r17.1, a0.2.1, (ap [] (Eb a0.2.2.1 (tn 1) (tn ((ln a0.2.2.1 : Nat) : Int)))), a0.2.2.2.1, (max (max a0.2.2.2.2.1 x1.1) x1.1), a0.2.2.2.2.2), (r17.2.1, true, ())))
 none)))))))
 (ob (Uh a0.1 x1.2.1 false) fun r18 =>
 (cond (bl (ln ([] : List Ca) + ln (Eb a0.2.2.1 (tn 1) (tn ((ln a0.2.2.1 : Nat) : Int)))) Sa)
 (some ((r18.1, a0.2.1, (ap [] (Eb a0.2.2.1 (tn 1) (tn ((ln a0.2.2.1 : Nat) : Int)))), a0.2.2.2.1, (max a0.2.2.2.2.1 x1.1), a0.2.2.2.2.2), (r18.2.1, true, ())))
 none)))))))
 none))
 none)
def KG (t0 : Cg) (t1 : Int) (t9 : (Ck × Int)) (t10 : Int) (t11 : Int) : Option (((Cg × (Int × ((Ck × Int) × Va))) × Unit) ⊕ (((Cg × Unit) × Unit) ⊕ De)) :=
 (cond (decide (t11 < t10))
 (cond (Af (ln t9.1) t11)
 (cond (Nat.beq (tn t11) (tn t9.2))
 (ob t9.1[(tn t11)]? fun x4 =>
 (cond (bl (ln t0 + ln ([(t1, x4, ())] : List Pe)) Sa)
 (some (.inl (((ap t0 ([(t1, x4, ())] : List Pe)), t1, (t9.1, ((((tn t11) + 1) : Nat) : Int)), t10, (wr .i64 (t11 + 1)), ()), ())))
 none))
 none)
 none)
 (some (.inr (.inl ((t0, ()), ())))))
def SH := Ua fun x : ((Cg × (Int × ((Ck × Int) × Va))) × Unit) => KG x.1.1 x.1.2.1 x.1.2.2.1 x.1.2.2.2.1 x.1.2.2.2.2.1
def DN (a0 : Cg) (a1 : Int) (a2 : Ck) : Option (Cg × Unit) :=
 (ob (SH ((a0, a1, (a2, 0), ((ln a2 : Nat) : Int), 0, ()), ())) (se (fun y5 => (some (y5.1.1, ()))) (fun z6 => none)))
def Fh (t6 : Unit) (t9 : Unit) (t10 : Cg) (b6 : Hb) (b9 : Hb) : Option (Uap ⊕ (Uap ⊕ De)) :=
 (cond (decide (((ln b9.2.2.1 : Nat) : Int) > 0))
 (ob (Sh b9) fun r25 =>
 (cond (!r25.2.2.1)
 (some (.inr (.inl (((), (), t10, ()), (b6, r25.1, ())))))
 (ob (DN t10 r25.1.2.2.2.2.1 r25.2.1) fun r26 =>
 (some (.inl (((), (), r26.1, ()), (b6, r25.1, ())))))))
 (some (.inr (.inl (((), (), t10, ()), (b6, b9, ()))))))
def Jg := Ua fun x : Uap => Fh x.1.1 x.1.2.1 x.1.2.2.1 x.2.1 x.2.2.1
def Lz (a0 : Hb) (a1 : Qd) (a2 : Int) : Option (Hb × QQ) :=
 (ob (Ut a0) fun r1 =>
 (cond (!r1.1)
 (some ((((0, [], ()), [], 0, [], 0, false, ()), (0, 0, 0, ()), [], 0, 0, 0, 0, ()), [], false, ()))
 (cond (decide (a2 < a0.2.2.2.1))
 (some ((((0, [], ()), [], 0, [], 0, false, ()), (0, 0, 0, ()), [], 0, 0, 0, 0, ()), [], false, ()))
 (cond (decide (a2 > 1000000))
 (some ((((0, [], ()), [], 0, [], 0, false, ()), (0, 0, 0, ()), [], 0, 0, 0, 0, ()), [], false, ()))
 (cond (decide (((ln a1 : Nat) : Int) > 0))
 (ob (Ab a1 0) fun x2 =>
 (cond (decide (x2.1 < a0.2.2.2.1))
 (some ((((0, [], ()), [], 0, [], 0, false, ()), (0, 0, 0, ()), [], 0, 0, 0, 0, ()), [], false, ()))
 (ob (Th a1 a2) fun r3 =>
 (cond (!r3.1)
 (some ((((0, [], ()), [], 0, [], 0, false, ()), (0, 0, 0, ()), [], 0, 0, 0, 0, ()), [], false, ()))
 (ob (Jk a0) fun r4 =>
 (cond (bl (ln r4.1.2.2.1 + ln a1) Sa)
 (ob (Yl a0.1.2.2.2.1) fun r5 =>
 (ob (Vh (ap r4.1.2.2.1 a1) r5.1 a0.1.1.1) fun r6 =>
 (cond (!r6.1)
 (some ((((0, [], ()), [], 0, [], 0, false, ()), (0, 0, 0, ()), [], 0, 0, 0, 0, ()), [], false, ()))
 (ob (Jg (((), (), [], ()), ((((0, [], ()), [], 0, [], 0, false, ()), (0, 0, 0, ()), [], 0, 0, 0, 0, ()), (r4.1.1, r4.1.2.1, (ap r4.1.2.2.1 a1), a2, r4.1.2.2.2.2), ()))) (se (fun y15 => (some (y15.2.2.1, y15.1.2.2.1, true, ()))) (fun z16 => none))))))
 none))))))
 (ob (Th a1 a2) fun r17 =>
 (cond (!r17.1)
 (some ((((0, [], ()), [], 0, [], 0, false, ()), (0, 0, 0, ()), [], 0, 0, 0, 0, ()), [], false, ()))
 (ob (Jk a0) fun r18 =>
 (cond (bl (ln r18.1.2.2.1 + ln a1) Sa)
 (ob (Yl a0.1.2.2.2.1) fun r19 =>
 (ob (Vh (ap r18.1.2.2.1 a1) r19.1 a0.1.1.1) fun r20 =>
 (cond (!r20.1)
 (some ((((0, [], ()), [], 0, [], 0, false, ()), (0, 0, 0, ()), [], 0, 0, 0, 0, ()), [], false, ()))
 (ob (Jg (((), (), [], ()), ((((0, [], ()), [], 0, [], 0, false, ()), (0, 0, 0, ()), [], 0, 0, 0, 0, ()), (r18.1.1, r18.1.2.1, (ap r18.1.2.2.1 a1), a2, r18.1.2.2.2.2), ()))) (se (fun y27 => (some (y27.2.2.1, y27.1.2.2.1, true, ()))) (fun z28 => none))))))
 none)))))))))
def RG (a0 : Sc) (a1 : Sc) : Option Vc :=
 (cond (a0.1 != a1.1)
 (some (false, ()))
 (cond (a0.2.1 != a1.2.1)
 (some (false, ()))
 (cond (a0.2.2.1 != a1.2.2.1)
 (some (false, ()))
 (some (true, ())))))
def VM (a0 : Bb) : Option WI :=
 (ob (Mk a0) fun r1 =>
 (cond (!r1.1)
 (some (a0, ()))
 (cond (a0.1 == 6)
 (some ((2, 0, a0.2.2.1, 0, ()), ()))
 (some ((3, 0, 0, a0.2.2.2.1, ()), ())))))
def KQ (t1 : Int) (t2 : Int) (t3 : Unit) (t7 : Int) (b3 : Tb) : Option (Qaa ⊕ ST) :=
 (cond (decide (t7 > 0))
 (cond (decide (0 ≤ t7))
 (cond ((Wa .i64 (Zb .i64 t1 t7) 1) == 1)
 (ob (Ab b3.2.1 t7) fun x7 =>
 (ob (Ab x7 t2) fun x8 =>
 (cond (x8.1 != 1)
 (some (.inr (.inr ((t7, ()), ()))))
 (some (.inl ((t1, t2, (), (wr .i64 (t7 - 1)), ()), (b3, ())))))))
 (some (.inl ((t1, t2, (), (wr .i64 (t7 - 1)), ()), (b3, ())))))
 none)
 (some (.inr (.inl ((), ())))))
def Ki := Ua fun x : Qaa => KQ x.1.1 x.1.2.1 x.1.2.2.1 x.1.2.2.2.1 x.2.1
def KK (a0 : Tb) (a1 : Int) (a2 : Int) : Option Oc :=
 (ob (Yx a0) fun r1 =>
 (cond (!r1.1)
 (some ((-1), ()))
 (ob (Cc a2 0 (wr .i64 (a0.1 - 1))) fun r2 =>
 (cond (!r2.1)
 (some ((-1), ()))
 (ob (Ki ((a1, a2, (), (wr .i64 (((ln a0.2.1 : Nat) : Int) - 1)), ()), (a0, ()))) (se (fun y9 => (some (0, ()))) (fun z10 => (some (z10.1.1, ())))))))))
def Vx (a0 : Tb) (a1 : Int) (a2 : Int) : Option WI :=
 (ob (KK a0 a1 a2) fun r1 =>
 (cond (decide (r1.1 < 0))
 (some ((0, 0, 0, 0, ()), ()))
 (ob (Ab a0.2.1 r1.1) fun x2 =>
 (ob (Ab x2 a2) fun x3 =>
 (some (x3, ()))))))
def Xm (t0 : Zk) (t1 : Int) (t5 : Int) : Option (Zaa ⊕ (((Zk × Oc) × Unit) ⊕ De)) :=
 (cond (decide (t5 < ((ln t0 : Nat) : Int)))
 (cond (Af (ln t0) t5)
 (ob t0[(tn t5)]? fun x9 =>
 (cond (Af (ln (ls t0 (tn t5) (t1, x9.2))) t5)
 (ob (ls t0 (tn t5) (t1, x9.2))[(tn t5)]? fun x10 =>
 (cond (Af (ln (ls (ls t0 (tn t5) (t1, x9.2)) (tn t5) (x10.1, (wr .i64 (t1 + 1)), x10.2.2))) t5)
 (ob (ls (ls t0 (tn t5) (t1, x9.2)) (tn t5) (x10.1, (wr .i64 (t1 + 1)), x10.2.2))[(tn t5)]? fun x11 =>
 (cond (Af (ln (ls (ls (ls t0 (tn t5) (t1, x9.2)) (tn t5) (x10.1, (wr .i64 (t1 + 1)), x10.2.2)) (tn t5) (x11.1, x11.2.1, (wr .i64 ((wr .i64 (t1 + 1)) + 1)), x11.2.2.2))) t5)
 (ob (ls (ls (ls t0 (tn t5) (t1, x9.2)) (tn t5) (x10.1, (wr .i64 (t1 + 1)), x10.2.2)) (tn t5) (x11.1, x11.2.1, (wr .i64 ((wr .i64 (t1 + 1)) + 1)), x11.2.2.2))[(tn t5)]? fun x12 =>
 (some (.inl (((ls (ls (ls (ls t0 (tn t5) (t1, x9.2)) (tn t5) (x10.1, (wr .i64 (t1 + 1)), x10.2.2)) (tn t5) (x11.1, x11.2.1, (wr .i64 ((wr .i64 (t1 + 1)) + 1)), x11.2.2.2)) (tn t5) (x12.1, x12.2.1, x12.2.2.1, (wr .i64 ((wr .i64 ((wr .i64 (t1 + 1)) + 1)) + 1)), x12.2.2.2.2)), (wr .i64 ((wr .i64 ((wr .i64 ((wr .i64 (t1 + 1)) + 1)) + 1)) + 1)), (wr .i64 (t5 + 1)), ()), ()))))
 none))
 none))
 none))
 none)
 (some (.inr (.inl ((t0, t1, ()), ())))))
def EE := Ua fun x : Zaa => Xm x.1.1 x.1.2.1 x.1.2.2.1
def VH (a0 : Zk) (a1 : Int) : Option (Zk × Oc) :=
 (ob (EE ((a0, a1, 0, ()), ())) (se (fun y13 => (some (y13.1.1, (y13.1.2.1, ())))) (fun z14 => none)))
def Rl (t0 : Ri) (t1 : Int) (t5 : Int) : Option ((UI × Unit) ⊕ (((Ri × Oc) × Unit) ⊕ De)) :=
 (cond (decide (t5 < ((ln t0 : Nat) : Int)))
 (cond (Af (ln t0) t5)
 (ob t0[(tn t5)]? fun x5 =>
 (ob (VH x5 t1) fun r6 =>
 (some (.inl (((ls t0 (tn t5) r6.1), r6.2.1, (wr .i64 (t5 + 1)), ()), ())))))
 none)
 (some (.inr (.inl ((t0, t1, ()), ())))))
def ZB := Ua fun x : (UI × Unit) => Rl x.1.1 x.1.2.1 x.1.2.2.1
def RE (a0 : Ri) (a1 : Int) : Option (Ri × Oc) :=
 (ob (ZB ((a0, a1, 0, ()), ())) (se (fun y7 => (some (y7.1.1, (y7.1.2.1, ())))) (fun z8 => none)))
def BA (a0 : Tb) (a1 : Int) : Option (Tb × Oc) :=
 (ob (RE a0.2.1 a1) fun r1 =>
 (some ((a0.1, r1.1, ()), (r1.2.1, ()))))
def UA (t1 : Unit) (t2 : Unit) (t3 : Unit) (t4 : Int) (b1 : Tb) (b2 : Tb) (b3 : Tb) : Option ((LY × (Tb × MY)) ⊕ ((TQ × MY) ⊕ De)) :=
 (cond (decide (t4 < ((ln b1.2.1 : Nat) : Int)))
 (ob (Ab b1.2.1 t4) fun x4 =>
 (cond (bl (ln ([] : List Bb) + ln x4) Sa)
 (cond (bl (ln b3.2.1 + ln ([(ap [] x4)] : List Zk)) Sa)
 (some (.inl (((), (), (), (wr .i64 (t4 + 1)), ()), (b1, b2, (b3.1, (ap b3.2.1 ([(ap [] x4)] : List Zk)), ()), ()))))
 none)
 none))
 (some (.inr (.inl (((), (), ()), (b2, b3, ()))))))
def SC := Ua fun x : (LY × (Tb × MY)) => UA x.1.1 x.1.2.1 x.1.2.2.1 x.1.2.2.2.1 x.2.1 x.2.2.1 x.2.2.2.1
def XM (a0 : Tb) : Option As :=
 (ob (SC (((), (), (), 0, ()), (a0, (0, [], ()), (a0.1, [], ()), ()))) (se (fun y5 => (some (y5.2.2.1, ()))) (fun z6 => none)))
def KA (t0 : Vd) (t3 : Int) (t4 : Int) : Option (SQ ⊕ Qk) :=
 (cond (decide (t4 < ((ln t0 : Nat) : Int)))
 (ob (Ab t0 t4) fun x15 =>
 (ob (Ab t0 t4) fun x16 =>
 (ob (Cc x16.1 0 31) fun r17 =>
 (cond (!r17.1)
 (some (.inr (.inr ((false, ()), ()))))
 (ob (Ab t0 t4) fun x18 =>
 (cond (decide (0 ≤ x18.1))
 (cond ((Wa .i64 (Zb .i64 t3 x18.1) 1) == 1)
 (some (.inr (.inr ((false, ()), ()))))
 (ob (Zj x15.2.1) fun r19 =>
 (cond (!r19.1)
 (some (.inr (.inr ((false, ()), ()))))
 (cond (x15.2.1.1 == 1)
 (some (.inr (.inr ((false, ()), ()))))
 (ob (Mk x15.2.1) fun r20 =>
 (cond r20.1
 (some (.inr (.inr ((false, ()), ()))))
 (ob (Ab t0 t4) fun x21 =>
 (cond (decide (0 ≤ x21.1))
 (some (.inl ((t0, (Rc .i64 t3 (Ta .i64 1 x21.1)), (wr .i64 (t4 + 1)), ()), ())))
 none))))))))
 none))))))
 (some (.inr (.inl ((), ())))))
def JC := Ua fun x : SQ => KA x.1.1 x.1.2.1 x.1.2.2.1
def Sr (a0 : Vd) : Option Vc :=
 (ob (JC ((a0, 0, 0, ()), ())) (se (fun y22 => (some (true, ()))) (fun z23 => (some (z23.1.1, ())))))
def VA (t0 : Vd) (t3 : Unit) (t5 : Int) (b3 : Sc) : Option (((Vd × Mj) × ZC) ⊕ ST) :=
 (cond (decide (t5 < ((ln t0 : Nat) : Int)))
 (ob (Ab t0 t5) fun x5 =>
 (cond (x5.2.1.2.1 == b3.2.1)
 (ob (Ab t0 t5) fun x6 =>
 (cond (x6.2.1.2.2.1 == b3.2.2.1)
 (some (.inr (.inr ((t5, ()), ()))))
 (some (.inl ((t0, (), (wr .i64 (t5 + 1)), ()), (b3, ()))))))
 (some (.inl ((t0, (), (wr .i64 (t5 + 1)), ()), (b3, ()))))))
 (some (.inr (.inl ((), ())))))
def TC := Ua fun x : ((Vd × Mj) × ZC) => VA x.1.1 x.1.2.1 x.1.2.2.1 x.2.1
def Mn (a0 : Vd) (a1 : Sc) : Option Oc :=
 (ob (TC ((a0, (), 0, ()), (a1, ()))) (se (fun y7 => (some ((-1), ()))) (fun z8 => (some (z8.1.1, ())))))
def Tp (a0 : Sc) : Option WI :=
 (some ((2, a0.2.1, a0.2.2.1, 0, ()), ()))
def Gg (a0 : Vd) (a1 : Int) : Option (Vd × Unit) :=
 (cond (Md (ln a0) 0 a1)
 (cond (bl (ln ([] : List Pa) + ln (Eb a0 (tn 0) (tn a1))) Sa)
 (cond (Md (ln a0) (wr .i64 (a1 + 1)) ((ln a0 : Nat) : Int))
 (cond (bl (ln (ap [] (Eb a0 (tn 0) (tn a1))) + ln (Eb a0 (tn (wr .i64 (a1 + 1))) (tn ((ln a0 : Nat) : Int)))) Sa)
 (some ((ap (ap [] (Eb a0 (tn 0) (tn a1))) (Eb a0 (tn (wr .i64 (a1 + 1))) (tn ((ln a0 : Nat) : Int)))), ()))
 none)
 none)
 none)
 none)
def Ko (t0 : Eh) (t3 : Vd) (t4 : Int) : Option (((Eh × (Vd × Oc)) × Unit) ⊕ (((Eh × (Vd × Unit)) × Unit) ⊕ Il)) :=
 (cond (decide (t4 < ((ln t0 : Nat) : Int)))
 (ob (Ab t0 t4) fun x15 =>
 (ob (Mn t3 x15) fun r16 =>
 (ob (Cc x15.1 0 2) fun r17 =>
 (cond (!r17.1)
 (some (.inr (.inr ((false, ()), ()))))
 (ob (Tp x15) fun r18 =>
 (ob (Zj r18.1) fun r19 =>
 (cond (!r19.1)
 (some (.inr (.inr ((false, ()), ()))))
 (cond ((x15.1 == 2) != (decide (r16.1 ≥ 0)))
 (some (.inr (.inr ((false, ()), ()))))
 (cond (x15.1 == 1)
 (ob (Tp x15) fun r20 =>
 (cond (bl (ln t3 + ln ([(0, r20.1, ())] : List Pa)) Sa)
 (some (.inl ((t0, (ap t3 ([(0, r20.1, ())] : List Pa)), (wr .i64 (t4 + 1)), ()), ())))
 none))
 (cond (x15.1 == 2)
 (ob (Gg t3 r16.1) fun r21 =>
 (some (.inl ((t0, r21.1, (wr .i64 (t4 + 1)), ()), ()))))
 (some (.inl ((t0, t3, (wr .i64 (t4 + 1)), ()), ())))))))))))))
 (some (.inr (.inl ((t0, t3, ()), ())))))
def Xy := Ua fun x : ((Eh × (Vd × Oc)) × Unit) => Ko x.1.1 x.1.2.1 x.1.2.2.1
def KC (a0 : Eh) : Option Vc :=
 (ob (Xy ((a0, [], 0, ()), ())) (se (fun y22 => (cond (decide (((ln y22.1.1 : Nat) : Int) ≤ 8))
 (some ((((ln y22.1.2.1 : Nat) : Int) == 0), ()))
 (some (false, ())))) (fun z23 => (some (z23.1.1, ())))))
def At (t1 : Unit) (t3 : Int) (b1 : Gb) : Option ((Mj × Hl) ⊕ ((De × Hl) ⊕ Il)) :=
 (cond (decide (t3 < ((ln b1.2.1 : Nat) : Int)))
 (ob (Ab b1.2.1 t3) fun x7 =>
 (ob (KC x7) fun r8 =>
 (cond (!r8.1)
 (some (.inr (.inr ((false, ()), ()))))
 (some (.inl (((), (wr .i64 (t3 + 1)), ()), (b1, ())))))))
 (some (.inr (.inl (((), ()), (b1, ()))))))
def Bn := Ua fun x : (Mj × Hl) => At x.1.1 x.1.2.1 x.2.1
def Bt (t1 : Unit) (t4 : Int) (b1 : Gb) : Option ((Mj × Hl) ⊕ ((De × Hl) ⊕ Il)) :=
 (cond (decide (t4 < ((ln b1.2.2.2.1 : Nat) : Int)))
 (ob (Ab b1.2.2.2.1 t4) fun x17 =>
 (cond (decide (x17.1 ≥ b1.1.1))
 (some (.inr (.inr ((false, ()), ()))))
 (ob (Ab b1.2.2.2.1 t4) fun x18 =>
 (cond (x18.2.1.1 != 9)
 (ob (Ab b1.2.2.2.1 t4) fun x19 =>
 (cond (decide (x19.2.1.2.2.2.1 ≥ ((ln b1.1.2.1 : Nat) : Int)))
 (some (.inr (.inr ((false, ()), ()))))
 (some (.inl (((), (wr .i64 (t4 + 1)), ()), (b1, ()))))))
 (some (.inl (((), (wr .i64 (t4 + 1)), ()), (b1, ()))))))))
 (some (.inr (.inl (((), ()), (b1, ()))))))
def Cn := Ua fun x : (Mj × Hl) => Bt x.1.1 x.1.2.1 x.2.1
def Sp (a0 : Gb) : Option Vc :=
 (ob (Yx a0.1) fun r1 =>
 (cond (!r1.1)
 (some (false, ()))
 (cond (decide (((ln a0.2.1 : Nat) : Int) > 4))
 (some (false, ()))
 (ob (Sr a0.2.2.2.1) fun r2 =>
 (cond (!r2.1)
 (some (false, ()))
 (ob (Bn (((), 0, ()), (a0, ()))) (se (fun y9 => (ob (Cn (((), 0, ()), (y9.2.1, ()))) (se (fun y20 => (cond (decide (0 ≤ ((ln y20.2.1.1.2.1 : Nat) : Int)))
 (ob (Cc y20.2.1.2.2.1 0 (wr .i64 ((Ta .i64 1 ((ln y20.2.1.1.2.1 : Nat) : Int)) - 1))) fun r22 =>
 (cond r22.1
 (cond ((2 : Int) == 0)
 none
 (cond ((Int.tmod y20.2.1.2.2.1 2) == 0)
 (ob (Cc y20.2.1.2.2.2.2.1 0 15) fun r23 =>
 (some (r23.1, ())))
 (some (false, ()))))
 (some (false, ()))))
 none)) (fun z21 => (some (z21.1.1, ())))))) (fun z10 => (some (z10.1.1, ()))))))))))
def WA (t1 : Unit) (t2 : Unit) (t3 : Unit) (t4 : Int) (b1 : Gb) (b2 : Gb) (b3 : Gb) : Option ((LY × (Gb × Pap)) ⊕ (((Unit × TQ) × (Gb × Pap)) ⊕ De)) :=
 (cond (decide (t4 < ((ln b1.2.1 : Nat) : Int)))
 (ob (Ab b1.2.1 t4) fun x4 =>
 (cond (bl (ln ([] : List Sc) + ln x4) Sa)
 (cond (bl (ln b3.2.1 + ln ([(ap [] x4)] : List Eh)) Sa)
 (some (.inl (((), (), (), (wr .i64 (t4 + 1)), ()), (b1, b2, (b3.1, (ap b3.2.1 ([(ap [] x4)] : List Eh)), b3.2.2), ()))))
 none)
 none))
 (some (.inr (.inl (((), (), (), ()), (b1, b2, b3, ()))))))
def UC := Ua fun x : (LY × (Gb × Pap)) => WA x.1.1 x.1.2.1 x.1.2.2.1 x.1.2.2.2.1 x.2.1 x.2.2.1 x.2.2.2.1
def Nn (a0 : Gb) : Option Hl :=
 (ob (XM a0.1) fun r1 =>
 (ob (UC (((), (), (), 0, ()), (a0, ((0, [], ()), [], 0, [], 0, false, ()), (r1.1, [], a0.2.2), ()))) (se (fun y5 => (cond (bl (ln ([] : List Pa) + ln y5.2.1.2.2.2.1) Sa)
 (some ((y5.2.2.2.1.1, y5.2.2.2.1.2.1, y5.2.2.2.1.2.2.1, (ap [] y5.2.1.2.2.2.1), y5.2.2.2.1.2.2.2.2), ()))
 none)) (fun z6 => none))))
def JA (t1 : Int) (t2 : Unit) (t5 : Int) (b2 : Gb) : Option (((Int × Mj) × Hl) ⊕ ST) :=
 (cond (decide (t5 < ((ln b2.2.2.2.1 : Nat) : Int)))
 (ob (Ab b2.2.2.2.1 t5) fun x3 =>
 (cond (x3.1 == t1)
 (some (.inr (.inr ((t5, ()), ()))))
 (some (.inl ((t1, (), (wr .i64 (t5 + 1)), ()), (b2, ()))))))
 (some (.inr (.inl ((), ())))))
def HC := Ua fun x : ((Int × Mj) × Hl) => JA x.1.1 x.1.2.1 x.1.2.2.1 x.2.1
def XF (a0 : Gb) (a1 : Int) : Option Oc :=
 (ob (HC ((a1, (), 0, ()), (a0, ()))) (se (fun y4 => (some ((-1), ()))) (fun z5 => (some (z5.1.1, ())))))
def Et (t1 : Vd) (t5 : Int) (t6 : Int) : Option (SQ ⊕ YC) :=
 (cond (decide (t6 < ((ln t1 : Nat) : Int)))
 (ob (Sr t1) fun r19 =>
 (cond r19.1
 (ob (Ab t1 t6) fun x20 =>
 (cond (x20.2.1.1 == 3)
 (ob (Ab t1 t6) fun x21 =>
 (cond (decide (0 ≤ x21.2.1.2.2.2.1))
 (some (.inl ((t1, (Rc .i64 t5 (Ta .i64 1 x21.2.1.2.2.2.1)), (wr .i64 (t6 + 1)), ()), ())))
 none))
 (some (.inl ((t1, t5, (wr .i64 (t6 + 1)), ()), ())))))
 (some (.inr (.inl ((t5, ()), ()))))))
 (some (.inr (.inl ((t5, ()), ())))))
def Fn := Ua fun x : SQ => Et x.1.1 x.1.2.1 x.1.2.2.1
def Cy (a0 : Int) (a1 : Vd) : Option Oc :=
 (ob (Cc a0 0 15) fun r1 =>
 (cond r1.1
 (ob (Fn ((a1, (Rc .i64 1 a0), 0, ()), ())) (se (fun y11 => (some (y11.1.1, ()))) (fun z12 => none)))
 (ob (Fn ((a1, 1, 0, ()), ())) (se (fun y22 => (some (y22.1.1, ()))) (fun z23 => none)))))
def LA (a0 : Int) : Option Vc :=
 (ob (Cc a0 1 36) fun r1 =>
 (cond r1.1
 (some (true, ()))
 (cond (a0 == 39)
 (some (true, ()))
 (some ((a0 == 42), ())))))
def FV (a0 : Gb) (a1 : Bb) : Option (Gb × WI) :=
 (ob (LA a1.2.1) fun r1 =>
 (cond (!r1.1)
 (some ((a0.1, a0.2.1, a0.2.2.1, a0.2.2.2.1, 0, false, a0.2.2.2.2.2.2), ((a1.1, a1.2.1, (Rc .i64 a1.2.2.1 a0.2.2.2.2.1), a1.2.2.2), ())))
 (cond a0.2.2.2.2.2.1
 (cond (decide (a1.2.1 ≤ 26))
 (cond ((Jb .i64 (Rc .i64 a1.2.2.1 a0.2.2.2.2.1) 2) == 0)
 (some ((a0.1, a0.2.1, a0.2.2.1, a0.2.2.2.1, 0, a0.2.2.2.2.2), ((a1.1, a1.2.1, 2, a1.2.2.2), ())))
 (some ((a0.1, a0.2.1, a0.2.2.1, a0.2.2.2.1, 0, a0.2.2.2.2.2), ((a1.1, a1.2.1, (Rc .i64 a1.2.2.1 a0.2.2.2.2.1), a1.2.2.2), ()))))
 (some ((a0.1, a0.2.1, a0.2.2.1, a0.2.2.2.1, 0, a0.2.2.2.2.2), ((a1.1, a1.2.1, (Rc .i64 a1.2.2.1 a0.2.2.2.2.1), a1.2.2.2), ()))))
 (some ((a0.1, a0.2.1, a0.2.2.1, a0.2.2.2.1, 0, a0.2.2.2.2.2), ((a1.1, a1.2.1, (Rc .i64 a1.2.2.1 a0.2.2.2.2.1), a1.2.2.2), ()))))))
def Dm (a0 : Gb) (a1 : Bb) : Option (Gb × WI) :=
 (cond (a1.1 == 2)
 (cond (decide (a1.2.1 > 0))
 (ob (FV a0 a1) fun r1 =>
 (some (r1.1, (r1.2.1, ()))))
 (some (a0, (a1, ()))))
 (cond (a1.1 == 4)
 (cond (decide (0 ≤ a1.2.2.2.1))
 (some ((a0.1, a0.2.1, (Me .i64 a0.2.2.1 (Ta .i64 1 a1.2.2.2.1)), a0.2.2.2), (a1, ())))
 none)
 (cond (a1.1 == 5)
 (cond (decide (0 ≤ a1.2.2.2.1))
 (some ((a0.1, a0.2.1, (Jb .i64 (Ta .i64 1 a1.2.2.2.1) 1), a0.2.2.2), (a1, ())))
 none)
 (cond (a1.1 == 8)
 (cond ((Wa .i64 a0.2.2.2.2.1 a1.2.2.1) == a1.2.2.1)
 (some ((a0.1, a0.2.1, a0.2.2.1, a0.2.2.2.1, (Jb .i64 a0.2.2.2.2.1 a1.2.2.1), a0.2.2.2.2.2), (a1, ())))
 (some ((a0.1, a0.2.1, a0.2.2.1, a0.2.2.2.1, (Rc .i64 a0.2.2.2.2.1 a1.2.2.1), a0.2.2.2.2.2), (a1, ()))))
 (cond (a1.1 == 10)
 (some ((a0.1, a0.2.1, a0.2.2.1, a0.2.2.2.1, a0.2.2.2.2.1, (!a0.2.2.2.2.2.1), a0.2.2.2.2.2.2), (a1, ())))
 (some (a0, (a1, ()))))))))
def Ft (t0 : Vd) (t2 : Unit) (t3 : Unit) (t4 : Int) (b2 : Ha) (b3 : Ha) : Option (QT ⊕ (((Vd × TQ) × ZA) ⊕ De)) :=
 (cond (decide (t4 < ((ln t0 : Nat) : Int)))
 (ob (Ab t0 t4) fun x10 =>
 (cond (x10.2.1.1 == 2)
 (ob (Ab t0 t4) fun x11 =>
 (some (.inl ((t0, (), (), (wr .i64 (t4 + 1)), ()), (b2, ((Rc .i64 b3.1 x11.2.1.2.2.1), b3.2.1, ()), ())))))
 (ob (Ab t0 t4) fun x12 =>
 (cond (x12.2.1.1 == 8)
 (ob (Ab t0 t4) fun x13 =>
 (some (.inl ((t0, (), (), (wr .i64 (t4 + 1)), ()), (b2, ((Rc .i64 b3.1 x13.2.1.2.2.1), b3.2.1, ()), ())))))
 (some (.inl ((t0, (), (), (wr .i64 (t4 + 1)), ()), (b2, b3, ()))))))))
 (some (.inr (.inl ((t0, (), (), ()), (b2, b3, ()))))))
def Qw := Ua fun x : QT => Ft x.1.1 x.1.2.1 x.1.2.2.1 x.1.2.2.2.1 x.2.1 x.2.2.1
def Yq (t0 : Vd) (t2 : Unit) (t3 : Unit) (t5 : Int) (t6 : Int) (b2 : Ha) (b3 : Ha) : Option (((Vd × (Unit × Cv)) × ZA) ⊕ (QT ⊕ De)) :=
 (cond (decide (t6 < ((ln t0 : Nat) : Int)))
 (ob (Ab t0 t6) fun x28 =>
 (cond (x28.2.1.2.1 == t5)
 (cond (bl (ln b3.2.1 + ln ([t5] : List Int)) Sa)
 (some (.inr (.inl ((t0, (), (), t5, ()), (b2, (b3.1, (ap b3.2.1 ([t5] : List Int)), ()), ())))))
 none)
 (some (.inl ((t0, (), (), t5, (wr .i64 (t6 + 1)), ()), (b2, b3, ()))))))
 (some (.inr (.inl ((t0, (), (), t5, ()), (b2, b3, ()))))))
def Ul := Ua fun x : ((Vd × (Unit × Cv)) × ZA) => Yq x.1.1 x.1.2.1 x.1.2.2.1 x.1.2.2.2.1 x.1.2.2.2.2.1 x.2.1 x.2.2.1
def Xq (t0 : Vd) (t2 : Unit) (t3 : Unit) (t5 : Int) (b2 : Ha) (b3 : Ha) : Option (QT ⊕ ((TQ × ZA) ⊕ De)) :=
 (cond (decide (t5 ≤ 56))
 (ob (Ul ((t0, (), (), t5, 0, ()), (b2, b3, ()))) (se (fun y29 => (some (.inl ((y29.1.1, (), (), (wr .i64 (y29.1.2.2.2.1 + 1)), ()), y29.2)))) (fun z30 => (some (.inr (.inr ((), ())))))))
 (some (.inr (.inl (((), (), ()), (b2, b3, ()))))))
def Pu := Ua fun x : QT => Xq x.1.1 x.1.2.1 x.1.2.2.1 x.1.2.2.2.1 x.2.1 x.2.2.1
def Ke (a0 : Vd) : Option FM :=
 (ob (Sr a0) fun r1 =>
 (cond (!r1.1)
 (some ((0, [], ()), ()))
 (ob (Qw ((a0, (), (), 0, ()), ((0, [], ()), (0, [], ()), ()))) (se (fun y14 => (ob (Pu ((y14.1.1, (), (), 1, ()), y14.2)) (se (fun y31 => (some (y31.2.2.1, ()))) (fun z32 => none)))) (fun z15 => none)))))
def Ht (t1 : Vd) (t4 : Unit) (t5 : Unit) (t6 : Int) (b4 : Ha) (b5 : Ha) : Option (QT ⊕ (((Vd × TQ) × ZA) ⊕ De)) :=
 (cond (decide (t6 < ((ln t1 : Nat) : Int)))
 (ob (Ab t1 t6) fun x4 =>
 (some (.inl ((t1, (), (), (wr .i64 (t6 + 1)), ()), (b4, ((Rc .i64 b5.1 x4.2.1.2.2.1), b5.2.1, ()), ())))))
 (some (.inr (.inl ((t1, (), (), ()), (b4, b5, ()))))))
def Zw := Ua fun x : QT => Ht x.1.1 x.1.2.1 x.1.2.2.1 x.1.2.2.2.1 x.2.1 x.2.2.1
def Dr (t1 : Vd) (t4 : Unit) (t5 : Unit) (t7 : Te) (t8 : Int) (t9 : Bool) (t10 : Int) (b4 : Ha) (b5 : Ha) : Option MaD :=
 (cond (decide (t10 < ((ln b5.2.1 : Nat) : Int)))
 (cond t9
 (some (.inl ((t1, (), (), t7, t8, true, (wr .i64 (t10 + 1)), ()), (b4, b5, ()))))
 (cond (Af (ln b5.2.1) t10)
 (ob b5.2.1[(tn t10)]? fun x29 =>
 (some (.inl ((t1, (), (), t7, t8, (x29 == t8), (wr .i64 (t10 + 1)), ()), (b4, b5, ())))))
 none))
 (some (.inr (.inl ((t1, (), (), t7, t8, t9, ()), (b4, b5, ()))))))
def Vl := Ua fun x : Oap => Dr x.1.1 x.1.2.1 x.1.2.2.1 x.1.2.2.2.1 x.1.2.2.2.2.1 x.1.2.2.2.2.2.1 x.1.2.2.2.2.2.2.1 x.2.1 x.2.2.1
def Er (t1 : Vd) (t4 : Unit) (t5 : Unit) (t7 : Te) (t8 : Int) (t9 : Bool) (t11 : Int) (b4 : Ha) (b5 : Ha) : Option MaD :=
 (cond (decide (t11 < ((ln t1 : Nat) : Int)))
 (cond t9
 (some (.inl ((t1, (), (), t7, t8, true, (wr .i64 (t11 + 1)), ()), (b4, b5, ()))))
 (ob (Ab t1 t11) fun x34 =>
 (some (.inl ((t1, (), (), t7, t8, (x34.2.1.2.1 == t8), (wr .i64 (t11 + 1)), ()), (b4, b5, ()))))))
 (some (.inr (.inl ((t1, (), (), t7, t8, t9, ()), (b4, b5, ()))))))
def Wl := Ua fun x : Oap => Er x.1.1 x.1.2.1 x.1.2.2.1 x.1.2.2.2.1 x.1.2.2.2.2.1 x.1.2.2.2.2.2.1 x.1.2.2.2.2.2.2.1 x.2.1 x.2.2.1
def It (t1 : Vd) (t4 : Unit) (t5 : Unit) (t7 : Te) (t8 : Int) (b4 : Ha) (b5 : Ha) : Option (((Vd × (Unit × (Unit × V3))) × ZA) ⊕ Tap) :=
 (cond (decide (t8 ≤ 56))
 (ob (Vl ((t1, (), (), t7, t8, false, 0, ()), (b4, b5, ()))) (se (fun y30 => (ob (Wl ((y30.1.1, (), (), y30.1.2.2.2.1, y30.1.2.2.2.2.1, y30.1.2.2.2.2.2.1, 0, ()), y30.2)) (se (fun y35 => (cond y35.1.2.2.2.2.2.1
 (cond (bl (ln y35.1.2.2.2.1 + ln ([y35.1.2.2.2.2.1] : List Int)) Sa)
 (some (.inl ((y35.1.1, (), (), (ap y35.1.2.2.2.1 ([y35.1.2.2.2.2.1] : List Int)), (wr .i64 (y35.1.2.2.2.2.1 + 1)), ()), y35.2)))
 none)
 (some (.inl ((y35.1.1, (), (), y35.1.2.2.2.1, (wr .i64 (y35.1.2.2.2.2.1 + 1)), ()), y35.2))))) (fun z36 => (some (.inr (.inr ((), ())))))))) (fun z31 => (some (.inr (.inr ((), ())))))))
 (some (.inr (.inl (((), (), t7, ()), (b4, b5, ()))))))
def Ax := Ua fun x : ((Vd × (Unit × (Unit × V3))) × ZA) => It x.1.1 x.1.2.1 x.1.2.2.1 x.1.2.2.2.1 x.1.2.2.2.2.1 x.2.1 x.2.2.1
def Oh (a0 : Vd) (a1 : Vd) : Option FM :=
 (ob (Ke a0) fun r1 =>
 (ob (Zw ((a1, (), (), 0, ()), ((0, [], ()), r1.1, ()))) (se (fun y5 => (ob (Ax ((y5.1.1, (), (), [], 1, ()), y5.2)) (se (fun y37 => (some ((y37.2.2.1.1, y37.1.2.2.1, ()), ()))) (fun z38 => none)))) (fun z6 => none))))
def Tl (t0 : Vd) (t1 : Eh) (t5 : Ck) (t6 : Vd) (t7 : Int) : Option (((Vd × (Eh × (Ck × (Vd × Oc)))) × Unit) ⊕ Sap) :=
 (cond (decide (t7 < ((ln t1 : Nat) : Int)))
 (ob (Ab t1 t7) fun x21 =>
 (cond (x21.1 != 2)
 (ob (Tp x21) fun r22 =>
 (cond (bl (ln t6 + ln ([(0, r22.1, ())] : List Pa)) Sa)
 (ob (Oh t0 (ap t6 ([(0, r22.1, ())] : List Pa))) fun r23 =>
 (cond (bl (ln t5 + ln ([r23.1] : List Ha)) Sa)
 (cond (x21.1 != 1)
 (ob (Mn (ap t6 ([(0, r22.1, ())] : List Pa)) x21) fun r24 =>
 (ob (Gg (ap t6 ([(0, r22.1, ())] : List Pa)) r24.1) fun r25 =>
 (ob (Oh t0 r25.1) fun r26 =>
 (cond (bl (ln (ap t5 ([r23.1] : List Ha)) + ln ([r26.1] : List Ha)) Sa)
 (some (.inl ((t0, t1, (ap (ap t5 ([r23.1] : List Ha)) ([r26.1] : List Ha)), r25.1, (wr .i64 (t7 + 1)), ()), ())))
 none))))
 (some (.inl ((t0, t1, (ap t5 ([r23.1] : List Ha)), (ap t6 ([(0, r22.1, ())] : List Pa)), (wr .i64 (t7 + 1)), ()), ()))))
 none))
 none))
 (cond (x21.1 != 1)
 (ob (Mn t6 x21) fun r27 =>
 (ob (Gg t6 r27.1) fun r28 =>
 (ob (Oh t0 r28.1) fun r29 =>
 (cond (bl (ln t5 + ln ([r29.1] : List Ha)) Sa)
 (some (.inl ((t0, t1, (ap t5 ([r29.1] : List Ha)), r28.1, (wr .i64 (t7 + 1)), ()), ())))
 none))))
 (some (.inl ((t0, t1, t5, t6, (wr .i64 (t7 + 1)), ()), ()))))))
 (some (.inr (.inl ((t5, ()), ())))))
def Lo := Ua fun x : ((Vd × (Eh × (Ck × (Vd × Oc)))) × Unit) => Tl x.1.1 x.1.2.1 x.1.2.2.1 x.1.2.2.2.1 x.1.2.2.2.2.1
def Uj (a0 : Vd) (a1 : Eh) : Option RT :=
 (ob (Sr a0) fun r1 =>
 (cond (!r1.1)
 (some ([], ()))
 (ob (KC a1) fun r2 =>
 (cond (!r2.1)
 (some ([], ()))
 (ob (Lo ((a0, a1, [], [], 0, ()), ())) (se (fun y30 => (some (y30.1.1, ()))) (fun z31 => none)))))))
def Zo (t2 : Unit) (t3 : Unit) (t5 : Int) (b2 : Ha) (b3 : Ha) : Option (((Unit × Mj) × ZA) ⊕ Qk) :=
 (cond (decide (t5 < ((ln b2.2.1 : Nat) : Int)))
 (ob (Ab b2.2.1 t5) fun x5 =>
 (ob (Ab b3.2.1 t5) fun x6 =>
 (cond (x5 != x6)
 (some (.inr (.inr ((false, ()), ()))))
 (some (.inl (((), (), (wr .i64 (t5 + 1)), ()), (b2, b3, ())))))))
 (some (.inr (.inl ((), ())))))
def Tr := Ua fun x : ((Unit × Mj) × ZA) => Zo x.1.1 x.1.2.1 x.1.2.2.1 x.2.1 x.2.2.1
def PA (a0 : Ha) (a1 : Ha) : Option Vc :=
 (cond (a0.1 != a1.1)
 (some (false, ()))
 (cond (((ln a0.2.1 : Nat) : Int) != ((ln a1.2.1 : Nat) : Int))
 (some (false, ()))
 (ob (Tr (((), (), 0, ()), (a0, a1, ()))) (se (fun y7 => (some (true, ()))) (fun z8 => (some (z8.1.1, ())))))))
def Gr (t1 : Ck) (t2 : Unit) (t5 : Ck) (t6 : Int) (b2 : Ha) : Option (((Ck × (Unit × (Ck × Oc))) × FM) ⊕ Sap) :=
 (cond (decide (t6 < ((ln t1 : Nat) : Int)))
 (ob (Ab t1 t6) fun x13 =>
 (ob (PA b2 x13) fun r14 =>
 (cond (!r14.1)
 (ob (Ab t1 t6) fun x15 =>
 (ob (YM x15) fun r16 =>
 (cond (bl (ln t5 + ln ([r16.1] : List Ha)) Sa)
 (ob (Ab t1 t6) fun x17 =>
 (some (.inl ((t1, (), (ap t5 ([r16.1] : List Ha)), (wr .i64 (t6 + 1)), ()), (x17, ())))))
 none)))
 (ob (Ab t1 t6) fun x18 =>
 (some (.inl ((t1, (), t5, (wr .i64 (t6 + 1)), ()), (x18, ()))))))))
 (some (.inr (.inl ((t5, ()), ())))))
def Wu := Ua fun x : ((Ck × (Unit × (Ck × Oc))) × FM) => Gr x.1.1 x.1.2.1 x.1.2.2.1 x.1.2.2.2.1 x.2.1
def Ug (a0 : Ha) (a1 : Ck) : Option RT :=
 (ob (Wu ((a1, (), [], 0, ()), (a0, ()))) (se (fun y19 => (some (y19.1.1, ()))) (fun z20 => none)))
def Yk (a0 : Gb) (a1 : Int) (a2 : Bool) : Option (Gb × Qap) :=
 (ob (Sp a0) fun r1 =>
 (cond (!r1.1)
 (some (((0, [], ()), [], 0, [], 0, false, ()), [], false, ()))
 (ob (Cc a1 0 (wr .i64 (a0.1.1 - 1))) fun r2 =>
 (cond (!r2.1)
 (some (((0, [], ()), [], 0, [], 0, false, ()), [], false, ()))
 (ob (XF a0 a1) fun r3 =>
 (cond (decide (r3.1 ≥ 0))
 (some (((0, [], ()), [], 0, [], 0, false, ()), [], false, ()))
 (ob (Nn a0) fun r4 =>
 (ob (Cy a0.2.2.1 a0.2.2.2.1) fun r5 =>
 (ob (Vx a0.1 r5.1 a1) fun r6 =>
 (cond a2
 (ob (VM r6.1) fun r7 =>
 (ob (Dm r4.1 r7.1) fun r8 =>
 (cond (bl (ln r8.1.2.2.2.1 + ln ([(a1, r8.2.1, ())] : List Pa)) Sa)
 (cond (r8.2.1.1 == 9)
 (cond (decide (r8.2.1.2.2.2.1 < ((ln a0.2.1 : Nat) : Int)))
 (ob (Ab a0.2.1 r8.2.1.2.2.2.1) fun x9 =>
 (ob (Uj (ap r8.1.2.2.2.1 ([(a1, r8.2.1, ())] : List Pa)) x9) fun r10 =>
 (ob (Ke (ap r8.1.2.2.2.1 ([(a1, r8.2.1, ())] : List Pa))) fun r11 =>
 (cond (bl (ln r10.1 + ln ([r11.1] : List Ha)) Sa)
 (ob (Ke a0.2.2.2.1) fun r12 =>
 (ob (Ug r12.1 (ap r10.1 ([r11.1] : List Ha))) fun r13 =>
 (some ((r8.1.1, r8.1.2.1, r8.1.2.2.1, (ap r8.1.2.2.2.1 ([(a1, r8.2.1, ())] : List Pa)), r8.1.2.2.2.2), r13.1, true, ()))))
 none))))
 (ob (Ke (ap r8.1.2.2.2.1 ([(a1, r8.2.1, ())] : List Pa))) fun r14 =>
 (cond (bl (ln ([] : List Ha) + ln ([r14.1] : List Ha)) Sa)
 (ob (Ke a0.2.2.2.1) fun r15 =>
 (ob (Ug r15.1 (ap [] ([r14.1] : List Ha))) fun r16 =>
 (some ((r8.1.1, r8.1.2.1, r8.1.2.2.1, (ap r8.1.2.2.2.1 ([(a1, r8.2.1, ())] : List Pa)), r8.1.2.2.2.2), r16.1, true, ()))))
 none)))
 (ob (Ke (ap r8.1.2.2.2.1 ([(a1, r8.2.1, ())] : List Pa))) fun r17 =>
 (cond (bl (ln ([] : List Ha) + ln ([r17.1] : List Ha)) Sa)
 (ob (Ke a0.2.2.2.1) fun r18 =>
 (ob (Ug r18.1 (ap [] ([r17.1] : List Ha))) fun r19 =>
 (some ((r8.1.1, r8.1.2.1, r8.1.2.2.1, (ap r8.1.2.2.2.1 ([(a1, r8.2.1, ())] : List Pa)), r8.1.2.2.2.2), r19.1, true, ()))))
 none)))
 none)))
 (ob (VO r6.1) fun r20 =>
 (ob (Dm r4.1 r20.1) fun r21 =>
 (cond (bl (ln r21.1.2.2.2.1 + ln ([(a1, r21.2.1, ())] : List Pa)) Sa)
 (cond (r21.2.1.1 == 9)
 (cond (decide (r21.2.1.2.2.2.1 < ((ln a0.2.1 : Nat) : Int)))
 (ob (Ab a0.2.1 r21.2.1.2.2.2.1) fun x22 =>
 (ob (Uj (ap r21.1.2.2.2.1 ([(a1, r21.2.1, ())] : List Pa)) x22) fun r23 =>
 (ob (Ke (ap r21.1.2.2.2.1 ([(a1, r21.2.1, ())] : List Pa))) fun r24 =>
 (cond (bl (ln r23.1 + ln ([r24.1] : List Ha)) Sa)
 (ob (Ke a0.2.2.2.1) fun r25 =>
 (ob (Ug r25.1 (ap r23.1 ([r24.1] : List Ha))) fun r26 =>
 (some ((r21.1.1, r21.1.2.1, r21.1.2.2.1, (ap r21.1.2.2.2.1 ([(a1, r21.2.1, ())] : List Pa)), r21.1.2.2.2.2), r26.1, true, ()))))
 none))))
 (ob (Ke (ap r21.1.2.2.2.1 ([(a1, r21.2.1, ())] : List Pa))) fun r27 =>
 (cond (bl (ln ([] : List Ha) + ln ([r27.1] : List Ha)) Sa)
 (ob (Ke a0.2.2.2.1) fun r28 =>
 (ob (Ug r28.1 (ap [] ([r27.1] : List Ha))) fun r29 =>
 (some ((r21.1.1, r21.1.2.1, r21.1.2.2.1, (ap r21.1.2.2.2.1 ([(a1, r21.2.1, ())] : List Pa)), r21.1.2.2.2.2), r29.1, true, ()))))
 none)))
 (ob (Ke (ap r21.1.2.2.2.1 ([(a1, r21.2.1, ())] : List Pa))) fun r30 =>
 (cond (bl (ln ([] : List Ha) + ln ([r30.1] : List Ha)) Sa)
 (ob (Ke a0.2.2.2.1) fun r31 =>
 (ob (Ug r31.1 (ap [] ([r30.1] : List Ha))) fun r32 =>
 (some ((r21.1.1, r21.1.2.1, r21.1.2.2.1, (ap r21.1.2.2.2.1 ([(a1, r21.2.1, ())] : List Pa)), r21.1.2.2.2.2), r32.1, true, ()))))
 none)))
 none)))))))))))))
def LC (a0 : Gb) (a1 : Int) : Option (Gb × Qap) :=
 (ob (XF a0 a1) fun r1 =>
 (ob (Sp a0) fun r2 =>
 (cond (!r2.1)
 (some (((0, [], ()), [], 0, [], 0, false, ()), [], false, ()))
 (cond (decide (r1.1 < 0))
 (some (((0, [], ()), [], 0, [], 0, false, ()), [], false, ()))
 (ob (Nn a0) fun r3 =>
 (ob (Gg r3.1.2.2.2.1 r1.1) fun r4 =>
 (ob (Ke a0.2.2.2.1) fun r5 =>
 (ob (Ke r4.1) fun r6 =>
 (ob (Ug r5.1 ([r6.1] : List Ha)) fun r7 =>
 (some ((r3.1.1, r3.1.2.1, r3.1.2.2.1, r4.1, r3.1.2.2.2.2), r7.1, true, ())))))))))))
def Vm (t0 : Zk) (t1 : Int) (t5 : Int) : Option (Zaa ⊕ EG) :=
 (cond (decide (t5 < ((ln t0 : Nat) : Int)))
 (ob (Ab t0 t5) fun x9 =>
 (cond (x9.1 != t1)
 (some (.inr (.inr (((-1), ()), ()))))
 (ob (Ab t0 t5) fun x10 =>
 (cond (x10.2.1 != (wr .i64 (t1 + 1)))
 (some (.inr (.inr (((-1), ()), ()))))
 (ob (Ab t0 t5) fun x11 =>
 (cond (x11.2.2.1 != (wr .i64 ((wr .i64 (t1 + 1)) + 1)))
 (some (.inr (.inr (((-1), ()), ()))))
 (ob (Ab t0 t5) fun x12 =>
 (cond (x12.2.2.2.1 != (wr .i64 ((wr .i64 ((wr .i64 (t1 + 1)) + 1)) + 1)))
 (some (.inr (.inr (((-1), ()), ()))))
 (some (.inl ((t0, (wr .i64 ((wr .i64 ((wr .i64 ((wr .i64 (t1 + 1)) + 1)) + 1)) + 1)), (wr .i64 (t5 + 1)), ()), ())))))))))))
 (some (.inr (.inl ((t1, ()), ())))))
def CE := Ua fun x : Zaa => Vm x.1.1 x.1.2.1 x.1.2.2.1
def TH (a0 : Zk) (a1 : Int) : Option Oc :=
 (ob (CE ((a0, a1, 0, ()), ())) (se (fun y13 => (some (y13.1.1, ()))) (fun z14 => (some (z14.1.1, ())))))
def Ql (t0 : Ri) (t1 : Int) (t5 : Int) : Option ((UI × Unit) ⊕ EG) :=
 (cond (decide (t5 < ((ln t0 : Nat) : Int)))
 (ob (Ab t0 t5) fun x5 =>
 (ob (TH x5 t1) fun r6 =>
 (cond (decide (r6.1 < 0))
 (some (.inr (.inr (((-1), ()), ()))))
 (some (.inl ((t0, r6.1, (wr .i64 (t5 + 1)), ()), ()))))))
 (some (.inr (.inl ((t1, ()), ())))))
def YB := Ua fun x : (UI × Unit) => Ql x.1.1 x.1.2.1 x.1.2.2.1
def QE (a0 : Ri) (a1 : Int) : Option Oc :=
 (ob (YB ((a0, a1, 0, ()), ())) (se (fun y7 => (some (y7.1.1, ()))) (fun z8 => (some (z8.1.1, ())))))
def Yz (a0 : Tb) (a1 : Int) : Option Oc :=
 (ob (QE a0.2.1 a1) fun r1 =>
 (cond (decide (r1.1 < 0))
 (some ((-1), ()))
 (some (r1.1, ()))))
def An (t1 : Unit) (t3 : Int) (b1 : Ob) : Option ((Mj × LO) ⊕ ((De × LO) ⊕ Il)) :=
 (cond (decide (t3 < ((ln b1.2.2.2.2.2.1 : Nat) : Int)))
 (ob (Ab b1.2.2.2.2.2.1 t3) fun x8 =>
 (ob (Cc x8 0 99) fun r9 =>
 (cond (!r9.1)
 (some (.inr (.inr ((false, ()), ()))))
 (some (.inl (((), (wr .i64 (t3 + 1)), ()), (b1, ())))))))
 (some (.inr (.inl (((), ()), (b1, ()))))))
def Ip := Ua fun x : (Mj × LO) => An x.1.1 x.1.2.1 x.2.1
def Jo (a0 : Ob) : Option Vc :=
 (ob (Cc a0.1 0 2) fun r1 =>
 (cond (!r1.1)
 (some (false, ()))
 (ob (Cc a0.2.1 1 20) fun r2 =>
 (cond (!r2.1)
 (some (false, ()))
 (ob (Cc a0.2.2.1 1 24) fun r3 =>
 (cond (!r3.1)
 (some (false, ()))
 (cond (((ln a0.2.2.2.2.2.1 : Nat) : Int) != a0.2.2.1)
 (some (false, ()))
 (ob (Ip (((), 0, ()), (a0, ()))) (se (fun y10 => (cond (decide (0 ≤ y10.2.1.2.2.1))
 (ob (Cc y10.2.1.2.2.2.1 0 (wr .i64 ((Ta .i64 1 y10.2.1.2.2.1) - 1))) fun r12 =>
 (cond r12.1
 (cond (decide (0 ≤ y10.2.1.2.2.1))
 (ob (Cc y10.2.1.2.2.2.2.1 0 (wr .i64 ((Ta .i64 1 y10.2.1.2.2.1) - 1))) fun r13 =>
 (some (r13.1, ())))
 none)
 (some (false, ()))))
 none)) (fun z11 => (some (z11.1.1, ()))))))))))))
def Gt (t0 : Int) (t3 : Int) (t4 : Int) : Option (ZC ⊕ YC) :=
 (cond (decide (t4 ≤ 31))
 (cond (decide (0 ≤ t4))
 (some (.inl ((t0, (wr .i64 (t3 + (Wa .i64 (Zb .i64 t0 t4) 1))), (wr .i64 (t4 + 1)), ()), ())))
 none)
 (some (.inr (.inl ((t3, ()), ())))))
def Uw := Ua fun x : ZC => Gt x.1.1 x.1.2.1 x.1.2.2.1
def Dy (a0 : Int) : Option Oc :=
 (ob (Uw ((a0, 0, 0, ()), ())) (se (fun y1 => (some (y1.1.1, ()))) (fun z2 => none)))
def Zs (t0 : Xd) (t3 : Int) (t4 : Int) : Option (HM ⊕ (Dab ⊕ Il)) :=
 (cond (decide (t4 < t3))
 (ob (Ab t0 t4) fun x58 =>
 (ob (Ab t0 t3) fun x59 =>
 (cond (x58.1 == x59.1)
 (some (.inr (.inr ((false, ()), ()))))
 (ob (Ab t0 t4) fun x60 =>
 (ob (Ab t0 t3) fun x61 =>
 (cond (x60.2.1 == x61.2.1)
 (some (.inr (.inr ((false, ()), ()))))
 (some (.inl ((t0, t3, (wr .i64 (t4 + 1)), ()), ())))))))))
 (some (.inr (.inl ((t0, t3, ()), ())))))
def Pw := Ua fun x : HM => Zs x.1.1 x.1.2.1 x.1.2.2.1
def Ys (t0 : Xd) (t3 : Int) : Option (Dab ⊕ (((Xd × Unit) × Unit) ⊕ Il)) :=
 (cond (decide (t3 < ((ln t0 : Nat) : Int)))
 (ob (Ab t0 t3) fun x43 =>
 (ob (Cc x43.1 0 16777215) fun r44 =>
 (cond (!r44.1)
 (some (.inr (.inr ((false, ()), ()))))
 (ob (Ab t0 t3) fun x45 =>
 (ob (Dy x45.1) fun r46 =>
 (ob (Cc r46.1 2 4) fun r47 =>
 (cond (!r47.1)
 (some (.inr (.inr ((false, ()), ()))))
 (ob (Ab t0 t3) fun x48 =>
 (ob (Cc x48.2.1 24 31) fun r49 =>
 (cond (!r49.1)
 (some (.inr (.inr ((false, ()), ()))))
 (ob (Pw ((t0, t3, 0, ()), ())) (se (fun y62 => (some (.inl ((y62.1.1, (wr .i64 (y62.1.2.1 + 1)), ()), ())))) (fun z63 => (some (.inr (.inr ((z63.1.1, ()), ())))))))))))))))))
 (some (.inr (.inl ((t0, ()), ())))))
def Ow := Ua fun x : Dab => Ys x.1.1 x.1.2.1
def Xx (a0 : Xd) : Option Vc :=
 (ob (Ow ((a0, 0, ()), ())) (se (fun y64 => (some ((decide (((ln y64.1.1 : Nat) : Int) ≤ 8)), ()))) (fun z65 => (some (z65.1.1, ())))))
def Xw (t0 : Xd) (t1 : Int) (t5 : Int) : Option (HM ⊕ ST) :=
 (cond (decide (t5 < ((ln t0 : Nat) : Int)))
 (ob (Ab t0 t5) fun x5 =>
 (cond (x5.2.1 == t1)
 (ob (Ab t0 t5) fun x6 =>
 (some (.inr (.inr ((x6.1, ()), ())))))
 (some (.inl ((t0, t1, (wr .i64 (t5 + 1)), ()), ())))))
 (some (.inr (.inl ((), ())))))
def Bz := Ua fun x : HM => Xw x.1.1 x.1.2.1 x.1.2.2.1
def NC (a0 : Xd) (a1 : Int) : Option Oc :=
 (ob (Bz ((a0, a1, 0, ()), ())) (se (fun y7 => (some (0, ()))) (fun z8 => (some (z8.1.1, ())))))
def Bp (t1 : Unit) (t3 : Int) (t4 : Int) (t5 : Unit) (t7 : Int) (b1 : Oa) (b5 : Ca) : Option (((Unit × (Int × (Int × Mj))) × (Oa × Dh)) ⊕ (((Unit × (Int × (Int × De))) × (Oa × Dh)) ⊕ Il)) :=
 (cond (decide (t7 < t4))
 (ob (Ab b1.2.2.2.2.2.2.1 t7) fun x19 =>
 (cond (x19.1 == b5.1)
 (some (.inr (.inr ((false, ()), ()))))
 (some (.inl (((), t3, t4, (), (wr .i64 (t7 + 1)), ()), (b1, b5, ()))))))
 (some (.inr (.inl (((), t3, t4, (), ()), (b1, b5, ()))))))
def Wr := Ua fun x : ((Unit × (Int × (Int × Mj))) × (Oa × Dh)) => Bp x.1.1 x.1.2.1 x.1.2.2.1 x.1.2.2.2.1 x.1.2.2.2.2.1 x.2.1 x.2.2.1
def Ar (t1 : Unit) (t3 : Int) (t4 : Int) (b1 : Oa) : Option (OQ ⊕ ((De × WC) ⊕ Il)) :=
 (cond (decide (t4 < ((ln b1.2.2.2.2.2.2.1 : Nat) : Int)))
 (ob (Ab b1.2.2.2.2.2.2.1 t4) fun x15 =>
 (ob (NC b1.1 x15.1) fun r16 =>
 (cond (decide (x15.2.1 ≤ 0))
 (some (.inr (.inr ((false, ()), ()))))
 (cond ((Jb .i64 x15.2.1 r16.1) != 0)
 (some (.inr (.inr ((false, ()), ()))))
 (cond (x15.2.2.1 != (x15.2.1 == r16.1))
 (some (.inr (.inr ((false, ()), ()))))
 (cond ((Wa .i64 x15.2.1 t3) != 0)
 (some (.inr (.inr ((false, ()), ()))))
 (ob (Wr (((), t3, t4, (), 0, ()), (b1, x15, ()))) (se (fun y20 => (some (.inl (((), (Rc .i64 y20.1.2.1 y20.2.2.1.2.1), (wr .i64 (y20.1.2.2.1 + 1)), ()), (y20.2.1, ()))))) (fun z21 => (some (.inr (.inr ((z21.1.1, ()), ())))))))))))))
 (some (.inr (.inl (((), ()), (b1, ()))))))
def Su := Ua fun x : OQ => Ar x.1.1 x.1.2.1 x.1.2.2.1 x.2.1
def YD (a0 : Oa) : Option Vc :=
 (ob (Su (((), a0.2.2.2.2.2.1, 0, ()), (a0, ()))) (se (fun y22 => (ob (Cc y22.2.1.2.2.2.2.2.1 0 16777215) fun r24 =>
 (some (r24.1, ())))) (fun z23 => (some (z23.1.1, ())))))
def Ww (t1 : Unit) (t3 : Int) (t4 : Int) (b1 : Oa) : Option (OQ ⊕ YC) :=
 (cond (decide (t4 < ((ln b1.2.2.2.2.2.2.1 : Nat) : Int)))
 (ob (Ab b1.2.2.2.2.2.2.1 t4) fun x3 =>
 (some (.inl (((), (Rc .i64 t3 x3.2.1), (wr .i64 (t4 + 1)), ()), (b1, ())))))
 (some (.inr (.inl ((t3, ()), ())))))
def Az := Ua fun x : OQ => Ww x.1.1 x.1.2.1 x.1.2.2.1 x.2.1
def Uu (a0 : Oa) : Option Oc :=
 (ob (Az (((), a0.2.2.2.2.2.1, 0, ()), (a0, ()))) (se (fun y4 => (some (y4.1.1, ()))) (fun z5 => none)))
def Nu (a0 : Ca) : Option Vc :=
 (ob (Cc a0.1 0 1000000) fun r1 =>
 (cond r1.1
 (ob (Cc a0.2.1 0 31) fun r2 =>
 (some (r2.1, ())))
 (some (false, ()))))
def Ap (t0 : Qd) (t1 : Int) (t2 : Int) (t3 : Int) (t9 : Int) : Option (((Qd × Bb) × Unit) ⊕ ((XC × Unit) ⊕ Il)) :=
 (cond (decide (t9 < ((ln t0 : Nat) : Int)))
 (ob (Ab t0 t9) fun x17 =>
 (ob (Nu x17) fun r18 =>
 (cond (!r18.1)
 (some (.inr (.inr ((false, ()), ()))))
 (ob (Ab t0 t9) fun x19 =>
 (cond (decide (x19.2.1 ≥ t2))
 (some (.inr (.inr ((false, ()), ()))))
 (ob (Ab t0 t9) fun x20 =>
 (cond (decide (x20.1 < t3))
 (some (.inr (.inr ((false, ()), ()))))
 (ob (Ab t0 t9) fun x21 =>
 (ob (Ab t0 t9) fun x22 =>
 (cond (decide (0 ≤ x22.2.1))
 (cond (x21.2.2.1 == ((Wa .i64 (Zb .i64 t1 x22.2.1) 1) == 1))
 (some (.inr (.inr ((false, ()), ()))))
 (ob (Ab t0 t9) fun x23 =>
 (ob (Ab t0 t9) fun x24 =>
 (cond (decide (0 ≤ x24.2.1))
 (some (.inl ((t0, (Me .i64 t1 (Ta .i64 1 x24.2.1)), t2, x23.1, (wr .i64 (t9 + 1)), ()), ())))
 none))))
 none))))))))))
 (some (.inr (.inl ((t0, ()), ())))))
def Vr := Ua fun x : ((Qd × Bb) × Unit) => Ap x.1.1 x.1.2.1 x.1.2.2.1 x.1.2.2.2.1 x.1.2.2.2.2.1
def Qj (a0 : Qd) (a1 : Int) (a2 : Int) (a3 : Int) : Option Vc :=
 (ob (Vr ((a0, a1, a2, a3, 0, ()), ())) (se (fun y25 => (some ((decide (((ln y25.1.1 : Nat) : Int) ≤ 64)), ()))) (fun z26 => (some (z26.1.1, ())))))
def Wq (a0 : Oa) : Option Vc :=
 (ob (Xx a0.1) fun r1 =>
 (cond (!r1.1)
 (some (false, ()))
 (ob (Cc a0.2.1 1 200) fun r2 =>
 (cond (!r2.1)
 (some (false, ()))
 (ob (Cc a0.2.2.2.1 0 1000000) fun r3 =>
 (cond (!r3.1)
 (some (false, ()))
 (ob (Cc a0.2.2.2.2.1 0 a0.2.2.2.1) fun r4 =>
 (cond (!r4.1)
 (some (false, ()))
 (ob (YD a0) fun r5 =>
 (cond (!r5.1)
 (some (false, ()))
 (ob (Uu a0) fun r6 =>
 (ob (Qj a0.2.2.1 r6.1 24 0) fun r7 =>
 (cond r7.1
 (cond (((ln a0.2.2.1 : Nat) : Int) == 0)
 (some (true, ()))
 (ob (Ab a0.2.2.1 (wr .i64 (((ln a0.2.2.1 : Nat) : Int) - 1))) fun x8 =>
 (some ((decide (x8.1 ≤ a0.2.2.2.1)), ()))))
 (some (false, ())))))))))))))))
def Tu (a0 : Oa) : Option WC :=
 (cond (bl (ln ([] : List Va) + ln a0.1) Sa)
 (cond (bl (ln ([] : List Ca) + ln a0.2.2.1) Sa)
 (cond (bl (ln ([] : List Ca) + ln a0.2.2.2.2.2.2.1) Sa)
 (some (((ap [] a0.1), a0.2.1, (ap [] a0.2.2.1), a0.2.2.2.1, a0.2.2.2.2.1, a0.2.2.2.2.2.1, (ap [] a0.2.2.2.2.2.2.1), a0.2.2.2.2.2.2.2), ()))
 none)
 none)
 none)
def Ay (a0 : Sc) : Option Vc :=
 (ob (Cc a0.1 1 1000) fun r1 =>
 (cond r1.1
 (ob (Cc a0.2.1 0 1000) fun r2 =>
 (cond r2.1
 (ob (Cc a0.2.2.1 0 2) fun r3 =>
 (some (r3.1, ())))
 (some (false, ()))))
 (some (false, ()))))
def Ur (a0 : Int) : Option Oc :=
 (ob (Cc a0 0 31) fun r1 =>
 (cond (!r1.1)
 (some (0, ()))
 (cond (decide (0 ≤ a0))
 (some ((Ta .i64 1 a0), ()))
 none)))
def Sw (t1 : Unit) (t3 : Int) (t4 : Int) (b1 : Gb) : Option ((Cv × Hl) ⊕ YC) :=
 (cond (decide (t4 < ((ln b1.2.2.2.1 : Nat) : Int)))
 (ob (Ab b1.2.2.2.1 t4) fun x5 =>
 (ob (Ur x5.1) fun r6 =>
 (some (.inl (((), (Rc .i64 t3 r6.1), (wr .i64 (t4 + 1)), ()), (b1, ()))))))
 (some (.inr (.inl ((t3, ()), ())))))
def Yy := Ua fun x : (Cv × Hl) => Sw x.1.1 x.1.2.1 x.1.2.2.1 x.2.1
def Ru (a0 : Gb) : Option Oc :=
 (ob (Yy (((), 0, 0, ()), (a0, ()))) (se (fun y7 => (some (y7.1.1, ()))) (fun z8 => none)))
def Mu (a0 : Hb) : Option Vc :=
 (ob (Sp a0.1) fun r1 =>
 (cond (!r1.1)
 (some (false, ()))
 (ob (Ay a0.2.1) fun r2 =>
 (cond (!r2.1)
 (some (false, ()))
 (ob (Cc a0.2.2.2.1 0 1000000) fun r3 =>
 (cond (!r3.1)
 (some (false, ()))
 (ob (Cc a0.2.2.2.2.1 0 a0.2.2.2.1) fun r4 =>
 (cond (!r4.1)
 (some (false, ()))
 (ob (Ru a0.1) fun r5 =>
 (ob (Qj a0.2.2.1 r5.1 a0.1.1.1 0) fun r6 =>
 (cond (!r6.1)
 (some (false, ()))
 (cond (decide (((ln a0.2.2.1 : Nat) : Int) > 0))
 (ob (Ab a0.2.2.1 (wr .i64 (((ln a0.2.2.1 : Nat) : Int) - 1))) fun x7 =>
 (cond (decide (x7.1 > a0.2.2.2.1))
 (some (false, ()))
 (ob (Cc a0.2.2.2.2.2.1 0 a0.1.1.1) fun r8 =>
 (cond r8.1
 (ob (Cc a0.2.2.2.2.2.2.1 0 a0.2.2.2.1) fun r9 =>
 (some (r9.1, ())))
 (some (false, ()))))))
 (ob (Cc a0.2.2.2.2.2.1 0 a0.1.1.1) fun r10 =>
 (cond r10.1
 (ob (Cc a0.2.2.2.2.2.2.1 0 a0.2.2.2.1) fun r11 =>
 (some (r11.1, ())))
 (some (false, ()))))))))))))))))
def Dp (t0 : Int) (t1 : Qd) (t5 : Int) : Option (((Int × XI) × Unit) ⊕ YC) :=
 (cond (decide (t5 < ((ln t1 : Nat) : Int)))
 (ob (Ab t1 t5) fun x5 =>
 (ob (Ur x5.2.1) fun r6 =>
 (some (.inl (((Me .i64 t0 r6.1), t1, (wr .i64 (t5 + 1)), ()), ())))))
 (some (.inr (.inl ((t0, ()), ())))))
def Xr := Ua fun x : ((Int × XI) × Unit) => Dp x.1.1 x.1.2.1 x.1.2.2.1
def Cr (a0 : Int) (a1 : Qd) : Option Oc :=
 (ob (Xr ((a0, a1, 0, ()), ())) (se (fun y7 => (some (y7.1.1, ()))) (fun z8 => none)))
def RA (t1 : Unit) (t3 : Int) (t4 : Int) (b1 : Oa) : Option (OQ ⊕ YC) :=
 (cond (decide (t4 < ((ln b1.2.2.2.2.2.2.1 : Nat) : Int)))
 (ob (Ab b1.2.2.2.2.2.2.1 t4) fun x7 =>
 (cond x7.2.2.1
 (ob (Ab b1.2.2.2.2.2.2.1 t4) fun x8 =>
 (ob (Ur x8.1) fun r9 =>
 (some (.inl (((), (Rc .i64 t3 r9.1), (wr .i64 (t4 + 1)), ()), (b1, ()))))))
 (some (.inl (((), t3, (wr .i64 (t4 + 1)), ()), (b1, ()))))))
 (some (.inr (.inl ((t3, ()), ())))))
def PC := Ua fun x : OQ => RA x.1.1 x.1.2.1 x.1.2.2.1 x.2.1
def WM (a0 : Oa) : Option Oc :=
 (ob (PC (((), a0.2.2.2.2.2.1, 0, ()), (a0, ()))) (se (fun y10 => (some (y10.1.1, ()))) (fun z11 => none)))
def Nw (t1 : Unit) (t4 : Int) (t5 : Int) (b1 : Bc) : Option ((Cv × Dv) ⊕ ((De × Dv) ⊕ Il)) :=
 (cond (decide (t5 < ((ln b1.2.2.1.1 : Nat) : Int)))
 (ob (Ab b1.2.2.1.1 t5) fun x12 =>
 (ob (Ln b1.1 x12.1) fun r13 =>
 (cond (!r13.1)
 (some (.inr (.inr ((false, ()), ()))))
 (ob (Ab b1.2.2.1.1 t5) fun x14 =>
 (cond (decide (x14.2.1 ≥ t4))
 (some (.inr (.inr ((false, ()), ()))))
 (some (.inl (((), t4, (wr .i64 (t5 + 1)), ()), (b1, ())))))))))
 (some (.inr (.inl (((), ()), (b1, ()))))))
def Wy := Ua fun x : (Cv × Dv) => Nw x.1.1 x.1.2.1 x.1.2.2.1 x.2.1
def IC (a0 : Bc) : Option Vc :=
 (ob (Cm a0.1) fun r1 =>
 (cond (r1.1 == 0)
 (some (false, ()))
 (ob (Jo a0.2.1) fun r2 =>
 (cond (!r2.1)
 (some (false, ()))
 (cond (a0.2.1.2.2.1 != r1.1)
 (some (false, ()))
 (ob (Ln a0.1 a0.2.2.2.2.1) fun r3 =>
 (cond (!r3.1)
 (some (false, ()))
 (ob (Wq a0.2.2.1) fun r4 =>
 (cond (!r4.1)
 (some (false, ()))
 (ob (Mu a0.2.2.2.1) fun r5 =>
 (cond (!r5.1)
 (some (false, ()))
 (cond (decide (a0.2.2.2.1.1.1.1 < r1.1))
 (some (false, ()))
 (ob (Wy (((), a0.2.2.2.1.1.1.1, 0, ()), (a0, ()))) (se (fun y15 => (ob (Cc y15.2.1.2.2.2.2.2.1 0 1000000) fun r17 =>
 (cond (!r17.1)
 (some (false, ()))
 (cond (decide (y15.2.1.2.2.1.2.2.2.1 > y15.2.1.2.2.2.2.2.1))
 (some (false, ()))
 (cond (decide (y15.2.1.2.2.2.1.2.2.2.1 > y15.2.1.2.2.2.2.2.1))
 (some (false, ()))
 (ob (Uu y15.2.1.2.2.1) fun r18 =>
 (ob (Cr r18.1 y15.2.1.2.2.1.2.2.1) fun r19 =>
 (cond (r19.1 == y15.2.1.2.1.2.2.2.1)
 (ob (Ru y15.2.1.2.2.2.1.1) fun r20 =>
 (ob (Cr r20.1 y15.2.1.2.2.2.1.2.2.1) fun r21 =>
 (ob (WM y15.2.1.2.2.1) fun r22 =>
 (some ((r21.1 == r22.1), ())))))
 (some (false, ())))))))))) (fun z16 => (some (z16.1.1, ())))))))))))))))))
def OK (a0 : Bc) : Option Dv :=
 (cond (bl (ln ([] : List Int) + ln a0.2.1.2.2.2.2.2.1) Sa)
 (ob (Tu a0.2.2.1) fun r1 =>
 (ob (Nn a0.2.2.2.1.1) fun r2 =>
 (cond (bl (ln ([] : List Ca) + ln a0.2.2.2.1.2.2.1) Sa)
 (some ((a0.1, (a0.2.1.1, a0.2.1.2.1, a0.2.1.2.2.1, a0.2.1.2.2.2.1, a0.2.1.2.2.2.2.1, (ap [] a0.2.1.2.2.2.2.2.1), a0.2.1.2.2.2.2.2.2), r1.1, (r2.1, a0.2.2.2.1.2.1, (ap [] a0.2.2.2.1.2.2.1), a0.2.2.2.1.2.2.2), a0.2.2.2.2), ()))
 none)))
 none)
def Om (t66 : Te) (t67 : Int) (t68 : Int) : Option ((DG × Unit) ⊕ Qk) :=
 (cond (decide (t68 < t67))
 (ob (Ab t66 t68) fun x3 =>
 (cond (decide (x3 < 0))
 (some (.inr (.inr ((false, ()), ()))))
 (cond (decide (x3 > 99))
 (some (.inr (.inr ((false, ()), ()))))
 (some (.inl ((t66, t67, (wr .i64 (t68 + 1)), ()), ()))))))
 (some (.inr (.inl ((), ())))))
def Hp := Ua fun x : (DG × Unit) => Om x.1.1 x.1.2.1 x.1.2.2.1
def Xn (a0 : Ob) : Option Vc :=
 (cond (decide (a0.1 < 0))
 (some (false, ()))
 (cond (decide (a0.1 > 2))
 (some (false, ()))
 (cond (decide (a0.2.1 < 1))
 (some (false, ()))
 (cond (decide (a0.2.1 > 20))
 (some (false, ()))
 (cond (decide (a0.2.2.1 < 1))
 (some (false, ()))
 (cond (decide (a0.2.2.1 > 24))
 (some (false, ()))
 (cond (((ln a0.2.2.2.2.2.1 : Nat) : Int) != a0.2.2.1)
 (some (false, ()))
 (cond (decide (a0.2.2.2.1 < 0))
 (some (false, ()))
 (cond (decide (0 ≤ a0.2.2.1))
 (cond (decide (a0.2.2.2.1 ≥ (Ta .i64 1 a0.2.2.1)))
 (some (false, ()))
 (cond (decide (a0.2.2.2.2.1 < 0))
 (some (false, ()))
 (cond (decide (0 ≤ a0.2.2.1))
 (cond (decide (a0.2.2.2.2.1 ≥ (Ta .i64 1 a0.2.2.1)))
 (some (false, ()))
 (ob (Hp ((a0.2.2.2.2.2.1, ((ln a0.2.2.2.2.2.1 : Nat) : Int), 0, ()), ())) (se (fun y4 => (some (true, ()))) (fun z5 => (some (z5.1.1, ()))))))
 none)))
 none)))))))))
def M1 (a0 : Int) : Option Oc :=
 (cond (decide ((0 : Int) ≤ 24))
 (ob (Ab Lab (Zb .u32 a0 24)) fun c1 =>
 (cond (decide ((0 : Int) ≤ 16))
 (ob (Ab Lab (Wa .u32 (Zb .u32 a0 16) 255)) fun c2 =>
 (cond (decide ((0 : Int) ≤ 8))
 (ob (Ab Lab (Wa .u32 (Zb .u32 a0 8) 255)) fun c3 =>
 (ob (Ab Lab (Wa .u32 a0 255)) fun c4 =>
 (some ((wr .i64 (wr .u8 ((wr .u8 ((wr .u8 (((UInt8.toNat c1 : Nat) : Int) + ((UInt8.toNat c2 : Nat) : Int))) + ((UInt8.toNat c3 : Nat) : Int))) + ((UInt8.toNat c4 : Nat) : Int)))), ()))))
 none))
 none))
 none)
def JH (a0 : Int) : Option Oc :=
 (cond (decide ((0 : Int) ≤ 1))
 (cond (decide ((0 : Int) ≤ 2))
 (cond (decide ((0 : Int) ≤ 4))
 (cond (decide ((0 : Int) ≤ 8))
 (cond (decide ((0 : Int) ≤ 16))
 (cond (decide ((0 : Int) ≤ 32))
 (some ((Wa .i64 (wr .i64 (wr .u64 ((wr .u64 ((wr .u64 ((Wa .u64 (wr .u64 ((Zb .u64 (wr .u64 ((Wa .u64 (Zb .u64 (wr .u64 ((Wa .u64 (Zb .u64 a0 1) 6148914691236517205) + (Wa .u64 a0 6148914691236517205))) 2) 3689348814741910323) + (Wa .u64 (wr .u64 ((Wa .u64 (Zb .u64 a0 1) 6148914691236517205) + (Wa .u64 a0 6148914691236517205))) 3689348814741910323))) 4) + (wr .u64 ((Wa .u64 (Zb .u64 (wr .u64 ((Wa .u64 (Zb .u64 a0 1) 6148914691236517205) + (Wa .u64 a0 6148914691236517205))) 2) 3689348814741910323) + (Wa .u64 (wr .u64 ((Wa .u64 (Zb .u64 a0 1) 6148914691236517205) + (Wa .u64 a0 6148914691236517205))) 3689348814741910323))))) 1085102592571150095) + (Zb .u64 (Wa .u64 (wr .u64 ((Zb .u64 (wr .u64 ((Wa .u64 (Zb .u64 (wr .u64 ((Wa .u64 (Zb .u64 a0 1) 6148914691236517205) + (Wa .u64 a0 6148914691236517205))) 2) 3689348814741910323) + (Wa .u64 (wr .u64 ((Wa .u64 (Zb .u64 a0 1) 6148914691236517205) + (Wa .u64 a0 6148914691236517205))) 3689348814741910323))) 4) + (wr .u64 ((Wa .u64 (Zb .u64 (wr .u64 ((Wa .u64 (Zb .u64 a0 1) 6148914691236517205) + (Wa .u64 a0 6148914691236517205))) 2) 3689348814741910323) + (Wa .u64 (wr .u64 ((Wa .u64 (Zb .u64 a0 1) 6148914691236517205) + (Wa .u64 a0 6148914691236517205))) 3689348814741910323))))) 1085102592571150095) 8))) + (Zb .u64 (wr .u64 ((Wa .u64 (wr .u64 ((Zb .u64 (wr .u64 ((Wa .u64 (Zb .u64 (wr .u64 ((Wa .u64 (Zb .u64 a0 1) 6148914691236517205) + (Wa .u64 a0 6148914691236517205))) 2) 3689348814741910323) + (Wa .u64 (wr .u64 ((Wa .u64 (Zb .u64 a0 1) 6148914691236517205) + (Wa .u64 a0 6148914691236517205))) 3689348814741910323))) 4) + (wr .u64 ((Wa .u64 (Zb .u64 (wr .u64 ((Wa .u64 (Zb .u64 a0 1) 6148914691236517205) + (Wa .u64 a0 6148914691236517205))) 2) 3689348814741910323) + (Wa .u64 (wr .u64 ((Wa .u64 (Zb .u64 a0 1) 6148914691236517205) + (Wa .u64 a0 6148914691236517205))) 3689348814741910323))))) 1085102592571150095) + (Zb .u64 (Wa .u64 (wr .u64 ((Zb .u64 (wr .u64 ((Wa .u64 (Zb .u64 (wr .u64 ((Wa .u64 (Zb .u64 a0 1) 6148914691236517205) + (Wa .u64 a0 6148914691236517205))) 2) 3689348814741910323) + (Wa .u64 (wr .u64 ((Wa .u64 (Zb .u64 a0 1) 6148914691236517205) + (Wa .u64 a0 6148914691236517205))) 3689348814741910323))) 4) + (wr .u64 ((Wa .u64 (Zb .u64 (wr .u64 ((Wa .u64 (Zb .u64 a0 1) 6148914691236517205) + (Wa .u64 a0 6148914691236517205))) 2) 3689348814741910323) + (Wa .u64 (wr .u64 ((Wa .u64 (Zb .u64 a0 1) 6148914691236517205) + (Wa .u64 a0 6148914691236517205))) 3689348814741910323))))) 1085102592571150095) 8))) 16))) + (Zb .u64 (wr .u64 ((wr .u64 ((Wa .u64 (wr .u64 ((Zb .u64 (wr .u64 ((Wa .u64 (Zb .u64 (wr .u64 ((Wa .u64 (Zb .u64 a0 1) 6148914691236517205) + (Wa .u64 a0 6148914691236517205))) 2) 3689348814741910323) + (Wa .u64 (wr .u64 ((Wa .u64 (Zb .u64 a0 1) 6148914691236517205) + (Wa .u64 a0 6148914691236517205))) 3689348814741910323))) 4) + (wr .u64 ((Wa .u64 (Zb .u64 (wr .u64 ((Wa .u64 (Zb .u64 a0 1) 6148914691236517205) + (Wa .u64 a0 6148914691236517205))) 2) 3689348814741910323) + (Wa .u64 (wr .u64 ((Wa .u64 (Zb .u64 a0 1) 6148914691236517205) + (Wa .u64 a0 6148914691236517205))) 3689348814741910323))))) 1085102592571150095) + (Zb .u64 (Wa .u64 (wr .u64 ((Zb .u64 (wr .u64 ((Wa .u64 (Zb .u64 (wr .u64 ((Wa .u64 (Zb .u64 a0 1) 6148914691236517205) + (Wa .u64 a0 6148914691236517205))) 2) 3689348814741910323) + (Wa .u64 (wr .u64 ((Wa .u64 (Zb .u64 a0 1) 6148914691236517205) + (Wa .u64 a0 6148914691236517205))) 3689348814741910323))) 4) + (wr .u64 ((Wa .u64 (Zb .u64 (wr .u64 ((Wa .u64 (Zb .u64 a0 1) 6148914691236517205) + (Wa .u64 a0 6148914691236517205))) 2) 3689348814741910323) + (Wa .u64 (wr .u64 ((Wa .u64 (Zb .u64 a0 1) 6148914691236517205) + (Wa .u64 a0 6148914691236517205))) 3689348814741910323))))) 1085102592571150095) 8))) + (Zb .u64 (wr .u64 ((Wa .u64 (wr .u64 ((Zb .u64 (wr .u64 ((Wa .u64 (Zb .u64 (wr .u64 ((Wa .u64 (Zb .u64 a0 1) 6148914691236517205) + (Wa .u64 a0 6148914691236517205))) 2) 3689348814741910323) + (Wa .u64 (wr .u64 ((Wa .u64 (Zb .u64 a0 1) 6148914691236517205) + (Wa .u64 a0 6148914691236517205))) 3689348814741910323))) 4) + (wr .u64 ((Wa .u64 (Zb .u64 (wr .u64 ((Wa .u64 (Zb .u64 a0 1) 6148914691236517205) + (Wa .u64 a0 6148914691236517205))) 2) 3689348814741910323) + (Wa .u64 (wr .u64 ((Wa .u64 (Zb .u64 a0 1) 6148914691236517205) + (Wa .u64 a0 6148914691236517205))) 3689348814741910323))))) 1085102592571150095) + (Zb .u64 (Wa .u64 (wr .u64 ((Zb .u64 (wr .u64 ((Wa .u64 (Zb .u64 (wr .u64 ((Wa .u64 (Zb .u64 a0 1) 6148914691236517205) + (Wa .u64 a0 6148914691236517205))) 2) 3689348814741910323) + (Wa .u64 (wr .u64 ((Wa .u64 (Zb .u64 a0 1) 6148914691236517205) + (Wa .u64 a0 6148914691236517205))) 3689348814741910323))) 4) + (wr .u64 ((Wa .u64 (Zb .u64 (wr .u64 ((Wa .u64 (Zb .u64 a0 1) 6148914691236517205) + (Wa .u64 a0 6148914691236517205))) 2) 3689348814741910323) + (Wa .u64 (wr .u64 ((Wa .u64 (Zb .u64 a0 1) 6148914691236517205) + (Wa .u64 a0 6148914691236517205))) 3689348814741910323))))) 1085102592571150095) 8))) 16))) 32)))) 127), ()))
 none)
 none)
 none)
 none)
 none)
 none)
def AD (a0 : Int) : Option Oc :=
 (ob (JH a0) fun r1 =>
 (some (r1.1, ())))
def Bq (t0 : Xd) (t4 : Unit) (t11 : Xd) (t12 : Int) (t13 : Int) (t48 : Xd) (t49 : Int) (t50 : Int) (b4 : Va) : Option (QaD ⊕ (((Xd × Vp) × Unit) ⊕ Il)) :=
 (cond (decide (t50 < t49))
 (ob (Ab t48 t50) fun x19 =>
 (cond (x19.1 == b4.1)
 (some (.inr (.inr ((false, ()), ()))))
 (cond (x19.2.1 == b4.2.1)
 (some (.inr (.inr ((false, ()), ()))))
 (some (.inl ((t0, (), t11, t12, t13, t48, t49, (wr .i64 (t50 + 1)), ()), (b4, ())))))))
 (some (.inr (.inl ((t0, t11, t12, t13, ()), ())))))
def Tt := Ua fun x : QaD => Bq x.1.1 x.1.2.1 x.1.2.2.1 x.1.2.2.2.1 x.1.2.2.2.2.1 x.1.2.2.2.2.2.1 x.1.2.2.2.2.2.2.1 x.1.2.2.2.2.2.2.2.1 x.2.1
def Es (t0 : Xd) (t11 : Xd) (t12 : Int) (t13 : Int) : Option (((Xd × Vp) × Unit) ⊕ Qk) :=
 (cond (decide (t13 < t12))
 (ob (Ab t11 t13) fun x15 =>
 (cond (decide (x15.1 < 0))
 (some (.inr (.inr ((false, ()), ()))))
 (cond (decide (x15.1 > 16777215))
 (some (.inr (.inr ((false, ()), ()))))
 (cond (decide (x15.2.1 < 24))
 (some (.inr (.inr ((false, ()), ()))))
 (cond (decide (x15.2.1 > 31))
 (some (.inr (.inr ((false, ()), ()))))
 (ob (AD (wr .u64 x15.1)) fun r16 =>
 (cond (decide (r16.1 < 2))
 (some (.inr (.inr ((false, ()), ()))))
 (cond (decide (r16.1 > 4))
 (some (.inr (.inr ((false, ()), ()))))
 (cond (Md (ln t0) 0 t13)
 (ob (Tt ((t0, (), t11, t12, t13, (Eb t0 (tn 0) (tn t13)), ((ln (Eb t0 (tn 0) (tn t13)) : Nat) : Int), 0, ()), (x15, ()))) (se (fun y20 => (some (.inl ((y20.1.1, y20.1.2.1, y20.1.2.2.1, (wr .i64 (y20.1.2.2.2.1 + 1)), ()), ())))) (fun z21 => (some (.inr (.inr ((z21.1.1, ()), ())))))))
 none)))))))))
 (some (.inr (.inl ((), ())))))
def Rv := Ua fun x : ((Xd × Vp) × Unit) => Es x.1.1 x.1.2.1 x.1.2.2.1 x.1.2.2.2.1
def Lx (a0 : Xd) : Option Vc :=
 (cond (decide (((ln a0 : Nat) : Int) > 8))
 (some (false, ()))
 (ob (Rv ((a0, a0, ((ln a0 : Nat) : Int), 0, ()), ())) (se (fun y22 => (some (true, ()))) (fun z23 => (some (z23.1.1, ()))))))
def Wv (t1 : Int) (t4 : Unit) (t8 : Xd) (t9 : Int) (t10 : Int) (b4 : Va) : Option (((Int × (Unit × Vp)) × VI) ⊕ ((De × VI) ⊕ ((Unit × Vc) × VI))) :=
 (cond (decide (t10 < t9))
 (ob (Ab t8 t10) fun x3 =>
 (cond (x3.2.1 == t1)
 (some (.inr (.inr (((), true, ()), (x3, ())))))
 (some (.inl ((t1, (), t8, t9, (wr .i64 (t10 + 1)), ()), (b4, ()))))))
 (some (.inr (.inl (((), ()), (b4, ()))))))
def Vy := Ua fun x : ((Int × (Unit × Vp)) × VI) => Wv x.1.1 x.1.2.1 x.1.2.2.1 x.1.2.2.2.1 x.1.2.2.2.2.1 x.2.1
def LB (a0 : Xd) (a1 : Int) : Option (Va × Vc) :=
 (ob (Vy ((a1, (), a0, ((ln a0 : Nat) : Int), 0, ()), ((0, 0, ()), ()))) (se (fun y4 => (some ((0, 0, ()), false, ()))) (fun z5 => (some (z5.2.1, z5.1.2.1, ())))))
def No (t1 : Unit) (t3 : Int) (t9 : Qd) (t10 : Int) (t11 : Int) (b1 : Oa) : Option (((Unit × Dz) × WC) ⊕ Qk) :=
 (cond (decide (t11 < t10))
 (ob (Ab t9 t11) fun x7 =>
 (ob (LB b1.1 x7.1) fun r8 =>
 (cond (!r8.2.1)
 (some (.inr (.inr ((false, ()), ()))))
 (ob (Le t3 x7.1) fun r9 =>
 (cond (r9.1 == 1)
 (some (.inr (.inr ((false, ()), ()))))
 (cond (decide (x7.2.1 ≤ 0))
 (some (.inr (.inr ((false, ()), ()))))
 (cond ((Jb .i64 x7.2.1 r8.1.1) != 0)
 (some (.inr (.inr ((false, ()), ()))))
 (cond (x7.2.2.1 != (x7.2.1 == r8.1.1))
 (some (.inr (.inr ((false, ()), ()))))
 (cond (decide (0 ≤ x7.1))
 (some (.inl (((), (Rc .i64 t3 (Ta .i64 1 x7.1)), t9, t10, (wr .i64 (t11 + 1)), ()), (b1, ()))))
 none)))))))))
 (some (.inr (.inl ((), ())))))
def Lr := Ua fun x : ((Unit × Dz) × WC) => No x.1.1 x.1.2.1 x.1.2.2.1 x.1.2.2.2.1 x.1.2.2.2.2.1 x.2.1
def Mz (a0 : Oa) : Option Vc :=
 (ob (Lr (((), 0, a0.2.2.2.2.2.2.1, ((ln a0.2.2.2.2.2.2.1 : Nat) : Int), 0, ()), (a0, ()))) (se (fun y10 => (some (true, ()))) (fun z11 => (some (z11.1.1, ())))))
def Ol (t4 : Int) (t10 : Qd) (t11 : Int) (t12 : Int) : Option ((Dz × Unit) ⊕ (HY ⊕ (Ev × Unit))) :=
 (cond (decide (t12 < t11))
 (ob (Ab t10 t12) fun x3 =>
 (cond ((Wa .i64 t4 x3.2.1) != 0)
 (some (.inr (.inr ((0, false, ()), ()))))
 (some (.inl (((Rc .i64 t4 x3.2.1), t10, t11, (wr .i64 (t12 + 1)), ()), ())))))
 (some (.inr (.inl ((t4, ()), ())))))
def Ao := Ua fun x : (Dz × Unit) => Ol x.1.1 x.1.2.1 x.1.2.2.1 x.1.2.2.2.1
def Ai (a0 : Oa) : Option Ev :=
 (ob (Ao ((a0.2.2.2.2.2.1, a0.2.2.2.2.2.2.1, ((ln a0.2.2.2.2.2.2.1 : Nat) : Int), 0, ()), ())) (se (fun y4 => (some (y4.1.1, true, ()))) (fun z5 => (some z5.1))))
def Aq (a0 : Oa) : Option Vc :=
 (ob (Lx a0.1) fun r1 =>
 (cond (!r1.1)
 (some (false, ()))
 (cond (decide (a0.2.1 < 1))
 (some (false, ()))
 (cond (decide (a0.2.1 > 200))
 (some (false, ()))
 (cond (decide (a0.2.2.2.1 < 0))
 (some (false, ()))
 (cond (decide (a0.2.2.2.1 > 1000000))
 (some (false, ()))
 (cond (decide (a0.2.2.2.2.1 < 0))
 (some (false, ()))
 (cond (decide (a0.2.2.2.2.1 > a0.2.2.2.1))
 (some (false, ()))
 (cond (decide (a0.2.2.2.2.2.1 < 0))
 (some (false, ()))
 (cond (decide (a0.2.2.2.2.2.1 > 16777215))
 (some (false, ()))
 (ob (Mz a0) fun r2 =>
 (cond (!r2.1)
 (some (false, ()))
 (ob (Ai a0) fun r3 =>
 (cond r3.2.1
 (ob (Vh a0.2.2.1 r3.1 24) fun r4 =>
 (cond r4.1
 (ob (Th a0.2.2.1 a0.2.2.2.1) fun r5 =>
 (some (r5.1, ())))
 (some (false, ()))))
 (some (false, ()))))))))))))))))
def Gq (t0 : Int) (t7 : Qd) (t8 : Int) (t9 : Int) : Option ((Dz × Unit) ⊕ YC) :=
 (cond (decide (t9 < t8))
 (ob (Ab t7 t9) fun x3 =>
 (cond x3.2.2.1
 (cond (decide (0 ≤ x3.2.1))
 (some (.inl (((Rc .i64 t0 (Ta .i64 1 x3.2.1)), t7, t8, (wr .i64 (t9 + 1)), ()), ())))
 none)
 (cond (decide (0 ≤ x3.2.1))
 (some (.inl (((Jb .i64 t0 (Ta .i64 1 x3.2.1)), t7, t8, (wr .i64 (t9 + 1)), ()), ())))
 none)))
 (some (.inr (.inl ((t0, ()), ())))))
def Au := Ua fun x : (Dz × Unit) => Gq x.1.1 x.1.2.1 x.1.2.2.1 x.1.2.2.2.1
def Zt (a0 : Int) (a1 : Qd) : Option Oc :=
 (ob (Au ((a0, a1, ((ln a1 : Nat) : Int), 0, ()), ())) (se (fun y4 => (some (y4.1.1, ()))) (fun z5 => none)))
def Qv (t1 : Unit) (t3 : Int) (t62 : Xd) (t63 : Int) (t64 : Int) (b1 : Bc) : Option (((Unit × (Int × Vp)) × Dv) ⊕ ((De × Dv) ⊕ Il)) :=
 (cond (decide (t64 < t63))
 (ob (Ab t62 t64) fun x12 =>
 (ob (Gn b1.1 x12.1) fun r13 =>
 (cond (!r13.1)
 (some (.inr (.inr ((false, ()), ()))))
 (cond (decide (x12.2.1 ≥ t3))
 (some (.inr (.inr ((false, ()), ()))))
 (some (.inl (((), t3, t62, t63, (wr .i64 (t64 + 1)), ()), (b1, ()))))))))
 (some (.inr (.inl (((), ()), (b1, ()))))))
def Ry := Ua fun x : ((Unit × (Int × Vp)) × Dv) => Qv x.1.1 x.1.2.1 x.1.2.2.1 x.1.2.2.2.1 x.1.2.2.2.2.1 x.2.1
def Ds (t1 : Unit) (t6 : Int) (t8 : Int) (t116 : Qd) (t117 : Int) (t118 : Int) (b1 : Bc) : Option (((Unit × (Int × Dz)) × Dv) ⊕ ((Cv × Dv) ⊕ De)) :=
 (cond (decide (t118 < t117))
 (ob (Ab t116 t118) fun x19 =>
 (cond x19.2.2.1
 (cond (decide (0 ≤ x19.1))
 (some (.inl (((), t6, (Rc .i64 t8 (Ta .i64 1 x19.1)), t116, t117, (wr .i64 (t118 + 1)), ()), (b1, ()))))
 none)
 (some (.inl (((), t6, t8, t116, t117, (wr .i64 (t118 + 1)), ()), (b1, ()))))))
 (some (.inr (.inl (((), t6, t8, ()), (b1, ()))))))
def Nm := Ua fun x : ((Unit × (Int × Dz)) × Dv) => Ds x.1.1 x.1.2.1 x.1.2.2.1 x.1.2.2.2.1 x.1.2.2.2.2.1 x.1.2.2.2.2.2.1 x.2.1
def IB (a0 : Bc) : Option Vc :=
 (ob (Np a0.1) fun r1 =>
 (cond (!r1.1)
 (some (false, ()))
 (ob (Xn a0.2.1) fun r2 =>
 (cond (!r2.1)
 (some (false, ()))
 (ob (Aq a0.2.2.1) fun r3 =>
 (cond (!r3.1)
 (some (false, ()))
 (ob (Ut a0.2.2.2.1) fun r4 =>
 (cond (!r4.1)
 (some (false, ()))
 (ob (Xj a0.1) fun r5 =>
 (cond (a0.2.1.2.2.1 != r5.1)
 (some (false, ()))
 (ob (Xj a0.1) fun r6 =>
 (cond (decide (a0.2.2.2.1.1.1.1 < r6.1))
 (some (false, ()))
 (ob (Gn a0.1 a0.2.2.2.2.1) fun r7 =>
 (cond (!r7.1)
 (some (false, ()))
 (ob (Ry (((), a0.2.2.2.1.1.1.1, a0.2.2.1.1, ((ln a0.2.2.1.1 : Nat) : Int), 0, ()), (a0, ()))) (se (fun y14 => (cond (decide (y14.2.1.2.2.2.2.2.1 < 0))
 (some (false, ()))
 (cond (decide (y14.2.1.2.2.2.2.2.1 > 1000000))
 (some (false, ()))
 (cond (decide (y14.2.1.2.2.1.2.2.2.1 > y14.2.1.2.2.2.2.2.1))
 (some (false, ()))
 (cond (decide (y14.2.1.2.2.2.1.2.2.2.1 > y14.2.1.2.2.2.2.2.1))
 (some (false, ()))
 (ob (Ai y14.2.1.2.2.1) fun r16 =>
 (ob (Nm (((), r16.1, y14.2.1.2.2.1.2.2.2.2.2.1, y14.2.1.2.2.1.2.2.2.2.2.2.1, ((ln y14.2.1.2.2.1.2.2.2.2.2.2.1 : Nat) : Int), 0, ()), (y14.2.1, ()))) (se (fun y20 => (ob (Zt y20.1.2.1 y20.2.1.2.2.1.2.2.1) fun r22 =>
 (cond (r22.1 == y20.2.1.2.1.2.2.2.1)
 (ob (Yl y20.2.1.2.2.2.1.1.2.2.2.1) fun r23 =>
 (ob (Zt r23.1 y20.2.1.2.2.2.1.2.2.1) fun r24 =>
 (some ((r24.1 == y20.1.2.2.1), ()))))
 (some (false, ()))))) (fun z21 => none))))))))) (fun z15 => (some (z15.1.1, ())))))))))))))))))))
def Tj (a0 : Oa) : Option WC :=
 (cond (bl (ln ([] : List Va) + ln a0.1) Sa)
 (cond (bl (ln ([] : List Ca) + ln a0.2.2.1) Sa)
 (cond (bl (ln ([] : List Ca) + ln a0.2.2.2.2.2.2.1) Sa)
 (some (((ap [] a0.1), a0.2.1, (ap [] a0.2.2.1), a0.2.2.2.1, a0.2.2.2.2.1, a0.2.2.2.2.2.1, (ap [] a0.2.2.2.2.2.2.1), a0.2.2.2.2.2.2.2), ()))
 none)
 none)
 none)
def DD (a0 : Bc) : Option Dv :=
 (ob (Pp a0.2.1.2.2.2.2.2.1) fun r1 =>
 (ob (Tj a0.2.2.1) fun r2 =>
 (ob (Jk a0.2.2.2.1) fun r3 =>
 (some ((a0.1, (a0.2.1.1, a0.2.1.2.1, a0.2.1.2.2.1, a0.2.1.2.2.2.1, a0.2.1.2.2.2.2.1, r1.1, a0.2.1.2.2.2.2.2.2), r2.1, r3.1, a0.2.2.2.2), ())))))
def Xi (t1 : Int) (t2 : Unit) (t4 : Unit) (t6 : Unit) (t27 : Te) (t28 : Int) (t29 : Int) (b2 : Ob) (b4 : Ob) (b6 : Ob) : Option (((Int × (Unit × (Unit × TT))) × Saa) ⊕ (((Int × TQ) × (Ob × LO)) ⊕ De)) :=
 (cond (decide (t29 < t28))
 (ob (Ab t27 t29) fun x53 =>
 (cond (b2.1 == 0)
 (ob (Le t1 t29) fun r54 =>
 (ob (Le b2.2.2.2.2.1 t29) fun r55 =>
 (cond (r54.1 != r55.1)
 (cond (decide (1 ≥ b2.2.1))
 (ob (Le t1 t29) fun r56 =>
 (ob (Le b2.2.2.2.1 t29) fun r57 =>
 (cond (r56.1 != r57.1)
 (cond (decide (0 ≤ t29))
 (cond (b2.1 == 2)
 (cond (bl (ln b6.2.2.2.2.2.1 + ln ([0] : List Int)) Sa)
 (some (.inl ((t1, (), (), (), t27, t28, (wr .i64 (t29 + 1)), ()), (b2, b4, (b6.1, b6.2.1, b6.2.2.1, (Me .i64 b6.2.2.2.1 (Ta .i64 1 t29)), b6.2.2.2.2.1, (ap b6.2.2.2.2.2.1 ([0] : List Int)), b6.2.2.2.2.2.2), ()))))
 none)
 (cond (bl (ln b6.2.2.2.2.2.1 + ln ([1] : List Int)) Sa)
 (some (.inl ((t1, (), (), (), t27, t28, (wr .i64 (t29 + 1)), ()), (b2, b4, (b6.1, b6.2.1, b6.2.2.1, (Me .i64 b6.2.2.2.1 (Ta .i64 1 t29)), b6.2.2.2.2.1, (ap b6.2.2.2.2.2.1 ([1] : List Int)), b6.2.2.2.2.2.2), ()))))
 none))
 none)
 (cond (bl (ln b6.2.2.2.2.2.1 + ln ([1] : List Int)) Sa)
 (some (.inl ((t1, (), (), (), t27, t28, (wr .i64 (t29 + 1)), ()), (b2, b4, (b6.1, b6.2.1, b6.2.2.1, b6.2.2.2.1, b6.2.2.2.2.1, (ap b6.2.2.2.2.2.1 ([1] : List Int)), b6.2.2.2.2.2.2), ()))))
 none))))
 (cond (bl (ln b6.2.2.2.2.2.1 + ln ([1] : List Int)) Sa)
 (some (.inl ((t1, (), (), (), t27, t28, (wr .i64 (t29 + 1)), ()), (b2, b4, (b6.1, b6.2.1, b6.2.2.1, b6.2.2.2.1, b6.2.2.2.2.1, (ap b6.2.2.2.2.2.1 ([1] : List Int)), b6.2.2.2.2.2.2), ()))))
 none))
 (cond (b2.1 == 1)
 (cond (t1 != b2.2.2.2.2.1)
 (cond (decide (1 ≥ b2.2.1))
 (ob (Le t1 t29) fun r58 =>
 (ob (Le b2.2.2.2.1 t29) fun r59 =>
 (cond (r58.1 != r59.1)
 (cond (decide (0 ≤ t29))
 (cond (b2.1 == 2)
 (cond (bl (ln b6.2.2.2.2.2.1 + ln ([0] : List Int)) Sa)
 (some (.inl ((t1, (), (), (), t27, t28, (wr .i64 (t29 + 1)), ()), (b2, b4, (b6.1, b6.2.1, b6.2.2.1, (Me .i64 b6.2.2.2.1 (Ta .i64 1 t29)), b6.2.2.2.2.1, (ap b6.2.2.2.2.2.1 ([0] : List Int)), b6.2.2.2.2.2.2), ()))))
 none)
 (cond (bl (ln b6.2.2.2.2.2.1 + ln ([1] : List Int)) Sa)
 (some (.inl ((t1, (), (), (), t27, t28, (wr .i64 (t29 + 1)), ()), (b2, b4, (b6.1, b6.2.1, b6.2.2.1, (Me .i64 b6.2.2.2.1 (Ta .i64 1 t29)), b6.2.2.2.2.1, (ap b6.2.2.2.2.2.1 ([1] : List Int)), b6.2.2.2.2.2.2), ()))))
 none))
 none)
 (cond (bl (ln b6.2.2.2.2.2.1 + ln ([1] : List Int)) Sa)
 (some (.inl ((t1, (), (), (), t27, t28, (wr .i64 (t29 + 1)), ()), (b2, b4, (b6.1, b6.2.1, b6.2.2.1, b6.2.2.2.1, b6.2.2.2.2.1, (ap b6.2.2.2.2.2.1 ([1] : List Int)), b6.2.2.2.2.2.2), ()))))
 none))))
 (cond (bl (ln b6.2.2.2.2.2.1 + ln ([1] : List Int)) Sa)
 (some (.inl ((t1, (), (), (), t27, t28, (wr .i64 (t29 + 1)), ()), (b2, b4, (b6.1, b6.2.1, b6.2.2.1, b6.2.2.2.1, b6.2.2.2.2.1, (ap b6.2.2.2.2.2.1 ([1] : List Int)), b6.2.2.2.2.2.2), ()))))
 none))
 (cond (decide ((min (wr .i64 (x53 + 1)) 99) ≥ b2.2.1))
 (ob (Le t1 t29) fun r60 =>
 (ob (Le b2.2.2.2.1 t29) fun r61 =>
 (cond (r60.1 != r61.1)
 (cond (decide (0 ≤ t29))
 (cond (b2.1 == 2)
 (cond (bl (ln b6.2.2.2.2.2.1 + ln ([0] : List Int)) Sa)
 (some (.inl ((t1, (), (), (), t27, t28, (wr .i64 (t29 + 1)), ()), (b2, b4, (b6.1, b6.2.1, b6.2.2.1, (Me .i64 b6.2.2.2.1 (Ta .i64 1 t29)), b6.2.2.2.2.1, (ap b6.2.2.2.2.2.1 ([0] : List Int)), b6.2.2.2.2.2.2), ()))))
 none)
 (cond (bl (ln b6.2.2.2.2.2.1 + ln ([(min (wr .i64 (x53 + 1)) 99)] : List Int)) Sa)
 (some (.inl ((t1, (), (), (), t27, t28, (wr .i64 (t29 + 1)), ()), (b2, b4, (b6.1, b6.2.1, b6.2.2.1, (Me .i64 b6.2.2.2.1 (Ta .i64 1 t29)), b6.2.2.2.2.1, (ap b6.2.2.2.2.2.1 ([(min (wr .i64 (x53 + 1)) 99)] : List Int)), b6.2.2.2.2.2.2), ()))))
 none))
 none)
 (cond (bl (ln b6.2.2.2.2.2.1 + ln ([(min (wr .i64 (x53 + 1)) 99)] : List Int)) Sa)
 (some (.inl ((t1, (), (), (), t27, t28, (wr .i64 (t29 + 1)), ()), (b2, b4, (b6.1, b6.2.1, b6.2.2.1, b6.2.2.2.1, b6.2.2.2.2.1, (ap b6.2.2.2.2.2.1 ([(min (wr .i64 (x53 + 1)) 99)] : List Int)), b6.2.2.2.2.2.2), ()))))
 none))))
 (cond (bl (ln b6.2.2.2.2.2.1 + ln ([(min (wr .i64 (x53 + 1)) 99)] : List Int)) Sa)
 (some (.inl ((t1, (), (), (), t27, t28, (wr .i64 (t29 + 1)), ()), (b2, b4, (b6.1, b6.2.1, b6.2.2.1, b6.2.2.2.1, b6.2.2.2.2.1, (ap b6.2.2.2.2.2.1 ([(min (wr .i64 (x53 + 1)) 99)] : List Int)), b6.2.2.2.2.2.2), ()))))
 none)))
 (cond (decide ((min (wr .i64 (x53 + 1)) 99) ≥ b2.2.1))
 (ob (Le t1 t29) fun r62 =>
 (ob (Le b2.2.2.2.1 t29) fun r63 =>
 (cond (r62.1 != r63.1)
 (cond (decide (0 ≤ t29))
 (cond (b2.1 == 2)
 (cond (bl (ln b6.2.2.2.2.2.1 + ln ([0] : List Int)) Sa)
 (some (.inl ((t1, (), (), (), t27, t28, (wr .i64 (t29 + 1)), ()), (b2, b4, (b6.1, b6.2.1, b6.2.2.1, (Me .i64 b6.2.2.2.1 (Ta .i64 1 t29)), b6.2.2.2.2.1, (ap b6.2.2.2.2.2.1 ([0] : List Int)), b6.2.2.2.2.2.2), ()))))
 none)
 (cond (bl (ln b6.2.2.2.2.2.1 + ln ([(min (wr .i64 (x53 + 1)) 99)] : List Int)) Sa)
 (some (.inl ((t1, (), (), (), t27, t28, (wr .i64 (t29 + 1)), ()), (b2, b4, (b6.1, b6.2.1, b6.2.2.1, (Me .i64 b6.2.2.2.1 (Ta .i64 1 t29)), b6.2.2.2.2.1, (ap b6.2.2.2.2.2.1 ([(min (wr .i64 (x53 + 1)) 99)] : List Int)), b6.2.2.2.2.2.2), ()))))
 none))
 none)
 (cond (bl (ln b6.2.2.2.2.2.1 + ln ([(min (wr .i64 (x53 + 1)) 99)] : List Int)) Sa)
 (some (.inl ((t1, (), (), (), t27, t28, (wr .i64 (t29 + 1)), ()), (b2, b4, (b6.1, b6.2.1, b6.2.2.1, b6.2.2.2.1, b6.2.2.2.2.1, (ap b6.2.2.2.2.2.1 ([(min (wr .i64 (x53 + 1)) 99)] : List Int)), b6.2.2.2.2.2.2), ()))))
 none))))
 (cond (bl (ln b6.2.2.2.2.2.1 + ln ([(min (wr .i64 (x53 + 1)) 99)] : List Int)) Sa)
 (some (.inl ((t1, (), (), (), t27, t28, (wr .i64 (t29 + 1)), ()), (b2, b4, (b6.1, b6.2.1, b6.2.2.1, b6.2.2.2.1, b6.2.2.2.2.1, (ap b6.2.2.2.2.2.1 ([(min (wr .i64 (x53 + 1)) 99)] : List Int)), b6.2.2.2.2.2.2), ()))))
 none))))))
 (cond (b2.1 == 1)
 (cond (t1 != b2.2.2.2.2.1)
 (cond (decide (1 ≥ b2.2.1))
 (ob (Le t1 t29) fun r64 =>
 (ob (Le b2.2.2.2.1 t29) fun r65 =>
 (cond (r64.1 != r65.1)
 (cond (decide (0 ≤ t29))
 (cond (b2.1 == 2)
 (cond (bl (ln b6.2.2.2.2.2.1 + ln ([0] : List Int)) Sa)
 (some (.inl ((t1, (), (), (), t27, t28, (wr .i64 (t29 + 1)), ()), (b2, b4, (b6.1, b6.2.1, b6.2.2.1, (Me .i64 b6.2.2.2.1 (Ta .i64 1 t29)), b6.2.2.2.2.1, (ap b6.2.2.2.2.2.1 ([0] : List Int)), b6.2.2.2.2.2.2), ()))))
 none)
 (cond (bl (ln b6.2.2.2.2.2.1 + ln ([1] : List Int)) Sa)
 (some (.inl ((t1, (), (), (), t27, t28, (wr .i64 (t29 + 1)), ()), (b2, b4, (b6.1, b6.2.1, b6.2.2.1, (Me .i64 b6.2.2.2.1 (Ta .i64 1 t29)), b6.2.2.2.2.1, (ap b6.2.2.2.2.2.1 ([1] : List Int)), b6.2.2.2.2.2.2), ()))))
 none))
 none)
 (cond (bl (ln b6.2.2.2.2.2.1 + ln ([1] : List Int)) Sa)
 (some (.inl ((t1, (), (), (), t27, t28, (wr .i64 (t29 + 1)), ()), (b2, b4, (b6.1, b6.2.1, b6.2.2.1, b6.2.2.2.1, b6.2.2.2.2.1, (ap b6.2.2.2.2.2.1 ([1] : List Int)), b6.2.2.2.2.2.2), ()))))
 none))))
 (cond (bl (ln b6.2.2.2.2.2.1 + ln ([1] : List Int)) Sa)
 (some (.inl ((t1, (), (), (), t27, t28, (wr .i64 (t29 + 1)), ()), (b2, b4, (b6.1, b6.2.1, b6.2.2.1, b6.2.2.2.1, b6.2.2.2.2.1, (ap b6.2.2.2.2.2.1 ([1] : List Int)), b6.2.2.2.2.2.2), ()))))
 none))
 (cond (decide ((min (wr .i64 (x53 + 1)) 99) ≥ b2.2.1))
 (ob (Le t1 t29) fun r66 =>
 (ob (Le b2.2.2.2.1 t29) fun r67 =>
 (cond (r66.1 != r67.1)
 (cond (decide (0 ≤ t29))
 (cond (b2.1 == 2)
 (cond (bl (ln b6.2.2.2.2.2.1 + ln ([0] : List Int)) Sa)
 (some (.inl ((t1, (), (), (), t27, t28, (wr .i64 (t29 + 1)), ()), (b2, b4, (b6.1, b6.2.1, b6.2.2.1, (Me .i64 b6.2.2.2.1 (Ta .i64 1 t29)), b6.2.2.2.2.1, (ap b6.2.2.2.2.2.1 ([0] : List Int)), b6.2.2.2.2.2.2), ()))))
 none)
 (cond (bl (ln b6.2.2.2.2.2.1 + ln ([(min (wr .i64 (x53 + 1)) 99)] : List Int)) Sa)
 (some (.inl ((t1, (), (), (), t27, t28, (wr .i64 (t29 + 1)), ()), (b2, b4, (b6.1, b6.2.1, b6.2.2.1, (Me .i64 b6.2.2.2.1 (Ta .i64 1 t29)), b6.2.2.2.2.1, (ap b6.2.2.2.2.2.1 ([(min (wr .i64 (x53 + 1)) 99)] : List Int)), b6.2.2.2.2.2.2), ()))))
 none))
 none)
 (cond (bl (ln b6.2.2.2.2.2.1 + ln ([(min (wr .i64 (x53 + 1)) 99)] : List Int)) Sa)
 (some (.inl ((t1, (), (), (), t27, t28, (wr .i64 (t29 + 1)), ()), (b2, b4, (b6.1, b6.2.1, b6.2.2.1, b6.2.2.2.1, b6.2.2.2.2.1, (ap b6.2.2.2.2.2.1 ([(min (wr .i64 (x53 + 1)) 99)] : List Int)), b6.2.2.2.2.2.2), ()))))
 none))))
 (cond (bl (ln b6.2.2.2.2.2.1 + ln ([(min (wr .i64 (x53 + 1)) 99)] : List Int)) Sa)
 (some (.inl ((t1, (), (), (), t27, t28, (wr .i64 (t29 + 1)), ()), (b2, b4, (b6.1, b6.2.1, b6.2.2.1, b6.2.2.2.1, b6.2.2.2.2.1, (ap b6.2.2.2.2.2.1 ([(min (wr .i64 (x53 + 1)) 99)] : List Int)), b6.2.2.2.2.2.2), ()))))
 none)))
 (cond (decide ((min (wr .i64 (x53 + 1)) 99) ≥ b2.2.1))
 (ob (Le t1 t29) fun r68 =>
 (ob (Le b2.2.2.2.1 t29) fun r69 =>
 (cond (r68.1 != r69.1)
 (cond (decide (0 ≤ t29))
 (cond (b2.1 == 2)
 (cond (bl (ln b6.2.2.2.2.2.1 + ln ([0] : List Int)) Sa)
 (some (.inl ((t1, (), (), (), t27, t28, (wr .i64 (t29 + 1)), ()), (b2, b4, (b6.1, b6.2.1, b6.2.2.1, (Me .i64 b6.2.2.2.1 (Ta .i64 1 t29)), b6.2.2.2.2.1, (ap b6.2.2.2.2.2.1 ([0] : List Int)), b6.2.2.2.2.2.2), ()))))
 none)
 (cond (bl (ln b6.2.2.2.2.2.1 + ln ([(min (wr .i64 (x53 + 1)) 99)] : List Int)) Sa)
 (some (.inl ((t1, (), (), (), t27, t28, (wr .i64 (t29 + 1)), ()), (b2, b4, (b6.1, b6.2.1, b6.2.2.1, (Me .i64 b6.2.2.2.1 (Ta .i64 1 t29)), b6.2.2.2.2.1, (ap b6.2.2.2.2.2.1 ([(min (wr .i64 (x53 + 1)) 99)] : List Int)), b6.2.2.2.2.2.2), ()))))
 none))
 none)
 (cond (bl (ln b6.2.2.2.2.2.1 + ln ([(min (wr .i64 (x53 + 1)) 99)] : List Int)) Sa)
 (some (.inl ((t1, (), (), (), t27, t28, (wr .i64 (t29 + 1)), ()), (b2, b4, (b6.1, b6.2.1, b6.2.2.1, b6.2.2.2.1, b6.2.2.2.2.1, (ap b6.2.2.2.2.2.1 ([(min (wr .i64 (x53 + 1)) 99)] : List Int)), b6.2.2.2.2.2.2), ()))))
 none))))
 (cond (bl (ln b6.2.2.2.2.2.1 + ln ([(min (wr .i64 (x53 + 1)) 99)] : List Int)) Sa)
 (some (.inl ((t1, (), (), (), t27, t28, (wr .i64 (t29 + 1)), ()), (b2, b4, (b6.1, b6.2.1, b6.2.2.1, b6.2.2.2.1, b6.2.2.2.2.1, (ap b6.2.2.2.2.2.1 ([(min (wr .i64 (x53 + 1)) 99)] : List Int)), b6.2.2.2.2.2.2), ()))))
 none)))))
 (some (.inr (.inl ((t1, (), (), ()), (b4, b6, ()))))))
def Wn := Ua fun x : ((Int × (Unit × (Unit × TT))) × Saa) => Xi x.1.1 x.1.2.1 x.1.2.2.1 x.1.2.2.2.1 x.1.2.2.2.2.1 x.1.2.2.2.2.2.1 x.1.2.2.2.2.2.2.1 x.2.1 x.2.2.1 x.2.2.2.1
def Gm (a0 : Ob) (a1 : Int) : Option (Ob × Vc) :=
 (ob (Xn a0) fun r1 =>
 (cond (!r1.1)
 (some ((0, 0, 0, 0, 0, [], ()), false, ()))
 (cond (decide (a1 < 0))
 (some ((0, 0, 0, 0, 0, [], ()), false, ()))
 (cond (decide (0 ≤ a0.2.2.1))
 (cond (decide (a1 ≥ (Ta .i64 1 a0.2.2.1)))
 (some ((0, 0, 0, 0, 0, [], ()), false, ()))
 (ob (Wn ((a1, (), (), (), a0.2.2.2.2.2.1, ((ln a0.2.2.2.2.2.1 : Nat) : Int), 0, ()), (a0, (0, 0, 0, 0, 0, [], ()), (a0.1, a0.2.1, a0.2.2.1, a0.2.2.2.1, a0.2.2.2.2.1, [], a0.2.2.2.2.2.2), ()))) (se (fun y70 => (some ((y70.2.2.1.1, y70.2.2.1.2.1, y70.2.2.1.2.2.1, y70.2.2.1.2.2.2.1, y70.1.1, y70.2.2.1.2.2.2.2.2), true, ()))) (fun z71 => none))))
 none))))
def Vk (t0 : Int) (t1 : Int) (t2 : Int) (t7 : Qd) (t8 : Int) : Option (((Int × (Int × (Int × XI))) × Unit) ⊕ ((XC × Unit) ⊕ De)) :=
 (cond (decide (t8 ≤ 31))
 (ob (Le t0 t8) fun r10 =>
 (ob (Le t1 t8) fun r11 =>
 (cond (r10.1 != r11.1)
 (ob (Le t1 t8) fun r12 =>
 (cond (bl (ln t7 + ln ([(t2, t8, (r12.1 == 1), ())] : List Ca)) Sa)
 (some (.inl ((t0, t1, t2, (ap t7 ([(t2, t8, (r12.1 == 1), ())] : List Ca)), (wr .i64 (t8 + 1)), ()), ())))
 none))
 (some (.inl ((t0, t1, t2, t7, (wr .i64 (t8 + 1)), ()), ()))))))
 (some (.inr (.inl ((t7, ()), ())))))
def Tm := Ua fun x : ((Int × (Int × (Int × XI))) × Unit) => Vk x.1.1 x.1.2.1 x.1.2.2.1 x.1.2.2.2.1 x.1.2.2.2.2.1
def Fq (a0 : Int) (a1 : Int) (a2 : Int) : Option XC :=
 (ob (Tm ((a0, a1, a2, [], 0, ()), ())) (se (fun y13 => (some (y13.1.1, ()))) (fun z14 => none)))
def Mm (t0 : Unit) (t1 : Int) (t2 : Int) (t14 : Int) (t15 : Int) (b500000 : Oa) : Option ((Aab × WC) ⊕ (OQ ⊕ KY)) :=
 (cond (decide (t15 < t14))
 (cond (Af (ln b500000.2.2.2.2.2.2.1) t15)
 (ob b500000.2.2.2.2.2.2.1[(tn t15)]? fun x19 =>
 (ob (Le x19.2.1 t1) fun r20 =>
 (cond (r20.1 == 0)
 (some (.inl (((), t1, t2, t14, (wr .i64 (t15 + 1)), ()), (b500000, ()))))
 (ob b500000.2.2.2.2.2.2.1[(tn t15)]? fun x21 =>
 (cond (decide (0 ≤ t1))
 (ob b500000.2.2.2.2.2.2.1[(tn t15)]? fun x22 =>
 (ob (ls b500000.2.2.2.2.2.2.1 (tn t15) (x22.1, (Jb .i64 x21.2.1 (Ta .i64 1 t1)), x22.2.2))[(tn t15)]? fun x23 =>
 (cond x23.2.2.1
 (ob (ls b500000.2.2.2.2.2.2.1 (tn t15) (x22.1, (Jb .i64 x21.2.1 (Ta .i64 1 t1)), x22.2.2))[(tn t15)]? fun x24 =>
 (ob (ls (ls b500000.2.2.2.2.2.2.1 (tn t15) (x22.1, (Jb .i64 x21.2.1 (Ta .i64 1 t1)), x22.2.2)) (tn t15) (x24.1, x24.2.1, false, x24.2.2.2))[(tn t15)]? fun x25 =>
 (ob (ls (ls b500000.2.2.2.2.2.2.1 (tn t15) (x22.1, (Jb .i64 x21.2.1 (Ta .i64 1 t1)), x22.2.2)) (tn t15) (x24.1, x24.2.1, false, x24.2.2.2))[(tn t15)]? fun x26 =>
 (cond (x26.2.1 == 0)
 (cond (Md (ln (ls (ls b500000.2.2.2.2.2.2.1 (tn t15) (x22.1, (Jb .i64 x21.2.1 (Ta .i64 1 t1)), x22.2.2)) (tn t15) (x24.1, x24.2.1, false, x24.2.2.2))) 0 t15)
 (cond (bl (ln ([] : List Ca) + ln (Eb (ls (ls b500000.2.2.2.2.2.2.1 (tn t15) (x22.1, (Jb .i64 x21.2.1 (Ta .i64 1 t1)), x22.2.2)) (tn t15) (x24.1, x24.2.1, false, x24.2.2.2)) (tn 0) (tn t15))) Sa)
 (cond (Md (ln (ls (ls b500000.2.2.2.2.2.2.1 (tn t15) (x22.1, (Jb .i64 x21.2.1 (Ta .i64 1 t1)), x22.2.2)) (tn t15) (x24.1, x24.2.1, false, x24.2.2.2))) (wr .i64 (t15 + 1)) ((ln (ls (ls b500000.2.2.2.2.2.2.1 (tn t15) (x22.1, (Jb .i64 x21.2.1 (Ta .i64 1 t1)), x22.2.2)) (tn t15) (x24.1, x24.2.1, false, x24.2.2.2)) : Nat) : Int))
 (cond (bl (ln (ap [] (Eb (ls (ls b500000.2.2.2.2.2.2.1 (tn t15) (x22.1, (Jb .i64 x21.2.1 (Ta .i64 1 t1)), x22.2.2)) (tn t15) (x24.1, x24.2.1, false, x24.2.2.2)) (tn 0) (tn t15))) + ln (Eb (ls (ls b500000.2.2.2.2.2.2.1 (tn t15) (x22.1, (Jb .i64 x21.2.1 (Ta .i64 1 t1)), x22.2.2)) (tn t15) (x24.1, x24.2.1, false, x24.2.2.2)) (tn (wr .i64 (t15 + 1))) (tn ((ln (ls (ls b500000.2.2.2.2.2.2.1 (tn t15) (x22.1, (Jb .i64 x21.2.1 (Ta .i64 1 t1)), x22.2.2)) (tn t15) (x24.1, x24.2.1, false, x24.2.2.2)) : Nat) : Int)))) Sa)
 (some (.inr (.inr (((), ([(t2, x25.1, false, ())] : List Ca), ()), ((b500000.1, b500000.2.1, b500000.2.2.1, b500000.2.2.2.1, b500000.2.2.2.2.1, b500000.2.2.2.2.2.1, (ap (ap [] (Eb (ls (ls b500000.2.2.2.2.2.2.1 (tn t15) (x22.1, (Jb .i64 x21.2.1 (Ta .i64 1 t1)), x22.2.2)) (tn t15) (x24.1, x24.2.1, false, x24.2.2.2)) (tn 0) (tn t15))) (Eb (ls (ls b500000.2.2.2.2.2.2.1 (tn t15) (x22.1, (Jb .i64 x21.2.1 (Ta .i64 1 t1)), x22.2.2)) (tn t15) (x24.1, x24.2.1, false, x24.2.2.2)) (tn (wr .i64 (t15 + 1))) (tn ((ln (ls (ls b500000.2.2.2.2.2.2.1 (tn t15) (x22.1, (Jb .i64 x21.2.1 (Ta .i64 1 t1)), x22.2.2)) (tn t15) (x24.1, x24.2.1, false, x24.2.2.2)) : Nat) : Int)))), ()), ())))))
 none)
 none)
 none)
 none)
 (some (.inr (.inr (((), ([(t2, x25.1, false, ())] : List Ca), ()), ((b500000.1, b500000.2.1, b500000.2.2.1, b500000.2.2.2.1, b500000.2.2.2.2.1, b500000.2.2.2.2.2.1, (ls (ls b500000.2.2.2.2.2.2.1 (tn t15) (x22.1, (Jb .i64 x21.2.1 (Ta .i64 1 t1)), x22.2.2)) (tn t15) (x24.1, x24.2.1, false, x24.2.2.2)), ()), ())))))))))
 (ob (ls b500000.2.2.2.2.2.2.1 (tn t15) (x22.1, (Jb .i64 x21.2.1 (Ta .i64 1 t1)), x22.2.2))[(tn t15)]? fun x27 =>
 (cond (x27.2.1 == 0)
 (cond (Md (ln (ls b500000.2.2.2.2.2.2.1 (tn t15) (x22.1, (Jb .i64 x21.2.1 (Ta .i64 1 t1)), x22.2.2))) 0 t15)
 (cond (bl (ln ([] : List Ca) + ln (Eb (ls b500000.2.2.2.2.2.2.1 (tn t15) (x22.1, (Jb .i64 x21.2.1 (Ta .i64 1 t1)), x22.2.2)) (tn 0) (tn t15))) Sa)
 (cond (Md (ln (ls b500000.2.2.2.2.2.2.1 (tn t15) (x22.1, (Jb .i64 x21.2.1 (Ta .i64 1 t1)), x22.2.2))) (wr .i64 (t15 + 1)) ((ln (ls b500000.2.2.2.2.2.2.1 (tn t15) (x22.1, (Jb .i64 x21.2.1 (Ta .i64 1 t1)), x22.2.2)) : Nat) : Int))
 (cond (bl (ln (ap [] (Eb (ls b500000.2.2.2.2.2.2.1 (tn t15) (x22.1, (Jb .i64 x21.2.1 (Ta .i64 1 t1)), x22.2.2)) (tn 0) (tn t15))) + ln (Eb (ls b500000.2.2.2.2.2.2.1 (tn t15) (x22.1, (Jb .i64 x21.2.1 (Ta .i64 1 t1)), x22.2.2)) (tn (wr .i64 (t15 + 1))) (tn ((ln (ls b500000.2.2.2.2.2.2.1 (tn t15) (x22.1, (Jb .i64 x21.2.1 (Ta .i64 1 t1)), x22.2.2)) : Nat) : Int)))) Sa)
 (some (.inr (.inr (((), [], ()), ((b500000.1, b500000.2.1, b500000.2.2.1, b500000.2.2.2.1, b500000.2.2.2.2.1, b500000.2.2.2.2.2.1, (ap (ap [] (Eb (ls b500000.2.2.2.2.2.2.1 (tn t15) (x22.1, (Jb .i64 x21.2.1 (Ta .i64 1 t1)), x22.2.2)) (tn 0) (tn t15))) (Eb (ls b500000.2.2.2.2.2.2.1 (tn t15) (x22.1, (Jb .i64 x21.2.1 (Ta .i64 1 t1)), x22.2.2)) (tn (wr .i64 (t15 + 1))) (tn ((ln (ls b500000.2.2.2.2.2.2.1 (tn t15) (x22.1, (Jb .i64 x21.2.1 (Ta .i64 1 t1)), x22.2.2)) : Nat) : Int)))), ()), ())))))
 none)
 none)
 none)
 none)
 (some (.inr (.inr (((), [], ()), ((b500000.1, b500000.2.1, b500000.2.2.1, b500000.2.2.2.1, b500000.2.2.2.2.1, b500000.2.2.2.2.2.1, (ls b500000.2.2.2.2.2.2.1 (tn t15) (x22.1, (Jb .i64 x21.2.1 (Ta .i64 1 t1)), x22.2.2)), ()), ()))))))))))
 none)))))
 none)
 (some (.inr (.inl (((), t1, t2, ()), (b500000, ()))))))
def Gp := Ua fun x : (Aab × WC) => Mm x.1.1 x.1.2.1 x.1.2.2.1 x.1.2.2.2.1 x.1.2.2.2.2.1 x.2.1
def Vn (a0 : Oa) (a1 : Int) (a2 : Int) : Option (Oa × XC) :=
 (ob (Gp (((), a1, a2, ((ln a0.2.2.2.2.2.2.1 : Nat) : Int), 0, ()), (a0, ()))) (se (fun y28 => (cond (decide (0 ≤ y28.1.2.1))
 (some ((y28.2.1.1, y28.2.1.2.1, y28.2.1.2.2.1, y28.2.1.2.2.2.1, y28.2.1.2.2.2.2.1, (Jb .i64 y28.2.1.2.2.2.2.2.1 (Ta .i64 1 y28.1.2.1)), y28.2.1.2.2.2.2.2.2.1, ()), (([(y28.1.2.2.1, y28.1.2.1, false, ())] : List Ca), ())))
 none)) (fun z29 => (some (z29.2.1, (z29.1.2.1, ()))))))
def Dl (a0 : Ca) : Option Vc :=
 (ob (Vt a0) fun r1 =>
 (cond r1.1
 (some ((decide (a0.2.1 < 24)), ()))
 (some (false, ()))))
def Sz (t1 : Int) (t7 : Xd) (t8 : Int) (t9 : Int) : Option (((Int × Vp) × Unit) ⊕ Qk) :=
 (cond (decide (t9 < t8))
 (ob (Ab t7 t9) fun x3 =>
 (cond ((Jb .i64 t1 x3.1) == 0)
 (some (.inr (.inr ((true, ()), ()))))
 (some (.inl ((t1, t7, t8, (wr .i64 (t9 + 1)), ()), ())))))
 (some (.inr (.inl ((), ())))))
def TB := Ua fun x : ((Int × Vp) × Unit) => Sz x.1.1 x.1.2.1 x.1.2.2.1 x.1.2.2.2.1
def FF (a0 : Xd) (a1 : Int) : Option Vc :=
 (ob (TB ((a1, a0, ((ln a0 : Nat) : Int), 0, ()), ())) (se (fun y4 => (some (false, ()))) (fun z5 => (some (z5.1.1, ())))))
def Qo (t1 : Int) (t6 : Int) (t7 : Bool) (t10 : Xd) (t11 : Int) (t12 : Int) : Option (((Int × (Int × (Bool × Vp))) × Unit) ⊕ ((Ev × Unit) ⊕ De)) :=
 (cond (decide (t12 < t11))
 (ob (Ab t10 t12) fun x3 =>
 (cond (x3.1 == t1)
 (some (.inl ((t1, x3.2.1, t7, t10, t11, (wr .i64 (t12 + 1)), ()), ())))
 (cond ((Jb .i64 t1 x3.1) == 0)
 (some (.inl ((t1, t6, true, t10, t11, (wr .i64 (t12 + 1)), ()), ())))
 (some (.inl ((t1, t6, t7, t10, t11, (wr .i64 (t12 + 1)), ()), ()))))))
 (some (.inr (.inl ((t6, t7, ()), ())))))
def Rr := Ua fun x : ((Int × (Int × (Bool × Vp))) × Unit) => Qo x.1.1 x.1.2.1 x.1.2.2.1 x.1.2.2.2.1 x.1.2.2.2.2.1 x.1.2.2.2.2.2.1
def Pl (a0 : Xd) (a1 : Int) : Option Ev :=
 (ob (Rr ((a1, (-1), false, a0, ((ln a0 : Nat) : Int), 0, ()), ())) (se (fun y4 => (some y4.1)) (fun z5 => none)))
def Sm (t0 : Xd) (t1 : Int) (t3 : Int) (t11 : Unit) (t12 : Int) (t13 : Int) (t14 : Int) (t15 : Bool) (t69 : Qd) (t70 : Int) (t71 : Int) (b11 : Ca) : Option (LaD ⊕ (((Xd × (Int × (Int × Ca))) × Unit) ⊕ ZC)) :=
 (cond (decide (t71 < t70))
 (ob (Ab t69 t71) fun x15 =>
 (ob (Dl x15) fun r16 =>
 (cond (!r16.1)
 (some (.inr (.inr ((0, 0, (-1), ()), ()))))
 (cond (decide (x15.1 ≥ (wr .i64 (b11.1 + t1))))
 (some (.inr (.inl ((t0, t3, t12, (min t13 x15.1), t14, false, ()), ()))))
 (cond (!x15.2.2.1)
 (some (.inr (.inl ((t0, t3, t12, (min t13 x15.1), t14, false, ()), ()))))
 (cond (decide (0 ≤ x15.2.1))
 (ob (FF t0 (Rc .i64 t12 (Ta .i64 1 x15.2.1))) fun r17 =>
 (cond (!r17.1)
 (some (.inr (.inl ((t0, t3, t12, (min t13 x15.1), t14, false, ()), ()))))
 (cond (decide (0 ≤ x15.2.1))
 (ob (Pl t0 (Rc .i64 t12 (Ta .i64 1 x15.2.1))) fun r18 =>
 (cond (decide (r18.1 ≥ 0))
 (cond (!r18.2.1)
 (some (.inr (.inr (((wr .i64 (t14 + 1)), x15.1, r18.1, ()), ()))))
 (some (.inl ((t0, t1, t3, (), (Rc .i64 t12 (Ta .i64 1 x15.2.1)), t13, (wr .i64 (t14 + 1)), t15, t69, t70, (wr .i64 (t71 + 1)), ()), (b11, ())))))
 (some (.inl ((t0, t1, t3, (), (Rc .i64 t12 (Ta .i64 1 x15.2.1)), t13, (wr .i64 (t14 + 1)), t15, t69, t70, (wr .i64 (t71 + 1)), ()), (b11, ()))))))
 none)))
 none))))))
 (some (.inr (.inl ((t0, t3, t12, t13, t14, t15, ()), ())))))
def Dk := Ua fun x : LaD => Sm x.1.1 x.1.2.1 x.1.2.2.1 x.1.2.2.2.1 x.1.2.2.2.2.1 x.1.2.2.2.2.2.1 x.1.2.2.2.2.2.2.1 x.1.2.2.2.2.2.2.2.1 x.1.2.2.2.2.2.2.2.2.1 x.1.2.2.2.2.2.2.2.2.2.1 x.1.2.2.2.2.2.2.2.2.2.2.1 x.2.1
def Kz (a0 : Xd) (a1 : Int) (a2 : Qd) (a3 : Int) : Option Sc :=
 (ob (Lx a0) fun r1 =>
 (cond (!r1.1)
 (some (0, 0, (-1), ()))
 (cond (decide (a1 < 1))
 (some (0, 0, (-1), ()))
 (cond (decide (a1 > 200))
 (some (0, 0, (-1), ()))
 (cond (((ln a2 : Nat) : Int) == 0)
 (some (0, 0, (-1), ()))
 (ob (Ab a2 0) fun x2 =>
 (ob (Dl x2) fun r3 =>
 (cond (!r3.1)
 (some (0, 0, (-1), ()))
 (ob (Ab a2 0) fun x4 =>
 (cond (!x4.2.2.1)
 (some (0, 0, (-1), ()))
 (ob (Ab a2 0) fun x5 =>
 (cond (decide (0 ≤ x5.2.1))
 (ob (FF a0 (Ta .i64 1 x5.2.1)) fun r6 =>
 (cond (!r6.1)
 (some (1, x5.1, (-1), ()))
 (cond (Md (ln a2) 1 ((ln a2 : Nat) : Int))
 (ob (Dk ((a0, a1, a3, (), (Ta .i64 1 x5.2.1), (wr .i64 (x5.1 + a1)), 1, true, (Eb a2 (tn 1) (tn ((ln a2 : Nat) : Int))), ((ln (Eb a2 (tn 1) (tn ((ln a2 : Nat) : Int))) : Nat) : Int), 0, ()), (x5, ()))) (se (fun y19 => (cond y19.1.2.2.2.2.2.1
 (cond (decide (y19.1.2.1 < y19.1.2.2.2.1))
 (some (0, 0, (-1), ()))
 (ob (Pl y19.1.1 y19.1.2.2.1) fun r21 =>
 (cond (decide (r21.1 ≥ 0))
 (some (y19.1.2.2.2.2.1, y19.1.2.2.2.1, r21.1, ()))
 (some (1, y19.1.2.2.2.1, (-1), ())))))
 (ob (Pl y19.1.1 y19.1.2.2.1) fun r22 =>
 (cond (decide (r22.1 ≥ 0))
 (some (y19.1.2.2.2.2.1, y19.1.2.2.2.1, r22.1, ()))
 (some (1, y19.1.2.2.2.1, (-1), ())))))) (fun z20 => (some z20.1))))
 none)))
 none))))))))))))
def Hh (a0 : Oa) : Option (Oa × (Qd × Vc)) :=
 (cond (Af (ln a0.2.2.1) 0)
 (ob a0.2.2.1[(tn 0)]? fun x1 =>
 (cond (!x1.2.2.1)
 (cond (Md (ln a0.2.2.1) 1 ((ln a0.2.2.1 : Nat) : Int))
 (cond (bl (ln ([] : List Ca) + ln (Eb a0.2.2.1 (tn 1) (tn ((ln a0.2.2.1 : Nat) : Int)))) Sa)
 (ob (Vn (a0.1, a0.2.1, (ap [] (Eb a0.2.2.1 (tn 1) (tn ((ln a0.2.2.1 : Nat) : Int)))), a0.2.2.2.1, (max a0.2.2.2.2.1 x1.1), a0.2.2.2.2.2) x1.2.1 (max a0.2.2.2.2.1 x1.1)) fun r2 =>
 (some (r2.1, (r2.2.1, true, ()))))
 none)
 none)
 (ob (Kz a0.1 a0.2.1 a0.2.2.1 a0.2.2.2.1) fun r3 =>
 (cond (r3.1 == 0)
 (some (a0, ([], false, ())))
 (cond (Md (ln a0.2.2.1) r3.1 ((ln a0.2.2.1 : Nat) : Int))
 (cond (bl (ln ([] : List Ca) + ln (Eb a0.2.2.1 (tn r3.1) (tn ((ln a0.2.2.1 : Nat) : Int)))) Sa)
 (cond (decide (r3.2.2.1 < 0))
 (cond (decide (0 ≤ x1.2.1))
 (some ((a0.1, a0.2.1, (ap [] (Eb a0.2.2.1 (tn r3.1) (tn ((ln a0.2.2.1 : Nat) : Int)))), a0.2.2.2.1, (max (max a0.2.2.2.2.1 x1.1) r3.2.1), (Rc .i64 a0.2.2.2.2.2.1 (Ta .i64 1 x1.2.1)), a0.2.2.2.2.2.2), (([((max (max a0.2.2.2.2.1 x1.1) r3.2.1), x1.2.1, true, ())] : List Ca), true, ())))
 none)
 (ob (LB a0.1 r3.2.2.1) fun r4 =>
 (cond (bl (ln a0.2.2.2.2.2.2.1 + ln ([(r3.2.2.1, r4.1.1, true, ())] : List Ca)) Sa)
 (some ((a0.1, a0.2.1, (ap [] (Eb a0.2.2.1 (tn r3.1) (tn ((ln a0.2.2.1 : Nat) : Int)))), a0.2.2.2.1, (max (max a0.2.2.2.2.1 x1.1) r3.2.1), a0.2.2.2.2.2.1, (ap a0.2.2.2.2.2.2.1 ([(r3.2.2.1, r4.1.1, true, ())] : List Ca)), ()), (([((max (max a0.2.2.2.2.1 x1.1) r3.2.1), r3.2.2.1, true, ())] : List Ca), true, ())))
 none)))
 none)
 none)))))
 none)
def Dg (t6 : Unit) (t9 : Unit) (t12 : Qd) (b6 : Oa) (b9 : Oa) : Option (Rap ⊕ (Rap ⊕ De)) :=
 (cond (decide (((ln b9.2.2.1 : Nat) : Int) > 0))
 (ob (Hh b9) fun r19 =>
 (cond (!r19.2.2.1)
 (some (.inr (.inl (((), (), t12, ()), (b6, r19.1, ())))))
 (cond (bl (ln t12 + ln r19.2.1) Sa)
 (some (.inl (((), (), (ap t12 r19.2.1), ()), (b6, r19.1, ()))))
 none)))
 (some (.inr (.inl (((), (), t12, ()), (b6, b9, ()))))))
def Mf := Ua fun x : Rap => Dg x.1.1 x.1.2.1 x.1.2.2.1 x.2.1 x.2.2.1
def Zp (a0 : Oa) (a1 : Qd) (a2 : Int) : Option (Oa × (Qd × Vc)) :=
 (ob (Aq a0) fun r1 =>
 (cond (!r1.1)
 (some (([], 0, [], 0, 0, 0, [], ()), [], false, ()))
 (cond (decide (a2 < a0.2.2.2.1))
 (some (([], 0, [], 0, 0, 0, [], ()), [], false, ()))
 (cond (decide (a2 > 1000000))
 (some (([], 0, [], 0, 0, 0, [], ()), [], false, ()))
 (cond (decide (((ln a1 : Nat) : Int) > 0))
 (ob (Ab a1 0) fun x2 =>
 (cond (decide (x2.1 < a0.2.2.2.1))
 (some (([], 0, [], 0, 0, 0, [], ()), [], false, ()))
 (ob (Th a1 a2) fun r3 =>
 (cond (!r3.1)
 (some (([], 0, [], 0, 0, 0, [], ()), [], false, ()))
 (ob (Tj a0) fun r4 =>
 (cond (bl (ln r4.1.2.2.1 + ln a1) Sa)
 (ob (Ai a0) fun r5 =>
 (ob (Vh (ap r4.1.2.2.1 a1) r5.1 24) fun r6 =>
 (cond (!r6.1)
 (some (([], 0, [], 0, 0, 0, [], ()), [], false, ()))
 (ob (Mf (((), (), [], ()), (([], 0, [], 0, 0, 0, [], ()), (r4.1.1, r4.1.2.1, (ap r4.1.2.2.1 a1), a2, r4.1.2.2.2.2), ()))) (se (fun y11 => (some (y11.2.2.1, y11.1.2.2.1, true, ()))) (fun z12 => none))))))
 none))))))
 (ob (Th a1 a2) fun r13 =>
 (cond (!r13.1)
 (some (([], 0, [], 0, 0, 0, [], ()), [], false, ()))
 (ob (Tj a0) fun r14 =>
 (cond (bl (ln r14.1.2.2.1 + ln a1) Sa)
 (ob (Ai a0) fun r15 =>
 (ob (Vh (ap r14.1.2.2.1 a1) r15.1 24) fun r16 =>
 (cond (!r16.1)
 (some (([], 0, [], 0, 0, 0, [], ()), [], false, ()))
 (ob (Mf (((), (), [], ()), (([], 0, [], 0, 0, 0, [], ()), (r14.1.1, r14.1.2.1, (ap r14.1.2.2.1 a1), a2, r14.1.2.2.2.2), ()))) (se (fun y20 => (some (y20.2.2.1, y20.1.2.2.1, true, ()))) (fun z21 => none))))))
 none)))))))))
def Qt (a0 : Bc) (a1 : Int) : Option (Bc × QQ) :=
 (ob (IB a0) fun r1 =>
 (cond (!r1.1)
 (some (((0, 0, false, ()), (0, 0, 0, 0, 0, [], ()), ([], 0, [], 0, 0, 0, [], ()), (((0, [], ()), [], 0, [], 0, false, ()), (0, 0, 0, ()), [], 0, 0, 0, 0, ()), 0, 0, ()), [], false, ()))
 (ob (Gn a0.1 a1) fun r2 =>
 (cond (!r2.1)
 (some (((0, 0, false, ()), (0, 0, 0, 0, 0, [], ()), ([], 0, [], 0, 0, 0, [], ()), (((0, [], ()), [], 0, [], 0, false, ()), (0, 0, 0, ()), [], 0, 0, 0, 0, ()), 0, 0, ()), [], false, ()))
 (cond (decide (a0.2.2.2.2.2.1 ≥ 1000000))
 (some (((0, 0, false, ()), (0, 0, 0, 0, 0, [], ()), ([], 0, [], 0, 0, 0, [], ()), (((0, [], ()), [], 0, [], 0, false, ()), (0, 0, 0, ()), [], 0, 0, 0, 0, ()), 0, 0, ()), [], false, ()))
 (ob (RB a0.1 a1) fun r3 =>
 (ob (Xp a0.1 a0.2.2.2.2.1 r3.1) fun r4 =>
 (ob (Gm a0.2.1 r4.1) fun r5 =>
 (cond (!r4.2.1)
 (some (((0, 0, false, ()), (0, 0, 0, 0, 0, [], ()), ([], 0, [], 0, 0, 0, [], ()), (((0, [], ()), [], 0, [], 0, false, ()), (0, 0, 0, ()), [], 0, 0, 0, 0, ()), 0, 0, ()), [], false, ()))
 (cond (!r5.2.1)
 (some (((0, 0, false, ()), (0, 0, 0, 0, 0, [], ()), ([], 0, [], 0, 0, 0, [], ()), (((0, [], ()), [], 0, [], 0, false, ()), (0, 0, 0, ()), [], 0, 0, 0, 0, ()), 0, 0, ()), [], false, ()))
 (ob (Fq a0.2.1.2.2.2.1 r5.1.2.2.2.1 a0.2.2.2.2.2.1) fun r6 =>
 (ob (Zp a0.2.2.1 r6.1 a0.2.2.2.2.2.1) fun r7 =>
 (cond (!r7.2.2.1)
 (some (((0, 0, false, ()), (0, 0, 0, 0, 0, [], ()), ([], 0, [], 0, 0, 0, [], ()), (((0, [], ()), [], 0, [], 0, false, ()), (0, 0, 0, ()), [], 0, 0, 0, 0, ()), 0, 0, ()), [], false, ()))
 (ob (Lz a0.2.2.2.1 r7.2.1 a0.2.2.2.2.2.1) fun r8 =>
 (cond (!r8.2.2.1)
 (some (((0, 0, false, ()), (0, 0, 0, 0, 0, [], ()), ([], 0, [], 0, 0, 0, [], ()), (((0, [], ()), [], 0, [], 0, false, ()), (0, 0, 0, ()), [], 0, 0, 0, 0, ()), 0, 0, ()), [], false, ()))
 (some ((a0.1, r5.1, r7.1, r8.1, r4.1, (wr .i64 (a0.2.2.2.2.2.1 + 1)), a0.2.2.2.2.2.2), r8.2.1, true, ())))))))))))))))))
def Bs (t4 : Unit) (t7 : Unit) (t8 : Cg) (t25 : Te) (t26 : Int) (t27 : Int) (b4 : Bc) (b7 : Bc) : Option (((Unit × (Unit × (Cg × DG))) × NY) ⊕ (((Unit × JY) × NY) ⊕ ((Unit × QQ) × Dv))) :=
 (cond (decide (t27 < t26))
 (ob (Ab t25 t27) fun x9 =>
 (ob (Qt b7 x9) fun r10 =>
 (cond (!r10.2.2.1)
 (some (.inr (.inr (((), [], false, ()), (((0, 0, false, ()), (0, 0, 0, 0, 0, [], ()), ([], 0, [], 0, 0, 0, [], ()), (((0, [], ()), [], 0, [], 0, false, ()), (0, 0, 0, ()), [], 0, 0, 0, 0, ()), 0, 0, ()), ())))))
 (cond (bl (ln t8 + ln r10.2.1) Sa)
 (some (.inl (((), (), (ap t8 r10.2.1), t25, t26, (wr .i64 (t27 + 1)), ()), (b4, r10.1, ()))))
 none))))
 (some (.inr (.inl (((), (), t8, ()), (b4, b7, ()))))))
def Nv := Ua fun x : ((Unit × (Unit × (Cg × DG))) × NY) => Bs x.1.1 x.1.2.1 x.1.2.2.1 x.1.2.2.2.1 x.1.2.2.2.2.1 x.1.2.2.2.2.2.1 x.2.1 x.2.2.1
def Mp (a0 : Bc) (a1 : Te) : Option (Bc × QQ) :=
 (ob (IB a0) fun r1 =>
 (cond (!r1.1)
 (some (((0, 0, false, ()), (0, 0, 0, 0, 0, [], ()), ([], 0, [], 0, 0, 0, [], ()), (((0, [], ()), [], 0, [], 0, false, ()), (0, 0, 0, ()), [], 0, 0, 0, 0, ()), 0, 0, ()), [], false, ()))
 (cond (decide (((ln a1 : Nat) : Int) > 200))
 (some (((0, 0, false, ()), (0, 0, 0, 0, 0, [], ()), ([], 0, [], 0, 0, 0, [], ()), (((0, [], ()), [], 0, [], 0, false, ()), (0, 0, 0, ()), [], 0, 0, 0, 0, ()), 0, 0, ()), [], false, ()))
 (ob (DD a0) fun r2 =>
 (ob (Nv (((), (), [], a1, ((ln a1 : Nat) : Int), 0, ()), (((0, 0, false, ()), (0, 0, 0, 0, 0, [], ()), ([], 0, [], 0, 0, 0, [], ()), (((0, [], ()), [], 0, [], 0, false, ()), (0, 0, 0, ()), [], 0, 0, 0, 0, ()), 0, 0, ()), r2.1, ()))) (se (fun y11 => (some (y11.2.2.1, y11.1.2.2.1, true, ()))) (fun z12 => (some (z12.2.1, z12.1.2.1, z12.1.2.2.1, ())))))))))
def DH (a0 : Sc) : Option ZC :=
 (some (a0, ()))
def VB (a0 : Ca) (a1 : Ca) : Option Vc :=
 (cond (a0.1 != a1.1)
 (some (false, ()))
 (cond (a0.2.1 != a1.2.1)
 (some (false, ()))
 (cond (a0.2.2.1 != a1.2.2.1)
 (some (false, ()))
 (some (true, ())))))
def PZ (t0 : Qd) (t1 : Qd) (t5 : Int) : Option (MQ ⊕ Qk) :=
 (cond (decide (t5 < ((ln t0 : Nat) : Int)))
 (ob (Ab t0 t5) fun x7 =>
 (ob (Ab t1 t5) fun x8 =>
 (ob (VB x7 x8) fun r9 =>
 (cond (!r9.1)
 (some (.inr (.inr ((false, ()), ()))))
 (some (.inl ((t0, t1, (wr .i64 (t5 + 1)), ()), ())))))))
 (some (.inr (.inl ((), ())))))
def NJ := Ua fun x : MQ => PZ x.1.1 x.1.2.1 x.1.2.2.1
def Qx (a0 : Qd) (a1 : Qd) : Option Vc :=
 (cond (((ln a0 : Nat) : Int) != ((ln a1 : Nat) : Int))
 (some (false, ()))
 (ob (NJ ((a0, a1, 0, ()), ())) (se (fun y10 => (some (true, ()))) (fun z11 => (some (z11.1.1, ()))))))
def Vo (t0 : Qd) (t1 : Int) (t5 : Int) : Option (RQ ⊕ ((XI × Unit) ⊕ De)) :=
 (cond (decide (t5 < ((ln t0 : Nat) : Int)))
 (cond (Af (ln t0) t5)
 (ob t0[(tn t5)]? fun x7 =>
 (cond (Af (ln (ls t0 (tn t5) (t1, x7.2))) t5)
 (ob (ls t0 (tn t5) (t1, x7.2))[(tn t5)]? fun x8 =>
 (cond ((3 : Int) == 0)
 none
 (cond (Af (ln (ls (ls t0 (tn t5) (t1, x7.2)) (tn t5) (x8.1, (wr .i64 (t1 + 1)), x8.2.2))) t5)
 (ob (ls (ls t0 (tn t5) (t1, x7.2)) (tn t5) (x8.1, (wr .i64 (t1 + 1)), x8.2.2))[(tn t5)]? fun x9 =>
 (some (.inl (((ls (ls (ls t0 (tn t5) (t1, x7.2)) (tn t5) (x8.1, (wr .i64 (t1 + 1)), x8.2.2)) (tn t5) (x9.1, x9.2.1, ((Int.tmod (wr .i64 ((wr .i64 (t1 + 1)) + 1)) 3) == 0), x9.2.2.2)), (wr .i64 ((wr .i64 ((wr .i64 (t1 + 1)) + 1)) + 1)), (wr .i64 (t5 + 1)), ()), ()))))
 none)))
 none))
 none)
 (some (.inr (.inl ((t0, t1, ()), ())))))
def QF := Ua fun x : RQ => Vo x.1.1 x.1.2.1 x.1.2.2.1
def AA (a0 : Qd) (a1 : Int) : Option XI :=
 (ob (QF ((a0, a1, 0, ()), ())) (se (fun y10 => (some (y10.1.1, (y10.1.2.1, ())))) (fun z11 => none)))
def So (t0 : Qd) (t1 : Int) (t5 : Int) : Option (RQ ⊕ EG) :=
 (cond (decide (t5 < ((ln t0 : Nat) : Int)))
 (ob (Ab t0 t5) fun x7 =>
 (cond (x7.1 != t1)
 (some (.inr (.inr (((-1), ()), ()))))
 (ob (Ab t0 t5) fun x8 =>
 (cond (x8.2.1 != (wr .i64 (t1 + 1)))
 (some (.inr (.inr (((-1), ()), ()))))
 (ob (Ab t0 t5) fun x9 =>
 (cond ((3 : Int) == 0)
 none
 (cond (x9.2.2.1 != ((Int.tmod (wr .i64 ((wr .i64 (t1 + 1)) + 1)) 3) == 0))
 (some (.inr (.inr (((-1), ()), ()))))
 (some (.inl ((t0, (wr .i64 ((wr .i64 ((wr .i64 (t1 + 1)) + 1)) + 1)), (wr .i64 (t5 + 1)), ()), ()))))))))))
 (some (.inr (.inl ((t1, ()), ())))))
def NF := Ua fun x : RQ => So x.1.1 x.1.2.1 x.1.2.2.1
def Xz (a0 : Qd) (a1 : Int) : Option Oc :=
 (ob (NF ((a0, a1, 0, ()), ())) (se (fun y10 => (some (y10.1.1, ()))) (fun z11 => (some (z11.1.1, ())))))
def Ew (a0 : Ob) (a1 : Int) : Option Oc :=
 (ob (SM a0.2.2.2.2.2.1 a1) fun r1 =>
 (cond (decide (r1.1 < 0))
 (some ((-1), ()))
 (some (r1.1, ()))))
def TG (a0 : Xd) (a1 : Int) : Option Oc :=
 (cond (decide ((wr .i64 (a1 - ((ln a0 : Nat) : Int))) < 0))
 (some ((-1), ()))
 (some ((wr .i64 (a1 - ((ln a0 : Nat) : Int))), ())))
def Sx (a0 : Qd) (a1 : Int) : Option Oc :=
 (cond (decide ((wr .i64 (a1 - ((ln a0 : Nat) : Int))) < 0))
 (some ((-1), ()))
 (some ((wr .i64 (a1 - ((ln a0 : Nat) : Int))), ())))
def ND (a0 : Qd) (a1 : Int) : Option Oc :=
 (cond (decide ((wr .i64 (a1 - ((ln a0 : Nat) : Int))) < 0))
 (some ((-1), ()))
 (some ((wr .i64 (a1 - ((ln a0 : Nat) : Int))), ())))
def DA (a0 : Oa) (a1 : Int) : Option Oc :=
 (ob (TG a0.1 a1) fun r1 =>
 (cond (decide (r1.1 < 0))
 (some ((-1), ()))
 (ob (Sx a0.2.2.1 r1.1) fun r2 =>
 (cond (decide (r2.1 < 0))
 (some ((-1), ()))
 (ob (ND a0.2.2.2.2.2.2.1 r2.1) fun r3 =>
 (cond (decide (r3.1 < 0))
 (some ((-1), ()))
 (some (r3.1, ()))))))))
def AC (a0 : Eh) (a1 : Int) : Option Oc :=
 (cond (decide ((wr .i64 (a1 - ((ln a0 : Nat) : Int))) < 0))
 (some ((-1), ()))
 (some ((wr .i64 (a1 - ((ln a0 : Nat) : Int))), ())))
def RZ (t0 : Jh) (t1 : Int) (t5 : Int) : Option ((GM × Unit) ⊕ EG) :=
 (cond (decide (t5 < ((ln t0 : Nat) : Int)))
 (ob (Ab t0 t5) fun x5 =>
 (ob (AC x5 t1) fun r6 =>
 (cond (decide (r6.1 < 0))
 (some (.inr (.inr (((-1), ()), ()))))
 (some (.inl ((t0, r6.1, (wr .i64 (t5 + 1)), ()), ()))))))
 (some (.inr (.inl ((t1, ()), ())))))
def YJ := Ua fun x : (GM × Unit) => RZ x.1.1 x.1.2.1 x.1.2.2.1
def XG (a0 : Jh) (a1 : Int) : Option Oc :=
 (cond (decide ((wr .i64 (a1 - ((ln a0 : Nat) : Int))) < 0))
 (some ((-1), ()))
 (ob (YJ ((a0, (wr .i64 (a1 - ((ln a0 : Nat) : Int))), 0, ()), ())) (se (fun y7 => (some (y7.1.1, ()))) (fun z8 => (some (z8.1.1, ()))))))
def XJ (a0 : Vd) (a1 : Int) : Option Oc :=
 (cond (decide ((wr .i64 (a1 - ((ln a0 : Nat) : Int))) < 0))
 (some ((-1), ()))
 (some ((wr .i64 (a1 - ((ln a0 : Nat) : Int))), ())))
def UG (a0 : Gb) (a1 : Int) : Option Oc :=
 (ob (VG a0.1 a1) fun r1 =>
 (cond (decide (r1.1 < 0))
 (some ((-1), ()))
 (ob (XG a0.2.1 r1.1) fun r2 =>
 (cond (decide (r2.1 < 0))
 (some ((-1), ()))
 (ob (XJ a0.2.2.2.1 r2.1) fun r3 =>
 (cond (decide (r3.1 < 0))
 (some ((-1), ()))
 (some (r3.1, ()))))))))
def OD (a0 : Hb) (a1 : Int) : Option Oc :=
 (ob (UG a0.1 a1) fun r1 =>
 (cond (decide (r1.1 < 0))
 (some ((-1), ()))
 (ob (Sx a0.2.2.1 r1.1) fun r2 =>
 (cond (decide (r2.1 < 0))
 (some ((-1), ()))
 (some (r2.1, ()))))))
def WJ (a0 : Bc) (a1 : Int) : Option Oc :=
 (ob (Ew a0.2.1 a1) fun r1 =>
 (cond (decide (r1.1 < 0))
 (some ((-1), ()))
 (ob (DA a0.2.2.1 r1.1) fun r2 =>
 (cond (decide (r2.1 < 0))
 (some ((-1), ()))
 (ob (OD a0.2.2.2.1 r2.1) fun r3 =>
 (cond (decide (r3.1 < 0))
 (some ((-1), ()))
 (some (r3.1, ()))))))))
def Fw (a0 : Ob) : Option LO :=
 (ob (Jn a0.2.2.2.2.2.1) fun r1 =>
 (some ((a0.1, a0.2.1, a0.2.2.1, a0.2.2.2.1, a0.2.2.2.2.1, r1.1, ()), ())))
def BC (a0 : Va) : Option VI :=
 (some (a0, ()))
def SZ (t0 : Xd) (t3 : Xd) (t4 : Int) : Option (Vaa ⊕ (((Xd × Unit) × Unit) ⊕ De)) :=
 (cond (decide (t4 < ((ln t0 : Nat) : Int)))
 (ob (Ab t0 t4) fun x7 =>
 (ob (BC x7) fun r8 =>
 (cond (Af (ln t3) t4)
 (ob t3[(tn t4)]? fun x9 =>
 (some (.inl ((t0, (ls t3 (tn t4) r8.1), (wr .i64 (t4 + 1)), ()), ()))))
 none)))
 (some (.inr (.inl ((t3, ()), ())))))
def AK := Ua fun x : Vaa => SZ x.1.1 x.1.2.1 x.1.2.2.1
def XN (a0 : Xd) : Option (Xd × Unit) :=
 (cond ((((ln a0 : Nat) : Int) == ((ln a0 : Nat) : Int)) && (decide (0 ≤ ((ln a0 : Nat) : Int)) && decide (((ln a0 : Nat) : Int) ≤ ((Sa : Nat) : Int))))
 (ob (AK ((a0, (List.replicate (tn ((ln a0 : Nat) : Int)) (0, 0, ())), 0, ()), ())) (se (fun y10 => (some (y10.1.1, ()))) (fun z11 => none)))
 none)
def CC (a0 : Ca) : Option Dh :=
 (some (a0, ()))
def TZ (t0 : Qd) (t3 : Qd) (t4 : Int) : Option (MQ ⊕ ((XC × Unit) ⊕ De)) :=
 (cond (decide (t4 < ((ln t0 : Nat) : Int)))
 (ob (Ab t0 t4) fun x7 =>
 (ob (CC x7) fun r8 =>
 (cond (Af (ln t3) t4)
 (ob t3[(tn t4)]? fun x9 =>
 (some (.inl ((t0, (ls t3 (tn t4) r8.1), (wr .i64 (t4 + 1)), ()), ()))))
 none)))
 (some (.inr (.inl ((t3, ()), ())))))
def BK := Ua fun x : MQ => TZ x.1.1 x.1.2.1 x.1.2.2.1
def ZG (a0 : Qd) : Option XC :=
 (cond ((((ln a0 : Nat) : Int) == ((ln a0 : Nat) : Int)) && (decide (0 ≤ ((ln a0 : Nat) : Int)) && decide (((ln a0 : Nat) : Int) ≤ ((Sa : Nat) : Int))))
 (ob (BK ((a0, (List.replicate (tn ((ln a0 : Nat) : Int)) (0, 0, false, ())), 0, ()), ())) (se (fun y10 => (some (y10.1.1, ()))) (fun z11 => none)))
 none)
def Tx (a0 : Ca) : Option Dh :=
 (some (a0, ()))
def GX (t0 : Qd) (t3 : Qd) (t4 : Int) : Option (MQ ⊕ ((XC × Unit) ⊕ De)) :=
 (cond (decide (t4 < ((ln t0 : Nat) : Int)))
 (ob (Ab t0 t4) fun x7 =>
 (ob (Tx x7) fun r8 =>
 (cond (Af (ln t3) t4)
 (ob t3[(tn t4)]? fun x9 =>
 (some (.inl ((t0, (ls t3 (tn t4) r8.1), (wr .i64 (t4 + 1)), ()), ()))))
 none)))
 (some (.inr (.inl ((t3, ()), ())))))
def PI := Ua fun x : MQ => GX x.1.1 x.1.2.1 x.1.2.2.1
def XL (a0 : Qd) : Option XC :=
 (cond ((((ln a0 : Nat) : Int) == ((ln a0 : Nat) : Int)) && (decide (0 ≤ ((ln a0 : Nat) : Int)) && decide (((ln a0 : Nat) : Int) ≤ ((Sa : Nat) : Int))))
 (ob (PI ((a0, (List.replicate (tn ((ln a0 : Nat) : Int)) (0, 0, false, ())), 0, ()), ())) (se (fun y10 => (some (y10.1.1, ()))) (fun z11 => none)))
 none)
def EA (a0 : Oa) : Option WC :=
 (ob (XN a0.1) fun r1 =>
 (ob (ZG a0.2.2.1) fun r2 =>
 (ob (XL a0.2.2.2.2.2.2.1) fun r3 =>
 (some ((r1.1, a0.2.1, r2.1, a0.2.2.2.1, a0.2.2.2.2.1, a0.2.2.2.2.2.1, r3.1, ()), ())))))
def VF (a0 : Sc) : Option ZC :=
 (some (a0, ()))
def R2 (t0 : Eh) (t3 : Eh) (t4 : Int) : Option (Yaa ⊕ (((Eh × Unit) × Unit) ⊕ De)) :=
 (cond (decide (t4 < ((ln t0 : Nat) : Int)))
 (ob (Ab t0 t4) fun x7 =>
 (ob (VF x7) fun r8 =>
 (cond (Af (ln t3) t4)
 (ob t3[(tn t4)]? fun x9 =>
 (some (.inl ((t0, (ls t3 (tn t4) r8.1), (wr .i64 (t4 + 1)), ()), ()))))
 none)))
 (some (.inr (.inl ((t3, ()), ())))))
def WK := Ua fun x : Yaa => R2 x.1.1 x.1.2.1 x.1.2.2.1
def CK (a0 : Eh) : Option (Eh × Unit) :=
 (cond ((((ln a0 : Nat) : Int) == ((ln a0 : Nat) : Int)) && (decide (0 ≤ ((ln a0 : Nat) : Int)) && decide (((ln a0 : Nat) : Int) ≤ ((Sa : Nat) : Int))))
 (ob (WK ((a0, (List.replicate (tn ((ln a0 : Nat) : Int)) (0, 0, 0, ())), 0, ()), ())) (se (fun y10 => (some (y10.1.1, ()))) (fun z11 => none)))
 none)
def UZ (t0 : Jh) (t3 : Jh) (t4 : Int) : Option (Uaa ⊕ (((Jh × Unit) × Unit) ⊕ De)) :=
 (cond (decide (t4 < ((ln t0 : Nat) : Int)))
 (ob (Ab t0 t4) fun x7 =>
 (ob (CK x7) fun r8 =>
 (cond (Af (ln t3) t4)
 (ob t3[(tn t4)]? fun x9 =>
 (some (.inl ((t0, (ls t3 (tn t4) r8.1), (wr .i64 (t4 + 1)), ()), ()))))
 none)))
 (some (.inr (.inl ((t3, ()), ())))))
def DK := Ua fun x : Uaa => UZ x.1.1 x.1.2.1 x.1.2.2.1
def YN (a0 : Jh) : Option (Jh × Unit) :=
 (cond ((((ln a0 : Nat) : Int) == ((ln a0 : Nat) : Int)) && (decide (0 ≤ ((ln a0 : Nat) : Int)) && decide (((ln a0 : Nat) : Int) ≤ ((Sa : Nat) : Int))))
 (ob (DK ((a0, (List.replicate (tn ((ln a0 : Nat) : Int)) []), 0, ()), ())) (se (fun y10 => (some (y10.1.1, ()))) (fun z11 => none)))
 none)
def UF (a0 : Pa) : Option (Pa × Unit) :=
 (ob (Rp a0.2.1) fun r1 =>
 (some ((a0.1, r1.1, ()), ())))
def Q2 (t0 : Vd) (t3 : Vd) (t4 : Int) : Option (Xaa ⊕ (((Vd × Unit) × Unit) ⊕ De)) :=
 (cond (decide (t4 < ((ln t0 : Nat) : Int)))
 (ob (Ab t0 t4) fun x7 =>
 (ob (UF x7) fun r8 =>
 (cond (Af (ln t3) t4)
 (ob t3[(tn t4)]? fun x9 =>
 (some (.inl ((t0, (ls t3 (tn t4) r8.1), (wr .i64 (t4 + 1)), ()), ()))))
 none)))
 (some (.inr (.inl ((t3, ()), ())))))
def VK := Ua fun x : Xaa => Q2 x.1.1 x.1.2.1 x.1.2.2.1
def XP (a0 : Vd) : Option (Vd × Unit) :=
 (cond ((((ln a0 : Nat) : Int) == ((ln a0 : Nat) : Int)) && (decide (0 ≤ ((ln a0 : Nat) : Int)) && decide (((ln a0 : Nat) : Int) ≤ ((Sa : Nat) : Int))))
 (ob (VK ((a0, (List.replicate (tn ((ln a0 : Nat) : Int)) (0, (0, 0, 0, 0, ()), ())), 0, ()), ())) (se (fun y10 => (some (y10.1.1, ()))) (fun z11 => none)))
 none)
def YG (a0 : Gb) : Option Hl :=
 (ob (AH a0.1) fun r1 =>
 (ob (YN a0.2.1) fun r2 =>
 (ob (XP a0.2.2.2.1) fun r3 =>
 (some ((r1.1, r2.1, a0.2.2.1, r3.1, a0.2.2.2.2.1, a0.2.2.2.2.2.1, ()), ())))))
def QD (a0 : Hb) : Option NO :=
 (ob (YG a0.1) fun r1 =>
 (ob (DH a0.2.1) fun r2 =>
 (ob (ZG a0.2.2.1) fun r3 =>
 (some ((r1.1, r2.1, r3.1, a0.2.2.2.1, a0.2.2.2.2.1, a0.2.2.2.2.2.1, a0.2.2.2.2.2.2.1, ()), ())))))
def Co (a0 : Bc) : Option Dv :=
 (ob (BH a0.1) fun r1 =>
 (ob (Fw a0.2.1) fun r2 =>
 (ob (EA a0.2.2.1) fun r3 =>
 (ob (QD a0.2.2.2.1) fun r4 =>
 (some ((r1.1, r2.1, r3.1, r4.1, a0.2.2.2.2.1, a0.2.2.2.2.2.1, ()), ()))))))
def OG (a0 : Ca) (a1 : Ca) : Option Vc :=
 (cond (a0.1 != a1.1)
 (some (false, ()))
 (cond (a0.2.1 != a1.2.1)
 (some (false, ()))
 (cond (a0.2.2.1 != a1.2.2.1)
 (some (false, ()))
 (some (true, ())))))
def Bw (a0 : Ob) (a1 : Ob) : Option Vc :=
 (cond (a0.1 != a1.1)
 (some (false, ()))
 (cond (a0.2.1 != a1.2.1)
 (some (false, ()))
 (cond (a0.2.2.1 != a1.2.2.1)
 (some (false, ()))
 (cond (a0.2.2.2.1 != a1.2.2.2.1)
 (some (false, ()))
 (cond (a0.2.2.2.2.1 != a1.2.2.2.2.1)
 (some (false, ()))
 (ob (Ky a0.2.2.2.2.2.1 a1.2.2.2.2.2.1) fun r1 =>
 (cond (!r1.1)
 (some (false, ()))
 (some (true, ())))))))))
def UB (a0 : Va) (a1 : Va) : Option Vc :=
 (cond (a0.1 != a1.1)
 (some (false, ()))
 (cond (a0.2.1 != a1.2.1)
 (some (false, ()))
 (some (true, ()))))
def OZ (t0 : Xd) (t1 : Xd) (t5 : Int) : Option (Vaa ⊕ Qk) :=
 (cond (decide (t5 < ((ln t0 : Nat) : Int)))
 (ob (Ab t0 t5) fun x7 =>
 (ob (Ab t1 t5) fun x8 =>
 (ob (UB x7 x8) fun r9 =>
 (cond (!r9.1)
 (some (.inr (.inr ((false, ()), ()))))
 (some (.inl ((t0, t1, (wr .i64 (t5 + 1)), ()), ())))))))
 (some (.inr (.inl ((), ())))))
def MJ := Ua fun x : Vaa => OZ x.1.1 x.1.2.1 x.1.2.2.1
def LG (a0 : Xd) (a1 : Xd) : Option Vc :=
 (cond (((ln a0 : Nat) : Int) != ((ln a1 : Nat) : Int))
 (some (false, ()))
 (ob (MJ ((a0, a1, 0, ()), ())) (se (fun y10 => (some (true, ()))) (fun z11 => (some (z11.1.1, ()))))))
def Px (a0 : Ca) (a1 : Ca) : Option Vc :=
 (cond (a0.1 != a1.1)
 (some (false, ()))
 (cond (a0.2.1 != a1.2.1)
 (some (false, ()))
 (cond (a0.2.2.1 != a1.2.2.1)
 (some (false, ()))
 (some (true, ())))))
def EX (t0 : Qd) (t1 : Qd) (t5 : Int) : Option (MQ ⊕ Qk) :=
 (cond (decide (t5 < ((ln t0 : Nat) : Int)))
 (ob (Ab t0 t5) fun x7 =>
 (ob (Ab t1 t5) fun x8 =>
 (ob (Px x7 x8) fun r9 =>
 (cond (!r9.1)
 (some (.inr (.inr ((false, ()), ()))))
 (some (.inl ((t0, t1, (wr .i64 (t5 + 1)), ()), ())))))))
 (some (.inr (.inl ((), ())))))
def GI := Ua fun x : MQ => EX x.1.1 x.1.2.1 x.1.2.2.1
def KD (a0 : Qd) (a1 : Qd) : Option Vc :=
 (cond (((ln a0 : Nat) : Int) != ((ln a1 : Nat) : Int))
 (some (false, ()))
 (ob (GI ((a0, a1, 0, ()), ())) (se (fun y10 => (some (true, ()))) (fun z11 => (some (z11.1.1, ()))))))
def Uz (a0 : Oa) (a1 : Oa) : Option Vc :=
 (ob (LG a0.1 a1.1) fun r1 =>
 (cond (!r1.1)
 (some (false, ()))
 (cond (a0.2.1 != a1.2.1)
 (some (false, ()))
 (ob (Qx a0.2.2.1 a1.2.2.1) fun r2 =>
 (cond (!r2.1)
 (some (false, ()))
 (cond (a0.2.2.2.1 != a1.2.2.2.1)
 (some (false, ()))
 (cond (a0.2.2.2.2.1 != a1.2.2.2.2.1)
 (some (false, ()))
 (cond (a0.2.2.2.2.2.1 != a1.2.2.2.2.2.1)
 (some (false, ()))
 (ob (KD a0.2.2.2.2.2.2.1 a1.2.2.2.2.2.2.1) fun r3 =>
 (cond (!r3.1)
 (some (false, ()))
 (some (true, ()))))))))))))
def JF (a0 : Sc) (a1 : Sc) : Option Vc :=
 (cond (a0.1 != a1.1)
 (some (false, ()))
 (cond (a0.2.1 != a1.2.1)
 (some (false, ()))
 (cond (a0.2.2.1 != a1.2.2.1)
 (some (false, ()))
 (some (true, ())))))
def N2 (t0 : Eh) (t1 : Eh) (t5 : Int) : Option (Yaa ⊕ Qk) :=
 (cond (decide (t5 < ((ln t0 : Nat) : Int)))
 (ob (Ab t0 t5) fun x7 =>
 (ob (Ab t1 t5) fun x8 =>
 (ob (JF x7 x8) fun r9 =>
 (cond (!r9.1)
 (some (.inr (.inr ((false, ()), ()))))
 (some (.inl ((t0, t1, (wr .i64 (t5 + 1)), ()), ())))))))
 (some (.inr (.inl ((), ())))))
def UK := Ua fun x : Yaa => N2 x.1.1 x.1.2.1 x.1.2.2.1
def XB (a0 : Eh) (a1 : Eh) : Option Vc :=
 (cond (((ln a0 : Nat) : Int) != ((ln a1 : Nat) : Int))
 (some (false, ()))
 (ob (UK ((a0, a1, 0, ()), ())) (se (fun y10 => (some (true, ()))) (fun z11 => (some (z11.1.1, ()))))))
def QZ (t0 : Jh) (t1 : Jh) (t5 : Int) : Option (Uaa ⊕ Qk) :=
 (cond (decide (t5 < ((ln t0 : Nat) : Int)))
 (ob (Ab t0 t5) fun x7 =>
 (ob (Ab t1 t5) fun x8 =>
 (ob (XB x7 x8) fun r9 =>
 (cond (!r9.1)
 (some (.inr (.inr ((false, ()), ()))))
 (some (.inl ((t0, t1, (wr .i64 (t5 + 1)), ()), ())))))))
 (some (.inr (.inl ((), ())))))
def PJ := Ua fun x : Uaa => QZ x.1.1 x.1.2.1 x.1.2.2.1
def QG (a0 : Jh) (a1 : Jh) : Option Vc :=
 (cond (((ln a0 : Nat) : Int) != ((ln a1 : Nat) : Int))
 (some (false, ()))
 (ob (PJ ((a0, a1, 0, ()), ())) (se (fun y10 => (some (true, ()))) (fun z11 => (some (z11.1.1, ()))))))
def HF (a0 : Pa) (a1 : Pa) : Option Vc :=
 (cond (a0.1 != a1.1)
 (some (false, ()))
 (ob (Qp a0.2.1 a1.2.1) fun r1 =>
 (cond (!r1.1)
 (some (false, ()))
 (some (true, ())))))
def L2 (t0 : Vd) (t1 : Vd) (t5 : Int) : Option (Xaa ⊕ Qk) :=
 (cond (decide (t5 < ((ln t0 : Nat) : Int)))
 (ob (Ab t0 t5) fun x7 =>
 (ob (Ab t1 t5) fun x8 =>
 (ob (HF x7 x8) fun r9 =>
 (cond (!r9.1)
 (some (.inr (.inr ((false, ()), ()))))
 (some (.inl ((t0, t1, (wr .i64 (t5 + 1)), ()), ())))))))
 (some (.inr (.inl ((), ())))))
def SK := Ua fun x : Xaa => L2 x.1.1 x.1.2.1 x.1.2.2.1
def OJ (a0 : Vd) (a1 : Vd) : Option Vc :=
 (cond (((ln a0 : Nat) : Int) != ((ln a1 : Nat) : Int))
 (some (false, ()))
 (ob (SK ((a0, a1, 0, ()), ())) (se (fun y10 => (some (true, ()))) (fun z11 => (some (z11.1.1, ()))))))
def MG (a0 : Gb) (a1 : Gb) : Option Vc :=
 (ob (NG a0.1 a1.1) fun r1 =>
 (cond (!r1.1)
 (some (false, ()))
 (ob (QG a0.2.1 a1.2.1) fun r2 =>
 (cond (!r2.1)
 (some (false, ()))
 (cond (a0.2.2.1 != a1.2.2.1)
 (some (false, ()))
 (ob (OJ a0.2.2.2.1 a1.2.2.2.1) fun r3 =>
 (cond (!r3.1)
 (some (false, ()))
 (cond (a0.2.2.2.2.1 != a1.2.2.2.2.1)
 (some (false, ()))
 (cond (a0.2.2.2.2.2.1 != a1.2.2.2.2.2.1)
 (some (false, ()))
 (some (true, ())))))))))))
def LD (a0 : Hb) (a1 : Hb) : Option Vc :=
 (ob (MG a0.1 a1.1) fun r1 =>
 (cond (!r1.1)
 (some (false, ()))
 (ob (RG a0.2.1 a1.2.1) fun r2 =>
 (cond (!r2.1)
 (some (false, ()))
 (ob (Qx a0.2.2.1 a1.2.2.1) fun r3 =>
 (cond (!r3.1)
 (some (false, ()))
 (cond (a0.2.2.2.1 != a1.2.2.2.1)
 (some (false, ()))
 (cond (a0.2.2.2.2.1 != a1.2.2.2.2.1)
 (some (false, ()))
 (cond (a0.2.2.2.2.2.1 != a1.2.2.2.2.2.1)
 (some (false, ()))
 (cond (a0.2.2.2.2.2.2.1 != a1.2.2.2.2.2.2.1)
 (some (false, ()))
 (some (true, ()))))))))))))
def Bo (a0 : Bc) (a1 : Bc) : Option Vc :=
 (ob (OG a0.1 a1.1) fun r1 =>
 (cond (!r1.1)
 (some (false, ()))
 (ob (Bw a0.2.1 a1.2.1) fun r2 =>
 (cond (!r2.1)
 (some (false, ()))
 (ob (Uz a0.2.2.1 a1.2.2.1) fun r3 =>
 (cond (!r3.1)
 (some (false, ()))
 (ob (LD a0.2.2.2.1 a1.2.2.2.1) fun r4 =>
 (cond (!r4.1)
 (some (false, ()))
 (cond (a0.2.2.2.2.1 != a1.2.2.2.2.1)
 (some (false, ()))
 (cond (a0.2.2.2.2.2.1 != a1.2.2.2.2.2.1)
 (some (false, ()))
 (some (true, ()))))))))))))
def Nq (a0 : Ob) (a1 : Int) : Option (Ob × Oc) :=
 (ob (Rx a0.2.2.2.2.2.1 a1) fun r1 =>
 (some ((a0.1, a0.2.1, a0.2.2.1, a0.2.2.2.1, a0.2.2.2.2.1, r1.1, ()), (r1.2.1, ()))))
def Uo (t0 : Xd) (t1 : Int) (t5 : Int) : Option (HM ⊕ (Dab ⊕ De)) :=
 (cond (decide (t5 < ((ln t0 : Nat) : Int)))
 (cond (Af (ln t0) t5)
 (ob t0[(tn t5)]? fun x5 =>
 (cond (Af (ln (ls t0 (tn t5) (t1, x5.2))) t5)
 (ob (ls t0 (tn t5) (t1, x5.2))[(tn t5)]? fun x6 =>
 (some (.inl (((ls (ls t0 (tn t5) (t1, x5.2)) (tn t5) (x6.1, (wr .i64 (t1 + 1)), x6.2.2)), (wr .i64 ((wr .i64 (t1 + 1)) + 1)), (wr .i64 (t5 + 1)), ()), ()))))
 none))
 none)
 (some (.inr (.inl ((t0, t1, ()), ())))))
def PF := Ua fun x : HM => Uo x.1.1 x.1.2.1 x.1.2.2.1
def TJ (a0 : Xd) (a1 : Int) : Option (Xd × Oc) :=
 (ob (PF ((a0, a1, 0, ()), ())) (se (fun y7 => (some (y7.1.1, (y7.1.2.1, ())))) (fun z8 => none)))
def Ym (t0 : Qd) (t1 : Int) (t5 : Int) : Option (RQ ⊕ ((XI × Unit) ⊕ De)) :=
 (cond (decide (t5 < ((ln t0 : Nat) : Int)))
 (cond (Af (ln t0) t5)
 (ob t0[(tn t5)]? fun x7 =>
 (cond (Af (ln (ls t0 (tn t5) (t1, x7.2))) t5)
 (ob (ls t0 (tn t5) (t1, x7.2))[(tn t5)]? fun x8 =>
 (cond ((3 : Int) == 0)
 none
 (cond (Af (ln (ls (ls t0 (tn t5) (t1, x7.2)) (tn t5) (x8.1, (wr .i64 (t1 + 1)), x8.2.2))) t5)
 (ob (ls (ls t0 (tn t5) (t1, x7.2)) (tn t5) (x8.1, (wr .i64 (t1 + 1)), x8.2.2))[(tn t5)]? fun x9 =>
 (some (.inl (((ls (ls (ls t0 (tn t5) (t1, x7.2)) (tn t5) (x8.1, (wr .i64 (t1 + 1)), x8.2.2)) (tn t5) (x9.1, x9.2.1, ((Int.tmod (wr .i64 ((wr .i64 (t1 + 1)) + 1)) 3) == 0), x9.2.2.2)), (wr .i64 ((wr .i64 ((wr .i64 (t1 + 1)) + 1)) + 1)), (wr .i64 (t5 + 1)), ()), ()))))
 none)))
 none))
 none)
 (some (.inr (.inl ((t0, t1, ()), ())))))
def FE := Ua fun x : RQ => Ym x.1.1 x.1.2.1 x.1.2.2.1
def WH (a0 : Qd) (a1 : Int) : Option XI :=
 (ob (FE ((a0, a1, 0, ()), ())) (se (fun y10 => (some (y10.1.1, (y10.1.2.1, ())))) (fun z11 => none)))
def Ts (a0 : Oa) (a1 : Int) : Option (Oa × Oc) :=
 (ob (TJ a0.1 a1) fun r1 =>
 (ob (AA a0.2.2.1 r1.2.1) fun r2 =>
 (ob (WH a0.2.2.2.2.2.2.1 r2.2.1) fun r3 =>
 (some ((r1.1, a0.2.1, r2.1, a0.2.2.2.1, a0.2.2.2.2.1, a0.2.2.2.2.2.1, r3.1, ()), (r3.2.1, ()))))))
def Qq (t0 : Eh) (t1 : Int) (t5 : Int) : Option ((PQ × Unit) ⊕ (((Eh × Oc) × Unit) ⊕ De)) :=
 (cond (decide (t5 < ((ln t0 : Nat) : Int)))
 (cond (Af (ln t0) t5)
 (ob t0[(tn t5)]? fun x7 =>
 (cond (Af (ln (ls t0 (tn t5) (t1, x7.2))) t5)
 (ob (ls t0 (tn t5) (t1, x7.2))[(tn t5)]? fun x8 =>
 (cond (Af (ln (ls (ls t0 (tn t5) (t1, x7.2)) (tn t5) (x8.1, (wr .i64 (t1 + 1)), x8.2.2))) t5)
 (ob (ls (ls t0 (tn t5) (t1, x7.2)) (tn t5) (x8.1, (wr .i64 (t1 + 1)), x8.2.2))[(tn t5)]? fun x9 =>
 (some (.inl (((ls (ls (ls t0 (tn t5) (t1, x7.2)) (tn t5) (x8.1, (wr .i64 (t1 + 1)), x8.2.2)) (tn t5) (x9.1, x9.2.1, (wr .i64 ((wr .i64 (t1 + 1)) + 1)), x9.2.2.2)), (wr .i64 ((wr .i64 ((wr .i64 (t1 + 1)) + 1)) + 1)), (wr .i64 (t5 + 1)), ()), ()))))
 none))
 none))
 none)
 (some (.inr (.inl ((t0, t1, ()), ())))))
def NI := Ua fun x : (PQ × Unit) => Qq x.1.1 x.1.2.1 x.1.2.2.1
def VL (a0 : Eh) (a1 : Int) : Option (Eh × Oc) :=
 (ob (NI ((a0, a1, 0, ()), ())) (se (fun y10 => (some (y10.1.1, (y10.1.2.1, ())))) (fun z11 => none)))
def Wo (t0 : Jh) (t1 : Int) (t5 : Int) : Option ((GM × Unit) ⊕ (((Jh × Oc) × Unit) ⊕ De)) :=
 (cond (decide (t5 < ((ln t0 : Nat) : Int)))
 (cond (Af (ln t0) t5)
 (ob t0[(tn t5)]? fun x5 =>
 (ob (VL x5 t1) fun r6 =>
 (some (.inl (((ls t0 (tn t5) r6.1), r6.2.1, (wr .i64 (t5 + 1)), ()), ())))))
 none)
 (some (.inr (.inl ((t0, t1, ()), ())))))
def RF := Ua fun x : (GM × Unit) => Wo x.1.1 x.1.2.1 x.1.2.2.1
def VJ (a0 : Jh) (a1 : Int) : Option (Jh × Oc) :=
 (ob (RF ((a0, a1, 0, ()), ())) (se (fun y7 => (some (y7.1.1, (y7.1.2.1, ())))) (fun z8 => none)))
def Oq (t0 : Vd) (t1 : Int) (t5 : Int) : Option (SQ ⊕ (((Vd × Oc) × Unit) ⊕ De)) :=
 (cond (decide (t5 < ((ln t0 : Nat) : Int)))
 (cond (Af (ln t0) t5)
 (ob t0[(tn t5)]? fun x11 =>
 (cond (Af (ln (ls t0 (tn t5) (t1, x11.2))) t5)
 (ob (ls t0 (tn t5) (t1, x11.2))[(tn t5)]? fun x12 =>
 (cond (Af (ln (ls (ls t0 (tn t5) (t1, x11.2)) (tn t5) (x12.1, ((wr .i64 (t1 + 1)), x12.2.1.2), x12.2.2))) t5)
 (ob (ls (ls t0 (tn t5) (t1, x11.2)) (tn t5) (x12.1, ((wr .i64 (t1 + 1)), x12.2.1.2), x12.2.2))[(tn t5)]? fun x13 =>
 (cond (Af (ln (ls (ls (ls t0 (tn t5) (t1, x11.2)) (tn t5) (x12.1, ((wr .i64 (t1 + 1)), x12.2.1.2), x12.2.2)) (tn t5) (x13.1, (x13.2.1.1, (wr .i64 ((wr .i64 (t1 + 1)) + 1)), x13.2.1.2.2), x13.2.2))) t5)
 (ob (ls (ls (ls t0 (tn t5) (t1, x11.2)) (tn t5) (x12.1, ((wr .i64 (t1 + 1)), x12.2.1.2), x12.2.2)) (tn t5) (x13.1, (x13.2.1.1, (wr .i64 ((wr .i64 (t1 + 1)) + 1)), x13.2.1.2.2), x13.2.2))[(tn t5)]? fun x14 =>
 (cond (Af (ln (ls (ls (ls (ls t0 (tn t5) (t1, x11.2)) (tn t5) (x12.1, ((wr .i64 (t1 + 1)), x12.2.1.2), x12.2.2)) (tn t5) (x13.1, (x13.2.1.1, (wr .i64 ((wr .i64 (t1 + 1)) + 1)), x13.2.1.2.2), x13.2.2)) (tn t5) (x14.1, (x14.2.1.1, x14.2.1.2.1, (wr .i64 ((wr .i64 ((wr .i64 (t1 + 1)) + 1)) + 1)), x14.2.1.2.2.2), x14.2.2))) t5)
 (ob (ls (ls (ls (ls t0 (tn t5) (t1, x11.2)) (tn t5) (x12.1, ((wr .i64 (t1 + 1)), x12.2.1.2), x12.2.2)) (tn t5) (x13.1, (x13.2.1.1, (wr .i64 ((wr .i64 (t1 + 1)) + 1)), x13.2.1.2.2), x13.2.2)) (tn t5) (x14.1, (x14.2.1.1, x14.2.1.2.1, (wr .i64 ((wr .i64 ((wr .i64 (t1 + 1)) + 1)) + 1)), x14.2.1.2.2.2), x14.2.2))[(tn t5)]? fun x15 =>
 (some (.inl (((ls (ls (ls (ls (ls t0 (tn t5) (t1, x11.2)) (tn t5) (x12.1, ((wr .i64 (t1 + 1)), x12.2.1.2), x12.2.2)) (tn t5) (x13.1, (x13.2.1.1, (wr .i64 ((wr .i64 (t1 + 1)) + 1)), x13.2.1.2.2), x13.2.2)) (tn t5) (x14.1, (x14.2.1.1, x14.2.1.2.1, (wr .i64 ((wr .i64 ((wr .i64 (t1 + 1)) + 1)) + 1)), x14.2.1.2.2.2), x14.2.2)) (tn t5) (x15.1, (x15.2.1.1, x15.2.1.2.1, x15.2.1.2.2.1, (wr .i64 ((wr .i64 ((wr .i64 ((wr .i64 (t1 + 1)) + 1)) + 1)) + 1)), x15.2.1.2.2.2.2), x15.2.2)), (wr .i64 ((wr .i64 ((wr .i64 ((wr .i64 ((wr .i64 (t1 + 1)) + 1)) + 1)) + 1)) + 1)), (wr .i64 (t5 + 1)), ()), ()))))
 none))
 none))
 none))
 none))
 none)
 (some (.inr (.inl ((t0, t1, ()), ())))))
def LI := Ua fun x : SQ => Oq x.1.1 x.1.2.1 x.1.2.2.1
def TL (a0 : Vd) (a1 : Int) : Option (Vd × Oc) :=
 (ob (LI ((a0, a1, 0, ()), ())) (se (fun y16 => (some (y16.1.1, (y16.1.2.1, ())))) (fun z17 => none)))
def Zz (a0 : Gb) (a1 : Int) : Option (Gb × Oc) :=
 (ob (BA a0.1 a1) fun r1 =>
 (ob (VJ a0.2.1 r1.2.1) fun r2 =>
 (ob (TL a0.2.2.2.1 r2.2.1) fun r3 =>
 (some (((a0.1.1, r1.1.2.1, ()), r2.1, a0.2.2.1, r3.1, a0.2.2.2.2), (r3.2.1, ()))))))
def Dw (a0 : Hb) (a1 : Int) : Option (Hb × Oc) :=
 (ob (Zz a0.1 a1) fun r1 =>
 (ob (AA a0.2.2.1 r1.2.1) fun r2 =>
 (some ((((a0.1.1.1, r1.1.1.2.1, ()), r1.1.2.1, a0.1.2.2.1, r1.1.2.2.2.1, a0.1.2.2.2.2), a0.2.1, r2.1, a0.2.2.2), (r2.2.1, ())))))
def Gu (a0 : Bc) (a1 : Int) : Option (Bc × Oc) :=
 (ob (Nq a0.2.1 a1) fun r1 =>
 (ob (Ts a0.2.2.1 r1.2.1) fun r2 =>
 (ob (Dw a0.2.2.2.1 r2.2.1) fun r3 =>
 (some ((a0.1, (a0.2.1.1, a0.2.1.2.1, a0.2.1.2.2.1, a0.2.1.2.2.2.1, a0.2.1.2.2.2.2.1, r1.1.2.2.2.2.2.1, ()), (r2.1.1, a0.2.2.1.2.1, r2.1.2.2.1, a0.2.2.1.2.2.2.1, a0.2.2.1.2.2.2.2.1, a0.2.2.1.2.2.2.2.2.1, r2.1.2.2.2.2.2.2.1, ()), (((a0.2.2.2.1.1.1.1, r3.1.1.1.2.1, ()), r3.1.1.2.1, a0.2.2.2.1.1.2.2.1, r3.1.1.2.2.2.1, a0.2.2.2.1.1.2.2.2.2), a0.2.2.2.1.2.1, r3.1.2.2.1, a0.2.2.2.1.2.2.2), a0.2.2.2.2), (r3.2.1, ()))))))
def Jq (a0 : Ob) (a1 : Int) : Option Oc :=
 (ob (SG a0.2.2.2.2.2.1 a1) fun r1 =>
 (cond (decide (r1.1 < 0))
 (some ((-1), ()))
 (some (r1.1, ()))))
def Ro (t0 : Xd) (t1 : Int) (t5 : Int) : Option (HM ⊕ EG) :=
 (cond (decide (t5 < ((ln t0 : Nat) : Int)))
 (ob (Ab t0 t5) fun x5 =>
 (cond (x5.1 != t1)
 (some (.inr (.inr (((-1), ()), ()))))
 (ob (Ab t0 t5) fun x6 =>
 (cond (x6.2.1 != (wr .i64 (t1 + 1)))
 (some (.inr (.inr (((-1), ()), ()))))
 (some (.inl ((t0, (wr .i64 ((wr .i64 (t1 + 1)) + 1)), (wr .i64 (t5 + 1)), ()), ())))))))
 (some (.inr (.inl ((t1, ()), ())))))
def LF := Ua fun x : HM => Ro x.1.1 x.1.2.1 x.1.2.2.1
def QJ (a0 : Xd) (a1 : Int) : Option Oc :=
 (ob (LF ((a0, a1, 0, ()), ())) (se (fun y7 => (some (y7.1.1, ()))) (fun z8 => (some (z8.1.1, ())))))
def Wm (t0 : Qd) (t1 : Int) (t5 : Int) : Option (RQ ⊕ EG) :=
 (cond (decide (t5 < ((ln t0 : Nat) : Int)))
 (ob (Ab t0 t5) fun x7 =>
 (cond (x7.1 != t1)
 (some (.inr (.inr (((-1), ()), ()))))
 (ob (Ab t0 t5) fun x8 =>
 (cond (x8.2.1 != (wr .i64 (t1 + 1)))
 (some (.inr (.inr (((-1), ()), ()))))
 (ob (Ab t0 t5) fun x9 =>
 (cond ((3 : Int) == 0)
 none
 (cond (x9.2.2.1 != ((Int.tmod (wr .i64 ((wr .i64 (t1 + 1)) + 1)) 3) == 0))
 (some (.inr (.inr (((-1), ()), ()))))
 (some (.inl ((t0, (wr .i64 ((wr .i64 ((wr .i64 (t1 + 1)) + 1)) + 1)), (wr .i64 (t5 + 1)), ()), ()))))))))))
 (some (.inr (.inl ((t1, ()), ())))))
def DE := Ua fun x : RQ => Wm x.1.1 x.1.2.1 x.1.2.2.1
def UH (a0 : Qd) (a1 : Int) : Option Oc :=
 (ob (DE ((a0, a1, 0, ()), ())) (se (fun y10 => (some (y10.1.1, ()))) (fun z11 => (some (z11.1.1, ())))))
def Rs (a0 : Oa) (a1 : Int) : Option Oc :=
 (ob (QJ a0.1 a1) fun r1 =>
 (cond (decide (r1.1 < 0))
 (some ((-1), ()))
 (ob (Xz a0.2.2.1 r1.1) fun r2 =>
 (cond (decide (r2.1 < 0))
 (some ((-1), ()))
 (ob (UH a0.2.2.2.2.2.2.1 r2.1) fun r3 =>
 (cond (decide (r3.1 < 0))
 (some ((-1), ()))
 (some (r3.1, ()))))))))
def Mq (t0 : Eh) (t1 : Int) (t5 : Int) : Option ((PQ × Unit) ⊕ EG) :=
 (cond (decide (t5 < ((ln t0 : Nat) : Int)))
 (ob (Ab t0 t5) fun x7 =>
 (cond (x7.1 != t1)
 (some (.inr (.inr (((-1), ()), ()))))
 (ob (Ab t0 t5) fun x8 =>
 (cond (x8.2.1 != (wr .i64 (t1 + 1)))
 (some (.inr (.inr (((-1), ()), ()))))
 (ob (Ab t0 t5) fun x9 =>
 (cond (x9.2.2.1 != (wr .i64 ((wr .i64 (t1 + 1)) + 1)))
 (some (.inr (.inr (((-1), ()), ()))))
 (some (.inl ((t0, (wr .i64 ((wr .i64 ((wr .i64 (t1 + 1)) + 1)) + 1)), (wr .i64 (t5 + 1)), ()), ())))))))))
 (some (.inr (.inl ((t1, ()), ())))))
def KI := Ua fun x : (PQ × Unit) => Mq x.1.1 x.1.2.1 x.1.2.2.1
def SL (a0 : Eh) (a1 : Int) : Option Oc :=
 (ob (KI ((a0, a1, 0, ()), ())) (se (fun y10 => (some (y10.1.1, ()))) (fun z11 => (some (z11.1.1, ())))))
def To (t0 : Jh) (t1 : Int) (t5 : Int) : Option ((GM × Unit) ⊕ EG) :=
 (cond (decide (t5 < ((ln t0 : Nat) : Int)))
 (ob (Ab t0 t5) fun x5 =>
 (ob (SL x5 t1) fun r6 =>
 (cond (decide (r6.1 < 0))
 (some (.inr (.inr (((-1), ()), ()))))
 (some (.inl ((t0, r6.1, (wr .i64 (t5 + 1)), ()), ()))))))
 (some (.inr (.inl ((t1, ()), ())))))
def OF := Ua fun x : (GM × Unit) => To x.1.1 x.1.2.1 x.1.2.2.1
def SJ (a0 : Jh) (a1 : Int) : Option Oc :=
 (ob (OF ((a0, a1, 0, ()), ())) (se (fun y7 => (some (y7.1.1, ()))) (fun z8 => (some (z8.1.1, ())))))
def Kq (t0 : Vd) (t1 : Int) (t5 : Int) : Option (SQ ⊕ EG) :=
 (cond (decide (t5 < ((ln t0 : Nat) : Int)))
 (ob (Ab t0 t5) fun x11 =>
 (cond (x11.1 != t1)
 (some (.inr (.inr (((-1), ()), ()))))
 (ob (Ab t0 t5) fun x12 =>
 (cond (x12.2.1.1 != (wr .i64 (t1 + 1)))
 (some (.inr (.inr (((-1), ()), ()))))
 (ob (Ab t0 t5) fun x13 =>
 (cond (x13.2.1.2.1 != (wr .i64 ((wr .i64 (t1 + 1)) + 1)))
 (some (.inr (.inr (((-1), ()), ()))))
 (ob (Ab t0 t5) fun x14 =>
 (cond (x14.2.1.2.2.1 != (wr .i64 ((wr .i64 ((wr .i64 (t1 + 1)) + 1)) + 1)))
 (some (.inr (.inr (((-1), ()), ()))))
 (ob (Ab t0 t5) fun x15 =>
 (cond (x15.2.1.2.2.2.1 != (wr .i64 ((wr .i64 ((wr .i64 ((wr .i64 (t1 + 1)) + 1)) + 1)) + 1)))
 (some (.inr (.inr (((-1), ()), ()))))
 (some (.inl ((t0, (wr .i64 ((wr .i64 ((wr .i64 ((wr .i64 ((wr .i64 (t1 + 1)) + 1)) + 1)) + 1)) + 1)), (wr .i64 (t5 + 1)), ()), ())))))))))))))
 (some (.inr (.inl ((t1, ()), ())))))
def HI := Ua fun x : SQ => Kq x.1.1 x.1.2.1 x.1.2.2.1
def RL (a0 : Vd) (a1 : Int) : Option Oc :=
 (ob (HI ((a0, a1, 0, ()), ())) (se (fun y16 => (some (y16.1.1, ()))) (fun z17 => (some (z17.1.1, ())))))
def Wz (a0 : Gb) (a1 : Int) : Option Oc :=
 (ob (Yz a0.1 a1) fun r1 =>
 (cond (decide (r1.1 < 0))
 (some ((-1), ()))
 (ob (SJ a0.2.1 r1.1) fun r2 =>
 (cond (decide (r2.1 < 0))
 (some ((-1), ()))
 (ob (RL a0.2.2.2.1 r2.1) fun r3 =>
 (cond (decide (r3.1 < 0))
 (some ((-1), ()))
 (some (r3.1, ()))))))))
def Cw (a0 : Hb) (a1 : Int) : Option Oc :=
 (ob (Wz a0.1 a1) fun r1 =>
 (cond (decide (r1.1 < 0))
 (some ((-1), ()))
 (ob (Xz a0.2.2.1 r1.1) fun r2 =>
 (cond (decide (r2.1 < 0))
 (some ((-1), ()))
 (some (r2.1, ()))))))
def Fu (a0 : Bc) (a1 : Int) : Option Oc :=
 (ob (Jq a0.2.1 a1) fun r1 =>
 (cond (decide (r1.1 < 0))
 (some ((-1), ()))
 (ob (Rs a0.2.2.1 r1.1) fun r2 =>
 (cond (decide (r2.1 < 0))
 (some ((-1), ()))
 (ob (Cw a0.2.2.2.1 r2.1) fun r3 =>
 (cond (decide (r3.1 < 0))
 (some ((-1), ()))
 (some (r3.1, ()))))))))
def Xs (t1 : Int) (t3 : Qd) (t4 : Int) (t5 : Unit) (t12 : Int) (t13 : Int) (t14 : Int) (b5 : Sc) : Option (((Int × (Qd × (Int × PO))) × ZC) ⊕ (VI ⊕ VI)) :=
 (cond (decide (t14 < ((ln t3 : Nat) : Int)))
 (ob (Ab t3 t14) fun x7 =>
 (ob (Nu x7) fun r8 =>
 (cond (!r8.1)
 (some (.inr (.inr ((0, 0, ()), ()))))
 (cond (decide (x7.1 ≥ t12))
 (some (.inr (.inr ((2, t12, ()), ()))))
 (cond (x7.2.1 == t1)
 (cond (!x7.2.2.1)
 (some (.inr (.inr ((1, x7.1, ()), ()))))
 (cond (x7.2.1 == t1)
 (some (.inl ((t1, t3, t4, (), t12, t13, (wr .i64 (t14 + 1)), ()), (b5, ()))))
 (cond x7.2.2.1
 (cond (b5.2.2.1 == 1)
 (some (.inr (.inr ((2, x7.1, ()), ()))))
 (cond x7.2.2.1
 (cond (decide (0 ≤ x7.2.1))
 (some (.inl ((t1, t3, t4, (), t12, (Rc .i64 t13 (Ta .i64 1 x7.2.1)), (wr .i64 (t14 + 1)), ()), (b5, ()))))
 none)
 (cond (b5.2.2.1 == 2)
 (cond (decide (0 ≤ x7.2.1))
 (cond ((Wa .i64 (Zb .i64 t13 x7.2.1) 1) == 1)
 (some (.inr (.inr ((2, x7.1, ()), ()))))
 (some (.inl ((t1, t3, t4, (), t12, t13, (wr .i64 (t14 + 1)), ()), (b5, ())))))
 none)
 (some (.inl ((t1, t3, t4, (), t12, t13, (wr .i64 (t14 + 1)), ()), (b5, ())))))))
 (cond x7.2.2.1
 (cond (decide (0 ≤ x7.2.1))
 (some (.inl ((t1, t3, t4, (), t12, (Rc .i64 t13 (Ta .i64 1 x7.2.1)), (wr .i64 (t14 + 1)), ()), (b5, ()))))
 none)
 (cond (b5.2.2.1 == 2)
 (cond (decide (0 ≤ x7.2.1))
 (cond ((Wa .i64 (Zb .i64 t13 x7.2.1) 1) == 1)
 (some (.inr (.inr ((2, x7.1, ()), ()))))
 (some (.inl ((t1, t3, t4, (), t12, t13, (wr .i64 (t14 + 1)), ()), (b5, ())))))
 none)
 (some (.inl ((t1, t3, t4, (), t12, t13, (wr .i64 (t14 + 1)), ()), (b5, ())))))))))
 (cond (x7.2.1 == t1)
 (some (.inl ((t1, t3, t4, (), t12, t13, (wr .i64 (t14 + 1)), ()), (b5, ()))))
 (cond x7.2.2.1
 (cond (b5.2.2.1 == 1)
 (some (.inr (.inr ((2, x7.1, ()), ()))))
 (cond x7.2.2.1
 (cond (decide (0 ≤ x7.2.1))
 (some (.inl ((t1, t3, t4, (), t12, (Rc .i64 t13 (Ta .i64 1 x7.2.1)), (wr .i64 (t14 + 1)), ()), (b5, ()))))
 none)
 (cond (b5.2.2.1 == 2)
 (cond (decide (0 ≤ x7.2.1))
 (cond ((Wa .i64 (Zb .i64 t13 x7.2.1) 1) == 1)
 (some (.inr (.inr ((2, x7.1, ()), ()))))
 (some (.inl ((t1, t3, t4, (), t12, t13, (wr .i64 (t14 + 1)), ()), (b5, ())))))
 none)
 (some (.inl ((t1, t3, t4, (), t12, t13, (wr .i64 (t14 + 1)), ()), (b5, ())))))))
 (cond x7.2.2.1
 (cond (decide (0 ≤ x7.2.1))
 (some (.inl ((t1, t3, t4, (), t12, (Rc .i64 t13 (Ta .i64 1 x7.2.1)), (wr .i64 (t14 + 1)), ()), (b5, ()))))
 none)
 (cond (b5.2.2.1 == 2)
 (cond (decide (0 ≤ x7.2.1))
 (cond ((Wa .i64 (Zb .i64 t13 x7.2.1) 1) == 1)
 (some (.inr (.inr ((2, x7.1, ()), ()))))
 (some (.inl ((t1, t3, t4, (), t12, t13, (wr .i64 (t14 + 1)), ()), (b5, ())))))
 none)
 (some (.inl ((t1, t3, t4, (), t12, t13, (wr .i64 (t14 + 1)), ()), (b5, ())))))))))))))
 (some (.inr (.inl ((t4, t12, ()), ())))))
def Lw := Ua fun x : ((Int × (Qd × (Int × PO))) × ZC) => Xs x.1.1 x.1.2.1 x.1.2.2.1 x.1.2.2.2.1 x.1.2.2.2.2.1 x.1.2.2.2.2.2.1 x.1.2.2.2.2.2.2.1 x.2.1
def GH (a0 : Sc) (a1 : Int) (a2 : Int) (a3 : Qd) (a4 : Int) : Option Va :=
 (ob (Ay a0) fun r1 =>
 (cond (!r1.1)
 (some (0, 0, ()))
 (ob (Cc a2 0 1000000) fun r2 =>
 (cond (!r2.1)
 (some (0, 0, ()))
 (ob (Lw ((a1, a3, a4, (), (wr .i64 (a2 + a0.1)), 0, 0, ()), (a0, ()))) (se (fun y9 => (cond (decide (y9.1.1 ≥ y9.1.2.1))
 (some (2, y9.1.2.1, ()))
 (some (0, 0, ())))) (fun z10 => (some z10.1))))))))
def Qu (a0 : Hb) (a1 : Ca) (a2 : Int) : Option (Hb × (Ck × Ev)) :=
 (ob (Cy a0.1.2.2.1 a0.1.2.2.2.1) fun r1 =>
 (ob (Vx a0.1.1 r1.1 a1.2.1) fun r2 =>
 (ob (Mk r2.1) fun r3 =>
 (cond r3.1
 (cond (Md (ln a0.2.2.1) 1 ((ln a0.2.2.1 : Nat) : Int))
 (ob (GH a0.2.1 a1.2.1 a1.1 (Eb a0.2.2.1 (tn 1) (tn ((ln a0.2.2.1 : Nat) : Int))) a0.2.2.2.1) fun r4 =>
 (cond (a0.2.2.2.2.2.1 == (wr .i64 (a1.2.1 + 1)))
 (cond (decide ((wr .i64 (a1.1 - a0.2.2.2.2.2.2.1)) < a0.2.1.2.1))
 (cond ((1 : Int) == 0)
 (some (a0, ([], a2, false, ())))
 (cond (!((1 : Int) == 2))
 (ob (Yk a0.1 a1.2.1 ((1 : Int) == 2)) fun r5 =>
 (some ((r5.1, a0.2.1, a0.2.2.1, a0.2.2.2.1, a0.2.2.2.2.1, (wr .i64 (a1.2.1 + 1)), a1.1, a0.2.2.2.2.2.2.2), (r5.2.1, (max a2 a1.1), true, ()))))
 (ob (Yk a0.1 a1.2.1 ((1 : Int) == 2)) fun r6 =>
 (some ((r6.1, a0.2.1, a0.2.2.1, a0.2.2.2.1, a0.2.2.2.2.1, 0, a0.2.2.2.2.2.2), (r6.2.1, (max a2 a1.1), true, ()))))))
 (cond (r4.1 == 0)
 (some (a0, ([], a2, false, ())))
 (cond (!(r4.1 == 2))
 (ob (Yk a0.1 a1.2.1 (r4.1 == 2)) fun r7 =>
 (some ((r7.1, a0.2.1, a0.2.2.1, a0.2.2.2.1, a0.2.2.2.2.1, (wr .i64 (a1.2.1 + 1)), a1.1, a0.2.2.2.2.2.2.2), (r7.2.1, (max a2 r4.2.1), true, ()))))
 (ob (Yk a0.1 a1.2.1 (r4.1 == 2)) fun r8 =>
 (some ((r8.1, a0.2.1, a0.2.2.1, a0.2.2.2.1, a0.2.2.2.2.1, 0, a0.2.2.2.2.2.2), (r8.2.1, (max a2 r4.2.1), true, ())))))))
 (cond (r4.1 == 0)
 (some (a0, ([], a2, false, ())))
 (cond (!(r4.1 == 2))
 (ob (Yk a0.1 a1.2.1 (r4.1 == 2)) fun r9 =>
 (some ((r9.1, a0.2.1, a0.2.2.1, a0.2.2.2.1, a0.2.2.2.2.1, (wr .i64 (a1.2.1 + 1)), a1.1, a0.2.2.2.2.2.2.2), (r9.2.1, (max a2 r4.2.1), true, ()))))
 (ob (Yk a0.1 a1.2.1 (r4.1 == 2)) fun r10 =>
 (some ((r10.1, a0.2.1, a0.2.2.1, a0.2.2.2.1, a0.2.2.2.2.1, 0, a0.2.2.2.2.2.2), (r10.2.1, (max a2 r4.2.1), true, ()))))))))
 none)
 (ob (Yk a0.1 a1.2.1 false) fun r11 =>
 (some ((r11.1, a0.2), (r11.2.1, a2, true, ()))))))))
def Tw (t0 : Unit) (t3 : Cg) (t5 : Int) (t6 : (Ck × Int)) (t13 : Int) (b500000 : Hb) : Option (OaD ⊕ (((Unit × (Cg × Oc)) × NO) ⊕ De)) :=
 (cond (decide (t13 < ((ln t6.1 : Nat) : Int)))
 (cond (Af (ln t6.1) t13)
 (cond (Nat.beq (tn t13) (tn t6.2))
 (ob t6.1[(tn t13)]? fun x53 =>
 (cond (bl (ln t3 + ln ([(t5, x53, ())] : List Pe)) Sa)
 (some (.inl (((), (ap t3 ([(t5, x53, ())] : List Pe)), t5, (t6.1, ((((tn t13) + 1) : Nat) : Int)), (wr .i64 (t13 + 1)), ()), (b500000, ()))))
 none))
 none)
 none)
 (some (.inr (.inl (((), t3, t5, ()), (b500000, ()))))))
def Li := Ua fun x : OaD => Tw x.1.1 x.1.2.1 x.1.2.2.1 x.1.2.2.2.1 x.1.2.2.2.2.1 x.2.1
def Ii (t0 : Unit) (t3 : Cg) (b500000 : Hb) : Option ((JY × NO) ⊕ ((JY × NO) ⊕ (JY × NO))) :=
 (cond (decide (((ln b500000.2.2.1 : Nat) : Int) > 0))
 (cond (Af (ln b500000.2.2.1) 0)
 (ob b500000.2.2.1[(tn 0)]? fun x38 =>
 (cond x38.2.2.1
 (ob (Qu b500000 x38 (max b500000.2.2.2.2.1 x38.1)) fun r39 =>
 (cond (!r39.2.2.2.1)
 (some (.inr (.inr (((), t3, ()), (r39.1, ())))))
 (ob (Li (((), t3, r39.2.2.1, (r39.2.1, 0), 0, ()), (r39.1, ()))) (se (fun y43 => (cond (Md (ln y43.2.1.2.2.1) 1 ((ln y43.2.1.2.2.1 : Nat) : Int))
 (cond (bl (ln ([] : List Ca) + ln (Eb y43.2.1.2.2.1 (tn 1) (tn ((ln y43.2.1.2.2.1 : Nat) : Int)))) Sa)
 (some (.inl (((), y43.1.2.1, ()), ((y43.2.1.1, y43.2.1.2.1, (ap [] (Eb y43.2.1.2.2.1 (tn 1) (tn ((ln y43.2.1.2.2.1 : Nat) : Int)))), y43.2.1.2.2.2.1, y43.1.2.2.1, y43.2.1.2.2.2.2.2), ()))))
 none)
 none)) (fun z44 => none)))))
 (ob (LC b500000.1 x38.2.1) fun r45 =>
 (cond (b500000.2.2.2.2.2.1 == (wr .i64 (x38.2.1 + 1)))
 (ob (Li (((), t3, (max b500000.2.2.2.2.1 x38.1), (r45.2.1, 0), 0, ()), ((r45.1, b500000.2.1, b500000.2.2.1, b500000.2.2.2.1, b500000.2.2.2.2.1, b500000.2.2.2.2.2.1, x38.1, b500000.2.2.2.2.2.2.2), ()))) (se (fun y49 => (cond (Md (ln y49.2.1.2.2.1) 1 ((ln y49.2.1.2.2.1 : Nat) : Int))
 (cond (bl (ln ([] : List Ca) + ln (Eb y49.2.1.2.2.1 (tn 1) (tn ((ln y49.2.1.2.2.1 : Nat) : Int)))) Sa)
 (some (.inl (((), y49.1.2.1, ()), ((y49.2.1.1, y49.2.1.2.1, (ap [] (Eb y49.2.1.2.2.1 (tn 1) (tn ((ln y49.2.1.2.2.1 : Nat) : Int)))), y49.2.1.2.2.2.1, y49.1.2.2.1, y49.2.1.2.2.2.2.2), ()))))
 none)
 none)) (fun z50 => none)))
 (ob (Li (((), t3, (max b500000.2.2.2.2.1 x38.1), (r45.2.1, 0), 0, ()), ((r45.1, b500000.2), ()))) (se (fun y54 => (cond (Md (ln y54.2.1.2.2.1) 1 ((ln y54.2.1.2.2.1 : Nat) : Int))
 (cond (bl (ln ([] : List Ca) + ln (Eb y54.2.1.2.2.1 (tn 1) (tn ((ln y54.2.1.2.2.1 : Nat) : Int)))) Sa)
 (some (.inl (((), y54.1.2.1, ()), ((y54.2.1.1, y54.2.1.2.1, (ap [] (Eb y54.2.1.2.2.1 (tn 1) (tn ((ln y54.2.1.2.2.1 : Nat) : Int)))), y54.2.1.2.2.2.1, y54.1.2.2.1, y54.2.1.2.2.2.2.2), ()))))
 none)
 none)) (fun z55 => none)))))))
 none)
 (some (.inr (.inl (((), t3, ()), (b500000, ()))))))
def Gj := Ua fun x : (JY × NO) => Ii x.1.1 x.1.2.1 x.2.1
def Ny (a0 : Hb) : Option (Hb × (Cg × Unit)) :=
 (ob (Gj (((), [], ()), (a0, ()))) (se (fun y56 => (some (y56.2.1, (y56.1.2.1, ())))) (fun z57 => (some (z57.2.1, (z57.1.2.1, ()))))))
def NA (a0 : Hb) (a1 : Qd) (a2 : Int) : Option (Hb × QQ) :=
 (cond (bl (ln ([] : List Ca) + ln a0.2.2.1) Sa)
 (cond (bl (ln (ap [] a0.2.2.1) + ln a1) Sa)
 (ob (Mu a0) fun r1 =>
 (cond (!r1.1)
 (some ((((0, [], ()), [], 0, [], 0, false, ()), (0, 0, 0, ()), [], 0, 0, 0, 0, ()), [], false, ()))
 (ob (Cc a2 a0.2.2.2.1 1000000) fun r2 =>
 (cond (!r2.1)
 (some ((((0, [], ()), [], 0, [], 0, false, ()), (0, 0, 0, ()), [], 0, 0, 0, 0, ()), [], false, ()))
 (ob (Ru a0.1) fun r3 =>
 (ob (Qj (ap (ap [] a0.2.2.1) a1) r3.1 a0.1.1.1 0) fun r4 =>
 (cond (!r4.1)
 (some ((((0, [], ()), [], 0, [], 0, false, ()), (0, 0, 0, ()), [], 0, 0, 0, 0, ()), [], false, ()))
 (cond (decide (((ln a1 : Nat) : Int) > 0))
 (ob (Ab a1 0) fun x5 =>
 (cond (decide (x5.1 < a0.2.2.2.1))
 (some ((((0, [], ()), [], 0, [], 0, false, ()), (0, 0, 0, ()), [], 0, 0, 0, 0, ()), [], false, ()))
 (ob (Ab a1 (wr .i64 (((ln a1 : Nat) : Int) - 1))) fun x6 =>
 (cond (decide (x6.1 > a2))
 (some ((((0, [], ()), [], 0, [], 0, false, ()), (0, 0, 0, ()), [], 0, 0, 0, 0, ()), [], false, ()))
 (ob (Nn a0.1) fun r7 =>
 (ob (Ny (r7.1, a0.2.1, (ap (ap [] a0.2.2.1) a1), a2, a0.2.2.2.2)) fun r8 =>
 (some (r8.1, r8.2.1, true, ()))))))))
 (ob (Nn a0.1) fun r9 =>
 (ob (Ny (r9.1, a0.2.1, (ap (ap [] a0.2.2.1) a1), a2, a0.2.2.2.2)) fun r10 =>
 (some (r10.1, r10.2.1, true, ()))))))))))))
 none)
 none)
def Lq (t0 : Cg) (t1 : Int) (t5 : Int) : Option (Raa ⊕ EG) :=
 (cond (decide (t5 < ((ln t0 : Nat) : Int)))
 (ob (Ab t0 t5) fun x9 =>
 (cond (x9.1 != t1)
 (some (.inr (.inr (((-1), ()), ()))))
 (ob (Ab t0 t5) fun x10 =>
 (cond (x10.2.1.1 != (wr .i64 (t1 + 1)))
 (some (.inr (.inr (((-1), ()), ()))))
 (ob (Ab t0 t5) fun x11 =>
 (ob (SG x11.2.1.2.1 (wr .i64 ((wr .i64 (t1 + 1)) + 1))) fun r12 =>
 (cond (decide (r12.1 < 0))
 (some (.inr (.inr (((-1), ()), ()))))
 (some (.inl ((t0, r12.1, (wr .i64 (t5 + 1)), ()), ()))))))))))
 (some (.inr (.inl ((t1, ()), ())))))
def JI := Ua fun x : Raa => Lq x.1.1 x.1.2.1 x.1.2.2.1
def MD (a0 : Cg) (a1 : Int) : Option Oc :=
 (ob (JI ((a0, a1, 0, ()), ())) (se (fun y13 => (some (y13.1.1, ()))) (fun z14 => (some (z14.1.1, ())))))
def Fj (t1 : Int) (t2 : Unit) (t4 : Unit) (t6 : Unit) (t7 : Int) (b2 : Ob) (b4 : Ob) (b6 : Ob) : Option (((Int × LY) × Saa) ⊕ (((Int × TQ) × (Ob × LO)) ⊕ De)) :=
 (cond (decide (t7 < b2.2.2.1))
 (ob (Ab b2.2.2.2.2.2.1 t7) fun x5 =>
 (cond (b2.1 == 0)
 (cond (decide (0 ≤ t7))
 (cond ((Wa .i64 (Zb .i64 (Me .i64 t1 b2.2.2.2.2.1) t7) 1) == 1)
 (cond (decide (1 ≥ b2.2.1))
 (cond (decide (0 ≤ t7))
 (cond ((Wa .i64 (Zb .i64 (Me .i64 t1 b2.2.2.2.1) t7) 1) == 1)
 (cond (decide (0 ≤ t7))
 (cond (b2.1 == 2)
 (cond (bl (ln b6.2.2.2.2.2.1 + ln ([0] : List Int)) Sa)
 (some (.inl ((t1, (), (), (), (wr .i64 (t7 + 1)), ()), (b2, b4, (b6.1, b6.2.1, b6.2.2.1, (Me .i64 b6.2.2.2.1 (Ta .i64 1 t7)), b6.2.2.2.2.1, (ap b6.2.2.2.2.2.1 ([0] : List Int)), b6.2.2.2.2.2.2), ()))))
 none)
 (cond (bl (ln b6.2.2.2.2.2.1 + ln ([1] : List Int)) Sa)
 (some (.inl ((t1, (), (), (), (wr .i64 (t7 + 1)), ()), (b2, b4, (b6.1, b6.2.1, b6.2.2.1, (Me .i64 b6.2.2.2.1 (Ta .i64 1 t7)), b6.2.2.2.2.1, (ap b6.2.2.2.2.2.1 ([1] : List Int)), b6.2.2.2.2.2.2), ()))))
 none))
 none)
 (cond (bl (ln b6.2.2.2.2.2.1 + ln ([1] : List Int)) Sa)
 (some (.inl ((t1, (), (), (), (wr .i64 (t7 + 1)), ()), (b2, b4, (b6.1, b6.2.1, b6.2.2.1, b6.2.2.2.1, b6.2.2.2.2.1, (ap b6.2.2.2.2.2.1 ([1] : List Int)), b6.2.2.2.2.2.2), ()))))
 none))
 none)
 (cond (bl (ln b6.2.2.2.2.2.1 + ln ([1] : List Int)) Sa)
 (some (.inl ((t1, (), (), (), (wr .i64 (t7 + 1)), ()), (b2, b4, (b6.1, b6.2.1, b6.2.2.1, b6.2.2.2.1, b6.2.2.2.2.1, (ap b6.2.2.2.2.2.1 ([1] : List Int)), b6.2.2.2.2.2.2), ()))))
 none))
 (cond (b2.1 == 1)
 (cond (t1 != b2.2.2.2.2.1)
 (cond (decide (1 ≥ b2.2.1))
 (cond (decide (0 ≤ t7))
 (cond ((Wa .i64 (Zb .i64 (Me .i64 t1 b2.2.2.2.1) t7) 1) == 1)
 (cond (decide (0 ≤ t7))
 (cond (b2.1 == 2)
 (cond (bl (ln b6.2.2.2.2.2.1 + ln ([0] : List Int)) Sa)
 (some (.inl ((t1, (), (), (), (wr .i64 (t7 + 1)), ()), (b2, b4, (b6.1, b6.2.1, b6.2.2.1, (Me .i64 b6.2.2.2.1 (Ta .i64 1 t7)), b6.2.2.2.2.1, (ap b6.2.2.2.2.2.1 ([0] : List Int)), b6.2.2.2.2.2.2), ()))))
 none)
 (cond (bl (ln b6.2.2.2.2.2.1 + ln ([1] : List Int)) Sa)
 (some (.inl ((t1, (), (), (), (wr .i64 (t7 + 1)), ()), (b2, b4, (b6.1, b6.2.1, b6.2.2.1, (Me .i64 b6.2.2.2.1 (Ta .i64 1 t7)), b6.2.2.2.2.1, (ap b6.2.2.2.2.2.1 ([1] : List Int)), b6.2.2.2.2.2.2), ()))))
 none))
 none)
 (cond (bl (ln b6.2.2.2.2.2.1 + ln ([1] : List Int)) Sa)
 (some (.inl ((t1, (), (), (), (wr .i64 (t7 + 1)), ()), (b2, b4, (b6.1, b6.2.1, b6.2.2.1, b6.2.2.2.1, b6.2.2.2.2.1, (ap b6.2.2.2.2.2.1 ([1] : List Int)), b6.2.2.2.2.2.2), ()))))
 none))
 none)
 (cond (bl (ln b6.2.2.2.2.2.1 + ln ([1] : List Int)) Sa)
 (some (.inl ((t1, (), (), (), (wr .i64 (t7 + 1)), ()), (b2, b4, (b6.1, b6.2.1, b6.2.2.1, b6.2.2.2.1, b6.2.2.2.2.1, (ap b6.2.2.2.2.2.1 ([1] : List Int)), b6.2.2.2.2.2.2), ()))))
 none))
 (cond (decide ((min 99 (wr .i64 (x5 + 1))) ≥ b2.2.1))
 (cond (decide (0 ≤ t7))
 (cond ((Wa .i64 (Zb .i64 (Me .i64 t1 b2.2.2.2.1) t7) 1) == 1)
 (cond (decide (0 ≤ t7))
 (cond (b2.1 == 2)
 (cond (bl (ln b6.2.2.2.2.2.1 + ln ([0] : List Int)) Sa)
 (some (.inl ((t1, (), (), (), (wr .i64 (t7 + 1)), ()), (b2, b4, (b6.1, b6.2.1, b6.2.2.1, (Me .i64 b6.2.2.2.1 (Ta .i64 1 t7)), b6.2.2.2.2.1, (ap b6.2.2.2.2.2.1 ([0] : List Int)), b6.2.2.2.2.2.2), ()))))
 none)
 (cond (bl (ln b6.2.2.2.2.2.1 + ln ([(min 99 (wr .i64 (x5 + 1)))] : List Int)) Sa)
 (some (.inl ((t1, (), (), (), (wr .i64 (t7 + 1)), ()), (b2, b4, (b6.1, b6.2.1, b6.2.2.1, (Me .i64 b6.2.2.2.1 (Ta .i64 1 t7)), b6.2.2.2.2.1, (ap b6.2.2.2.2.2.1 ([(min 99 (wr .i64 (x5 + 1)))] : List Int)), b6.2.2.2.2.2.2), ()))))
 none))
 none)
 (cond (bl (ln b6.2.2.2.2.2.1 + ln ([(min 99 (wr .i64 (x5 + 1)))] : List Int)) Sa)
 (some (.inl ((t1, (), (), (), (wr .i64 (t7 + 1)), ()), (b2, b4, (b6.1, b6.2.1, b6.2.2.1, b6.2.2.2.1, b6.2.2.2.2.1, (ap b6.2.2.2.2.2.1 ([(min 99 (wr .i64 (x5 + 1)))] : List Int)), b6.2.2.2.2.2.2), ()))))
 none))
 none)
 (cond (bl (ln b6.2.2.2.2.2.1 + ln ([(min 99 (wr .i64 (x5 + 1)))] : List Int)) Sa)
 (some (.inl ((t1, (), (), (), (wr .i64 (t7 + 1)), ()), (b2, b4, (b6.1, b6.2.1, b6.2.2.1, b6.2.2.2.1, b6.2.2.2.2.1, (ap b6.2.2.2.2.2.1 ([(min 99 (wr .i64 (x5 + 1)))] : List Int)), b6.2.2.2.2.2.2), ()))))
 none)))
 (cond (decide ((min 99 (wr .i64 (x5 + 1))) ≥ b2.2.1))
 (cond (decide (0 ≤ t7))
 (cond ((Wa .i64 (Zb .i64 (Me .i64 t1 b2.2.2.2.1) t7) 1) == 1)
 (cond (decide (0 ≤ t7))
 (cond (b2.1 == 2)
 (cond (bl (ln b6.2.2.2.2.2.1 + ln ([0] : List Int)) Sa)
 (some (.inl ((t1, (), (), (), (wr .i64 (t7 + 1)), ()), (b2, b4, (b6.1, b6.2.1, b6.2.2.1, (Me .i64 b6.2.2.2.1 (Ta .i64 1 t7)), b6.2.2.2.2.1, (ap b6.2.2.2.2.2.1 ([0] : List Int)), b6.2.2.2.2.2.2), ()))))
 none)
 (cond (bl (ln b6.2.2.2.2.2.1 + ln ([(min 99 (wr .i64 (x5 + 1)))] : List Int)) Sa)
 (some (.inl ((t1, (), (), (), (wr .i64 (t7 + 1)), ()), (b2, b4, (b6.1, b6.2.1, b6.2.2.1, (Me .i64 b6.2.2.2.1 (Ta .i64 1 t7)), b6.2.2.2.2.1, (ap b6.2.2.2.2.2.1 ([(min 99 (wr .i64 (x5 + 1)))] : List Int)), b6.2.2.2.2.2.2), ()))))
 none))
 none)
 (cond (bl (ln b6.2.2.2.2.2.1 + ln ([(min 99 (wr .i64 (x5 + 1)))] : List Int)) Sa)
 (some (.inl ((t1, (), (), (), (wr .i64 (t7 + 1)), ()), (b2, b4, (b6.1, b6.2.1, b6.2.2.1, b6.2.2.2.1, b6.2.2.2.2.1, (ap b6.2.2.2.2.2.1 ([(min 99 (wr .i64 (x5 + 1)))] : List Int)), b6.2.2.2.2.2.2), ()))))
 none))
 none)
 (cond (bl (ln b6.2.2.2.2.2.1 + ln ([(min 99 (wr .i64 (x5 + 1)))] : List Int)) Sa)
 (some (.inl ((t1, (), (), (), (wr .i64 (t7 + 1)), ()), (b2, b4, (b6.1, b6.2.1, b6.2.2.1, b6.2.2.2.1, b6.2.2.2.2.1, (ap b6.2.2.2.2.2.1 ([(min 99 (wr .i64 (x5 + 1)))] : List Int)), b6.2.2.2.2.2.2), ()))))
 none))))
 none)
 (cond (b2.1 == 1)
 (cond (t1 != b2.2.2.2.2.1)
 (cond (decide (1 ≥ b2.2.1))
 (cond (decide (0 ≤ t7))
 (cond ((Wa .i64 (Zb .i64 (Me .i64 t1 b2.2.2.2.1) t7) 1) == 1)
 (cond (decide (0 ≤ t7))
 (cond (b2.1 == 2)
 (cond (bl (ln b6.2.2.2.2.2.1 + ln ([0] : List Int)) Sa)
 (some (.inl ((t1, (), (), (), (wr .i64 (t7 + 1)), ()), (b2, b4, (b6.1, b6.2.1, b6.2.2.1, (Me .i64 b6.2.2.2.1 (Ta .i64 1 t7)), b6.2.2.2.2.1, (ap b6.2.2.2.2.2.1 ([0] : List Int)), b6.2.2.2.2.2.2), ()))))
 none)
 (cond (bl (ln b6.2.2.2.2.2.1 + ln ([1] : List Int)) Sa)
 (some (.inl ((t1, (), (), (), (wr .i64 (t7 + 1)), ()), (b2, b4, (b6.1, b6.2.1, b6.2.2.1, (Me .i64 b6.2.2.2.1 (Ta .i64 1 t7)), b6.2.2.2.2.1, (ap b6.2.2.2.2.2.1 ([1] : List Int)), b6.2.2.2.2.2.2), ()))))
 none))
 none)
 (cond (bl (ln b6.2.2.2.2.2.1 + ln ([1] : List Int)) Sa)
 (some (.inl ((t1, (), (), (), (wr .i64 (t7 + 1)), ()), (b2, b4, (b6.1, b6.2.1, b6.2.2.1, b6.2.2.2.1, b6.2.2.2.2.1, (ap b6.2.2.2.2.2.1 ([1] : List Int)), b6.2.2.2.2.2.2), ()))))
 none))
 none)
 (cond (bl (ln b6.2.2.2.2.2.1 + ln ([1] : List Int)) Sa)
 (some (.inl ((t1, (), (), (), (wr .i64 (t7 + 1)), ()), (b2, b4, (b6.1, b6.2.1, b6.2.2.1, b6.2.2.2.1, b6.2.2.2.2.1, (ap b6.2.2.2.2.2.1 ([1] : List Int)), b6.2.2.2.2.2.2), ()))))
 none))
 (cond (decide ((min 99 (wr .i64 (x5 + 1))) ≥ b2.2.1))
 (cond (decide (0 ≤ t7))
 (cond ((Wa .i64 (Zb .i64 (Me .i64 t1 b2.2.2.2.1) t7) 1) == 1)
 (cond (decide (0 ≤ t7))
 (cond (b2.1 == 2)
 (cond (bl (ln b6.2.2.2.2.2.1 + ln ([0] : List Int)) Sa)
 (some (.inl ((t1, (), (), (), (wr .i64 (t7 + 1)), ()), (b2, b4, (b6.1, b6.2.1, b6.2.2.1, (Me .i64 b6.2.2.2.1 (Ta .i64 1 t7)), b6.2.2.2.2.1, (ap b6.2.2.2.2.2.1 ([0] : List Int)), b6.2.2.2.2.2.2), ()))))
 none)
 (cond (bl (ln b6.2.2.2.2.2.1 + ln ([(min 99 (wr .i64 (x5 + 1)))] : List Int)) Sa)
 (some (.inl ((t1, (), (), (), (wr .i64 (t7 + 1)), ()), (b2, b4, (b6.1, b6.2.1, b6.2.2.1, (Me .i64 b6.2.2.2.1 (Ta .i64 1 t7)), b6.2.2.2.2.1, (ap b6.2.2.2.2.2.1 ([(min 99 (wr .i64 (x5 + 1)))] : List Int)), b6.2.2.2.2.2.2), ()))))
 none))
 none)
 (cond (bl (ln b6.2.2.2.2.2.1 + ln ([(min 99 (wr .i64 (x5 + 1)))] : List Int)) Sa)
 (some (.inl ((t1, (), (), (), (wr .i64 (t7 + 1)), ()), (b2, b4, (b6.1, b6.2.1, b6.2.2.1, b6.2.2.2.1, b6.2.2.2.2.1, (ap b6.2.2.2.2.2.1 ([(min 99 (wr .i64 (x5 + 1)))] : List Int)), b6.2.2.2.2.2.2), ()))))
 none))
 none)
 (cond (bl (ln b6.2.2.2.2.2.1 + ln ([(min 99 (wr .i64 (x5 + 1)))] : List Int)) Sa)
 (some (.inl ((t1, (), (), (), (wr .i64 (t7 + 1)), ()), (b2, b4, (b6.1, b6.2.1, b6.2.2.1, b6.2.2.2.1, b6.2.2.2.2.1, (ap b6.2.2.2.2.2.1 ([(min 99 (wr .i64 (x5 + 1)))] : List Int)), b6.2.2.2.2.2.2), ()))))
 none)))
 (cond (decide ((min 99 (wr .i64 (x5 + 1))) ≥ b2.2.1))
 (cond (decide (0 ≤ t7))
 (cond ((Wa .i64 (Zb .i64 (Me .i64 t1 b2.2.2.2.1) t7) 1) == 1)
 (cond (decide (0 ≤ t7))
 (cond (b2.1 == 2)
 (cond (bl (ln b6.2.2.2.2.2.1 + ln ([0] : List Int)) Sa)
 (some (.inl ((t1, (), (), (), (wr .i64 (t7 + 1)), ()), (b2, b4, (b6.1, b6.2.1, b6.2.2.1, (Me .i64 b6.2.2.2.1 (Ta .i64 1 t7)), b6.2.2.2.2.1, (ap b6.2.2.2.2.2.1 ([0] : List Int)), b6.2.2.2.2.2.2), ()))))
 none)
 (cond (bl (ln b6.2.2.2.2.2.1 + ln ([(min 99 (wr .i64 (x5 + 1)))] : List Int)) Sa)
 (some (.inl ((t1, (), (), (), (wr .i64 (t7 + 1)), ()), (b2, b4, (b6.1, b6.2.1, b6.2.2.1, (Me .i64 b6.2.2.2.1 (Ta .i64 1 t7)), b6.2.2.2.2.1, (ap b6.2.2.2.2.2.1 ([(min 99 (wr .i64 (x5 + 1)))] : List Int)), b6.2.2.2.2.2.2), ()))))
 none))
 none)
 (cond (bl (ln b6.2.2.2.2.2.1 + ln ([(min 99 (wr .i64 (x5 + 1)))] : List Int)) Sa)
 (some (.inl ((t1, (), (), (), (wr .i64 (t7 + 1)), ()), (b2, b4, (b6.1, b6.2.1, b6.2.2.1, b6.2.2.2.1, b6.2.2.2.2.1, (ap b6.2.2.2.2.2.1 ([(min 99 (wr .i64 (x5 + 1)))] : List Int)), b6.2.2.2.2.2.2), ()))))
 none))
 none)
 (cond (bl (ln b6.2.2.2.2.2.1 + ln ([(min 99 (wr .i64 (x5 + 1)))] : List Int)) Sa)
 (some (.inl ((t1, (), (), (), (wr .i64 (t7 + 1)), ()), (b2, b4, (b6.1, b6.2.1, b6.2.2.1, b6.2.2.2.1, b6.2.2.2.2.1, (ap b6.2.2.2.2.2.1 ([(min 99 (wr .i64 (x5 + 1)))] : List Int)), b6.2.2.2.2.2.2), ()))))
 none)))))
 (some (.inr (.inl ((t1, (), (), ()), (b4, b6, ()))))))
def Io := Ua fun x : ((Int × LY) × Saa) => Fj x.1.1 x.1.2.1 x.1.2.2.1 x.1.2.2.2.1 x.1.2.2.2.2.1 x.2.1 x.2.2.1 x.2.2.2.1
def Jm (a0 : Ob) (a1 : Int) : Option (Ob × Vc) :=
 (ob (Jo a0) fun r1 =>
 (cond (!r1.1)
 (some ((0, 0, 0, 0, 0, [], ()), false, ()))
 (cond (decide (0 ≤ a0.2.2.1))
 (ob (Cc a1 0 (wr .i64 ((Ta .i64 1 a0.2.2.1) - 1))) fun r2 =>
 (cond (!r2.1)
 (some ((0, 0, 0, 0, 0, [], ()), false, ()))
 (ob (Io ((a1, (), (), (), 0, ()), (a0, (0, 0, 0, 0, 0, [], ()), (a0.1, a0.2.1, a0.2.2.1, a0.2.2.2.1, a0.2.2.2.2.1, [], a0.2.2.2.2.2.2), ()))) (se (fun y6 => (some ((y6.2.2.1.1, y6.2.2.1.2.1, y6.2.2.1.2.2.1, y6.2.2.1.2.2.2.1, y6.1.1, y6.2.2.1.2.2.2.2.2), true, ()))) (fun z7 => none)))))
 none)))
def Vu (a0 : Ca) : Option Vc :=
 (ob (Nu a0) fun r1 =>
 (cond r1.1
 (some ((decide (a0.2.1 < 24)), ()))
 (some (false, ()))))
def Vw (t0 : Xd) (t1 : Int) (t5 : Int) : Option (HM ⊕ Qk) :=
 (cond (decide (t5 < ((ln t0 : Nat) : Int)))
 (ob (Ab t0 t5) fun x3 =>
 (cond ((Jb .i64 t1 x3.1) == 0)
 (some (.inr (.inr ((true, ()), ()))))
 (some (.inl ((t0, t1, (wr .i64 (t5 + 1)), ()), ())))))
 (some (.inr (.inl ((), ())))))
def Zy := Ua fun x : HM => Vw x.1.1 x.1.2.1 x.1.2.2.1
def MC (a0 : Xd) (a1 : Int) : Option Vc :=
 (ob (Zy ((a0, a1, 0, ()), ())) (se (fun y4 => (some (false, ()))) (fun z5 => (some (z5.1.1, ())))))
def QA (t0 : Xd) (t1 : Int) (t6 : Int) (t7 : Bool) (t8 : Int) : Option (((Xd × (Int × (Int × (Bool × Oc)))) × Unit) ⊕ ((Ev × Unit) ⊕ De)) :=
 (cond (decide (t8 < ((ln t0 : Nat) : Int)))
 (ob (Ab t0 t8) fun x7 =>
 (cond (t1 == x7.1)
 (ob (Ab t0 t8) fun x8 =>
 (some (.inl ((t0, t1, x8.2.1, t7, (wr .i64 (t8 + 1)), ()), ()))))
 (ob (Ab t0 t8) fun x9 =>
 (cond ((Jb .i64 t1 x9.1) == 0)
 (some (.inl ((t0, t1, t6, true, (wr .i64 (t8 + 1)), ()), ())))
 (some (.inl ((t0, t1, t6, t7, (wr .i64 (t8 + 1)), ()), ())))))))
 (some (.inr (.inl ((t6, t7, ()), ())))))
def OC := Ua fun x : ((Xd × (Int × (Int × (Bool × Oc)))) × Unit) => QA x.1.1 x.1.2.1 x.1.2.2.1 x.1.2.2.2.1 x.1.2.2.2.2.1
def YF (a0 : Xd) (a1 : Int) : Option Ev :=
 (ob (OC ((a0, a1, (-1), false, 0, ()), ())) (se (fun y10 => (some y10.1)) (fun z11 => none)))
def Yo (t0 : Xd) (t2 : Qd) (t3 : Int) (t11 : Int) (t12 : Int) (t13 : Int) (t14 : Int) : Option (((Xd × (Qd × (Int × Bb))) × Unit) ⊕ (((Xd × Sc) × Unit) ⊕ ZC)) :=
 (cond (t13 == ((ln t2 : Nat) : Int))
 (cond (decide (t3 < t12))
 (some (.inr (.inr ((0, 0, (-1), ()), ()))))
 (some (.inr (.inl ((t0, t11, t13, t14, ()), ())))))
 (ob (Ab t2 t13) fun x18 =>
 (ob (Vu x18) fun r19 =>
 (cond (!r19.1)
 (some (.inr (.inr ((0, 0, (-1), ()), ()))))
 (cond (decide (x18.1 ≥ t12))
 (some (.inr (.inl ((t0, t11, t13, t14, ()), ()))))
 (cond (!x18.2.2.1)
 (some (.inr (.inl ((t0, t11, t13, x18.1, ()), ()))))
 (cond (decide (0 ≤ x18.2.1))
 (ob (MC t0 (Rc .i64 t11 (Ta .i64 1 x18.2.1))) fun r20 =>
 (cond (!r20.1)
 (some (.inr (.inl ((t0, t11, t13, x18.1, ()), ()))))
 (cond (decide (0 ≤ x18.2.1))
 (ob (YF t0 (Rc .i64 t11 (Ta .i64 1 x18.2.1))) fun r21 =>
 (cond (decide (r21.1 ≥ 0))
 (cond (!r21.2.1)
 (some (.inr (.inr (((wr .i64 (t13 + 1)), x18.1, r21.1, ()), ()))))
 (some (.inl ((t0, t2, t3, (Rc .i64 t11 (Ta .i64 1 x18.2.1)), t12, (wr .i64 (t13 + 1)), t14, ()), ()))))
 (some (.inl ((t0, t2, t3, (Rc .i64 t11 (Ta .i64 1 x18.2.1)), t12, (wr .i64 (t13 + 1)), t14, ()), ())))))
 none)))
 none)))))))
def Xk := Ua fun x : ((Xd × (Qd × (Int × Bb))) × Unit) => Yo x.1.1 x.1.2.1 x.1.2.2.1 x.1.2.2.2.1 x.1.2.2.2.2.1 x.1.2.2.2.2.2.1 x.1.2.2.2.2.2.2.1
def MA (a0 : Xd) (a1 : Int) (a2 : Qd) (a3 : Int) : Option Sc :=
 (ob (Xx a0) fun r1 =>
 (cond (!r1.1)
 (some (0, 0, (-1), ()))
 (ob (Cc a1 1 200) fun r2 =>
 (cond (!r2.1)
 (some (0, 0, (-1), ()))
 (cond (((ln a2 : Nat) : Int) == 0)
 (some (0, 0, (-1), ()))
 (ob (Ab a2 0) fun x3 =>
 (ob (Vu x3) fun r4 =>
 (cond (!r4.1)
 (some (0, 0, (-1), ()))
 (ob (Ab a2 0) fun x5 =>
 (cond (!x5.2.2.1)
 (some (0, 0, (-1), ()))
 (ob (Ab a2 0) fun x6 =>
 (cond (decide (0 ≤ x6.2.1))
 (ob (Ab a2 0) fun x7 =>
 (ob (MC a0 (Ta .i64 1 x6.2.1)) fun r8 =>
 (cond (!r8.1)
 (ob (Ab a2 0) fun x9 =>
 (some (1, x9.1, (-1), ())))
 (ob (Xk ((a0, a2, a3, (Ta .i64 1 x6.2.1), (wr .i64 (x7.1 + a1)), 1, (wr .i64 (x7.1 + a1)), ()), ())) (se (fun y22 => (ob (YF y22.1.1 y22.1.2.1) fun r24 =>
 (cond (decide (r24.1 < 0))
 (some (1, y22.1.2.2.2.1, r24.1, ()))
 (some (y22.1.2.2.1, y22.1.2.2.2.1, r24.1, ()))))) (fun z23 => (some z23.1)))))))
 none))))))))))))
def ZD (t0 : Unit) (t1 : Int) (t2 : Int) (t7 : Int) (b500000 : Oa) : Option ((PO × WC) ⊕ (OQ ⊕ KY)) :=
 (cond (decide (t7 < ((ln b500000.2.2.2.2.2.2.1 : Nat) : Int)))
 (cond (Af (ln b500000.2.2.2.2.2.2.1) t7)
 (ob b500000.2.2.2.2.2.2.1[(tn t7)]? fun x7 =>
 (cond (decide (0 ≤ t1))
 (cond ((Wa .i64 (Zb .i64 x7.2.1 t1) 1) == 0)
 (some (.inl (((), t1, t2, (wr .i64 (t7 + 1)), ()), (b500000, ()))))
 (cond x7.2.2.1
 (cond (bl (ln ([] : List Ca) + ln ([(t2, x7.1, false, ())] : List Ca)) Sa)
 (cond (decide (0 ≤ t1))
 (cond (Af (ln b500000.2.2.2.2.2.2.1) t7)
 (ob b500000.2.2.2.2.2.2.1[(tn t7)]? fun x8 =>
 (cond ((Jb .i64 x7.2.1 (Ta .i64 1 t1)) == 0)
 (cond (Md (ln (ls b500000.2.2.2.2.2.2.1 (tn t7) (x7.1, (Jb .i64 x7.2.1 (Ta .i64 1 t1)), false, x7.2.2.2))) 0 t7)
 (cond (bl (ln ([] : List Ca) + ln (Eb (ls b500000.2.2.2.2.2.2.1 (tn t7) (x7.1, (Jb .i64 x7.2.1 (Ta .i64 1 t1)), false, x7.2.2.2)) (tn 0) (tn t7))) Sa)
 (cond (Md (ln (ls b500000.2.2.2.2.2.2.1 (tn t7) (x7.1, (Jb .i64 x7.2.1 (Ta .i64 1 t1)), false, x7.2.2.2))) (wr .i64 (t7 + 1)) ((ln (ls b500000.2.2.2.2.2.2.1 (tn t7) (x7.1, (Jb .i64 x7.2.1 (Ta .i64 1 t1)), false, x7.2.2.2)) : Nat) : Int))
 (cond (bl (ln (ap [] (Eb (ls b500000.2.2.2.2.2.2.1 (tn t7) (x7.1, (Jb .i64 x7.2.1 (Ta .i64 1 t1)), false, x7.2.2.2)) (tn 0) (tn t7))) + ln (Eb (ls b500000.2.2.2.2.2.2.1 (tn t7) (x7.1, (Jb .i64 x7.2.1 (Ta .i64 1 t1)), false, x7.2.2.2)) (tn (wr .i64 (t7 + 1))) (tn ((ln (ls b500000.2.2.2.2.2.2.1 (tn t7) (x7.1, (Jb .i64 x7.2.1 (Ta .i64 1 t1)), false, x7.2.2.2)) : Nat) : Int)))) Sa)
 (some (.inr (.inr (((), (ap [] ([(t2, x7.1, false, ())] : List Ca)), ()), ((b500000.1, b500000.2.1, b500000.2.2.1, b500000.2.2.2.1, b500000.2.2.2.2.1, b500000.2.2.2.2.2.1, (ap (ap [] (Eb (ls b500000.2.2.2.2.2.2.1 (tn t7) (x7.1, (Jb .i64 x7.2.1 (Ta .i64 1 t1)), false, x7.2.2.2)) (tn 0) (tn t7))) (Eb (ls b500000.2.2.2.2.2.2.1 (tn t7) (x7.1, (Jb .i64 x7.2.1 (Ta .i64 1 t1)), false, x7.2.2.2)) (tn (wr .i64 (t7 + 1))) (tn ((ln (ls b500000.2.2.2.2.2.2.1 (tn t7) (x7.1, (Jb .i64 x7.2.1 (Ta .i64 1 t1)), false, x7.2.2.2)) : Nat) : Int)))), ()), ())))))
 none)
 none)
 none)
 none)
 (some (.inr (.inr (((), (ap [] ([(t2, x7.1, false, ())] : List Ca)), ()), ((b500000.1, b500000.2.1, b500000.2.2.1, b500000.2.2.2.1, b500000.2.2.2.2.1, b500000.2.2.2.2.2.1, (ls b500000.2.2.2.2.2.2.1 (tn t7) (x7.1, (Jb .i64 x7.2.1 (Ta .i64 1 t1)), false, x7.2.2.2)), ()), ())))))))
 none)
 none)
 none)
 (cond (decide (0 ≤ t1))
 (cond (Af (ln b500000.2.2.2.2.2.2.1) t7)
 (ob b500000.2.2.2.2.2.2.1[(tn t7)]? fun x9 =>
 (cond ((Jb .i64 x7.2.1 (Ta .i64 1 t1)) == 0)
 (cond (Md (ln (ls b500000.2.2.2.2.2.2.1 (tn t7) (x7.1, (Jb .i64 x7.2.1 (Ta .i64 1 t1)), false, x7.2.2.2))) 0 t7)
 (cond (bl (ln ([] : List Ca) + ln (Eb (ls b500000.2.2.2.2.2.2.1 (tn t7) (x7.1, (Jb .i64 x7.2.1 (Ta .i64 1 t1)), false, x7.2.2.2)) (tn 0) (tn t7))) Sa)
 (cond (Md (ln (ls b500000.2.2.2.2.2.2.1 (tn t7) (x7.1, (Jb .i64 x7.2.1 (Ta .i64 1 t1)), false, x7.2.2.2))) (wr .i64 (t7 + 1)) ((ln (ls b500000.2.2.2.2.2.2.1 (tn t7) (x7.1, (Jb .i64 x7.2.1 (Ta .i64 1 t1)), false, x7.2.2.2)) : Nat) : Int))
 (cond (bl (ln (ap [] (Eb (ls b500000.2.2.2.2.2.2.1 (tn t7) (x7.1, (Jb .i64 x7.2.1 (Ta .i64 1 t1)), false, x7.2.2.2)) (tn 0) (tn t7))) + ln (Eb (ls b500000.2.2.2.2.2.2.1 (tn t7) (x7.1, (Jb .i64 x7.2.1 (Ta .i64 1 t1)), false, x7.2.2.2)) (tn (wr .i64 (t7 + 1))) (tn ((ln (ls b500000.2.2.2.2.2.2.1 (tn t7) (x7.1, (Jb .i64 x7.2.1 (Ta .i64 1 t1)), false, x7.2.2.2)) : Nat) : Int)))) Sa)
 (some (.inr (.inr (((), [], ()), ((b500000.1, b500000.2.1, b500000.2.2.1, b500000.2.2.2.1, b500000.2.2.2.2.1, b500000.2.2.2.2.2.1, (ap (ap [] (Eb (ls b500000.2.2.2.2.2.2.1 (tn t7) (x7.1, (Jb .i64 x7.2.1 (Ta .i64 1 t1)), false, x7.2.2.2)) (tn 0) (tn t7))) (Eb (ls b500000.2.2.2.2.2.2.1 (tn t7) (x7.1, (Jb .i64 x7.2.1 (Ta .i64 1 t1)), false, x7.2.2.2)) (tn (wr .i64 (t7 + 1))) (tn ((ln (ls b500000.2.2.2.2.2.2.1 (tn t7) (x7.1, (Jb .i64 x7.2.1 (Ta .i64 1 t1)), false, x7.2.2.2)) : Nat) : Int)))), ()), ())))))
 none)
 none)
 none)
 none)
 (some (.inr (.inr (((), [], ()), ((b500000.1, b500000.2.1, b500000.2.2.1, b500000.2.2.2.1, b500000.2.2.2.2.1, b500000.2.2.2.2.2.1, (ls b500000.2.2.2.2.2.2.1 (tn t7) (x7.1, (Jb .i64 x7.2.1 (Ta .i64 1 t1)), false, x7.2.2.2)), ()), ())))))))
 none)
 none)))
 none))
 none)
 (some (.inr (.inl (((), t1, t2, ()), (b500000, ()))))))
def VE := Ua fun x : (PO × WC) => ZD x.1.1 x.1.2.1 x.1.2.2.1 x.1.2.2.2.1 x.2.1
def NK (a0 : Oa) (a1 : Int) (a2 : Int) : Option (Oa × XC) :=
 (ob (VE (((), a1, a2, 0, ()), (a0, ()))) (se (fun y10 => (cond (decide (0 ≤ y10.1.2.1))
 (some ((y10.2.1.1, y10.2.1.2.1, y10.2.1.2.2.1, y10.2.1.2.2.2.1, y10.2.1.2.2.2.2.1, (Jb .i64 y10.2.1.2.2.2.2.2.1 (Ta .i64 1 y10.1.2.1)), y10.2.1.2.2.2.2.2.2.1, ()), (([(y10.1.2.2.1, y10.1.2.1, false, ())] : List Ca), ())))
 none)) (fun z11 => (some (z11.2.1, (z11.1.2.1, ()))))))
def Br (t0 : Unit) (t3 : Qd) (b500000 : Oa) : Option (KY ⊕ (KY ⊕ KY)) :=
 (cond (decide (((ln b500000.2.2.1 : Nat) : Int) > 0))
 (cond (Af (ln b500000.2.2.1) 0)
 (ob b500000.2.2.1[(tn 0)]? fun x9 =>
 (cond x9.2.2.1
 (ob (MA b500000.1 b500000.2.1 b500000.2.2.1 b500000.2.2.2.1) fun r10 =>
 (cond (r10.1 == 0)
 (some (.inr (.inr (((), t3, ()), (b500000, ())))))
 (cond (decide (r10.2.2.1 ≥ 0))
 (cond (bl (ln t3 + ln ([((max (max b500000.2.2.2.2.1 x9.1) r10.2.1), r10.2.2.1, true, ())] : List Ca)) Sa)
 (ob (NC b500000.1 r10.2.2.1) fun r11 =>
 (cond (bl (ln ([] : List Ca) + ln b500000.2.2.2.2.2.2.1) Sa)
 (cond (bl (ln (ap [] b500000.2.2.2.2.2.2.1) + ln ([(r10.2.2.1, r11.1, true, ())] : List Ca)) Sa)
 (cond (Md (ln b500000.2.2.1) r10.1 ((ln b500000.2.2.1 : Nat) : Int))
 (cond (bl (ln ([] : List Ca) + ln (Eb b500000.2.2.1 (tn r10.1) (tn ((ln b500000.2.2.1 : Nat) : Int)))) Sa)
 (some (.inl (((), (ap t3 ([((max (max b500000.2.2.2.2.1 x9.1) r10.2.1), r10.2.2.1, true, ())] : List Ca)), ()), ((b500000.1, b500000.2.1, (ap [] (Eb b500000.2.2.1 (tn r10.1) (tn ((ln b500000.2.2.1 : Nat) : Int)))), b500000.2.2.2.1, (max (max b500000.2.2.2.2.1 x9.1) r10.2.1), b500000.2.2.2.2.2.1, (ap (ap [] b500000.2.2.2.2.2.2.1) ([(r10.2.2.1, r11.1, true, ())] : List Ca)), ()), ()))))
 none)
 none)
 none)
 none))
 none)
 (cond (bl (ln t3 + ln ([((max (max b500000.2.2.2.2.1 x9.1) r10.2.1), x9.2.1, true, ())] : List Ca)) Sa)
 (cond (decide (0 ≤ x9.2.1))
 (cond (Md (ln b500000.2.2.1) r10.1 ((ln b500000.2.2.1 : Nat) : Int))
 (cond (bl (ln ([] : List Ca) + ln (Eb b500000.2.2.1 (tn r10.1) (tn ((ln b500000.2.2.1 : Nat) : Int)))) Sa)
 (some (.inl (((), (ap t3 ([((max (max b500000.2.2.2.2.1 x9.1) r10.2.1), x9.2.1, true, ())] : List Ca)), ()), ((b500000.1, b500000.2.1, (ap [] (Eb b500000.2.2.1 (tn r10.1) (tn ((ln b500000.2.2.1 : Nat) : Int)))), b500000.2.2.2.1, (max (max b500000.2.2.2.2.1 x9.1) r10.2.1), (Rc .i64 b500000.2.2.2.2.2.1 (Ta .i64 1 x9.2.1)), b500000.2.2.2.2.2.2.1, ()), ()))))
 none)
 none)
 none)
 none))))
 (ob (NK b500000 x9.2.1 (max b500000.2.2.2.2.1 x9.1)) fun r12 =>
 (cond (bl (ln t3 + ln r12.2.1) Sa)
 (cond (Md (ln r12.1.2.2.1) 1 ((ln r12.1.2.2.1 : Nat) : Int))
 (cond (bl (ln ([] : List Ca) + ln (Eb r12.1.2.2.1 (tn 1) (tn ((ln r12.1.2.2.1 : Nat) : Int)))) Sa)
 (some (.inl (((), (ap t3 r12.2.1), ()), ((r12.1.1, r12.1.2.1, (ap [] (Eb r12.1.2.2.1 (tn 1) (tn ((ln r12.1.2.2.1 : Nat) : Int)))), r12.1.2.2.2.1, (max b500000.2.2.2.2.1 x9.1), r12.1.2.2.2.2.2), ()))))
 none)
 none)
 none))))
 none)
 (some (.inr (.inl (((), t3, ()), (b500000, ()))))))
def Hj := Ua fun x : KY => Br x.1.1 x.1.2.1 x.2.1
def Oy (a0 : Oa) : Option (Oa × XC) :=
 (ob (Hj (((), [], ()), (a0, ()))) (se (fun y13 => (some (y13.2.1, (y13.1.2.1, ())))) (fun z14 => (some (z14.2.1, (z14.1.2.1, ()))))))
def Vq (a0 : Oa) (a1 : Qd) (a2 : Int) : Option (Oa × (Qd × Vc)) :=
 (cond (bl (ln ([] : List Ca) + ln a0.2.2.1) Sa)
 (cond (bl (ln (ap [] a0.2.2.1) + ln a1) Sa)
 (ob (Wq a0) fun r1 =>
 (cond (!r1.1)
 (some (([], 0, [], 0, 0, 0, [], ()), [], false, ()))
 (ob (Cc a2 a0.2.2.2.1 1000000) fun r2 =>
 (cond (!r2.1)
 (some (([], 0, [], 0, 0, 0, [], ()), [], false, ()))
 (ob (Uu a0) fun r3 =>
 (ob (Qj (ap (ap [] a0.2.2.1) a1) r3.1 24 0) fun r4 =>
 (cond (!r4.1)
 (some (([], 0, [], 0, 0, 0, [], ()), [], false, ()))
 (cond (decide (((ln a1 : Nat) : Int) > 0))
 (ob (Ab a1 0) fun x5 =>
 (cond (decide (x5.1 < a0.2.2.2.1))
 (some (([], 0, [], 0, 0, 0, [], ()), [], false, ()))
 (ob (Ab a1 (wr .i64 (((ln a1 : Nat) : Int) - 1))) fun x6 =>
 (cond (decide (x6.1 > a2))
 (some (([], 0, [], 0, 0, 0, [], ()), [], false, ()))
 (ob (Tu a0) fun r7 =>
 (ob (Oy (r7.1.1, r7.1.2.1, (ap (ap [] a0.2.2.1) a1), a2, r7.1.2.2.2.2)) fun r8 =>
 (some (r8.1, r8.2.1, true, ()))))))))
 (ob (Tu a0) fun r9 =>
 (ob (Oy (r9.1.1, r9.1.2.1, (ap (ap [] a0.2.2.1) a1), a2, r9.1.2.2.2.2)) fun r10 =>
 (some (r10.1, r10.2.1, true, ()))))))))))))
 none)
 none)
def Uq (t2 : Unit) (t4 : Unit) (t9 : Int) (t11 : Unit) (t13 : Qd) (t14 : Int) (b2 : Bc) (b4 : Bc) (b11 : Ob) : Option (NaD ⊕ (((Unit × (Unit × (Int × (Unit × XC)))) × (Bc × (Bc × LO))) ⊕ De)) :=
 (cond (decide (t14 < b11.2.2.1))
 (cond (decide (0 ≤ t14))
 (cond ((Wa .i64 (Zb .i64 (Me .i64 b11.2.2.2.1 b2.2.1.2.2.2.1) t14) 1) == 1)
 (cond (decide (0 ≤ t14))
 (cond (bl (ln t13 + ln ([(b2.2.2.2.2.2.1, t14, ((Wa .i64 (Zb .i64 b11.2.2.2.1 t14) 1) == 1), ())] : List Ca)) Sa)
 (some (.inl (((), (), t9, (), (ap t13 ([(b2.2.2.2.2.2.1, t14, ((Wa .i64 (Zb .i64 b11.2.2.2.1 t14) 1) == 1), ())] : List Ca)), (wr .i64 (t14 + 1)), ()), (b2, b4, b11, ()))))
 none)
 none)
 (some (.inl (((), (), t9, (), t13, (wr .i64 (t14 + 1)), ()), (b2, b4, b11, ())))))
 none)
 (some (.inr (.inl (((), (), t9, (), t13, ()), (b2, b4, b11, ()))))))
def Dj := Ua fun x : NaD => Uq x.1.1 x.1.2.1 x.1.2.2.1 x.1.2.2.2.1 x.1.2.2.2.2.1 x.1.2.2.2.2.2.1 x.2.1 x.2.2.1 x.2.2.2.1
def Lu (a0 : Bc) (a1 : Int) : Option (Bc × QQ) :=
 (ob (OA a0.1 a1) fun r1 =>
 (ob (IC a0) fun r2 =>
 (cond (!r2.1)
 (some (((0, 0, false, ()), (0, 0, 0, 0, 0, [], ()), ([], 0, [], 0, 0, 0, [], ()), (((0, [], ()), [], 0, [], 0, false, ()), (0, 0, 0, ()), [], 0, 0, 0, 0, ()), 0, 0, ()), [], false, ()))
 (cond (!r1.2.1)
 (some (((0, 0, false, ()), (0, 0, 0, 0, 0, [], ()), ([], 0, [], 0, 0, 0, [], ()), (((0, [], ()), [], 0, [], 0, false, ()), (0, 0, 0, ()), [], 0, 0, 0, 0, ()), 0, 0, ()), [], false, ()))
 (cond (a0.2.2.2.2.2.1 == 1000000)
 (some (((0, 0, false, ()), (0, 0, 0, 0, 0, [], ()), ([], 0, [], 0, 0, 0, [], ()), (((0, [], ()), [], 0, [], 0, false, ()), (0, 0, 0, ()), [], 0, 0, 0, 0, ()), 0, 0, ()), [], false, ()))
 (ob (Tq a0.1 a0.2.2.2.2.1 r1.1) fun r3 =>
 (ob (Jm a0.2.1 r3.1) fun r4 =>
 (ob (Dj (((), (), r3.1, (), [], 0, ()), (a0, ((0, 0, false, ()), (0, 0, 0, 0, 0, [], ()), ([], 0, [], 0, 0, 0, [], ()), (((0, [], ()), [], 0, [], 0, false, ()), (0, 0, 0, ()), [], 0, 0, 0, 0, ()), 0, 0, ()), r4.1, ()))) (se (fun y5 => (ob (Vq y5.2.1.2.2.1 y5.1.2.2.2.2.1 y5.2.1.2.2.2.2.2.1) fun r7 =>
 (ob (NA y5.2.1.2.2.2.1 r7.2.1 y5.2.1.2.2.2.2.2.1) fun r8 =>
 (cond (!r7.2.2.1)
 (some (((0, 0, false, ()), (0, 0, 0, 0, 0, [], ()), ([], 0, [], 0, 0, 0, [], ()), (((0, [], ()), [], 0, [], 0, false, ()), (0, 0, 0, ()), [], 0, 0, 0, 0, ()), 0, 0, ()), [], false, ()))
 (cond (!r8.2.2.1)
 (some (((0, 0, false, ()), (0, 0, 0, 0, 0, [], ()), ([], 0, [], 0, 0, 0, [], ()), (((0, [], ()), [], 0, [], 0, false, ()), (0, 0, 0, ()), [], 0, 0, 0, 0, ()), 0, 0, ()), [], false, ()))
 (some ((y5.2.1.1, y5.2.2.2.1, r7.1, r8.1, y5.1.2.2.1, (wr .i64 (y5.2.1.2.2.2.2.2.1 + 1)), ()), r8.2.1, true, ()))))))) (fun z6 => none))))))))))
def Ws (t1 : Te) (t4 : Unit) (t7 : Cg) (t8 : Unit) (t9 : Int) (b4 : Bc) (b8 : Bc) : Option (((Te × (Unit × (Cg × Mj))) × NY) ⊕ (((Unit × (Cg × De)) × NY) ⊕ ((Unit × QQ) × Dv))) :=
 (cond (decide (t9 < ((ln t1 : Nat) : Int)))
 (ob (Ab t1 t9) fun x7 =>
 (ob (Lu b8 x7) fun r8 =>
 (cond (!r8.2.2.1)
 (some (.inr (.inr (((), [], false, ()), (((0, 0, false, ()), (0, 0, 0, 0, 0, [], ()), ([], 0, [], 0, 0, 0, [], ()), (((0, [], ()), [], 0, [], 0, false, ()), (0, 0, 0, ()), [], 0, 0, 0, 0, ()), 0, 0, ()), ())))))
 (cond (bl (ln t7 + ln r8.2.1) Sa)
 (some (.inl ((t1, (), (ap t7 r8.2.1), (), (wr .i64 (t9 + 1)), ()), (b4, r8.1, ()))))
 none))))
 (some (.inr (.inl (((), t7, (), ()), (b4, b8, ()))))))
def Kw := Ua fun x : ((Te × (Unit × (Cg × Mj))) × NY) => Ws x.1.1 x.1.2.1 x.1.2.2.1 x.1.2.2.2.1 x.1.2.2.2.2.1 x.2.1 x.2.2.1
def Wx (a0 : Bc) (a1 : Te) : Option (Bc × QQ) :=
 (ob (IC a0) fun r1 =>
 (cond (!r1.1)
 (some (((0, 0, false, ()), (0, 0, 0, 0, 0, [], ()), ([], 0, [], 0, 0, 0, [], ()), (((0, [], ()), [], 0, [], 0, false, ()), (0, 0, 0, ()), [], 0, 0, 0, 0, ()), 0, 0, ()), [], false, ()))
 (cond (decide (((ln a1 : Nat) : Int) > 200))
 (some (((0, 0, false, ()), (0, 0, 0, 0, 0, [], ()), ([], 0, [], 0, 0, 0, [], ()), (((0, [], ()), [], 0, [], 0, false, ()), (0, 0, 0, ()), [], 0, 0, 0, 0, ()), 0, 0, ()), [], false, ()))
 (ob (OK a0) fun r2 =>
 (ob (Kw ((a1, (), [], (), 0, ()), (((0, 0, false, ()), (0, 0, 0, 0, 0, [], ()), ([], 0, [], 0, 0, 0, [], ()), (((0, [], ()), [], 0, [], 0, false, ()), (0, 0, 0, ()), [], 0, 0, 0, 0, ()), 0, 0, ()), r2.1, ()))) (se (fun y9 => (some (y9.2.2.1, y9.1.2.1, true, ()))) (fun z10 => (some (z10.2.1, z10.1.2.1, z10.1.2.2.1, ())))))))))
def Um (a0 : Bc) (a1 : Te) : Option Vc :=
 (cond (decide (((ln a1 : Nat) : Int) > 1048576))
 (some (true, ()))
 (ob (WJ a0 1048576) fun r1 =>
 (cond (decide (r1.1 < 0))
 (some (true, ()))
 (ob (Co a0) fun r2 =>
 (ob (Jn a1) fun r3 =>
 (ob (Wx r2.1 r3.1) fun r4 =>
 (ob (Co a0) fun r5 =>
 (ob (Jn a1) fun r6 =>
 (ob (Mp r5.1 r6.1) fun r7 =>
 (ob (Bo r7.1 r4.1) fun r8 =>
 (cond (!r8.1)
 (some (false, ()))
 (ob (Eu r7.2.1 r4.2.1) fun r9 =>
 (cond (!r9.1)
 (some (false, ()))
 (cond (r7.2.2.1 != r4.2.2.1)
 (some (false, ()))
 (ob (Co a0) fun r10 =>
 (ob (Bo r5.1 r10.1) fun r11 =>
 (cond (!r11.1)
 (some (false, ()))
 (ob (Jn a1) fun r12 =>
 (ob (Ky r6.1 r12.1) fun r13 =>
 (cond (!r13.1)
 (some (false, ()))
 (ob (Gu r5.1 1) fun r14 =>
 (ob (Rx r6.1 r14.2.1) fun r15 =>
 (cond (decide (r15.2.1 < 0))
 (some (false, ()))
 (ob (Bo r7.1 r4.1) fun r16 =>
 (cond (!r16.1)
 (some (false, ()))
 (ob (Eu r7.2.1 r4.2.1) fun r17 =>
 (cond (!r17.1)
 (some (false, ()))
 (cond (r7.2.2.1 != r4.2.2.1)
 (some (false, ()))
 (ob (Gu r7.1 1) fun r18 =>
 (ob (UL r7.2.1 r18.2.1) fun r19 =>
 (ob (Fu (r7.1.1, (r7.1.2.1.1, r7.1.2.1.2.1, r7.1.2.1.2.2.1, r7.1.2.1.2.2.2.1, r7.1.2.1.2.2.2.2.1, r18.1.2.1.2.2.2.2.2.1, ()), (r18.1.2.2.1.1, r7.1.2.2.1.2.1, r18.1.2.2.1.2.2.1, r7.1.2.2.1.2.2.2.1, r7.1.2.2.1.2.2.2.2.1, r7.1.2.2.1.2.2.2.2.2.1, r18.1.2.2.1.2.2.2.2.2.2.1, ()), (((r7.1.2.2.2.1.1.1.1, r18.1.2.2.2.1.1.1.2.1, ()), r18.1.2.2.2.1.1.2.1, r7.1.2.2.2.1.1.2.2.1, r18.1.2.2.2.1.1.2.2.2.1, r7.1.2.2.2.1.1.2.2.2.2), r7.1.2.2.2.1.2.1, r18.1.2.2.2.1.2.2.1, r7.1.2.2.2.1.2.2.2), r7.1.2.2.2.2) 1) fun r20 =>
 (cond (decide (r20.1 < 0))
 (some (false, ()))
 (ob (MD r19.1 r20.1) fun r21 =>
 (cond (decide (r21.1 < 0))
 (some (false, ()))
 (cond (r21.1 != r19.2.1)
 (some (false, ()))
 (ob (Co a0) fun r22 =>
 (ob (Jn a1) fun r23 =>
 (ob (Mp r22.1 r23.1) fun r24 =>
 (ob (Bo r24.1 r4.1) fun r25 =>
 (cond (!r25.1)
 (some (false, ()))
 (ob (Eu r24.2.1 r4.2.1) fun r26 =>
 (cond (!r26.1)
 (some (false, ()))
 (cond (r24.2.2.1 != r4.2.2.1)
 (some (false, ()))
 (ob (Fu (r7.1.1, (r7.1.2.1.1, r7.1.2.1.2.1, r7.1.2.1.2.2.1, r7.1.2.1.2.2.2.1, r7.1.2.1.2.2.2.2.1, r18.1.2.1.2.2.2.2.2.1, ()), (r18.1.2.2.1.1, r7.1.2.2.1.2.1, r18.1.2.2.1.2.2.1, r7.1.2.2.1.2.2.2.1, r7.1.2.2.1.2.2.2.2.1, r7.1.2.2.1.2.2.2.2.2.1, r18.1.2.2.1.2.2.2.2.2.2.1, ()), (((r7.1.2.2.2.1.1.1.1, r18.1.2.2.2.1.1.1.2.1, ()), r18.1.2.2.2.1.1.2.1, r7.1.2.2.2.1.1.2.2.1, r18.1.2.2.2.1.1.2.2.2.1, r7.1.2.2.2.1.1.2.2.2.2), r7.1.2.2.2.1.2.1, r18.1.2.2.2.1.2.2.1, r7.1.2.2.2.1.2.2.2), r7.1.2.2.2.2) 1) fun r27 =>
 (cond (decide (r27.1 < 0))
 (some (false, ()))
 (ob (MD r19.1 r27.1) fun r28 =>
 (cond (decide (r28.1 < 0))
 (some (false, ()))
 (cond (r28.1 != r19.2.1)
 (some (false, ()))
 (some (true, ()))))))))))))))))))))))))))))))))))))))))))))))))))
end
theorem Rav (a : (List Int)) (hr : Fm (.sl int) a) (l : Nat) (hl : l ≤ Ea) : SM a (l : Int) = some (RI (Ja (.sl int) a) l, ()) := O3 (e := int) (F := SM) a hr l hl rfl rfl
theorem Z8 (a : (List Int)) (hz : Ja (.sl int) a ≤ Ea) : Jn a = some (a, ()) := by
 have h20 : Ea = 1048576 := rfl
 have hz' : ja a + (List.map (Ja int) a).sum ≤ Ea := hz
 have hl := H8 (step := fun x : (((List Int) × ((List Int) × (Int × Unit))) × Unit) => FA x.1.1 x.1.2.1 x.1.2.2.1) a (zT int) (fun o i => ((a, o, i, ()), ())) (fun o => .inl ((o, ()), ())) (by
  intro k hk o ho
  simp only [FA]
  rw [Aa (show (k : Int) < (ja a : Int) by omega), Kb hk]
  simp only [cond_true, jb]
  rw [Kg, Aa (show k < ja o by omega)]
  simp [je (show k < ja o by omega)]) (by
  intro o
  simp [FA]) (by omega)
 unfold Jn DC
 rw [Ial (by rw [Be]; omega)]
 simp only [cond_true]
 rw [show jy ((ja a : Nat) : Int) = ja a by simp]
 erw [hl]
 rfl
theorem OW (a : (List Int)) (hz : Ja (.sl int) a ≤ Zc) : Ky a a = some (true, ()) := by
 have h40 : Zc = 1099511627776 := rfl
 have hz' : ja a + (List.map (Ja int) a).sum ≤ Zc := hz
 have hl := EC (step := fun x : (((List Int) × ((List Int) × (Int × Unit))) × Unit) => Vz x.1.1 x.1.2.1 x.1.2.2.1) (fun k => ((a, a, (k : Int), ()), ())) (ja a) (.inl ((), ())) (by
  intro k hk
  simp only [Vz]
  rw [Aa (show (k : Int) < (ja a : Int) by omega), Kb hk]
  simp only [cond_true, jb]
  rw [bne_self_eq_false']
  simp only [cond_false]
  rw [Hc (by omega)]) (by
  simp [Vz])
 unfold Ky WB
 rw [bne_self_eq_false']
 simp only [cond_false]
 erw [hl]
 rfl
theorem Raf (a : Ha) (hz : Ja Ac a ≤ Zc) : PG a a = some (true, ()) := by
 unfold PG
 have hs : Ja Ac a = Ja (.sl int) a.2.1 := by simp only [Ja, Nat.add_zero, js, jt]
 simp only [bne_self_eq_false', cond_false, jg, jb, OW a.2.1 (by omega)]
theorem Kat (a : Pe) (hz : Ja Wh a ≤ Zc) : IF a a = some (true, ()) := by
 unfold IF
 have hs : Ja Wh a = Ja Ac a.2.1 := by simp only [Ja, Nat.add_zero, js, jt]
 simp only [bne_self_eq_false', cond_false, jg, jb, Raf a.2.1 (by omega)]
theorem Paq (a : (List Pe)) (hz : Ja (.sl Wh) a ≤ Zc) : Eu a a = some (true, ()) := L4 (e := Wh) (f := IF) (F := Eu) a hz Kat rfl
theorem Yae (a : (List Bb)) (hr : Fm (.sl Qb) a) (l : Nat) (hl : l ≤ Ea) : Hu a (l : Int) = some (RI (Ja (.sl Qb) a) l, ()) := O3 (e := Qb) (F := Hu) a hr l hl rfl rfl
theorem Baa (a : (List (List Bb))) (hr : Fm (.sl (.sl Qb)) a) (l : Nat) (hl : l ≤ Ea) : CA a (l : Int) = some (RI (Ja (.sl (.sl Qb)) a) l, ()) := szS (e := (.sl Qb)) (f := Hu) (F := CA) a hr l hl Yae rfl
theorem Fag (a : Tb) (hr : Fm Vb a) (l : Nat) (hl : l ≤ Ea) : VG a (l : Int) = some (RI (Ja Vb a) l, ()) := by
 unfold VG
 have hs : Ja Vb a = Ja (.sl (.sl Qb)) a.2.1 := by simp only [Ja, Nat.add_zero, js, jt]
 rw [Baa a.2.1 hr.2.1 (l) (by omega)]
 simp only [jb]
 by_cases h0 : Ja (.sl (.sl Qb)) a.2.1 ≤ l
 case neg => rw [Vf h0, Vf (by omega)]; rfl
 rw [Mh h0, Ba (by omega)]
 simp only [cond_false]
 rw [Mh (by omega), hs]
 try simp only [Nat.sub_sub, jt]
theorem T0 (a : Bb) (hz : Ja Qb a ≤ Ea) : Rp a = some (a, ()) := by
 unfold Rp
 rfl
theorem Eaf (a : (List Bb)) (hz : Ja (.sl Qb) a ≤ Ea) : PD a = some (a, ()) := A9 (e := Qb) _ _ (f := Rp) a hz T0 rfl
theorem Daa (a : (List (List Bb))) (hz : Ja (.sl (.sl Qb)) a ≤ Ea) : ZJ a = some (a, ()) := A9 (e := (.sl Qb)) _ _ (f := PD) a hz Eaf rfl
theorem Kag (a : Tb) (hz : Ja Vb a ≤ Ea) : AH a = some (a, ()) := by
 unfold AH
 have hs : Ja Vb a = Ja (.sl (.sl Qb)) a.2.1 := by simp only [Ja, Nat.add_zero, js, jt]
 rw [Daa a.2.1 (by omega)]
 simp only [jb]
theorem YZ (a : Bb) (hz : Ja Qb a ≤ Zc) : Qp a a = some (true, ()) := by
 unfold Qp
 have hs : Ja Qb a = 0 := by simp only [Ja, Nat.add_zero, js, jt]
 simp only [bne_self_eq_false', cond_false, jg, jb]
theorem Sac (a : (List Bb)) (hz : Ja (.sl Qb) a ≤ Zc) : Du a a = some (true, ()) := L4 (e := Qb) (f := Qp) (F := Du) a hz YZ rfl
theorem G9 (a : (List (List Bb))) (hz : Ja (.sl (.sl Qb)) a ≤ Zc) : Tz a a = some (true, ()) := L4 (e := (.sl Qb)) (f := Du) (F := Tz) a hz Sac rfl
theorem Paf (a : Tb) (hz : Ja Vb a ≤ Zc) : NG a a = some (true, ()) := by
 unfold NG
 have hs : Ja Vb a = Ja (.sl (.sl Qb)) a.2.1 := by simp only [Ja, Nat.add_zero, js, jt]
 simp only [bne_self_eq_false', cond_false, jg, jb, G9 a.2.1 (by omega)]
theorem Lag (a : Ca) (hz : Ja Za a ≤ Ea) : BH a = some (a, ()) := by
 unfold BH
 rfl
theorem Taf (a : Sc) (hz : Ja Yb a ≤ Zc) : RG a a = some (true, ()) := by
 unfold RG
 have hs : Ja Yb a = 0 := by simp only [Ja, Nat.add_zero, js, jt]
 simp only [bne_self_eq_false', cond_false, jg, jb]
theorem Nag (a : Sc) (hz : Ja Yb a ≤ Ea) : DH a = some (a, ()) := by
 unfold DH
 rfl
theorem Naq (a : Ca) (hz : Ja Za a ≤ Zc) : VB a a = some (true, ()) := by
 unfold VB
 have hs : Ja Za a = 0 := by simp only [Ja, Nat.add_zero, js, jt]
 simp only [bne_self_eq_false', cond_false, jg, jb]
theorem ZZ (a : (List Ca)) (hz : Ja (.sl Za) a ≤ Zc) : Qx a a = some (true, ()) := L4 (e := Za) (f := VB) (F := Qx) a hz Naq rfl
theorem Y7 (a : Ob) (hr : Fm Lb a) (l : Nat) (hl : l ≤ Ea) : Ew a (l : Int) = some (RI (Ja Lb a) l, ()) := by
 unfold Ew
 have hs : Ja Lb a = Ja (.sl int) a.2.2.2.2.2.1 := by simp only [Ja, Nat.add_zero, js, jt]
 rw [Rav a.2.2.2.2.2.1 hr.2.2.2.2.2.1 (l) (by omega)]
 simp only [jb]
 by_cases h0 : Ja (.sl int) a.2.2.2.2.2.1 ≤ l
 case neg => rw [Vf h0, Vf (by omega)]; rfl
 rw [Mh h0, Ba (by omega)]
 simp only [cond_false]
 rw [Mh (by omega), hs]
 try simp only [Nat.sub_sub, jt]
theorem Dag (a : (List Va)) (hr : Fm (.sl Sb) a) (l : Nat) (hl : l ≤ Ea) : TG a (l : Int) = some (RI (Ja (.sl Sb) a) l, ()) := O3 (e := Sb) (F := TG) a hr l hl rfl rfl
theorem S0 (a : (List Ca)) (hr : Fm (.sl Za) a) (l : Nat) (hl : l ≤ Ea) : Sx a (l : Int) = some (RI (Ja (.sl Za) a) l, ()) := O3 (e := Za) (F := Sx) a hr l hl rfl rfl
theorem Zae (a : (List Ca)) (hr : Fm (.sl Za) a) (l : Nat) (hl : l ≤ Ea) : ND a (l : Int) = some (RI (Ja (.sl Za) a) l, ()) := O3 (e := Za) (F := ND) a hr l hl rfl rfl
theorem Caa (a : Oa) (hr : Fm Nb a) (l : Nat) (hl : l ≤ Ea) : DA a (l : Int) = some (RI (Ja Nb a) l, ()) := by
 unfold DA
 have hs : Ja Nb a = Ja (.sl Sb) a.1 + (Ja (.sl Za) a.2.2.1 + (Ja (.sl Za) a.2.2.2.2.2.2.1)) := by simp only [Ja, Nat.add_zero, js, jt]
 rw [Dag a.1 hr.1 (l) (by omega)]
 simp only [jb]
 by_cases h0 : Ja (.sl Sb) a.1 ≤ l
 case neg => rw [Vf h0, Vf (by omega)]; rfl
 rw [Mh h0, Ba (by omega)]
 simp only [cond_false]
 rw [S0 a.2.2.1 hr.2.2.1 (l - Ja (.sl Sb) a.1) (by omega)]
 simp only [jb]
 by_cases h1 : Ja (.sl Za) a.2.2.1 ≤ l - Ja (.sl Sb) a.1
 case neg => rw [Vf h1, Vf (by omega)]; rfl
 rw [Mh h1, Ba (by omega)]
 simp only [cond_false]
 rw [Zae a.2.2.2.2.2.2.1 hr.2.2.2.2.2.2.1 (l - Ja (.sl Sb) a.1 - Ja (.sl Za) a.2.2.1) (by omega)]
 simp only [jb]
 by_cases h2 : Ja (.sl Za) a.2.2.2.2.2.2.1 ≤ l - Ja (.sl Sb) a.1 - Ja (.sl Za) a.2.2.1
 case neg => rw [Vf h2, Vf (by omega)]; rfl
 rw [Mh h2, Ba (by omega)]
 simp only [cond_false]
 rw [Mh (by omega), hs]
 try simp only [Nat.sub_sub, jt]
theorem Bas (a : (List Sc)) (hr : Fm (.sl Yb) a) (l : Nat) (hl : l ≤ Ea) : AC a (l : Int) = some (RI (Ja (.sl Yb) a) l, ()) := O3 (e := Yb) (F := AC) a hr l hl rfl rfl
theorem Gag (a : (List (List Sc))) (hr : Fm (.sl (.sl Yb)) a) (l : Nat) (hl : l ≤ Ea) : XG a (l : Int) = some (RI (Ja (.sl (.sl Yb)) a) l, ()) := szS (e := (.sl Yb)) (f := AC) (F := XG) a hr l hl Bas rfl
theorem Zar (a : (List Pa)) (hr : Fm (.sl Xe) a) (l : Nat) (hl : l ≤ Ea) : XJ a (l : Int) = some (RI (Ja (.sl Xe) a) l, ()) := O3 (e := Xe) (F := XJ) a hr l hl rfl rfl
theorem Eag (a : Gb) (hr : Fm Xb a) (l : Nat) (hl : l ≤ Ea) : UG a (l : Int) = some (RI (Ja Xb a) l, ()) := by
 unfold UG
 have hs : Ja Xb a = Ja Vb a.1 + (Ja (.sl (.sl Yb)) a.2.1 + (Ja (.sl Xe) a.2.2.2.1)) := by simp only [Ja, Nat.add_zero, js, jt]
 rw [Fag a.1 hr.1 (l) (by omega)]
 simp only [jb]
 by_cases h0 : Ja Vb a.1 ≤ l
 case neg => rw [Vf h0, Vf (by omega)]; rfl
 rw [Mh h0, Ba (by omega)]
 simp only [cond_false]
 rw [Gag a.2.1 hr.2.1 (l - Ja Vb a.1) (by omega)]
 simp only [jb]
 by_cases h1 : Ja (.sl (.sl Yb)) a.2.1 ≤ l - Ja Vb a.1
 case neg => rw [Vf h1, Vf (by omega)]; rfl
 rw [Mh h1, Ba (by omega)]
 simp only [cond_false]
 rw [Zar a.2.2.2.1 hr.2.2.2.1 (l - Ja Vb a.1 - Ja (.sl (.sl Yb)) a.2.1) (by omega)]
 simp only [jb]
 by_cases h2 : Ja (.sl Xe) a.2.2.2.1 ≤ l - Ja Vb a.1 - Ja (.sl (.sl Yb)) a.2.1
 case neg => rw [Vf h2, Vf (by omega)]; rfl
 rw [Mh h2, Ba (by omega)]
 simp only [cond_false]
 rw [Mh (by omega), hs]
 try simp only [Nat.sub_sub, jt]
theorem Aaf (a : Hb) (hr : Fm Dc a) (l : Nat) (hl : l ≤ Ea) : OD a (l : Int) = some (RI (Ja Dc a) l, ()) := by
 unfold OD
 have hs : Ja Dc a = Ja Xb a.1 + (Ja (.sl Za) a.2.2.1) := by simp only [Ja, Nat.add_zero, js, jt]
 rw [Eag a.1 hr.1 (l) (by omega)]
 simp only [jb]
 by_cases h0 : Ja Xb a.1 ≤ l
 case neg => rw [Vf h0, Vf (by omega)]; rfl
 rw [Mh h0, Ba (by omega)]
 simp only [cond_false]
 rw [S0 a.2.2.1 hr.2.2.1 (l - Ja Xb a.1) (by omega)]
 simp only [jb]
 by_cases h1 : Ja (.sl Za) a.2.2.1 ≤ l - Ja Xb a.1
 case neg => rw [Vf h1, Vf (by omega)]; rfl
 rw [Mh h1, Ba (by omega)]
 simp only [cond_false]
 rw [Mh (by omega), hs]
 try simp only [Nat.sub_sub, jt]
theorem Yar (a : Bc) (hr : Fm Jc a) (l : Nat) (hl : l ≤ Ea) : WJ a (l : Int) = some (RI (Ja Jc a) l, ()) := by
 unfold WJ
 have hs : Ja Jc a = Ja Lb a.2.1 + (Ja Nb a.2.2.1 + (Ja Dc a.2.2.2.1)) := by simp only [Ja, Nat.add_zero, js, jt]
 rw [Y7 a.2.1 hr.2.1 (l) (by omega)]
 simp only [jb]
 by_cases h0 : Ja Lb a.2.1 ≤ l
 case neg => rw [Vf h0, Vf (by omega)]; rfl
 rw [Mh h0, Ba (by omega)]
 simp only [cond_false]
 rw [Caa a.2.2.1 hr.2.2.1 (l - Ja Lb a.2.1) (by omega)]
 simp only [jb]
 by_cases h1 : Ja Nb a.2.2.1 ≤ l - Ja Lb a.2.1
 case neg => rw [Vf h1, Vf (by omega)]; rfl
 rw [Mh h1, Ba (by omega)]
 simp only [cond_false]
 rw [Aaf a.2.2.2.1 hr.2.2.2.1 (l - Ja Lb a.2.1 - Ja Nb a.2.2.1) (by omega)]
 simp only [jb]
 by_cases h2 : Ja Dc a.2.2.2.1 ≤ l - Ja Lb a.2.1 - Ja Nb a.2.2.1
 case neg => rw [Vf h2, Vf (by omega)]; rfl
 rw [Mh h2, Ba (by omega)]
 simp only [cond_false]
 rw [Mh (by omega), hs]
 try simp only [Nat.sub_sub, jt]
theorem A8 (a : Ob) (hz : Ja Lb a ≤ Ea) : Fw a = some (a, ()) := by
 unfold Fw
 have hs : Ja Lb a = Ja (.sl int) a.2.2.2.2.2.1 := by simp only [Ja, Nat.add_zero, js, jt]
 rw [Z8 a.2.2.2.2.2.1 (by omega)]
 simp only [jb]
theorem Eas (a : Va) (hz : Ja Sb a ≤ Ea) : BC a = some (a, ()) := by
 unfold BC
 rfl
theorem Iag (a : (List Va)) (hz : Ja (.sl Sb) a ≤ Ea) : XN a = some (a, ()) := A9 (e := Sb) _ _ (f := BC) a hz Eas rfl
theorem Fas (a : Ca) (hz : Ja Za a ≤ Ea) : CC a = some (a, ()) := by
 unfold CC
 rfl
theorem U0 (a : (List Ca)) (hz : Ja (.sl Za) a ≤ Ea) : ZG a = some (a, ()) := A9 (e := Za) _ _ (f := CC) a hz Fas rfl
theorem Hag (a : Ca) (hz : Ja Za a ≤ Ea) : Tx a = some (a, ()) := by
 unfold Tx
 rfl
theorem Faf (a : (List Ca)) (hz : Ja (.sl Za) a ≤ Ea) : XL a = some (a, ()) := A9 (e := Za) _ _ (f := Tx) a hz Hag rfl
theorem Eaa (a : Oa) (hz : Ja Nb a ≤ Ea) : EA a = some (a, ()) := by
 unfold EA
 have hs : Ja Nb a = Ja (.sl Sb) a.1 + (Ja (.sl Za) a.2.2.1 + (Ja (.sl Za) a.2.2.2.2.2.2.1)) := by simp only [Ja, Nat.add_zero, js, jt]
 rw [Iag a.1 (by omega)]
 simp only [jb]
 rw [U0 a.2.2.1 (by omega)]
 simp only [jb]
 rw [Faf a.2.2.2.2.2.2.1 (by omega)]
 simp only [jb]
theorem Vav (a : Sc) (hz : Ja Yb a ≤ Ea) : VF a = some (a, ()) := by
 unfold VF
 rfl
theorem Has (a : (List Sc)) (hz : Ja (.sl Yb) a ≤ Ea) : CK a = some (a, ()) := A9 (e := Yb) _ _ (f := VF) a hz Vav rfl
theorem Mag (a : (List (List Sc))) (hz : Ja (.sl (.sl Yb)) a ≤ Ea) : YN a = some (a, ()) := A9 (e := (.sl Yb)) _ _ (f := CK) a hz Has rfl
theorem Uav (a : Pa) (hz : Ja Xe a ≤ Ea) : UF a = some (a, ()) := by
 unfold UF
 have hs : Ja Xe a = 0 := by simp only [Ja, Nat.add_zero, js, jt]
 rw [T0 a.2.1 (by rw [Gx rfl]; exact Nat.zero_le _)]
 simp only [jb]
theorem Gas (a : (List Pa)) (hz : Ja (.sl Xe) a ≤ Ea) : XP a = some (a, ()) := A9 (e := Xe) _ _ (f := UF) a hz Uav rfl
theorem Jag (a : Gb) (hz : Ja Xb a ≤ Ea) : YG a = some (a, ()) := by
 unfold YG
 have hs : Ja Xb a = Ja Vb a.1 + (Ja (.sl (.sl Yb)) a.2.1 + (Ja (.sl Xe) a.2.2.2.1)) := by simp only [Ja, Nat.add_zero, js, jt]
 rw [Kag a.1 (by omega)]
 simp only [jb]
 rw [Mag a.2.1 (by omega)]
 simp only [jb]
 rw [Gas a.2.2.2.1 (by omega)]
 simp only [jb]
theorem Gaf (a : Hb) (hz : Ja Dc a ≤ Ea) : QD a = some (a, ()) := by
 unfold QD
 have hs : Ja Dc a = Ja Xb a.1 + (Ja (.sl Za) a.2.2.1) := by simp only [Ja, Nat.add_zero, js, jt]
 rw [Jag a.1 (by omega)]
 simp only [jb]
 rw [Nag a.2.1 (by rw [Gx rfl]; exact Nat.zero_le _)]
 simp only [jb]
 rw [U0 a.2.2.1 (by omega)]
 simp only [jb]
theorem Das (a : Bc) (hz : Ja Jc a ≤ Ea) : Co a = some (a, ()) := by
 unfold Co
 have hs : Ja Jc a = Ja Lb a.2.1 + (Ja Nb a.2.2.1 + (Ja Dc a.2.2.2.1)) := by simp only [Ja, Nat.add_zero, js, jt]
 rw [Lag a.1 (by rw [Gx rfl]; exact Nat.zero_le _)]
 simp only [jb]
 rw [A8 a.2.1 (by omega)]
 simp only [jb]
 rw [Eaa a.2.2.1 (by omega)]
 simp only [jb]
 rw [Gaf a.2.2.2.1 (by omega)]
 simp only [jb]
theorem Qaf (a : Ca) (hz : Ja Za a ≤ Zc) : OG a a = some (true, ()) := by
 unfold OG
 have hs : Ja Za a = 0 := by simp only [Ja, Nat.add_zero, js, jt]
 simp only [bne_self_eq_false', cond_false, jg, jb]
theorem P6 (a : Ob) (hz : Ja Lb a ≤ Zc) : Bw a a = some (true, ()) := by
 unfold Bw
 have hs : Ja Lb a = Ja (.sl int) a.2.2.2.2.2.1 := by simp only [Ja, Nat.add_zero, js, jt]
 simp only [bne_self_eq_false', cond_false, jg, jb, OW a.2.2.2.2.2.1 (by omega)]
theorem Maq (a : Va) (hz : Ja Sb a ≤ Zc) : UB a a = some (true, ()) := by
 unfold UB
 have hs : Ja Sb a = 0 := by simp only [Ja, Nat.add_zero, js, jt]
 simp only [bne_self_eq_false', cond_false, jg, jb]
theorem Naf (a : (List Va)) (hz : Ja (.sl Sb) a ≤ Zc) : LG a a = some (true, ()) := L4 (e := Sb) (f := UB) (F := LG) a hz Maq rfl
theorem Maf (a : Ca) (hz : Ja Za a ≤ Zc) : Px a a = some (true, ()) := by
 unfold Px
 have hs : Ja Za a = 0 := by simp only [Ja, Nat.add_zero, js, jt]
 simp only [bne_self_eq_false', cond_false, jg, jb]
theorem Tac (a : (List Ca)) (hz : Ja (.sl Za) a ≤ Zc) : KD a a = some (true, ()) := L4 (e := Za) (f := Px) (F := KD) a hz Maf rfl
theorem H9 (a : Oa) (hz : Ja Nb a ≤ Zc) : Uz a a = some (true, ()) := by
 unfold Uz
 have hs : Ja Nb a = Ja (.sl Sb) a.1 + (Ja (.sl Za) a.2.2.1 + (Ja (.sl Za) a.2.2.2.2.2.2.1)) := by simp only [Ja, Nat.add_zero, js, jt]
 simp only [bne_self_eq_false', cond_false, jg, jb, Naf a.1 (by omega), ZZ a.2.2.1 (by omega), Tac a.2.2.2.2.2.2.1 (by omega)]
theorem Lat (a : Sc) (hz : Ja Yb a ≤ Zc) : JF a a = some (true, ()) := by
 unfold JF
 have hs : Ja Yb a = 0 := by simp only [Ja, Nat.add_zero, js, jt]
 simp only [bne_self_eq_false', cond_false, jg, jb]
theorem Qaq (a : (List Sc)) (hz : Ja (.sl Yb) a ≤ Zc) : XB a a = some (true, ()) := L4 (e := Yb) (f := JF) (F := XB) a hz Lat rfl
theorem Saf (a : (List (List Sc))) (hz : Ja (.sl (.sl Yb)) a ≤ Zc) : QG a a = some (true, ()) := L4 (e := (.sl Yb)) (f := XB) (F := QG) a hz Qaq rfl
theorem Jat (a : Pa) (hz : Ja Xe a ≤ Zc) : HF a a = some (true, ()) := by
 unfold HF
 have hs : Ja Xe a = 0 := by simp only [Ja, Nat.add_zero, js, jt]
 simp only [bne_self_eq_false', cond_false, jg, jb, YZ a.2.1 (by rw [Gx rfl]; exact Nat.zero_le _)]
theorem Oaq (a : (List Pa)) (hz : Ja (.sl Xe) a ≤ Zc) : OJ a a = some (true, ()) := L4 (e := Xe) (f := HF) (F := OJ) a hz Jat rfl
theorem Oaf (a : Gb) (hz : Ja Xb a ≤ Zc) : MG a a = some (true, ()) := by
 unfold MG
 have hs : Ja Xb a = Ja Vb a.1 + (Ja (.sl (.sl Yb)) a.2.1 + (Ja (.sl Xe) a.2.2.2.1)) := by simp only [Ja, Nat.add_zero, js, jt]
 simp only [bne_self_eq_false', cond_false, jg, jb, Paf a.1 (by omega), Saf a.2.1 (by omega), Oaq a.2.2.2.1 (by omega)]
theorem Uac (a : Hb) (hz : Ja Dc a ≤ Zc) : LD a a = some (true, ()) := by
 unfold LD
 have hs : Ja Dc a = Ja Xb a.1 + (Ja (.sl Za) a.2.2.1) := by simp only [Ja, Nat.add_zero, js, jt]
 simp only [bne_self_eq_false', cond_false, jg, jb, Oaf a.1 (by omega), Taf a.2.1 (by rw [Gx rfl]; exact Nat.zero_le _), ZZ a.2.2.1 (by omega)]
theorem K4 (a : Bc) (hz : Ja Jc a ≤ Zc) : Bo a a = some (true, ()) := by
 unfold Bo
 have hs : Ja Jc a = Ja Lb a.2.1 + (Ja Nb a.2.2.1 + (Ja Dc a.2.2.2.1)) := by simp only [Ja, Nat.add_zero, js, jt]
 simp only [bne_self_eq_false', cond_false, jg, jb, Qaf a.1 (by rw [Gx rfl]; exact Nat.zero_le _), P6 a.2.1 (by omega), H9 a.2.2.1 (by omega), Uac a.2.2.2.1 (by omega)]
theorem IS (a : (List Int)) (k : Nat) (hk : k + 8 * Ja (.sl int) a ≤ Zc) : ∃ (a' : (List Int)) (k' : Nat), k ≤ k' ∧ k' ≤ k + 8 * Ja (.sl int) a ∧ Rx a (k : Int) = some (a', ((k' : Int), ())) ∧ SG a' (k : Int) = some ((k' : Int), ()) ∧ kf (.sl int) a a' := TM (e := int) (RM := Us) (RH := Ss) (fun _ _ => rfl) (fun _ _ => rfl) (by
 have h40 : Zc = 1099511627776 := rfl
 intro o k i hi hB
 have hw : j5 .i64 (((k : Nat) : Int) + 1) = (((k + 1) : Nat) : Int) := Hc (by omega)
 refine ⟨((k : Nat) : Int), k + 1, by omega, by omega, ?_, ?_⟩
 ·simp only [Us]
  rw [Aa (show (i : Int) < (ja o : Int) by omega)]
  simp only [hw, cond_true, Kg, j9, Aa hi, jn, je hi, qv hi, jb, List.set_set, z3, cond_false]
 ·intro o2 hi2 h2
  simp only [Ss]
  rw [Aa (show (i : Int) < (ja o2 : Int) by omega), Kb hi2, h2]
  simp only [hw, cond_true, jb, bne_self_eq_false', cond_false, z3]) (by
 intro o k
 simp only [Us]
 rw [Ba (by omega)]
 rfl) (by
 intro o k
 simp only [Ss]
 rw [Ba (by omega)]
 rfl) a k hk
theorem Cae (a : (List Pe)) (k : Nat) (hk : k + 8 * Ja (.sl Wh) a ≤ Zc) : ∃ (a' : (List Pe)) (k' : Nat), k ≤ k' ∧ k' ≤ k + 8 * Ja (.sl Wh) a ∧ UL a (k : Int) = some (a', ((k' : Int), ())) ∧ MD a' (k : Int) = some ((k' : Int), ()) ∧ kf (.sl Wh) a a' := TM (e := Wh) (RM := Pq) (RH := Lq) (fun _ _ => rfl) (fun _ _ => rfl) (by
 have h40 : Zc = 1099511627776 := rfl
 intro o k i hi hB
 have hs : Ja Wh o[i] = Ja (.sl int) o[i].2.1.2.1 := by simp only [Ja, Nat.add_zero, js, jt]
 have w0 : j5 .i64 (((k : Nat) : Int) + 1) = (((k + 1) : Nat) : Int) := Hc (by omega)
 have w1 : j5 .i64 ((((k + 1) : Nat) : Int) + 1) = ((((k + 1) + 1) : Nat) : Int) := Hc (by omega)
 obtain ⟨y0, k0, g0, i0, m0, n0, _⟩ := IS o[i].2.1.2.1 ((k + 1) + 1) (by omega)
 have d0 : decide ((k0 : Int) < 0) = false := Ba (by omega)
 refine ⟨(((k : Nat) : Int), ((((k + 1) : Nat) : Int), y0, ()), ()), k0, by omega, by omega, ?_, ?_⟩
 ·simp only [Pq]
  rw [Aa (show (i : Int) < (ja o : Int) by omega)]
  simp only [w0, w1, m0, cond_true, Kg, j9, Aa hi, jn, je hi, qv hi, jb, List.set_set, z3, cond_false]
 ·intro o2 hi2 h2
  simp only [Lq]
  rw [Aa (show (i : Int) < (ja o2 : Int) by omega), Kb hi2, h2]
  simp only [w0, w1, n0, d0, cond_true, jb, bne_self_eq_false', cond_false, z3]) (by
 intro o k
 simp only [Pq]
 rw [Ba (by omega)]
 rfl) (by
 intro o k
 simp only [Lq]
 rw [Ba (by omega)]
 rfl) a k hk
theorem C7 (a : (List Bb)) (k : Nat) (hk : k + 8 * Ja (.sl Qb) a ≤ Zc) : ∃ (a' : (List Bb)) (k' : Nat), k ≤ k' ∧ k' ≤ k + 8 * Ja (.sl Qb) a ∧ VH a (k : Int) = some (a', ((k' : Int), ())) ∧ TH a' (k : Int) = some ((k' : Int), ()) ∧ kf (.sl Qb) a a' := TM (e := Qb) (RM := Xm) (RH := Vm) (fun _ _ => rfl) (fun _ _ => rfl) (by
 have h40 : Zc = 1099511627776 := rfl
 intro o k i hi hB
 have hw : j5 .i64 (((k : Nat) : Int) + 1) = (((k + 1) : Nat) : Int) ∧ j5 .i64 ((((k + 1) : Nat) : Int) + 1) = (((k + 2) : Nat) : Int) ∧ j5 .i64 ((((k + 2) : Nat) : Int) + 1) = (((k + 3) : Nat) : Int) ∧ j5 .i64 ((((k + 3) : Nat) : Int) + 1) = (((k + 4) : Nat) : Int) := ⟨Hc (by omega), Hc (by omega), Hc (by omega), Hc (by omega)⟩
 obtain ⟨w0, w1, w2, w3⟩ := hw
 refine ⟨(((k : Nat) : Int), (((k + 1) : Nat) : Int), (((k + 2) : Nat) : Int), (((k + 3) : Nat) : Int), ()), k + 4, by omega, by omega, ?_, ?_⟩
 ·simp only [Xm]
  rw [Aa (show (i : Int) < (ja o : Int) by omega)]
  simp only [w0, w1, w2, w3, cond_true, Kg, j9, Aa hi, jn, je hi, qv hi, jb, List.set_set, z3, cond_false]
 ·intro o2 hi2 h2
  simp only [Vm]
  rw [Aa (show (i : Int) < (ja o2 : Int) by omega), Kb hi2, h2]
  simp only [w0, w1, w2, w3, cond_true, jb, bne_self_eq_false', cond_false, z3]) (by
 intro o k
 simp only [Xm]
 rw [Ba (by omega)]
 rfl) (by
 intro o k
 simp only [Vm]
 rw [Ba (by omega)]
 rfl) a k hk
theorem D5 (a : (List (List Bb))) (k : Nat) (hk : k + 8 * Ja (.sl (.sl Qb)) a ≤ Zc) : ∃ (a' : (List (List Bb))) (k' : Nat), k ≤ k' ∧ k' ≤ k + 8 * Ja (.sl (.sl Qb)) a ∧ RE a (k : Int) = some (a', ((k' : Int), ())) ∧ QE a' (k : Int) = some ((k' : Int), ()) ∧ kf (.sl (.sl Qb)) a a' := TM (e := (.sl Qb)) (RM := Rl) (RH := Ql) (fun _ _ => rfl) (fun _ _ => rfl) (by
 have h40 : Zc = 1099511627776 := rfl
 intro o k i hi hB
 obtain ⟨y0, k0, g0, i0, m0, n0, _⟩ := C7 o[i] k (by omega)
 have d0 : decide ((k0 : Int) < 0) = false := Ba (by omega)
 refine ⟨y0, k0, by omega, by omega, ?_, ?_⟩
 ·simp only [Rl]
  rw [Aa (show (i : Int) < (ja o : Int) by omega)]
  simp only [m0, cond_true, Kg, j9, Aa hi, jn, je hi, qv hi, jb, List.set_set, z3, cond_false]
 ·intro o2 hi2 h2
  simp only [Ql]
  rw [Aa (show (i : Int) < (ja o2 : Int) by omega), Kb hi2, h2]
  simp only [n0, d0, cond_true, jb, bne_self_eq_false', cond_false, z3]) (by
 intro o k
 simp only [Rl]
 rw [Ba (by omega)]
 rfl) (by
 intro o k
 simp only [Ql]
 rw [Ba (by omega)]
 rfl) a k hk
theorem S9 (a : Tb) (k : Nat) (hk : k + 8 * Ja Vb a ≤ Zc) : ∃ (a' : Tb) (k' : Nat), k ≤ k' ∧ k' ≤ k + 8 * Ja Vb a ∧ BA a (k : Int) = some (a', ((k' : Int), ())) ∧ Yz a' (k : Int) = some ((k' : Int), ()) ∧ kf Vb a a' := by
 have h40 : Zc = 1099511627776 := rfl
 have hs : Ja Vb a = Ja (.sl (.sl Qb)) a.2.1 := by simp only [Ja, Nat.add_zero, js, jt]
 obtain ⟨x0, k0, g0, i0, m0, n0, f0⟩ := D5 a.2.1 k (by omega)
 refine ⟨(a.1, x0, ()), k0, by omega, by omega, ?_, ?_, Tg _ _, f0, rfl⟩
 ·unfold BA
  simp only [m0, jb]
 ·unfold Yz
  simp only [n0, jb]
  rw [Ba (by omega)]
  simp only [cond_false]
theorem UV (a : (List Ca)) (k : Nat) (hk : k + 8 * Ja (.sl Za) a ≤ Zc) : ∃ (a' : (List Ca)) (k' : Nat), k ≤ k' ∧ k' ≤ k + 8 * Ja (.sl Za) a ∧ AA a (k : Int) = some (a', ((k' : Int), ())) ∧ Xz a' (k : Int) = some ((k' : Int), ()) ∧ kf (.sl Za) a a' := TM (e := Za) (RM := Vo) (RH := So) (fun _ _ => rfl) (fun _ _ => rfl) (by
 have h40 : Zc = 1099511627776 := rfl
 intro o k i hi hB
 have hw : j5 .i64 (((k : Nat) : Int) + 1) = (((k + 1) : Nat) : Int) ∧ j5 .i64 ((((k + 1) : Nat) : Int) + 1) = (((k + 2) : Nat) : Int) ∧ j5 .i64 ((((k + 2) : Nat) : Int) + 1) = (((k + 3) : Nat) : Int) := ⟨Hc (by omega), Hc (by omega), Hc (by omega)⟩
 obtain ⟨w0, w1, w2⟩ := hw
 refine ⟨(((k : Nat) : Int), (((k + 1) : Nat) : Int), (Int.tmod (((k + 2) : Nat) : Int) 3 == 0), ()), k + 3, by omega, by omega, ?_, ?_⟩
 ·simp only [Vo]
  rw [Aa (show (i : Int) < (ja o : Int) by omega)]
  simp only [w0, w1, w2, cond_true, Kg, j9, Aa hi, jn, je hi, qv hi, jb, List.set_set, z3, cond_false]
 ·intro o2 hi2 h2
  simp only [So]
  rw [Aa (show (i : Int) < (ja o2 : Int) by omega), Kb hi2, h2]
  simp only [w0, w1, w2, cond_true, jb, bne_self_eq_false', cond_false, z3]) (by
 intro o k
 simp only [Vo]
 rw [Ba (by omega)]
 rfl) (by
 intro o k
 simp only [So]
 rw [Ba (by omega)]
 rfl) a k hk
theorem S2 (a : Ob) (k : Nat) (hk : k + 8 * Ja Lb a ≤ Zc) : ∃ (a' : Ob) (k' : Nat), k ≤ k' ∧ k' ≤ k + 8 * Ja Lb a ∧ Nq a (k : Int) = some (a', ((k' : Int), ())) ∧ Jq a' (k : Int) = some ((k' : Int), ()) ∧ kf Lb a a' := by
 have h40 : Zc = 1099511627776 := rfl
 have hs : Ja Lb a = Ja (.sl int) a.2.2.2.2.2.1 := by simp only [Ja, Nat.add_zero, js, jt]
 obtain ⟨x0, k0, g0, i0, m0, n0, f0⟩ := IS a.2.2.2.2.2.1 k (by omega)
 refine ⟨(a.1, a.2.1, a.2.2.1, a.2.2.2.1, a.2.2.2.2.1, x0, ()), k0, by omega, by omega, ?_, ?_, Tg _ _, Tg _ _, Tg _ _, Tg _ _, Tg _ _, f0, rfl⟩
 ·unfold Nq
  simp only [m0, jb]
 ·unfold Jq
  simp only [n0, jb]
  rw [Ba (by omega)]
  simp only [cond_false]
theorem Q9 (a : (List Va)) (k : Nat) (hk : k + 8 * Ja (.sl Sb) a ≤ Zc) : ∃ (a' : (List Va)) (k' : Nat), k ≤ k' ∧ k' ≤ k + 8 * Ja (.sl Sb) a ∧ TJ a (k : Int) = some (a', ((k' : Int), ())) ∧ QJ a' (k : Int) = some ((k' : Int), ()) ∧ kf (.sl Sb) a a' := TM (e := Sb) (RM := Uo) (RH := Ro) (fun _ _ => rfl) (fun _ _ => rfl) (by
 have h40 : Zc = 1099511627776 := rfl
 intro o k i hi hB
 have hw : j5 .i64 (((k : Nat) : Int) + 1) = (((k + 1) : Nat) : Int) ∧ j5 .i64 ((((k + 1) : Nat) : Int) + 1) = (((k + 2) : Nat) : Int) := ⟨Hc (by omega), Hc (by omega)⟩
 obtain ⟨w0, w1⟩ := hw
 refine ⟨(((k : Nat) : Int), (((k + 1) : Nat) : Int), ()), k + 2, by omega, by omega, ?_, ?_⟩
 ·simp only [Uo]
  rw [Aa (show (i : Int) < (ja o : Int) by omega)]
  simp only [w0, w1, cond_true, Kg, j9, Aa hi, jn, je hi, qv hi, jb, List.set_set, z3, cond_false]
 ·intro o2 hi2 h2
  simp only [Ro]
  rw [Aa (show (i : Int) < (ja o2 : Int) by omega), Kb hi2, h2]
  simp only [w0, w1, cond_true, jb, bne_self_eq_false', cond_false, z3]) (by
 intro o k
 simp only [Uo]
 rw [Ba (by omega)]
 rfl) (by
 intro o k
 simp only [Ro]
 rw [Ba (by omega)]
 rfl) a k hk
theorem D7 (a : (List Ca)) (k : Nat) (hk : k + 8 * Ja (.sl Za) a ≤ Zc) : ∃ (a' : (List Ca)) (k' : Nat), k ≤ k' ∧ k' ≤ k + 8 * Ja (.sl Za) a ∧ WH a (k : Int) = some (a', ((k' : Int), ())) ∧ UH a' (k : Int) = some ((k' : Int), ()) ∧ kf (.sl Za) a a' := TM (e := Za) (RM := Ym) (RH := Wm) (fun _ _ => rfl) (fun _ _ => rfl) (by
 have h40 : Zc = 1099511627776 := rfl
 intro o k i hi hB
 have hw : j5 .i64 (((k : Nat) : Int) + 1) = (((k + 1) : Nat) : Int) ∧ j5 .i64 ((((k + 1) : Nat) : Int) + 1) = (((k + 2) : Nat) : Int) ∧ j5 .i64 ((((k + 2) : Nat) : Int) + 1) = (((k + 3) : Nat) : Int) := ⟨Hc (by omega), Hc (by omega), Hc (by omega)⟩
 obtain ⟨w0, w1, w2⟩ := hw
 refine ⟨(((k : Nat) : Int), (((k + 1) : Nat) : Int), (Int.tmod (((k + 2) : Nat) : Int) 3 == 0), ()), k + 3, by omega, by omega, ?_, ?_⟩
 ·simp only [Ym]
  rw [Aa (show (i : Int) < (ja o : Int) by omega)]
  simp only [w0, w1, w2, cond_true, Kg, j9, Aa hi, jn, je hi, qv hi, jb, List.set_set, z3, cond_false]
 ·intro o2 hi2 h2
  simp only [Wm]
  rw [Aa (show (i : Int) < (ja o2 : Int) by omega), Kb hi2, h2]
  simp only [w0, w1, w2, cond_true, jb, bne_self_eq_false', cond_false, z3]) (by
 intro o k
 simp only [Ym]
 rw [Ba (by omega)]
 rfl) (by
 intro o k
 simp only [Wm]
 rw [Ba (by omega)]
 rfl) a k hk
theorem E5 (a : Oa) (k : Nat) (hk : k + 8 * Ja Nb a ≤ Zc) : ∃ (a' : Oa) (k' : Nat), k ≤ k' ∧ k' ≤ k + 8 * Ja Nb a ∧ Ts a (k : Int) = some (a', ((k' : Int), ())) ∧ Rs a' (k : Int) = some ((k' : Int), ()) ∧ kf Nb a a' := by
 have h40 : Zc = 1099511627776 := rfl
 have hs : Ja Nb a = Ja (.sl Sb) a.1 + (Ja (.sl Za) a.2.2.1 + (Ja (.sl Za) a.2.2.2.2.2.2.1)) := by simp only [Ja, Nat.add_zero, js, jt]
 obtain ⟨x0, k0, g0, i0, m0, n0, f0⟩ := Q9 a.1 k (by omega)
 obtain ⟨x1, k1, g1, i1, m1, n1, f1⟩ := UV a.2.2.1 k0 (by omega)
 obtain ⟨x2, k2, g2, i2, m2, n2, f2⟩ := D7 a.2.2.2.2.2.2.1 k1 (by omega)
 refine ⟨(x0, a.2.1, x1, a.2.2.2.1, a.2.2.2.2.1, a.2.2.2.2.2.1, x2, ()), k2, by omega, by omega, ?_, ?_, f0, Tg _ _, f1, Tg _ _, Tg _ _, Tg _ _, f2, rfl⟩
 ·unfold Ts
  simp only [m0, m1, m2, jb]
 ·unfold Rs
  simp only [n0, jb]
  rw [Ba (by omega)]
  simp only [cond_false]
  simp only [n1, jb]
  rw [Ba (by omega)]
  simp only [cond_false]
  simp only [n2, jb]
  rw [Ba (by omega)]
  simp only [cond_false]
theorem Dae (a : (List Sc)) (k : Nat) (hk : k + 8 * Ja (.sl Yb) a ≤ Zc) : ∃ (a' : (List Sc)) (k' : Nat), k ≤ k' ∧ k' ≤ k + 8 * Ja (.sl Yb) a ∧ VL a (k : Int) = some (a', ((k' : Int), ())) ∧ SL a' (k : Int) = some ((k' : Int), ()) ∧ kf (.sl Yb) a a' := TM (e := Yb) (RM := Qq) (RH := Mq) (fun _ _ => rfl) (fun _ _ => rfl) (by
 have h40 : Zc = 1099511627776 := rfl
 intro o k i hi hB
 have hw : j5 .i64 (((k : Nat) : Int) + 1) = (((k + 1) : Nat) : Int) ∧ j5 .i64 ((((k + 1) : Nat) : Int) + 1) = (((k + 2) : Nat) : Int) ∧ j5 .i64 ((((k + 2) : Nat) : Int) + 1) = (((k + 3) : Nat) : Int) := ⟨Hc (by omega), Hc (by omega), Hc (by omega)⟩
 obtain ⟨w0, w1, w2⟩ := hw
 refine ⟨(((k : Nat) : Int), (((k + 1) : Nat) : Int), (((k + 2) : Nat) : Int), ()), k + 3, by omega, by omega, ?_, ?_⟩
 ·simp only [Qq]
  rw [Aa (show (i : Int) < (ja o : Int) by omega)]
  simp only [w0, w1, w2, cond_true, Kg, j9, Aa hi, jn, je hi, qv hi, jb, List.set_set, z3, cond_false]
 ·intro o2 hi2 h2
  simp only [Mq]
  rw [Aa (show (i : Int) < (ja o2 : Int) by omega), Kb hi2, h2]
  simp only [w0, w1, w2, cond_true, jb, bne_self_eq_false', cond_false, z3]) (by
 intro o k
 simp only [Qq]
 rw [Ba (by omega)]
 rfl) (by
 intro o k
 simp only [Mq]
 rw [Ba (by omega)]
 rfl) a k hk
theorem T9 (a : (List (List Sc))) (k : Nat) (hk : k + 8 * Ja (.sl (.sl Yb)) a ≤ Zc) : ∃ (a' : (List (List Sc))) (k' : Nat), k ≤ k' ∧ k' ≤ k + 8 * Ja (.sl (.sl Yb)) a ∧ VJ a (k : Int) = some (a', ((k' : Int), ())) ∧ SJ a' (k : Int) = some ((k' : Int), ()) ∧ kf (.sl (.sl Yb)) a a' := TM (e := (.sl Yb)) (RM := Wo) (RH := To) (fun _ _ => rfl) (fun _ _ => rfl) (by
 have h40 : Zc = 1099511627776 := rfl
 intro o k i hi hB
 obtain ⟨y0, k0, g0, i0, m0, n0, _⟩ := Dae o[i] k (by omega)
 have d0 : decide ((k0 : Int) < 0) = false := Ba (by omega)
 refine ⟨y0, k0, by omega, by omega, ?_, ?_⟩
 ·simp only [Wo]
  rw [Aa (show (i : Int) < (ja o : Int) by omega)]
  simp only [m0, cond_true, Kg, j9, Aa hi, jn, je hi, qv hi, jb, List.set_set, z3, cond_false]
 ·intro o2 hi2 h2
  simp only [To]
  rw [Aa (show (i : Int) < (ja o2 : Int) by omega), Kb hi2, h2]
  simp only [n0, d0, cond_true, jb, bne_self_eq_false', cond_false, z3]) (by
 intro o k
 simp only [Wo]
 rw [Ba (by omega)]
 rfl) (by
 intro o k
 simp only [To]
 rw [Ba (by omega)]
 rfl) a k hk
theorem Bae (a : (List Pa)) (k : Nat) (hk : k + 8 * Ja (.sl Xe) a ≤ Zc) : ∃ (a' : (List Pa)) (k' : Nat), k ≤ k' ∧ k' ≤ k + 8 * Ja (.sl Xe) a ∧ TL a (k : Int) = some (a', ((k' : Int), ())) ∧ RL a' (k : Int) = some ((k' : Int), ()) ∧ kf (.sl Xe) a a' := TM (e := Xe) (RM := Oq) (RH := Kq) (fun _ _ => rfl) (fun _ _ => rfl) (by
 have h40 : Zc = 1099511627776 := rfl
 intro o k i hi hB
 have hw : j5 .i64 (((k : Nat) : Int) + 1) = (((k + 1) : Nat) : Int) ∧ j5 .i64 ((((k + 1) : Nat) : Int) + 1) = (((k + 2) : Nat) : Int) ∧ j5 .i64 ((((k + 2) : Nat) : Int) + 1) = (((k + 3) : Nat) : Int) ∧ j5 .i64 ((((k + 3) : Nat) : Int) + 1) = (((k + 4) : Nat) : Int) ∧ j5 .i64 ((((k + 4) : Nat) : Int) + 1) = (((k + 5) : Nat) : Int) := ⟨Hc (by omega), Hc (by omega), Hc (by omega), Hc (by omega), Hc (by omega)⟩
 obtain ⟨w0, w1, w2, w3, w4⟩ := hw
 refine ⟨(((k : Nat) : Int), ((((k + 1) : Nat) : Int), (((k + 2) : Nat) : Int), (((k + 3) : Nat) : Int), (((k + 4) : Nat) : Int), ()), ()), k + 5, by omega, by omega, ?_, ?_⟩
 ·simp only [Oq]
  rw [Aa (show (i : Int) < (ja o : Int) by omega)]
  simp only [w0, w1, w2, w3, w4, cond_true, Kg, j9, Aa hi, jn, je hi, qv hi, jb, List.set_set, z3, cond_false]
 ·intro o2 hi2 h2
  simp only [Kq]
  rw [Aa (show (i : Int) < (ja o2 : Int) by omega), Kb hi2, h2]
  simp only [w0, w1, w2, w3, w4, cond_true, jb, bne_self_eq_false', cond_false, z3]) (by
 intro o k
 simp only [Oq]
 rw [Ba (by omega)]
 rfl) (by
 intro o k
 simp only [Kq]
 rw [Ba (by omega)]
 rfl) a k hk
theorem R9 (a : Gb) (k : Nat) (hk : k + 8 * Ja Xb a ≤ Zc) : ∃ (a' : Gb) (k' : Nat), k ≤ k' ∧ k' ≤ k + 8 * Ja Xb a ∧ Zz a (k : Int) = some (a', ((k' : Int), ())) ∧ Wz a' (k : Int) = some ((k' : Int), ()) ∧ kf Xb a a' := by
 have h40 : Zc = 1099511627776 := rfl
 have hs : Ja Xb a = Ja Vb a.1 + (Ja (.sl (.sl Yb)) a.2.1 + (Ja (.sl Xe) a.2.2.2.1)) := by simp only [Ja, Nat.add_zero, js, jt]
 obtain ⟨x0, k0, g0, i0, m0, n0, f0⟩ := S9 a.1 k (by omega)
 obtain ⟨x1, k1, g1, i1, m1, n1, f1⟩ := T9 a.2.1 k0 (by omega)
 obtain ⟨x2, k2, g2, i2, m2, n2, f2⟩ := Bae a.2.2.2.1 k1 (by omega)
 refine ⟨(x0, x1, a.2.2.1, x2, a.2.2.2.2.1, a.2.2.2.2.2.1, ()), k2, by omega, by omega, ?_, ?_, f0, f1, Tg _ _, f2, Tg _ _, Tg _ _, rfl⟩
 ·unfold Zz
  simp only [kf, true_and, and_true] at f0
  simp only [m0, m1, m2, jb]
  simp only [jc, Prod.ext_iff, f0, and_self]
 ·unfold Wz
  simp only [n0, jb]
  rw [Ba (by omega)]
  simp only [cond_false]
  simp only [n1, jb]
  rw [Ba (by omega)]
  simp only [cond_false]
  simp only [n2, jb]
  rw [Ba (by omega)]
  simp only [cond_false]
theorem E7 (a : Hb) (k : Nat) (hk : k + 8 * Ja Dc a ≤ Zc) : ∃ (a' : Hb) (k' : Nat), k ≤ k' ∧ k' ≤ k + 8 * Ja Dc a ∧ Dw a (k : Int) = some (a', ((k' : Int), ())) ∧ Cw a' (k : Int) = some ((k' : Int), ()) ∧ kf Dc a a' := by
 have h40 : Zc = 1099511627776 := rfl
 have hs : Ja Dc a = Ja Xb a.1 + (Ja (.sl Za) a.2.2.1) := by simp only [Ja, Nat.add_zero, js, jt]
 obtain ⟨x0, k0, g0, i0, m0, n0, f0⟩ := R9 a.1 k (by omega)
 obtain ⟨x1, k1, g1, i1, m1, n1, f1⟩ := UV a.2.2.1 k0 (by omega)
 refine ⟨(x0, a.2.1, x1, a.2.2.2.1, a.2.2.2.2.1, a.2.2.2.2.2.1, a.2.2.2.2.2.2.1, ()), k1, by omega, by omega, ?_, ?_, f0, Tg _ _, f1, Tg _ _, Tg _ _, Tg _ _, Tg _ _, rfl⟩
 ·unfold Dw
  simp only [kf, true_and, and_true] at f0
  simp only [m0, m1, jb]
  simp only [jc, Prod.ext_iff, f0, and_self]
 ·unfold Cw
  simp only [n0, jb]
  rw [Ba (by omega)]
  simp only [cond_false]
  simp only [n1, jb]
  rw [Ba (by omega)]
  simp only [cond_false]
theorem JX (a : Bc) (k : Nat) (hk : k + 8 * Ja Jc a ≤ Zc) : ∃ (a' : Bc) (k' : Nat), k ≤ k' ∧ k' ≤ k + 8 * Ja Jc a ∧ Gu a (k : Int) = some (a', ((k' : Int), ())) ∧ Fu a' (k : Int) = some ((k' : Int), ()) ∧ kf Jc a a' := by
 have h40 : Zc = 1099511627776 := rfl
 have hs : Ja Jc a = Ja Lb a.2.1 + (Ja Nb a.2.2.1 + (Ja Dc a.2.2.2.1)) := by simp only [Ja, Nat.add_zero, js, jt]
 obtain ⟨x0, k0, g0, i0, m0, n0, f0⟩ := S2 a.2.1 k (by omega)
 obtain ⟨x1, k1, g1, i1, m1, n1, f1⟩ := E5 a.2.2.1 k0 (by omega)
 obtain ⟨x2, k2, g2, i2, m2, n2, f2⟩ := E7 a.2.2.2.1 k1 (by omega)
 refine ⟨(a.1, x0, x1, x2, a.2.2.2.2.1, a.2.2.2.2.2.1, ()), k2, by omega, by omega, ?_, ?_, Tg _ _, f0, f1, f2, Tg _ _, Tg _ _, rfl⟩
 ·unfold Gu
  simp only [kf, true_and, and_true] at f0
  simp only [kf, true_and, and_true] at f1
  simp only [kf, true_and, and_true] at f2
  simp only [m0, m1, m2, jb]
  simp only [jc, Prod.ext_iff, f0, f1, f2, and_self]
 ·unfold Fu
  simp only [n0, jb]
  rw [Ba (by omega)]
  simp only [cond_false]
  simp only [n1, jb]
  rw [Ba (by omega)]
  simp only [cond_false]
  simp only [n2, jb]
  rw [Ba (by omega)]
  simp only [cond_false]
end KF
