/- An evaluator of Go functions on plain data, its soundness, and plain laws on what the functions compute, part 4 (conditions: as each lemma tells). -/
import Derived.Test.YtoncbegnhhcgmaaGreatC
set_option linter.unusedSimpArgs false
set_option linter.unusedVariables false
namespace KF
open Go
open List renaming length → ja, getElem?_eq_getElem → je, append → jf, mem_append → jl, mem_cons → jp, mem_cons_of_mem → jr, length_cons → jw, set → j6, length_nil → j8, length_set → j9, mem_singleton → qe, length_append → qf, getElem?_append_left → qh, getElem?_append_right → qi, getD_eq_getElem?_getD → qj, getElem_mem → qr, mem_of_mem_drop → qs, getElem_of_mem → qt, mem_map → qu, getElem?_set_self → qv, length_drop → qw, mem_cons_self → qy
open Option renaming bind_some → jb, bind → jz, map_some → qd, bind_eq_some_iff → qg
open Option.some renaming injEq → jc
open Bool renaming and_eq_true → jd, not_true → jg, true_and → jk, false_eq_true → jq, not_false → qa, not_eq_true → qb, false_and → qp, eq_iff_iff → qx
open Prod.mk renaming injEq → jh
open Nat renaming ble_eq_true_of_le → ji, mul_le_mul_right → jm, le_refl → jo, zero_add → js, add_assoc → jt, eq_of_beq_eq_true → ju, ble → jx, le_trans → qc, lt_of_lt_of_le → ql, pow_le_pow_right → qm, testBit_xor → qn, testBit_two_pow → qo, xor_lt_two_pow → qq
open Int renaming toNat_natCast → jn, eq_ofNat_of_zero_le → jv, toNat → jy
open Go.IntKind renaming wrap → j5
open Sum renaming elim → j7, elim_inl → qk
open Result renaming andThen_ok → qz
open Sem renaming run_bind → q0
abbrev int : Ty := .i .i64
abbrev Ba7 : Ty := .i .u8
abbrev Wb : Ty := (.p int (.p int .u))
abbrev Va : Type := (Int × (Int × Unit))
abbrev Zb : Ty := (.p int (.p (.sl int) .u))
abbrev Ha : Type := (Int × ((List Int) × Unit))
abbrev Za : Ty := (.p int (.p int (.p .b .u)))
abbrev Ca : Type := (Int × (Int × (Bool × Unit)))
abbrev Bc : Ty := (.p int Wb)
abbrev Qc : Type := (Int × Va)
abbrev Rb : Ty := (.p int Bc)
abbrev Bb : Type := (Int × Qc)
abbrev Gj : Ty := (.p int (.p Zb .u))
abbrev Lf : Type := (Int × (Ha × Unit))
abbrev Bf : Ty := (.p int (.p Rb .u))
abbrev Pa : Type := (Int × (Bb × Unit))
abbrev Kb : Ty := (.p int (.p int (.p int (.p int Zb))))
abbrev Ob : Type := (Int × (Int × (Int × (Int × Ha))))
abbrev Ub : Ty := (.p int (.p (.sl (.sl Rb)) .u))
abbrev Sb : Type := (Int × ((List (List Bb)) × Unit))
abbrev Car : Ty := (.p Za (.p Za .u))
abbrev Nb : Ty := (.p (.sl Wb) (.p int (.p (.sl Za) (.p int (.p int (.p int (.p (.sl Za) .u)))))))
abbrev Oa : Type := ((List Va) × (Int × ((List Ca) × (Int × (Int × (Int × ((List Ca) × Unit)))))))
abbrev Xb : Ty := (.p Ub (.p (.sl (.sl Bc)) (.p int (.p (.sl Bf) (.p int (.p .b .u))))))
abbrev Gb : Type := (Sb × ((List (List Qc)) × (Int × ((List Pa) × (Int × (Bool × Unit))))))
abbrev Cc : Ty := (.p Xb (.p Bc (.p (.sl Za) Rb)))
abbrev Hb : Type := (Gb × (Qc × ((List Ca) × Bb)))
abbrev Ad : Ty := (.p Za (.p Kb (.p Nb (.p Cc Wb))))
abbrev Zc : Type := (Ca × (Ob × (Oa × (Hb × Va))))
abbrev Zd : Type := Ca
abbrev MK : Type := Qc
def Saa : List UInt8 := [0, 1, 1, 2, 1, 2, 2, 3, 1, 2, 2, 3, 2, 3, 3, 4, 1, 2, 2, 3, 2, 3, 3, 4, 2, 3, 3, 4, 3, 4, 4, 5, 1, 2, 2, 3, 2, 3, 3, 4, 2, 3, 3, 4, 3, 4, 4, 5, 2, 3, 3, 4, 3, 4, 4, 5, 3, 4, 4, 5, 4, 5, 5, 6, 1, 2, 2, 3, 2, 3, 3, 4, 2, 3, 3, 4, 3, 4, 4, 5, 2, 3, 3, 4, 3, 4, 4, 5, 3, 4, 4, 5, 4, 5, 5, 6, 2, 3, 3, 4, 3, 4, 4, 5, 3, 4, 4, 5, 4, 5, 5, 6, 3, 4, 4, 5, 4, 5, 5, 6, 4, 5, 5, 6, 5, 6, 6, 7, 1, 2, 2, 3, 2, 3, 3, 4, 2, 3, 3, 4, 3, 4, 4, 5, 2, 3, 3, 4, 3, 4, 4, 5, 3, 4, 4, 5, 4, 5, 5, 6, 2, 3, 3, 4, 3, 4, 4, 5, 3, 4, 4, 5, 4, 5, 5, 6, 3, 4, 4, 5, 4, 5, 5, 6, 4, 5, 5, 6, 5, 6, 6, 7, 2, 3, 3, 4, 3, 4, 4, 5, 3, 4, 4, 5, 4, 5, 5, 6, 3, 4, 4, 5, 4, 5, 5, 6, 4, 5, 5, 6, 5, 6, 6, 7, 3, 4, 4, 5, 4, 5, 5, 6, 4, 5, 5, 6, 5, 6, 6, 7, 4, 5, 5, 6, 5, 6, 6, 7, 5, 6, 6, 7, 6, 7, 7, 8]
noncomputable section
open Option renaming bind → ob
open Go.IntKind renaming wrap → wr
open Int renaming toNat → tn
open List renaming length → ln, append → ap, set → ls
open Sum renaming elim → se
open Nat renaming ble → bl
abbrev Lc : Type := Int × Unit
abbrev Rc : Type := Bool × Unit
abbrev De : Type := Unit × Unit
abbrev Qd : Type := List Ca
abbrev Mf : Type := List Int
abbrev Wd : Type := List Va
abbrev Tk : Type := List Bb
abbrev Ud : Type := List Pa
abbrev Eh : Type := List Qc
abbrev Xj : Type := List Ha
abbrev Ur : Type := Sb × Unit
abbrev Dh : Type := Ca × Unit
abbrev Ug : Type := List Lf
abbrev IC : Type := Oa × Unit
abbrev Zk : Type := Gb × Unit
abbrev MX : Type := Lc × Unit
abbrev Kk : Type := Unit × Lc
abbrev Pi : Type := List Tk
abbrev Lp : Type := Wd × Va
abbrev Jh : Type := List Eh
abbrev OL : Type := Mf × Va
abbrev Tu : Type := Unit × Va
abbrev Nao : Type := Qd × Va
abbrev NX : Type := Ud × Va
abbrev WN : Type := Ob × Unit
abbrev JC : Type := Qd × Unit
abbrev PL : Type := Ha × Unit
abbrev LA : Type := Ha × PL
abbrev Oao : Type := (Ud × (Unit × (Unit × (Mf × (Int × (Bool × Lc)))))) × LA
abbrev XN : Type := Mf × Unit
abbrev Al : Type := Rc × Unit
abbrev Jk : Type := De ⊕ Al
abbrev WS : Type := (Ud × (Unit × Kk)) × LA
abbrev DI : Type := Pi × Va
abbrev KC : Type := MX ⊕ De
abbrev YN : Type := Hb × Unit
abbrev ZN : Type := Unit × Qc
abbrev X9 : Type := (Int × (Int × Kk)) × Ur
abbrev HaC : Type := Int × (Int × (Tk × Va))
abbrev Uu : Type := Int × Rc
abbrev XS : Type := Xj × Unit
abbrev LF : Type := MX ⊕ MX
abbrev ZP : Type := (Int × NX) × Unit
abbrev QL : Type := Zc × Unit
abbrev EI : Type := Va × Unit
abbrev LC : Type := Qc × Unit
abbrev Oy : Type := Int × Nao
abbrev FI : Type := Bb × Unit
abbrev W2 : Type := Unit × (Ug × Unit)
abbrev RL : Type := Jh × Va
abbrev Y9 : Type := (Ug × Va) × Unit
abbrev Pao : Type := Gb × Zk
abbrev OX : Type := (Unit × JC) × IC
abbrev X2 : Type := Mf × Lc
abbrev PX : Type := Unit × (Unit × Kk)
abbrev GI : Type := Qd × Lc
abbrev YP : Type := (Qd × GI) × Unit
abbrev Z9 : Type := Ob × (Ob × WN)
abbrev Qao : Type := Xj × Rc
abbrev SL : Type := Lp × Unit
abbrev Aaa : Type := (Pi × (Pi × Lc)) × Unit
abbrev Baa : Type := (Jh × (Jh × Lc)) × Unit
abbrev YS : Type := De ⊕ MX
abbrev Rao : Type := (Unit × (Unit × JC)) × (Oa × IC)
abbrev Caa : Type := (Wd × (Wd × Lc)) × Unit
abbrev Daa : Type := (Tk × (Tk × Lc)) × Unit
abbrev Eaa : Type := (Ud × (Ud × Lc)) × Unit
abbrev Faa : Type := (Eh × (Eh × Lc)) × Unit
abbrev Sao : Type := (XS × Unit) ⊕ De
abbrev ZS : Type := Unit × OL
abbrev IaC : Type := (Wd × (Int × (Int × (Unit × (Int × (Int × (Int × (Bool × Nao)))))))) × Dh
abbrev Tao : Type := ((Unit × (Unit × XN)) × LA) ⊕ De
abbrev AQ : Type := Tu × IC
abbrev BQ : Type := Eh × Va
abbrev CQ : Type := Nao × Unit
abbrev DQ : Type := NX × Unit
abbrev JaC : Type := Oao ⊕ (((Ud × (Unit × (Unit × (Mf × Uu)))) × LA) ⊕ De)
abbrev Uao : Type := (Unit × W2) × (Hb × YN)
abbrev QX : Type := Sb × Ur
abbrev EQ : Type := Unit × De
abbrev Vao : Type := (Unit × (Mf × Bb)) × Dh
abbrev KaC : Type := (Unit × (Unit × (Int × (Unit × GI)))) × (Zc × (Zc × WN))
abbrev Gaa : Type := (Tk × Va) × Unit
abbrev Haa : Type := Unit × Bb
abbrev Iaa : Type := (Mf × OL) × Unit
abbrev Jaa : Type := (Mf × X2) × Unit
abbrev LaC : Type := (Unit × (Ug × (Int × ((Xj × Int) × Lc)))) × YN
abbrev MaC : Type := (Unit × (Mf × (Int × (Int × (Int × Bb))))) × Dh
abbrev NaC : Type := (Wd × (Unit × (Wd × (Int × (Int × Lp))))) × EI
abbrev Kaa : Type := (Wd × Lc) × Unit
def Ac (a0 : Int) (a1 : Int) (a2 : Int) : Option Rc :=
 (cond (decide (a0 ≥ a1))
 (some ((decide (a0 ≤ a2)), ()))
 (some (false, ())))
def BM (a0 : Mf) (a1 : Int) : Option Lc :=
 (cond (decide ((wr .i64 (a1 - ((ln a0 : Nat) : Int))) < 0))
 (some ((-1), ()))
 (some ((wr .i64 (a1 - ((ln a0 : Nat) : Int))), ())))
def Rz (t0 : Mf) (t3 : Mf) (t4 : Int) : Option (Jaa ⊕ ((XN × Unit) ⊕ De)) :=
 (cond (decide (t4 < ((ln t0 : Nat) : Int)))
 (ob (Ab t0 t4) fun x5 =>
 (cond (Xe (ln t3) t4)
 (ob t3[(tn t4)]? fun x6 =>
 (some (.inl ((t0, (ls t3 (tn t4) x5), (wr .i64 (t4 + 1)), ()), ()))))
 none))
 (some (.inr (.inl ((t3, ()), ())))))
def OB := Ua fun x : Jaa => Rz x.1.1 x.1.2.1 x.1.2.2.1
def CM (a0 : Mf) : Option XN :=
 (cond ((((ln a0 : Nat) : Int) == ((ln a0 : Nat) : Int)) && (decide (0 ≤ ((ln a0 : Nat) : Int)) && decide (((ln a0 : Nat) : Int) ≤ ((Ta : Nat) : Int))))
 (ob (OB ((a0, (List.replicate (tn ((ln a0 : Nat) : Int)) 0), 0, ()), ())) (se (fun y7 => (some (y7.1.1, ()))) (fun z8 => none)))
 none)
def JM (a0 : Ha) : Option PL :=
 (cond (bl (ln ([] : List Int) + ln a0.2.1) Ta)
 (some ((a0.1, (ap [] a0.2.1), ()), ()))
 none)
def Ax (a0 : Mf) : Option XN :=
 (cond (bl (ln ([] : List Int) + ln a0) Ta)
 (some ((ap [] a0), ()))
 none)
def Hz (t0 : Mf) (t1 : Mf) (t5 : Int) : Option (Jaa ⊕ Jk) :=
 (cond (decide (t5 < ((ln t0 : Nat) : Int)))
 (ob (Ab t0 t5) fun x5 =>
 (ob (Ab t1 t5) fun x6 =>
 (cond (x5 != x6)
 (some (.inr (.inr ((false, ()), ()))))
 (some (.inl ((t0, t1, (wr .i64 (t5 + 1)), ()), ()))))))
 (some (.inr (.inl ((), ())))))
def HB := Ua fun x : Jaa => Hz x.1.1 x.1.2.1 x.1.2.2.1
def RE (a0 : Mf) (a1 : Mf) : Option Rc :=
 (cond (((ln a0 : Nat) : Int) != ((ln a1 : Nat) : Int))
 (some (false, ()))
 (ob (HB ((a0, a1, 0, ()), ())) (se (fun y7 => (some (true, ()))) (fun z8 => (some (z8.1.1, ()))))))
def YF (a0 : Ha) (a1 : Ha) : Option Rc :=
 (cond (a0.1 != a1.1)
 (some (false, ()))
 (ob (RE a0.2.1 a1.2.1) fun r1 =>
 (cond (!r1.1)
 (some (false, ()))
 (some (true, ())))))
def SE (a0 : Lf) (a1 : Lf) : Option Rc :=
 (cond (a0.1 != a1.1)
 (some (false, ()))
 (ob (YF a0.2.1 a1.2.1) fun r1 =>
 (cond (!r1.1)
 (some (false, ()))
 (some (true, ())))))
def M1 (t0 : Ug) (t1 : Ug) (t5 : Int) : Option (((Ug × (Ug × Lc)) × Unit) ⊕ Jk) :=
 (cond (decide (t5 < ((ln t0 : Nat) : Int)))
 (ob (Ab t0 t5) fun x7 =>
 (ob (Ab t1 t5) fun x8 =>
 (ob (SE x7 x8) fun r9 =>
 (cond (!r9.1)
 (some (.inr (.inr ((false, ()), ()))))
 (some (.inl ((t0, t1, (wr .i64 (t5 + 1)), ()), ())))))))
 (some (.inr (.inl ((), ())))))
def CK := Ua fun x : ((Ug × (Ug × Lc)) × Unit) => M1 x.1.1 x.1.2.1 x.1.2.2.1
def Wt (a0 : Ug) (a1 : Ug) : Option Rc :=
 (cond (((ln a0 : Nat) : Int) != ((ln a1 : Nat) : Int))
 (some (false, ()))
 (ob (CK ((a0, a1, 0, ()), ())) (se (fun y10 => (some (true, ()))) (fun z11 => (some (z11.1.1, ()))))))
def Ms (t0 : Mf) (t1 : Int) (t5 : Int) : Option ((OL × Unit) ⊕ ((X2 × Unit) ⊕ De)) :=
 (cond (decide (t5 < ((ln t0 : Nat) : Int)))
 (cond (Xe (ln t0) t5)
 (ob t0[(tn t5)]? fun x3 =>
 (some (.inl (((ls t0 (tn t5) t1), (wr .i64 (t1 + 1)), (wr .i64 (t5 + 1)), ()), ()))))
 none)
 (some (.inr (.inl ((t0, t1, ()), ())))))
def EJ := Ua fun x : (OL × Unit) => Ms x.1.1 x.1.2.1 x.1.2.2.1
def CG (a0 : Mf) (a1 : Int) : Option X2 :=
 (ob (EJ ((a0, a1, 0, ()), ())) (se (fun y4 => (some (y4.1.1, (y4.1.2.1, ())))) (fun z5 => none)))
def Gq (t0 : Ug) (t1 : Int) (t5 : Int) : Option (Y9 ⊕ (((Ug × Lc) × Unit) ⊕ De)) :=
 (cond (decide (t5 < ((ln t0 : Nat) : Int)))
 (cond (Xe (ln t0) t5)
 (ob t0[(tn t5)]? fun x9 =>
 (cond (Xe (ln (ls t0 (tn t5) (t1, x9.2))) t5)
 (ob (ls t0 (tn t5) (t1, x9.2))[(tn t5)]? fun x10 =>
 (cond (Xe (ln (ls (ls t0 (tn t5) (t1, x9.2)) (tn t5) (x10.1, ((wr .i64 (t1 + 1)), x10.2.1.2), x10.2.2))) t5)
 (ob (ls (ls t0 (tn t5) (t1, x9.2)) (tn t5) (x10.1, ((wr .i64 (t1 + 1)), x10.2.1.2), x10.2.2))[(tn t5)]? fun x11 =>
 (ob (CG x11.2.1.2.1 (wr .i64 ((wr .i64 (t1 + 1)) + 1))) fun r12 =>
 (some (.inl (((ls (ls (ls t0 (tn t5) (t1, x9.2)) (tn t5) (x10.1, ((wr .i64 (t1 + 1)), x10.2.1.2), x10.2.2)) (tn t5) (x11.1, (x11.2.1.1, r12.1, x11.2.1.2.2), x11.2.2)), r12.2.1, (wr .i64 (t5 + 1)), ()), ())))))
 none))
 none))
 none)
 (some (.inr (.inl ((t0, t1, ()), ())))))
def VH := Ua fun x : Y9 => Gq x.1.1 x.1.2.1 x.1.2.2.1
def DL (a0 : Ug) (a1 : Int) : Option (Ug × Lc) :=
 (ob (VH ((a0, a1, 0, ()), ())) (se (fun y13 => (some (y13.1.1, (y13.1.2.1, ())))) (fun z14 => none)))
def Js (t0 : Mf) (t1 : Int) (t5 : Int) : Option ((OL × Unit) ⊕ LF) :=
 (cond (decide (t5 < ((ln t0 : Nat) : Int)))
 (ob (Ab t0 t5) fun x3 =>
 (cond (x3 != t1)
 (some (.inr (.inr (((-1), ()), ()))))
 (some (.inl ((t0, (wr .i64 (t1 + 1)), (wr .i64 (t5 + 1)), ()), ())))))
 (some (.inr (.inl ((t1, ()), ())))))
def BJ := Ua fun x : (OL × Unit) => Js x.1.1 x.1.2.1 x.1.2.2.1
def BG (a0 : Mf) (a1 : Int) : Option Lc :=
 (ob (BJ ((a0, a1, 0, ()), ())) (se (fun y4 => (some (y4.1.1, ()))) (fun z5 => (some (z5.1.1, ())))))
def Zt (a0 : Tk) (a1 : Int) : Option Lc :=
 (cond (decide ((wr .i64 (a1 - ((ln a0 : Nat) : Int))) < 0))
 (some ((-1), ()))
 (some ((wr .i64 (a1 - ((ln a0 : Nat) : Int))), ())))
def FV (t0 : Pi) (t1 : Int) (t5 : Int) : Option ((DI × Unit) ⊕ LF) :=
 (cond (decide (t5 < ((ln t0 : Nat) : Int)))
 (ob (Ab t0 t5) fun x5 =>
 (ob (Zt x5 t1) fun r6 =>
 (cond (decide (r6.1 < 0))
 (some (.inr (.inr (((-1), ()), ()))))
 (some (.inl ((t0, r6.1, (wr .i64 (t5 + 1)), ()), ()))))))
 (some (.inr (.inl ((t1, ()), ())))))
def AF := Ua fun x : (DI × Unit) => FV x.1.1 x.1.2.1 x.1.2.2.1
def Oz (a0 : Pi) (a1 : Int) : Option Lc :=
 (cond (decide ((wr .i64 (a1 - ((ln a0 : Nat) : Int))) < 0))
 (some ((-1), ()))
 (ob (AF ((a0, (wr .i64 (a1 - ((ln a0 : Nat) : Int))), 0, ()), ())) (se (fun y7 => (some (y7.1.1, ()))) (fun z8 => (some (z8.1.1, ()))))))
def FG (a0 : Sb) (a1 : Int) : Option Lc :=
 (ob (Oz a0.2.1 a1) fun r1 =>
 (cond (decide (r1.1 < 0))
 (some ((-1), ()))
 (some (r1.1, ()))))
def Hp (a0 : Bb) : Option FI :=
 (some (a0, ()))
def KW (t0 : Tk) (t3 : Tk) (t4 : Int) : Option (Daa ⊕ (((Tk × Unit) × Unit) ⊕ De)) :=
 (cond (decide (t4 < ((ln t0 : Nat) : Int)))
 (ob (Ab t0 t4) fun x7 =>
 (ob (Hp x7) fun r8 =>
 (cond (Xe (ln t3) t4)
 (ob t3[(tn t4)]? fun x9 =>
 (some (.inl ((t0, (ls t3 (tn t4) r8.1), (wr .i64 (t4 + 1)), ()), ()))))
 none)))
 (some (.inr (.inl ((t3, ()), ())))))
def XH := Ua fun x : Daa => KW x.1.1 x.1.2.1 x.1.2.2.1
def AD (a0 : Tk) : Option (Tk × Unit) :=
 (cond ((((ln a0 : Nat) : Int) == ((ln a0 : Nat) : Int)) && (decide (0 ≤ ((ln a0 : Nat) : Int)) && decide (((ln a0 : Nat) : Int) ≤ ((Ta : Nat) : Int))))
 (ob (XH ((a0, (List.replicate (tn ((ln a0 : Nat) : Int)) (0, 0, 0, 0, ())), 0, ()), ())) (se (fun y10 => (some (y10.1.1, ()))) (fun z11 => none)))
 none)
def GV (t0 : Pi) (t3 : Pi) (t4 : Int) : Option (Aaa ⊕ (((Pi × Unit) × Unit) ⊕ De)) :=
 (cond (decide (t4 < ((ln t0 : Nat) : Int)))
 (ob (Ab t0 t4) fun x7 =>
 (ob (AD x7) fun r8 =>
 (cond (Xe (ln t3) t4)
 (ob t3[(tn t4)]? fun x9 =>
 (some (.inl ((t0, (ls t3 (tn t4) r8.1), (wr .i64 (t4 + 1)), ()), ()))))
 none)))
 (some (.inr (.inl ((t3, ()), ())))))
def BF := Ua fun x : Aaa => GV x.1.1 x.1.2.1 x.1.2.2.1
def JJ (a0 : Pi) : Option (Pi × Unit) :=
 (cond ((((ln a0 : Nat) : Int) == ((ln a0 : Nat) : Int)) && (decide (0 ≤ ((ln a0 : Nat) : Int)) && decide (((ln a0 : Nat) : Int) ≤ ((Ta : Nat) : Int))))
 (ob (BF ((a0, (List.replicate (tn ((ln a0 : Nat) : Int)) []), 0, ()), ())) (se (fun y10 => (some (y10.1.1, ()))) (fun z11 => none)))
 none)
def JG (a0 : Sb) : Option Ur :=
 (ob (JJ a0.2.1) fun r1 =>
 (some ((a0.1, r1.1, ()), ())))
def Uj (a0 : Bb) : Option Rc :=
 (ob (Ac a0.2.1 1 56) fun r1 =>
 (ob (Ac a0.2.2.1 1 15) fun r2 =>
 (ob (Ac a0.2.2.2.1 1 3) fun r3 =>
 (cond (a0.1 == 0)
 (cond (a0.2.1 == 0)
 (cond (a0.2.2.1 == 0)
 (some ((a0.2.2.2.1 == 0), ()))
 (some (false, ())))
 (some (false, ())))
 (cond (a0.1 == 1)
 (cond (a0.2.1 == 0)
 (cond (a0.2.2.1 == 0)
 (some ((a0.2.2.2.1 == 0), ()))
 (some (false, ())))
 (some (false, ())))
 (cond (a0.1 == 10)
 (cond (a0.2.1 == 0)
 (cond (a0.2.2.1 == 0)
 (some ((a0.2.2.2.1 == 0), ()))
 (some (false, ())))
 (some (false, ())))
 (cond (a0.1 == 2)
 (cond (a0.2.2.2.1 == 0)
 (cond r1.1
 (cond r2.1
 (some (true, ()))
 (some ((a0.2.2.1 == 0), ())))
 (cond (a0.2.1 == 0)
 (cond r2.1
 (cond r2.1
 (some (true, ()))
 (some ((a0.2.2.1 == 0), ())))
 (some (false, ())))
 (some (false, ()))))
 (some (false, ())))
 (cond (a0.1 == 3)
 (cond r3.1
 (cond (a0.2.1 == 0)
 (some ((a0.2.2.1 == 0), ()))
 (some (false, ())))
 (some (false, ())))
 (cond (a0.1 == 4)
 (cond r3.1
 (cond (a0.2.1 == 0)
 (some ((a0.2.2.1 == 0), ()))
 (some (false, ())))
 (some (false, ())))
 (cond (a0.1 == 5)
 (ob (Ac a0.2.2.2.1 0 3) fun r4 =>
 (cond r4.1
 (cond (a0.2.1 == 0)
 (some ((a0.2.2.1 == 0), ()))
 (some (false, ())))
 (some (false, ()))))
 (cond (a0.1 == 9)
 (ob (Ac a0.2.2.2.1 0 3) fun r5 =>
 (cond r5.1
 (cond (a0.2.1 == 0)
 (some ((a0.2.2.1 == 0), ()))
 (some (false, ())))
 (some (false, ()))))
 (cond (a0.1 == 6)
 (cond r1.1
 (cond r2.1
 (some ((a0.2.2.2.1 == 0), ()))
 (some (false, ())))
 (some (false, ())))
 (cond (a0.1 == 7)
 (cond r1.1
 (cond r3.1
 (some ((a0.2.2.1 == 0), ()))
 (some (false, ())))
 (some (false, ())))
 (cond (a0.1 == 8)
 (cond r2.1
 (cond (a0.2.1 == 0)
 (some ((a0.2.2.2.1 == 0), ()))
 (some (false, ())))
 (some (false, ())))
 (some (false, ()))))))))))))))))
def DE (t1 : Unit) (t3 : Int) (t4 : Int) (b1 : Sb) : Option ((Tu × Ur) ⊕ ((Kk × Ur) ⊕ Al)) :=
 (ob (Ab b1.2.1 t3) fun x40 =>
 (cond (decide (t4 < ((ln x40 : Nat) : Int)))
 (ob (Ab b1.2.1 t3) fun x41 =>
 (ob (Ab x41 t4) fun x42 =>
 (ob (Uj x42) fun r43 =>
 (cond (!r43.1)
 (some (.inr (.inr ((false, ()), ()))))
 (cond (x42.1 == 1)
 (cond (t3 == 0)
 (some (.inr (.inr ((false, ()), ()))))
 (cond (x42.1 != 9)
 (cond (decide (x42.2.2.2.1 ≥ ((ln b1.2.1 : Nat) : Int)))
 (some (.inr (.inr ((false, ()), ()))))
 (some (.inl (((), t3, (wr .i64 (t4 + 1)), ()), (b1, ())))))
 (some (.inl (((), t3, (wr .i64 (t4 + 1)), ()), (b1, ()))))))
 (cond (x42.1 != 9)
 (cond (decide (x42.2.2.2.1 ≥ ((ln b1.2.1 : Nat) : Int)))
 (some (.inr (.inr ((false, ()), ()))))
 (some (.inl (((), t3, (wr .i64 (t4 + 1)), ()), (b1, ())))))
 (some (.inl (((), t3, (wr .i64 (t4 + 1)), ()), (b1, ()))))))))))
 (some (.inr (.inl (((), t3, ()), (b1, ())))))))
def Xm := Ua fun x : (Tu × Ur) => DE x.1.1 x.1.2.1 x.1.2.2.1 x.2.1
def CE (t1 : Unit) (t3 : Int) (b1 : Sb) : Option ((Kk × Ur) ⊕ ((De × Ur) ⊕ Al)) :=
 (cond (decide (t3 < ((ln b1.2.1 : Nat) : Int)))
 (ob (Ab b1.2.1 t3) fun x31 =>
 (cond (((ln x31 : Nat) : Int) != b1.1)
 (some (.inr (.inr ((false, ()), ()))))
 (ob (Xm (((), t3, 0, ()), (b1, ()))) (se (fun y44 => (some (.inl (((), (wr .i64 (y44.1.2.1 + 1)), ()), (y44.2.1, ()))))) (fun z45 => (some (.inr (.inr ((z45.1.1, ()), ())))))))))
 (some (.inr (.inl (((), ()), (b1, ()))))))
def Wm := Ua fun x : (Kk × Ur) => CE x.1.1 x.1.2.1 x.2.1
def Kx (a0 : Sb) : Option Rc :=
 (ob (Wm (((), 0, ()), (a0, ()))) (se (fun y46 => (ob (Ac y46.2.1.1 1 32) fun r48 =>
 (cond r48.1
 (ob (Ac ((ln y46.2.1.2.1 : Nat) : Int) 1 4) fun r49 =>
 (some (r49.1, ())))
 (some (false, ()))))) (fun z47 => (some (z47.1.1, ())))))
def Tx (a0 : Int) : Option Rc :=
 (cond (decide (a0 ≥ 1))
 (some ((decide (a0 ≤ 56)), ()))
 (some (false, ())))
def Er (a0 : Int) : Option Rc :=
 (cond (decide (a0 ≥ 1))
 (some ((decide (a0 ≤ 15)), ()))
 (some (false, ())))
def Pt (a0 : Int) : Option Rc :=
 (cond (decide (a0 ≥ 1))
 (some ((decide (a0 ≤ 3)), ()))
 (some (false, ())))
def Rj (a0 : Bb) : Option Rc :=
 (cond (a0.1 == 0)
 (cond (a0.2.1 == 0)
 (cond (a0.2.2.1 == 0)
 (some ((a0.2.2.2.1 == 0), ()))
 (some (false, ())))
 (some (false, ())))
 (cond (a0.1 == 1)
 (cond (a0.2.1 == 0)
 (cond (a0.2.2.1 == 0)
 (some ((a0.2.2.2.1 == 0), ()))
 (some (false, ())))
 (some (false, ())))
 (cond (a0.1 == 10)
 (cond (a0.2.1 == 0)
 (cond (a0.2.2.1 == 0)
 (some ((a0.2.2.2.1 == 0), ()))
 (some (false, ())))
 (some (false, ())))
 (cond (a0.1 == 2)
 (cond (a0.2.2.2.1 == 0)
 (cond (a0.2.1 == 0)
 (cond (a0.2.2.1 == 0)
 (cond (a0.2.1 != 0)
 (some (true, ()))
 (some ((a0.2.2.1 != 0), ())))
 (ob (Er a0.2.2.1) fun r1 =>
 (cond r1.1
 (cond (a0.2.1 != 0)
 (some (true, ()))
 (some ((a0.2.2.1 != 0), ())))
 (some (false, ())))))
 (ob (Tx a0.2.1) fun r2 =>
 (cond r2.1
 (cond (a0.2.2.1 == 0)
 (cond (a0.2.1 != 0)
 (some (true, ()))
 (some ((a0.2.2.1 != 0), ())))
 (ob (Er a0.2.2.1) fun r3 =>
 (cond r3.1
 (cond (a0.2.1 != 0)
 (some (true, ()))
 (some ((a0.2.2.1 != 0), ())))
 (some (false, ())))))
 (some (false, ())))))
 (some (false, ())))
 (cond (a0.1 == 3)
 (cond (a0.2.1 == 0)
 (cond (a0.2.2.1 == 0)
 (ob (Pt a0.2.2.2.1) fun r4 =>
 (some (r4.1, ())))
 (some (false, ())))
 (some (false, ())))
 (cond (a0.1 == 4)
 (cond (a0.2.1 == 0)
 (cond (a0.2.2.1 == 0)
 (ob (Pt a0.2.2.2.1) fun r5 =>
 (some (r5.1, ())))
 (some (false, ())))
 (some (false, ())))
 (cond (a0.1 == 5)
 (cond (a0.2.1 == 0)
 (cond (a0.2.2.1 == 0)
 (cond (decide (a0.2.2.2.1 ≥ 0))
 (some ((decide (a0.2.2.2.1 ≤ 3)), ()))
 (some (false, ())))
 (some (false, ())))
 (some (false, ())))
 (cond (a0.1 == 9)
 (cond (a0.2.1 == 0)
 (cond (a0.2.2.1 == 0)
 (cond (decide (a0.2.2.2.1 ≥ 0))
 (some ((decide (a0.2.2.2.1 ≤ 3)), ()))
 (some (false, ())))
 (some (false, ())))
 (some (false, ())))
 (cond (a0.1 == 6)
 (ob (Tx a0.2.1) fun r6 =>
 (cond r6.1
 (ob (Er a0.2.2.1) fun r7 =>
 (cond r7.1
 (some ((a0.2.2.2.1 == 0), ()))
 (some (false, ()))))
 (some (false, ()))))
 (cond (a0.1 == 7)
 (ob (Tx a0.2.1) fun r8 =>
 (cond r8.1
 (cond (a0.2.2.1 == 0)
 (ob (Pt a0.2.2.2.1) fun r9 =>
 (some (r9.1, ())))
 (some (false, ())))
 (some (false, ()))))
 (cond (a0.1 == 8)
 (cond (a0.2.1 == 0)
 (ob (Er a0.2.2.1) fun r10 =>
 (cond r10.1
 (some ((a0.2.2.2.1 == 0), ()))
 (some (false, ()))))
 (some (false, ())))
 (some (false, ())))))))))))))
def RD (t1 : Unit) (t3 : Int) (t28 : Pi) (t29 : Int) (t30 : Int) (t40 : Tk) (t41 : Int) (t42 : Int) (b1 : Sb) : Option (((Unit × (Int × (Pi × HaC))) × Ur) ⊕ (((Unit × DI) × Ur) ⊕ Al)) :=
 (cond (decide (t42 < t41))
 (ob (Ab t40 t42) fun x24 =>
 (ob (Rj x24) fun r25 =>
 (cond (!r25.1)
 (some (.inr (.inr ((false, ()), ()))))
 (cond (t3 == 0)
 (cond (x24.1 == 1)
 (some (.inr (.inr ((false, ()), ()))))
 (cond (x24.1 != 9)
 (cond (decide (x24.2.2.2.1 ≥ ((ln b1.2.1 : Nat) : Int)))
 (some (.inr (.inr ((false, ()), ()))))
 (some (.inl (((), t3, t28, t29, t30, t40, t41, (wr .i64 (t42 + 1)), ()), (b1, ())))))
 (some (.inl (((), t3, t28, t29, t30, t40, t41, (wr .i64 (t42 + 1)), ()), (b1, ()))))))
 (cond (x24.1 != 9)
 (cond (decide (x24.2.2.2.1 ≥ ((ln b1.2.1 : Nat) : Int)))
 (some (.inr (.inr ((false, ()), ()))))
 (some (.inl (((), t3, t28, t29, t30, t40, t41, (wr .i64 (t42 + 1)), ()), (b1, ())))))
 (some (.inl (((), t3, t28, t29, t30, t40, t41, (wr .i64 (t42 + 1)), ()), (b1, ())))))))))
 (some (.inr (.inl (((), t28, t29, t30, ()), (b1, ()))))))
def Lm := Ua fun x : ((Unit × (Int × (Pi × HaC))) × Ur) => RD x.1.1 x.1.2.1 x.1.2.2.1 x.1.2.2.2.1 x.1.2.2.2.2.1 x.1.2.2.2.2.2.1 x.1.2.2.2.2.2.2.1 x.1.2.2.2.2.2.2.2.1 x.2.1
def QD (t1 : Unit) (t28 : Pi) (t29 : Int) (t30 : Int) (b1 : Sb) : Option (((Unit × DI) × Ur) ⊕ Jk) :=
 (cond (decide (t30 < t29))
 (ob (Ab t28 t30) fun x19 =>
 (cond (((ln x19 : Nat) : Int) != b1.1)
 (some (.inr (.inr ((false, ()), ()))))
 (ob (Lm (((), t30, t28, t29, t30, x19, ((ln x19 : Nat) : Int), 0, ()), (b1, ()))) (se (fun y26 => (some (.inl (((), y26.1.2.1, y26.1.2.2.1, (wr .i64 (y26.1.2.2.2.1 + 1)), ()), (y26.2.1, ()))))) (fun z27 => (some (.inr (.inr ((z27.1.1, ()), ())))))))))
 (some (.inr (.inl ((), ())))))
def Km := Ua fun x : ((Unit × DI) × Ur) => QD x.1.1 x.1.2.1 x.1.2.2.1 x.1.2.2.2.1 x.2.1
def Xw (a0 : Sb) : Option Rc :=
 (cond (decide (a0.1 < 1))
 (some (false, ()))
 (cond (decide (a0.1 > 32))
 (some (false, ()))
 (cond (decide (((ln a0.2.1 : Nat) : Int) < 1))
 (some (false, ()))
 (cond (decide (((ln a0.2.1 : Nat) : Int) > 4))
 (some (false, ()))
 (ob (Km (((), a0.2.1, ((ln a0.2.1 : Nat) : Int), 0, ()), (a0, ()))) (se (fun y28 => (some (true, ()))) (fun z29 => (some (z29.1.1, ())))))))))
def Gp (a0 : Bb) (a1 : Bb) : Option Rc :=
 (cond (a0.1 != a1.1)
 (some (false, ()))
 (cond (a0.2.1 != a1.2.1)
 (some (false, ()))
 (cond (a0.2.2.1 != a1.2.2.1)
 (some (false, ()))
 (cond (a0.2.2.2.1 != a1.2.2.2.1)
 (some (false, ()))
 (some (true, ()))))))
def IW (t0 : Tk) (t1 : Tk) (t5 : Int) : Option (Daa ⊕ Jk) :=
 (cond (decide (t5 < ((ln t0 : Nat) : Int)))
 (ob (Ab t0 t5) fun x7 =>
 (ob (Ab t1 t5) fun x8 =>
 (ob (Gp x7 x8) fun r9 =>
 (cond (!r9.1)
 (some (.inr (.inr ((false, ()), ()))))
 (some (.inl ((t0, t1, (wr .i64 (t5 + 1)), ()), ())))))))
 (some (.inr (.inl ((), ())))))
def OH := Ua fun x : Daa => IW x.1.1 x.1.2.1 x.1.2.2.1
def Vt (a0 : Tk) (a1 : Tk) : Option Rc :=
 (cond (((ln a0 : Nat) : Int) != ((ln a1 : Nat) : Int))
 (some (false, ()))
 (ob (OH ((a0, a1, 0, ()), ())) (se (fun y10 => (some (true, ()))) (fun z11 => (some (z11.1.1, ()))))))
def EV (t0 : Pi) (t1 : Pi) (t5 : Int) : Option (Aaa ⊕ Jk) :=
 (cond (decide (t5 < ((ln t0 : Nat) : Int)))
 (ob (Ab t0 t5) fun x7 =>
 (ob (Ab t1 t5) fun x8 =>
 (ob (Vt x7 x8) fun r9 =>
 (cond (!r9.1)
 (some (.inr (.inr ((false, ()), ()))))
 (some (.inl ((t0, t1, (wr .i64 (t5 + 1)), ()), ())))))))
 (some (.inr (.inl ((), ())))))
def PE := Ua fun x : Aaa => EV x.1.1 x.1.2.1 x.1.2.2.1
def Ez (a0 : Pi) (a1 : Pi) : Option Rc :=
 (cond (((ln a0 : Nat) : Int) != ((ln a1 : Nat) : Int))
 (some (false, ()))
 (ob (PE ((a0, a1, 0, ()), ())) (se (fun y10 => (some (true, ()))) (fun z11 => (some (z11.1.1, ()))))))
def VF (a0 : Sb) (a1 : Sb) : Option Rc :=
 (cond (a0.1 != a1.1)
 (some (false, ()))
 (ob (Ez a0.2.1 a1.2.1) fun r1 =>
 (cond (!r1.1)
 (some (false, ()))
 (some (true, ())))))
def KG (a0 : Ca) : Option Dh :=
 (some (a0, ()))
def Lx (a0 : Ca) : Option Rc :=
 (ob (Ac a0.1 1 4) fun r1 =>
 (cond r1.1
 (ob (Ac a0.2.1 1 6) fun r2 =>
 (some (r2.1, ())))
 (some (false, ()))))
def Wl (a0 : Ca) : Option Lc :=
 (ob (Lx a0) fun r1 =>
 (cond (!r1.1)
 (some (0, ()))
 (some ((wr .i64 (a0.1 * a0.2.1)), ()))))
def Cn (a0 : Ca) (a1 : Int) : Option Rc :=
 (ob (Lx a0) fun r1 =>
 (cond r1.1
 (ob (Wl a0) fun r2 =>
 (cond (decide (0 ≤ r2.1))
 (ob (Ac a1 0 (wr .i64 ((Sa .i64 1 r2.1) - 1))) fun r3 =>
 (some (r3.1, ())))
 none))
 (some (false, ()))))
def KD (a0 : Ca) (a1 : Int) (a2 : Int) : Option Lc :=
 (cond (decide (0 ≤ (wr .i64 (a2 * a0.2.1))))
 (cond (decide (0 ≤ a0.2.1))
 (some ((Wa .i64 (Yb .i64 a1 (wr .i64 (a2 * a0.2.1))) (wr .i64 ((Sa .i64 1 a0.2.1) - 1))), ()))
 none)
 none)
def Mw (t2 : Unit) (t5 : Int) (t6 : Int) (t7 : Int) (t8 : Int) (b2 : Ca) : Option ((Haa × Dh) ⊕ ((ZN × Dh) ⊕ De)) :=
 (cond (decide (t8 < b2.1))
 (ob (KD b2 t5 t7) fun r99 =>
 (ob (KD b2 t5 t8) fun r100 =>
 (cond ((Wa .i64 r99.1 r100.1) != 0)
 (ob (KD b2 t5 t8) fun r101 =>
 (cond (decide (0 ≤ (wr .i64 (t7 * b2.2.1))))
 (some (.inl (((), (Oc .i64 t5 (Sa .i64 r101.1 (wr .i64 (t7 * b2.2.1)))), t6, t7, (wr .i64 (t8 + 1)), ()), (b2, ()))))
 none))
 (some (.inl (((), t5, t6, t7, (wr .i64 (t8 + 1)), ()), (b2, ())))))))
 (some (.inr (.inl (((), t5, t6, t7, ()), (b2, ()))))))
def Ny := Ua fun x : (Haa × Dh) => Mw x.1.1 x.1.2.1 x.1.2.2.1 x.1.2.2.2.1 x.1.2.2.2.2.1 x.2.1
def EA (t2 : Unit) (t5 : Int) (t6 : Int) (t7 : Int) (b2 : Ca) : Option ((ZN × Dh) ⊕ ((Tu × Dh) ⊕ De)) :=
 (cond (decide (t7 < b2.1))
 (ob (Ny (((), t5, t6, t7, 0, ()), (b2, ()))) (se (fun y102 => (some (.inl (((), y102.1.2.1, y102.1.2.2.1, (wr .i64 (y102.1.2.2.2.1 + 1)), ()), (y102.2.1, ()))))) (fun z103 => (some (.inr (.inr ((), ())))))))
 (some (.inr (.inl (((), t5, t6, ()), (b2, ()))))))
def CC := Ua fun x : (ZN × Dh) => EA x.1.1 x.1.2.1 x.1.2.2.1 x.1.2.2.2.1 x.2.1
def DA (t2 : Unit) (t5 : Int) (t6 : Int) (b2 : Ca) : Option ((Tu × Dh) ⊕ KC) :=
 (cond (decide (t6 < b2.1))
 (ob (CC (((), t5, t6, 0, ()), (b2, ()))) (se (fun y104 => (some (.inl (((), y104.1.2.1, (wr .i64 (y104.1.2.2.1 + 1)), ()), (y104.2.1, ()))))) (fun z105 => (some (.inr (.inr ((), ())))))))
 (some (.inr (.inl ((t5, ()), ())))))
def BC := Ua fun x : (Tu × Dh) => DA x.1.1 x.1.2.1 x.1.2.2.1 x.2.1
def Qr (a0 : Ca) (a1 : Int) : Option Lc :=
 (cond a0.2.2.1
 (some (a1, ()))
 (ob (BC (((), a1, 0, ()), (a0, ()))) (se (fun y106 => (some (y106.1.1, ()))) (fun z107 => none))))
def Zz (a0 : Ca) (a1 : Int) : Option Uu :=
 (ob (Cn a0 a1) fun r1 =>
 (cond (!r1.1)
 (some (0, false, ()))
 (ob (Qr a0 a1) fun r2 =>
 (some (r2.1, true, ())))))
def Kn (a0 : Ca) (a1 : Int) : Option Rc :=
 (ob (Cn a0 a1) fun r1 =>
 (cond r1.1
 (ob (Qr a0 a1) fun r2 =>
 (some ((r2.1 == a1), ())))
 (some (false, ()))))
def Yv (a0 : Ca) (a1 : Int) (a2 : Int) : Option Uu :=
 (ob (Kn a0 a1) fun r1 =>
 (cond (!r1.1)
 (some (0, false, ()))
 (ob (Wl a0) fun r2 =>
 (ob (Ac a2 0 (wr .i64 (r2.1 - 1))) fun r3 =>
 (cond (!r3.1)
 (some (0, false, ()))
 (cond (decide (0 ≤ a2))
 (cond ((Wa .i64 (Yb .i64 a1 a2) 1) == 0)
 (some (0, false, ()))
 (cond (decide (0 ≤ a2))
 (ob (Qr a0 (Jb .i64 a1 (Sa .i64 1 a2))) fun r4 =>
 (cond (r4.1 != a1)
 (some (0, false, ()))
 (some ((Jb .i64 a1 (Sa .i64 1 a2)), true, ()))))
 none))
 none))))))
def Bj (t1 : Int) (t2 : Unit) (t5 : Int) (t6 : Int) (b2 : Ca) : Option (((Int × Tu) × Dh) ⊕ KC) :=
 (ob (Wl b2) fun r7 =>
 (cond (decide (t6 < r7.1))
 (ob (Kn b2 t1) fun r8 =>
 (cond r8.1
 (ob (Yv b2 t1 t6) fun r9 =>
 (cond (decide (0 ≤ t6))
 (cond ((Wa .i64 (Yb .i64 t1 t6) 1) == 1)
 (cond (!r9.2.1)
 (cond (decide (0 ≤ t6))
 (some (.inl ((t1, (), (Oc .i64 t5 (Sa .i64 1 t6)), (wr .i64 (t6 + 1)), ()), (b2, ()))))
 none)
 (some (.inl ((t1, (), t5, (wr .i64 (t6 + 1)), ()), (b2, ())))))
 (some (.inl ((t1, (), t5, (wr .i64 (t6 + 1)), ()), (b2, ())))))
 none))
 (some (.inr (.inl ((t5, ()), ()))))))
 (some (.inr (.inl ((t5, ()), ()))))))
def Ml := Ua fun x : ((Int × Tu) × Dh) => Bj x.1.1 x.1.2.1 x.1.2.2.1 x.1.2.2.2.1 x.2.1
def GD (a0 : Ca) (a1 : Int) : Option Lc :=
 (ob (Ml ((a1, (), 0, 0, ()), (a0, ()))) (se (fun y10 => (some (y10.1.1, ()))) (fun z11 => none)))
def Kq (a0 : Ca) (a1 : Int) (a2 : Int) : Option Uu :=
 (ob (Cn a0 a1) fun r1 =>
 (cond (!r1.1)
 (some (0, false, ()))
 (ob (Kn a0 a2) fun r2 =>
 (cond (!r2.1)
 (some (0, false, ()))
 (ob (GD a0 a2) fun r3 =>
 (some ((Wa .i64 a2 (Oc .i64 a1 r3.1)), true, ())))))))
def Fp (a0 : Ca) : Option Rc :=
 (cond (decide (a0.1 ≥ 1))
 (cond (decide (a0.1 ≤ 4))
 (cond (decide (a0.2.1 ≥ 1))
 (some ((decide (a0.2.1 ≤ 6)), ()))
 (some (false, ())))
 (some (false, ())))
 (some (false, ())))
def Sj (a0 : Ca) : Option Lc :=
 (ob (Fp a0) fun r1 =>
 (cond (!r1.1)
 (some (0, ()))
 (some ((wr .i64 (a0.1 * a0.2.1)), ()))))
def Zm (a0 : Ca) (a1 : Int) : Option Rc :=
 (ob (Fp a0) fun r1 =>
 (cond r1.1
 (cond (decide (a1 ≥ 0))
 (ob (Sj a0) fun r2 =>
 (cond (decide (0 ≤ r2.1))
 (some ((decide (a1 < (Sa .i64 1 r2.1))), ()))
 none))
 (some (false, ())))
 (some (false, ()))))
def QF (t1 : Int) (t2 : Unit) (t5 : Mf) (t15 : Int) (t16 : Int) (b2 : Ca) : Option (((Int × ZS) × Dh) ⊕ (((Unit × XN) × Dh) ⊕ De)) :=
 (cond (decide (t16 < t15))
 (cond (decide (0 ≤ (wr .i64 (t16 * b2.2.1))))
 (cond (decide (0 ≤ b2.2.1))
 (cond (Nat.beq 4 (ln t5))
 (cond (Xe (ln t5) t16)
 (ob t5[(tn t16)]? fun x3 =>
 (some (.inl ((t1, (), (ls t5 (tn t16) (Wa .i64 (Yb .i64 t1 (wr .i64 (t16 * b2.2.1))) (wr .i64 ((Sa .i64 1 b2.2.1) - 1)))), t15, (wr .i64 (t16 + 1)), ()), (b2, ())))))
 none)
 none)
 none)
 none)
 (some (.inr (.inl (((), t5, ()), (b2, ()))))))
def YG := Ua fun x : ((Int × ZS) × Dh) => QF x.1.1 x.1.2.1 x.1.2.2.1 x.1.2.2.2.1 x.1.2.2.2.2.1 x.2.1
def RC (t2 : Unit) (t5 : Mf) (t7 : Int) (t34 : Int) (t35 : Int) (t38 : Int) (t39 : Int) (t43 : Int) (t44 : Int) (b2 : Ca) : Option (MaC ⊕ (Vao ⊕ De)) :=
 (cond (decide (t44 < t43))
 (cond (Nat.beq 4 (ln t5))
 (cond (Xe (ln t5) t7)
 (ob t5[(tn t7)]? fun x156 =>
 (cond (Nat.beq 4 (ln t5))
 (cond (Xe (ln t5) t44)
 (ob t5[(tn t44)]? fun x157 =>
 (cond ((Wa .i64 x156 x157) != 0)
 (cond (Nat.beq 4 (ln t5))
 (cond (Xe (ln t5) t7)
 (ob t5[(tn t7)]? fun x158 =>
 (cond (Nat.beq 4 (ln t5))
 (cond (Xe (ln t5) t44)
 (ob t5[(tn t44)]? fun x159 =>
 (cond (Nat.beq 4 (ln t5))
 (cond (Xe (ln t5) t7)
 (ob t5[(tn t7)]? fun x160 =>
 (some (.inl (((), (ls t5 (tn t7) (Oc .i64 x158 x159)), t7, t34, t35, t38, t39, t43, (wr .i64 (t44 + 1)), ()), (b2, ())))))
 none)
 none))
 none)
 none))
 none)
 none)
 (some (.inl (((), t5, t7, t34, t35, t38, t39, t43, (wr .i64 (t44 + 1)), ()), (b2, ()))))))
 none)
 none))
 none)
 none)
 (some (.inr (.inl (((), t5, t34, t35, t38, t39, ()), (b2, ()))))))
def XD := Ua fun x : MaC => RC x.1.1 x.1.2.1 x.1.2.2.1 x.1.2.2.2.1 x.1.2.2.2.2.1 x.1.2.2.2.2.2.1 x.1.2.2.2.2.2.2.1 x.1.2.2.2.2.2.2.2.1 x.1.2.2.2.2.2.2.2.2.1 x.2.1
def QC (t2 : Unit) (t5 : Mf) (t34 : Int) (t35 : Int) (t38 : Int) (t39 : Int) (b2 : Ca) : Option (Vao ⊕ ((ZS × Dh) ⊕ De)) :=
 (cond (decide (t39 < t38))
 (ob (XD (((), t5, t39, t34, t35, t38, t39, b2.1, 0, ()), (b2, ()))) (se (fun y161 => (some (.inl (((), y161.1.2.1, y161.1.2.2.1, y161.1.2.2.2.1, y161.1.2.2.2.2.1, (wr .i64 (y161.1.2.2.2.2.2.1 + 1)), ()), (y161.2.1, ()))))) (fun z162 => (some (.inr (.inr ((), ())))))))
 (some (.inr (.inl (((), t5, t34, t35, ()), (b2, ()))))))
def WD := Ua fun x : Vao => QC x.1.1 x.1.2.1 x.1.2.2.1 x.1.2.2.2.1 x.1.2.2.2.2.1 x.1.2.2.2.2.2.1 x.2.1
def PC (t2 : Unit) (t5 : Mf) (t34 : Int) (t35 : Int) (b2 : Ca) : Option ((ZS × Dh) ⊕ (((Unit × XN) × Dh) ⊕ De)) :=
 (cond (decide (t35 < t34))
 (ob (WD (((), t5, t34, t35, b2.1, 0, ()), (b2, ()))) (se (fun y163 => (some (.inl (((), y163.1.2.1, y163.1.2.2.1, (wr .i64 (y163.1.2.2.2.1 + 1)), ()), (y163.2.1, ()))))) (fun z164 => (some (.inr (.inr ((), ())))))))
 (some (.inr (.inl (((), t5, ()), (b2, ()))))))
def VD := Ua fun x : (ZS × Dh) => PC x.1.1 x.1.2.1 x.1.2.2.1 x.1.2.2.2.1 x.2.1
def SC (t2 : Unit) (t5 : Mf) (t9 : Int) (t67 : Int) (t68 : Int) (b2 : Ca) : Option (((Unit × (Mf × Qc)) × Dh) ⊕ KC) :=
 (cond (decide (t68 < t67))
 (cond (Nat.beq 4 (ln t5))
 (cond (Xe (ln t5) t68)
 (ob t5[(tn t68)]? fun x169 =>
 (cond (decide (0 ≤ (wr .i64 (t68 * b2.2.1))))
 (some (.inl (((), t5, (Oc .i64 t9 (Sa .i64 x169 (wr .i64 (t68 * b2.2.1)))), t67, (wr .i64 (t68 + 1)), ()), (b2, ()))))
 none))
 none)
 none)
 (some (.inr (.inl ((t9, ()), ())))))
def YD := Ua fun x : ((Unit × (Mf × Qc)) × Dh) => SC x.1.1 x.1.2.1 x.1.2.2.1 x.1.2.2.2.1 x.1.2.2.2.2.1 x.2.1
def CB (a0 : Ca) (a1 : Int) : Option Lc :=
 (cond a0.2.2.1
 (some (a1, ()))
 (ob (YG ((a1, (), (List.replicate 4 0), a0.1, 0, ()), (a0, ()))) (se (fun y4 => (ob (VD (((), y4.1.2.1, y4.2.1.1, 0, ()), (y4.2.1, ()))) (se (fun y165 => (ob (YD (((), y165.1.2.1, 0, y165.2.1.1, 0, ()), (y165.2.1, ()))) (se (fun y170 => (some (y170.1.1, ()))) (fun z171 => none)))) (fun z166 => none)))) (fun z5 => none))))
def Fn (a0 : Ca) (a1 : Int) : Option Rc :=
 (ob (Zm a0 a1) fun r1 =>
 (cond r1.1
 (ob (CB a0 a1) fun r2 =>
 (some ((r2.1 == a1), ())))
 (some (false, ()))))
def Cv (a0 : Ca) (a1 : Int) (a2 : Int) : Option Uu :=
 (ob (Fn a0 a1) fun r1 =>
 (cond (!r1.1)
 (some (0, false, ()))
 (cond (decide (a2 < 0))
 (some (0, false, ()))
 (ob (Sj a0) fun r2 =>
 (cond (decide (a2 ≥ r2.1))
 (some (0, false, ()))
 (cond (decide (0 ≤ a2))
 (cond ((Wa .i64 (Yb .i64 a1 a2) 1) == 0)
 (some (0, false, ()))
 (cond (decide (0 ≤ a2))
 (ob (CB a0 (Jb .i64 a1 (Sa .i64 1 a2))) fun r3 =>
 (cond (r3.1 != a1)
 (some (0, false, ()))
 (some ((Jb .i64 a1 (Sa .i64 1 a2)), true, ()))))
 none))
 none))))))
def Pp (t1 : Int) (t2 : Unit) (t5 : Int) (t14 : Int) (t15 : Int) (b2 : Ca) : Option (((Int × ZN) × Dh) ⊕ KC) :=
 (cond (decide (t15 < t14))
 (cond (decide (0 ≤ t15))
 (cond ((Wa .i64 (Yb .i64 t1 t15) 1) == 1)
 (ob (Cv b2 t1 t15) fun r5 =>
 (cond (!r5.2.1)
 (cond (decide (0 ≤ t15))
 (some (.inl ((t1, (), (Oc .i64 t5 (Sa .i64 1 t15)), t14, (wr .i64 (t15 + 1)), ()), (b2, ()))))
 none)
 (some (.inl ((t1, (), t5, t14, (wr .i64 (t15 + 1)), ()), (b2, ()))))))
 (some (.inl ((t1, (), t5, t14, (wr .i64 (t15 + 1)), ()), (b2, ())))))
 none)
 (some (.inr (.inl ((t5, ()), ())))))
def Jt := Ua fun x : ((Int × ZN) × Dh) => Pp x.1.1 x.1.2.1 x.1.2.2.1 x.1.2.2.2.1 x.1.2.2.2.2.1 x.2.1
def NC (a0 : Ca) (a1 : Int) : Option Lc :=
 (ob (Fn a0 a1) fun r1 =>
 (cond (!r1.1)
 (some (0, ()))
 (ob (Sj a0) fun r2 =>
 (ob (Jt ((a1, (), 0, r2.1, 0, ()), (a0, ()))) (se (fun y6 => (some (y6.1.1, ()))) (fun z7 => none))))))
def Np (a0 : Ca) (a1 : Int) (a2 : Int) : Option Uu :=
 (ob (Zm a0 a1) fun r1 =>
 (cond (!r1.1)
 (some (0, false, ()))
 (ob (Fn a0 a2) fun r2 =>
 (cond (!r2.1)
 (some (0, false, ()))
 (ob (NC a0 a2) fun r3 =>
 (some ((Wa .i64 a2 (Oc .i64 a1 r3.1)), true, ())))))))
def Fk (a0 : Bb) : Option Rc :=
 (ob (Uj a0) fun r1 =>
 (cond r1.1
 (cond (a0.1 == 6)
 (some (true, ()))
 (some ((a0.1 == 7), ())))
 (some (false, ()))))
def GO (a0 : Bb) : Option FI :=
 (ob (Fk a0) fun r1 =>
 (cond (!r1.1)
 (some (a0, ()))
 (some ((2, a0.2.1, 0, 0, ()), ()))))
def Gn (a0 : Bb) : Option Rc :=
 (ob (Rj a0) fun r1 =>
 (cond r1.1
 (cond (a0.1 == 6)
 (some (true, ()))
 (some ((a0.1 == 7), ())))
 (some (false, ()))))
def AO (a0 : Bb) : Option FI :=
 (ob (Gn a0) fun r1 =>
 (cond (!r1.1)
 (some (a0, ()))
 (some ((2, a0.2.1, 0, 0, ()), ()))))
def Io (t2 : Unit) (t3 : Unit) (t10 : Pi) (t11 : Int) (t12 : Int) (b2 : Sb) (b3 : Sb) : Option (((Unit × (Unit × DI)) × QX) ⊕ ((EQ × QX) ⊕ De)) :=
 (cond (decide (t12 < t11))
 (ob (Ab t10 t12) fun x4 =>
 (cond (bl (ln ([] : List Bb) + ln x4) Ta)
 (cond (bl (ln b3.2.1 + ln ([(ap [] x4)] : List Tk)) Ta)
 (some (.inl (((), (), t10, t11, (wr .i64 (t12 + 1)), ()), (b2, (b3.1, (ap b3.2.1 ([(ap [] x4)] : List Tk)), ()), ()))))
 none)
 none))
 (some (.inr (.inl (((), (), ()), (b2, b3, ()))))))
def Cr := Ua fun x : ((Unit × (Unit × DI)) × QX) => Io x.1.1 x.1.2.1 x.1.2.2.1 x.1.2.2.2.1 x.1.2.2.2.2.1 x.2.1 x.2.2.1
def Yy (a0 : Sb) : Option Ur :=
 (ob (Cr (((), (), a0.2.1, ((ln a0.2.1 : Nat) : Int), 0, ()), ((0, [], ()), (a0.1, [], ()), ()))) (se (fun y5 => (some (y5.2.2.1, ()))) (fun z6 => none)))
def Jo (t3 : Jh) (t6 : Jh) (t7 : Int) (t8 : Int) : Option (((Jh × RL) × Unit) ⊕ (((Jh × Unit) × Unit) ⊕ De)) :=
 (cond (decide (t8 < t7))
 (ob (Ab t6 t8) fun x4 =>
 (cond (bl (ln ([] : List Qc) + ln x4) Ta)
 (cond (bl (ln t3 + ln ([(ap [] x4)] : List Eh)) Ta)
 (some (.inl (((ap t3 ([(ap [] x4)] : List Eh)), t6, t7, (wr .i64 (t8 + 1)), ()), ())))
 none)
 none))
 (some (.inr (.inl ((t3, ()), ())))))
def Dr := Ua fun x : ((Jh × RL) × Unit) => Jo x.1.1 x.1.2.1 x.1.2.2.1 x.1.2.2.2.1
def Zy (a0 : Jh) : Option (Jh × Unit) :=
 (ob (Dr (([], a0, ((ln a0 : Nat) : Int), 0, ()), ())) (se (fun y5 => (some (y5.1.1, ()))) (fun z6 => none)))
def Le (a0 : Int) (a1 : Int) : Option Lc :=
 (cond (decide (0 ≤ a1))
 (some ((Wa .i64 (Yb .i64 a0 a1) 1), ()))
 none)
def Sy (t3 : Int) (t6 : Ud) (t7 : Int) (t8 : Int) : Option (ZP ⊕ Jk) :=
 (cond (decide (t8 < t7))
 (ob (Ab t6 t8) fun x7 =>
 (cond (decide (x7.1 < 0))
 (some (.inr (.inr ((false, ()), ()))))
 (cond (decide (x7.1 > 31))
 (some (.inr (.inr ((false, ()), ()))))
 (ob (Le t3 x7.1) fun r8 =>
 (cond (r8.1 == 1)
 (some (.inr (.inr ((false, ()), ()))))
 (ob (Rj x7.2.1) fun r9 =>
 (cond (!r9.1)
 (some (.inr (.inr ((false, ()), ()))))
 (cond (x7.2.1.1 == 1)
 (some (.inr (.inr ((false, ()), ()))))
 (cond (x7.2.1.1 == 6)
 (some (.inr (.inr ((false, ()), ()))))
 (cond (x7.2.1.1 == 7)
 (some (.inr (.inr ((false, ()), ()))))
 (cond (decide (0 ≤ x7.1))
 (some (.inl (((Oc .i64 t3 (Sa .i64 1 x7.1)), t6, t7, (wr .i64 (t8 + 1)), ()), ())))
 none)))))))))))
 (some (.inr (.inl ((), ())))))
def UA := Ua fun x : ZP => Sy x.1.1 x.1.2.1 x.1.2.2.1 x.1.2.2.2.1
def Nk (a0 : Ud) : Option Rc :=
 (ob (UA ((0, a0, ((ln a0 : Nat) : Int), 0, ()), ())) (se (fun y10 => (some (true, ()))) (fun z11 => (some (z11.1.1, ())))))
def Cz (t3 : Unit) (t7 : Wd) (t8 : Int) (t9 : Int) (b3 : Va) : Option (((Unit × Lp) × EI) ⊕ YS) :=
 (cond (decide (t9 < t8))
 (ob (Ab t7 t9) fun x3 =>
 (cond (Py Wb x3 b3)
 (some (.inr (.inr ((t9, ()), ()))))
 (some (.inl (((), t7, t8, (wr .i64 (t9 + 1)), ()), (b3, ()))))))
 (some (.inr (.inl ((), ())))))
def BB := Ua fun x : ((Unit × Lp) × EI) => Cz x.1.1 x.1.2.1 x.1.2.2.1 x.1.2.2.2.1 x.2.1
def NE (a0 : Wd) (a1 : Va) : Option Lc :=
 (ob (BB (((), a0, ((ln a0 : Nat) : Int), 0, ()), (a1, ()))) (se (fun y4 => (some ((-1), ()))) (fun z5 => (some (z5.1.1, ())))))
def Rn (t3 : Wd) (t11 : Eh) (t12 : Int) (t13 : Int) : Option (((Wd × BQ) × Unit) ⊕ (((Wd × Unit) × Unit) ⊕ Al)) :=
 (cond (decide (t13 < t12))
 (ob (Ab t11 t13) fun x10 =>
 (ob (NE t3 x10.2) fun r11 =>
 (ob (Rj (2, x10.2.1, x10.2.2.1, 0, ())) fun r12 =>
 (cond (!r12.1)
 (some (.inr (.inr ((false, ()), ()))))
 (cond (x10.1 == 0)
 (cond (decide (r11.1 ≥ 0))
 (some (.inr (.inr ((false, ()), ()))))
 (cond (x10.1 == 1)
 (cond (bl (ln t3 + ln ([x10.2] : List Va)) Ta)
 (some (.inl (((ap t3 ([x10.2] : List Va)), t11, t12, (wr .i64 (t13 + 1)), ()), ())))
 none)
 (some (.inl ((t3, t11, t12, (wr .i64 (t13 + 1)), ()), ())))))
 (cond (x10.1 == 1)
 (cond (decide (r11.1 ≥ 0))
 (some (.inr (.inr ((false, ()), ()))))
 (cond (x10.1 == 1)
 (cond (bl (ln t3 + ln ([x10.2] : List Va)) Ta)
 (some (.inl (((ap t3 ([x10.2] : List Va)), t11, t12, (wr .i64 (t13 + 1)), ()), ())))
 none)
 (some (.inl ((t3, t11, t12, (wr .i64 (t13 + 1)), ()), ())))))
 (cond (x10.1 == 2)
 (cond (decide (r11.1 < 0))
 (some (.inr (.inr ((false, ()), ()))))
 (cond (Md (ln t3) 0 r11.1)
 (cond (Md (ln t3) (wr .i64 (r11.1 + 1)) ((ln t3 : Nat) : Int))
 (cond (bl (ln (Eb t3 (tn 0) (tn r11.1)) + ln (Eb t3 (tn (wr .i64 (r11.1 + 1))) (tn ((ln t3 : Nat) : Int)))) Ta)
 (some (.inl (((ap (Eb t3 (tn 0) (tn r11.1)) (Eb t3 (tn (wr .i64 (r11.1 + 1))) (tn ((ln t3 : Nat) : Int)))), t11, t12, (wr .i64 (t13 + 1)), ()), ())))
 none)
 none)
 none))
 (some (.inr (.inr ((false, ()), ())))))))))))
 (some (.inr (.inl ((t3, ()), ())))))
def Dy := Ua fun x : ((Wd × BQ) × Unit) => Rn x.1.1 x.1.2.1 x.1.2.2.1 x.1.2.2.2.1
def VA (a0 : Eh) : Option Rc :=
 (cond (decide (((ln a0 : Nat) : Int) > 8))
 (some (false, ()))
 (ob (Dy (([], a0, ((ln a0 : Nat) : Int), 0, ()), ())) (se (fun y13 => (some ((((ln y13.1.1 : Nat) : Int) == 0), ()))) (fun z14 => (some (z14.1.1, ()))))))
def Yr (t1 : Unit) (t35 : Jh) (t36 : Int) (t37 : Int) (b1 : Gb) : Option (((Unit × RL) × Zk) ⊕ ((De × Zk) ⊕ Al)) :=
 (cond (decide (t37 < t36))
 (ob (Ab t35 t37) fun x7 =>
 (ob (VA x7) fun r8 =>
 (cond (!r8.1)
 (some (.inr (.inr ((false, ()), ()))))
 (some (.inl (((), t35, t36, (wr .i64 (t37 + 1)), ()), (b1, ())))))))
 (some (.inr (.inl (((), ()), (b1, ()))))))
def Jm := Ua fun x : ((Unit × RL) × Zk) => Yr x.1.1 x.1.2.1 x.1.2.2.1 x.1.2.2.2.1 x.2.1
def Tp (t1 : Unit) (t5 : Int) (t50 : Ud) (t51 : Int) (t52 : Int) (b1 : Gb) : Option (((Unit × (Int × NX)) × Zk) ⊕ ((Kk × Zk) ⊕ Al)) :=
 (cond (decide (t52 < t51))
 (ob (Ab t50 t52) fun x13 =>
 (cond (decide (x13.1 ≥ b1.1.1))
 (some (.inr (.inr ((false, ()), ()))))
 (cond (x13.2.1.1 != 9)
 (cond (decide (x13.2.1.2.2.2.1 ≥ t5))
 (some (.inr (.inr ((false, ()), ()))))
 (some (.inl (((), t5, t50, t51, (wr .i64 (t52 + 1)), ()), (b1, ())))))
 (some (.inl (((), t5, t50, t51, (wr .i64 (t52 + 1)), ()), (b1, ())))))))
 (some (.inr (.inl (((), t5, ()), (b1, ()))))))
def Dl := Ua fun x : ((Unit × (Int × NX)) × Zk) => Tp x.1.1 x.1.2.1 x.1.2.2.1 x.1.2.2.2.1 x.1.2.2.2.2.1 x.2.1
def PF (a0 : Gb) : Option Rc :=
 (ob (Xw a0.1) fun r1 =>
 (cond (!r1.1)
 (some (false, ()))
 (cond (decide (((ln a0.2.1 : Nat) : Int) > 4))
 (some (false, ()))
 (ob (Nk a0.2.2.2.1) fun r2 =>
 (cond (!r2.1)
 (some (false, ()))
 (cond (decide (a0.2.2.2.2.1 < 0))
 (some (false, ()))
 (cond (decide (a0.2.2.2.2.1 > 15))
 (some (false, ()))
 (ob (Jm (((), a0.2.1, ((ln a0.2.1 : Nat) : Int), 0, ()), (a0, ()))) (se (fun y9 => (ob (Dl (((), ((ln y9.2.1.1.2.1 : Nat) : Int), y9.2.1.2.2.2.1, ((ln y9.2.1.2.2.2.1 : Nat) : Int), 0, ()), (y9.2.1, ()))) (se (fun y14 => (cond (decide (y14.2.1.2.2.1 ≥ 0))
 (cond ((2 : Int) == 0)
 none
 (cond ((Int.tmod y14.2.1.2.2.1 2) == 0)
 (cond (decide (0 ≤ y14.1.2.1))
 (some ((decide (y14.2.1.2.2.1 < (Sa .i64 1 y14.1.2.1))), ()))
 none)
 (some (false, ()))))
 (some (false, ())))) (fun z15 => (some (z15.1.1, ())))))) (fun z10 => (some (z10.1.1, ()))))))))))))
def Gl (a0 : Gb) : Option Zk :=
 (ob (Yy a0.1) fun r1 =>
 (ob (Zy a0.2.1) fun r2 =>
 (cond (bl (ln ([] : List Pa) + ln a0.2.2.2.1) Ta)
 (some ((r1.1, r2.1, a0.2.2.1, (ap [] a0.2.2.2.1), a0.2.2.2.2), ()))
 none)))
def Yw (a0 : Qc) : Option Rc :=
 (cond (decide (a0.1 ≥ 1))
 (cond (decide (a0.1 ≤ 1000))
 (cond (decide (a0.2.1 ≥ 0))
 (cond (decide (a0.2.1 ≤ 1000))
 (cond (decide (a0.2.2.1 ≥ 0))
 (some ((decide (a0.2.2.1 ≤ 2)), ()))
 (some (false, ())))
 (some (false, ())))
 (some (false, ())))
 (some (false, ())))
 (some (false, ())))
def Bs (t3 : Int) (t6 : Ud) (t7 : Int) (t8 : Int) : Option (ZP ⊕ KC) :=
 (cond (decide (t8 < t7))
 (ob (Ab t6 t8) fun x3 =>
 (cond (decide (0 ≤ x3.1))
 (some (.inl (((Oc .i64 t3 (Sa .i64 1 x3.1)), t6, t7, (wr .i64 (t8 + 1)), ()), ())))
 none))
 (some (.inr (.inl ((t3, ()), ())))))
def Mv := Ua fun x : ZP => Bs x.1.1 x.1.2.1 x.1.2.2.1 x.1.2.2.2.1
def Sl (a0 : Ud) : Option Lc :=
 (ob (Mv ((0, a0, ((ln a0 : Nat) : Int), 0, ()), ())) (se (fun y4 => (some (y4.1.1, ()))) (fun z5 => none)))
def Mt (a0 : Ca) : Option Rc :=
 (cond (decide (a0.1 ≥ 0))
 (cond (decide (a0.1 ≤ 1000000))
 (cond (decide (a0.2.1 ≥ 0))
 (some ((decide (a0.2.1 ≤ 31)), ()))
 (some (false, ())))
 (some (false, ())))
 (some (false, ())))
def Az (t0 : Qd) (t1 : Int) (t11 : Qd) (t12 : Int) (t13 : Int) : Option (((Qd × Oy) × Unit) ⊕ (MX ⊕ (Uu × Unit))) :=
 (cond (decide (t13 < t12))
 (ob (Ab t11 t13) fun x11 =>
 (ob (Mt x11) fun r12 =>
 (cond (!r12.1)
 (some (.inr (.inr ((0, false, ()), ()))))
 (cond (decide (t13 > 0))
 (ob (Ab t0 (wr .i64 (t13 - 1))) fun x13 =>
 (cond (decide (x13.1 > x11.1))
 (some (.inr (.inr ((0, false, ()), ()))))
 (ob (Le t1 x11.2.1) fun r14 =>
 (cond (x11.2.2.1 == (r14.1 == 1))
 (some (.inr (.inr ((0, false, ()), ()))))
 (cond (decide (0 ≤ x11.2.1))
 (some (.inl ((t0, (Me .i64 t1 (Sa .i64 1 x11.2.1)), t11, t12, (wr .i64 (t13 + 1)), ()), ())))
 none)))))
 (ob (Le t1 x11.2.1) fun r15 =>
 (cond (x11.2.2.1 == (r15.1 == 1))
 (some (.inr (.inr ((0, false, ()), ()))))
 (cond (decide (0 ≤ x11.2.1))
 (some (.inl ((t0, (Me .i64 t1 (Sa .i64 1 x11.2.1)), t11, t12, (wr .i64 (t13 + 1)), ()), ())))
 none)))))))
 (some (.inr (.inl ((t1, ()), ())))))
def YA := Ua fun x : ((Qd × Oy) × Unit) => Az x.1.1 x.1.2.1 x.1.2.2.1 x.1.2.2.2.1 x.1.2.2.2.2.1
def ZL (a0 : Qd) (a1 : Int) : Option Uu :=
 (cond (decide (((ln a0 : Nat) : Int) > 64))
 (some (0, false, ()))
 (ob (YA ((a0, a1, a0, ((ln a0 : Nat) : Int), 0, ()), ())) (se (fun y16 => (some (y16.1.1, true, ()))) (fun z17 => (some z17.1)))))
def Xp (t0 : Qd) (t1 : Int) (t2 : Int) (t11 : Qd) (t12 : Int) (t13 : Int) : Option (((Qd × (Int × Oy)) × Unit) ⊕ ((GI × Unit) ⊕ Al)) :=
 (cond (decide (t13 < t12))
 (ob (Ab t11 t13) fun x3 =>
 (cond (decide (x3.2.1 ≥ t2))
 (some (.inr (.inr ((false, ()), ()))))
 (some (.inl ((t0, t1, t2, t11, t12, (wr .i64 (t13 + 1)), ()), ())))))
 (some (.inr (.inl ((t0, t1, ()), ())))))
def Tt := Ua fun x : ((Qd × (Int × Oy)) × Unit) => Xp x.1.1 x.1.2.1 x.1.2.2.1 x.1.2.2.2.1 x.1.2.2.2.2.1 x.1.2.2.2.2.2.1
def Uh (a0 : Qd) (a1 : Int) (a2 : Int) : Option Rc :=
 (ob (Tt ((a0, a1, a2, a0, ((ln a0 : Nat) : Int), 0, ()), ())) (se (fun y4 => (ob (ZL y4.1.1 y4.1.2.1) fun r6 =>
 (some (r6.2.1, ())))) (fun z5 => (some (z5.1.1, ())))))
def Sh (a0 : Qd) (a1 : Int) : Option Rc :=
 (cond (((ln a0 : Nat) : Int) == 0)
 (some (true, ()))
 (ob (Ab a0 (wr .i64 (((ln a0 : Nat) : Int) - 1))) fun x1 =>
 (some ((decide (x1.1 ≤ a1)), ()))))
def Lt (a0 : Hb) : Option Rc :=
 (ob (PF a0.1) fun r1 =>
 (cond (!r1.1)
 (some (false, ()))
 (ob (Yw a0.2.1) fun r2 =>
 (cond (!r2.1)
 (some (false, ()))
 (cond (decide (a0.2.2.2.1 < 0))
 (some (false, ()))
 (cond (decide (a0.2.2.2.1 > 1000000))
 (some (false, ()))
 (cond (decide (a0.2.2.2.2.1 < 0))
 (some (false, ()))
 (cond (decide (a0.2.2.2.2.1 > a0.2.2.2.1))
 (some (false, ()))
 (ob (Sl a0.1.2.2.2.1) fun r3 =>
 (ob (Uh a0.2.2.1 r3.1 a0.1.1.1) fun r4 =>
 (cond (!r4.1)
 (some (false, ()))
 (ob (Sh a0.2.2.1 a0.2.2.2.1) fun r5 =>
 (cond (!r5.1)
 (some (false, ()))
 (cond (decide (a0.2.2.2.2.2.1 ≥ 0))
 (cond (decide (a0.2.2.2.2.2.1 ≤ a0.1.1.1))
 (cond (decide (a0.2.2.2.2.2.2.1 ≥ 0))
 (some ((decide (a0.2.2.2.2.2.2.1 ≤ a0.2.2.2.1)), ()))
 (some (false, ())))
 (some (false, ())))
 (some (false, ()))))))))))))))))
def Tn (a0 : Hb) : Option YN :=
 (ob (Gl a0.1) fun r1 =>
 (cond (bl (ln ([] : List Ca) + ln a0.2.2.1) Ta)
 (some ((r1.1, a0.2.1, (ap [] a0.2.2.1), a0.2.2.2), ()))
 none))
def Ry (t1 : Int) (t8 : Ud) (t9 : Int) (t10 : Int) : Option (ZP ⊕ YS) :=
 (cond (decide (t10 < t9))
 (ob (Ab t8 t10) fun x3 =>
 (cond (x3.1 == t1)
 (some (.inr (.inr ((t10, ()), ()))))
 (some (.inl ((t1, t8, t9, (wr .i64 (t10 + 1)), ()), ())))))
 (some (.inr (.inl ((), ())))))
def TA := Ua fun x : ZP => Ry x.1.1 x.1.2.1 x.1.2.2.1 x.1.2.2.2.1
def XL (a0 : Gb) (a1 : Int) : Option Lc :=
 (ob (TA ((a1, a0.2.2.2.1, ((ln a0.2.2.2.1 : Nat) : Int), 0, ()), ())) (se (fun y4 => (some ((-1), ()))) (fun z5 => (some (z5.1.1, ())))))
def sort_Ints (x0 : Mf) : Option XN := srt x0
def Bz (t1 : Int) (t7 : Mf) (t8 : Int) (t9 : Int) : Option (((Int × OL) × Unit) ⊕ Jk) :=
 (cond (decide (t9 < t8))
 (ob (Ab t7 t9) fun x3 =>
 (cond (x3 == t1)
 (some (.inr (.inr ((true, ()), ()))))
 (some (.inl ((t1, t7, t8, (wr .i64 (t9 + 1)), ()), ())))))
 (some (.inr (.inl ((), ())))))
def ZA := Ua fun x : ((Int × OL) × Unit) => Bz x.1.1 x.1.2.1 x.1.2.2.1 x.1.2.2.2.1
def AM (a0 : Mf) (a1 : Int) : Option Rc :=
 (ob (ZA ((a1, a0, ((ln a0 : Nat) : Int), 0, ()), ())) (se (fun y4 => (some (false, ()))) (fun z5 => (some (z5.1.1, ())))))
def Kv (t4 : Mf) (t11 : Mf) (t12 : Int) (t13 : Int) : Option (Iaa ⊕ ((XN × Unit) ⊕ De)) :=
 (cond (decide (t13 < t12))
 (cond (Xe (ln t11) t13)
 (ob t11[(tn t13)]? fun x9 =>
 (cond (x9 != 0)
 (ob (AM t4 x9) fun r10 =>
 (cond (!r10.1)
 (cond (bl (ln t4 + ln ([x9] : List Int)) Ta)
 (some (.inl (((ap t4 ([x9] : List Int)), t11, t12, (wr .i64 (t13 + 1)), ()), ())))
 none)
 (some (.inl ((t4, t11, t12, (wr .i64 (t13 + 1)), ()), ())))))
 (some (.inl ((t4, t11, t12, (wr .i64 (t13 + 1)), ()), ())))))
 none)
 (some (.inr (.inl ((t4, ()), ())))))
def Ey := Ua fun x : Iaa => Kv x.1.1 x.1.2.1 x.1.2.2.1 x.1.2.2.2.1
def Ot (a0 : Mf) : Option XN :=
 (ob (Ax a0) fun r1 =>
 (ob (sort_Ints r1.1) fun r2 =>
 (ob (Ey (([], r2.1, ((ln r2.1 : Nat) : Int), 0, ()), ())) (se (fun y11 => (some (y11.1.1, ()))) (fun z12 => none)))))
def As (t2 : Unit) (t3 : Unit) (t4 : Mf) (t11 : Ud) (t12 : Int) (t13 : Int) (b2 : Ha) (b3 : Ha) : Option (((Unit × (Unit × (Mf × NX))) × LA) ⊕ Tao) :=
 (cond (decide (t13 < t12))
 (ob (Ab t11 t13) fun x5 =>
 (cond (x5.2.1.1 == 2)
 (cond (bl (ln t4 + ln ([x5.2.1.2.1] : List Int)) Ta)
 (some (.inl (((), (), (ap t4 ([x5.2.1.2.1] : List Int)), t11, t12, (wr .i64 (t13 + 1)), ()), (b2, ((Oc .i64 b3.1 x5.2.1.2.2.1), b3.2.1, ()), ()))))
 none)
 (cond (x5.2.1.1 == 8)
 (cond (bl (ln t4 + ln ([x5.2.1.2.1] : List Int)) Ta)
 (some (.inl (((), (), (ap t4 ([x5.2.1.2.1] : List Int)), t11, t12, (wr .i64 (t13 + 1)), ()), (b2, ((Oc .i64 b3.1 x5.2.1.2.2.1), b3.2.1, ()), ()))))
 none)
 (cond (bl (ln t4 + ln ([x5.2.1.2.1] : List Int)) Ta)
 (some (.inl (((), (), (ap t4 ([x5.2.1.2.1] : List Int)), t11, t12, (wr .i64 (t13 + 1)), ()), (b2, b3, ()))))
 none))))
 (some (.inr (.inl (((), (), t4, ()), (b2, b3, ()))))))
def Iv := Ua fun x : ((Unit × (Unit × (Mf × NX))) × LA) => As x.1.1 x.1.2.1 x.1.2.2.1 x.1.2.2.2.1 x.1.2.2.2.2.1 x.1.2.2.2.2.2.1 x.2.1 x.2.2.1
def Ae (a0 : Ud) : Option PL :=
 (ob (Nk a0) fun r1 =>
 (cond (!r1.1)
 (some ((0, [], ()), ()))
 (ob (Iv (((), (), [], a0, ((ln a0 : Nat) : Int), 0, ()), ((0, [], ()), (0, [], ()), ()))) (se (fun y6 => (ob (Ot y6.1.2.2.1) fun r8 =>
 (some ((y6.2.2.1.1, r8.1, ()), ())))) (fun z7 => none)))))
def Es (t0 : Mf) (t1 : Mf) (t12 : Int) (t13 : Int) : Option (Iaa ⊕ Jk) :=
 (cond (decide (t13 < t12))
 (ob (Ab t0 t13) fun x5 =>
 (ob (Ab t1 t13) fun x6 =>
 (cond (x5 != x6)
 (some (.inr (.inr ((false, ()), ()))))
 (some (.inl ((t0, t1, t12, (wr .i64 (t13 + 1)), ()), ()))))))
 (some (.inr (.inl ((), ())))))
def Nv := Ua fun x : Iaa => Es x.1.1 x.1.2.1 x.1.2.2.1 x.1.2.2.2.1
def RF (a0 : Mf) (a1 : Mf) : Option Rc :=
 (cond (((ln a0 : Nat) : Int) != ((ln a1 : Nat) : Int))
 (some (false, ()))
 (ob (Nv ((a0, a1, ((ln a0 : Nat) : Int), 0, ()), ())) (se (fun y7 => (some (true, ()))) (fun z8 => (some (z8.1.1, ()))))))
def Up (a0 : Ha) (a1 : Ha) : Option Rc :=
 (cond (a0.1 == a1.1)
 (ob (RF a0.2.1 a1.2.1) fun r1 =>
 (some (r1.1, ())))
 (some (false, ())))
def Zj (a b : Ha) : Bool := (a.1 == b.1) && (a.2.1 == b.2.1)
def GaC (c : T Re → T Re → Option Bool) (a b : T Re) : Option Rc := ob (c a b) fun x => some (x, ())
def SK (c : T Re → T Re → Option Bool) (t2 : Unit) (t5 : (List (Int × ((T .o) × Unit)))) (t8 : (List (Int × ((T .o) × Unit)))) (t9 : Int) (t10 : Int) (b2 : (Int × ((T .o) × Unit))) : Option (((Unit × ((List (Int × ((T .o) × Unit))) × ((List (Int × ((T .o) × Unit))) × Va))) × ((Int × ((T .o) × Unit)) × Unit)) ⊕ ((((List (Int × ((T .o) × Unit))) × Unit) × Unit) ⊕ De)) :=
 (cond (decide (t10 < t9))
 (ob (Ab t8 t10) fun x7 =>
 (ob (GaC c b2 x7) fun r8 =>
 (cond (!r8.1)
 (cond (bl (ln t5 + ln ([x7] : List (Int × ((T .o) × Unit)))) Ta)
 (some (.inl (((), (ap t5 ([x7] : List (Int × ((T .o) × Unit)))), t8, t9, (wr .i64 (t10 + 1)), ()), (x7, ()))))
 none)
 (some (.inl (((), t5, t8, t9, (wr .i64 (t10 + 1)), ()), (x7, ())))))))
 (some (.inr (.inl ((t5, ()), ())))))
def Qx (c : T Re → T Re → Option Bool) (x : ((Unit × ((List (Int × ((T .o) × Unit))) × ((List (Int × ((T .o) × Unit))) × Va))) × ((Int × ((T .o) × Unit)) × Unit))) : Option ((((List (Int × ((T .o) × Unit))) × Unit) × Unit) ⊕ De) := Ua (fun x : ((Unit × ((List (Int × ((T .o) × Unit))) × ((List (Int × ((T .o) × Unit))) × Va))) × ((Int × ((T .o) × Unit)) × Unit)) => SK c x.1.1 x.1.2.1 x.1.2.2.1 x.1.2.2.2.1 x.1.2.2.2.2.1 x.2.1) x
def Hap (c : T Re → T Re → Option Bool) (a0 : (Int × ((T .o) × Unit))) (a1 : (List (Int × ((T .o) × Unit)))) : Option ((List (Int × ((T .o) × Unit))) × Unit) :=
 (ob (Qx c (((), ([] : List (Int × ((T .o) × Unit))), a1, ((ln a1 : Nat) : Int), 0, ()), (a0, ()))) (se (fun y9 => (some (y9.1.1, ()))) (fun z10 => none)))
def Ve (a0 : Ha) (a1 : List Ha) : Option XS := Gap Zj a0 a1
def DB (a0 : Gb) (a1 : Int) : Option (Gb × XS) :=
 (ob (Gl a0) fun r1 =>
 (ob (XL a0 a1) fun r2 =>
 (cond (Md (ln r1.1.2.2.2.1) 0 r2.1)
 (cond (Md (ln r1.1.2.2.2.1) (wr .i64 (r2.1 + 1)) ((ln r1.1.2.2.2.1 : Nat) : Int))
 (cond (bl (ln (Eb r1.1.2.2.2.1 (tn 0) (tn r2.1)) + ln (Eb r1.1.2.2.2.1 (tn (wr .i64 (r2.1 + 1))) (tn ((ln r1.1.2.2.2.1 : Nat) : Int)))) Ta)
 (ob (Ae a0.2.2.2.1) fun r3 =>
 (ob (Ae (ap (Eb r1.1.2.2.2.1 (tn 0) (tn r2.1)) (Eb r1.1.2.2.2.1 (tn (wr .i64 (r2.1 + 1))) (tn ((ln r1.1.2.2.2.1 : Nat) : Int))))) fun r4 =>
 (ob (Ve r3.1 ([r4.1] : List Ha)) fun r5 =>
 (some ((r1.1.1, r1.1.2.1, r1.1.2.2.1, (ap (Eb r1.1.2.2.2.1 (tn 0) (tn r2.1)) (Eb r1.1.2.2.2.1 (tn (wr .i64 (r2.1 + 1))) (tn ((ln r1.1.2.2.2.1 : Nat) : Int)))), r1.1.2.2.2.2), r5.1, ())))))
 none)
 none)
 none)))
def Zr (t5 : Int) (t21 : Ud) (t22 : Int) (t23 : Int) : Option (ZP ⊕ KC) :=
 (cond (decide (t23 < t22))
 (ob (Ab t21 t23) fun x16 =>
 (cond (x16.2.1.1 == 3)
 (cond (decide (0 ≤ x16.2.1.2.2.2.1))
 (some (.inl (((Oc .i64 t5 (Sa .i64 1 x16.2.1.2.2.2.1)), t21, t22, (wr .i64 (t23 + 1)), ()), ())))
 none)
 (some (.inl ((t5, t21, t22, (wr .i64 (t23 + 1)), ()), ())))))
 (some (.inr (.inl ((t5, ()), ())))))
def Kj := Ua fun x : ZP => Zr x.1.1 x.1.2.1 x.1.2.2.1 x.1.2.2.2.1
def Zw (a0 : Int) (a1 : Ud) : Option Lc :=
 (cond (decide (a0 ≥ 0))
 (cond (decide (a0 ≤ 15))
 (ob (Nk a1) fun r1 =>
 (cond (!r1.1)
 (some ((Oc .i64 1 a0), ()))
 (ob (Kj (((Oc .i64 1 a0), a1, ((ln a1 : Nat) : Int), 0, ()), ())) (se (fun y5 => (some (y5.1.1, ()))) (fun z6 => none)))))
 (ob (Nk a1) fun r7 =>
 (cond (!r7.1)
 (some (1, ()))
 (ob (Kj ((1, a1, ((ln a1 : Nat) : Int), 0, ()), ())) (se (fun y11 => (some (y11.1.1, ()))) (fun z12 => none))))))
 (ob (Nk a1) fun r13 =>
 (cond (!r13.1)
 (some (1, ()))
 (ob (Kj ((1, a1, ((ln a1 : Nat) : Int), 0, ()), ())) (se (fun y17 => (some (y17.1.1, ()))) (fun z18 => none))))))
def HP (t1 : Int) (t2 : Int) (t3 : Unit) (t7 : Int) (b3 : Sb) : Option (X9 ⊕ YS) :=
 (cond (decide (t7 > 0))
 (ob (Le t1 t7) fun r7 =>
 (cond (r7.1 == 1)
 (ob (Ab b3.2.1 t7) fun x8 =>
 (ob (Ab x8 t2) fun x9 =>
 (cond (x9.1 != 1)
 (some (.inr (.inr ((t7, ()), ()))))
 (some (.inl ((t1, t2, (), (wr .i64 (t7 - 1)), ()), (b3, ())))))))
 (some (.inl ((t1, t2, (), (wr .i64 (t7 - 1)), ()), (b3, ()))))))
 (some (.inr (.inl ((), ())))))
def Hi := Ua fun x : X9 => HP x.1.1 x.1.2.1 x.1.2.2.1 x.1.2.2.2.1 x.2.1
def AB (a0 : Sb) (a1 : Int) (a2 : Int) : Option Lc :=
 (ob (Hi ((a1, a2, (), (wr .i64 (((ln a0.2.1 : Nat) : Int) - 1)), ()), (a0, ()))) (se (fun y10 => (some (0, ()))) (fun z11 => (some (z11.1.1, ())))))
def EP (a0 : Sb) (a1 : Int) (a2 : Int) : Option Lc :=
 (ob (Xw a0) fun r1 =>
 (cond (!r1.1)
 (some ((-1), ()))
 (cond (decide (a2 < 0))
 (some ((-1), ()))
 (cond (decide (a2 ≥ a0.1))
 (some ((-1), ()))
 (ob (AB a0 a1 a2) fun r2 =>
 (some (r2.1, ())))))))
def OF (a0 : Sb) (a1 : Int) (a2 : Int) : Option FI :=
 (ob (EP a0 a1 a2) fun r1 =>
 (cond (decide (r1.1 < 0))
 (some ((0, 0, 0, 0, ()), ()))
 (ob (Ab a0.2.1 r1.1) fun x2 =>
 (ob (Ab x2 a2) fun x3 =>
 (some (x3, ()))))))
def Vr (t1 : Int) (t2 : Int) (t4 : Int) (t5 : Unit) (t12 : Int) (t26 : Qd) (t27 : Int) (t28 : Int) (b5 : Qc) : Option (((Int × (Int × (Int × (Unit × Oy)))) × LC) ⊕ (((Int × (Int × De)) × LC) ⊕ EI)) :=
 (cond (decide (t28 < t27))
 (ob (Ab t26 t28) fun x10 =>
 (ob (Mt x10) fun r11 =>
 (cond (!r11.1)
 (some (.inr (.inr ((0, 0, ()), ()))))
 (cond (decide (x10.1 ≥ (wr .i64 (t2 + b5.1))))
 (some (.inr (.inr ((2, (wr .i64 (t2 + b5.1)), ()), ()))))
 (cond (x10.2.1 == t1)
 (cond (!x10.2.2.1)
 (some (.inr (.inr ((1, x10.1, ()), ()))))
 (cond (x10.2.1 == t1)
 (some (.inl ((t1, t2, t4, (), t12, t26, t27, (wr .i64 (t28 + 1)), ()), (b5, ()))))
 (cond x10.2.2.1
 (cond (b5.2.2.1 == 1)
 (some (.inr (.inr ((2, x10.1, ()), ()))))
 (cond (decide (0 ≤ x10.2.1))
 (some (.inl ((t1, t2, t4, (), (Oc .i64 t12 (Sa .i64 1 x10.2.1)), t26, t27, (wr .i64 (t28 + 1)), ()), (b5, ()))))
 none))
 (cond (b5.2.2.1 == 2)
 (ob (Le t12 x10.2.1) fun r12 =>
 (cond (r12.1 == 1)
 (some (.inr (.inr ((2, x10.1, ()), ()))))
 (some (.inl ((t1, t2, t4, (), t12, t26, t27, (wr .i64 (t28 + 1)), ()), (b5, ()))))))
 (some (.inl ((t1, t2, t4, (), t12, t26, t27, (wr .i64 (t28 + 1)), ()), (b5, ()))))))))
 (cond (x10.2.1 == t1)
 (some (.inl ((t1, t2, t4, (), t12, t26, t27, (wr .i64 (t28 + 1)), ()), (b5, ()))))
 (cond x10.2.2.1
 (cond (b5.2.2.1 == 1)
 (some (.inr (.inr ((2, x10.1, ()), ()))))
 (cond (decide (0 ≤ x10.2.1))
 (some (.inl ((t1, t2, t4, (), (Oc .i64 t12 (Sa .i64 1 x10.2.1)), t26, t27, (wr .i64 (t28 + 1)), ()), (b5, ()))))
 none))
 (cond (b5.2.2.1 == 2)
 (ob (Le t12 x10.2.1) fun r13 =>
 (cond (r13.1 == 1)
 (some (.inr (.inr ((2, x10.1, ()), ()))))
 (some (.inl ((t1, t2, t4, (), t12, t26, t27, (wr .i64 (t28 + 1)), ()), (b5, ()))))))
 (some (.inl ((t1, t2, t4, (), t12, t26, t27, (wr .i64 (t28 + 1)), ()), (b5, ()))))))))))))
 (some (.inr (.inl ((t2, t4, (), ()), (b5, ()))))))
def Dv := Ua fun x : ((Int × (Int × (Int × (Unit × Oy)))) × LC) => Vr x.1.1 x.1.2.1 x.1.2.2.1 x.1.2.2.2.1 x.1.2.2.2.2.1 x.1.2.2.2.2.2.1 x.1.2.2.2.2.2.2.1 x.1.2.2.2.2.2.2.2.1 x.2.1
def Vw (a0 : Qc) (a1 : Int) (a2 : Int) (a3 : Qd) (a4 : Int) : Option Va :=
 (ob (Yw a0) fun r1 =>
 (cond (!r1.1)
 (some (0, 0, ()))
 (cond (decide (a2 < 0))
 (some (0, 0, ()))
 (cond (decide (a2 > 1000000))
 (some (0, 0, ()))
 (ob (Dv ((a1, a2, a4, (), 0, a3, ((ln a3 : Nat) : Int), 0, ()), (a0, ()))) (se (fun y14 => (cond (decide (y14.1.2.1 ≥ (wr .i64 (y14.1.1 + y14.2.1.1))))
 (some (2, (wr .i64 (y14.1.1 + y14.2.1.1)), ()))
 (some (0, 0, ())))) (fun z15 => (some z15.1))))))))
def YL (a0 : Bb) : Option FI :=
 (ob (Gn a0) fun r1 =>
 (cond (!r1.1)
 (some (a0, ()))
 (cond (a0.1 == 6)
 (some ((2, 0, a0.2.2.1, 0, ()), ()))
 (some ((3, 0, 0, a0.2.2.2.1, ()), ())))))
def Uy (a0 : Int) : Option Rc :=
 (cond (decide (a0 ≥ 1))
 (cond (decide (a0 ≤ 36))
 (some (true, ()))
 (cond (a0 == 39)
 (some (true, ()))
 (some ((a0 == 42), ()))))
 (cond (a0 == 39)
 (some (true, ()))
 (some ((a0 == 42), ()))))
def Gr (a0 : Gb) (a1 : Bb) : Option (Gb × FI) :=
 (cond (a1.1 == 2)
 (cond (a1.2.1 == 0)
 (some (a0, (a1, ())))
 (cond a0.2.2.2.2.2.1
 (ob (Uy a1.2.1) fun r1 =>
 (cond r1.1
 (cond (decide (a1.2.1 ≤ 26))
 (cond ((Jb .i64 (Oc .i64 a1.2.2.1 a0.2.2.2.2.1) 2) == 0)
 (some ((a0.1, a0.2.1, a0.2.2.1, a0.2.2.2.1, 0, r1.1, a0.2.2.2.2.2.2), ((a1.1, a1.2.1, 2, a1.2.2.2), ())))
 (some ((a0.1, a0.2.1, a0.2.2.1, a0.2.2.2.1, 0, r1.1, a0.2.2.2.2.2.2), ((a1.1, a1.2.1, (Oc .i64 a1.2.2.1 a0.2.2.2.2.1), a1.2.2.2), ()))))
 (some ((a0.1, a0.2.1, a0.2.2.1, a0.2.2.2.1, 0, r1.1, a0.2.2.2.2.2.2), ((a1.1, a1.2.1, (Oc .i64 a1.2.2.1 a0.2.2.2.2.1), a1.2.2.2), ()))))
 (some ((a0.1, a0.2.1, a0.2.2.1, a0.2.2.2.1, 0, r1.1, a0.2.2.2.2.2.2), ((a1.1, a1.2.1, (Oc .i64 a1.2.2.1 a0.2.2.2.2.1), a1.2.2.2), ())))))
 (some ((a0.1, a0.2.1, a0.2.2.1, a0.2.2.2.1, 0, false, a0.2.2.2.2.2.2), ((a1.1, a1.2.1, (Oc .i64 a1.2.2.1 a0.2.2.2.2.1), a1.2.2.2), ())))))
 (cond (a1.1 == 4)
 (cond (decide (0 ≤ a1.2.2.2.1))
 (some ((a0.1, a0.2.1, (Me .i64 a0.2.2.1 (Sa .i64 1 a1.2.2.2.1)), a0.2.2.2), (a1, ())))
 none)
 (cond (a1.1 == 5)
 (cond (decide (0 ≤ a1.2.2.2.1))
 (some ((a0.1, a0.2.1, (Jb .i64 (Sa .i64 1 a1.2.2.2.1) 1), a0.2.2.2), (a1, ())))
 none)
 (cond (a1.1 == 8)
 (cond ((Wa .i64 a0.2.2.2.2.1 a1.2.2.1) == a1.2.2.1)
 (some ((a0.1, a0.2.1, a0.2.2.1, a0.2.2.2.1, (Jb .i64 a0.2.2.2.2.1 a1.2.2.1), a0.2.2.2.2.2), (a1, ())))
 (some ((a0.1, a0.2.1, a0.2.2.1, a0.2.2.2.1, (Oc .i64 a0.2.2.2.2.1 a1.2.2.1), a0.2.2.2.2.2), (a1, ()))))
 (cond (a1.1 == 10)
 (some ((a0.1, a0.2.1, a0.2.2.1, a0.2.2.2.1, a0.2.2.2.2.1, (!a0.2.2.2.2.2.1), a0.2.2.2.2.2.2), (a1, ())))
 (some (a0, (a1, ()))))))))
def Yp (t4 : Unit) (t5 : Unit) (t6 : Mf) (t15 : Wd) (t16 : Int) (t17 : Int) (b4 : Ha) (b5 : Ha) : Option (((Unit × (Unit × (Mf × Lp))) × LA) ⊕ Tao) :=
 (cond (decide (t17 < t16))
 (ob (Ab t15 t17) fun x4 =>
 (cond (bl (ln t6 + ln ([x4.1] : List Int)) Ta)
 (some (.inl (((), (), (ap t6 ([x4.1] : List Int)), t15, t16, (wr .i64 (t17 + 1)), ()), (b4, ((Oc .i64 b5.1 x4.2.1), b5.2.1, ()), ()))))
 none))
 (some (.inr (.inl (((), (), t6, ()), (b4, b5, ()))))))
def Ut := Ua fun x : ((Unit × (Unit × (Mf × Lp))) × LA) => Yp x.1.1 x.1.2.1 x.1.2.2.1 x.1.2.2.2.1 x.1.2.2.2.2.1 x.1.2.2.2.2.2.1 x.2.1 x.2.2.1
def Qf (a0 : Ha) (a1 : Wd) : Option PL :=
 (ob (Ax a0.2.1) fun r1 =>
 (ob (Ut (((), (), r1.1, a1, ((ln a1 : Nat) : Int), 0, ()), ((0, [], ()), (a0.1, [], ()), ()))) (se (fun y5 => (ob (Ot y5.1.2.2.1) fun r7 =>
 (some ((y5.2.2.1.1, r7.1, ()), ())))) (fun z6 => none))))
def Fl (t5 : Unit) (t6 : Xj) (t7 : Wd) (t22 : Eh) (t23 : Int) (t24 : Int) (b5 : Ha) : Option (((Unit × (Xj × (Wd × BQ))) × PL) ⊕ Sao) :=
 (cond (decide (t24 < t23))
 (ob (Ab t22 t24) fun x25 =>
 (cond (x25.1 == 0)
 (cond (bl (ln ([] : List Va) + ln t7) Ta)
 (cond (bl (ln (ap [] t7) + ln ([x25.2] : List Va)) Ta)
 (ob (Qf b5 (ap (ap [] t7) ([x25.2] : List Va))) fun r26 =>
 (cond (bl (ln t6 + ln ([r26.1] : List Ha)) Ta)
 (ob (Qf b5 t7) fun r27 =>
 (cond (bl (ln (ap t6 ([r26.1] : List Ha)) + ln ([r27.1] : List Ha)) Ta)
 (some (.inl (((), (ap (ap t6 ([r26.1] : List Ha)) ([r27.1] : List Ha)), t7, t22, t23, (wr .i64 (t24 + 1)), ()), (b5, ()))))
 none))
 none))
 none)
 none)
 (cond (x25.1 == 1)
 (cond (bl (ln t7 + ln ([x25.2] : List Va)) Ta)
 (ob (Qf b5 (ap t7 ([x25.2] : List Va))) fun r28 =>
 (cond (bl (ln t6 + ln ([r28.1] : List Ha)) Ta)
 (some (.inl (((), (ap t6 ([r28.1] : List Ha)), (ap t7 ([x25.2] : List Va)), t22, t23, (wr .i64 (t24 + 1)), ()), (b5, ()))))
 none))
 none)
 (cond (x25.1 == 2)
 (ob (NE t7 x25.2) fun r29 =>
 (cond (Md (ln t7) 0 r29.1)
 (cond (Md (ln t7) (wr .i64 (r29.1 + 1)) ((ln t7 : Nat) : Int))
 (cond (bl (ln (Eb t7 (tn 0) (tn r29.1)) + ln (Eb t7 (tn (wr .i64 (r29.1 + 1))) (tn ((ln t7 : Nat) : Int)))) Ta)
 (ob (Qf b5 (ap (Eb t7 (tn 0) (tn r29.1)) (Eb t7 (tn (wr .i64 (r29.1 + 1))) (tn ((ln t7 : Nat) : Int))))) fun r30 =>
 (cond (bl (ln t6 + ln ([r30.1] : List Ha)) Ta)
 (some (.inl (((), (ap t6 ([r30.1] : List Ha)), (ap (Eb t7 (tn 0) (tn r29.1)) (Eb t7 (tn (wr .i64 (r29.1 + 1))) (tn ((ln t7 : Nat) : Int)))), t22, t23, (wr .i64 (t24 + 1)), ()), (b5, ()))))
 none))
 none)
 none)
 none))
 (ob (Qf b5 t7) fun r31 =>
 (cond (bl (ln t6 + ln ([r31.1] : List Ha)) Ta)
 (some (.inl (((), (ap t6 ([r31.1] : List Ha)), t7, t22, t23, (wr .i64 (t24 + 1)), ()), (b5, ()))))
 none))))))
 (some (.inr (.inl ((t6, ()), ())))))
def Sn := Ua fun x : ((Unit × (Xj × (Wd × BQ))) × PL) => Fl x.1.1 x.1.2.1 x.1.2.2.1 x.1.2.2.2.1 x.1.2.2.2.2.1 x.1.2.2.2.2.2.1 x.2.1
def Oj (a0 : Ud) (a1 : Eh) : Option XS :=
 (ob (Nk a0) fun r1 =>
 (cond (!r1.1)
 (some ([], ()))
 (ob (VA a1) fun r2 =>
 (cond (!r2.1)
 (some ([], ()))
 (ob (Ae a0) fun r3 =>
 (ob (Sn (((), [], [], a1, ((ln a1 : Nat) : Int), 0, ()), (r3.1, ()))) (se (fun y32 => (some (y32.1.1, ()))) (fun z33 => none))))))))
def Th (a0 : Gb) (a1 : Int) (a2 : Bool) : Option (Gb × XS) :=
 (ob (Gl a0) fun r1 =>
 (ob (Zw a0.2.2.1 a0.2.2.2.1) fun r2 =>
 (ob (AB a0.1 r2.1 a1) fun r3 =>
 (ob (Ab a0.1.2.1 r3.1) fun x4 =>
 (ob (Ab x4 a1) fun x5 =>
 (cond a2
 (ob (YL x5) fun r6 =>
 (ob (Gr r1.1 r6.1) fun r7 =>
 (cond (bl (ln r7.1.2.2.2.1 + ln ([(a1, r7.2.1, ())] : List Pa)) Ta)
 (cond (r7.2.1.1 == 9)
 (cond (decide (r7.2.1.2.2.2.1 < ((ln a0.2.1 : Nat) : Int)))
 (ob (Ab a0.2.1 r7.2.1.2.2.2.1) fun x8 =>
 (ob (Oj (ap r7.1.2.2.2.1 ([(a1, r7.2.1, ())] : List Pa)) x8) fun r9 =>
 (ob (Ae (ap r7.1.2.2.2.1 ([(a1, r7.2.1, ())] : List Pa))) fun r10 =>
 (cond (bl (ln r9.1 + ln ([r10.1] : List Ha)) Ta)
 (ob (Ae a0.2.2.2.1) fun r11 =>
 (ob (Ve r11.1 (ap r9.1 ([r10.1] : List Ha))) fun r12 =>
 (some ((r7.1.1, r7.1.2.1, r7.1.2.2.1, (ap r7.1.2.2.2.1 ([(a1, r7.2.1, ())] : List Pa)), r7.1.2.2.2.2), r12.1, ()))))
 none))))
 (ob (Ae (ap r7.1.2.2.2.1 ([(a1, r7.2.1, ())] : List Pa))) fun r13 =>
 (cond (bl (ln ([] : List Ha) + ln ([r13.1] : List Ha)) Ta)
 (ob (Ae a0.2.2.2.1) fun r14 =>
 (ob (Ve r14.1 (ap [] ([r13.1] : List Ha))) fun r15 =>
 (some ((r7.1.1, r7.1.2.1, r7.1.2.2.1, (ap r7.1.2.2.2.1 ([(a1, r7.2.1, ())] : List Pa)), r7.1.2.2.2.2), r15.1, ()))))
 none)))
 (ob (Ae (ap r7.1.2.2.2.1 ([(a1, r7.2.1, ())] : List Pa))) fun r16 =>
 (cond (bl (ln ([] : List Ha) + ln ([r16.1] : List Ha)) Ta)
 (ob (Ae a0.2.2.2.1) fun r17 =>
 (ob (Ve r17.1 (ap [] ([r16.1] : List Ha))) fun r18 =>
 (some ((r7.1.1, r7.1.2.1, r7.1.2.2.1, (ap r7.1.2.2.2.1 ([(a1, r7.2.1, ())] : List Pa)), r7.1.2.2.2.2), r18.1, ()))))
 none)))
 none)))
 (ob (AO x5) fun r19 =>
 (ob (Gr r1.1 r19.1) fun r20 =>
 (cond (bl (ln r20.1.2.2.2.1 + ln ([(a1, r20.2.1, ())] : List Pa)) Ta)
 (cond (r20.2.1.1 == 9)
 (cond (decide (r20.2.1.2.2.2.1 < ((ln a0.2.1 : Nat) : Int)))
 (ob (Ab a0.2.1 r20.2.1.2.2.2.1) fun x21 =>
 (ob (Oj (ap r20.1.2.2.2.1 ([(a1, r20.2.1, ())] : List Pa)) x21) fun r22 =>
 (ob (Ae (ap r20.1.2.2.2.1 ([(a1, r20.2.1, ())] : List Pa))) fun r23 =>
 (cond (bl (ln r22.1 + ln ([r23.1] : List Ha)) Ta)
 (ob (Ae a0.2.2.2.1) fun r24 =>
 (ob (Ve r24.1 (ap r22.1 ([r23.1] : List Ha))) fun r25 =>
 (some ((r20.1.1, r20.1.2.1, r20.1.2.2.1, (ap r20.1.2.2.2.1 ([(a1, r20.2.1, ())] : List Pa)), r20.1.2.2.2.2), r25.1, ()))))
 none))))
 (ob (Ae (ap r20.1.2.2.2.1 ([(a1, r20.2.1, ())] : List Pa))) fun r26 =>
 (cond (bl (ln ([] : List Ha) + ln ([r26.1] : List Ha)) Ta)
 (ob (Ae a0.2.2.2.1) fun r27 =>
 (ob (Ve r27.1 (ap [] ([r26.1] : List Ha))) fun r28 =>
 (some ((r20.1.1, r20.1.2.1, r20.1.2.2.1, (ap r20.1.2.2.2.1 ([(a1, r20.2.1, ())] : List Pa)), r20.1.2.2.2.2), r28.1, ()))))
 none)))
 (ob (Ae (ap r20.1.2.2.2.1 ([(a1, r20.2.1, ())] : List Pa))) fun r29 =>
 (cond (bl (ln ([] : List Ha) + ln ([r29.1] : List Ha)) Ta)
 (ob (Ae a0.2.2.2.1) fun r30 =>
 (ob (Ve r30.1 (ap [] ([r29.1] : List Ha))) fun r31 =>
 (some ((r20.1.1, r20.1.2.1, r20.1.2.2.1, (ap r20.1.2.2.2.1 ([(a1, r20.2.1, ())] : List Pa)), r20.1.2.2.2.2), r31.1, ()))))
 none)))
 none)))))))))
def Rh (a0 : Hb) : Option (Hb × Qao) :=
 (cond (Xe (ln a0.2.2.1) 0)
 (ob a0.2.2.1[(tn 0)]? fun x1 =>
 (cond (Md (ln a0.2.2.1) 1 ((ln a0.2.2.1 : Nat) : Int))
 (cond (!x1.2.2.1)
 (cond (a0.2.2.2.2.2.1 == (wr .i64 (x1.2.1 + 1)))
 (ob (DB a0.1 x1.2.1) fun r2 =>
 (cond (bl (ln ([] : List Ca) + ln (Eb a0.2.2.1 (tn 1) (tn ((ln a0.2.2.1 : Nat) : Int)))) Ta)
 (some ((r2.1, a0.2.1, (ap [] (Eb a0.2.2.1 (tn 1) (tn ((ln a0.2.2.1 : Nat) : Int)))), a0.2.2.2.1, (max a0.2.2.2.2.1 x1.1), a0.2.2.2.2.2.1, x1.1, a0.2.2.2.2.2.2.2), (r2.2.1, true, ())))
 none))
 (ob (DB a0.1 x1.2.1) fun r3 =>
 (cond (bl (ln ([] : List Ca) + ln (Eb a0.2.2.1 (tn 1) (tn ((ln a0.2.2.1 : Nat) : Int)))) Ta)
 (some ((r3.1, a0.2.1, (ap [] (Eb a0.2.2.1 (tn 1) (tn ((ln a0.2.2.1 : Nat) : Int)))), a0.2.2.2.1, (max a0.2.2.2.2.1 x1.1), a0.2.2.2.2.2), (r3.2.1, true, ())))
 none)))
 (ob (Zw a0.1.2.2.1 a0.1.2.2.2.1) fun r4 =>
 (ob (OF a0.1.1 r4.1 x1.2.1) fun r5 =>
 (ob (Gn r5.1) fun r6 =>
 (cond r6.1
 (cond (a0.2.2.2.2.2.1 != (wr .i64 (x1.2.1 + 1)))
 (ob (Vw a0.2.1 x1.2.1 x1.1 (Eb a0.2.2.1 (tn 1) (tn ((ln a0.2.2.1 : Nat) : Int))) a0.2.2.2.1) fun r7 =>
 (cond (r7.1 == 0)
 (some (a0, ([], false, ())))
 (cond (r7.1 == 1)
 (ob (Th a0.1 x1.2.1 false) fun r8 =>
 (cond (bl (ln ([] : List Ca) + ln (Eb a0.2.2.1 (tn 1) (tn ((ln a0.2.2.1 : Nat) : Int)))) Ta)
 (some ((r8.1, a0.2.1, (ap [] (Eb a0.2.2.1 (tn 1) (tn ((ln a0.2.2.1 : Nat) : Int)))), a0.2.2.2.1, (max (max a0.2.2.2.2.1 x1.1) r7.2.1), (wr .i64 (x1.2.1 + 1)), x1.1, a0.2.2.2.2.2.2.2), (r8.2.1, true, ())))
 none))
 (cond (r7.1 == 2)
 (ob (Th a0.1 x1.2.1 true) fun r9 =>
 (cond (bl (ln ([] : List Ca) + ln (Eb a0.2.2.1 (tn 1) (tn ((ln a0.2.2.1 : Nat) : Int)))) Ta)
 (some ((r9.1, a0.2.1, (ap [] (Eb a0.2.2.1 (tn 1) (tn ((ln a0.2.2.1 : Nat) : Int)))), a0.2.2.2.1, (max (max a0.2.2.2.2.1 x1.1) r7.2.1), 0, a0.2.2.2.2.2.2), (r9.2.1, true, ())))
 none))
 (ob (Th a0.1 x1.2.1 false) fun r10 =>
 (cond (bl (ln ([] : List Ca) + ln (Eb a0.2.2.1 (tn 1) (tn ((ln a0.2.2.1 : Nat) : Int)))) Ta)
 (some ((r10.1, a0.2.1, (ap [] (Eb a0.2.2.1 (tn 1) (tn ((ln a0.2.2.1 : Nat) : Int)))), a0.2.2.2.1, (max (max a0.2.2.2.2.1 x1.1) r7.2.1), a0.2.2.2.2.2), (r10.2.1, true, ())))
 none))))))
 (cond (decide ((wr .i64 (x1.1 - a0.2.2.2.2.2.2.1)) ≥ a0.2.1.2.1))
 (ob (Vw a0.2.1 x1.2.1 x1.1 (Eb a0.2.2.1 (tn 1) (tn ((ln a0.2.2.1 : Nat) : Int))) a0.2.2.2.1) fun r11 =>
 (cond (r11.1 == 0)
 (some (a0, ([], false, ())))
 (cond (r11.1 == 1)
 (ob (Th a0.1 x1.2.1 false) fun r12 =>
 (cond (bl (ln ([] : List Ca) + ln (Eb a0.2.2.1 (tn 1) (tn ((ln a0.2.2.1 : Nat) : Int)))) Ta)
 (some ((r12.1, a0.2.1, (ap [] (Eb a0.2.2.1 (tn 1) (tn ((ln a0.2.2.1 : Nat) : Int)))), a0.2.2.2.1, (max (max a0.2.2.2.2.1 x1.1) r11.2.1), (wr .i64 (x1.2.1 + 1)), x1.1, a0.2.2.2.2.2.2.2), (r12.2.1, true, ())))
 none))
 (cond (r11.1 == 2)
 (ob (Th a0.1 x1.2.1 true) fun r13 =>
 (cond (bl (ln ([] : List Ca) + ln (Eb a0.2.2.1 (tn 1) (tn ((ln a0.2.2.1 : Nat) : Int)))) Ta)
 (some ((r13.1, a0.2.1, (ap [] (Eb a0.2.2.1 (tn 1) (tn ((ln a0.2.2.1 : Nat) : Int)))), a0.2.2.2.1, (max (max a0.2.2.2.2.1 x1.1) r11.2.1), 0, a0.2.2.2.2.2.2), (r13.2.1, true, ())))
 none))
 (ob (Th a0.1 x1.2.1 false) fun r14 =>
 (cond (bl (ln ([] : List Ca) + ln (Eb a0.2.2.1 (tn 1) (tn ((ln a0.2.2.1 : Nat) : Int)))) Ta)
 (some ((r14.1, a0.2.1, (ap [] (Eb a0.2.2.1 (tn 1) (tn ((ln a0.2.2.1 : Nat) : Int)))), a0.2.2.2.1, (max (max a0.2.2.2.2.1 x1.1) r11.2.1), a0.2.2.2.2.2), (r14.2.1, true, ())))
 none))))))
 (cond ((1 : Int) == 0)
 (some (a0, ([], false, ())))
 (cond ((1 : Int) == 1)
 (ob (Th a0.1 x1.2.1 false) fun r15 =>
 (cond (bl (ln ([] : List Ca) + ln (Eb a0.2.2.1 (tn 1) (tn ((ln a0.2.2.1 : Nat) : Int)))) Ta)
 (some ((r15.1, a0.2.1, (ap [] (Eb a0.2.2.1 (tn 1) (tn ((ln a0.2.2.1 : Nat) : Int)))), a0.2.2.2.1, (max (max a0.2.2.2.2.1 x1.1) x1.1), (wr .i64 (x1.2.1 + 1)), x1.1, a0.2.2.2.2.2.2.2), (r15.2.1, true, ())))
 none))
 (cond ((1 : Int) == 2)
 (ob (Th a0.1 x1.2.1 true) fun r16 =>
 (cond (bl (ln ([] : List Ca) + ln (Eb a0.2.2.1 (tn 1) (tn ((ln a0.2.2.1 : Nat) : Int)))) Ta)
 (some ((r16.1, a0.2.1, (ap [] (Eb a0.2.2.1 (tn 1) (tn ((ln a0.2.2.1 : Nat) : Int)))), a0.2.2.2.1, (max (max a0.2.2.2.2.1 x1.1) x1.1), 0, a0.2.2.2.2.2.2), (r16.2.1, true, ())))
 none))
 (ob (Th a0.1 x1.2.1 false) fun r17 =>
 (cond (bl (ln ([] : List Ca) + ln (Eb a0.2.2.1 (tn 1) (tn ((ln a0.2.2.1 : Nat) : Int)))) Ta)
 (some ((r17.1, a0.2.1, (ap [] (Eb a0.2.2.1 (tn 1) (tn ((ln a0.2.2.1 : Nat) : Int)))), a0.2.2.2.1, (max (max a0.2.2.2.2.1 x1.1) x1.1), a0.2.2.2.2.2), (r17.2.1, true, ())))
 none)))))))
 (ob (Th a0.1 x1.2.1 false) fun r18 =>
 (cond (bl (ln ([] : List Ca) + ln (Eb a0.2.2.1 (tn 1) (tn ((ln a0.2.2.1 : Nat) : Int)))) Ta)
 (some ((r18.1, a0.2.1, (ap [] (Eb a0.2.2.1 (tn 1) (tn ((ln a0.2.2.1 : Nat) : Int)))), a0.2.2.2.1, (max a0.2.2.2.2.1 x1.1), a0.2.2.2.2.2), (r18.2.1, true, ())))
 none)))))))
 none))
 none)
def SF (t0 : Ug) (t1 : Int) (t9 : (Xj × Int)) (t10 : Int) (t11 : Int) : Option (((Ug × (Int × ((Xj × Int) × Va))) × Unit) ⊕ (((Ug × Unit) × Unit) ⊕ De)) :=
 (cond (decide (t11 < t10))
 (cond (Xe (ln t9.1) t11)
 (cond (Nat.beq (tn t11) (tn t9.2))
 (ob t9.1[(tn t11)]? fun x4 =>
 (cond (bl (ln t0 + ln ([(t1, x4, ())] : List Lf)) Ta)
 (some (.inl (((ap t0 ([(t1, x4, ())] : List Lf)), t1, (t9.1, ((((tn t11) + 1) : Nat) : Int)), t10, (wr .i64 (t11 + 1)), ()), ())))
 none))
 none)
 none)
 (some (.inr (.inl ((t0, ()), ())))))
def ZG := Ua fun x : ((Ug × (Int × ((Xj × Int) × Va))) × Unit) => SF x.1.1 x.1.2.1 x.1.2.2.1 x.1.2.2.2.1 x.1.2.2.2.2.1
def QM (a0 : Ug) (a1 : Int) (a2 : Xj) : Option (Ug × Unit) :=
 (ob (ZG ((a0, a1, (a2, 0), ((ln a2 : Nat) : Int), 0, ()), ())) (se (fun y5 => (some (y5.1.1, ()))) (fun z6 => none)))
def Fh (t6 : Unit) (t9 : Unit) (t10 : Ug) (b6 : Hb) (b9 : Hb) : Option (Uao ⊕ (Uao ⊕ De)) :=
 (cond (decide (((ln b9.2.2.1 : Nat) : Int) > 0))
 (ob (Rh b9) fun r25 =>
 (cond (!r25.2.2.1)
 (some (.inr (.inl (((), (), t10, ()), (b6, r25.1, ())))))
 (ob (QM t10 r25.1.2.2.2.2.1 r25.2.1) fun r26 =>
 (some (.inl (((), (), r26.1, ()), (b6, r25.1, ())))))))
 (some (.inr (.inl (((), (), t10, ()), (b6, b9, ()))))))
def Hg := Ua fun x : Uao => Fh x.1.1 x.1.2.1 x.1.2.2.1 x.2.1 x.2.2.1
def Wy (a0 : Hb) (a1 : Qd) (a2 : Int) : Option (Hb × (Ug × Rc)) :=
 (ob (Lt a0) fun r1 =>
 (cond (!r1.1)
 (some ((((0, [], ()), [], 0, [], 0, false, ()), (0, 0, 0, ()), [], 0, 0, 0, 0, ()), [], false, ()))
 (cond (decide (a2 < a0.2.2.2.1))
 (some ((((0, [], ()), [], 0, [], 0, false, ()), (0, 0, 0, ()), [], 0, 0, 0, 0, ()), [], false, ()))
 (cond (decide (a2 > 1000000))
 (some ((((0, [], ()), [], 0, [], 0, false, ()), (0, 0, 0, ()), [], 0, 0, 0, 0, ()), [], false, ()))
 (cond (decide (((ln a1 : Nat) : Int) > 0))
 (ob (Ab a1 0) fun x2 =>
 (cond (decide (x2.1 < a0.2.2.2.1))
 (some ((((0, [], ()), [], 0, [], 0, false, ()), (0, 0, 0, ()), [], 0, 0, 0, 0, ()), [], false, ()))
 (ob (Sh a1 a2) fun r3 =>
 (cond (!r3.1)
 (some ((((0, [], ()), [], 0, [], 0, false, ()), (0, 0, 0, ()), [], 0, 0, 0, 0, ()), [], false, ()))
 (ob (Tn a0) fun r4 =>
 (cond (bl (ln r4.1.2.2.1 + ln a1) Ta)
 (ob (Sl a0.1.2.2.2.1) fun r5 =>
 (ob (Uh (ap r4.1.2.2.1 a1) r5.1 a0.1.1.1) fun r6 =>
 (cond (!r6.1)
 (some ((((0, [], ()), [], 0, [], 0, false, ()), (0, 0, 0, ()), [], 0, 0, 0, 0, ()), [], false, ()))
 (ob (Hg (((), (), [], ()), ((((0, [], ()), [], 0, [], 0, false, ()), (0, 0, 0, ()), [], 0, 0, 0, 0, ()), (r4.1.1, r4.1.2.1, (ap r4.1.2.2.1 a1), a2, r4.1.2.2.2.2), ()))) (se (fun y15 => (some (y15.2.2.1, y15.1.2.2.1, true, ()))) (fun z16 => none))))))
 none))))))
 (ob (Sh a1 a2) fun r17 =>
 (cond (!r17.1)
 (some ((((0, [], ()), [], 0, [], 0, false, ()), (0, 0, 0, ()), [], 0, 0, 0, 0, ()), [], false, ()))
 (ob (Tn a0) fun r18 =>
 (cond (bl (ln r18.1.2.2.1 + ln a1) Ta)
 (ob (Sl a0.1.2.2.2.1) fun r19 =>
 (ob (Uh (ap r18.1.2.2.1 a1) r19.1 a0.1.1.1) fun r20 =>
 (cond (!r20.1)
 (some ((((0, [], ()), [], 0, [], 0, false, ()), (0, 0, 0, ()), [], 0, 0, 0, 0, ()), [], false, ()))
 (ob (Hg (((), (), [], ()), ((((0, [], ()), [], 0, [], 0, false, ()), (0, 0, 0, ()), [], 0, 0, 0, 0, ()), (r18.1.1, r18.1.2.1, (ap r18.1.2.2.1 a1), a2, r18.1.2.2.2.2), ()))) (se (fun y27 => (some (y27.2.2.1, y27.1.2.2.1, true, ()))) (fun z28 => none))))))
 none)))))))))
def AG (a0 : Qc) (a1 : Qc) : Option Rc :=
 (cond (a0.1 != a1.1)
 (some (false, ()))
 (cond (a0.2.1 != a1.2.1)
 (some (false, ()))
 (cond (a0.2.2.1 != a1.2.2.1)
 (some (false, ()))
 (some (true, ())))))
def FM (a0 : Bb) : Option FI :=
 (ob (Fk a0) fun r1 =>
 (cond (!r1.1)
 (some (a0, ()))
 (cond (a0.1 == 6)
 (some ((2, 0, a0.2.2.1, 0, ()), ()))
 (some ((3, 0, 0, a0.2.2.2.1, ()), ())))))
def VP (t1 : Int) (t2 : Int) (t3 : Unit) (t7 : Int) (b3 : Sb) : Option (X9 ⊕ YS) :=
 (cond (decide (t7 > 0))
 (cond (decide (0 ≤ t7))
 (cond ((Wa .i64 (Yb .i64 t1 t7) 1) == 1)
 (ob (Ab b3.2.1 t7) fun x7 =>
 (ob (Ab x7 t2) fun x8 =>
 (cond (x8.1 != 1)
 (some (.inr (.inr ((t7, ()), ()))))
 (some (.inl ((t1, t2, (), (wr .i64 (t7 - 1)), ()), (b3, ())))))))
 (some (.inl ((t1, t2, (), (wr .i64 (t7 - 1)), ()), (b3, ())))))
 none)
 (some (.inr (.inl ((), ())))))
def Ii := Ua fun x : X9 => VP x.1.1 x.1.2.1 x.1.2.2.1 x.1.2.2.2.1 x.2.1
def VJ (a0 : Sb) (a1 : Int) (a2 : Int) : Option Lc :=
 (ob (Kx a0) fun r1 =>
 (cond (!r1.1)
 (some ((-1), ()))
 (ob (Ac a2 0 (wr .i64 (a0.1 - 1))) fun r2 =>
 (cond (!r2.1)
 (some ((-1), ()))
 (ob (Ii ((a1, a2, (), (wr .i64 (((ln a0.2.1 : Nat) : Int) - 1)), ()), (a0, ()))) (se (fun y9 => (some (0, ()))) (fun z10 => (some (z10.1.1, ())))))))))
def Ix (a0 : Sb) (a1 : Int) (a2 : Int) : Option FI :=
 (ob (VJ a0 a1 a2) fun r1 =>
 (cond (decide (r1.1 < 0))
 (some ((0, 0, 0, 0, ()), ()))
 (ob (Ab a0.2.1 r1.1) fun x2 =>
 (ob (Ab x2 a2) fun x3 =>
 (some (x3, ()))))))
def Qm (t0 : Tk) (t1 : Int) (t5 : Int) : Option (Gaa ⊕ (((Tk × Lc) × Unit) ⊕ De)) :=
 (cond (decide (t5 < ((ln t0 : Nat) : Int)))
 (cond (Xe (ln t0) t5)
 (ob t0[(tn t5)]? fun x9 =>
 (cond (Xe (ln (ls t0 (tn t5) (t1, x9.2))) t5)
 (ob (ls t0 (tn t5) (t1, x9.2))[(tn t5)]? fun x10 =>
 (cond (Xe (ln (ls (ls t0 (tn t5) (t1, x9.2)) (tn t5) (x10.1, (wr .i64 (t1 + 1)), x10.2.2))) t5)
 (ob (ls (ls t0 (tn t5) (t1, x9.2)) (tn t5) (x10.1, (wr .i64 (t1 + 1)), x10.2.2))[(tn t5)]? fun x11 =>
 (cond (Xe (ln (ls (ls (ls t0 (tn t5) (t1, x9.2)) (tn t5) (x10.1, (wr .i64 (t1 + 1)), x10.2.2)) (tn t5) (x11.1, x11.2.1, (wr .i64 ((wr .i64 (t1 + 1)) + 1)), x11.2.2.2))) t5)
 (ob (ls (ls (ls t0 (tn t5) (t1, x9.2)) (tn t5) (x10.1, (wr .i64 (t1 + 1)), x10.2.2)) (tn t5) (x11.1, x11.2.1, (wr .i64 ((wr .i64 (t1 + 1)) + 1)), x11.2.2.2))[(tn t5)]? fun x12 =>
 (some (.inl (((ls (ls (ls (ls t0 (tn t5) (t1, x9.2)) (tn t5) (x10.1, (wr .i64 (t1 + 1)), x10.2.2)) (tn t5) (x11.1, x11.2.1, (wr .i64 ((wr .i64 (t1 + 1)) + 1)), x11.2.2.2)) (tn t5) (x12.1, x12.2.1, x12.2.2.1, (wr .i64 ((wr .i64 ((wr .i64 (t1 + 1)) + 1)) + 1)), x12.2.2.2.2)), (wr .i64 ((wr .i64 ((wr .i64 ((wr .i64 (t1 + 1)) + 1)) + 1)) + 1)), (wr .i64 (t5 + 1)), ()), ()))))
 none))
 none))
 none))
 none)
 (some (.inr (.inl ((t0, t1, ()), ())))))
def ND := Ua fun x : Gaa => Qm x.1.1 x.1.2.1 x.1.2.2.1
def DH (a0 : Tk) (a1 : Int) : Option (Tk × Lc) :=
 (ob (ND ((a0, a1, 0, ()), ())) (se (fun y13 => (some (y13.1.1, (y13.1.2.1, ())))) (fun z14 => none)))
def Ll (t0 : Pi) (t1 : Int) (t5 : Int) : Option ((DI × Unit) ⊕ (((Pi × Lc) × Unit) ⊕ De)) :=
 (cond (decide (t5 < ((ln t0 : Nat) : Int)))
 (cond (Xe (ln t0) t5)
 (ob t0[(tn t5)]? fun x5 =>
 (ob (DH x5 t1) fun r6 =>
 (some (.inl (((ls t0 (tn t5) r6.1), r6.2.1, (wr .i64 (t5 + 1)), ()), ())))))
 none)
 (some (.inr (.inl ((t0, t1, ()), ())))))
def KB := Ua fun x : (DI × Unit) => Ll x.1.1 x.1.2.1 x.1.2.2.1
def AE (a0 : Pi) (a1 : Int) : Option (Pi × Lc) :=
 (ob (KB ((a0, a1, 0, ()), ())) (se (fun y7 => (some (y7.1.1, (y7.1.2.1, ())))) (fun z8 => none)))
def Nz (a0 : Sb) (a1 : Int) : Option (Sb × Lc) :=
 (ob (AE a0.2.1 a1) fun r1 =>
 (some ((a0.1, r1.1, ()), (r1.2.1, ()))))
def FA (t1 : Unit) (t2 : Unit) (t3 : Unit) (t4 : Int) (b1 : Sb) (b2 : Sb) (b3 : Sb) : Option ((PX × (Sb × QX)) ⊕ ((EQ × QX) ⊕ De)) :=
 (cond (decide (t4 < ((ln b1.2.1 : Nat) : Int)))
 (ob (Ab b1.2.1 t4) fun x4 =>
 (cond (bl (ln ([] : List Bb) + ln x4) Ta)
 (cond (bl (ln b3.2.1 + ln ([(ap [] x4)] : List Tk)) Ta)
 (some (.inl (((), (), (), (wr .i64 (t4 + 1)), ()), (b1, b2, (b3.1, (ap b3.2.1 ([(ap [] x4)] : List Tk)), ()), ()))))
 none)
 none))
 (some (.inr (.inl (((), (), ()), (b2, b3, ()))))))
def DC := Ua fun x : (PX × (Sb × QX)) => FA x.1.1 x.1.2.1 x.1.2.2.1 x.1.2.2.2.1 x.2.1 x.2.2.1 x.2.2.2.1
def HM (a0 : Sb) : Option Ur :=
 (ob (DC (((), (), (), 0, ()), (a0, (0, [], ()), (a0.1, [], ()), ()))) (se (fun y5 => (some (y5.2.2.1, ()))) (fun z6 => none)))
def Vz (t0 : Ud) (t3 : Int) (t4 : Int) : Option (DQ ⊕ Jk) :=
 (cond (decide (t4 < ((ln t0 : Nat) : Int)))
 (ob (Ab t0 t4) fun x15 =>
 (ob (Ab t0 t4) fun x16 =>
 (ob (Ac x16.1 0 31) fun r17 =>
 (cond (!r17.1)
 (some (.inr (.inr ((false, ()), ()))))
 (ob (Ab t0 t4) fun x18 =>
 (cond (decide (0 ≤ x18.1))
 (cond ((Wa .i64 (Yb .i64 t3 x18.1) 1) == 1)
 (some (.inr (.inr ((false, ()), ()))))
 (ob (Uj x15.2.1) fun r19 =>
 (cond (!r19.1)
 (some (.inr (.inr ((false, ()), ()))))
 (cond (x15.2.1.1 == 1)
 (some (.inr (.inr ((false, ()), ()))))
 (ob (Fk x15.2.1) fun r20 =>
 (cond r20.1
 (some (.inr (.inr ((false, ()), ()))))
 (ob (Ab t0 t4) fun x21 =>
 (cond (decide (0 ≤ x21.1))
 (some (.inl ((t0, (Oc .i64 t3 (Sa .i64 1 x21.1)), (wr .i64 (t4 + 1)), ()), ())))
 none))))))))
 none))))))
 (some (.inr (.inl ((), ())))))
def TB := Ua fun x : DQ => Vz x.1.1 x.1.2.1 x.1.2.2.1
def Jr (a0 : Ud) : Option Rc :=
 (ob (TB ((a0, 0, 0, ()), ())) (se (fun y22 => (some (true, ()))) (fun z23 => (some (z23.1.1, ())))))
def HA (t0 : Ud) (t3 : Unit) (t5 : Int) (b3 : Qc) : Option (((Ud × Kk) × LC) ⊕ YS) :=
 (cond (decide (t5 < ((ln t0 : Nat) : Int)))
 (ob (Ab t0 t5) fun x5 =>
 (cond (x5.2.1.2.1 == b3.2.1)
 (ob (Ab t0 t5) fun x6 =>
 (cond (x6.2.1.2.2.1 == b3.2.2.1)
 (some (.inr (.inr ((t5, ()), ()))))
 (some (.inl ((t0, (), (wr .i64 (t5 + 1)), ()), (b3, ()))))))
 (some (.inl ((t0, (), (wr .i64 (t5 + 1)), ()), (b3, ()))))))
 (some (.inr (.inl ((), ())))))
def EC := Ua fun x : ((Ud × Kk) × LC) => HA x.1.1 x.1.2.1 x.1.2.2.1 x.2.1
def Dn (a0 : Ud) (a1 : Qc) : Option Lc :=
 (ob (EC ((a0, (), 0, ()), (a1, ()))) (se (fun y7 => (some ((-1), ()))) (fun z8 => (some (z8.1.1, ())))))
def Jp (a0 : Qc) : Option FI :=
 (some ((2, a0.2.1, a0.2.2.1, 0, ()), ()))
def Eg (a0 : Ud) (a1 : Int) : Option (Ud × Unit) :=
 (cond (Md (ln a0) 0 a1)
 (cond (bl (ln ([] : List Pa) + ln (Eb a0 (tn 0) (tn a1))) Ta)
 (cond (Md (ln a0) (wr .i64 (a1 + 1)) ((ln a0 : Nat) : Int))
 (cond (bl (ln (ap [] (Eb a0 (tn 0) (tn a1))) + ln (Eb a0 (tn (wr .i64 (a1 + 1))) (tn ((ln a0 : Nat) : Int)))) Ta)
 (some ((ap (ap [] (Eb a0 (tn 0) (tn a1))) (Eb a0 (tn (wr .i64 (a1 + 1))) (tn ((ln a0 : Nat) : Int)))), ()))
 none)
 none)
 none)
 none)
def Co (t0 : Eh) (t3 : Ud) (t4 : Int) : Option (((Eh × (Ud × Lc)) × Unit) ⊕ (((Eh × (Ud × Unit)) × Unit) ⊕ Al)) :=
 (cond (decide (t4 < ((ln t0 : Nat) : Int)))
 (ob (Ab t0 t4) fun x15 =>
 (ob (Dn t3 x15) fun r16 =>
 (ob (Ac x15.1 0 2) fun r17 =>
 (cond (!r17.1)
 (some (.inr (.inr ((false, ()), ()))))
 (ob (Jp x15) fun r18 =>
 (ob (Uj r18.1) fun r19 =>
 (cond (!r19.1)
 (some (.inr (.inr ((false, ()), ()))))
 (cond ((x15.1 == 2) != (decide (r16.1 ≥ 0)))
 (some (.inr (.inr ((false, ()), ()))))
 (cond (x15.1 == 1)
 (ob (Jp x15) fun r20 =>
 (cond (bl (ln t3 + ln ([(0, r20.1, ())] : List Pa)) Ta)
 (some (.inl ((t0, (ap t3 ([(0, r20.1, ())] : List Pa)), (wr .i64 (t4 + 1)), ()), ())))
 none))
 (cond (x15.1 == 2)
 (ob (Eg t3 r16.1) fun r21 =>
 (some (.inl ((t0, r21.1, (wr .i64 (t4 + 1)), ()), ()))))
 (some (.inl ((t0, t3, (wr .i64 (t4 + 1)), ()), ())))))))))))))
 (some (.inr (.inl ((t0, t3, ()), ())))))
def Iy := Ua fun x : ((Eh × (Ud × Lc)) × Unit) => Co x.1.1 x.1.2.1 x.1.2.2.1
def UB (a0 : Eh) : Option Rc :=
 (ob (Iy ((a0, [], 0, ()), ())) (se (fun y22 => (cond (decide (((ln y22.1.1 : Nat) : Int) ≤ 8))
 (some ((((ln y22.1.2.1 : Nat) : Int) == 0), ()))
 (some (false, ())))) (fun z23 => (some (z23.1.1, ())))))
def Ss (t1 : Unit) (t3 : Int) (b1 : Gb) : Option ((Kk × Zk) ⊕ ((De × Zk) ⊕ Al)) :=
 (cond (decide (t3 < ((ln b1.2.1 : Nat) : Int)))
 (ob (Ab b1.2.1 t3) fun x7 =>
 (ob (UB x7) fun r8 =>
 (cond (!r8.1)
 (some (.inr (.inr ((false, ()), ()))))
 (some (.inl (((), (wr .i64 (t3 + 1)), ()), (b1, ())))))))
 (some (.inr (.inl (((), ()), (b1, ()))))))
def Um := Ua fun x : (Kk × Zk) => Ss x.1.1 x.1.2.1 x.2.1
def Ts (t1 : Unit) (t4 : Int) (b1 : Gb) : Option ((Kk × Zk) ⊕ ((De × Zk) ⊕ Al)) :=
 (cond (decide (t4 < ((ln b1.2.2.2.1 : Nat) : Int)))
 (ob (Ab b1.2.2.2.1 t4) fun x17 =>
 (cond (decide (x17.1 ≥ b1.1.1))
 (some (.inr (.inr ((false, ()), ()))))
 (ob (Ab b1.2.2.2.1 t4) fun x18 =>
 (cond (x18.2.1.1 != 9)
 (ob (Ab b1.2.2.2.1 t4) fun x19 =>
 (cond (decide (x19.2.1.2.2.2.1 ≥ ((ln b1.1.2.1 : Nat) : Int)))
 (some (.inr (.inr ((false, ()), ()))))
 (some (.inl (((), (wr .i64 (t4 + 1)), ()), (b1, ()))))))
 (some (.inl (((), (wr .i64 (t4 + 1)), ()), (b1, ()))))))))
 (some (.inr (.inl (((), ()), (b1, ()))))))
def Vm := Ua fun x : (Kk × Zk) => Ts x.1.1 x.1.2.1 x.2.1
def Ip (a0 : Gb) : Option Rc :=
 (ob (Kx a0.1) fun r1 =>
 (cond (!r1.1)
 (some (false, ()))
 (cond (decide (((ln a0.2.1 : Nat) : Int) > 4))
 (some (false, ()))
 (ob (Jr a0.2.2.2.1) fun r2 =>
 (cond (!r2.1)
 (some (false, ()))
 (ob (Um (((), 0, ()), (a0, ()))) (se (fun y9 => (ob (Vm (((), 0, ()), (y9.2.1, ()))) (se (fun y20 => (cond (decide (0 ≤ ((ln y20.2.1.1.2.1 : Nat) : Int)))
 (ob (Ac y20.2.1.2.2.1 0 (wr .i64 ((Sa .i64 1 ((ln y20.2.1.1.2.1 : Nat) : Int)) - 1))) fun r22 =>
 (cond r22.1
 (cond ((2 : Int) == 0)
 none
 (cond ((Int.tmod y20.2.1.2.2.1 2) == 0)
 (ob (Ac y20.2.1.2.2.2.2.1 0 15) fun r23 =>
 (some (r23.1, ())))
 (some (false, ()))))
 (some (false, ()))))
 none)) (fun z21 => (some (z21.1.1, ())))))) (fun z10 => (some (z10.1.1, ()))))))))))
def IA (t1 : Unit) (t2 : Unit) (t3 : Unit) (t4 : Int) (b1 : Gb) (b2 : Gb) (b3 : Gb) : Option ((PX × (Gb × Pao)) ⊕ (((Unit × EQ) × (Gb × Pao)) ⊕ De)) :=
 (cond (decide (t4 < ((ln b1.2.1 : Nat) : Int)))
 (ob (Ab b1.2.1 t4) fun x4 =>
 (cond (bl (ln ([] : List Qc) + ln x4) Ta)
 (cond (bl (ln b3.2.1 + ln ([(ap [] x4)] : List Eh)) Ta)
 (some (.inl (((), (), (), (wr .i64 (t4 + 1)), ()), (b1, b2, (b3.1, (ap b3.2.1 ([(ap [] x4)] : List Eh)), b3.2.2), ()))))
 none)
 none))
 (some (.inr (.inl (((), (), (), ()), (b1, b2, b3, ()))))))
def FC := Ua fun x : (PX × (Gb × Pao)) => IA x.1.1 x.1.2.1 x.1.2.2.1 x.1.2.2.2.1 x.2.1 x.2.2.1 x.2.2.2.1
def Rr (a0 : Gb) : Option Zk :=
 (ob (HM a0.1) fun r1 =>
 (ob (FC (((), (), (), 0, ()), (a0, ((0, [], ()), [], 0, [], 0, false, ()), (r1.1, [], a0.2.2), ()))) (se (fun y5 => (cond (bl (ln ([] : List Pa) + ln y5.2.1.2.2.2.1) Ta)
 (some ((y5.2.2.2.1.1, y5.2.2.2.1.2.1, y5.2.2.2.1.2.2.1, (ap [] y5.2.1.2.2.2.1), y5.2.2.2.1.2.2.2.2), ()))
 none)) (fun z6 => none))))
def Uz (t1 : Int) (t2 : Unit) (t5 : Int) (b2 : Gb) : Option (((Int × Kk) × Zk) ⊕ YS) :=
 (cond (decide (t5 < ((ln b2.2.2.2.1 : Nat) : Int)))
 (ob (Ab b2.2.2.2.1 t5) fun x3 =>
 (cond (x3.1 == t1)
 (some (.inr (.inr ((t5, ()), ()))))
 (some (.inl ((t1, (), (wr .i64 (t5 + 1)), ()), (b2, ()))))))
 (some (.inr (.inl ((), ())))))
def SB := Ua fun x : ((Int × Kk) × Zk) => Uz x.1.1 x.1.2.1 x.1.2.2.1 x.2.1
def EF (a0 : Gb) (a1 : Int) : Option Lc :=
 (ob (SB ((a1, (), 0, ()), (a0, ()))) (se (fun y4 => (some ((-1), ()))) (fun z5 => (some (z5.1.1, ())))))
def Ws (t1 : Ud) (t5 : Int) (t6 : Int) : Option (DQ ⊕ KC) :=
 (cond (decide (t6 < ((ln t1 : Nat) : Int)))
 (ob (Jr t1) fun r19 =>
 (cond r19.1
 (ob (Ab t1 t6) fun x20 =>
 (cond (x20.2.1.1 == 3)
 (ob (Ab t1 t6) fun x21 =>
 (cond (decide (0 ≤ x21.2.1.2.2.2.1))
 (some (.inl ((t1, (Oc .i64 t5 (Sa .i64 1 x21.2.1.2.2.2.1)), (wr .i64 (t6 + 1)), ()), ())))
 none))
 (some (.inl ((t1, t5, (wr .i64 (t6 + 1)), ()), ())))))
 (some (.inr (.inl ((t5, ()), ()))))))
 (some (.inr (.inl ((t5, ()), ())))))
def Ym := Ua fun x : DQ => Ws x.1.1 x.1.2.1 x.1.2.2.1
def Nx (a0 : Int) (a1 : Ud) : Option Lc :=
 (ob (Ac a0 0 15) fun r1 =>
 (cond r1.1
 (ob (Ym ((a1, (Oc .i64 1 a0), 0, ()), ())) (se (fun y11 => (some (y11.1.1, ()))) (fun z12 => none)))
 (ob (Ym ((a1, 1, 0, ()), ())) (se (fun y22 => (some (y22.1.1, ()))) (fun z23 => none)))))
def Wz (a0 : Int) : Option Rc :=
 (ob (Ac a0 1 36) fun r1 =>
 (cond r1.1
 (some (true, ()))
 (cond (a0 == 39)
 (some (true, ()))
 (some ((a0 == 42), ())))))
def KU (a0 : Gb) (a1 : Bb) : Option (Gb × FI) :=
 (ob (Wz a1.2.1) fun r1 =>
 (cond (!r1.1)
 (some ((a0.1, a0.2.1, a0.2.2.1, a0.2.2.2.1, 0, false, a0.2.2.2.2.2.2), ((a1.1, a1.2.1, (Oc .i64 a1.2.2.1 a0.2.2.2.2.1), a1.2.2.2), ())))
 (cond a0.2.2.2.2.2.1
 (cond (decide (a1.2.1 ≤ 26))
 (cond ((Jb .i64 (Oc .i64 a1.2.2.1 a0.2.2.2.2.1) 2) == 0)
 (some ((a0.1, a0.2.1, a0.2.2.1, a0.2.2.2.1, 0, a0.2.2.2.2.2), ((a1.1, a1.2.1, 2, a1.2.2.2), ())))
 (some ((a0.1, a0.2.1, a0.2.2.1, a0.2.2.2.1, 0, a0.2.2.2.2.2), ((a1.1, a1.2.1, (Oc .i64 a1.2.2.1 a0.2.2.2.2.1), a1.2.2.2), ()))))
 (some ((a0.1, a0.2.1, a0.2.2.1, a0.2.2.2.1, 0, a0.2.2.2.2.2), ((a1.1, a1.2.1, (Oc .i64 a1.2.2.1 a0.2.2.2.2.1), a1.2.2.2), ()))))
 (some ((a0.1, a0.2.1, a0.2.2.1, a0.2.2.2.1, 0, a0.2.2.2.2.2), ((a1.1, a1.2.1, (Oc .i64 a1.2.2.1 a0.2.2.2.2.1), a1.2.2.2), ()))))))
def Xl (a0 : Gb) (a1 : Bb) : Option (Gb × FI) :=
 (cond (a1.1 == 2)
 (cond (decide (a1.2.1 > 0))
 (ob (KU a0 a1) fun r1 =>
 (some (r1.1, (r1.2.1, ()))))
 (some (a0, (a1, ()))))
 (cond (a1.1 == 4)
 (cond (decide (0 ≤ a1.2.2.2.1))
 (some ((a0.1, a0.2.1, (Me .i64 a0.2.2.1 (Sa .i64 1 a1.2.2.2.1)), a0.2.2.2), (a1, ())))
 none)
 (cond (a1.1 == 5)
 (cond (decide (0 ≤ a1.2.2.2.1))
 (some ((a0.1, a0.2.1, (Jb .i64 (Sa .i64 1 a1.2.2.2.1) 1), a0.2.2.2), (a1, ())))
 none)
 (cond (a1.1 == 8)
 (cond ((Wa .i64 a0.2.2.2.2.1 a1.2.2.1) == a1.2.2.1)
 (some ((a0.1, a0.2.1, a0.2.2.1, a0.2.2.2.1, (Jb .i64 a0.2.2.2.2.1 a1.2.2.1), a0.2.2.2.2.2), (a1, ())))
 (some ((a0.1, a0.2.1, a0.2.2.1, a0.2.2.2.1, (Oc .i64 a0.2.2.2.2.1 a1.2.2.1), a0.2.2.2.2.2), (a1, ()))))
 (cond (a1.1 == 10)
 (some ((a0.1, a0.2.1, a0.2.2.1, a0.2.2.2.1, a0.2.2.2.2.1, (!a0.2.2.2.2.2.1), a0.2.2.2.2.2.2), (a1, ())))
 (some (a0, (a1, ()))))))))
def Xs (t0 : Ud) (t2 : Unit) (t3 : Unit) (t4 : Int) (b2 : Ha) (b3 : Ha) : Option (WS ⊕ (((Ud × EQ) × LA) ⊕ De)) :=
 (cond (decide (t4 < ((ln t0 : Nat) : Int)))
 (ob (Ab t0 t4) fun x10 =>
 (cond (x10.2.1.1 == 2)
 (ob (Ab t0 t4) fun x11 =>
 (some (.inl ((t0, (), (), (wr .i64 (t4 + 1)), ()), (b2, ((Oc .i64 b3.1 x11.2.1.2.2.1), b3.2.1, ()), ())))))
 (ob (Ab t0 t4) fun x12 =>
 (cond (x12.2.1.1 == 8)
 (ob (Ab t0 t4) fun x13 =>
 (some (.inl ((t0, (), (), (wr .i64 (t4 + 1)), ()), (b2, ((Oc .i64 b3.1 x13.2.1.2.2.1), b3.2.1, ()), ())))))
 (some (.inl ((t0, (), (), (wr .i64 (t4 + 1)), ()), (b2, b3, ()))))))))
 (some (.inr (.inl ((t0, (), (), ()), (b2, b3, ()))))))
def Ew := Ua fun x : WS => Xs x.1.1 x.1.2.1 x.1.2.2.1 x.1.2.2.2.1 x.2.1 x.2.2.1
def Pq (t0 : Ud) (t2 : Unit) (t3 : Unit) (t5 : Int) (t6 : Int) (b2 : Ha) (b3 : Ha) : Option (((Ud × (Unit × Tu)) × LA) ⊕ (WS ⊕ De)) :=
 (cond (decide (t6 < ((ln t0 : Nat) : Int)))
 (ob (Ab t0 t6) fun x28 =>
 (cond (x28.2.1.2.1 == t5)
 (cond (bl (ln b3.2.1 + ln ([t5] : List Int)) Ta)
 (some (.inr (.inl ((t0, (), (), t5, ()), (b2, (b3.1, (ap b3.2.1 ([t5] : List Int)), ()), ())))))
 none)
 (some (.inl ((t0, (), (), t5, (wr .i64 (t6 + 1)), ()), (b2, b3, ()))))))
 (some (.inr (.inl ((t0, (), (), t5, ()), (b2, b3, ()))))))
def Ol := Ua fun x : ((Ud × (Unit × Tu)) × LA) => Pq x.1.1 x.1.2.1 x.1.2.2.1 x.1.2.2.2.1 x.1.2.2.2.2.1 x.2.1 x.2.2.1
def Oq (t0 : Ud) (t2 : Unit) (t3 : Unit) (t5 : Int) (b2 : Ha) (b3 : Ha) : Option (WS ⊕ ((EQ × LA) ⊕ De)) :=
 (cond (decide (t5 ≤ 56))
 (ob (Ol ((t0, (), (), t5, 0, ()), (b2, b3, ()))) (se (fun y29 => (some (.inl ((y29.1.1, (), (), (wr .i64 (y29.1.2.2.2.1 + 1)), ()), y29.2)))) (fun z30 => (some (.inr (.inr ((), ())))))))
 (some (.inr (.inl (((), (), ()), (b2, b3, ()))))))
def Hu := Ua fun x : WS => Oq x.1.1 x.1.2.1 x.1.2.2.1 x.1.2.2.2.1 x.2.1 x.2.2.1
def Ke (a0 : Ud) : Option PL :=
 (ob (Jr a0) fun r1 =>
 (cond (!r1.1)
 (some ((0, [], ()), ()))
 (ob (Ew ((a0, (), (), 0, ()), ((0, [], ()), (0, [], ()), ()))) (se (fun y14 => (ob (Hu ((y14.1.1, (), (), 1, ()), y14.2)) (se (fun y31 => (some (y31.2.2.1, ()))) (fun z32 => none)))) (fun z15 => none)))))
def Zs (t1 : Ud) (t4 : Unit) (t5 : Unit) (t6 : Int) (b4 : Ha) (b5 : Ha) : Option (WS ⊕ (((Ud × EQ) × LA) ⊕ De)) :=
 (cond (decide (t6 < ((ln t1 : Nat) : Int)))
 (ob (Ab t1 t6) fun x4 =>
 (some (.inl ((t1, (), (), (wr .i64 (t6 + 1)), ()), (b4, ((Oc .i64 b5.1 x4.2.1.2.2.1), b5.2.1, ()), ())))))
 (some (.inr (.inl ((t1, (), (), ()), (b4, b5, ()))))))
def Nw := Ua fun x : WS => Zs x.1.1 x.1.2.1 x.1.2.2.1 x.1.2.2.2.1 x.2.1 x.2.2.1
def Uq (t1 : Ud) (t4 : Unit) (t5 : Unit) (t7 : Mf) (t8 : Int) (t9 : Bool) (t10 : Int) (b4 : Ha) (b5 : Ha) : Option JaC :=
 (cond (decide (t10 < ((ln b5.2.1 : Nat) : Int)))
 (cond t9
 (some (.inl ((t1, (), (), t7, t8, true, (wr .i64 (t10 + 1)), ()), (b4, b5, ()))))
 (cond (Xe (ln b5.2.1) t10)
 (ob b5.2.1[(tn t10)]? fun x29 =>
 (some (.inl ((t1, (), (), t7, t8, (x29 == t8), (wr .i64 (t10 + 1)), ()), (b4, b5, ())))))
 none))
 (some (.inr (.inl ((t1, (), (), t7, t8, t9, ()), (b4, b5, ()))))))
def Pl := Ua fun x : Oao => Uq x.1.1 x.1.2.1 x.1.2.2.1 x.1.2.2.2.1 x.1.2.2.2.2.1 x.1.2.2.2.2.2.1 x.1.2.2.2.2.2.2.1 x.2.1 x.2.2.1
def Vq (t1 : Ud) (t4 : Unit) (t5 : Unit) (t7 : Mf) (t8 : Int) (t9 : Bool) (t11 : Int) (b4 : Ha) (b5 : Ha) : Option JaC :=
 (cond (decide (t11 < ((ln t1 : Nat) : Int)))
 (cond t9
 (some (.inl ((t1, (), (), t7, t8, true, (wr .i64 (t11 + 1)), ()), (b4, b5, ()))))
 (ob (Ab t1 t11) fun x34 =>
 (some (.inl ((t1, (), (), t7, t8, (x34.2.1.2.1 == t8), (wr .i64 (t11 + 1)), ()), (b4, b5, ()))))))
 (some (.inr (.inl ((t1, (), (), t7, t8, t9, ()), (b4, b5, ()))))))
def Ql := Ua fun x : Oao => Vq x.1.1 x.1.2.1 x.1.2.2.1 x.1.2.2.2.1 x.1.2.2.2.2.1 x.1.2.2.2.2.2.1 x.1.2.2.2.2.2.2.1 x.2.1 x.2.2.1
def At (t1 : Ud) (t4 : Unit) (t5 : Unit) (t7 : Mf) (t8 : Int) (b4 : Ha) (b5 : Ha) : Option (((Ud × (Unit × (Unit × X2))) × LA) ⊕ Tao) :=
 (cond (decide (t8 ≤ 56))
 (ob (Pl ((t1, (), (), t7, t8, false, 0, ()), (b4, b5, ()))) (se (fun y30 => (ob (Ql ((y30.1.1, (), (), y30.1.2.2.2.1, y30.1.2.2.2.2.1, y30.1.2.2.2.2.2.1, 0, ()), y30.2)) (se (fun y35 => (cond y35.1.2.2.2.2.2.1
 (cond (bl (ln y35.1.2.2.2.1 + ln ([y35.1.2.2.2.2.1] : List Int)) Ta)
 (some (.inl ((y35.1.1, (), (), (ap y35.1.2.2.2.1 ([y35.1.2.2.2.2.1] : List Int)), (wr .i64 (y35.1.2.2.2.2.1 + 1)), ()), y35.2)))
 none)
 (some (.inl ((y35.1.1, (), (), y35.1.2.2.2.1, (wr .i64 (y35.1.2.2.2.2.1 + 1)), ()), y35.2))))) (fun z36 => (some (.inr (.inr ((), ())))))))) (fun z31 => (some (.inr (.inr ((), ())))))))
 (some (.inr (.inl (((), (), t7, ()), (b4, b5, ()))))))
def Ow := Ua fun x : ((Ud × (Unit × (Unit × X2))) × LA) => At x.1.1 x.1.2.1 x.1.2.2.1 x.1.2.2.2.1 x.1.2.2.2.2.1 x.2.1 x.2.2.1
def Oh (a0 : Ud) (a1 : Ud) : Option PL :=
 (ob (Ke a0) fun r1 =>
 (ob (Nw ((a1, (), (), 0, ()), ((0, [], ()), r1.1, ()))) (se (fun y5 => (ob (Ow ((y5.1.1, (), (), [], 1, ()), y5.2)) (se (fun y37 => (some ((y37.2.2.1.1, y37.1.2.2.1, ()), ()))) (fun z38 => none)))) (fun z6 => none))))
def Nl (t0 : Ud) (t1 : Eh) (t5 : Xj) (t6 : Ud) (t7 : Int) : Option (((Ud × (Eh × (Xj × (Ud × Lc)))) × Unit) ⊕ Sao) :=
 (cond (decide (t7 < ((ln t1 : Nat) : Int)))
 (ob (Ab t1 t7) fun x21 =>
 (cond (x21.1 != 2)
 (ob (Jp x21) fun r22 =>
 (cond (bl (ln t6 + ln ([(0, r22.1, ())] : List Pa)) Ta)
 (ob (Oh t0 (ap t6 ([(0, r22.1, ())] : List Pa))) fun r23 =>
 (cond (bl (ln t5 + ln ([r23.1] : List Ha)) Ta)
 (cond (x21.1 != 1)
 (ob (Dn (ap t6 ([(0, r22.1, ())] : List Pa)) x21) fun r24 =>
 (ob (Eg (ap t6 ([(0, r22.1, ())] : List Pa)) r24.1) fun r25 =>
 (ob (Oh t0 r25.1) fun r26 =>
 (cond (bl (ln (ap t5 ([r23.1] : List Ha)) + ln ([r26.1] : List Ha)) Ta)
 (some (.inl ((t0, t1, (ap (ap t5 ([r23.1] : List Ha)) ([r26.1] : List Ha)), r25.1, (wr .i64 (t7 + 1)), ()), ())))
 none))))
 (some (.inl ((t0, t1, (ap t5 ([r23.1] : List Ha)), (ap t6 ([(0, r22.1, ())] : List Pa)), (wr .i64 (t7 + 1)), ()), ()))))
 none))
 none))
 (cond (x21.1 != 1)
 (ob (Dn t6 x21) fun r27 =>
 (ob (Eg t6 r27.1) fun r28 =>
 (ob (Oh t0 r28.1) fun r29 =>
 (cond (bl (ln t5 + ln ([r29.1] : List Ha)) Ta)
 (some (.inl ((t0, t1, (ap t5 ([r29.1] : List Ha)), r28.1, (wr .i64 (t7 + 1)), ()), ())))
 none))))
 (some (.inl ((t0, t1, t5, t6, (wr .i64 (t7 + 1)), ()), ()))))))
 (some (.inr (.inl ((t5, ()), ())))))
def Eo := Ua fun x : ((Ud × (Eh × (Xj × (Ud × Lc)))) × Unit) => Nl x.1.1 x.1.2.1 x.1.2.2.1 x.1.2.2.2.1 x.1.2.2.2.2.1
def Pj (a0 : Ud) (a1 : Eh) : Option XS :=
 (ob (Jr a0) fun r1 =>
 (cond (!r1.1)
 (some ([], ()))
 (ob (UB a1) fun r2 =>
 (cond (!r2.1)
 (some ([], ()))
 (ob (Eo ((a0, a1, [], [], 0, ()), ())) (se (fun y30 => (some (y30.1.1, ()))) (fun z31 => none)))))))
def To (t2 : Unit) (t3 : Unit) (t5 : Int) (b2 : Ha) (b3 : Ha) : Option (((Unit × Kk) × LA) ⊕ Jk) :=
 (cond (decide (t5 < ((ln b2.2.1 : Nat) : Int)))
 (ob (Ab b2.2.1 t5) fun x5 =>
 (ob (Ab b3.2.1 t5) fun x6 =>
 (cond (x5 != x6)
 (some (.inr (.inr ((false, ()), ()))))
 (some (.inl (((), (), (wr .i64 (t5 + 1)), ()), (b2, b3, ())))))))
 (some (.inr (.inl ((), ())))))
def Kr := Ua fun x : ((Unit × Kk) × LA) => To x.1.1 x.1.2.1 x.1.2.2.1 x.2.1 x.2.2.1
def AA (a0 : Ha) (a1 : Ha) : Option Rc :=
 (cond (a0.1 != a1.1)
 (some (false, ()))
 (cond (((ln a0.2.1 : Nat) : Int) != ((ln a1.2.1 : Nat) : Int))
 (some (false, ()))
 (ob (Kr (((), (), 0, ()), (a0, a1, ()))) (se (fun y7 => (some (true, ()))) (fun z8 => (some (z8.1.1, ())))))))
def Wq (t1 : Xj) (t2 : Unit) (t5 : Xj) (t6 : Int) (b2 : Ha) : Option (((Xj × (Unit × (Xj × Lc))) × PL) ⊕ Sao) :=
 (cond (decide (t6 < ((ln t1 : Nat) : Int)))
 (ob (Ab t1 t6) fun x13 =>
 (ob (AA b2 x13) fun r14 =>
 (cond (!r14.1)
 (ob (Ab t1 t6) fun x15 =>
 (ob (JM x15) fun r16 =>
 (cond (bl (ln t5 + ln ([r16.1] : List Ha)) Ta)
 (ob (Ab t1 t6) fun x17 =>
 (some (.inl ((t1, (), (ap t5 ([r16.1] : List Ha)), (wr .i64 (t6 + 1)), ()), (x17, ())))))
 none)))
 (ob (Ab t1 t6) fun x18 =>
 (some (.inl ((t1, (), t5, (wr .i64 (t6 + 1)), ()), (x18, ()))))))))
 (some (.inr (.inl ((t5, ()), ())))))
def Nu := Ua fun x : ((Xj × (Unit × (Xj × Lc))) × PL) => Wq x.1.1 x.1.2.1 x.1.2.2.1 x.1.2.2.2.1 x.2.1
def Sg (a0 : Ha) (a1 : Xj) : Option XS :=
 (ob (Nu ((a1, (), [], 0, ()), (a0, ()))) (se (fun y19 => (some (y19.1.1, ()))) (fun z20 => none)))
def Sk (a0 : Gb) (a1 : Int) (a2 : Bool) : Option (Gb × Qao) :=
 (ob (Ip a0) fun r1 =>
 (cond (!r1.1)
 (some (((0, [], ()), [], 0, [], 0, false, ()), [], false, ()))
 (ob (Ac a1 0 (wr .i64 (a0.1.1 - 1))) fun r2 =>
 (cond (!r2.1)
 (some (((0, [], ()), [], 0, [], 0, false, ()), [], false, ()))
 (ob (EF a0 a1) fun r3 =>
 (cond (decide (r3.1 ≥ 0))
 (some (((0, [], ()), [], 0, [], 0, false, ()), [], false, ()))
 (ob (Rr a0) fun r4 =>
 (ob (Nx a0.2.2.1 a0.2.2.2.1) fun r5 =>
 (ob (Ix a0.1 r5.1 a1) fun r6 =>
 (cond a2
 (ob (FM r6.1) fun r7 =>
 (ob (Xl r4.1 r7.1) fun r8 =>
 (cond (bl (ln r8.1.2.2.2.1 + ln ([(a1, r8.2.1, ())] : List Pa)) Ta)
 (cond (r8.2.1.1 == 9)
 (cond (decide (r8.2.1.2.2.2.1 < ((ln a0.2.1 : Nat) : Int)))
 (ob (Ab a0.2.1 r8.2.1.2.2.2.1) fun x9 =>
 (ob (Pj (ap r8.1.2.2.2.1 ([(a1, r8.2.1, ())] : List Pa)) x9) fun r10 =>
 (ob (Ke (ap r8.1.2.2.2.1 ([(a1, r8.2.1, ())] : List Pa))) fun r11 =>
 (cond (bl (ln r10.1 + ln ([r11.1] : List Ha)) Ta)
 (ob (Ke a0.2.2.2.1) fun r12 =>
 (ob (Sg r12.1 (ap r10.1 ([r11.1] : List Ha))) fun r13 =>
 (some ((r8.1.1, r8.1.2.1, r8.1.2.2.1, (ap r8.1.2.2.2.1 ([(a1, r8.2.1, ())] : List Pa)), r8.1.2.2.2.2), r13.1, true, ()))))
 none))))
 (ob (Ke (ap r8.1.2.2.2.1 ([(a1, r8.2.1, ())] : List Pa))) fun r14 =>
 (cond (bl (ln ([] : List Ha) + ln ([r14.1] : List Ha)) Ta)
 (ob (Ke a0.2.2.2.1) fun r15 =>
 (ob (Sg r15.1 (ap [] ([r14.1] : List Ha))) fun r16 =>
 (some ((r8.1.1, r8.1.2.1, r8.1.2.2.1, (ap r8.1.2.2.2.1 ([(a1, r8.2.1, ())] : List Pa)), r8.1.2.2.2.2), r16.1, true, ()))))
 none)))
 (ob (Ke (ap r8.1.2.2.2.1 ([(a1, r8.2.1, ())] : List Pa))) fun r17 =>
 (cond (bl (ln ([] : List Ha) + ln ([r17.1] : List Ha)) Ta)
 (ob (Ke a0.2.2.2.1) fun r18 =>
 (ob (Sg r18.1 (ap [] ([r17.1] : List Ha))) fun r19 =>
 (some ((r8.1.1, r8.1.2.1, r8.1.2.2.1, (ap r8.1.2.2.2.1 ([(a1, r8.2.1, ())] : List Pa)), r8.1.2.2.2.2), r19.1, true, ()))))
 none)))
 none)))
 (ob (GO r6.1) fun r20 =>
 (ob (Xl r4.1 r20.1) fun r21 =>
 (cond (bl (ln r21.1.2.2.2.1 + ln ([(a1, r21.2.1, ())] : List Pa)) Ta)
 (cond (r21.2.1.1 == 9)
 (cond (decide (r21.2.1.2.2.2.1 < ((ln a0.2.1 : Nat) : Int)))
 (ob (Ab a0.2.1 r21.2.1.2.2.2.1) fun x22 =>
 (ob (Pj (ap r21.1.2.2.2.1 ([(a1, r21.2.1, ())] : List Pa)) x22) fun r23 =>
 (ob (Ke (ap r21.1.2.2.2.1 ([(a1, r21.2.1, ())] : List Pa))) fun r24 =>
 (cond (bl (ln r23.1 + ln ([r24.1] : List Ha)) Ta)
 (ob (Ke a0.2.2.2.1) fun r25 =>
 (ob (Sg r25.1 (ap r23.1 ([r24.1] : List Ha))) fun r26 =>
 (some ((r21.1.1, r21.1.2.1, r21.1.2.2.1, (ap r21.1.2.2.2.1 ([(a1, r21.2.1, ())] : List Pa)), r21.1.2.2.2.2), r26.1, true, ()))))
 none))))
 (ob (Ke (ap r21.1.2.2.2.1 ([(a1, r21.2.1, ())] : List Pa))) fun r27 =>
 (cond (bl (ln ([] : List Ha) + ln ([r27.1] : List Ha)) Ta)
 (ob (Ke a0.2.2.2.1) fun r28 =>
 (ob (Sg r28.1 (ap [] ([r27.1] : List Ha))) fun r29 =>
 (some ((r21.1.1, r21.1.2.1, r21.1.2.2.1, (ap r21.1.2.2.2.1 ([(a1, r21.2.1, ())] : List Pa)), r21.1.2.2.2.2), r29.1, true, ()))))
 none)))
 (ob (Ke (ap r21.1.2.2.2.1 ([(a1, r21.2.1, ())] : List Pa))) fun r30 =>
 (cond (bl (ln ([] : List Ha) + ln ([r30.1] : List Ha)) Ta)
 (ob (Ke a0.2.2.2.1) fun r31 =>
 (ob (Sg r31.1 (ap [] ([r30.1] : List Ha))) fun r32 =>
 (some ((r21.1.1, r21.1.2.1, r21.1.2.2.1, (ap r21.1.2.2.2.1 ([(a1, r21.2.1, ())] : List Pa)), r21.1.2.2.2.2), r32.1, true, ()))))
 none)))
 none)))))))))))))
def VB (a0 : Gb) (a1 : Int) : Option (Gb × Qao) :=
 (ob (EF a0 a1) fun r1 =>
 (ob (Ip a0) fun r2 =>
 (cond (!r2.1)
 (some (((0, [], ()), [], 0, [], 0, false, ()), [], false, ()))
 (cond (decide (r1.1 < 0))
 (some (((0, [], ()), [], 0, [], 0, false, ()), [], false, ()))
 (ob (Rr a0) fun r3 =>
 (ob (Eg r3.1.2.2.2.1 r1.1) fun r4 =>
 (ob (Ke a0.2.2.2.1) fun r5 =>
 (ob (Ke r4.1) fun r6 =>
 (ob (Sg r5.1 ([r6.1] : List Ha)) fun r7 =>
 (some ((r3.1.1, r3.1.2.1, r3.1.2.2.1, r4.1, r3.1.2.2.2.2), r7.1, true, ())))))))))))
def Om (t0 : Tk) (t1 : Int) (t5 : Int) : Option (Gaa ⊕ LF) :=
 (cond (decide (t5 < ((ln t0 : Nat) : Int)))
 (ob (Ab t0 t5) fun x9 =>
 (cond (x9.1 != t1)
 (some (.inr (.inr (((-1), ()), ()))))
 (ob (Ab t0 t5) fun x10 =>
 (cond (x10.2.1 != (wr .i64 (t1 + 1)))
 (some (.inr (.inr (((-1), ()), ()))))
 (ob (Ab t0 t5) fun x11 =>
 (cond (x11.2.2.1 != (wr .i64 ((wr .i64 (t1 + 1)) + 1)))
 (some (.inr (.inr (((-1), ()), ()))))
 (ob (Ab t0 t5) fun x12 =>
 (cond (x12.2.2.2.1 != (wr .i64 ((wr .i64 ((wr .i64 (t1 + 1)) + 1)) + 1)))
 (some (.inr (.inr (((-1), ()), ()))))
 (some (.inl ((t0, (wr .i64 ((wr .i64 ((wr .i64 ((wr .i64 (t1 + 1)) + 1)) + 1)) + 1)), (wr .i64 (t5 + 1)), ()), ())))))))))))
 (some (.inr (.inl ((t1, ()), ())))))
def LD := Ua fun x : Gaa => Om x.1.1 x.1.2.1 x.1.2.2.1
def AH (a0 : Tk) (a1 : Int) : Option Lc :=
 (ob (LD ((a0, a1, 0, ()), ())) (se (fun y13 => (some (y13.1.1, ()))) (fun z14 => (some (z14.1.1, ())))))
def Kl (t0 : Pi) (t1 : Int) (t5 : Int) : Option ((DI × Unit) ⊕ LF) :=
 (cond (decide (t5 < ((ln t0 : Nat) : Int)))
 (ob (Ab t0 t5) fun x5 =>
 (ob (AH x5 t1) fun r6 =>
 (cond (decide (r6.1 < 0))
 (some (.inr (.inr (((-1), ()), ()))))
 (some (.inl ((t0, r6.1, (wr .i64 (t5 + 1)), ()), ()))))))
 (some (.inr (.inl ((t1, ()), ())))))
def JB := Ua fun x : (DI × Unit) => Kl x.1.1 x.1.2.1 x.1.2.2.1
def ZD (a0 : Pi) (a1 : Int) : Option Lc :=
 (ob (JB ((a0, a1, 0, ()), ())) (se (fun y7 => (some (y7.1.1, ()))) (fun z8 => (some (z8.1.1, ())))))
def Kz (a0 : Sb) (a1 : Int) : Option Lc :=
 (ob (ZD a0.2.1 a1) fun r1 =>
 (cond (decide (r1.1 < 0))
 (some ((-1), ()))
 (some (r1.1, ()))))
def Tm (t1 : Unit) (t3 : Int) (b1 : Ob) : Option ((Kk × WN) ⊕ ((De × WN) ⊕ Al)) :=
 (cond (decide (t3 < ((ln b1.2.2.2.2.2.1 : Nat) : Int)))
 (ob (Ab b1.2.2.2.2.2.1 t3) fun x8 =>
 (ob (Ac x8 0 99) fun r9 =>
 (cond (!r9.1)
 (some (.inr (.inr ((false, ()), ()))))
 (some (.inl (((), (wr .i64 (t3 + 1)), ()), (b1, ())))))))
 (some (.inr (.inl (((), ()), (b1, ()))))))
def Ap := Ua fun x : (Kk × WN) => Tm x.1.1 x.1.2.1 x.2.1
def Bo (a0 : Ob) : Option Rc :=
 (ob (Ac a0.1 0 2) fun r1 =>
 (cond (!r1.1)
 (some (false, ()))
 (ob (Ac a0.2.1 1 20) fun r2 =>
 (cond (!r2.1)
 (some (false, ()))
 (ob (Ac a0.2.2.1 1 24) fun r3 =>
 (cond (!r3.1)
 (some (false, ()))
 (cond (((ln a0.2.2.2.2.2.1 : Nat) : Int) != a0.2.2.1)
 (some (false, ()))
 (ob (Ap (((), 0, ()), (a0, ()))) (se (fun y10 => (cond (decide (0 ≤ y10.2.1.2.2.1))
 (ob (Ac y10.2.1.2.2.2.1 0 (wr .i64 ((Sa .i64 1 y10.2.1.2.2.1) - 1))) fun r12 =>
 (cond r12.1
 (cond (decide (0 ≤ y10.2.1.2.2.1))
 (ob (Ac y10.2.1.2.2.2.2.1 0 (wr .i64 ((Sa .i64 1 y10.2.1.2.2.1) - 1))) fun r13 =>
 (some (r13.1, ())))
 none)
 (some (false, ()))))
 none)) (fun z11 => (some (z11.1.1, ()))))))))))))
def Ys (t0 : Int) (t3 : Int) (t4 : Int) : Option (LC ⊕ KC) :=
 (cond (decide (t4 ≤ 31))
 (cond (decide (0 ≤ t4))
 (some (.inl ((t0, (wr .i64 (t3 + (Wa .i64 (Yb .i64 t0 t4) 1))), (wr .i64 (t4 + 1)), ()), ())))
 none)
 (some (.inr (.inl ((t3, ()), ())))))
def Iw := Ua fun x : LC => Ys x.1.1 x.1.2.1 x.1.2.2.1
def Ox (a0 : Int) : Option Lc :=
 (ob (Iw ((a0, 0, 0, ()), ())) (se (fun y1 => (some (y1.1.1, ()))) (fun z2 => none)))
def Rs (t0 : Wd) (t3 : Int) (t4 : Int) : Option (SL ⊕ (Kaa ⊕ Al)) :=
 (cond (decide (t4 < t3))
 (ob (Ab t0 t4) fun x58 =>
 (ob (Ab t0 t3) fun x59 =>
 (cond (x58.1 == x59.1)
 (some (.inr (.inr ((false, ()), ()))))
 (ob (Ab t0 t4) fun x60 =>
 (ob (Ab t0 t3) fun x61 =>
 (cond (x60.2.1 == x61.2.1)
 (some (.inr (.inr ((false, ()), ()))))
 (some (.inl ((t0, t3, (wr .i64 (t4 + 1)), ()), ())))))))))
 (some (.inr (.inl ((t0, t3, ()), ())))))
def Dw := Ua fun x : SL => Rs x.1.1 x.1.2.1 x.1.2.2.1
def Qs (t0 : Wd) (t3 : Int) : Option (Kaa ⊕ (((Wd × Unit) × Unit) ⊕ Al)) :=
 (cond (decide (t3 < ((ln t0 : Nat) : Int)))
 (ob (Ab t0 t3) fun x43 =>
 (ob (Ac x43.1 0 16777215) fun r44 =>
 (cond (!r44.1)
 (some (.inr (.inr ((false, ()), ()))))
 (ob (Ab t0 t3) fun x45 =>
 (ob (Ox x45.1) fun r46 =>
 (ob (Ac r46.1 2 4) fun r47 =>
 (cond (!r47.1)
 (some (.inr (.inr ((false, ()), ()))))
 (ob (Ab t0 t3) fun x48 =>
 (ob (Ac x48.2.1 24 31) fun r49 =>
 (cond (!r49.1)
 (some (.inr (.inr ((false, ()), ()))))
 (ob (Dw ((t0, t3, 0, ()), ())) (se (fun y62 => (some (.inl ((y62.1.1, (wr .i64 (y62.1.2.1 + 1)), ()), ())))) (fun z63 => (some (.inr (.inr ((z63.1.1, ()), ())))))))))))))))))
 (some (.inr (.inl ((t0, ()), ())))))
def Cw := Ua fun x : Kaa => Qs x.1.1 x.1.2.1
def Jx (a0 : Wd) : Option Rc :=
 (ob (Cw ((a0, 0, ()), ())) (se (fun y64 => (some ((decide (((ln y64.1.1 : Nat) : Int) ≤ 8)), ()))) (fun z65 => (some (z65.1.1, ())))))
def Lw (t0 : Wd) (t1 : Int) (t5 : Int) : Option (SL ⊕ YS) :=
 (cond (decide (t5 < ((ln t0 : Nat) : Int)))
 (ob (Ab t0 t5) fun x5 =>
 (cond (x5.2.1 == t1)
 (ob (Ab t0 t5) fun x6 =>
 (some (.inr (.inr ((x6.1, ()), ())))))
 (some (.inl ((t0, t1, (wr .i64 (t5 + 1)), ()), ())))))
 (some (.inr (.inl ((), ())))))
def My := Ua fun x : SL => Lw x.1.1 x.1.2.1 x.1.2.2.1
def YB (a0 : Wd) (a1 : Int) : Option Lc :=
 (ob (My ((a0, a1, 0, ()), ())) (se (fun y7 => (some (0, ()))) (fun z8 => (some (z8.1.1, ())))))
def Vo (t1 : Unit) (t3 : Int) (t4 : Int) (t5 : Unit) (t7 : Int) (b1 : Oa) (b5 : Ca) : Option (((Unit × (Int × (Int × Kk))) × (Oa × Dh)) ⊕ (((Unit × (Int × (Int × De))) × (Oa × Dh)) ⊕ Al)) :=
 (cond (decide (t7 < t4))
 (ob (Ab b1.2.2.2.2.2.2.1 t7) fun x19 =>
 (cond (x19.1 == b5.1)
 (some (.inr (.inr ((false, ()), ()))))
 (some (.inl (((), t3, t4, (), (wr .i64 (t7 + 1)), ()), (b1, b5, ()))))))
 (some (.inr (.inl (((), t3, t4, (), ()), (b1, b5, ()))))))
def Nr := Ua fun x : ((Unit × (Int × (Int × Kk))) × (Oa × Dh)) => Vo x.1.1 x.1.2.1 x.1.2.2.1 x.1.2.2.2.1 x.1.2.2.2.2.1 x.2.1 x.2.2.1
def Rq (t1 : Unit) (t3 : Int) (t4 : Int) (b1 : Oa) : Option (AQ ⊕ ((De × IC) ⊕ Al)) :=
 (cond (decide (t4 < ((ln b1.2.2.2.2.2.2.1 : Nat) : Int)))
 (ob (Ab b1.2.2.2.2.2.2.1 t4) fun x15 =>
 (ob (YB b1.1 x15.1) fun r16 =>
 (cond (decide (x15.2.1 ≤ 0))
 (some (.inr (.inr ((false, ()), ()))))
 (cond ((Jb .i64 x15.2.1 r16.1) != 0)
 (some (.inr (.inr ((false, ()), ()))))
 (cond (x15.2.2.1 != (x15.2.1 == r16.1))
 (some (.inr (.inr ((false, ()), ()))))
 (cond ((Wa .i64 x15.2.1 t3) != 0)
 (some (.inr (.inr ((false, ()), ()))))
 (ob (Nr (((), t3, t4, (), 0, ()), (b1, x15, ()))) (se (fun y20 => (some (.inl (((), (Oc .i64 y20.1.2.1 y20.2.2.1.2.1), (wr .i64 (y20.1.2.2.1 + 1)), ()), (y20.2.1, ()))))) (fun z21 => (some (.inr (.inr ((z21.1.1, ()), ())))))))))))))
 (some (.inr (.inl (((), ()), (b1, ()))))))
def Ku := Ua fun x : AQ => Rq x.1.1 x.1.2.1 x.1.2.2.1 x.2.1
def ID (a0 : Oa) : Option Rc :=
 (ob (Ku (((), a0.2.2.2.2.2.1, 0, ()), (a0, ()))) (se (fun y22 => (ob (Ac y22.2.1.2.2.2.2.2.1 0 16777215) fun r24 =>
 (some (r24.1, ())))) (fun z23 => (some (z23.1.1, ())))))
def Kw (t1 : Unit) (t3 : Int) (t4 : Int) (b1 : Oa) : Option (AQ ⊕ KC) :=
 (cond (decide (t4 < ((ln b1.2.2.2.2.2.2.1 : Nat) : Int)))
 (ob (Ab b1.2.2.2.2.2.2.1 t4) fun x3 =>
 (some (.inl (((), (Oc .i64 t3 x3.2.1), (wr .i64 (t4 + 1)), ()), (b1, ())))))
 (some (.inr (.inl ((t3, ()), ())))))
def Ly := Ua fun x : AQ => Kw x.1.1 x.1.2.1 x.1.2.2.1 x.2.1
def Lu (a0 : Oa) : Option Lc :=
 (ob (Ly (((), a0.2.2.2.2.2.1, 0, ()), (a0, ()))) (se (fun y4 => (some (y4.1.1, ()))) (fun z5 => none)))
def Fu (a0 : Ca) : Option Rc :=
 (ob (Ac a0.1 0 1000000) fun r1 =>
 (cond r1.1
 (ob (Ac a0.2.1 0 31) fun r2 =>
 (some (r2.1, ())))
 (some (false, ()))))
def Uo (t0 : Qd) (t1 : Int) (t2 : Int) (t3 : Int) (t9 : Int) : Option (((Qd × Bb) × Unit) ⊕ ((JC × Unit) ⊕ Al)) :=
 (cond (decide (t9 < ((ln t0 : Nat) : Int)))
 (ob (Ab t0 t9) fun x17 =>
 (ob (Fu x17) fun r18 =>
 (cond (!r18.1)
 (some (.inr (.inr ((false, ()), ()))))
 (ob (Ab t0 t9) fun x19 =>
 (cond (decide (x19.2.1 ≥ t2))
 (some (.inr (.inr ((false, ()), ()))))
 (ob (Ab t0 t9) fun x20 =>
 (cond (decide (x20.1 < t3))
 (some (.inr (.inr ((false, ()), ()))))
 (ob (Ab t0 t9) fun x21 =>
 (ob (Ab t0 t9) fun x22 =>
 (cond (decide (0 ≤ x22.2.1))
 (cond (x21.2.2.1 == ((Wa .i64 (Yb .i64 t1 x22.2.1) 1) == 1))
 (some (.inr (.inr ((false, ()), ()))))
 (ob (Ab t0 t9) fun x23 =>
 (ob (Ab t0 t9) fun x24 =>
 (cond (decide (0 ≤ x24.2.1))
 (some (.inl ((t0, (Me .i64 t1 (Sa .i64 1 x24.2.1)), t2, x23.1, (wr .i64 (t9 + 1)), ()), ())))
 none))))
 none))))))))))
 (some (.inr (.inl ((t0, ()), ())))))
def Mr := Ua fun x : ((Qd × Bb) × Unit) => Uo x.1.1 x.1.2.1 x.1.2.2.1 x.1.2.2.2.1 x.1.2.2.2.2.1
def Mj (a0 : Qd) (a1 : Int) (a2 : Int) (a3 : Int) : Option Rc :=
 (ob (Mr ((a0, a1, a2, a3, 0, ()), ())) (se (fun y25 => (some ((decide (((ln y25.1.1 : Nat) : Int) ≤ 64)), ()))) (fun z26 => (some (z26.1.1, ())))))
def Nq (a0 : Oa) : Option Rc :=
 (ob (Jx a0.1) fun r1 =>
 (cond (!r1.1)
 (some (false, ()))
 (ob (Ac a0.2.1 1 200) fun r2 =>
 (cond (!r2.1)
 (some (false, ()))
 (ob (Ac a0.2.2.2.1 0 1000000) fun r3 =>
 (cond (!r3.1)
 (some (false, ()))
 (ob (Ac a0.2.2.2.2.1 0 a0.2.2.2.1) fun r4 =>
 (cond (!r4.1)
 (some (false, ()))
 (ob (ID a0) fun r5 =>
 (cond (!r5.1)
 (some (false, ()))
 (ob (Lu a0) fun r6 =>
 (ob (Mj a0.2.2.1 r6.1 24 0) fun r7 =>
 (cond r7.1
 (cond (((ln a0.2.2.1 : Nat) : Int) == 0)
 (some (true, ()))
 (ob (Ab a0.2.2.1 (wr .i64 (((ln a0.2.2.1 : Nat) : Int) - 1))) fun x8 =>
 (some ((decide (x8.1 ≤ a0.2.2.2.1)), ()))))
 (some (false, ())))))))))))))))
def WB (a0 : Oa) : Option IC :=
 (cond (bl (ln ([] : List Va) + ln a0.1) Ta)
 (cond (bl (ln ([] : List Ca) + ln a0.2.2.1) Ta)
 (cond (bl (ln ([] : List Ca) + ln a0.2.2.2.2.2.2.1) Ta)
 (some (((ap [] a0.1), a0.2.1, (ap [] a0.2.2.1), a0.2.2.2.1, a0.2.2.2.2.1, a0.2.2.2.2.2.1, (ap [] a0.2.2.2.2.2.2.1), a0.2.2.2.2.2.2.2), ()))
 none)
 none)
 none)
def Mx (a0 : Qc) : Option Rc :=
 (ob (Ac a0.1 1 1000) fun r1 =>
 (cond r1.1
 (ob (Ac a0.2.1 0 1000) fun r2 =>
 (cond r2.1
 (ob (Ac a0.2.2.1 0 2) fun r3 =>
 (some (r3.1, ())))
 (some (false, ()))))
 (some (false, ()))))
def Lr (a0 : Int) : Option Lc :=
 (ob (Ac a0 0 31) fun r1 =>
 (cond (!r1.1)
 (some (0, ()))
 (cond (decide (0 ≤ a0))
 (some ((Sa .i64 1 a0), ()))
 none)))
def Gw (t1 : Unit) (t3 : Int) (t4 : Int) (b1 : Gb) : Option ((Tu × Zk) ⊕ KC) :=
 (cond (decide (t4 < ((ln b1.2.2.2.1 : Nat) : Int)))
 (ob (Ab b1.2.2.2.1 t4) fun x5 =>
 (ob (Lr x5.1) fun r6 =>
 (some (.inl (((), (Oc .i64 t3 r6.1), (wr .i64 (t4 + 1)), ()), (b1, ()))))))
 (some (.inr (.inl ((t3, ()), ())))))
def Jy := Ua fun x : (Tu × Zk) => Gw x.1.1 x.1.2.1 x.1.2.2.1 x.2.1
def Ju (a0 : Gb) : Option Lc :=
 (ob (Jy (((), 0, 0, ()), (a0, ()))) (se (fun y7 => (some (y7.1.1, ()))) (fun z8 => none)))
def Eu (a0 : Hb) : Option Rc :=
 (ob (Ip a0.1) fun r1 =>
 (cond (!r1.1)
 (some (false, ()))
 (ob (Mx a0.2.1) fun r2 =>
 (cond (!r2.1)
 (some (false, ()))
 (ob (Ac a0.2.2.2.1 0 1000000) fun r3 =>
 (cond (!r3.1)
 (some (false, ()))
 (ob (Ac a0.2.2.2.2.1 0 a0.2.2.2.1) fun r4 =>
 (cond (!r4.1)
 (some (false, ()))
 (ob (Ju a0.1) fun r5 =>
 (ob (Mj a0.2.2.1 r5.1 a0.1.1.1 0) fun r6 =>
 (cond (!r6.1)
 (some (false, ()))
 (cond (decide (((ln a0.2.2.1 : Nat) : Int) > 0))
 (ob (Ab a0.2.2.1 (wr .i64 (((ln a0.2.2.1 : Nat) : Int) - 1))) fun x7 =>
 (cond (decide (x7.1 > a0.2.2.2.1))
 (some (false, ()))
 (ob (Ac a0.2.2.2.2.2.1 0 a0.1.1.1) fun r8 =>
 (cond r8.1
 (ob (Ac a0.2.2.2.2.2.2.1 0 a0.2.2.2.1) fun r9 =>
 (some (r9.1, ())))
 (some (false, ()))))))
 (ob (Ac a0.2.2.2.2.2.1 0 a0.1.1.1) fun r10 =>
 (cond r10.1
 (ob (Ac a0.2.2.2.2.2.2.1 0 a0.2.2.2.1) fun r11 =>
 (some (r11.1, ())))
 (some (false, ()))))))))))))))))
def Wo (t0 : Int) (t1 : Qd) (t5 : Int) : Option (((Int × GI) × Unit) ⊕ KC) :=
 (cond (decide (t5 < ((ln t1 : Nat) : Int)))
 (ob (Ab t1 t5) fun x5 =>
 (ob (Lr x5.2.1) fun r6 =>
 (some (.inl (((Me .i64 t0 r6.1), t1, (wr .i64 (t5 + 1)), ()), ())))))
 (some (.inr (.inl ((t0, ()), ())))))
def Pr := Ua fun x : ((Int × GI) × Unit) => Wo x.1.1 x.1.2.1 x.1.2.2.1
def Tq (a0 : Int) (a1 : Qd) : Option Lc :=
 (ob (Pr ((a0, a1, 0, ()), ())) (se (fun y7 => (some (y7.1.1, ()))) (fun z8 => none)))
def CA (t1 : Unit) (t3 : Int) (t4 : Int) (b1 : Oa) : Option (AQ ⊕ KC) :=
 (cond (decide (t4 < ((ln b1.2.2.2.2.2.2.1 : Nat) : Int)))
 (ob (Ab b1.2.2.2.2.2.2.1 t4) fun x7 =>
 (cond x7.2.2.1
 (ob (Ab b1.2.2.2.2.2.2.1 t4) fun x8 =>
 (ob (Lr x8.1) fun r9 =>
 (some (.inl (((), (Oc .i64 t3 r9.1), (wr .i64 (t4 + 1)), ()), (b1, ()))))))
 (some (.inl (((), t3, (wr .i64 (t4 + 1)), ()), (b1, ()))))))
 (some (.inr (.inl ((t3, ()), ())))))
def AC := Ua fun x : AQ => CA x.1.1 x.1.2.1 x.1.2.2.1 x.2.1
def GM (a0 : Oa) : Option Lc :=
 (ob (AC (((), a0.2.2.2.2.2.1, 0, ()), (a0, ()))) (se (fun y10 => (some (y10.1.1, ()))) (fun z11 => none)))
def Bw (t1 : Unit) (t4 : Int) (t5 : Int) (b1 : Zc) : Option ((Tu × QL) ⊕ ((De × QL) ⊕ Al)) :=
 (cond (decide (t5 < ((ln b1.2.2.1.1 : Nat) : Int)))
 (ob (Ab b1.2.2.1.1 t5) fun x12 =>
 (ob (Cn b1.1 x12.1) fun r13 =>
 (cond (!r13.1)
 (some (.inr (.inr ((false, ()), ()))))
 (ob (Ab b1.2.2.1.1 t5) fun x14 =>
 (cond (decide (x14.2.1 ≥ t4))
 (some (.inr (.inr ((false, ()), ()))))
 (some (.inl (((), t4, (wr .i64 (t5 + 1)), ()), (b1, ())))))))))
 (some (.inr (.inl (((), ()), (b1, ()))))))
def Hy := Ua fun x : (Tu × QL) => Bw x.1.1 x.1.2.1 x.1.2.2.1 x.2.1
def TJ (a0 : Zc) : Option Rc :=
 (ob (Wl a0.1) fun r1 =>
 (cond (r1.1 == 0)
 (some (false, ()))
 (ob (Bo a0.2.1) fun r2 =>
 (cond (!r2.1)
 (some (false, ()))
 (cond (a0.2.1.2.2.1 != r1.1)
 (some (false, ()))
 (ob (Cn a0.1 a0.2.2.2.2.1) fun r3 =>
 (cond (!r3.1)
 (some (false, ()))
 (ob (Nq a0.2.2.1) fun r4 =>
 (cond (!r4.1)
 (some (false, ()))
 (ob (Eu a0.2.2.2.1) fun r5 =>
 (cond (!r5.1)
 (some (false, ()))
 (cond (decide (a0.2.2.2.1.1.1.1 < r1.1))
 (some (false, ()))
 (ob (Hy (((), a0.2.2.2.1.1.1.1, 0, ()), (a0, ()))) (se (fun y15 => (ob (Ac y15.2.1.2.2.2.2.2.1 0 1000000) fun r17 =>
 (cond (!r17.1)
 (some (false, ()))
 (cond (decide (y15.2.1.2.2.1.2.2.2.1 > y15.2.1.2.2.2.2.2.1))
 (some (false, ()))
 (cond (decide (y15.2.1.2.2.2.1.2.2.2.1 > y15.2.1.2.2.2.2.2.1))
 (some (false, ()))
 (ob (Lu y15.2.1.2.2.1) fun r18 =>
 (ob (Tq r18.1 y15.2.1.2.2.1.2.2.1) fun r19 =>
 (cond (r19.1 == y15.2.1.2.1.2.2.2.1)
 (ob (Ju y15.2.1.2.2.2.1.1) fun r20 =>
 (ob (Tq r20.1 y15.2.1.2.2.2.1.2.2.1) fun r21 =>
 (ob (GM y15.2.1.2.2.1) fun r22 =>
 (some ((r21.1 == r22.1), ())))))
 (some (false, ())))))))))) (fun z16 => (some (z16.1.1, ())))))))))))))))))
def Im (t66 : Mf) (t67 : Int) (t68 : Int) : Option ((OL × Unit) ⊕ Jk) :=
 (cond (decide (t68 < t67))
 (ob (Ab t66 t68) fun x3 =>
 (cond (decide (x3 < 0))
 (some (.inr (.inr ((false, ()), ()))))
 (cond (decide (x3 > 99))
 (some (.inr (.inr ((false, ()), ()))))
 (some (.inl ((t66, t67, (wr .i64 (t68 + 1)), ()), ()))))))
 (some (.inr (.inl ((), ())))))
def Zo := Ua fun x : (OL × Unit) => Im x.1.1 x.1.2.1 x.1.2.2.1
def Qn (a0 : Ob) : Option Rc :=
 (cond (decide (a0.1 < 0))
 (some (false, ()))
 (cond (decide (a0.1 > 2))
 (some (false, ()))
 (cond (decide (a0.2.1 < 1))
 (some (false, ()))
 (cond (decide (a0.2.1 > 20))
 (some (false, ()))
 (cond (decide (a0.2.2.1 < 1))
 (some (false, ()))
 (cond (decide (a0.2.2.1 > 24))
 (some (false, ()))
 (cond (((ln a0.2.2.2.2.2.1 : Nat) : Int) != a0.2.2.1)
 (some (false, ()))
 (cond (decide (a0.2.2.2.1 < 0))
 (some (false, ()))
 (cond (decide (0 ≤ a0.2.2.1))
 (cond (decide (a0.2.2.2.1 ≥ (Sa .i64 1 a0.2.2.1)))
 (some (false, ()))
 (cond (decide (a0.2.2.2.2.1 < 0))
 (some (false, ()))
 (cond (decide (0 ≤ a0.2.2.1))
 (cond (decide (a0.2.2.2.2.1 ≥ (Sa .i64 1 a0.2.2.1)))
 (some (false, ()))
 (ob (Zo ((a0.2.2.2.2.2.1, ((ln a0.2.2.2.2.2.1 : Nat) : Int), 0, ()), ())) (se (fun y4 => (some (true, ()))) (fun z5 => (some (z5.1.1, ()))))))
 none)))
 none)))))))))
def K0 (a0 : Int) : Option Lc :=
 (cond (decide ((0 : Int) ≤ 24))
 (ob (Ab Saa (Yb .u32 a0 24)) fun c1 =>
 (cond (decide ((0 : Int) ≤ 16))
 (ob (Ab Saa (Wa .u32 (Yb .u32 a0 16) 255)) fun c2 =>
 (cond (decide ((0 : Int) ≤ 8))
 (ob (Ab Saa (Wa .u32 (Yb .u32 a0 8) 255)) fun c3 =>
 (ob (Ab Saa (Wa .u32 a0 255)) fun c4 =>
 (some ((wr .i64 (wr .u8 ((wr .u8 ((wr .u8 (((UInt8.toNat c1 : Nat) : Int) + ((UInt8.toNat c2 : Nat) : Int))) + ((UInt8.toNat c3 : Nat) : Int))) + ((UInt8.toNat c4 : Nat) : Int)))), ()))))
 none))
 none))
 none)
def RG (a0 : Int) : Option Lc :=
 (cond (decide ((0 : Int) ≤ 1))
 (cond (decide ((0 : Int) ≤ 2))
 (cond (decide ((0 : Int) ≤ 4))
 (cond (decide ((0 : Int) ≤ 8))
 (cond (decide ((0 : Int) ≤ 16))
 (cond (decide ((0 : Int) ≤ 32))
 (some ((Wa .i64 (wr .i64 (wr .u64 ((wr .u64 ((wr .u64 ((Wa .u64 (wr .u64 ((Yb .u64 (wr .u64 ((Wa .u64 (Yb .u64 (wr .u64 ((Wa .u64 (Yb .u64 a0 1) 6148914691236517205) + (Wa .u64 a0 6148914691236517205))) 2) 3689348814741910323) + (Wa .u64 (wr .u64 ((Wa .u64 (Yb .u64 a0 1) 6148914691236517205) + (Wa .u64 a0 6148914691236517205))) 3689348814741910323))) 4) + (wr .u64 ((Wa .u64 (Yb .u64 (wr .u64 ((Wa .u64 (Yb .u64 a0 1) 6148914691236517205) + (Wa .u64 a0 6148914691236517205))) 2) 3689348814741910323) + (Wa .u64 (wr .u64 ((Wa .u64 (Yb .u64 a0 1) 6148914691236517205) + (Wa .u64 a0 6148914691236517205))) 3689348814741910323))))) 1085102592571150095) + (Yb .u64 (Wa .u64 (wr .u64 ((Yb .u64 (wr .u64 ((Wa .u64 (Yb .u64 (wr .u64 ((Wa .u64 (Yb .u64 a0 1) 6148914691236517205) + (Wa .u64 a0 6148914691236517205))) 2) 3689348814741910323) + (Wa .u64 (wr .u64 ((Wa .u64 (Yb .u64 a0 1) 6148914691236517205) + (Wa .u64 a0 6148914691236517205))) 3689348814741910323))) 4) + (wr .u64 ((Wa .u64 (Yb .u64 (wr .u64 ((Wa .u64 (Yb .u64 a0 1) 6148914691236517205) + (Wa .u64 a0 6148914691236517205))) 2) 3689348814741910323) + (Wa .u64 (wr .u64 ((Wa .u64 (Yb .u64 a0 1) 6148914691236517205) + (Wa .u64 a0 6148914691236517205))) 3689348814741910323))))) 1085102592571150095) 8))) + (Yb .u64 (wr .u64 ((Wa .u64 (wr .u64 ((Yb .u64 (wr .u64 ((Wa .u64 (Yb .u64 (wr .u64 ((Wa .u64 (Yb .u64 a0 1) 6148914691236517205) + (Wa .u64 a0 6148914691236517205))) 2) 3689348814741910323) + (Wa .u64 (wr .u64 ((Wa .u64 (Yb .u64 a0 1) 6148914691236517205) + (Wa .u64 a0 6148914691236517205))) 3689348814741910323))) 4) + (wr .u64 ((Wa .u64 (Yb .u64 (wr .u64 ((Wa .u64 (Yb .u64 a0 1) 6148914691236517205) + (Wa .u64 a0 6148914691236517205))) 2) 3689348814741910323) + (Wa .u64 (wr .u64 ((Wa .u64 (Yb .u64 a0 1) 6148914691236517205) + (Wa .u64 a0 6148914691236517205))) 3689348814741910323))))) 1085102592571150095) + (Yb .u64 (Wa .u64 (wr .u64 ((Yb .u64 (wr .u64 ((Wa .u64 (Yb .u64 (wr .u64 ((Wa .u64 (Yb .u64 a0 1) 6148914691236517205) + (Wa .u64 a0 6148914691236517205))) 2) 3689348814741910323) + (Wa .u64 (wr .u64 ((Wa .u64 (Yb .u64 a0 1) 6148914691236517205) + (Wa .u64 a0 6148914691236517205))) 3689348814741910323))) 4) + (wr .u64 ((Wa .u64 (Yb .u64 (wr .u64 ((Wa .u64 (Yb .u64 a0 1) 6148914691236517205) + (Wa .u64 a0 6148914691236517205))) 2) 3689348814741910323) + (Wa .u64 (wr .u64 ((Wa .u64 (Yb .u64 a0 1) 6148914691236517205) + (Wa .u64 a0 6148914691236517205))) 3689348814741910323))))) 1085102592571150095) 8))) 16))) + (Yb .u64 (wr .u64 ((wr .u64 ((Wa .u64 (wr .u64 ((Yb .u64 (wr .u64 ((Wa .u64 (Yb .u64 (wr .u64 ((Wa .u64 (Yb .u64 a0 1) 6148914691236517205) + (Wa .u64 a0 6148914691236517205))) 2) 3689348814741910323) + (Wa .u64 (wr .u64 ((Wa .u64 (Yb .u64 a0 1) 6148914691236517205) + (Wa .u64 a0 6148914691236517205))) 3689348814741910323))) 4) + (wr .u64 ((Wa .u64 (Yb .u64 (wr .u64 ((Wa .u64 (Yb .u64 a0 1) 6148914691236517205) + (Wa .u64 a0 6148914691236517205))) 2) 3689348814741910323) + (Wa .u64 (wr .u64 ((Wa .u64 (Yb .u64 a0 1) 6148914691236517205) + (Wa .u64 a0 6148914691236517205))) 3689348814741910323))))) 1085102592571150095) + (Yb .u64 (Wa .u64 (wr .u64 ((Yb .u64 (wr .u64 ((Wa .u64 (Yb .u64 (wr .u64 ((Wa .u64 (Yb .u64 a0 1) 6148914691236517205) + (Wa .u64 a0 6148914691236517205))) 2) 3689348814741910323) + (Wa .u64 (wr .u64 ((Wa .u64 (Yb .u64 a0 1) 6148914691236517205) + (Wa .u64 a0 6148914691236517205))) 3689348814741910323))) 4) + (wr .u64 ((Wa .u64 (Yb .u64 (wr .u64 ((Wa .u64 (Yb .u64 a0 1) 6148914691236517205) + (Wa .u64 a0 6148914691236517205))) 2) 3689348814741910323) + (Wa .u64 (wr .u64 ((Wa .u64 (Yb .u64 a0 1) 6148914691236517205) + (Wa .u64 a0 6148914691236517205))) 3689348814741910323))))) 1085102592571150095) 8))) + (Yb .u64 (wr .u64 ((Wa .u64 (wr .u64 ((Yb .u64 (wr .u64 ((Wa .u64 (Yb .u64 (wr .u64 ((Wa .u64 (Yb .u64 a0 1) 6148914691236517205) + (Wa .u64 a0 6148914691236517205))) 2) 3689348814741910323) + (Wa .u64 (wr .u64 ((Wa .u64 (Yb .u64 a0 1) 6148914691236517205) + (Wa .u64 a0 6148914691236517205))) 3689348814741910323))) 4) + (wr .u64 ((Wa .u64 (Yb .u64 (wr .u64 ((Wa .u64 (Yb .u64 a0 1) 6148914691236517205) + (Wa .u64 a0 6148914691236517205))) 2) 3689348814741910323) + (Wa .u64 (wr .u64 ((Wa .u64 (Yb .u64 a0 1) 6148914691236517205) + (Wa .u64 a0 6148914691236517205))) 3689348814741910323))))) 1085102592571150095) + (Yb .u64 (Wa .u64 (wr .u64 ((Yb .u64 (wr .u64 ((Wa .u64 (Yb .u64 (wr .u64 ((Wa .u64 (Yb .u64 a0 1) 6148914691236517205) + (Wa .u64 a0 6148914691236517205))) 2) 3689348814741910323) + (Wa .u64 (wr .u64 ((Wa .u64 (Yb .u64 a0 1) 6148914691236517205) + (Wa .u64 a0 6148914691236517205))) 3689348814741910323))) 4) + (wr .u64 ((Wa .u64 (Yb .u64 (wr .u64 ((Wa .u64 (Yb .u64 a0 1) 6148914691236517205) + (Wa .u64 a0 6148914691236517205))) 2) 3689348814741910323) + (Wa .u64 (wr .u64 ((Wa .u64 (Yb .u64 a0 1) 6148914691236517205) + (Wa .u64 a0 6148914691236517205))) 3689348814741910323))))) 1085102592571150095) 8))) 16))) 32)))) 127), ()))
 none)
 none)
 none)
 none)
 none)
 none)
def MC (a0 : Int) : Option Lc :=
 (ob (RG a0) fun r1 =>
 (some (r1.1, ())))
def Sp (t0 : Wd) (t4 : Unit) (t11 : Wd) (t12 : Int) (t13 : Int) (t48 : Wd) (t49 : Int) (t50 : Int) (b4 : Va) : Option (NaC ⊕ (((Wd × Lp) × Unit) ⊕ Al)) :=
 (cond (decide (t50 < t49))
 (ob (Ab t48 t50) fun x19 =>
 (cond (x19.1 == b4.1)
 (some (.inr (.inr ((false, ()), ()))))
 (cond (x19.2.1 == b4.2.1)
 (some (.inr (.inr ((false, ()), ()))))
 (some (.inl ((t0, (), t11, t12, t13, t48, t49, (wr .i64 (t50 + 1)), ()), (b4, ())))))))
 (some (.inr (.inl ((t0, t11, t12, t13, ()), ())))))
def Kt := Ua fun x : NaC => Sp x.1.1 x.1.2.1 x.1.2.2.1 x.1.2.2.2.1 x.1.2.2.2.2.1 x.1.2.2.2.2.2.1 x.1.2.2.2.2.2.2.1 x.1.2.2.2.2.2.2.2.1 x.2.1
def Xr (t0 : Wd) (t11 : Wd) (t12 : Int) (t13 : Int) : Option (((Wd × Lp) × Unit) ⊕ Jk) :=
 (cond (decide (t13 < t12))
 (ob (Ab t11 t13) fun x15 =>
 (cond (decide (x15.1 < 0))
 (some (.inr (.inr ((false, ()), ()))))
 (cond (decide (x15.1 > 16777215))
 (some (.inr (.inr ((false, ()), ()))))
 (cond (decide (x15.2.1 < 24))
 (some (.inr (.inr ((false, ()), ()))))
 (cond (decide (x15.2.1 > 31))
 (some (.inr (.inr ((false, ()), ()))))
 (ob (MC (wr .u64 x15.1)) fun r16 =>
 (cond (decide (r16.1 < 2))
 (some (.inr (.inr ((false, ()), ()))))
 (cond (decide (r16.1 > 4))
 (some (.inr (.inr ((false, ()), ()))))
 (cond (Md (ln t0) 0 t13)
 (ob (Kt ((t0, (), t11, t12, t13, (Eb t0 (tn 0) (tn t13)), ((ln (Eb t0 (tn 0) (tn t13)) : Nat) : Int), 0, ()), (x15, ()))) (se (fun y20 => (some (.inl ((y20.1.1, y20.1.2.1, y20.1.2.2.1, (wr .i64 (y20.1.2.2.2.1 + 1)), ()), ())))) (fun z21 => (some (.inr (.inr ((z21.1.1, ()), ())))))))
 none)))))))))
 (some (.inr (.inl ((), ())))))
def Gv := Ua fun x : ((Wd × Lp) × Unit) => Xr x.1.1 x.1.2.1 x.1.2.2.1 x.1.2.2.2.1
def Ww (a0 : Wd) : Option Rc :=
 (cond (decide (((ln a0 : Nat) : Int) > 8))
 (some (false, ()))
 (ob (Gv ((a0, a0, ((ln a0 : Nat) : Int), 0, ()), ())) (se (fun y22 => (some (true, ()))) (fun z23 => (some (z23.1.1, ()))))))
def Lv (t1 : Int) (t4 : Unit) (t8 : Wd) (t9 : Int) (t10 : Int) (b4 : Va) : Option (((Int × (Unit × Lp)) × EI) ⊕ ((De × EI) ⊕ ((Unit × Rc) × EI))) :=
 (cond (decide (t10 < t9))
 (ob (Ab t8 t10) fun x3 =>
 (cond (x3.2.1 == t1)
 (some (.inr (.inr (((), true, ()), (x3, ())))))
 (some (.inl ((t1, (), t8, t9, (wr .i64 (t10 + 1)), ()), (b4, ()))))))
 (some (.inr (.inl (((), ()), (b4, ()))))))
def Gy := Ua fun x : ((Int × (Unit × Lp)) × EI) => Lv x.1.1 x.1.2.1 x.1.2.2.1 x.1.2.2.2.1 x.1.2.2.2.2.1 x.2.1
def WA (a0 : Wd) (a1 : Int) : Option (Va × Rc) :=
 (ob (Gy ((a1, (), a0, ((ln a0 : Nat) : Int), 0, ()), ((0, 0, ()), ()))) (se (fun y4 => (some ((0, 0, ()), false, ()))) (fun z5 => (some (z5.2.1, z5.1.2.1, ())))))
def Ho (t1 : Unit) (t3 : Int) (t9 : Qd) (t10 : Int) (t11 : Int) (b1 : Oa) : Option (((Unit × Oy) × IC) ⊕ Jk) :=
 (cond (decide (t11 < t10))
 (ob (Ab t9 t11) fun x7 =>
 (ob (WA b1.1 x7.1) fun r8 =>
 (cond (!r8.2.1)
 (some (.inr (.inr ((false, ()), ()))))
 (ob (Le t3 x7.1) fun r9 =>
 (cond (r9.1 == 1)
 (some (.inr (.inr ((false, ()), ()))))
 (cond (decide (x7.2.1 ≤ 0))
 (some (.inr (.inr ((false, ()), ()))))
 (cond ((Jb .i64 x7.2.1 r8.1.1) != 0)
 (some (.inr (.inr ((false, ()), ()))))
 (cond (x7.2.2.1 != (x7.2.1 == r8.1.1))
 (some (.inr (.inr ((false, ()), ()))))
 (cond (decide (0 ≤ x7.1))
 (some (.inl (((), (Oc .i64 t3 (Sa .i64 1 x7.1)), t9, t10, (wr .i64 (t11 + 1)), ()), (b1, ()))))
 none)))))))))
 (some (.inr (.inl ((), ())))))
def Br := Ua fun x : ((Unit × Oy) × IC) => Ho x.1.1 x.1.2.1 x.1.2.2.1 x.1.2.2.2.1 x.1.2.2.2.2.1 x.2.1
def Xy (a0 : Oa) : Option Rc :=
 (ob (Br (((), 0, a0.2.2.2.2.2.2.1, ((ln a0.2.2.2.2.2.2.1 : Nat) : Int), 0, ()), (a0, ()))) (se (fun y10 => (some (true, ()))) (fun z11 => (some (z11.1.1, ())))))
def Hl (t4 : Int) (t10 : Qd) (t11 : Int) (t12 : Int) : Option ((Oy × Unit) ⊕ (MX ⊕ (Uu × Unit))) :=
 (cond (decide (t12 < t11))
 (ob (Ab t10 t12) fun x3 =>
 (cond ((Wa .i64 t4 x3.2.1) != 0)
 (some (.inr (.inr ((0, false, ()), ()))))
 (some (.inl (((Oc .i64 t4 x3.2.1), t10, t11, (wr .i64 (t12 + 1)), ()), ())))))
 (some (.inr (.inl ((t4, ()), ())))))
def Un := Ua fun x : (Oy × Unit) => Hl x.1.1 x.1.2.1 x.1.2.2.1 x.1.2.2.2.1
def Yh (a0 : Oa) : Option Uu :=
 (ob (Un ((a0.2.2.2.2.2.1, a0.2.2.2.2.2.2.1, ((ln a0.2.2.2.2.2.2.1 : Nat) : Int), 0, ()), ())) (se (fun y4 => (some (y4.1.1, true, ()))) (fun z5 => (some z5.1))))
def Rp (a0 : Oa) : Option Rc :=
 (ob (Ww a0.1) fun r1 =>
 (cond (!r1.1)
 (some (false, ()))
 (cond (decide (a0.2.1 < 1))
 (some (false, ()))
 (cond (decide (a0.2.1 > 200))
 (some (false, ()))
 (cond (decide (a0.2.2.2.1 < 0))
 (some (false, ()))
 (cond (decide (a0.2.2.2.1 > 1000000))
 (some (false, ()))
 (cond (decide (a0.2.2.2.2.1 < 0))
 (some (false, ()))
 (cond (decide (a0.2.2.2.2.1 > a0.2.2.2.1))
 (some (false, ()))
 (cond (decide (a0.2.2.2.2.2.1 < 0))
 (some (false, ()))
 (cond (decide (a0.2.2.2.2.2.1 > 16777215))
 (some (false, ()))
 (ob (Xy a0) fun r2 =>
 (cond (!r2.1)
 (some (false, ()))
 (ob (Yh a0) fun r3 =>
 (cond r3.2.1
 (ob (Uh a0.2.2.1 r3.1 24) fun r4 =>
 (cond r4.1
 (ob (Sh a0.2.2.1 a0.2.2.2.1) fun r5 =>
 (some (r5.1, ())))
 (some (false, ()))))
 (some (false, ()))))))))))))))))
def Wp (t0 : Int) (t7 : Qd) (t8 : Int) (t9 : Int) : Option ((Oy × Unit) ⊕ KC) :=
 (cond (decide (t9 < t8))
 (ob (Ab t7 t9) fun x3 =>
 (cond x3.2.2.1
 (cond (decide (0 ≤ x3.2.1))
 (some (.inl (((Oc .i64 t0 (Sa .i64 1 x3.2.1)), t7, t8, (wr .i64 (t9 + 1)), ()), ())))
 none)
 (cond (decide (0 ≤ x3.2.1))
 (some (.inl (((Jb .i64 t0 (Sa .i64 1 x3.2.1)), t7, t8, (wr .i64 (t9 + 1)), ()), ())))
 none)))
 (some (.inr (.inl ((t0, ()), ())))))
def Rt := Ua fun x : (Oy × Unit) => Wp x.1.1 x.1.2.1 x.1.2.2.1 x.1.2.2.2.1
def Qt (a0 : Int) (a1 : Qd) : Option Lc :=
 (ob (Rt ((a0, a1, ((ln a1 : Nat) : Int), 0, ()), ())) (se (fun y4 => (some (y4.1.1, ()))) (fun z5 => none)))
def Fv (t1 : Unit) (t3 : Int) (t62 : Wd) (t63 : Int) (t64 : Int) (b1 : Zc) : Option (((Unit × (Int × Lp)) × QL) ⊕ ((De × QL) ⊕ Al)) :=
 (cond (decide (t64 < t63))
 (ob (Ab t62 t64) fun x12 =>
 (ob (Zm b1.1 x12.1) fun r13 =>
 (cond (!r13.1)
 (some (.inr (.inr ((false, ()), ()))))
 (cond (decide (x12.2.1 ≥ t3))
 (some (.inr (.inr ((false, ()), ()))))
 (some (.inl (((), t3, t62, t63, (wr .i64 (t64 + 1)), ()), (b1, ()))))))))
 (some (.inr (.inl (((), ()), (b1, ()))))))
def Cy := Ua fun x : ((Unit × (Int × Lp)) × QL) => Fv x.1.1 x.1.2.1 x.1.2.2.1 x.1.2.2.2.1 x.1.2.2.2.2.1 x.2.1
def Wr (t1 : Unit) (t6 : Int) (t8 : Int) (t116 : Qd) (t117 : Int) (t118 : Int) (b1 : Zc) : Option (((Unit × (Int × Oy)) × QL) ⊕ ((Tu × QL) ⊕ De)) :=
 (cond (decide (t118 < t117))
 (ob (Ab t116 t118) fun x19 =>
 (cond x19.2.2.1
 (cond (decide (0 ≤ x19.1))
 (some (.inl (((), t6, (Oc .i64 t8 (Sa .i64 1 x19.1)), t116, t117, (wr .i64 (t118 + 1)), ()), (b1, ()))))
 none)
 (some (.inl (((), t6, t8, t116, t117, (wr .i64 (t118 + 1)), ()), (b1, ()))))))
 (some (.inr (.inl (((), t6, t8, ()), (b1, ()))))))
def Hm := Ua fun x : ((Unit × (Int × Oy)) × QL) => Wr x.1.1 x.1.2.1 x.1.2.2.1 x.1.2.2.2.1 x.1.2.2.2.2.1 x.1.2.2.2.2.2.1 x.2.1
def UI (a0 : Zc) : Option Rc :=
 (ob (Fp a0.1) fun r1 =>
 (cond (!r1.1)
 (some (false, ()))
 (ob (Qn a0.2.1) fun r2 =>
 (cond (!r2.1)
 (some (false, ()))
 (ob (Rp a0.2.2.1) fun r3 =>
 (cond (!r3.1)
 (some (false, ()))
 (ob (Lt a0.2.2.2.1) fun r4 =>
 (cond (!r4.1)
 (some (false, ()))
 (ob (Sj a0.1) fun r5 =>
 (cond (a0.2.1.2.2.1 != r5.1)
 (some (false, ()))
 (ob (Sj a0.1) fun r6 =>
 (cond (decide (a0.2.2.2.1.1.1.1 < r6.1))
 (some (false, ()))
 (ob (Zm a0.1 a0.2.2.2.2.1) fun r7 =>
 (cond (!r7.1)
 (some (false, ()))
 (ob (Cy (((), a0.2.2.2.1.1.1.1, a0.2.2.1.1, ((ln a0.2.2.1.1 : Nat) : Int), 0, ()), (a0, ()))) (se (fun y14 => (cond (decide (y14.2.1.2.2.2.2.2.1 < 0))
 (some (false, ()))
 (cond (decide (y14.2.1.2.2.2.2.2.1 > 1000000))
 (some (false, ()))
 (cond (decide (y14.2.1.2.2.1.2.2.2.1 > y14.2.1.2.2.2.2.2.1))
 (some (false, ()))
 (cond (decide (y14.2.1.2.2.2.1.2.2.2.1 > y14.2.1.2.2.2.2.2.1))
 (some (false, ()))
 (ob (Yh y14.2.1.2.2.1) fun r16 =>
 (ob (Hm (((), r16.1, y14.2.1.2.2.1.2.2.2.2.2.1, y14.2.1.2.2.1.2.2.2.2.2.2.1, ((ln y14.2.1.2.2.1.2.2.2.2.2.2.1 : Nat) : Int), 0, ()), (y14.2.1, ()))) (se (fun y20 => (ob (Qt y20.1.2.1 y20.2.1.2.2.1.2.2.1) fun r22 =>
 (cond (r22.1 == y20.2.1.2.1.2.2.2.1)
 (ob (Sl y20.2.1.2.2.2.1.1.2.2.2.1) fun r23 =>
 (ob (Qt r23.1 y20.2.1.2.2.2.1.2.2.1) fun r24 =>
 (some ((r24.1 == y20.1.2.2.1), ()))))
 (some (false, ()))))) (fun z21 => none))))))))) (fun z15 => (some (z15.1.1, ())))))))))))))))))))
def Am (a0 : Oa) : Option IC :=
 (cond (bl (ln ([] : List Va) + ln a0.1) Ta)
 (cond (bl (ln ([] : List Ca) + ln a0.2.2.1) Ta)
 (cond (bl (ln ([] : List Ca) + ln a0.2.2.2.2.2.2.1) Ta)
 (some (((ap [] a0.1), a0.2.1, (ap [] a0.2.2.1), a0.2.2.2.1, a0.2.2.2.2.1, a0.2.2.2.2.2.1, (ap [] a0.2.2.2.2.2.2.1), a0.2.2.2.2.2.2.2), ()))
 none)
 none)
 none)
def Ui (t1 : Int) (t2 : Unit) (t4 : Unit) (t6 : Unit) (t27 : Mf) (t28 : Int) (t29 : Int) (b2 : Ob) (b4 : Ob) (b6 : Ob) : Option (((Int × (Unit × (Unit × ZS))) × Z9) ⊕ (((Int × EQ) × (Ob × WN)) ⊕ De)) :=
 (cond (decide (t29 < t28))
 (ob (Ab t27 t29) fun x53 =>
 (cond (b2.1 == 0)
 (ob (Le t1 t29) fun r54 =>
 (ob (Le b2.2.2.2.2.1 t29) fun r55 =>
 (cond (r54.1 != r55.1)
 (cond (decide (1 ≥ b2.2.1))
 (ob (Le t1 t29) fun r56 =>
 (ob (Le b2.2.2.2.1 t29) fun r57 =>
 (cond (r56.1 != r57.1)
 (cond (decide (0 ≤ t29))
 (cond (b2.1 == 2)
 (cond (bl (ln b6.2.2.2.2.2.1 + ln ([0] : List Int)) Ta)
 (some (.inl ((t1, (), (), (), t27, t28, (wr .i64 (t29 + 1)), ()), (b2, b4, (b6.1, b6.2.1, b6.2.2.1, (Me .i64 b6.2.2.2.1 (Sa .i64 1 t29)), b6.2.2.2.2.1, (ap b6.2.2.2.2.2.1 ([0] : List Int)), b6.2.2.2.2.2.2), ()))))
 none)
 (cond (bl (ln b6.2.2.2.2.2.1 + ln ([1] : List Int)) Ta)
 (some (.inl ((t1, (), (), (), t27, t28, (wr .i64 (t29 + 1)), ()), (b2, b4, (b6.1, b6.2.1, b6.2.2.1, (Me .i64 b6.2.2.2.1 (Sa .i64 1 t29)), b6.2.2.2.2.1, (ap b6.2.2.2.2.2.1 ([1] : List Int)), b6.2.2.2.2.2.2), ()))))
 none))
 none)
 (cond (bl (ln b6.2.2.2.2.2.1 + ln ([1] : List Int)) Ta)
 (some (.inl ((t1, (), (), (), t27, t28, (wr .i64 (t29 + 1)), ()), (b2, b4, (b6.1, b6.2.1, b6.2.2.1, b6.2.2.2.1, b6.2.2.2.2.1, (ap b6.2.2.2.2.2.1 ([1] : List Int)), b6.2.2.2.2.2.2), ()))))
 none))))
 (cond (bl (ln b6.2.2.2.2.2.1 + ln ([1] : List Int)) Ta)
 (some (.inl ((t1, (), (), (), t27, t28, (wr .i64 (t29 + 1)), ()), (b2, b4, (b6.1, b6.2.1, b6.2.2.1, b6.2.2.2.1, b6.2.2.2.2.1, (ap b6.2.2.2.2.2.1 ([1] : List Int)), b6.2.2.2.2.2.2), ()))))
 none))
 (cond (b2.1 == 1)
 (cond (t1 != b2.2.2.2.2.1)
 (cond (decide (1 ≥ b2.2.1))
 (ob (Le t1 t29) fun r58 =>
 (ob (Le b2.2.2.2.1 t29) fun r59 =>
 (cond (r58.1 != r59.1)
 (cond (decide (0 ≤ t29))
 (cond (b2.1 == 2)
 (cond (bl (ln b6.2.2.2.2.2.1 + ln ([0] : List Int)) Ta)
 (some (.inl ((t1, (), (), (), t27, t28, (wr .i64 (t29 + 1)), ()), (b2, b4, (b6.1, b6.2.1, b6.2.2.1, (Me .i64 b6.2.2.2.1 (Sa .i64 1 t29)), b6.2.2.2.2.1, (ap b6.2.2.2.2.2.1 ([0] : List Int)), b6.2.2.2.2.2.2), ()))))
 none)
 (cond (bl (ln b6.2.2.2.2.2.1 + ln ([1] : List Int)) Ta)
 (some (.inl ((t1, (), (), (), t27, t28, (wr .i64 (t29 + 1)), ()), (b2, b4, (b6.1, b6.2.1, b6.2.2.1, (Me .i64 b6.2.2.2.1 (Sa .i64 1 t29)), b6.2.2.2.2.1, (ap b6.2.2.2.2.2.1 ([1] : List Int)), b6.2.2.2.2.2.2), ()))))
 none))
 none)
 (cond (bl (ln b6.2.2.2.2.2.1 + ln ([1] : List Int)) Ta)
 (some (.inl ((t1, (), (), (), t27, t28, (wr .i64 (t29 + 1)), ()), (b2, b4, (b6.1, b6.2.1, b6.2.2.1, b6.2.2.2.1, b6.2.2.2.2.1, (ap b6.2.2.2.2.2.1 ([1] : List Int)), b6.2.2.2.2.2.2), ()))))
 none))))
 (cond (bl (ln b6.2.2.2.2.2.1 + ln ([1] : List Int)) Ta)
 (some (.inl ((t1, (), (), (), t27, t28, (wr .i64 (t29 + 1)), ()), (b2, b4, (b6.1, b6.2.1, b6.2.2.1, b6.2.2.2.1, b6.2.2.2.2.1, (ap b6.2.2.2.2.2.1 ([1] : List Int)), b6.2.2.2.2.2.2), ()))))
 none))
 (cond (decide ((min (wr .i64 (x53 + 1)) 99) ≥ b2.2.1))
 (ob (Le t1 t29) fun r60 =>
 (ob (Le b2.2.2.2.1 t29) fun r61 =>
 (cond (r60.1 != r61.1)
 (cond (decide (0 ≤ t29))
 (cond (b2.1 == 2)
 (cond (bl (ln b6.2.2.2.2.2.1 + ln ([0] : List Int)) Ta)
 (some (.inl ((t1, (), (), (), t27, t28, (wr .i64 (t29 + 1)), ()), (b2, b4, (b6.1, b6.2.1, b6.2.2.1, (Me .i64 b6.2.2.2.1 (Sa .i64 1 t29)), b6.2.2.2.2.1, (ap b6.2.2.2.2.2.1 ([0] : List Int)), b6.2.2.2.2.2.2), ()))))
 none)
 (cond (bl (ln b6.2.2.2.2.2.1 + ln ([(min (wr .i64 (x53 + 1)) 99)] : List Int)) Ta)
 (some (.inl ((t1, (), (), (), t27, t28, (wr .i64 (t29 + 1)), ()), (b2, b4, (b6.1, b6.2.1, b6.2.2.1, (Me .i64 b6.2.2.2.1 (Sa .i64 1 t29)), b6.2.2.2.2.1, (ap b6.2.2.2.2.2.1 ([(min (wr .i64 (x53 + 1)) 99)] : List Int)), b6.2.2.2.2.2.2), ()))))
 none))
 none)
 (cond (bl (ln b6.2.2.2.2.2.1 + ln ([(min (wr .i64 (x53 + 1)) 99)] : List Int)) Ta)
 (some (.inl ((t1, (), (), (), t27, t28, (wr .i64 (t29 + 1)), ()), (b2, b4, (b6.1, b6.2.1, b6.2.2.1, b6.2.2.2.1, b6.2.2.2.2.1, (ap b6.2.2.2.2.2.1 ([(min (wr .i64 (x53 + 1)) 99)] : List Int)), b6.2.2.2.2.2.2), ()))))
 none))))
 (cond (bl (ln b6.2.2.2.2.2.1 + ln ([(min (wr .i64 (x53 + 1)) 99)] : List Int)) Ta)
 (some (.inl ((t1, (), (), (), t27, t28, (wr .i64 (t29 + 1)), ()), (b2, b4, (b6.1, b6.2.1, b6.2.2.1, b6.2.2.2.1, b6.2.2.2.2.1, (ap b6.2.2.2.2.2.1 ([(min (wr .i64 (x53 + 1)) 99)] : List Int)), b6.2.2.2.2.2.2), ()))))
 none)))
 (cond (decide ((min (wr .i64 (x53 + 1)) 99) ≥ b2.2.1))
 (ob (Le t1 t29) fun r62 =>
 (ob (Le b2.2.2.2.1 t29) fun r63 =>
 (cond (r62.1 != r63.1)
 (cond (decide (0 ≤ t29))
 (cond (b2.1 == 2)
 (cond (bl (ln b6.2.2.2.2.2.1 + ln ([0] : List Int)) Ta)
 (some (.inl ((t1, (), (), (), t27, t28, (wr .i64 (t29 + 1)), ()), (b2, b4, (b6.1, b6.2.1, b6.2.2.1, (Me .i64 b6.2.2.2.1 (Sa .i64 1 t29)), b6.2.2.2.2.1, (ap b6.2.2.2.2.2.1 ([0] : List Int)), b6.2.2.2.2.2.2), ()))))
 none)
 (cond (bl (ln b6.2.2.2.2.2.1 + ln ([(min (wr .i64 (x53 + 1)) 99)] : List Int)) Ta)
 (some (.inl ((t1, (), (), (), t27, t28, (wr .i64 (t29 + 1)), ()), (b2, b4, (b6.1, b6.2.1, b6.2.2.1, (Me .i64 b6.2.2.2.1 (Sa .i64 1 t29)), b6.2.2.2.2.1, (ap b6.2.2.2.2.2.1 ([(min (wr .i64 (x53 + 1)) 99)] : List Int)), b6.2.2.2.2.2.2), ()))))
 none))
 none)
 (cond (bl (ln b6.2.2.2.2.2.1 + ln ([(min (wr .i64 (x53 + 1)) 99)] : List Int)) Ta)
 (some (.inl ((t1, (), (), (), t27, t28, (wr .i64 (t29 + 1)), ()), (b2, b4, (b6.1, b6.2.1, b6.2.2.1, b6.2.2.2.1, b6.2.2.2.2.1, (ap b6.2.2.2.2.2.1 ([(min (wr .i64 (x53 + 1)) 99)] : List Int)), b6.2.2.2.2.2.2), ()))))
 none))))
 (cond (bl (ln b6.2.2.2.2.2.1 + ln ([(min (wr .i64 (x53 + 1)) 99)] : List Int)) Ta)
 (some (.inl ((t1, (), (), (), t27, t28, (wr .i64 (t29 + 1)), ()), (b2, b4, (b6.1, b6.2.1, b6.2.2.1, b6.2.2.2.1, b6.2.2.2.2.1, (ap b6.2.2.2.2.2.1 ([(min (wr .i64 (x53 + 1)) 99)] : List Int)), b6.2.2.2.2.2.2), ()))))
 none))))))
 (cond (b2.1 == 1)
 (cond (t1 != b2.2.2.2.2.1)
 (cond (decide (1 ≥ b2.2.1))
 (ob (Le t1 t29) fun r64 =>
 (ob (Le b2.2.2.2.1 t29) fun r65 =>
 (cond (r64.1 != r65.1)
 (cond (decide (0 ≤ t29))
 (cond (b2.1 == 2)
 (cond (bl (ln b6.2.2.2.2.2.1 + ln ([0] : List Int)) Ta)
 (some (.inl ((t1, (), (), (), t27, t28, (wr .i64 (t29 + 1)), ()), (b2, b4, (b6.1, b6.2.1, b6.2.2.1, (Me .i64 b6.2.2.2.1 (Sa .i64 1 t29)), b6.2.2.2.2.1, (ap b6.2.2.2.2.2.1 ([0] : List Int)), b6.2.2.2.2.2.2), ()))))
 none)
 (cond (bl (ln b6.2.2.2.2.2.1 + ln ([1] : List Int)) Ta)
 (some (.inl ((t1, (), (), (), t27, t28, (wr .i64 (t29 + 1)), ()), (b2, b4, (b6.1, b6.2.1, b6.2.2.1, (Me .i64 b6.2.2.2.1 (Sa .i64 1 t29)), b6.2.2.2.2.1, (ap b6.2.2.2.2.2.1 ([1] : List Int)), b6.2.2.2.2.2.2), ()))))
 none))
 none)
 (cond (bl (ln b6.2.2.2.2.2.1 + ln ([1] : List Int)) Ta)
 (some (.inl ((t1, (), (), (), t27, t28, (wr .i64 (t29 + 1)), ()), (b2, b4, (b6.1, b6.2.1, b6.2.2.1, b6.2.2.2.1, b6.2.2.2.2.1, (ap b6.2.2.2.2.2.1 ([1] : List Int)), b6.2.2.2.2.2.2), ()))))
 none))))
 (cond (bl (ln b6.2.2.2.2.2.1 + ln ([1] : List Int)) Ta)
 (some (.inl ((t1, (), (), (), t27, t28, (wr .i64 (t29 + 1)), ()), (b2, b4, (b6.1, b6.2.1, b6.2.2.1, b6.2.2.2.1, b6.2.2.2.2.1, (ap b6.2.2.2.2.2.1 ([1] : List Int)), b6.2.2.2.2.2.2), ()))))
 none))
 (cond (decide ((min (wr .i64 (x53 + 1)) 99) ≥ b2.2.1))
 (ob (Le t1 t29) fun r66 =>
 (ob (Le b2.2.2.2.1 t29) fun r67 =>
 (cond (r66.1 != r67.1)
 (cond (decide (0 ≤ t29))
 (cond (b2.1 == 2)
 (cond (bl (ln b6.2.2.2.2.2.1 + ln ([0] : List Int)) Ta)
 (some (.inl ((t1, (), (), (), t27, t28, (wr .i64 (t29 + 1)), ()), (b2, b4, (b6.1, b6.2.1, b6.2.2.1, (Me .i64 b6.2.2.2.1 (Sa .i64 1 t29)), b6.2.2.2.2.1, (ap b6.2.2.2.2.2.1 ([0] : List Int)), b6.2.2.2.2.2.2), ()))))
 none)
 (cond (bl (ln b6.2.2.2.2.2.1 + ln ([(min (wr .i64 (x53 + 1)) 99)] : List Int)) Ta)
 (some (.inl ((t1, (), (), (), t27, t28, (wr .i64 (t29 + 1)), ()), (b2, b4, (b6.1, b6.2.1, b6.2.2.1, (Me .i64 b6.2.2.2.1 (Sa .i64 1 t29)), b6.2.2.2.2.1, (ap b6.2.2.2.2.2.1 ([(min (wr .i64 (x53 + 1)) 99)] : List Int)), b6.2.2.2.2.2.2), ()))))
 none))
 none)
 (cond (bl (ln b6.2.2.2.2.2.1 + ln ([(min (wr .i64 (x53 + 1)) 99)] : List Int)) Ta)
 (some (.inl ((t1, (), (), (), t27, t28, (wr .i64 (t29 + 1)), ()), (b2, b4, (b6.1, b6.2.1, b6.2.2.1, b6.2.2.2.1, b6.2.2.2.2.1, (ap b6.2.2.2.2.2.1 ([(min (wr .i64 (x53 + 1)) 99)] : List Int)), b6.2.2.2.2.2.2), ()))))
 none))))
 (cond (bl (ln b6.2.2.2.2.2.1 + ln ([(min (wr .i64 (x53 + 1)) 99)] : List Int)) Ta)
 (some (.inl ((t1, (), (), (), t27, t28, (wr .i64 (t29 + 1)), ()), (b2, b4, (b6.1, b6.2.1, b6.2.2.1, b6.2.2.2.1, b6.2.2.2.2.1, (ap b6.2.2.2.2.2.1 ([(min (wr .i64 (x53 + 1)) 99)] : List Int)), b6.2.2.2.2.2.2), ()))))
 none)))
 (cond (decide ((min (wr .i64 (x53 + 1)) 99) ≥ b2.2.1))
 (ob (Le t1 t29) fun r68 =>
 (ob (Le b2.2.2.2.1 t29) fun r69 =>
 (cond (r68.1 != r69.1)
 (cond (decide (0 ≤ t29))
 (cond (b2.1 == 2)
 (cond (bl (ln b6.2.2.2.2.2.1 + ln ([0] : List Int)) Ta)
 (some (.inl ((t1, (), (), (), t27, t28, (wr .i64 (t29 + 1)), ()), (b2, b4, (b6.1, b6.2.1, b6.2.2.1, (Me .i64 b6.2.2.2.1 (Sa .i64 1 t29)), b6.2.2.2.2.1, (ap b6.2.2.2.2.2.1 ([0] : List Int)), b6.2.2.2.2.2.2), ()))))
 none)
 (cond (bl (ln b6.2.2.2.2.2.1 + ln ([(min (wr .i64 (x53 + 1)) 99)] : List Int)) Ta)
 (some (.inl ((t1, (), (), (), t27, t28, (wr .i64 (t29 + 1)), ()), (b2, b4, (b6.1, b6.2.1, b6.2.2.1, (Me .i64 b6.2.2.2.1 (Sa .i64 1 t29)), b6.2.2.2.2.1, (ap b6.2.2.2.2.2.1 ([(min (wr .i64 (x53 + 1)) 99)] : List Int)), b6.2.2.2.2.2.2), ()))))
 none))
 none)
 (cond (bl (ln b6.2.2.2.2.2.1 + ln ([(min (wr .i64 (x53 + 1)) 99)] : List Int)) Ta)
 (some (.inl ((t1, (), (), (), t27, t28, (wr .i64 (t29 + 1)), ()), (b2, b4, (b6.1, b6.2.1, b6.2.2.1, b6.2.2.2.1, b6.2.2.2.2.1, (ap b6.2.2.2.2.2.1 ([(min (wr .i64 (x53 + 1)) 99)] : List Int)), b6.2.2.2.2.2.2), ()))))
 none))))
 (cond (bl (ln b6.2.2.2.2.2.1 + ln ([(min (wr .i64 (x53 + 1)) 99)] : List Int)) Ta)
 (some (.inl ((t1, (), (), (), t27, t28, (wr .i64 (t29 + 1)), ()), (b2, b4, (b6.1, b6.2.1, b6.2.2.1, b6.2.2.2.1, b6.2.2.2.2.1, (ap b6.2.2.2.2.2.1 ([(min (wr .i64 (x53 + 1)) 99)] : List Int)), b6.2.2.2.2.2.2), ()))))
 none)))))
 (some (.inr (.inl ((t1, (), (), ()), (b4, b6, ()))))))
def Pn := Ua fun x : ((Int × (Unit × (Unit × ZS))) × Z9) => Ui x.1.1 x.1.2.1 x.1.2.2.1 x.1.2.2.2.1 x.1.2.2.2.2.1 x.1.2.2.2.2.2.1 x.1.2.2.2.2.2.2.1 x.2.1 x.2.2.1 x.2.2.2.1
def Zl (a0 : Ob) (a1 : Int) : Option (Ob × Rc) :=
 (ob (Qn a0) fun r1 =>
 (cond (!r1.1)
 (some ((0, 0, 0, 0, 0, [], ()), false, ()))
 (cond (decide (a1 < 0))
 (some ((0, 0, 0, 0, 0, [], ()), false, ()))
 (cond (decide (0 ≤ a0.2.2.1))
 (cond (decide (a1 ≥ (Sa .i64 1 a0.2.2.1)))
 (some ((0, 0, 0, 0, 0, [], ()), false, ()))
 (ob (Pn ((a1, (), (), (), a0.2.2.2.2.2.1, ((ln a0.2.2.2.2.2.1 : Nat) : Int), 0, ()), (a0, (0, 0, 0, 0, 0, [], ()), (a0.1, a0.2.1, a0.2.2.1, a0.2.2.2.1, a0.2.2.2.2.1, [], a0.2.2.2.2.2.2), ()))) (se (fun y70 => (some ((y70.2.2.1.1, y70.2.2.1.2.1, y70.2.2.1.2.2.1, y70.2.2.1.2.2.2.1, y70.1.1, y70.2.2.1.2.2.2.2.2), true, ()))) (fun z71 => none))))
 none))))
def Pk (t0 : Int) (t1 : Int) (t2 : Int) (t7 : Qd) (t8 : Int) : Option (((Int × (Int × (Int × GI))) × Unit) ⊕ ((JC × Unit) ⊕ De)) :=
 (cond (decide (t8 ≤ 31))
 (ob (Le t0 t8) fun r10 =>
 (ob (Le t1 t8) fun r11 =>
 (cond (r10.1 != r11.1)
 (ob (Le t1 t8) fun r12 =>
 (cond (bl (ln t7 + ln ([(t2, t8, (r12.1 == 1), ())] : List Ca)) Ta)
 (some (.inl ((t0, t1, t2, (ap t7 ([(t2, t8, (r12.1 == 1), ())] : List Ca)), (wr .i64 (t8 + 1)), ()), ())))
 none))
 (some (.inl ((t0, t1, t2, t7, (wr .i64 (t8 + 1)), ()), ()))))))
 (some (.inr (.inl ((t7, ()), ())))))
def Nm := Ua fun x : ((Int × (Int × (Int × GI))) × Unit) => Pk x.1.1 x.1.2.1 x.1.2.2.1 x.1.2.2.2.1 x.1.2.2.2.2.1
def Vp (a0 : Int) (a1 : Int) (a2 : Int) : Option JC :=
 (ob (Nm ((a0, a1, a2, [], 0, ()), ())) (se (fun y13 => (some (y13.1.1, ()))) (fun z14 => none)))
def Gm (t0 : Unit) (t1 : Int) (t2 : Int) (t14 : Int) (t15 : Int) (b500000 : Oa) : Option ((Haa × IC) ⊕ (AQ ⊕ OX)) :=
 (cond (decide (t15 < t14))
 (cond (Xe (ln b500000.2.2.2.2.2.2.1) t15)
 (ob b500000.2.2.2.2.2.2.1[(tn t15)]? fun x19 =>
 (ob (Le x19.2.1 t1) fun r20 =>
 (cond (r20.1 == 0)
 (some (.inl (((), t1, t2, t14, (wr .i64 (t15 + 1)), ()), (b500000, ()))))
 (ob b500000.2.2.2.2.2.2.1[(tn t15)]? fun x21 =>
 (cond (decide (0 ≤ t1))
 (ob b500000.2.2.2.2.2.2.1[(tn t15)]? fun x22 =>
 (ob (ls b500000.2.2.2.2.2.2.1 (tn t15) (x22.1, (Jb .i64 x21.2.1 (Sa .i64 1 t1)), x22.2.2))[(tn t15)]? fun x23 =>
 (cond x23.2.2.1
 (ob (ls b500000.2.2.2.2.2.2.1 (tn t15) (x22.1, (Jb .i64 x21.2.1 (Sa .i64 1 t1)), x22.2.2))[(tn t15)]? fun x24 =>
 (ob (ls (ls b500000.2.2.2.2.2.2.1 (tn t15) (x22.1, (Jb .i64 x21.2.1 (Sa .i64 1 t1)), x22.2.2)) (tn t15) (x24.1, x24.2.1, false, x24.2.2.2))[(tn t15)]? fun x25 =>
 (ob (ls (ls b500000.2.2.2.2.2.2.1 (tn t15) (x22.1, (Jb .i64 x21.2.1 (Sa .i64 1 t1)), x22.2.2)) (tn t15) (x24.1, x24.2.1, false, x24.2.2.2))[(tn t15)]? fun x26 =>
 (cond (x26.2.1 == 0)
 (cond (Md (ln (ls (ls b500000.2.2.2.2.2.2.1 (tn t15) (x22.1, (Jb .i64 x21.2.1 (Sa .i64 1 t1)), x22.2.2)) (tn t15) (x24.1, x24.2.1, false, x24.2.2.2))) 0 t15)
 (cond (bl (ln ([] : List Ca) + ln (Eb (ls (ls b500000.2.2.2.2.2.2.1 (tn t15) (x22.1, (Jb .i64 x21.2.1 (Sa .i64 1 t1)), x22.2.2)) (tn t15) (x24.1, x24.2.1, false, x24.2.2.2)) (tn 0) (tn t15))) Ta)
 (cond (Md (ln (ls (ls b500000.2.2.2.2.2.2.1 (tn t15) (x22.1, (Jb .i64 x21.2.1 (Sa .i64 1 t1)), x22.2.2)) (tn t15) (x24.1, x24.2.1, false, x24.2.2.2))) (wr .i64 (t15 + 1)) ((ln (ls (ls b500000.2.2.2.2.2.2.1 (tn t15) (x22.1, (Jb .i64 x21.2.1 (Sa .i64 1 t1)), x22.2.2)) (tn t15) (x24.1, x24.2.1, false, x24.2.2.2)) : Nat) : Int))
 (cond (bl (ln (ap [] (Eb (ls (ls b500000.2.2.2.2.2.2.1 (tn t15) (x22.1, (Jb .i64 x21.2.1 (Sa .i64 1 t1)), x22.2.2)) (tn t15) (x24.1, x24.2.1, false, x24.2.2.2)) (tn 0) (tn t15))) + ln (Eb (ls (ls b500000.2.2.2.2.2.2.1 (tn t15) (x22.1, (Jb .i64 x21.2.1 (Sa .i64 1 t1)), x22.2.2)) (tn t15) (x24.1, x24.2.1, false, x24.2.2.2)) (tn (wr .i64 (t15 + 1))) (tn ((ln (ls (ls b500000.2.2.2.2.2.2.1 (tn t15) (x22.1, (Jb .i64 x21.2.1 (Sa .i64 1 t1)), x22.2.2)) (tn t15) (x24.1, x24.2.1, false, x24.2.2.2)) : Nat) : Int)))) Ta)
 (some (.inr (.inr (((), ([(t2, x25.1, false, ())] : List Ca), ()), ((b500000.1, b500000.2.1, b500000.2.2.1, b500000.2.2.2.1, b500000.2.2.2.2.1, b500000.2.2.2.2.2.1, (ap (ap [] (Eb (ls (ls b500000.2.2.2.2.2.2.1 (tn t15) (x22.1, (Jb .i64 x21.2.1 (Sa .i64 1 t1)), x22.2.2)) (tn t15) (x24.1, x24.2.1, false, x24.2.2.2)) (tn 0) (tn t15))) (Eb (ls (ls b500000.2.2.2.2.2.2.1 (tn t15) (x22.1, (Jb .i64 x21.2.1 (Sa .i64 1 t1)), x22.2.2)) (tn t15) (x24.1, x24.2.1, false, x24.2.2.2)) (tn (wr .i64 (t15 + 1))) (tn ((ln (ls (ls b500000.2.2.2.2.2.2.1 (tn t15) (x22.1, (Jb .i64 x21.2.1 (Sa .i64 1 t1)), x22.2.2)) (tn t15) (x24.1, x24.2.1, false, x24.2.2.2)) : Nat) : Int)))), ()), ())))))
 none)
 none)
 none)
 none)
 (some (.inr (.inr (((), ([(t2, x25.1, false, ())] : List Ca), ()), ((b500000.1, b500000.2.1, b500000.2.2.1, b500000.2.2.2.1, b500000.2.2.2.2.1, b500000.2.2.2.2.2.1, (ls (ls b500000.2.2.2.2.2.2.1 (tn t15) (x22.1, (Jb .i64 x21.2.1 (Sa .i64 1 t1)), x22.2.2)) (tn t15) (x24.1, x24.2.1, false, x24.2.2.2)), ()), ())))))))))
 (ob (ls b500000.2.2.2.2.2.2.1 (tn t15) (x22.1, (Jb .i64 x21.2.1 (Sa .i64 1 t1)), x22.2.2))[(tn t15)]? fun x27 =>
 (cond (x27.2.1 == 0)
 (cond (Md (ln (ls b500000.2.2.2.2.2.2.1 (tn t15) (x22.1, (Jb .i64 x21.2.1 (Sa .i64 1 t1)), x22.2.2))) 0 t15)
 (cond (bl (ln ([] : List Ca) + ln (Eb (ls b500000.2.2.2.2.2.2.1 (tn t15) (x22.1, (Jb .i64 x21.2.1 (Sa .i64 1 t1)), x22.2.2)) (tn 0) (tn t15))) Ta)
 (cond (Md (ln (ls b500000.2.2.2.2.2.2.1 (tn t15) (x22.1, (Jb .i64 x21.2.1 (Sa .i64 1 t1)), x22.2.2))) (wr .i64 (t15 + 1)) ((ln (ls b500000.2.2.2.2.2.2.1 (tn t15) (x22.1, (Jb .i64 x21.2.1 (Sa .i64 1 t1)), x22.2.2)) : Nat) : Int))
 (cond (bl (ln (ap [] (Eb (ls b500000.2.2.2.2.2.2.1 (tn t15) (x22.1, (Jb .i64 x21.2.1 (Sa .i64 1 t1)), x22.2.2)) (tn 0) (tn t15))) + ln (Eb (ls b500000.2.2.2.2.2.2.1 (tn t15) (x22.1, (Jb .i64 x21.2.1 (Sa .i64 1 t1)), x22.2.2)) (tn (wr .i64 (t15 + 1))) (tn ((ln (ls b500000.2.2.2.2.2.2.1 (tn t15) (x22.1, (Jb .i64 x21.2.1 (Sa .i64 1 t1)), x22.2.2)) : Nat) : Int)))) Ta)
 (some (.inr (.inr (((), [], ()), ((b500000.1, b500000.2.1, b500000.2.2.1, b500000.2.2.2.1, b500000.2.2.2.2.1, b500000.2.2.2.2.2.1, (ap (ap [] (Eb (ls b500000.2.2.2.2.2.2.1 (tn t15) (x22.1, (Jb .i64 x21.2.1 (Sa .i64 1 t1)), x22.2.2)) (tn 0) (tn t15))) (Eb (ls b500000.2.2.2.2.2.2.1 (tn t15) (x22.1, (Jb .i64 x21.2.1 (Sa .i64 1 t1)), x22.2.2)) (tn (wr .i64 (t15 + 1))) (tn ((ln (ls b500000.2.2.2.2.2.2.1 (tn t15) (x22.1, (Jb .i64 x21.2.1 (Sa .i64 1 t1)), x22.2.2)) : Nat) : Int)))), ()), ())))))
 none)
 none)
 none)
 none)
 (some (.inr (.inr (((), [], ()), ((b500000.1, b500000.2.1, b500000.2.2.1, b500000.2.2.2.1, b500000.2.2.2.2.1, b500000.2.2.2.2.2.1, (ls b500000.2.2.2.2.2.2.1 (tn t15) (x22.1, (Jb .i64 x21.2.1 (Sa .i64 1 t1)), x22.2.2)), ()), ()))))))))))
 none)))))
 none)
 (some (.inr (.inl (((), t1, t2, ()), (b500000, ()))))))
def Yo := Ua fun x : (Haa × IC) => Gm x.1.1 x.1.2.1 x.1.2.2.1 x.1.2.2.2.1 x.1.2.2.2.2.1 x.2.1
def On (a0 : Oa) (a1 : Int) (a2 : Int) : Option (Oa × JC) :=
 (ob (Yo (((), a1, a2, ((ln a0.2.2.2.2.2.2.1 : Nat) : Int), 0, ()), (a0, ()))) (se (fun y28 => (cond (decide (0 ≤ y28.1.2.1))
 (some ((y28.2.1.1, y28.2.1.2.1, y28.2.1.2.2.1, y28.2.1.2.2.2.1, y28.2.1.2.2.2.2.1, (Jb .i64 y28.2.1.2.2.2.2.2.1 (Sa .i64 1 y28.1.2.1)), y28.2.1.2.2.2.2.2.2.1, ()), (([(y28.1.2.2.1, y28.1.2.1, false, ())] : List Ca), ())))
 none)) (fun z29 => (some (z29.2.1, (z29.1.2.1, ()))))))
def Wk (a0 : Ca) : Option Rc :=
 (ob (Mt a0) fun r1 =>
 (cond r1.1
 (some ((decide (a0.2.1 < 24)), ()))
 (some (false, ()))))
def Dz (t1 : Int) (t7 : Wd) (t8 : Int) (t9 : Int) : Option (((Int × Lp) × Unit) ⊕ Jk) :=
 (cond (decide (t9 < t8))
 (ob (Ab t7 t9) fun x3 =>
 (cond ((Jb .i64 t1 x3.1) == 0)
 (some (.inr (.inr ((true, ()), ()))))
 (some (.inl ((t1, t7, t8, (wr .i64 (t9 + 1)), ()), ())))))
 (some (.inr (.inl ((), ())))))
def EB := Ua fun x : ((Int × Lp) × Unit) => Dz x.1.1 x.1.2.1 x.1.2.2.1 x.1.2.2.2.1
def OE (a0 : Wd) (a1 : Int) : Option Rc :=
 (ob (EB ((a1, a0, ((ln a0 : Nat) : Int), 0, ()), ())) (se (fun y4 => (some (false, ()))) (fun z5 => (some (z5.1.1, ())))))
def Ko (t1 : Int) (t6 : Int) (t7 : Bool) (t10 : Wd) (t11 : Int) (t12 : Int) : Option (((Int × (Int × (Bool × Lp))) × Unit) ⊕ ((Uu × Unit) ⊕ De)) :=
 (cond (decide (t12 < t11))
 (ob (Ab t10 t12) fun x3 =>
 (cond (x3.1 == t1)
 (some (.inl ((t1, x3.2.1, t7, t10, t11, (wr .i64 (t12 + 1)), ()), ())))
 (cond ((Jb .i64 t1 x3.1) == 0)
 (some (.inl ((t1, t6, true, t10, t11, (wr .i64 (t12 + 1)), ()), ())))
 (some (.inl ((t1, t6, t7, t10, t11, (wr .i64 (t12 + 1)), ()), ()))))))
 (some (.inr (.inl ((t6, t7, ()), ())))))
def Hr := Ua fun x : ((Int × (Int × (Bool × Lp))) × Unit) => Ko x.1.1 x.1.2.1 x.1.2.2.1 x.1.2.2.2.1 x.1.2.2.2.2.1 x.1.2.2.2.2.2.1
def Il (a0 : Wd) (a1 : Int) : Option Uu :=
 (ob (Hr ((a1, (-1), false, a0, ((ln a0 : Nat) : Int), 0, ()), ())) (se (fun y4 => (some y4.1)) (fun z5 => none)))
def Mm (t0 : Wd) (t1 : Int) (t3 : Int) (t11 : Unit) (t12 : Int) (t13 : Int) (t14 : Int) (t15 : Bool) (t69 : Qd) (t70 : Int) (t71 : Int) (b11 : Ca) : Option (IaC ⊕ (((Wd × (Int × (Int × Ca))) × Unit) ⊕ LC)) :=
 (cond (decide (t71 < t70))
 (ob (Ab t69 t71) fun x15 =>
 (ob (Wk x15) fun r16 =>
 (cond (!r16.1)
 (some (.inr (.inr ((0, 0, (-1), ()), ()))))
 (cond (decide (x15.1 ≥ (wr .i64 (b11.1 + t1))))
 (some (.inr (.inl ((t0, t3, t12, (min t13 x15.1), t14, false, ()), ()))))
 (cond (!x15.2.2.1)
 (some (.inr (.inl ((t0, t3, t12, (min t13 x15.1), t14, false, ()), ()))))
 (cond (decide (0 ≤ x15.2.1))
 (ob (OE t0 (Oc .i64 t12 (Sa .i64 1 x15.2.1))) fun r17 =>
 (cond (!r17.1)
 (some (.inr (.inl ((t0, t3, t12, (min t13 x15.1), t14, false, ()), ()))))
 (cond (decide (0 ≤ x15.2.1))
 (ob (Il t0 (Oc .i64 t12 (Sa .i64 1 x15.2.1))) fun r18 =>
 (cond (decide (r18.1 ≥ 0))
 (cond (!r18.2.1)
 (some (.inr (.inr (((wr .i64 (t14 + 1)), x15.1, r18.1, ()), ()))))
 (some (.inl ((t0, t1, t3, (), (Oc .i64 t12 (Sa .i64 1 x15.2.1)), t13, (wr .i64 (t14 + 1)), t15, t69, t70, (wr .i64 (t71 + 1)), ()), (b11, ())))))
 (some (.inl ((t0, t1, t3, (), (Oc .i64 t12 (Sa .i64 1 x15.2.1)), t13, (wr .i64 (t14 + 1)), t15, t69, t70, (wr .i64 (t71 + 1)), ()), (b11, ()))))))
 none)))
 none))))))
 (some (.inr (.inl ((t0, t3, t12, t13, t14, t15, ()), ())))))
def Yj := Ua fun x : IaC => Mm x.1.1 x.1.2.1 x.1.2.2.1 x.1.2.2.2.1 x.1.2.2.2.2.1 x.1.2.2.2.2.2.1 x.1.2.2.2.2.2.2.1 x.1.2.2.2.2.2.2.2.1 x.1.2.2.2.2.2.2.2.2.1 x.1.2.2.2.2.2.2.2.2.2.1 x.1.2.2.2.2.2.2.2.2.2.2.1 x.2.1
def Vy (a0 : Wd) (a1 : Int) (a2 : Qd) (a3 : Int) : Option Qc :=
 (ob (Ww a0) fun r1 =>
 (cond (!r1.1)
 (some (0, 0, (-1), ()))
 (cond (decide (a1 < 1))
 (some (0, 0, (-1), ()))
 (cond (decide (a1 > 200))
 (some (0, 0, (-1), ()))
 (cond (((ln a2 : Nat) : Int) == 0)
 (some (0, 0, (-1), ()))
 (ob (Ab a2 0) fun x2 =>
 (ob (Wk x2) fun r3 =>
 (cond (!r3.1)
 (some (0, 0, (-1), ()))
 (ob (Ab a2 0) fun x4 =>
 (cond (!x4.2.2.1)
 (some (0, 0, (-1), ()))
 (ob (Ab a2 0) fun x5 =>
 (cond (decide (0 ≤ x5.2.1))
 (ob (OE a0 (Sa .i64 1 x5.2.1)) fun r6 =>
 (cond (!r6.1)
 (some (1, x5.1, (-1), ()))
 (cond (Md (ln a2) 1 ((ln a2 : Nat) : Int))
 (ob (Yj ((a0, a1, a3, (), (Sa .i64 1 x5.2.1), (wr .i64 (x5.1 + a1)), 1, true, (Eb a2 (tn 1) (tn ((ln a2 : Nat) : Int))), ((ln (Eb a2 (tn 1) (tn ((ln a2 : Nat) : Int))) : Nat) : Int), 0, ()), (x5, ()))) (se (fun y19 => (cond y19.1.2.2.2.2.2.1
 (cond (decide (y19.1.2.1 < y19.1.2.2.2.1))
 (some (0, 0, (-1), ()))
 (ob (Il y19.1.1 y19.1.2.2.1) fun r21 =>
 (cond (decide (r21.1 ≥ 0))
 (some (y19.1.2.2.2.2.1, y19.1.2.2.2.1, r21.1, ()))
 (some (1, y19.1.2.2.2.1, (-1), ())))))
 (ob (Il y19.1.1 y19.1.2.2.1) fun r22 =>
 (cond (decide (r22.1 ≥ 0))
 (some (y19.1.2.2.2.2.1, y19.1.2.2.2.1, r22.1, ()))
 (some (1, y19.1.2.2.2.1, (-1), ())))))) (fun z20 => (some z20.1))))
 none)))
 none))))))))))))
def Hh (a0 : Oa) : Option (Oa × (Qd × Rc)) :=
 (cond (Xe (ln a0.2.2.1) 0)
 (ob a0.2.2.1[(tn 0)]? fun x1 =>
 (cond (!x1.2.2.1)
 (cond (Md (ln a0.2.2.1) 1 ((ln a0.2.2.1 : Nat) : Int))
 (cond (bl (ln ([] : List Ca) + ln (Eb a0.2.2.1 (tn 1) (tn ((ln a0.2.2.1 : Nat) : Int)))) Ta)
 (ob (On (a0.1, a0.2.1, (ap [] (Eb a0.2.2.1 (tn 1) (tn ((ln a0.2.2.1 : Nat) : Int)))), a0.2.2.2.1, (max a0.2.2.2.2.1 x1.1), a0.2.2.2.2.2) x1.2.1 (max a0.2.2.2.2.1 x1.1)) fun r2 =>
 (some (r2.1, (r2.2.1, true, ()))))
 none)
 none)
 (ob (Vy a0.1 a0.2.1 a0.2.2.1 a0.2.2.2.1) fun r3 =>
 (cond (r3.1 == 0)
 (some (a0, ([], false, ())))
 (cond (Md (ln a0.2.2.1) r3.1 ((ln a0.2.2.1 : Nat) : Int))
 (cond (bl (ln ([] : List Ca) + ln (Eb a0.2.2.1 (tn r3.1) (tn ((ln a0.2.2.1 : Nat) : Int)))) Ta)
 (cond (decide (r3.2.2.1 < 0))
 (cond (decide (0 ≤ x1.2.1))
 (some ((a0.1, a0.2.1, (ap [] (Eb a0.2.2.1 (tn r3.1) (tn ((ln a0.2.2.1 : Nat) : Int)))), a0.2.2.2.1, (max (max a0.2.2.2.2.1 x1.1) r3.2.1), (Oc .i64 a0.2.2.2.2.2.1 (Sa .i64 1 x1.2.1)), a0.2.2.2.2.2.2), (([((max (max a0.2.2.2.2.1 x1.1) r3.2.1), x1.2.1, true, ())] : List Ca), true, ())))
 none)
 (ob (WA a0.1 r3.2.2.1) fun r4 =>
 (cond (bl (ln a0.2.2.2.2.2.2.1 + ln ([(r3.2.2.1, r4.1.1, true, ())] : List Ca)) Ta)
 (some ((a0.1, a0.2.1, (ap [] (Eb a0.2.2.1 (tn r3.1) (tn ((ln a0.2.2.1 : Nat) : Int)))), a0.2.2.2.1, (max (max a0.2.2.2.2.1 x1.1) r3.2.1), a0.2.2.2.2.2.1, (ap a0.2.2.2.2.2.2.1 ([(r3.2.2.1, r4.1.1, true, ())] : List Ca)), ()), (([((max (max a0.2.2.2.2.1 x1.1) r3.2.1), r3.2.2.1, true, ())] : List Ca), true, ())))
 none)))
 none)
 none)))))
 none)
def Bg (t6 : Unit) (t9 : Unit) (t12 : Qd) (b6 : Oa) (b9 : Oa) : Option (Rao ⊕ (Rao ⊕ De)) :=
 (cond (decide (((ln b9.2.2.1 : Nat) : Int) > 0))
 (ob (Hh b9) fun r19 =>
 (cond (!r19.2.2.1)
 (some (.inr (.inl (((), (), t12, ()), (b6, r19.1, ())))))
 (cond (bl (ln t12 + ln r19.2.1) Ta)
 (some (.inl (((), (), (ap t12 r19.2.1), ()), (b6, r19.1, ()))))
 none)))
 (some (.inr (.inl (((), (), t12, ()), (b6, b9, ()))))))
def Kf := Ua fun x : Rao => Bg x.1.1 x.1.2.1 x.1.2.2.1 x.2.1 x.2.2.1
def Qp (a0 : Oa) (a1 : Qd) (a2 : Int) : Option (Oa × (Qd × Rc)) :=
 (ob (Rp a0) fun r1 =>
 (cond (!r1.1)
 (some (([], 0, [], 0, 0, 0, [], ()), [], false, ()))
 (cond (decide (a2 < a0.2.2.2.1))
 (some (([], 0, [], 0, 0, 0, [], ()), [], false, ()))
 (cond (decide (a2 > 1000000))
 (some (([], 0, [], 0, 0, 0, [], ()), [], false, ()))
 (cond (decide (((ln a1 : Nat) : Int) > 0))
 (ob (Ab a1 0) fun x2 =>
 (cond (decide (x2.1 < a0.2.2.2.1))
 (some (([], 0, [], 0, 0, 0, [], ()), [], false, ()))
 (ob (Sh a1 a2) fun r3 =>
 (cond (!r3.1)
 (some (([], 0, [], 0, 0, 0, [], ()), [], false, ()))
 (ob (Am a0) fun r4 =>
 (cond (bl (ln r4.1.2.2.1 + ln a1) Ta)
 (ob (Yh a0) fun r5 =>
 (ob (Uh (ap r4.1.2.2.1 a1) r5.1 24) fun r6 =>
 (cond (!r6.1)
 (some (([], 0, [], 0, 0, 0, [], ()), [], false, ()))
 (ob (Kf (((), (), [], ()), (([], 0, [], 0, 0, 0, [], ()), (r4.1.1, r4.1.2.1, (ap r4.1.2.2.1 a1), a2, r4.1.2.2.2.2), ()))) (se (fun y11 => (some (y11.2.2.1, y11.1.2.2.1, true, ()))) (fun z12 => none))))))
 none))))))
 (ob (Sh a1 a2) fun r13 =>
 (cond (!r13.1)
 (some (([], 0, [], 0, 0, 0, [], ()), [], false, ()))
 (ob (Am a0) fun r14 =>
 (cond (bl (ln r14.1.2.2.1 + ln a1) Ta)
 (ob (Yh a0) fun r15 =>
 (ob (Uh (ap r14.1.2.2.1 a1) r15.1 24) fun r16 =>
 (cond (!r16.1)
 (some (([], 0, [], 0, 0, 0, [], ()), [], false, ()))
 (ob (Kf (((), (), [], ()), (([], 0, [], 0, 0, 0, [], ()), (r14.1.1, r14.1.2.1, (ap r14.1.2.2.1 a1), a2, r14.1.2.2.2.2), ()))) (se (fun y20 => (some (y20.2.2.1, y20.1.2.2.1, true, ()))) (fun z21 => none))))))
 none)))))))))
def En (a0 : Zc) (a1 : Int) : Option (Zc × (Ug × Rc)) :=
 (ob (UI a0) fun r1 =>
 (cond (!r1.1)
 (some (((0, 0, false, ()), (0, 0, 0, 0, 0, [], ()), ([], 0, [], 0, 0, 0, [], ()), (((0, [], ()), [], 0, [], 0, false, ()), (0, 0, 0, ()), [], 0, 0, 0, 0, ()), 0, 0, ()), [], false, ()))
 (ob (Zm a0.1 a1) fun r2 =>
 (cond (!r2.1)
 (some (((0, 0, false, ()), (0, 0, 0, 0, 0, [], ()), ([], 0, [], 0, 0, 0, [], ()), (((0, [], ()), [], 0, [], 0, false, ()), (0, 0, 0, ()), [], 0, 0, 0, 0, ()), 0, 0, ()), [], false, ()))
 (cond (decide (a0.2.2.2.2.2.1 ≥ 1000000))
 (some (((0, 0, false, ()), (0, 0, 0, 0, 0, [], ()), ([], 0, [], 0, 0, 0, [], ()), (((0, [], ()), [], 0, [], 0, false, ()), (0, 0, 0, ()), [], 0, 0, 0, 0, ()), 0, 0, ()), [], false, ()))
 (ob (CB a0.1 a1) fun r3 =>
 (ob (Np a0.1 a0.2.2.2.2.1 r3.1) fun r4 =>
 (ob (Zl a0.2.1 r4.1) fun r5 =>
 (cond (!r4.2.1)
 (some (((0, 0, false, ()), (0, 0, 0, 0, 0, [], ()), ([], 0, [], 0, 0, 0, [], ()), (((0, [], ()), [], 0, [], 0, false, ()), (0, 0, 0, ()), [], 0, 0, 0, 0, ()), 0, 0, ()), [], false, ()))
 (cond (!r5.2.1)
 (some (((0, 0, false, ()), (0, 0, 0, 0, 0, [], ()), ([], 0, [], 0, 0, 0, [], ()), (((0, [], ()), [], 0, [], 0, false, ()), (0, 0, 0, ()), [], 0, 0, 0, 0, ()), 0, 0, ()), [], false, ()))
 (ob (Vp a0.2.1.2.2.2.1 r5.1.2.2.2.1 a0.2.2.2.2.2.1) fun r6 =>
 (ob (Qp a0.2.2.1 r6.1 a0.2.2.2.2.2.1) fun r7 =>
 (cond (!r7.2.2.1)
 (some (((0, 0, false, ()), (0, 0, 0, 0, 0, [], ()), ([], 0, [], 0, 0, 0, [], ()), (((0, [], ()), [], 0, [], 0, false, ()), (0, 0, 0, ()), [], 0, 0, 0, 0, ()), 0, 0, ()), [], false, ()))
 (ob (Wy a0.2.2.2.1 r7.2.1 a0.2.2.2.2.2.1) fun r8 =>
 (cond (!r8.2.2.1)
 (some (((0, 0, false, ()), (0, 0, 0, 0, 0, [], ()), ([], 0, [], 0, 0, 0, [], ()), (((0, [], ()), [], 0, [], 0, false, ()), (0, 0, 0, ()), [], 0, 0, 0, 0, ()), 0, 0, ()), [], false, ()))
 (some ((a0.1, r5.1, r7.1, r8.1, r4.1, (wr .i64 (a0.2.2.2.2.2.1 + 1)), a0.2.2.2.2.2.2), r8.2.1, true, ())))))))))))))))))
def LG (a0 : Qc) : Option LC :=
 (some (a0, ()))
def GB (a0 : Ca) (a1 : Ca) : Option Rc :=
 (cond (a0.1 != a1.1)
 (some (false, ()))
 (cond (a0.2.1 != a1.2.1)
 (some (false, ()))
 (cond (a0.2.2.1 != a1.2.2.1)
 (some (false, ()))
 (some (true, ())))))
def RY (t0 : Qd) (t1 : Qd) (t5 : Int) : Option (YP ⊕ Jk) :=
 (cond (decide (t5 < ((ln t0 : Nat) : Int)))
 (ob (Ab t0 t5) fun x7 =>
 (ob (Ab t1 t5) fun x8 =>
 (ob (GB x7 x8) fun r9 =>
 (cond (!r9.1)
 (some (.inr (.inr ((false, ()), ()))))
 (some (.inl ((t0, t1, (wr .i64 (t5 + 1)), ()), ())))))))
 (some (.inr (.inl ((), ())))))
def XI := Ua fun x : YP => RY x.1.1 x.1.2.1 x.1.2.2.1
def Cx (a0 : Qd) (a1 : Qd) : Option Rc :=
 (cond (((ln a0 : Nat) : Int) != ((ln a1 : Nat) : Int))
 (some (false, ()))
 (ob (XI ((a0, a1, 0, ()), ())) (se (fun y10 => (some (true, ()))) (fun z11 => (some (z11.1.1, ()))))))
def Po (t0 : Qd) (t1 : Int) (t5 : Int) : Option (CQ ⊕ ((GI × Unit) ⊕ De)) :=
 (cond (decide (t5 < ((ln t0 : Nat) : Int)))
 (cond (Xe (ln t0) t5)
 (ob t0[(tn t5)]? fun x7 =>
 (cond (Xe (ln (ls t0 (tn t5) (t1, x7.2))) t5)
 (ob (ls t0 (tn t5) (t1, x7.2))[(tn t5)]? fun x8 =>
 (cond ((3 : Int) == 0)
 none
 (cond (Xe (ln (ls (ls t0 (tn t5) (t1, x7.2)) (tn t5) (x8.1, (wr .i64 (t1 + 1)), x8.2.2))) t5)
 (ob (ls (ls t0 (tn t5) (t1, x7.2)) (tn t5) (x8.1, (wr .i64 (t1 + 1)), x8.2.2))[(tn t5)]? fun x9 =>
 (some (.inl (((ls (ls (ls t0 (tn t5) (t1, x7.2)) (tn t5) (x8.1, (wr .i64 (t1 + 1)), x8.2.2)) (tn t5) (x9.1, x9.2.1, ((Int.tmod (wr .i64 ((wr .i64 (t1 + 1)) + 1)) 3) == 0), x9.2.2.2)), (wr .i64 ((wr .i64 ((wr .i64 (t1 + 1)) + 1)) + 1)), (wr .i64 (t5 + 1)), ()), ()))))
 none)))
 none))
 none)
 (some (.inr (.inl ((t0, t1, ()), ())))))
def YE := Ua fun x : CQ => Po x.1.1 x.1.2.1 x.1.2.2.1
def Mz (a0 : Qd) (a1 : Int) : Option GI :=
 (ob (YE ((a0, a1, 0, ()), ())) (se (fun y10 => (some (y10.1.1, (y10.1.2.1, ())))) (fun z11 => none)))
def Mo (t0 : Qd) (t1 : Int) (t5 : Int) : Option (CQ ⊕ LF) :=
 (cond (decide (t5 < ((ln t0 : Nat) : Int)))
 (ob (Ab t0 t5) fun x7 =>
 (cond (x7.1 != t1)
 (some (.inr (.inr (((-1), ()), ()))))
 (ob (Ab t0 t5) fun x8 =>
 (cond (x8.2.1 != (wr .i64 (t1 + 1)))
 (some (.inr (.inr (((-1), ()), ()))))
 (ob (Ab t0 t5) fun x9 =>
 (cond ((3 : Int) == 0)
 none
 (cond (x9.2.2.1 != ((Int.tmod (wr .i64 ((wr .i64 (t1 + 1)) + 1)) 3) == 0))
 (some (.inr (.inr (((-1), ()), ()))))
 (some (.inl ((t0, (wr .i64 ((wr .i64 ((wr .i64 (t1 + 1)) + 1)) + 1)), (wr .i64 (t5 + 1)), ()), ()))))))))))
 (some (.inr (.inl ((t1, ()), ())))))
def VE := Ua fun x : CQ => Mo x.1.1 x.1.2.1 x.1.2.2.1
def Jz (a0 : Qd) (a1 : Int) : Option Lc :=
 (ob (VE ((a0, a1, 0, ()), ())) (se (fun y10 => (some (y10.1.1, ()))) (fun z11 => (some (z11.1.1, ())))))
def Tv (a0 : Ob) (a1 : Int) : Option Lc :=
 (ob (BM a0.2.2.2.2.2.1 a1) fun r1 =>
 (cond (decide (r1.1 < 0))
 (some ((-1), ()))
 (some (r1.1, ()))))
def DG (a0 : Wd) (a1 : Int) : Option Lc :=
 (cond (decide ((wr .i64 (a1 - ((ln a0 : Nat) : Int))) < 0))
 (some ((-1), ()))
 (some ((wr .i64 (a1 - ((ln a0 : Nat) : Int))), ())))
def Dx (a0 : Qd) (a1 : Int) : Option Lc :=
 (cond (decide ((wr .i64 (a1 - ((ln a0 : Nat) : Int))) < 0))
 (some ((-1), ()))
 (some ((wr .i64 (a1 - ((ln a0 : Nat) : Int))), ())))
def YC (a0 : Qd) (a1 : Int) : Option Lc :=
 (cond (decide ((wr .i64 (a1 - ((ln a0 : Nat) : Int))) < 0))
 (some ((-1), ()))
 (some ((wr .i64 (a1 - ((ln a0 : Nat) : Int))), ())))
def Pz (a0 : Oa) (a1 : Int) : Option Lc :=
 (ob (DG a0.1 a1) fun r1 =>
 (cond (decide (r1.1 < 0))
 (some ((-1), ()))
 (ob (Dx a0.2.2.1 r1.1) fun r2 =>
 (cond (decide (r2.1 < 0))
 (some ((-1), ()))
 (ob (YC a0.2.2.2.2.2.2.1 r2.1) fun r3 =>
 (cond (decide (r3.1 < 0))
 (some ((-1), ()))
 (some (r3.1, ()))))))))
def LB (a0 : Eh) (a1 : Int) : Option Lc :=
 (cond (decide ((wr .i64 (a1 - ((ln a0 : Nat) : Int))) < 0))
 (some ((-1), ()))
 (some ((wr .i64 (a1 - ((ln a0 : Nat) : Int))), ())))
def TY (t0 : Jh) (t1 : Int) (t5 : Int) : Option ((RL × Unit) ⊕ LF) :=
 (cond (decide (t5 < ((ln t0 : Nat) : Int)))
 (ob (Ab t0 t5) fun x5 =>
 (ob (LB x5 t1) fun r6 =>
 (cond (decide (r6.1 < 0))
 (some (.inr (.inr (((-1), ()), ()))))
 (some (.inl ((t0, r6.1, (wr .i64 (t5 + 1)), ()), ()))))))
 (some (.inr (.inl ((t1, ()), ())))))
def IJ := Ua fun x : (RL × Unit) => TY x.1.1 x.1.2.1 x.1.2.2.1
def GG (a0 : Jh) (a1 : Int) : Option Lc :=
 (cond (decide ((wr .i64 (a1 - ((ln a0 : Nat) : Int))) < 0))
 (some ((-1), ()))
 (ob (IJ ((a0, (wr .i64 (a1 - ((ln a0 : Nat) : Int))), 0, ()), ())) (se (fun y7 => (some (y7.1.1, ()))) (fun z8 => (some (z8.1.1, ()))))))
def HJ (a0 : Ud) (a1 : Int) : Option Lc :=
 (cond (decide ((wr .i64 (a1 - ((ln a0 : Nat) : Int))) < 0))
 (some ((-1), ()))
 (some ((wr .i64 (a1 - ((ln a0 : Nat) : Int))), ())))
def EG (a0 : Gb) (a1 : Int) : Option Lc :=
 (ob (FG a0.1 a1) fun r1 =>
 (cond (decide (r1.1 < 0))
 (some ((-1), ()))
 (ob (GG a0.2.1 r1.1) fun r2 =>
 (cond (decide (r2.1 < 0))
 (some ((-1), ()))
 (ob (HJ a0.2.2.2.1 r2.1) fun r3 =>
 (cond (decide (r3.1 < 0))
 (some ((-1), ()))
 (some (r3.1, ()))))))))
def ZC (a0 : Hb) (a1 : Int) : Option Lc :=
 (ob (EG a0.1 a1) fun r1 =>
 (cond (decide (r1.1 < 0))
 (some ((-1), ()))
 (ob (Dx a0.2.2.1 r1.1) fun r2 =>
 (cond (decide (r2.1 < 0))
 (some ((-1), ()))
 (some (r2.1, ()))))))
def GJ (a0 : Zc) (a1 : Int) : Option Lc :=
 (ob (Tv a0.2.1 a1) fun r1 =>
 (cond (decide (r1.1 < 0))
 (some ((-1), ()))
 (ob (Pz a0.2.2.1 r1.1) fun r2 =>
 (cond (decide (r2.1 < 0))
 (some ((-1), ()))
 (ob (ZC a0.2.2.2.1 r2.1) fun r3 =>
 (cond (decide (r3.1 < 0))
 (some ((-1), ()))
 (some (r3.1, ()))))))))
def Uv (a0 : Ob) : Option WN :=
 (ob (CM a0.2.2.2.2.2.1) fun r1 =>
 (some ((a0.1, a0.2.1, a0.2.2.1, a0.2.2.2.1, a0.2.2.2.2.1, r1.1, ()), ())))
def MB (a0 : Va) : Option EI :=
 (some (a0, ()))
def UY (t0 : Wd) (t3 : Wd) (t4 : Int) : Option (Caa ⊕ (((Wd × Unit) × Unit) ⊕ De)) :=
 (cond (decide (t4 < ((ln t0 : Nat) : Int)))
 (ob (Ab t0 t4) fun x7 =>
 (ob (MB x7) fun r8 =>
 (cond (Xe (ln t3) t4)
 (ob t3[(tn t4)]? fun x9 =>
 (some (.inl ((t0, (ls t3 (tn t4) r8.1), (wr .i64 (t4 + 1)), ()), ()))))
 none)))
 (some (.inr (.inl ((t3, ()), ())))))
def KJ := Ua fun x : Caa => UY x.1.1 x.1.2.1 x.1.2.2.1
def KN (a0 : Wd) : Option (Wd × Unit) :=
 (cond ((((ln a0 : Nat) : Int) == ((ln a0 : Nat) : Int)) && (decide (0 ≤ ((ln a0 : Nat) : Int)) && decide (((ln a0 : Nat) : Int) ≤ ((Ta : Nat) : Int))))
 (ob (KJ ((a0, (List.replicate (tn ((ln a0 : Nat) : Int)) (0, 0, ())), 0, ()), ())) (se (fun y10 => (some (y10.1.1, ()))) (fun z11 => none)))
 none)
def NB (a0 : Ca) : Option Dh :=
 (some (a0, ()))
def VY (t0 : Qd) (t3 : Qd) (t4 : Int) : Option (YP ⊕ ((JC × Unit) ⊕ De)) :=
 (cond (decide (t4 < ((ln t0 : Nat) : Int)))
 (ob (Ab t0 t4) fun x7 =>
 (ob (NB x7) fun r8 =>
 (cond (Xe (ln t3) t4)
 (ob t3[(tn t4)]? fun x9 =>
 (some (.inl ((t0, (ls t3 (tn t4) r8.1), (wr .i64 (t4 + 1)), ()), ()))))
 none)))
 (some (.inr (.inl ((t3, ()), ())))))
def LJ := Ua fun x : YP => VY x.1.1 x.1.2.1 x.1.2.2.1
def IG (a0 : Qd) : Option JC :=
 (cond ((((ln a0 : Nat) : Int) == ((ln a0 : Nat) : Int)) && (decide (0 ≤ ((ln a0 : Nat) : Int)) && decide (((ln a0 : Nat) : Int) ≤ ((Ta : Nat) : Int))))
 (ob (LJ ((a0, (List.replicate (tn ((ln a0 : Nat) : Int)) (0, 0, false, ())), 0, ()), ())) (se (fun y10 => (some (y10.1.1, ()))) (fun z11 => none)))
 none)
def Gx (a0 : Ca) : Option Dh :=
 (some (a0, ()))
def LW (t0 : Qd) (t3 : Qd) (t4 : Int) : Option (YP ⊕ ((JC × Unit) ⊕ De)) :=
 (cond (decide (t4 < ((ln t0 : Nat) : Int)))
 (ob (Ab t0 t4) fun x7 =>
 (ob (Gx x7) fun r8 =>
 (cond (Xe (ln t3) t4)
 (ob t3[(tn t4)]? fun x9 =>
 (some (.inl ((t0, (ls t3 (tn t4) r8.1), (wr .i64 (t4 + 1)), ()), ()))))
 none)))
 (some (.inr (.inl ((t3, ()), ())))))
def YH := Ua fun x : YP => LW x.1.1 x.1.2.1 x.1.2.2.1
def FL (a0 : Qd) : Option JC :=
 (cond ((((ln a0 : Nat) : Int) == ((ln a0 : Nat) : Int)) && (decide (0 ≤ ((ln a0 : Nat) : Int)) && decide (((ln a0 : Nat) : Int) ≤ ((Ta : Nat) : Int))))
 (ob (YH ((a0, (List.replicate (tn ((ln a0 : Nat) : Int)) (0, 0, false, ())), 0, ()), ())) (se (fun y10 => (some (y10.1.1, ()))) (fun z11 => none)))
 none)
def Qz (a0 : Oa) : Option IC :=
 (ob (KN a0.1) fun r1 =>
 (ob (IG a0.2.2.1) fun r2 =>
 (ob (FL a0.2.2.2.2.2.2.1) fun r3 =>
 (some ((r1.1, a0.2.1, r2.1, a0.2.2.2.1, a0.2.2.2.2.1, a0.2.2.2.2.2.1, r3.1, ()), ())))))
def DF (a0 : Qc) : Option LC :=
 (some (a0, ()))
def P1 (t0 : Eh) (t3 : Eh) (t4 : Int) : Option (Faa ⊕ (((Eh × Unit) × Unit) ⊕ De)) :=
 (cond (decide (t4 < ((ln t0 : Nat) : Int)))
 (ob (Ab t0 t4) fun x7 =>
 (ob (DF x7) fun r8 =>
 (cond (Xe (ln t3) t4)
 (ob t3[(tn t4)]? fun x9 =>
 (some (.inl ((t0, (ls t3 (tn t4) r8.1), (wr .i64 (t4 + 1)), ()), ()))))
 none)))
 (some (.inr (.inl ((t3, ()), ())))))
def FK := Ua fun x : Faa => P1 x.1.1 x.1.2.1 x.1.2.2.1
def MJ (a0 : Eh) : Option (Eh × Unit) :=
 (cond ((((ln a0 : Nat) : Int) == ((ln a0 : Nat) : Int)) && (decide (0 ≤ ((ln a0 : Nat) : Int)) && decide (((ln a0 : Nat) : Int) ≤ ((Ta : Nat) : Int))))
 (ob (FK ((a0, (List.replicate (tn ((ln a0 : Nat) : Int)) (0, 0, 0, ())), 0, ()), ())) (se (fun y10 => (some (y10.1.1, ()))) (fun z11 => none)))
 none)
def WY (t0 : Jh) (t3 : Jh) (t4 : Int) : Option (Baa ⊕ (((Jh × Unit) × Unit) ⊕ De)) :=
 (cond (decide (t4 < ((ln t0 : Nat) : Int)))
 (ob (Ab t0 t4) fun x7 =>
 (ob (MJ x7) fun r8 =>
 (cond (Xe (ln t3) t4)
 (ob t3[(tn t4)]? fun x9 =>
 (some (.inl ((t0, (ls t3 (tn t4) r8.1), (wr .i64 (t4 + 1)), ()), ()))))
 none)))
 (some (.inr (.inl ((t3, ()), ())))))
def NJ := Ua fun x : Baa => WY x.1.1 x.1.2.1 x.1.2.2.1
def LN (a0 : Jh) : Option (Jh × Unit) :=
 (cond ((((ln a0 : Nat) : Int) == ((ln a0 : Nat) : Int)) && (decide (0 ≤ ((ln a0 : Nat) : Int)) && decide (((ln a0 : Nat) : Int) ≤ ((Ta : Nat) : Int))))
 (ob (NJ ((a0, (List.replicate (tn ((ln a0 : Nat) : Int)) []), 0, ()), ())) (se (fun y10 => (some (y10.1.1, ()))) (fun z11 => none)))
 none)
def CF (a0 : Pa) : Option (Pa × Unit) :=
 (ob (Hp a0.2.1) fun r1 =>
 (some ((a0.1, r1.1, ()), ())))
def O1 (t0 : Ud) (t3 : Ud) (t4 : Int) : Option (Eaa ⊕ (((Ud × Unit) × Unit) ⊕ De)) :=
 (cond (decide (t4 < ((ln t0 : Nat) : Int)))
 (ob (Ab t0 t4) fun x7 =>
 (ob (CF x7) fun r8 =>
 (cond (Xe (ln t3) t4)
 (ob t3[(tn t4)]? fun x9 =>
 (some (.inl ((t0, (ls t3 (tn t4) r8.1), (wr .i64 (t4 + 1)), ()), ()))))
 none)))
 (some (.inr (.inl ((t3, ()), ())))))
def EK := Ua fun x : Eaa => O1 x.1.1 x.1.2.1 x.1.2.2.1
def JP (a0 : Ud) : Option (Ud × Unit) :=
 (cond ((((ln a0 : Nat) : Int) == ((ln a0 : Nat) : Int)) && (decide (0 ≤ ((ln a0 : Nat) : Int)) && decide (((ln a0 : Nat) : Int) ≤ ((Ta : Nat) : Int))))
 (ob (EK ((a0, (List.replicate (tn ((ln a0 : Nat) : Int)) (0, (0, 0, 0, 0, ()), ())), 0, ()), ())) (se (fun y10 => (some (y10.1.1, ()))) (fun z11 => none)))
 none)
def HG (a0 : Gb) : Option Zk :=
 (ob (JG a0.1) fun r1 =>
 (ob (LN a0.2.1) fun r2 =>
 (ob (JP a0.2.2.2.1) fun r3 =>
 (some ((r1.1, r2.1, a0.2.2.1, r3.1, a0.2.2.2.2.1, a0.2.2.2.2.2.1, ()), ())))))
def BD (a0 : Hb) : Option YN :=
 (ob (HG a0.1) fun r1 =>
 (ob (LG a0.2.1) fun r2 =>
 (ob (IG a0.2.2.1) fun r3 =>
 (some ((r1.1, r2.1, r3.1, a0.2.2.2.1, a0.2.2.2.2.1, a0.2.2.2.2.2.1, a0.2.2.2.2.2.2.1, ()), ())))))
def Wn (a0 : Zc) : Option QL :=
 (ob (KG a0.1) fun r1 =>
 (ob (Uv a0.2.1) fun r2 =>
 (ob (Qz a0.2.2.1) fun r3 =>
 (ob (BD a0.2.2.2.1) fun r4 =>
 (some ((r1.1, r2.1, r3.1, r4.1, a0.2.2.2.2.1, a0.2.2.2.2.2.1, ()), ()))))))
def XF (a0 : Ca) (a1 : Ca) : Option Rc :=
 (cond (a0.1 != a1.1)
 (some (false, ()))
 (cond (a0.2.1 != a1.2.1)
 (some (false, ()))
 (cond (a0.2.2.1 != a1.2.2.1)
 (some (false, ()))
 (some (true, ())))))
def Qv (a0 : Ob) (a1 : Ob) : Option Rc :=
 (cond (a0.1 != a1.1)
 (some (false, ()))
 (cond (a0.2.1 != a1.2.1)
 (some (false, ()))
 (cond (a0.2.2.1 != a1.2.2.1)
 (some (false, ()))
 (cond (a0.2.2.2.1 != a1.2.2.2.1)
 (some (false, ()))
 (cond (a0.2.2.2.2.1 != a1.2.2.2.2.1)
 (some (false, ()))
 (ob (RE a0.2.2.2.2.2.1 a1.2.2.2.2.2.1) fun r1 =>
 (cond (!r1.1)
 (some (false, ()))
 (some (true, ())))))))))
def FB (a0 : Va) (a1 : Va) : Option Rc :=
 (cond (a0.1 != a1.1)
 (some (false, ()))
 (cond (a0.2.1 != a1.2.1)
 (some (false, ()))
 (some (true, ()))))
def QY (t0 : Wd) (t1 : Wd) (t5 : Int) : Option (Caa ⊕ Jk) :=
 (cond (decide (t5 < ((ln t0 : Nat) : Int)))
 (ob (Ab t0 t5) fun x7 =>
 (ob (Ab t1 t5) fun x8 =>
 (ob (FB x7 x8) fun r9 =>
 (cond (!r9.1)
 (some (.inr (.inr ((false, ()), ()))))
 (some (.inl ((t0, t1, (wr .i64 (t5 + 1)), ()), ())))))))
 (some (.inr (.inl ((), ())))))
def WI := Ua fun x : Caa => QY x.1.1 x.1.2.1 x.1.2.2.1
def TF (a0 : Wd) (a1 : Wd) : Option Rc :=
 (cond (((ln a0 : Nat) : Int) != ((ln a1 : Nat) : Int))
 (some (false, ()))
 (ob (WI ((a0, a1, 0, ()), ())) (se (fun y10 => (some (true, ()))) (fun z11 => (some (z11.1.1, ()))))))
def Bx (a0 : Ca) (a1 : Ca) : Option Rc :=
 (cond (a0.1 != a1.1)
 (some (false, ()))
 (cond (a0.2.1 != a1.2.1)
 (some (false, ()))
 (cond (a0.2.2.1 != a1.2.2.1)
 (some (false, ()))
 (some (true, ())))))
def JW (t0 : Qd) (t1 : Qd) (t5 : Int) : Option (YP ⊕ Jk) :=
 (cond (decide (t5 < ((ln t0 : Nat) : Int)))
 (ob (Ab t0 t5) fun x7 =>
 (ob (Ab t1 t5) fun x8 =>
 (ob (Bx x7 x8) fun r9 =>
 (cond (!r9.1)
 (some (.inr (.inr ((false, ()), ()))))
 (some (.inl ((t0, t1, (wr .i64 (t5 + 1)), ()), ())))))))
 (some (.inr (.inl ((), ())))))
def PH := Ua fun x : YP => JW x.1.1 x.1.2.1 x.1.2.2.1
def VC (a0 : Qd) (a1 : Qd) : Option Rc :=
 (cond (((ln a0 : Nat) : Int) != ((ln a1 : Nat) : Int))
 (some (false, ()))
 (ob (PH ((a0, a1, 0, ()), ())) (se (fun y10 => (some (true, ()))) (fun z11 => (some (z11.1.1, ()))))))
def Gz (a0 : Oa) (a1 : Oa) : Option Rc :=
 (ob (TF a0.1 a1.1) fun r1 =>
 (cond (!r1.1)
 (some (false, ()))
 (cond (a0.2.1 != a1.2.1)
 (some (false, ()))
 (ob (Cx a0.2.2.1 a1.2.2.1) fun r2 =>
 (cond (!r2.1)
 (some (false, ()))
 (cond (a0.2.2.2.1 != a1.2.2.2.1)
 (some (false, ()))
 (cond (a0.2.2.2.2.1 != a1.2.2.2.2.1)
 (some (false, ()))
 (cond (a0.2.2.2.2.2.1 != a1.2.2.2.2.2.1)
 (some (false, ()))
 (ob (VC a0.2.2.2.2.2.2.1 a1.2.2.2.2.2.2.1) fun r3 =>
 (cond (!r3.1)
 (some (false, ()))
 (some (true, ()))))))))))))
def TE (a0 : Qc) (a1 : Qc) : Option Rc :=
 (cond (a0.1 != a1.1)
 (some (false, ()))
 (cond (a0.2.1 != a1.2.1)
 (some (false, ()))
 (cond (a0.2.2.1 != a1.2.2.1)
 (some (false, ()))
 (some (true, ())))))
def N1 (t0 : Eh) (t1 : Eh) (t5 : Int) : Option (Faa ⊕ Jk) :=
 (cond (decide (t5 < ((ln t0 : Nat) : Int)))
 (ob (Ab t0 t5) fun x7 =>
 (ob (Ab t1 t5) fun x8 =>
 (ob (TE x7 x8) fun r9 =>
 (cond (!r9.1)
 (some (.inr (.inr ((false, ()), ()))))
 (some (.inl ((t0, t1, (wr .i64 (t5 + 1)), ()), ())))))))
 (some (.inr (.inl ((), ())))))
def DK := Ua fun x : Faa => N1 x.1.1 x.1.2.1 x.1.2.2.1
def IB (a0 : Eh) (a1 : Eh) : Option Rc :=
 (cond (((ln a0 : Nat) : Int) != ((ln a1 : Nat) : Int))
 (some (false, ()))
 (ob (DK ((a0, a1, 0, ()), ())) (se (fun y10 => (some (true, ()))) (fun z11 => (some (z11.1.1, ()))))))
def SY (t0 : Jh) (t1 : Jh) (t5 : Int) : Option (Baa ⊕ Jk) :=
 (cond (decide (t5 < ((ln t0 : Nat) : Int)))
 (ob (Ab t0 t5) fun x7 =>
 (ob (Ab t1 t5) fun x8 =>
 (ob (IB x7 x8) fun r9 =>
 (cond (!r9.1)
 (some (.inr (.inr ((false, ()), ()))))
 (some (.inl ((t0, t1, (wr .i64 (t5 + 1)), ()), ())))))))
 (some (.inr (.inl ((), ())))))
def ZI := Ua fun x : Baa => SY x.1.1 x.1.2.1 x.1.2.2.1
def ZF (a0 : Jh) (a1 : Jh) : Option Rc :=
 (cond (((ln a0 : Nat) : Int) != ((ln a1 : Nat) : Int))
 (some (false, ()))
 (ob (ZI ((a0, a1, 0, ()), ())) (se (fun y10 => (some (true, ()))) (fun z11 => (some (z11.1.1, ()))))))
def QE (a0 : Pa) (a1 : Pa) : Option Rc :=
 (cond (a0.1 != a1.1)
 (some (false, ()))
 (ob (Gp a0.2.1 a1.2.1) fun r1 =>
 (cond (!r1.1)
 (some (false, ()))
 (some (true, ())))))
def L1 (t0 : Ud) (t1 : Ud) (t5 : Int) : Option (Eaa ⊕ Jk) :=
 (cond (decide (t5 < ((ln t0 : Nat) : Int)))
 (ob (Ab t0 t5) fun x7 =>
 (ob (Ab t1 t5) fun x8 =>
 (ob (QE x7 x8) fun r9 =>
 (cond (!r9.1)
 (some (.inr (.inr ((false, ()), ()))))
 (some (.inl ((t0, t1, (wr .i64 (t5 + 1)), ()), ())))))))
 (some (.inr (.inl ((), ())))))
def BK := Ua fun x : Eaa => L1 x.1.1 x.1.2.1 x.1.2.2.1
def YI (a0 : Ud) (a1 : Ud) : Option Rc :=
 (cond (((ln a0 : Nat) : Int) != ((ln a1 : Nat) : Int))
 (some (false, ()))
 (ob (BK ((a0, a1, 0, ()), ())) (se (fun y10 => (some (true, ()))) (fun z11 => (some (z11.1.1, ()))))))
def UF (a0 : Gb) (a1 : Gb) : Option Rc :=
 (ob (VF a0.1 a1.1) fun r1 =>
 (cond (!r1.1)
 (some (false, ()))
 (ob (ZF a0.2.1 a1.2.1) fun r2 =>
 (cond (!r2.1)
 (some (false, ()))
 (cond (a0.2.2.1 != a1.2.2.1)
 (some (false, ()))
 (ob (YI a0.2.2.2.1 a1.2.2.2.1) fun r3 =>
 (cond (!r3.1)
 (some (false, ()))
 (cond (a0.2.2.2.2.1 != a1.2.2.2.2.1)
 (some (false, ()))
 (cond (a0.2.2.2.2.2.1 != a1.2.2.2.2.2.1)
 (some (false, ()))
 (some (true, ())))))))))))
def WC (a0 : Hb) (a1 : Hb) : Option Rc :=
 (ob (UF a0.1 a1.1) fun r1 =>
 (cond (!r1.1)
 (some (false, ()))
 (ob (AG a0.2.1 a1.2.1) fun r2 =>
 (cond (!r2.1)
 (some (false, ()))
 (ob (Cx a0.2.2.1 a1.2.2.1) fun r3 =>
 (cond (!r3.1)
 (some (false, ()))
 (cond (a0.2.2.2.1 != a1.2.2.2.1)
 (some (false, ()))
 (cond (a0.2.2.2.2.1 != a1.2.2.2.2.1)
 (some (false, ()))
 (cond (a0.2.2.2.2.2.1 != a1.2.2.2.2.2.1)
 (some (false, ()))
 (cond (a0.2.2.2.2.2.2.1 != a1.2.2.2.2.2.2.1)
 (some (false, ()))
 (some (true, ()))))))))))))
def Vn (a0 : Zc) (a1 : Zc) : Option Rc :=
 (ob (XF a0.1 a1.1) fun r1 =>
 (cond (!r1.1)
 (some (false, ()))
 (ob (Qv a0.2.1 a1.2.1) fun r2 =>
 (cond (!r2.1)
 (some (false, ()))
 (ob (Gz a0.2.2.1 a1.2.2.1) fun r3 =>
 (cond (!r3.1)
 (some (false, ()))
 (ob (WC a0.2.2.2.1 a1.2.2.2.1) fun r4 =>
 (cond (!r4.1)
 (some (false, ()))
 (cond (a0.2.2.2.2.1 != a1.2.2.2.2.1)
 (some (false, ()))
 (cond (a0.2.2.2.2.2.1 != a1.2.2.2.2.2.1)
 (some (false, ()))
 (some (true, ()))))))))))))
def Dq (a0 : Ob) (a1 : Int) : Option (Ob × Lc) :=
 (ob (CG a0.2.2.2.2.2.1 a1) fun r1 =>
 (some ((a0.1, a0.2.1, a0.2.2.1, a0.2.2.2.1, a0.2.2.2.2.1, r1.1, ()), (r1.2.1, ()))))
def Oo (t0 : Wd) (t1 : Int) (t5 : Int) : Option (SL ⊕ (Kaa ⊕ De)) :=
 (cond (decide (t5 < ((ln t0 : Nat) : Int)))
 (cond (Xe (ln t0) t5)
 (ob t0[(tn t5)]? fun x5 =>
 (cond (Xe (ln (ls t0 (tn t5) (t1, x5.2))) t5)
 (ob (ls t0 (tn t5) (t1, x5.2))[(tn t5)]? fun x6 =>
 (some (.inl (((ls (ls t0 (tn t5) (t1, x5.2)) (tn t5) (x6.1, (wr .i64 (t1 + 1)), x6.2.2)), (wr .i64 ((wr .i64 (t1 + 1)) + 1)), (wr .i64 (t5 + 1)), ()), ()))))
 none))
 none)
 (some (.inr (.inl ((t0, t1, ()), ())))))
def XE := Ua fun x : SL => Oo x.1.1 x.1.2.1 x.1.2.2.1
def DJ (a0 : Wd) (a1 : Int) : Option (Wd × Lc) :=
 (ob (XE ((a0, a1, 0, ()), ())) (se (fun y7 => (some (y7.1.1, (y7.1.2.1, ())))) (fun z8 => none)))
def Rm (t0 : Qd) (t1 : Int) (t5 : Int) : Option (CQ ⊕ ((GI × Unit) ⊕ De)) :=
 (cond (decide (t5 < ((ln t0 : Nat) : Int)))
 (cond (Xe (ln t0) t5)
 (ob t0[(tn t5)]? fun x7 =>
 (cond (Xe (ln (ls t0 (tn t5) (t1, x7.2))) t5)
 (ob (ls t0 (tn t5) (t1, x7.2))[(tn t5)]? fun x8 =>
 (cond ((3 : Int) == 0)
 none
 (cond (Xe (ln (ls (ls t0 (tn t5) (t1, x7.2)) (tn t5) (x8.1, (wr .i64 (t1 + 1)), x8.2.2))) t5)
 (ob (ls (ls t0 (tn t5) (t1, x7.2)) (tn t5) (x8.1, (wr .i64 (t1 + 1)), x8.2.2))[(tn t5)]? fun x9 =>
 (some (.inl (((ls (ls (ls t0 (tn t5) (t1, x7.2)) (tn t5) (x8.1, (wr .i64 (t1 + 1)), x8.2.2)) (tn t5) (x9.1, x9.2.1, ((Int.tmod (wr .i64 ((wr .i64 (t1 + 1)) + 1)) 3) == 0), x9.2.2.2)), (wr .i64 ((wr .i64 ((wr .i64 (t1 + 1)) + 1)) + 1)), (wr .i64 (t5 + 1)), ()), ()))))
 none)))
 none))
 none)
 (some (.inr (.inl ((t0, t1, ()), ())))))
def OD := Ua fun x : CQ => Rm x.1.1 x.1.2.1 x.1.2.2.1
def EH (a0 : Qd) (a1 : Int) : Option GI :=
 (ob (OD ((a0, a1, 0, ()), ())) (se (fun y10 => (some (y10.1.1, (y10.1.2.1, ())))) (fun z11 => none)))
def Ks (a0 : Oa) (a1 : Int) : Option (Oa × Lc) :=
 (ob (DJ a0.1 a1) fun r1 =>
 (ob (Mz a0.2.2.1 r1.2.1) fun r2 =>
 (ob (EH a0.2.2.2.2.2.2.1 r2.2.1) fun r3 =>
 (some ((r1.1, a0.2.1, r2.1, a0.2.2.2.1, a0.2.2.2.2.1, a0.2.2.2.2.2.1, r3.1, ()), (r3.2.1, ()))))))
def Hq (t0 : Eh) (t1 : Int) (t5 : Int) : Option ((BQ × Unit) ⊕ (((Eh × Lc) × Unit) ⊕ De)) :=
 (cond (decide (t5 < ((ln t0 : Nat) : Int)))
 (cond (Xe (ln t0) t5)
 (ob t0[(tn t5)]? fun x7 =>
 (cond (Xe (ln (ls t0 (tn t5) (t1, x7.2))) t5)
 (ob (ls t0 (tn t5) (t1, x7.2))[(tn t5)]? fun x8 =>
 (cond (Xe (ln (ls (ls t0 (tn t5) (t1, x7.2)) (tn t5) (x8.1, (wr .i64 (t1 + 1)), x8.2.2))) t5)
 (ob (ls (ls t0 (tn t5) (t1, x7.2)) (tn t5) (x8.1, (wr .i64 (t1 + 1)), x8.2.2))[(tn t5)]? fun x9 =>
 (some (.inl (((ls (ls (ls t0 (tn t5) (t1, x7.2)) (tn t5) (x8.1, (wr .i64 (t1 + 1)), x8.2.2)) (tn t5) (x9.1, x9.2.1, (wr .i64 ((wr .i64 (t1 + 1)) + 1)), x9.2.2.2)), (wr .i64 ((wr .i64 ((wr .i64 (t1 + 1)) + 1)) + 1)), (wr .i64 (t5 + 1)), ()), ()))))
 none))
 none))
 none)
 (some (.inr (.inl ((t0, t1, ()), ())))))
def WH := Ua fun x : (BQ × Unit) => Hq x.1.1 x.1.2.1 x.1.2.2.1
def EL (a0 : Eh) (a1 : Int) : Option (Eh × Lc) :=
 (ob (WH ((a0, a1, 0, ()), ())) (se (fun y10 => (some (y10.1.1, (y10.1.2.1, ())))) (fun z11 => none)))
def Qo (t0 : Jh) (t1 : Int) (t5 : Int) : Option ((RL × Unit) ⊕ (((Jh × Lc) × Unit) ⊕ De)) :=
 (cond (decide (t5 < ((ln t0 : Nat) : Int)))
 (cond (Xe (ln t0) t5)
 (ob t0[(tn t5)]? fun x5 =>
 (ob (EL x5 t1) fun r6 =>
 (some (.inl (((ls t0 (tn t5) r6.1), r6.2.1, (wr .i64 (t5 + 1)), ()), ())))))
 none)
 (some (.inr (.inl ((t0, t1, ()), ())))))
def ZE := Ua fun x : (RL × Unit) => Qo x.1.1 x.1.2.1 x.1.2.2.1
def FJ (a0 : Jh) (a1 : Int) : Option (Jh × Lc) :=
 (ob (ZE ((a0, a1, 0, ()), ())) (se (fun y7 => (some (y7.1.1, (y7.1.2.1, ())))) (fun z8 => none)))
def Fq (t0 : Ud) (t1 : Int) (t5 : Int) : Option (DQ ⊕ (((Ud × Lc) × Unit) ⊕ De)) :=
 (cond (decide (t5 < ((ln t0 : Nat) : Int)))
 (cond (Xe (ln t0) t5)
 (ob t0[(tn t5)]? fun x11 =>
 (cond (Xe (ln (ls t0 (tn t5) (t1, x11.2))) t5)
 (ob (ls t0 (tn t5) (t1, x11.2))[(tn t5)]? fun x12 =>
 (cond (Xe (ln (ls (ls t0 (tn t5) (t1, x11.2)) (tn t5) (x12.1, ((wr .i64 (t1 + 1)), x12.2.1.2), x12.2.2))) t5)
 (ob (ls (ls t0 (tn t5) (t1, x11.2)) (tn t5) (x12.1, ((wr .i64 (t1 + 1)), x12.2.1.2), x12.2.2))[(tn t5)]? fun x13 =>
 (cond (Xe (ln (ls (ls (ls t0 (tn t5) (t1, x11.2)) (tn t5) (x12.1, ((wr .i64 (t1 + 1)), x12.2.1.2), x12.2.2)) (tn t5) (x13.1, (x13.2.1.1, (wr .i64 ((wr .i64 (t1 + 1)) + 1)), x13.2.1.2.2), x13.2.2))) t5)
 (ob (ls (ls (ls t0 (tn t5) (t1, x11.2)) (tn t5) (x12.1, ((wr .i64 (t1 + 1)), x12.2.1.2), x12.2.2)) (tn t5) (x13.1, (x13.2.1.1, (wr .i64 ((wr .i64 (t1 + 1)) + 1)), x13.2.1.2.2), x13.2.2))[(tn t5)]? fun x14 =>
 (cond (Xe (ln (ls (ls (ls (ls t0 (tn t5) (t1, x11.2)) (tn t5) (x12.1, ((wr .i64 (t1 + 1)), x12.2.1.2), x12.2.2)) (tn t5) (x13.1, (x13.2.1.1, (wr .i64 ((wr .i64 (t1 + 1)) + 1)), x13.2.1.2.2), x13.2.2)) (tn t5) (x14.1, (x14.2.1.1, x14.2.1.2.1, (wr .i64 ((wr .i64 ((wr .i64 (t1 + 1)) + 1)) + 1)), x14.2.1.2.2.2), x14.2.2))) t5)
 (ob (ls (ls (ls (ls t0 (tn t5) (t1, x11.2)) (tn t5) (x12.1, ((wr .i64 (t1 + 1)), x12.2.1.2), x12.2.2)) (tn t5) (x13.1, (x13.2.1.1, (wr .i64 ((wr .i64 (t1 + 1)) + 1)), x13.2.1.2.2), x13.2.2)) (tn t5) (x14.1, (x14.2.1.1, x14.2.1.2.1, (wr .i64 ((wr .i64 ((wr .i64 (t1 + 1)) + 1)) + 1)), x14.2.1.2.2.2), x14.2.2))[(tn t5)]? fun x15 =>
 (some (.inl (((ls (ls (ls (ls (ls t0 (tn t5) (t1, x11.2)) (tn t5) (x12.1, ((wr .i64 (t1 + 1)), x12.2.1.2), x12.2.2)) (tn t5) (x13.1, (x13.2.1.1, (wr .i64 ((wr .i64 (t1 + 1)) + 1)), x13.2.1.2.2), x13.2.2)) (tn t5) (x14.1, (x14.2.1.1, x14.2.1.2.1, (wr .i64 ((wr .i64 ((wr .i64 (t1 + 1)) + 1)) + 1)), x14.2.1.2.2.2), x14.2.2)) (tn t5) (x15.1, (x15.2.1.1, x15.2.1.2.1, x15.2.1.2.2.1, (wr .i64 ((wr .i64 ((wr .i64 ((wr .i64 (t1 + 1)) + 1)) + 1)) + 1)), x15.2.1.2.2.2.2), x15.2.2)), (wr .i64 ((wr .i64 ((wr .i64 ((wr .i64 ((wr .i64 (t1 + 1)) + 1)) + 1)) + 1)) + 1)), (wr .i64 (t5 + 1)), ()), ()))))
 none))
 none))
 none))
 none))
 none)
 (some (.inr (.inl ((t0, t1, ()), ())))))
def UH := Ua fun x : DQ => Fq x.1.1 x.1.2.1 x.1.2.2.1
def CL (a0 : Ud) (a1 : Int) : Option (Ud × Lc) :=
 (ob (UH ((a0, a1, 0, ()), ())) (se (fun y16 => (some (y16.1.1, (y16.1.2.1, ())))) (fun z17 => none)))
def Lz (a0 : Gb) (a1 : Int) : Option (Gb × Lc) :=
 (ob (Nz a0.1 a1) fun r1 =>
 (ob (FJ a0.2.1 r1.2.1) fun r2 =>
 (ob (CL a0.2.2.2.1 r2.2.1) fun r3 =>
 (some (((a0.1.1, r1.1.2.1, ()), r2.1, a0.2.2.1, r3.1, a0.2.2.2.2), (r3.2.1, ()))))))
def Sv (a0 : Hb) (a1 : Int) : Option (Hb × Lc) :=
 (ob (Lz a0.1 a1) fun r1 =>
 (ob (Mz a0.2.2.1 r1.2.1) fun r2 =>
 (some ((((a0.1.1.1, r1.1.1.2.1, ()), r1.1.2.1, a0.1.2.2.1, r1.1.2.2.2.1, a0.1.2.2.2.2), a0.2.1, r2.1, a0.2.2.2), (r2.2.1, ())))))
def Yt (a0 : Zc) (a1 : Int) : Option (Zc × Lc) :=
 (ob (Dq a0.2.1 a1) fun r1 =>
 (ob (Ks a0.2.2.1 r1.2.1) fun r2 =>
 (ob (Sv a0.2.2.2.1 r2.2.1) fun r3 =>
 (some ((a0.1, (a0.2.1.1, a0.2.1.2.1, a0.2.1.2.2.1, a0.2.1.2.2.2.1, a0.2.1.2.2.2.2.1, r1.1.2.2.2.2.2.1, ()), (r2.1.1, a0.2.2.1.2.1, r2.1.2.2.1, a0.2.2.1.2.2.2.1, a0.2.2.1.2.2.2.2.1, a0.2.2.1.2.2.2.2.2.1, r2.1.2.2.2.2.2.2.1, ()), (((a0.2.2.2.1.1.1.1, r3.1.1.1.2.1, ()), r3.1.1.2.1, a0.2.2.2.1.1.2.2.1, r3.1.1.2.2.2.1, a0.2.2.2.1.1.2.2.2.2), a0.2.2.2.1.2.1, r3.1.2.2.1, a0.2.2.2.1.2.2.2), a0.2.2.2.2), (r3.2.1, ()))))))
def Zp (a0 : Ob) (a1 : Int) : Option Lc :=
 (ob (BG a0.2.2.2.2.2.1 a1) fun r1 =>
 (cond (decide (r1.1 < 0))
 (some ((-1), ()))
 (some (r1.1, ()))))
def Lo (t0 : Wd) (t1 : Int) (t5 : Int) : Option (SL ⊕ LF) :=
 (cond (decide (t5 < ((ln t0 : Nat) : Int)))
 (ob (Ab t0 t5) fun x5 =>
 (cond (x5.1 != t1)
 (some (.inr (.inr (((-1), ()), ()))))
 (ob (Ab t0 t5) fun x6 =>
 (cond (x6.2.1 != (wr .i64 (t1 + 1)))
 (some (.inr (.inr (((-1), ()), ()))))
 (some (.inl ((t0, (wr .i64 ((wr .i64 (t1 + 1)) + 1)), (wr .i64 (t5 + 1)), ()), ())))))))
 (some (.inr (.inl ((t1, ()), ())))))
def UE := Ua fun x : SL => Lo x.1.1 x.1.2.1 x.1.2.2.1
def AJ (a0 : Wd) (a1 : Int) : Option Lc :=
 (ob (UE ((a0, a1, 0, ()), ())) (se (fun y7 => (some (y7.1.1, ()))) (fun z8 => (some (z8.1.1, ())))))
def Pm (t0 : Qd) (t1 : Int) (t5 : Int) : Option (CQ ⊕ LF) :=
 (cond (decide (t5 < ((ln t0 : Nat) : Int)))
 (ob (Ab t0 t5) fun x7 =>
 (cond (x7.1 != t1)
 (some (.inr (.inr (((-1), ()), ()))))
 (ob (Ab t0 t5) fun x8 =>
 (cond (x8.2.1 != (wr .i64 (t1 + 1)))
 (some (.inr (.inr (((-1), ()), ()))))
 (ob (Ab t0 t5) fun x9 =>
 (cond ((3 : Int) == 0)
 none
 (cond (x9.2.2.1 != ((Int.tmod (wr .i64 ((wr .i64 (t1 + 1)) + 1)) 3) == 0))
 (some (.inr (.inr (((-1), ()), ()))))
 (some (.inl ((t0, (wr .i64 ((wr .i64 ((wr .i64 (t1 + 1)) + 1)) + 1)), (wr .i64 (t5 + 1)), ()), ()))))))))))
 (some (.inr (.inl ((t1, ()), ())))))
def MD := Ua fun x : CQ => Pm x.1.1 x.1.2.1 x.1.2.2.1
def BH (a0 : Qd) (a1 : Int) : Option Lc :=
 (ob (MD ((a0, a1, 0, ()), ())) (se (fun y10 => (some (y10.1.1, ()))) (fun z11 => (some (z11.1.1, ())))))
def Is (a0 : Oa) (a1 : Int) : Option Lc :=
 (ob (AJ a0.1 a1) fun r1 =>
 (cond (decide (r1.1 < 0))
 (some ((-1), ()))
 (ob (Jz a0.2.2.1 r1.1) fun r2 =>
 (cond (decide (r2.1 < 0))
 (some ((-1), ()))
 (ob (BH a0.2.2.2.2.2.2.1 r2.1) fun r3 =>
 (cond (decide (r3.1 < 0))
 (some ((-1), ()))
 (some (r3.1, ()))))))))
def Cq (t0 : Eh) (t1 : Int) (t5 : Int) : Option ((BQ × Unit) ⊕ LF) :=
 (cond (decide (t5 < ((ln t0 : Nat) : Int)))
 (ob (Ab t0 t5) fun x7 =>
 (cond (x7.1 != t1)
 (some (.inr (.inr (((-1), ()), ()))))
 (ob (Ab t0 t5) fun x8 =>
 (cond (x8.2.1 != (wr .i64 (t1 + 1)))
 (some (.inr (.inr (((-1), ()), ()))))
 (ob (Ab t0 t5) fun x9 =>
 (cond (x9.2.2.1 != (wr .i64 ((wr .i64 (t1 + 1)) + 1)))
 (some (.inr (.inr (((-1), ()), ()))))
 (some (.inl ((t0, (wr .i64 ((wr .i64 ((wr .i64 (t1 + 1)) + 1)) + 1)), (wr .i64 (t5 + 1)), ()), ())))))))))
 (some (.inr (.inl ((t1, ()), ())))))
def TH := Ua fun x : (BQ × Unit) => Cq x.1.1 x.1.2.1 x.1.2.2.1
def BL (a0 : Eh) (a1 : Int) : Option Lc :=
 (ob (TH ((a0, a1, 0, ()), ())) (se (fun y10 => (some (y10.1.1, ()))) (fun z11 => (some (z11.1.1, ())))))
def No (t0 : Jh) (t1 : Int) (t5 : Int) : Option ((RL × Unit) ⊕ LF) :=
 (cond (decide (t5 < ((ln t0 : Nat) : Int)))
 (ob (Ab t0 t5) fun x5 =>
 (ob (BL x5 t1) fun r6 =>
 (cond (decide (r6.1 < 0))
 (some (.inr (.inr (((-1), ()), ()))))
 (some (.inl ((t0, r6.1, (wr .i64 (t5 + 1)), ()), ()))))))
 (some (.inr (.inl ((t1, ()), ())))))
def WE := Ua fun x : (RL × Unit) => No x.1.1 x.1.2.1 x.1.2.2.1
def CJ (a0 : Jh) (a1 : Int) : Option Lc :=
 (ob (WE ((a0, a1, 0, ()), ())) (se (fun y7 => (some (y7.1.1, ()))) (fun z8 => (some (z8.1.1, ())))))
def Aq (t0 : Ud) (t1 : Int) (t5 : Int) : Option (DQ ⊕ LF) :=
 (cond (decide (t5 < ((ln t0 : Nat) : Int)))
 (ob (Ab t0 t5) fun x11 =>
 (cond (x11.1 != t1)
 (some (.inr (.inr (((-1), ()), ()))))
 (ob (Ab t0 t5) fun x12 =>
 (cond (x12.2.1.1 != (wr .i64 (t1 + 1)))
 (some (.inr (.inr (((-1), ()), ()))))
 (ob (Ab t0 t5) fun x13 =>
 (cond (x13.2.1.2.1 != (wr .i64 ((wr .i64 (t1 + 1)) + 1)))
 (some (.inr (.inr (((-1), ()), ()))))
 (ob (Ab t0 t5) fun x14 =>
 (cond (x14.2.1.2.2.1 != (wr .i64 ((wr .i64 ((wr .i64 (t1 + 1)) + 1)) + 1)))
 (some (.inr (.inr (((-1), ()), ()))))
 (ob (Ab t0 t5) fun x15 =>
 (cond (x15.2.1.2.2.2.1 != (wr .i64 ((wr .i64 ((wr .i64 ((wr .i64 (t1 + 1)) + 1)) + 1)) + 1)))
 (some (.inr (.inr (((-1), ()), ()))))
 (some (.inl ((t0, (wr .i64 ((wr .i64 ((wr .i64 ((wr .i64 ((wr .i64 (t1 + 1)) + 1)) + 1)) + 1)) + 1)), (wr .i64 (t5 + 1)), ()), ())))))))))))))
 (some (.inr (.inl ((t1, ()), ())))))
def QH := Ua fun x : DQ => Aq x.1.1 x.1.2.1 x.1.2.2.1
def AL (a0 : Ud) (a1 : Int) : Option Lc :=
 (ob (QH ((a0, a1, 0, ()), ())) (se (fun y16 => (some (y16.1.1, ()))) (fun z17 => (some (z17.1.1, ())))))
def Iz (a0 : Gb) (a1 : Int) : Option Lc :=
 (ob (Kz a0.1 a1) fun r1 =>
 (cond (decide (r1.1 < 0))
 (some ((-1), ()))
 (ob (CJ a0.2.1 r1.1) fun r2 =>
 (cond (decide (r2.1 < 0))
 (some ((-1), ()))
 (ob (AL a0.2.2.2.1 r2.1) fun r3 =>
 (cond (decide (r3.1 < 0))
 (some ((-1), ()))
 (some (r3.1, ()))))))))
def Rv (a0 : Hb) (a1 : Int) : Option Lc :=
 (ob (Iz a0.1 a1) fun r1 =>
 (cond (decide (r1.1 < 0))
 (some ((-1), ()))
 (ob (Jz a0.2.2.1 r1.1) fun r2 =>
 (cond (decide (r2.1 < 0))
 (some ((-1), ()))
 (some (r2.1, ()))))))
def Xt (a0 : Zc) (a1 : Int) : Option Lc :=
 (ob (Zp a0.2.1 a1) fun r1 =>
 (cond (decide (r1.1 < 0))
 (some ((-1), ()))
 (ob (Is a0.2.2.1 r1.1) fun r2 =>
 (cond (decide (r2.1 < 0))
 (some ((-1), ()))
 (ob (Rv a0.2.2.2.1 r2.1) fun r3 =>
 (cond (decide (r3.1 < 0))
 (some ((-1), ()))
 (some (r3.1, ()))))))))
def Ps (t1 : Int) (t3 : Qd) (t4 : Int) (t5 : Unit) (t12 : Int) (t13 : Int) (t14 : Int) (b5 : Qc) : Option (((Int × (Qd × (Int × ZN))) × LC) ⊕ (EI ⊕ EI)) :=
 (cond (decide (t14 < ((ln t3 : Nat) : Int)))
 (ob (Ab t3 t14) fun x7 =>
 (ob (Fu x7) fun r8 =>
 (cond (!r8.1)
 (some (.inr (.inr ((0, 0, ()), ()))))
 (cond (decide (x7.1 ≥ t12))
 (some (.inr (.inr ((2, t12, ()), ()))))
 (cond (x7.2.1 == t1)
 (cond (!x7.2.2.1)
 (some (.inr (.inr ((1, x7.1, ()), ()))))
 (cond (x7.2.1 == t1)
 (some (.inl ((t1, t3, t4, (), t12, t13, (wr .i64 (t14 + 1)), ()), (b5, ()))))
 (cond x7.2.2.1
 (cond (b5.2.2.1 == 1)
 (some (.inr (.inr ((2, x7.1, ()), ()))))
 (cond x7.2.2.1
 (cond (decide (0 ≤ x7.2.1))
 (some (.inl ((t1, t3, t4, (), t12, (Oc .i64 t13 (Sa .i64 1 x7.2.1)), (wr .i64 (t14 + 1)), ()), (b5, ()))))
 none)
 (cond (b5.2.2.1 == 2)
 (cond (decide (0 ≤ x7.2.1))
 (cond ((Wa .i64 (Yb .i64 t13 x7.2.1) 1) == 1)
 (some (.inr (.inr ((2, x7.1, ()), ()))))
 (some (.inl ((t1, t3, t4, (), t12, t13, (wr .i64 (t14 + 1)), ()), (b5, ())))))
 none)
 (some (.inl ((t1, t3, t4, (), t12, t13, (wr .i64 (t14 + 1)), ()), (b5, ())))))))
 (cond x7.2.2.1
 (cond (decide (0 ≤ x7.2.1))
 (some (.inl ((t1, t3, t4, (), t12, (Oc .i64 t13 (Sa .i64 1 x7.2.1)), (wr .i64 (t14 + 1)), ()), (b5, ()))))
 none)
 (cond (b5.2.2.1 == 2)
 (cond (decide (0 ≤ x7.2.1))
 (cond ((Wa .i64 (Yb .i64 t13 x7.2.1) 1) == 1)
 (some (.inr (.inr ((2, x7.1, ()), ()))))
 (some (.inl ((t1, t3, t4, (), t12, t13, (wr .i64 (t14 + 1)), ()), (b5, ())))))
 none)
 (some (.inl ((t1, t3, t4, (), t12, t13, (wr .i64 (t14 + 1)), ()), (b5, ())))))))))
 (cond (x7.2.1 == t1)
 (some (.inl ((t1, t3, t4, (), t12, t13, (wr .i64 (t14 + 1)), ()), (b5, ()))))
 (cond x7.2.2.1
 (cond (b5.2.2.1 == 1)
 (some (.inr (.inr ((2, x7.1, ()), ()))))
 (cond x7.2.2.1
 (cond (decide (0 ≤ x7.2.1))
 (some (.inl ((t1, t3, t4, (), t12, (Oc .i64 t13 (Sa .i64 1 x7.2.1)), (wr .i64 (t14 + 1)), ()), (b5, ()))))
 none)
 (cond (b5.2.2.1 == 2)
 (cond (decide (0 ≤ x7.2.1))
 (cond ((Wa .i64 (Yb .i64 t13 x7.2.1) 1) == 1)
 (some (.inr (.inr ((2, x7.1, ()), ()))))
 (some (.inl ((t1, t3, t4, (), t12, t13, (wr .i64 (t14 + 1)), ()), (b5, ())))))
 none)
 (some (.inl ((t1, t3, t4, (), t12, t13, (wr .i64 (t14 + 1)), ()), (b5, ())))))))
 (cond x7.2.2.1
 (cond (decide (0 ≤ x7.2.1))
 (some (.inl ((t1, t3, t4, (), t12, (Oc .i64 t13 (Sa .i64 1 x7.2.1)), (wr .i64 (t14 + 1)), ()), (b5, ()))))
 none)
 (cond (b5.2.2.1 == 2)
 (cond (decide (0 ≤ x7.2.1))
 (cond ((Wa .i64 (Yb .i64 t13 x7.2.1) 1) == 1)
 (some (.inr (.inr ((2, x7.1, ()), ()))))
 (some (.inl ((t1, t3, t4, (), t12, t13, (wr .i64 (t14 + 1)), ()), (b5, ())))))
 none)
 (some (.inl ((t1, t3, t4, (), t12, t13, (wr .i64 (t14 + 1)), ()), (b5, ())))))))))))))
 (some (.inr (.inl ((t4, t12, ()), ())))))
def Zv := Ua fun x : ((Int × (Qd × (Int × ZN))) × LC) => Ps x.1.1 x.1.2.1 x.1.2.2.1 x.1.2.2.2.1 x.1.2.2.2.2.1 x.1.2.2.2.2.2.1 x.1.2.2.2.2.2.2.1 x.2.1
def OG (a0 : Qc) (a1 : Int) (a2 : Int) (a3 : Qd) (a4 : Int) : Option Va :=
 (ob (Mx a0) fun r1 =>
 (cond (!r1.1)
 (some (0, 0, ()))
 (ob (Ac a2 0 1000000) fun r2 =>
 (cond (!r2.1)
 (some (0, 0, ()))
 (ob (Zv ((a1, a3, a4, (), (wr .i64 (a2 + a0.1)), 0, 0, ()), (a0, ()))) (se (fun y9 => (cond (decide (y9.1.1 ≥ y9.1.2.1))
 (some (2, y9.1.2.1, ()))
 (some (0, 0, ())))) (fun z10 => (some z10.1))))))))
def Iu (a0 : Hb) (a1 : Ca) (a2 : Int) : Option (Hb × (Xj × Uu)) :=
 (ob (Nx a0.1.2.2.1 a0.1.2.2.2.1) fun r1 =>
 (ob (Ix a0.1.1 r1.1 a1.2.1) fun r2 =>
 (ob (Fk r2.1) fun r3 =>
 (cond r3.1
 (cond (Md (ln a0.2.2.1) 1 ((ln a0.2.2.1 : Nat) : Int))
 (ob (OG a0.2.1 a1.2.1 a1.1 (Eb a0.2.2.1 (tn 1) (tn ((ln a0.2.2.1 : Nat) : Int))) a0.2.2.2.1) fun r4 =>
 (cond (a0.2.2.2.2.2.1 == (wr .i64 (a1.2.1 + 1)))
 (cond (decide ((wr .i64 (a1.1 - a0.2.2.2.2.2.2.1)) < a0.2.1.2.1))
 (cond ((1 : Int) == 0)
 (some (a0, ([], a2, false, ())))
 (cond (!((1 : Int) == 2))
 (ob (Sk a0.1 a1.2.1 ((1 : Int) == 2)) fun r5 =>
 (some ((r5.1, a0.2.1, a0.2.2.1, a0.2.2.2.1, a0.2.2.2.2.1, (wr .i64 (a1.2.1 + 1)), a1.1, a0.2.2.2.2.2.2.2), (r5.2.1, (max a2 a1.1), true, ()))))
 (ob (Sk a0.1 a1.2.1 ((1 : Int) == 2)) fun r6 =>
 (some ((r6.1, a0.2.1, a0.2.2.1, a0.2.2.2.1, a0.2.2.2.2.1, 0, a0.2.2.2.2.2.2), (r6.2.1, (max a2 a1.1), true, ()))))))
 (cond (r4.1 == 0)
 (some (a0, ([], a2, false, ())))
 (cond (!(r4.1 == 2))
 (ob (Sk a0.1 a1.2.1 (r4.1 == 2)) fun r7 =>
 (some ((r7.1, a0.2.1, a0.2.2.1, a0.2.2.2.1, a0.2.2.2.2.1, (wr .i64 (a1.2.1 + 1)), a1.1, a0.2.2.2.2.2.2.2), (r7.2.1, (max a2 r4.2.1), true, ()))))
 (ob (Sk a0.1 a1.2.1 (r4.1 == 2)) fun r8 =>
 (some ((r8.1, a0.2.1, a0.2.2.1, a0.2.2.2.1, a0.2.2.2.2.1, 0, a0.2.2.2.2.2.2), (r8.2.1, (max a2 r4.2.1), true, ())))))))
 (cond (r4.1 == 0)
 (some (a0, ([], a2, false, ())))
 (cond (!(r4.1 == 2))
 (ob (Sk a0.1 a1.2.1 (r4.1 == 2)) fun r9 =>
 (some ((r9.1, a0.2.1, a0.2.2.1, a0.2.2.2.1, a0.2.2.2.2.1, (wr .i64 (a1.2.1 + 1)), a1.1, a0.2.2.2.2.2.2.2), (r9.2.1, (max a2 r4.2.1), true, ()))))
 (ob (Sk a0.1 a1.2.1 (r4.1 == 2)) fun r10 =>
 (some ((r10.1, a0.2.1, a0.2.2.1, a0.2.2.2.1, a0.2.2.2.2.1, 0, a0.2.2.2.2.2.2), (r10.2.1, (max a2 r4.2.1), true, ()))))))))
 none)
 (ob (Sk a0.1 a1.2.1 false) fun r11 =>
 (some ((r11.1, a0.2), (r11.2.1, a2, true, ()))))))))
def Hw (t0 : Unit) (t3 : Ug) (t5 : Int) (t6 : (Xj × Int)) (t13 : Int) (b500000 : Hb) : Option (LaC ⊕ (((Unit × (Ug × Lc)) × YN) ⊕ De)) :=
 (cond (decide (t13 < ((ln t6.1 : Nat) : Int)))
 (cond (Xe (ln t6.1) t13)
 (cond (Nat.beq (tn t13) (tn t6.2))
 (ob t6.1[(tn t13)]? fun x53 =>
 (cond (bl (ln t3 + ln ([(t5, x53, ())] : List Lf)) Ta)
 (some (.inl (((), (ap t3 ([(t5, x53, ())] : List Lf)), t5, (t6.1, ((((tn t13) + 1) : Nat) : Int)), (wr .i64 (t13 + 1)), ()), (b500000, ()))))
 none))
 none)
 none)
 (some (.inr (.inl (((), t3, t5, ()), (b500000, ()))))))
def Ji := Ua fun x : LaC => Hw x.1.1 x.1.2.1 x.1.2.2.1 x.1.2.2.2.1 x.1.2.2.2.2.1 x.2.1
def Gi (t0 : Unit) (t3 : Ug) (b500000 : Hb) : Option ((W2 × YN) ⊕ ((W2 × YN) ⊕ (W2 × YN))) :=
 (cond (decide (((ln b500000.2.2.1 : Nat) : Int) > 0))
 (cond (Xe (ln b500000.2.2.1) 0)
 (ob b500000.2.2.1[(tn 0)]? fun x38 =>
 (cond x38.2.2.1
 (ob (Iu b500000 x38 (max b500000.2.2.2.2.1 x38.1)) fun r39 =>
 (cond (!r39.2.2.2.1)
 (some (.inr (.inr (((), t3, ()), (r39.1, ())))))
 (ob (Ji (((), t3, r39.2.2.1, (r39.2.1, 0), 0, ()), (r39.1, ()))) (se (fun y43 => (cond (Md (ln y43.2.1.2.2.1) 1 ((ln y43.2.1.2.2.1 : Nat) : Int))
 (cond (bl (ln ([] : List Ca) + ln (Eb y43.2.1.2.2.1 (tn 1) (tn ((ln y43.2.1.2.2.1 : Nat) : Int)))) Ta)
 (some (.inl (((), y43.1.2.1, ()), ((y43.2.1.1, y43.2.1.2.1, (ap [] (Eb y43.2.1.2.2.1 (tn 1) (tn ((ln y43.2.1.2.2.1 : Nat) : Int)))), y43.2.1.2.2.2.1, y43.1.2.2.1, y43.2.1.2.2.2.2.2), ()))))
 none)
 none)) (fun z44 => none)))))
 (ob (VB b500000.1 x38.2.1) fun r45 =>
 (cond (b500000.2.2.2.2.2.1 == (wr .i64 (x38.2.1 + 1)))
 (ob (Ji (((), t3, (max b500000.2.2.2.2.1 x38.1), (r45.2.1, 0), 0, ()), ((r45.1, b500000.2.1, b500000.2.2.1, b500000.2.2.2.1, b500000.2.2.2.2.1, b500000.2.2.2.2.2.1, x38.1, b500000.2.2.2.2.2.2.2), ()))) (se (fun y49 => (cond (Md (ln y49.2.1.2.2.1) 1 ((ln y49.2.1.2.2.1 : Nat) : Int))
 (cond (bl (ln ([] : List Ca) + ln (Eb y49.2.1.2.2.1 (tn 1) (tn ((ln y49.2.1.2.2.1 : Nat) : Int)))) Ta)
 (some (.inl (((), y49.1.2.1, ()), ((y49.2.1.1, y49.2.1.2.1, (ap [] (Eb y49.2.1.2.2.1 (tn 1) (tn ((ln y49.2.1.2.2.1 : Nat) : Int)))), y49.2.1.2.2.2.1, y49.1.2.2.1, y49.2.1.2.2.2.2.2), ()))))
 none)
 none)) (fun z50 => none)))
 (ob (Ji (((), t3, (max b500000.2.2.2.2.1 x38.1), (r45.2.1, 0), 0, ()), ((r45.1, b500000.2), ()))) (se (fun y54 => (cond (Md (ln y54.2.1.2.2.1) 1 ((ln y54.2.1.2.2.1 : Nat) : Int))
 (cond (bl (ln ([] : List Ca) + ln (Eb y54.2.1.2.2.1 (tn 1) (tn ((ln y54.2.1.2.2.1 : Nat) : Int)))) Ta)
 (some (.inl (((), y54.1.2.1, ()), ((y54.2.1.1, y54.2.1.2.1, (ap [] (Eb y54.2.1.2.2.1 (tn 1) (tn ((ln y54.2.1.2.2.1 : Nat) : Int)))), y54.2.1.2.2.2.1, y54.1.2.2.1, y54.2.1.2.2.2.2.2), ()))))
 none)
 none)) (fun z55 => none)))))))
 none)
 (some (.inr (.inl (((), t3, ()), (b500000, ()))))))
def Dj := Ua fun x : (W2 × YN) => Gi x.1.1 x.1.2.1 x.2.1
def Wx (a0 : Hb) : Option (Hb × (Ug × Unit)) :=
 (ob (Dj (((), [], ()), (a0, ()))) (se (fun y56 => (some (y56.2.1, (y56.1.2.1, ())))) (fun z57 => (some (z57.2.1, (z57.1.2.1, ()))))))
def Yz (a0 : Hb) (a1 : Qd) (a2 : Int) : Option (Hb × (Ug × Rc)) :=
 (cond (bl (ln ([] : List Ca) + ln a0.2.2.1) Ta)
 (cond (bl (ln (ap [] a0.2.2.1) + ln a1) Ta)
 (ob (Eu a0) fun r1 =>
 (cond (!r1.1)
 (some ((((0, [], ()), [], 0, [], 0, false, ()), (0, 0, 0, ()), [], 0, 0, 0, 0, ()), [], false, ()))
 (ob (Ac a2 a0.2.2.2.1 1000000) fun r2 =>
 (cond (!r2.1)
 (some ((((0, [], ()), [], 0, [], 0, false, ()), (0, 0, 0, ()), [], 0, 0, 0, 0, ()), [], false, ()))
 (ob (Ju a0.1) fun r3 =>
 (ob (Mj (ap (ap [] a0.2.2.1) a1) r3.1 a0.1.1.1 0) fun r4 =>
 (cond (!r4.1)
 (some ((((0, [], ()), [], 0, [], 0, false, ()), (0, 0, 0, ()), [], 0, 0, 0, 0, ()), [], false, ()))
 (cond (decide (((ln a1 : Nat) : Int) > 0))
 (ob (Ab a1 0) fun x5 =>
 (cond (decide (x5.1 < a0.2.2.2.1))
 (some ((((0, [], ()), [], 0, [], 0, false, ()), (0, 0, 0, ()), [], 0, 0, 0, 0, ()), [], false, ()))
 (ob (Ab a1 (wr .i64 (((ln a1 : Nat) : Int) - 1))) fun x6 =>
 (cond (decide (x6.1 > a2))
 (some ((((0, [], ()), [], 0, [], 0, false, ()), (0, 0, 0, ()), [], 0, 0, 0, 0, ()), [], false, ()))
 (ob (Rr a0.1) fun r7 =>
 (ob (Wx (r7.1, a0.2.1, (ap (ap [] a0.2.2.1) a1), a2, a0.2.2.2.2)) fun r8 =>
 (some (r8.1, r8.2.1, true, ()))))))))
 (ob (Rr a0.1) fun r9 =>
 (ob (Wx (r9.1, a0.2.1, (ap (ap [] a0.2.2.1) a1), a2, a0.2.2.2.2)) fun r10 =>
 (some (r10.1, r10.2.1, true, ()))))))))))))
 none)
 none)
def Bq (t0 : Ug) (t1 : Int) (t5 : Int) : Option (Y9 ⊕ LF) :=
 (cond (decide (t5 < ((ln t0 : Nat) : Int)))
 (ob (Ab t0 t5) fun x9 =>
 (cond (x9.1 != t1)
 (some (.inr (.inr (((-1), ()), ()))))
 (ob (Ab t0 t5) fun x10 =>
 (cond (x10.2.1.1 != (wr .i64 (t1 + 1)))
 (some (.inr (.inr (((-1), ()), ()))))
 (ob (Ab t0 t5) fun x11 =>
 (ob (BG x11.2.1.2.1 (wr .i64 ((wr .i64 (t1 + 1)) + 1))) fun r12 =>
 (cond (decide (r12.1 < 0))
 (some (.inr (.inr (((-1), ()), ()))))
 (some (.inl ((t0, r12.1, (wr .i64 (t5 + 1)), ()), ()))))))))))
 (some (.inr (.inl ((t1, ()), ())))))
def SH := Ua fun x : Y9 => Bq x.1.1 x.1.2.1 x.1.2.2.1
def XC (a0 : Ug) (a1 : Int) : Option Lc :=
 (ob (SH ((a0, a1, 0, ()), ())) (se (fun y13 => (some (y13.1.1, ()))) (fun z14 => (some (z14.1.1, ())))))
def Cj (t1 : Int) (t2 : Unit) (t4 : Unit) (t6 : Unit) (t7 : Int) (b2 : Ob) (b4 : Ob) (b6 : Ob) : Option (((Int × PX) × Z9) ⊕ (((Int × EQ) × (Ob × WN)) ⊕ De)) :=
 (cond (decide (t7 < b2.2.2.1))
 (ob (Ab b2.2.2.2.2.2.1 t7) fun x5 =>
 (cond (b2.1 == 0)
 (cond (decide (0 ≤ t7))
 (cond ((Wa .i64 (Yb .i64 (Me .i64 t1 b2.2.2.2.2.1) t7) 1) == 1)
 (cond (decide (1 ≥ b2.2.1))
 (cond (decide (0 ≤ t7))
 (cond ((Wa .i64 (Yb .i64 (Me .i64 t1 b2.2.2.2.1) t7) 1) == 1)
 (cond (decide (0 ≤ t7))
 (cond (b2.1 == 2)
 (cond (bl (ln b6.2.2.2.2.2.1 + ln ([0] : List Int)) Ta)
 (some (.inl ((t1, (), (), (), (wr .i64 (t7 + 1)), ()), (b2, b4, (b6.1, b6.2.1, b6.2.2.1, (Me .i64 b6.2.2.2.1 (Sa .i64 1 t7)), b6.2.2.2.2.1, (ap b6.2.2.2.2.2.1 ([0] : List Int)), b6.2.2.2.2.2.2), ()))))
 none)
 (cond (bl (ln b6.2.2.2.2.2.1 + ln ([1] : List Int)) Ta)
 (some (.inl ((t1, (), (), (), (wr .i64 (t7 + 1)), ()), (b2, b4, (b6.1, b6.2.1, b6.2.2.1, (Me .i64 b6.2.2.2.1 (Sa .i64 1 t7)), b6.2.2.2.2.1, (ap b6.2.2.2.2.2.1 ([1] : List Int)), b6.2.2.2.2.2.2), ()))))
 none))
 none)
 (cond (bl (ln b6.2.2.2.2.2.1 + ln ([1] : List Int)) Ta)
 (some (.inl ((t1, (), (), (), (wr .i64 (t7 + 1)), ()), (b2, b4, (b6.1, b6.2.1, b6.2.2.1, b6.2.2.2.1, b6.2.2.2.2.1, (ap b6.2.2.2.2.2.1 ([1] : List Int)), b6.2.2.2.2.2.2), ()))))
 none))
 none)
 (cond (bl (ln b6.2.2.2.2.2.1 + ln ([1] : List Int)) Ta)
 (some (.inl ((t1, (), (), (), (wr .i64 (t7 + 1)), ()), (b2, b4, (b6.1, b6.2.1, b6.2.2.1, b6.2.2.2.1, b6.2.2.2.2.1, (ap b6.2.2.2.2.2.1 ([1] : List Int)), b6.2.2.2.2.2.2), ()))))
 none))
 (cond (b2.1 == 1)
 (cond (t1 != b2.2.2.2.2.1)
 (cond (decide (1 ≥ b2.2.1))
 (cond (decide (0 ≤ t7))
 (cond ((Wa .i64 (Yb .i64 (Me .i64 t1 b2.2.2.2.1) t7) 1) == 1)
 (cond (decide (0 ≤ t7))
 (cond (b2.1 == 2)
 (cond (bl (ln b6.2.2.2.2.2.1 + ln ([0] : List Int)) Ta)
 (some (.inl ((t1, (), (), (), (wr .i64 (t7 + 1)), ()), (b2, b4, (b6.1, b6.2.1, b6.2.2.1, (Me .i64 b6.2.2.2.1 (Sa .i64 1 t7)), b6.2.2.2.2.1, (ap b6.2.2.2.2.2.1 ([0] : List Int)), b6.2.2.2.2.2.2), ()))))
 none)
 (cond (bl (ln b6.2.2.2.2.2.1 + ln ([1] : List Int)) Ta)
 (some (.inl ((t1, (), (), (), (wr .i64 (t7 + 1)), ()), (b2, b4, (b6.1, b6.2.1, b6.2.2.1, (Me .i64 b6.2.2.2.1 (Sa .i64 1 t7)), b6.2.2.2.2.1, (ap b6.2.2.2.2.2.1 ([1] : List Int)), b6.2.2.2.2.2.2), ()))))
 none))
 none)
 (cond (bl (ln b6.2.2.2.2.2.1 + ln ([1] : List Int)) Ta)
 (some (.inl ((t1, (), (), (), (wr .i64 (t7 + 1)), ()), (b2, b4, (b6.1, b6.2.1, b6.2.2.1, b6.2.2.2.1, b6.2.2.2.2.1, (ap b6.2.2.2.2.2.1 ([1] : List Int)), b6.2.2.2.2.2.2), ()))))
 none))
 none)
 (cond (bl (ln b6.2.2.2.2.2.1 + ln ([1] : List Int)) Ta)
 (some (.inl ((t1, (), (), (), (wr .i64 (t7 + 1)), ()), (b2, b4, (b6.1, b6.2.1, b6.2.2.1, b6.2.2.2.1, b6.2.2.2.2.1, (ap b6.2.2.2.2.2.1 ([1] : List Int)), b6.2.2.2.2.2.2), ()))))
 none))
 (cond (decide ((min 99 (wr .i64 (x5 + 1))) ≥ b2.2.1))
 (cond (decide (0 ≤ t7))
 (cond ((Wa .i64 (Yb .i64 (Me .i64 t1 b2.2.2.2.1) t7) 1) == 1)
 (cond (decide (0 ≤ t7))
 (cond (b2.1 == 2)
 (cond (bl (ln b6.2.2.2.2.2.1 + ln ([0] : List Int)) Ta)
 (some (.inl ((t1, (), (), (), (wr .i64 (t7 + 1)), ()), (b2, b4, (b6.1, b6.2.1, b6.2.2.1, (Me .i64 b6.2.2.2.1 (Sa .i64 1 t7)), b6.2.2.2.2.1, (ap b6.2.2.2.2.2.1 ([0] : List Int)), b6.2.2.2.2.2.2), ()))))
 none)
 (cond (bl (ln b6.2.2.2.2.2.1 + ln ([(min 99 (wr .i64 (x5 + 1)))] : List Int)) Ta)
 (some (.inl ((t1, (), (), (), (wr .i64 (t7 + 1)), ()), (b2, b4, (b6.1, b6.2.1, b6.2.2.1, (Me .i64 b6.2.2.2.1 (Sa .i64 1 t7)), b6.2.2.2.2.1, (ap b6.2.2.2.2.2.1 ([(min 99 (wr .i64 (x5 + 1)))] : List Int)), b6.2.2.2.2.2.2), ()))))
 none))
 none)
 (cond (bl (ln b6.2.2.2.2.2.1 + ln ([(min 99 (wr .i64 (x5 + 1)))] : List Int)) Ta)
 (some (.inl ((t1, (), (), (), (wr .i64 (t7 + 1)), ()), (b2, b4, (b6.1, b6.2.1, b6.2.2.1, b6.2.2.2.1, b6.2.2.2.2.1, (ap b6.2.2.2.2.2.1 ([(min 99 (wr .i64 (x5 + 1)))] : List Int)), b6.2.2.2.2.2.2), ()))))
 none))
 none)
 (cond (bl (ln b6.2.2.2.2.2.1 + ln ([(min 99 (wr .i64 (x5 + 1)))] : List Int)) Ta)
 (some (.inl ((t1, (), (), (), (wr .i64 (t7 + 1)), ()), (b2, b4, (b6.1, b6.2.1, b6.2.2.1, b6.2.2.2.1, b6.2.2.2.2.1, (ap b6.2.2.2.2.2.1 ([(min 99 (wr .i64 (x5 + 1)))] : List Int)), b6.2.2.2.2.2.2), ()))))
 none)))
 (cond (decide ((min 99 (wr .i64 (x5 + 1))) ≥ b2.2.1))
 (cond (decide (0 ≤ t7))
 (cond ((Wa .i64 (Yb .i64 (Me .i64 t1 b2.2.2.2.1) t7) 1) == 1)
 (cond (decide (0 ≤ t7))
 (cond (b2.1 == 2)
 (cond (bl (ln b6.2.2.2.2.2.1 + ln ([0] : List Int)) Ta)
 (some (.inl ((t1, (), (), (), (wr .i64 (t7 + 1)), ()), (b2, b4, (b6.1, b6.2.1, b6.2.2.1, (Me .i64 b6.2.2.2.1 (Sa .i64 1 t7)), b6.2.2.2.2.1, (ap b6.2.2.2.2.2.1 ([0] : List Int)), b6.2.2.2.2.2.2), ()))))
 none)
 (cond (bl (ln b6.2.2.2.2.2.1 + ln ([(min 99 (wr .i64 (x5 + 1)))] : List Int)) Ta)
 (some (.inl ((t1, (), (), (), (wr .i64 (t7 + 1)), ()), (b2, b4, (b6.1, b6.2.1, b6.2.2.1, (Me .i64 b6.2.2.2.1 (Sa .i64 1 t7)), b6.2.2.2.2.1, (ap b6.2.2.2.2.2.1 ([(min 99 (wr .i64 (x5 + 1)))] : List Int)), b6.2.2.2.2.2.2), ()))))
 none))
 none)
 (cond (bl (ln b6.2.2.2.2.2.1 + ln ([(min 99 (wr .i64 (x5 + 1)))] : List Int)) Ta)
 (some (.inl ((t1, (), (), (), (wr .i64 (t7 + 1)), ()), (b2, b4, (b6.1, b6.2.1, b6.2.2.1, b6.2.2.2.1, b6.2.2.2.2.1, (ap b6.2.2.2.2.2.1 ([(min 99 (wr .i64 (x5 + 1)))] : List Int)), b6.2.2.2.2.2.2), ()))))
 none))
 none)
 (cond (bl (ln b6.2.2.2.2.2.1 + ln ([(min 99 (wr .i64 (x5 + 1)))] : List Int)) Ta)
 (some (.inl ((t1, (), (), (), (wr .i64 (t7 + 1)), ()), (b2, b4, (b6.1, b6.2.1, b6.2.2.1, b6.2.2.2.1, b6.2.2.2.2.1, (ap b6.2.2.2.2.2.1 ([(min 99 (wr .i64 (x5 + 1)))] : List Int)), b6.2.2.2.2.2.2), ()))))
 none))))
 none)
 (cond (b2.1 == 1)
 (cond (t1 != b2.2.2.2.2.1)
 (cond (decide (1 ≥ b2.2.1))
 (cond (decide (0 ≤ t7))
 (cond ((Wa .i64 (Yb .i64 (Me .i64 t1 b2.2.2.2.1) t7) 1) == 1)
 (cond (decide (0 ≤ t7))
 (cond (b2.1 == 2)
 (cond (bl (ln b6.2.2.2.2.2.1 + ln ([0] : List Int)) Ta)
 (some (.inl ((t1, (), (), (), (wr .i64 (t7 + 1)), ()), (b2, b4, (b6.1, b6.2.1, b6.2.2.1, (Me .i64 b6.2.2.2.1 (Sa .i64 1 t7)), b6.2.2.2.2.1, (ap b6.2.2.2.2.2.1 ([0] : List Int)), b6.2.2.2.2.2.2), ()))))
 none)
 (cond (bl (ln b6.2.2.2.2.2.1 + ln ([1] : List Int)) Ta)
 (some (.inl ((t1, (), (), (), (wr .i64 (t7 + 1)), ()), (b2, b4, (b6.1, b6.2.1, b6.2.2.1, (Me .i64 b6.2.2.2.1 (Sa .i64 1 t7)), b6.2.2.2.2.1, (ap b6.2.2.2.2.2.1 ([1] : List Int)), b6.2.2.2.2.2.2), ()))))
 none))
 none)
 (cond (bl (ln b6.2.2.2.2.2.1 + ln ([1] : List Int)) Ta)
 (some (.inl ((t1, (), (), (), (wr .i64 (t7 + 1)), ()), (b2, b4, (b6.1, b6.2.1, b6.2.2.1, b6.2.2.2.1, b6.2.2.2.2.1, (ap b6.2.2.2.2.2.1 ([1] : List Int)), b6.2.2.2.2.2.2), ()))))
 none))
 none)
 (cond (bl (ln b6.2.2.2.2.2.1 + ln ([1] : List Int)) Ta)
 (some (.inl ((t1, (), (), (), (wr .i64 (t7 + 1)), ()), (b2, b4, (b6.1, b6.2.1, b6.2.2.1, b6.2.2.2.1, b6.2.2.2.2.1, (ap b6.2.2.2.2.2.1 ([1] : List Int)), b6.2.2.2.2.2.2), ()))))
 none))
 (cond (decide ((min 99 (wr .i64 (x5 + 1))) ≥ b2.2.1))
 (cond (decide (0 ≤ t7))
 (cond ((Wa .i64 (Yb .i64 (Me .i64 t1 b2.2.2.2.1) t7) 1) == 1)
 (cond (decide (0 ≤ t7))
 (cond (b2.1 == 2)
 (cond (bl (ln b6.2.2.2.2.2.1 + ln ([0] : List Int)) Ta)
 (some (.inl ((t1, (), (), (), (wr .i64 (t7 + 1)), ()), (b2, b4, (b6.1, b6.2.1, b6.2.2.1, (Me .i64 b6.2.2.2.1 (Sa .i64 1 t7)), b6.2.2.2.2.1, (ap b6.2.2.2.2.2.1 ([0] : List Int)), b6.2.2.2.2.2.2), ()))))
 none)
 (cond (bl (ln b6.2.2.2.2.2.1 + ln ([(min 99 (wr .i64 (x5 + 1)))] : List Int)) Ta)
 (some (.inl ((t1, (), (), (), (wr .i64 (t7 + 1)), ()), (b2, b4, (b6.1, b6.2.1, b6.2.2.1, (Me .i64 b6.2.2.2.1 (Sa .i64 1 t7)), b6.2.2.2.2.1, (ap b6.2.2.2.2.2.1 ([(min 99 (wr .i64 (x5 + 1)))] : List Int)), b6.2.2.2.2.2.2), ()))))
 none))
 none)
 (cond (bl (ln b6.2.2.2.2.2.1 + ln ([(min 99 (wr .i64 (x5 + 1)))] : List Int)) Ta)
 (some (.inl ((t1, (), (), (), (wr .i64 (t7 + 1)), ()), (b2, b4, (b6.1, b6.2.1, b6.2.2.1, b6.2.2.2.1, b6.2.2.2.2.1, (ap b6.2.2.2.2.2.1 ([(min 99 (wr .i64 (x5 + 1)))] : List Int)), b6.2.2.2.2.2.2), ()))))
 none))
 none)
 (cond (bl (ln b6.2.2.2.2.2.1 + ln ([(min 99 (wr .i64 (x5 + 1)))] : List Int)) Ta)
 (some (.inl ((t1, (), (), (), (wr .i64 (t7 + 1)), ()), (b2, b4, (b6.1, b6.2.1, b6.2.2.1, b6.2.2.2.1, b6.2.2.2.2.1, (ap b6.2.2.2.2.2.1 ([(min 99 (wr .i64 (x5 + 1)))] : List Int)), b6.2.2.2.2.2.2), ()))))
 none)))
 (cond (decide ((min 99 (wr .i64 (x5 + 1))) ≥ b2.2.1))
 (cond (decide (0 ≤ t7))
 (cond ((Wa .i64 (Yb .i64 (Me .i64 t1 b2.2.2.2.1) t7) 1) == 1)
 (cond (decide (0 ≤ t7))
 (cond (b2.1 == 2)
 (cond (bl (ln b6.2.2.2.2.2.1 + ln ([0] : List Int)) Ta)
 (some (.inl ((t1, (), (), (), (wr .i64 (t7 + 1)), ()), (b2, b4, (b6.1, b6.2.1, b6.2.2.1, (Me .i64 b6.2.2.2.1 (Sa .i64 1 t7)), b6.2.2.2.2.1, (ap b6.2.2.2.2.2.1 ([0] : List Int)), b6.2.2.2.2.2.2), ()))))
 none)
 (cond (bl (ln b6.2.2.2.2.2.1 + ln ([(min 99 (wr .i64 (x5 + 1)))] : List Int)) Ta)
 (some (.inl ((t1, (), (), (), (wr .i64 (t7 + 1)), ()), (b2, b4, (b6.1, b6.2.1, b6.2.2.1, (Me .i64 b6.2.2.2.1 (Sa .i64 1 t7)), b6.2.2.2.2.1, (ap b6.2.2.2.2.2.1 ([(min 99 (wr .i64 (x5 + 1)))] : List Int)), b6.2.2.2.2.2.2), ()))))
 none))
 none)
 (cond (bl (ln b6.2.2.2.2.2.1 + ln ([(min 99 (wr .i64 (x5 + 1)))] : List Int)) Ta)
 (some (.inl ((t1, (), (), (), (wr .i64 (t7 + 1)), ()), (b2, b4, (b6.1, b6.2.1, b6.2.2.1, b6.2.2.2.1, b6.2.2.2.2.1, (ap b6.2.2.2.2.2.1 ([(min 99 (wr .i64 (x5 + 1)))] : List Int)), b6.2.2.2.2.2.2), ()))))
 none))
 none)
 (cond (bl (ln b6.2.2.2.2.2.1 + ln ([(min 99 (wr .i64 (x5 + 1)))] : List Int)) Ta)
 (some (.inl ((t1, (), (), (), (wr .i64 (t7 + 1)), ()), (b2, b4, (b6.1, b6.2.1, b6.2.2.1, b6.2.2.2.1, b6.2.2.2.2.1, (ap b6.2.2.2.2.2.1 ([(min 99 (wr .i64 (x5 + 1)))] : List Int)), b6.2.2.2.2.2.2), ()))))
 none)))))
 (some (.inr (.inl ((t1, (), (), ()), (b4, b6, ()))))))
def Ao := Ua fun x : ((Int × PX) × Z9) => Cj x.1.1 x.1.2.1 x.1.2.2.1 x.1.2.2.2.1 x.1.2.2.2.2.1 x.2.1 x.2.2.1 x.2.2.2.1
def Dm (a0 : Ob) (a1 : Int) : Option (Ob × Rc) :=
 (ob (Bo a0) fun r1 =>
 (cond (!r1.1)
 (some ((0, 0, 0, 0, 0, [], ()), false, ()))
 (cond (decide (0 ≤ a0.2.2.1))
 (ob (Ac a1 0 (wr .i64 ((Sa .i64 1 a0.2.2.1) - 1))) fun r2 =>
 (cond (!r2.1)
 (some ((0, 0, 0, 0, 0, [], ()), false, ()))
 (ob (Ao ((a1, (), (), (), 0, ()), (a0, (0, 0, 0, 0, 0, [], ()), (a0.1, a0.2.1, a0.2.2.1, a0.2.2.2.1, a0.2.2.2.2.1, [], a0.2.2.2.2.2.2), ()))) (se (fun y6 => (some ((y6.2.2.1.1, y6.2.2.1.2.1, y6.2.2.1.2.2.1, y6.2.2.1.2.2.2.1, y6.1.1, y6.2.2.1.2.2.2.2.2), true, ()))) (fun z7 => none)))))
 none)))
def Mu (a0 : Ca) : Option Rc :=
 (ob (Fu a0) fun r1 =>
 (cond r1.1
 (some ((decide (a0.2.1 < 24)), ()))
 (some (false, ()))))
def Jw (t0 : Wd) (t1 : Int) (t5 : Int) : Option (SL ⊕ Jk) :=
 (cond (decide (t5 < ((ln t0 : Nat) : Int)))
 (ob (Ab t0 t5) fun x3 =>
 (cond ((Jb .i64 t1 x3.1) == 0)
 (some (.inr (.inr ((true, ()), ()))))
 (some (.inl ((t0, t1, (wr .i64 (t5 + 1)), ()), ())))))
 (some (.inr (.inl ((), ())))))
def Ky := Ua fun x : SL => Jw x.1.1 x.1.2.1 x.1.2.2.1
def XB (a0 : Wd) (a1 : Int) : Option Rc :=
 (ob (Ky ((a0, a1, 0, ()), ())) (se (fun y4 => (some (false, ()))) (fun z5 => (some (z5.1.1, ())))))
def BA (t0 : Wd) (t1 : Int) (t6 : Int) (t7 : Bool) (t8 : Int) : Option (((Wd × (Int × (Int × (Bool × Lc)))) × Unit) ⊕ ((Uu × Unit) ⊕ De)) :=
 (cond (decide (t8 < ((ln t0 : Nat) : Int)))
 (ob (Ab t0 t8) fun x7 =>
 (cond (t1 == x7.1)
 (ob (Ab t0 t8) fun x8 =>
 (some (.inl ((t0, t1, x8.2.1, t7, (wr .i64 (t8 + 1)), ()), ()))))
 (ob (Ab t0 t8) fun x9 =>
 (cond ((Jb .i64 t1 x9.1) == 0)
 (some (.inl ((t0, t1, t6, true, (wr .i64 (t8 + 1)), ()), ())))
 (some (.inl ((t0, t1, t6, t7, (wr .i64 (t8 + 1)), ()), ())))))))
 (some (.inr (.inl ((t6, t7, ()), ())))))
def ZB := Ua fun x : ((Wd × (Int × (Int × (Bool × Lc)))) × Unit) => BA x.1.1 x.1.2.1 x.1.2.2.1 x.1.2.2.2.1 x.1.2.2.2.2.1
def FF (a0 : Wd) (a1 : Int) : Option Uu :=
 (ob (ZB ((a0, a1, (-1), false, 0, ()), ())) (se (fun y10 => (some y10.1)) (fun z11 => none)))
def So (t0 : Wd) (t2 : Qd) (t3 : Int) (t11 : Int) (t12 : Int) (t13 : Int) (t14 : Int) : Option (((Wd × (Qd × (Int × Bb))) × Unit) ⊕ (((Wd × Qc) × Unit) ⊕ LC)) :=
 (cond (t13 == ((ln t2 : Nat) : Int))
 (cond (decide (t3 < t12))
 (some (.inr (.inr ((0, 0, (-1), ()), ()))))
 (some (.inr (.inl ((t0, t11, t13, t14, ()), ())))))
 (ob (Ab t2 t13) fun x18 =>
 (ob (Mu x18) fun r19 =>
 (cond (!r19.1)
 (some (.inr (.inr ((0, 0, (-1), ()), ()))))
 (cond (decide (x18.1 ≥ t12))
 (some (.inr (.inl ((t0, t11, t13, t14, ()), ()))))
 (cond (!x18.2.2.1)
 (some (.inr (.inl ((t0, t11, t13, x18.1, ()), ()))))
 (cond (decide (0 ≤ x18.2.1))
 (ob (XB t0 (Oc .i64 t11 (Sa .i64 1 x18.2.1))) fun r20 =>
 (cond (!r20.1)
 (some (.inr (.inl ((t0, t11, t13, x18.1, ()), ()))))
 (cond (decide (0 ≤ x18.2.1))
 (ob (FF t0 (Oc .i64 t11 (Sa .i64 1 x18.2.1))) fun r21 =>
 (cond (decide (r21.1 ≥ 0))
 (cond (!r21.2.1)
 (some (.inr (.inr (((wr .i64 (t13 + 1)), x18.1, r21.1, ()), ()))))
 (some (.inl ((t0, t2, t3, (Oc .i64 t11 (Sa .i64 1 x18.2.1)), t12, (wr .i64 (t13 + 1)), t14, ()), ()))))
 (some (.inl ((t0, t2, t3, (Oc .i64 t11 (Sa .i64 1 x18.2.1)), t12, (wr .i64 (t13 + 1)), t14, ()), ())))))
 none)))
 none)))))))
def Rk := Ua fun x : ((Wd × (Qd × (Int × Bb))) × Unit) => So x.1.1 x.1.2.1 x.1.2.2.1 x.1.2.2.2.1 x.1.2.2.2.2.1 x.1.2.2.2.2.2.1 x.1.2.2.2.2.2.2.1
def Xz (a0 : Wd) (a1 : Int) (a2 : Qd) (a3 : Int) : Option Qc :=
 (ob (Jx a0) fun r1 =>
 (cond (!r1.1)
 (some (0, 0, (-1), ()))
 (ob (Ac a1 1 200) fun r2 =>
 (cond (!r2.1)
 (some (0, 0, (-1), ()))
 (cond (((ln a2 : Nat) : Int) == 0)
 (some (0, 0, (-1), ()))
 (ob (Ab a2 0) fun x3 =>
 (ob (Mu x3) fun r4 =>
 (cond (!r4.1)
 (some (0, 0, (-1), ()))
 (ob (Ab a2 0) fun x5 =>
 (cond (!x5.2.2.1)
 (some (0, 0, (-1), ()))
 (ob (Ab a2 0) fun x6 =>
 (cond (decide (0 ≤ x6.2.1))
 (ob (Ab a2 0) fun x7 =>
 (ob (XB a0 (Sa .i64 1 x6.2.1)) fun r8 =>
 (cond (!r8.1)
 (ob (Ab a2 0) fun x9 =>
 (some (1, x9.1, (-1), ())))
 (ob (Rk ((a0, a2, a3, (Sa .i64 1 x6.2.1), (wr .i64 (x7.1 + a1)), 1, (wr .i64 (x7.1 + a1)), ()), ())) (se (fun y22 => (ob (FF y22.1.1 y22.1.2.1) fun r24 =>
 (cond (decide (r24.1 < 0))
 (some (1, y22.1.2.2.2.1, r24.1, ()))
 (some (y22.1.2.2.1, y22.1.2.2.2.1, r24.1, ()))))) (fun z23 => (some z23.1)))))))
 none))))))))))))
def JD (t0 : Unit) (t1 : Int) (t2 : Int) (t7 : Int) (b500000 : Oa) : Option ((ZN × IC) ⊕ (AQ ⊕ OX)) :=
 (cond (decide (t7 < ((ln b500000.2.2.2.2.2.2.1 : Nat) : Int)))
 (cond (Xe (ln b500000.2.2.2.2.2.2.1) t7)
 (ob b500000.2.2.2.2.2.2.1[(tn t7)]? fun x7 =>
 (cond (decide (0 ≤ t1))
 (cond ((Wa .i64 (Yb .i64 x7.2.1 t1) 1) == 0)
 (some (.inl (((), t1, t2, (wr .i64 (t7 + 1)), ()), (b500000, ()))))
 (cond x7.2.2.1
 (cond (bl (ln ([] : List Ca) + ln ([(t2, x7.1, false, ())] : List Ca)) Ta)
 (cond (decide (0 ≤ t1))
 (cond (Xe (ln b500000.2.2.2.2.2.2.1) t7)
 (ob b500000.2.2.2.2.2.2.1[(tn t7)]? fun x8 =>
 (cond ((Jb .i64 x7.2.1 (Sa .i64 1 t1)) == 0)
 (cond (Md (ln (ls b500000.2.2.2.2.2.2.1 (tn t7) (x7.1, (Jb .i64 x7.2.1 (Sa .i64 1 t1)), false, x7.2.2.2))) 0 t7)
 (cond (bl (ln ([] : List Ca) + ln (Eb (ls b500000.2.2.2.2.2.2.1 (tn t7) (x7.1, (Jb .i64 x7.2.1 (Sa .i64 1 t1)), false, x7.2.2.2)) (tn 0) (tn t7))) Ta)
 (cond (Md (ln (ls b500000.2.2.2.2.2.2.1 (tn t7) (x7.1, (Jb .i64 x7.2.1 (Sa .i64 1 t1)), false, x7.2.2.2))) (wr .i64 (t7 + 1)) ((ln (ls b500000.2.2.2.2.2.2.1 (tn t7) (x7.1, (Jb .i64 x7.2.1 (Sa .i64 1 t1)), false, x7.2.2.2)) : Nat) : Int))
 (cond (bl (ln (ap [] (Eb (ls b500000.2.2.2.2.2.2.1 (tn t7) (x7.1, (Jb .i64 x7.2.1 (Sa .i64 1 t1)), false, x7.2.2.2)) (tn 0) (tn t7))) + ln (Eb (ls b500000.2.2.2.2.2.2.1 (tn t7) (x7.1, (Jb .i64 x7.2.1 (Sa .i64 1 t1)), false, x7.2.2.2)) (tn (wr .i64 (t7 + 1))) (tn ((ln (ls b500000.2.2.2.2.2.2.1 (tn t7) (x7.1, (Jb .i64 x7.2.1 (Sa .i64 1 t1)), false, x7.2.2.2)) : Nat) : Int)))) Ta)
 (some (.inr (.inr (((), (ap [] ([(t2, x7.1, false, ())] : List Ca)), ()), ((b500000.1, b500000.2.1, b500000.2.2.1, b500000.2.2.2.1, b500000.2.2.2.2.1, b500000.2.2.2.2.2.1, (ap (ap [] (Eb (ls b500000.2.2.2.2.2.2.1 (tn t7) (x7.1, (Jb .i64 x7.2.1 (Sa .i64 1 t1)), false, x7.2.2.2)) (tn 0) (tn t7))) (Eb (ls b500000.2.2.2.2.2.2.1 (tn t7) (x7.1, (Jb .i64 x7.2.1 (Sa .i64 1 t1)), false, x7.2.2.2)) (tn (wr .i64 (t7 + 1))) (tn ((ln (ls b500000.2.2.2.2.2.2.1 (tn t7) (x7.1, (Jb .i64 x7.2.1 (Sa .i64 1 t1)), false, x7.2.2.2)) : Nat) : Int)))), ()), ())))))
 none)
 none)
 none)
 none)
 (some (.inr (.inr (((), (ap [] ([(t2, x7.1, false, ())] : List Ca)), ()), ((b500000.1, b500000.2.1, b500000.2.2.1, b500000.2.2.2.1, b500000.2.2.2.2.1, b500000.2.2.2.2.2.1, (ls b500000.2.2.2.2.2.2.1 (tn t7) (x7.1, (Jb .i64 x7.2.1 (Sa .i64 1 t1)), false, x7.2.2.2)), ()), ())))))))
 none)
 none)
 none)
 (cond (decide (0 ≤ t1))
 (cond (Xe (ln b500000.2.2.2.2.2.2.1) t7)
 (ob b500000.2.2.2.2.2.2.1[(tn t7)]? fun x9 =>
 (cond ((Jb .i64 x7.2.1 (Sa .i64 1 t1)) == 0)
 (cond (Md (ln (ls b500000.2.2.2.2.2.2.1 (tn t7) (x7.1, (Jb .i64 x7.2.1 (Sa .i64 1 t1)), false, x7.2.2.2))) 0 t7)
 (cond (bl (ln ([] : List Ca) + ln (Eb (ls b500000.2.2.2.2.2.2.1 (tn t7) (x7.1, (Jb .i64 x7.2.1 (Sa .i64 1 t1)), false, x7.2.2.2)) (tn 0) (tn t7))) Ta)
 (cond (Md (ln (ls b500000.2.2.2.2.2.2.1 (tn t7) (x7.1, (Jb .i64 x7.2.1 (Sa .i64 1 t1)), false, x7.2.2.2))) (wr .i64 (t7 + 1)) ((ln (ls b500000.2.2.2.2.2.2.1 (tn t7) (x7.1, (Jb .i64 x7.2.1 (Sa .i64 1 t1)), false, x7.2.2.2)) : Nat) : Int))
 (cond (bl (ln (ap [] (Eb (ls b500000.2.2.2.2.2.2.1 (tn t7) (x7.1, (Jb .i64 x7.2.1 (Sa .i64 1 t1)), false, x7.2.2.2)) (tn 0) (tn t7))) + ln (Eb (ls b500000.2.2.2.2.2.2.1 (tn t7) (x7.1, (Jb .i64 x7.2.1 (Sa .i64 1 t1)), false, x7.2.2.2)) (tn (wr .i64 (t7 + 1))) (tn ((ln (ls b500000.2.2.2.2.2.2.1 (tn t7) (x7.1, (Jb .i64 x7.2.1 (Sa .i64 1 t1)), false, x7.2.2.2)) : Nat) : Int)))) Ta)
 (some (.inr (.inr (((), [], ()), ((b500000.1, b500000.2.1, b500000.2.2.1, b500000.2.2.2.1, b500000.2.2.2.2.1, b500000.2.2.2.2.2.1, (ap (ap [] (Eb (ls b500000.2.2.2.2.2.2.1 (tn t7) (x7.1, (Jb .i64 x7.2.1 (Sa .i64 1 t1)), false, x7.2.2.2)) (tn 0) (tn t7))) (Eb (ls b500000.2.2.2.2.2.2.1 (tn t7) (x7.1, (Jb .i64 x7.2.1 (Sa .i64 1 t1)), false, x7.2.2.2)) (tn (wr .i64 (t7 + 1))) (tn ((ln (ls b500000.2.2.2.2.2.2.1 (tn t7) (x7.1, (Jb .i64 x7.2.1 (Sa .i64 1 t1)), false, x7.2.2.2)) : Nat) : Int)))), ()), ())))))
 none)
 none)
 none)
 none)
 (some (.inr (.inr (((), [], ()), ((b500000.1, b500000.2.1, b500000.2.2.1, b500000.2.2.2.1, b500000.2.2.2.2.1, b500000.2.2.2.2.2.1, (ls b500000.2.2.2.2.2.2.1 (tn t7) (x7.1, (Jb .i64 x7.2.1 (Sa .i64 1 t1)), false, x7.2.2.2)), ()), ())))))))
 none)
 none)))
 none))
 none)
 (some (.inr (.inl (((), t1, t2, ()), (b500000, ()))))))
def EE := Ua fun x : (ZN × IC) => JD x.1.1 x.1.2.1 x.1.2.2.1 x.1.2.2.2.1 x.2.1
def YJ (a0 : Oa) (a1 : Int) (a2 : Int) : Option (Oa × JC) :=
 (ob (EE (((), a1, a2, 0, ()), (a0, ()))) (se (fun y10 => (cond (decide (0 ≤ y10.1.2.1))
 (some ((y10.2.1.1, y10.2.1.2.1, y10.2.1.2.2.1, y10.2.1.2.2.2.1, y10.2.1.2.2.2.2.1, (Jb .i64 y10.2.1.2.2.2.2.2.1 (Sa .i64 1 y10.1.2.1)), y10.2.1.2.2.2.2.2.2.1, ()), (([(y10.1.2.2.1, y10.1.2.1, false, ())] : List Ca), ())))
 none)) (fun z11 => (some (z11.2.1, (z11.1.2.1, ()))))))
def Sq (t0 : Unit) (t3 : Qd) (b500000 : Oa) : Option (OX ⊕ (OX ⊕ OX)) :=
 (cond (decide (((ln b500000.2.2.1 : Nat) : Int) > 0))
 (cond (Xe (ln b500000.2.2.1) 0)
 (ob b500000.2.2.1[(tn 0)]? fun x9 =>
 (cond x9.2.2.1
 (ob (Xz b500000.1 b500000.2.1 b500000.2.2.1 b500000.2.2.2.1) fun r10 =>
 (cond (r10.1 == 0)
 (some (.inr (.inr (((), t3, ()), (b500000, ())))))
 (cond (decide (r10.2.2.1 ≥ 0))
 (cond (bl (ln t3 + ln ([((max (max b500000.2.2.2.2.1 x9.1) r10.2.1), r10.2.2.1, true, ())] : List Ca)) Ta)
 (ob (YB b500000.1 r10.2.2.1) fun r11 =>
 (cond (bl (ln ([] : List Ca) + ln b500000.2.2.2.2.2.2.1) Ta)
 (cond (bl (ln (ap [] b500000.2.2.2.2.2.2.1) + ln ([(r10.2.2.1, r11.1, true, ())] : List Ca)) Ta)
 (cond (Md (ln b500000.2.2.1) r10.1 ((ln b500000.2.2.1 : Nat) : Int))
 (cond (bl (ln ([] : List Ca) + ln (Eb b500000.2.2.1 (tn r10.1) (tn ((ln b500000.2.2.1 : Nat) : Int)))) Ta)
 (some (.inl (((), (ap t3 ([((max (max b500000.2.2.2.2.1 x9.1) r10.2.1), r10.2.2.1, true, ())] : List Ca)), ()), ((b500000.1, b500000.2.1, (ap [] (Eb b500000.2.2.1 (tn r10.1) (tn ((ln b500000.2.2.1 : Nat) : Int)))), b500000.2.2.2.1, (max (max b500000.2.2.2.2.1 x9.1) r10.2.1), b500000.2.2.2.2.2.1, (ap (ap [] b500000.2.2.2.2.2.2.1) ([(r10.2.2.1, r11.1, true, ())] : List Ca)), ()), ()))))
 none)
 none)
 none)
 none))
 none)
 (cond (bl (ln t3 + ln ([((max (max b500000.2.2.2.2.1 x9.1) r10.2.1), x9.2.1, true, ())] : List Ca)) Ta)
 (cond (decide (0 ≤ x9.2.1))
 (cond (Md (ln b500000.2.2.1) r10.1 ((ln b500000.2.2.1 : Nat) : Int))
 (cond (bl (ln ([] : List Ca) + ln (Eb b500000.2.2.1 (tn r10.1) (tn ((ln b500000.2.2.1 : Nat) : Int)))) Ta)
 (some (.inl (((), (ap t3 ([((max (max b500000.2.2.2.2.1 x9.1) r10.2.1), x9.2.1, true, ())] : List Ca)), ()), ((b500000.1, b500000.2.1, (ap [] (Eb b500000.2.2.1 (tn r10.1) (tn ((ln b500000.2.2.1 : Nat) : Int)))), b500000.2.2.2.1, (max (max b500000.2.2.2.2.1 x9.1) r10.2.1), (Oc .i64 b500000.2.2.2.2.2.1 (Sa .i64 1 x9.2.1)), b500000.2.2.2.2.2.2.1, ()), ()))))
 none)
 none)
 none)
 none))))
 (ob (YJ b500000 x9.2.1 (max b500000.2.2.2.2.1 x9.1)) fun r12 =>
 (cond (bl (ln t3 + ln r12.2.1) Ta)
 (cond (Md (ln r12.1.2.2.1) 1 ((ln r12.1.2.2.1 : Nat) : Int))
 (cond (bl (ln ([] : List Ca) + ln (Eb r12.1.2.2.1 (tn 1) (tn ((ln r12.1.2.2.1 : Nat) : Int)))) Ta)
 (some (.inl (((), (ap t3 r12.2.1), ()), ((r12.1.1, r12.1.2.1, (ap [] (Eb r12.1.2.2.1 (tn 1) (tn ((ln r12.1.2.2.1 : Nat) : Int)))), r12.1.2.2.2.1, (max b500000.2.2.2.2.1 x9.1), r12.1.2.2.2.2.2), ()))))
 none)
 none)
 none))))
 none)
 (some (.inr (.inl (((), t3, ()), (b500000, ()))))))
def Ej := Ua fun x : OX => Sq x.1.1 x.1.2.1 x.2.1
def Xx (a0 : Oa) : Option (Oa × JC) :=
 (ob (Ej (((), [], ()), (a0, ()))) (se (fun y13 => (some (y13.2.1, (y13.1.2.1, ())))) (fun z14 => (some (z14.2.1, (z14.1.2.1, ()))))))
def Mq (a0 : Oa) (a1 : Qd) (a2 : Int) : Option (Oa × (Qd × Rc)) :=
 (cond (bl (ln ([] : List Ca) + ln a0.2.2.1) Ta)
 (cond (bl (ln (ap [] a0.2.2.1) + ln a1) Ta)
 (ob (Nq a0) fun r1 =>
 (cond (!r1.1)
 (some (([], 0, [], 0, 0, 0, [], ()), [], false, ()))
 (ob (Ac a2 a0.2.2.2.1 1000000) fun r2 =>
 (cond (!r2.1)
 (some (([], 0, [], 0, 0, 0, [], ()), [], false, ()))
 (ob (Lu a0) fun r3 =>
 (ob (Mj (ap (ap [] a0.2.2.1) a1) r3.1 24 0) fun r4 =>
 (cond (!r4.1)
 (some (([], 0, [], 0, 0, 0, [], ()), [], false, ()))
 (cond (decide (((ln a1 : Nat) : Int) > 0))
 (ob (Ab a1 0) fun x5 =>
 (cond (decide (x5.1 < a0.2.2.2.1))
 (some (([], 0, [], 0, 0, 0, [], ()), [], false, ()))
 (ob (Ab a1 (wr .i64 (((ln a1 : Nat) : Int) - 1))) fun x6 =>
 (cond (decide (x6.1 > a2))
 (some (([], 0, [], 0, 0, 0, [], ()), [], false, ()))
 (ob (WB a0) fun r7 =>
 (ob (Xx (r7.1.1, r7.1.2.1, (ap (ap [] a0.2.2.1) a1), a2, r7.1.2.2.2.2)) fun r8 =>
 (some (r8.1, r8.2.1, true, ()))))))))
 (ob (WB a0) fun r9 =>
 (ob (Xx (r9.1.1, r9.1.2.1, (ap (ap [] a0.2.2.1) a1), a2, r9.1.2.2.2.2)) fun r10 =>
 (some (r10.1, r10.2.1, true, ()))))))))))))
 none)
 none)
def Lq (t2 : Unit) (t4 : Unit) (t9 : Int) (t11 : Unit) (t13 : Qd) (t14 : Int) (b2 : Zc) (b4 : Zc) (b11 : Ob) : Option (KaC ⊕ (((Unit × (Unit × (Int × (Unit × JC)))) × (Zc × (Zc × WN))) ⊕ De)) :=
 (cond (decide (t14 < b11.2.2.1))
 (cond (decide (0 ≤ t14))
 (cond ((Wa .i64 (Yb .i64 (Me .i64 b11.2.2.2.1 b2.2.1.2.2.2.1) t14) 1) == 1)
 (cond (decide (0 ≤ t14))
 (cond (bl (ln t13 + ln ([(b2.2.2.2.2.2.1, t14, ((Wa .i64 (Yb .i64 b11.2.2.2.1 t14) 1) == 1), ())] : List Ca)) Ta)
 (some (.inl (((), (), t9, (), (ap t13 ([(b2.2.2.2.2.2.1, t14, ((Wa .i64 (Yb .i64 b11.2.2.2.1 t14) 1) == 1), ())] : List Ca)), (wr .i64 (t14 + 1)), ()), (b2, b4, b11, ()))))
 none)
 none)
 (some (.inl (((), (), t9, (), t13, (wr .i64 (t14 + 1)), ()), (b2, b4, b11, ())))))
 none)
 (some (.inr (.inl (((), (), t9, (), t13, ()), (b2, b4, b11, ()))))))
def Aj := Ua fun x : KaC => Lq x.1.1 x.1.2.1 x.1.2.2.1 x.1.2.2.2.1 x.1.2.2.2.2.1 x.1.2.2.2.2.2.1 x.2.1 x.2.2.1 x.2.2.2.1
def Du (a0 : Zc) (a1 : Int) : Option (Zc × (Ug × Rc)) :=
 (ob (Zz a0.1 a1) fun r1 =>
 (ob (TJ a0) fun r2 =>
 (cond (!r2.1)
 (some (((0, 0, false, ()), (0, 0, 0, 0, 0, [], ()), ([], 0, [], 0, 0, 0, [], ()), (((0, [], ()), [], 0, [], 0, false, ()), (0, 0, 0, ()), [], 0, 0, 0, 0, ()), 0, 0, ()), [], false, ()))
 (cond (!r1.2.1)
 (some (((0, 0, false, ()), (0, 0, 0, 0, 0, [], ()), ([], 0, [], 0, 0, 0, [], ()), (((0, [], ()), [], 0, [], 0, false, ()), (0, 0, 0, ()), [], 0, 0, 0, 0, ()), 0, 0, ()), [], false, ()))
 (cond (a0.2.2.2.2.2.1 == 1000000)
 (some (((0, 0, false, ()), (0, 0, 0, 0, 0, [], ()), ([], 0, [], 0, 0, 0, [], ()), (((0, [], ()), [], 0, [], 0, false, ()), (0, 0, 0, ()), [], 0, 0, 0, 0, ()), 0, 0, ()), [], false, ()))
 (ob (Kq a0.1 a0.2.2.2.2.1 r1.1) fun r3 =>
 (ob (Dm a0.2.1 r3.1) fun r4 =>
 (ob (Aj (((), (), r3.1, (), [], 0, ()), (a0, ((0, 0, false, ()), (0, 0, 0, 0, 0, [], ()), ([], 0, [], 0, 0, 0, [], ()), (((0, [], ()), [], 0, [], 0, false, ()), (0, 0, 0, ()), [], 0, 0, 0, 0, ()), 0, 0, ()), r4.1, ()))) (se (fun y5 => (ob (Mq y5.2.1.2.2.1 y5.1.2.2.2.2.1 y5.2.1.2.2.2.2.2.1) fun r7 =>
 (ob (Yz y5.2.1.2.2.2.1 r7.2.1 y5.2.1.2.2.2.2.2.1) fun r8 =>
 (cond (!r7.2.2.1)
 (some (((0, 0, false, ()), (0, 0, 0, 0, 0, [], ()), ([], 0, [], 0, 0, 0, [], ()), (((0, [], ()), [], 0, [], 0, false, ()), (0, 0, 0, ()), [], 0, 0, 0, 0, ()), 0, 0, ()), [], false, ()))
 (cond (!r8.2.2.1)
 (some (((0, 0, false, ()), (0, 0, 0, 0, 0, [], ()), ([], 0, [], 0, 0, 0, [], ()), (((0, [], ()), [], 0, [], 0, false, ()), (0, 0, 0, ()), [], 0, 0, 0, 0, ()), 0, 0, ()), [], false, ()))
 (some ((y5.2.1.1, y5.2.2.2.1, r7.1, r8.1, y5.1.2.2.1, (wr .i64 (y5.2.1.2.2.2.2.2.1 + 1)), ()), r8.2.1, true, ()))))))) (fun z6 => none))))))))))
def Jl (a0 : Zc) (a1 : Int) : Option Rc :=
 (ob (GJ a0 1048576) fun r1 =>
 (cond (decide (r1.1 < 0))
 (some (true, ()))
 (ob (Wn a0) fun r2 =>
 (ob (Du r2.1 a1) fun r3 =>
 (ob (Wn a0) fun r4 =>
 (ob (En r4.1 a1) fun r5 =>
 (ob (Vn r5.1 r3.1) fun r6 =>
 (cond (!r6.1)
 (some (false, ()))
 (ob (Wt r5.2.1 r3.2.1) fun r7 =>
 (cond (!r7.1)
 (some (false, ()))
 (cond (r5.2.2.1 != r3.2.2.1)
 (some (false, ()))
 (ob (Wn a0) fun r8 =>
 (ob (Vn r4.1 r8.1) fun r9 =>
 (cond (!r9.1)
 (some (false, ()))
 (ob (Yt r4.1 1) fun r10 =>
 (cond (decide (r10.2.1 < 0))
 (some (false, ()))
 (ob (Vn r5.1 r3.1) fun r11 =>
 (cond (!r11.1)
 (some (false, ()))
 (ob (Wt r5.2.1 r3.2.1) fun r12 =>
 (cond (!r12.1)
 (some (false, ()))
 (cond (r5.2.2.1 != r3.2.2.1)
 (some (false, ()))
 (ob (Yt r5.1 1) fun r13 =>
 (ob (DL r5.2.1 r13.2.1) fun r14 =>
 (ob (Xt (r5.1.1, (r5.1.2.1.1, r5.1.2.1.2.1, r5.1.2.1.2.2.1, r5.1.2.1.2.2.2.1, r5.1.2.1.2.2.2.2.1, r13.1.2.1.2.2.2.2.2.1, ()), (r13.1.2.2.1.1, r5.1.2.2.1.2.1, r13.1.2.2.1.2.2.1, r5.1.2.2.1.2.2.2.1, r5.1.2.2.1.2.2.2.2.1, r5.1.2.2.1.2.2.2.2.2.1, r13.1.2.2.1.2.2.2.2.2.2.1, ()), (((r5.1.2.2.2.1.1.1.1, r13.1.2.2.2.1.1.1.2.1, ()), r13.1.2.2.2.1.1.2.1, r5.1.2.2.2.1.1.2.2.1, r13.1.2.2.2.1.1.2.2.2.1, r5.1.2.2.2.1.1.2.2.2.2), r5.1.2.2.2.1.2.1, r13.1.2.2.2.1.2.2.1, r5.1.2.2.2.1.2.2.2), r5.1.2.2.2.2) 1) fun r15 =>
 (cond (decide (r15.1 < 0))
 (some (false, ()))
 (ob (XC r14.1 r15.1) fun r16 =>
 (cond (decide (r16.1 < 0))
 (some (false, ()))
 (cond (r16.1 != r14.2.1)
 (some (false, ()))
 (ob (Wn a0) fun r17 =>
 (ob (En r17.1 a1) fun r18 =>
 (ob (Vn r18.1 r3.1) fun r19 =>
 (cond (!r19.1)
 (some (false, ()))
 (ob (Wt r18.2.1 r3.2.1) fun r20 =>
 (cond (!r20.1)
 (some (false, ()))
 (cond (r18.2.2.1 != r3.2.2.1)
 (some (false, ()))
 (ob (Xt (r5.1.1, (r5.1.2.1.1, r5.1.2.1.2.1, r5.1.2.1.2.2.1, r5.1.2.1.2.2.2.1, r5.1.2.1.2.2.2.2.1, r13.1.2.1.2.2.2.2.2.1, ()), (r13.1.2.2.1.1, r5.1.2.2.1.2.1, r13.1.2.2.1.2.2.1, r5.1.2.2.1.2.2.2.1, r5.1.2.2.1.2.2.2.2.1, r5.1.2.2.1.2.2.2.2.2.1, r13.1.2.2.1.2.2.2.2.2.2.1, ()), (((r5.1.2.2.2.1.1.1.1, r13.1.2.2.2.1.1.1.2.1, ()), r13.1.2.2.2.1.1.2.1, r5.1.2.2.2.1.1.2.2.1, r13.1.2.2.2.1.1.2.2.2.1, r5.1.2.2.2.1.1.2.2.2.2), r5.1.2.2.2.1.2.1, r13.1.2.2.2.1.2.2.1, r5.1.2.2.2.1.2.2.2), r5.1.2.2.2.2) 1) fun r21 =>
 (cond (decide (r21.1 < 0))
 (some (false, ()))
 (ob (XC r14.1 r21.1) fun r22 =>
 (cond (decide (r22.1 < 0))
 (some (false, ()))
 (cond (r22.1 != r14.2.1)
 (some (false, ()))
 (some (true, ()))))))))))))))))))))))))))))))))))))))))))
end
theorem Pau (a : (List Int)) (hr : Yl (.sl int) a) (l : Nat) (hl : l ≤ Ea) : BM a (l : Int) = some (AI (Ja (.sl int) a) l, ()) := N2 (e := int) (F := BM) a hr l hl rfl rfl
theorem Tau (a : (List Int)) (hz : Ja (.sl int) a ≤ Ea) : CM a = some (a, ()) := by
 have h20 : Ea = 1048576 := rfl
 have hz' : ja a + (List.map (Ja int) a).sum ≤ Ea := hz
 have hl := O7 (step := fun x : (((List Int) × ((List Int) × (Int × Unit))) × Unit) => Rz x.1.1 x.1.2.1 x.1.2.2.1) a (zT int) (fun o i => ((a, o, i, ()), ())) (fun o => .inl ((o, ()), ())) (by
  intro k hk o ho
  simp only [Rz]
  rw [Aa (show (k : Int) < (ja a : Int) by omega), Mb hk]
  simp only [cond_true, jb]
  rw [Ig, Aa (show k < ja o by omega)]
  simp [je (show k < ja o by omega)]) (by
  intro o
  simp [Rz]) (by omega)
 unfold CM OB
 rw [Kak (by rw [Ee]; omega)]
 simp only [cond_true]
 rw [show jy ((ja a : Nat) : Int) = ja a by simp]
 erw [hl]
 rfl
theorem S7 (a : (List Int)) (hz : Ja (.sl int) a ≤ Xc) : RE a a = some (true, ()) := by
 have h40 : Xc = 1099511627776 := rfl
 have hz' : ja a + (List.map (Ja int) a).sum ≤ Xc := hz
 have hl := PB (step := fun x : (((List Int) × ((List Int) × (Int × Unit))) × Unit) => Hz x.1.1 x.1.2.1 x.1.2.2.1) (fun k => ((a, a, (k : Int), ()), ())) (ja a) (.inl ((), ())) (by
  intro k hk
  simp only [Hz]
  rw [Aa (show (k : Int) < (ja a : Int) by omega), Mb hk]
  simp only [cond_true, jb]
  rw [bne_self_eq_false']
  simp only [cond_false]
  rw [Gc (by omega)]) (by
  simp [Hz])
 unfold RE HB
 rw [bne_self_eq_false']
 simp only [cond_false]
 erw [hl]
 rfl
theorem Wae (a : Ha) (hz : Ja Zb a ≤ Xc) : YF a a = some (true, ()) := by
 unfold YF
 have hs : Ja Zb a = Ja (.sl int) a.2.1 := by simp only [Ja, Nat.add_zero, js, jt]
 simp only [bne_self_eq_false', cond_false, jg, jb, S7 a.2.1 (by omega)]
theorem Kas (a : Lf) (hz : Ja Gj a ≤ Xc) : SE a a = some (true, ()) := by
 unfold SE
 have hs : Ja Gj a = Ja Zb a.2.1 := by simp only [Ja, Nat.add_zero, js, jt]
 simp only [bne_self_eq_false', cond_false, jg, jb, Wae a.2.1 (by omega)]
theorem Pap (a : (List Lf)) (hz : Ja (.sl Gj) a ≤ Xc) : Wt a a = some (true, ()) := O3 (e := Gj) (f := SE) (F := Wt) a hz Kas rfl
theorem Dae (a : (List Bb)) (hr : Yl (.sl Rb) a) (l : Nat) (hl : l ≤ Ea) : Zt a (l : Int) = some (AI (Ja (.sl Rb) a) l, ()) := N2 (e := Rb) (F := Zt) a hr l hl rfl rfl
theorem I9 (a : (List (List Bb))) (hr : Yl (.sl (.sl Rb)) a) (l : Nat) (hl : l ≤ Ea) : Oz a (l : Int) = some (AI (Ja (.sl (.sl Rb)) a) l, ()) := szS (e := (.sl Rb)) (f := Zt) (F := Oz) a hr l hl Dae rfl
theorem Iaf (a : Sb) (hr : Yl Ub a) (l : Nat) (hl : l ≤ Ea) : FG a (l : Int) = some (AI (Ja Ub a) l, ()) := by
 unfold FG
 have hs : Ja Ub a = Ja (.sl (.sl Rb)) a.2.1 := by simp only [Ja, Nat.add_zero, js, jt]
 rw [I9 a.2.1 hr.2.1 (l) (by omega)]
 simp only [jb]
 by_cases h0 : Ja (.sl (.sl Rb)) a.2.1 ≤ l
 case neg => rw [Vf h0, Vf (by omega)]; rfl
 rw [Mh h0, Ba (by omega)]
 simp only [cond_false]
 rw [Mh (by omega), hs]
 try simp only [Nat.sub_sub, jt]
theorem TZ (a : Bb) (hz : Ja Rb a ≤ Ea) : Hp a = some (a, ()) := by
 unfold Hp
 rfl
theorem Jae (a : (List Bb)) (hz : Ja (.sl Rb) a ≤ Ea) : AD a = some (a, ()) := H8 (e := Rb) _ _ (f := Hp) a hz TZ rfl
theorem K9 (a : (List (List Bb))) (hz : Ja (.sl (.sl Rb)) a ≤ Ea) : JJ a = some (a, ()) := H8 (e := (.sl Rb)) _ _ (f := AD) a hz Jae rfl
theorem Naf (a : Sb) (hz : Ja Ub a ≤ Ea) : JG a = some (a, ()) := by
 unfold JG
 have hs : Ja Ub a = Ja (.sl (.sl Rb)) a.2.1 := by simp only [Ja, Nat.add_zero, js, jt]
 rw [K9 a.2.1 (by omega)]
 simp only [jb]
theorem AZ (a : Bb) (hz : Ja Rb a ≤ Xc) : Gp a a = some (true, ()) := by
 unfold Gp
 have hs : Ja Rb a = 0 := by simp only [Ja, Nat.add_zero, js, jt]
 simp only [bne_self_eq_false', cond_false, jg, jb]
theorem Zab (a : (List Bb)) (hz : Ja (.sl Rb) a ≤ Xc) : Vt a a = some (true, ()) := O3 (e := Rb) (f := Gp) (F := Vt) a hz AZ rfl
theorem M8 (a : (List (List Bb))) (hz : Ja (.sl (.sl Rb)) a ≤ Xc) : Ez a a = some (true, ()) := O3 (e := (.sl Rb)) (f := Vt) (F := Ez) a hz Zab rfl
theorem Uae (a : Sb) (hz : Ja Ub a ≤ Xc) : VF a a = some (true, ()) := by
 unfold VF
 have hs : Ja Ub a = Ja (.sl (.sl Rb)) a.2.1 := by simp only [Ja, Nat.add_zero, js, jt]
 simp only [bne_self_eq_false', cond_false, jg, jb, M8 a.2.1 (by omega)]
theorem Oaf (a : Ca) (hz : Ja Za a ≤ Ea) : KG a = some (a, ()) := by
 unfold KG
 rfl
theorem Yae (a : Qc) (hz : Ja Bc a ≤ Xc) : AG a a = some (true, ()) := by
 unfold AG
 have hs : Ja Bc a = 0 := by simp only [Ja, Nat.add_zero, js, jt]
 simp only [bne_self_eq_false', cond_false, jg, jb]
theorem Qaf (a : Qc) (hz : Ja Bc a ≤ Ea) : LG a = some (a, ()) := by
 unfold LG
 rfl
theorem Nap (a : Ca) (hz : Ja Za a ≤ Xc) : GB a a = some (true, ()) := by
 unfold GB
 have hs : Ja Za a = 0 := by simp only [Ja, Nat.add_zero, js, jt]
 simp only [bne_self_eq_false', cond_false, jg, jb]
theorem BZ (a : (List Ca)) (hz : Ja (.sl Za) a ≤ Xc) : Cx a a = some (true, ()) := O3 (e := Za) (f := GB) (F := Cx) a hz Nap rfl
theorem F7 (a : Ob) (hr : Yl Kb a) (l : Nat) (hl : l ≤ Ea) : Tv a (l : Int) = some (AI (Ja Kb a) l, ()) := by
 unfold Tv
 have hs : Ja Kb a = Ja (.sl int) a.2.2.2.2.2.1 := by simp only [Ja, Nat.add_zero, js, jt]
 rw [Pau a.2.2.2.2.2.1 hr.2.2.2.2.2.1 (l) (by omega)]
 simp only [jb]
 by_cases h0 : Ja (.sl int) a.2.2.2.2.2.1 ≤ l
 case neg => rw [Vf h0, Vf (by omega)]; rfl
 rw [Mh h0, Ba (by omega)]
 simp only [cond_false]
 rw [Mh (by omega), hs]
 try simp only [Nat.sub_sub, jt]
theorem Gaf (a : (List Va)) (hr : Yl (.sl Wb) a) (l : Nat) (hl : l ≤ Ea) : DG a (l : Int) = some (AI (Ja (.sl Wb) a) l, ()) := N2 (e := Wb) (F := DG) a hr l hl rfl rfl
theorem SZ (a : (List Ca)) (hr : Yl (.sl Za) a) (l : Nat) (hl : l ≤ Ea) : Dx a (l : Int) = some (AI (Ja (.sl Za) a) l, ()) := N2 (e := Za) (F := Dx) a hr l hl rfl rfl
theorem Eae (a : (List Ca)) (hr : Yl (.sl Za) a) (l : Nat) (hl : l ≤ Ea) : YC a (l : Int) = some (AI (Ja (.sl Za) a) l, ()) := N2 (e := Za) (F := YC) a hr l hl rfl rfl
theorem J9 (a : Oa) (hr : Yl Nb a) (l : Nat) (hl : l ≤ Ea) : Pz a (l : Int) = some (AI (Ja Nb a) l, ()) := by
 unfold Pz
 have hs : Ja Nb a = Ja (.sl Wb) a.1 + (Ja (.sl Za) a.2.2.1 + (Ja (.sl Za) a.2.2.2.2.2.2.1)) := by simp only [Ja, Nat.add_zero, js, jt]
 rw [Gaf a.1 hr.1 (l) (by omega)]
 simp only [jb]
 by_cases h0 : Ja (.sl Wb) a.1 ≤ l
 case neg => rw [Vf h0, Vf (by omega)]; rfl
 rw [Mh h0, Ba (by omega)]
 simp only [cond_false]
 rw [SZ a.2.2.1 hr.2.2.1 (l - Ja (.sl Wb) a.1) (by omega)]
 simp only [jb]
 by_cases h1 : Ja (.sl Za) a.2.2.1 ≤ l - Ja (.sl Wb) a.1
 case neg => rw [Vf h1, Vf (by omega)]; rfl
 rw [Mh h1, Ba (by omega)]
 simp only [cond_false]
 rw [Eae a.2.2.2.2.2.2.1 hr.2.2.2.2.2.2.1 (l - Ja (.sl Wb) a.1 - Ja (.sl Za) a.2.2.1) (by omega)]
 simp only [jb]
 by_cases h2 : Ja (.sl Za) a.2.2.2.2.2.2.1 ≤ l - Ja (.sl Wb) a.1 - Ja (.sl Za) a.2.2.1
 case neg => rw [Vf h2, Vf (by omega)]; rfl
 rw [Mh h2, Ba (by omega)]
 simp only [cond_false]
 rw [Mh (by omega), hs]
 try simp only [Nat.sub_sub, jt]
theorem Bar (a : (List Qc)) (hr : Yl (.sl Bc) a) (l : Nat) (hl : l ≤ Ea) : LB a (l : Int) = some (AI (Ja (.sl Bc) a) l, ()) := N2 (e := Bc) (F := LB) a hr l hl rfl rfl
theorem Jaf (a : (List (List Qc))) (hr : Yl (.sl (.sl Bc)) a) (l : Nat) (hl : l ≤ Ea) : GG a (l : Int) = some (AI (Ja (.sl (.sl Bc)) a) l, ()) := szS (e := (.sl Bc)) (f := LB) (F := GG) a hr l hl Bar rfl
theorem Zaq (a : (List Pa)) (hr : Yl (.sl Bf) a) (l : Nat) (hl : l ≤ Ea) : HJ a (l : Int) = some (AI (Ja (.sl Bf) a) l, ()) := N2 (e := Bf) (F := HJ) a hr l hl rfl rfl
theorem Haf (a : Gb) (hr : Yl Xb a) (l : Nat) (hl : l ≤ Ea) : EG a (l : Int) = some (AI (Ja Xb a) l, ()) := by
 unfold EG
 have hs : Ja Xb a = Ja Ub a.1 + (Ja (.sl (.sl Bc)) a.2.1 + (Ja (.sl Bf) a.2.2.2.1)) := by simp only [Ja, Nat.add_zero, js, jt]
 rw [Iaf a.1 hr.1 (l) (by omega)]
 simp only [jb]
 by_cases h0 : Ja Ub a.1 ≤ l
 case neg => rw [Vf h0, Vf (by omega)]; rfl
 rw [Mh h0, Ba (by omega)]
 simp only [cond_false]
 rw [Jaf a.2.1 hr.2.1 (l - Ja Ub a.1) (by omega)]
 simp only [jb]
 by_cases h1 : Ja (.sl (.sl Bc)) a.2.1 ≤ l - Ja Ub a.1
 case neg => rw [Vf h1, Vf (by omega)]; rfl
 rw [Mh h1, Ba (by omega)]
 simp only [cond_false]
 rw [Zaq a.2.2.2.1 hr.2.2.2.1 (l - Ja Ub a.1 - Ja (.sl (.sl Bc)) a.2.1) (by omega)]
 simp only [jb]
 by_cases h2 : Ja (.sl Bf) a.2.2.2.1 ≤ l - Ja Ub a.1 - Ja (.sl (.sl Bc)) a.2.1
 case neg => rw [Vf h2, Vf (by omega)]; rfl
 rw [Mh h2, Ba (by omega)]
 simp only [cond_false]
 rw [Mh (by omega), hs]
 try simp only [Nat.sub_sub, jt]
theorem Fae (a : Hb) (hr : Yl Cc a) (l : Nat) (hl : l ≤ Ea) : ZC a (l : Int) = some (AI (Ja Cc a) l, ()) := by
 unfold ZC
 have hs : Ja Cc a = Ja Xb a.1 + (Ja (.sl Za) a.2.2.1) := by simp only [Ja, Nat.add_zero, js, jt]
 rw [Haf a.1 hr.1 (l) (by omega)]
 simp only [jb]
 by_cases h0 : Ja Xb a.1 ≤ l
 case neg => rw [Vf h0, Vf (by omega)]; rfl
 rw [Mh h0, Ba (by omega)]
 simp only [cond_false]
 rw [SZ a.2.2.1 hr.2.2.1 (l - Ja Xb a.1) (by omega)]
 simp only [jb]
 by_cases h1 : Ja (.sl Za) a.2.2.1 ≤ l - Ja Xb a.1
 case neg => rw [Vf h1, Vf (by omega)]; rfl
 rw [Mh h1, Ba (by omega)]
 simp only [cond_false]
 rw [Mh (by omega), hs]
 try simp only [Nat.sub_sub, jt]
theorem Yaq (a : Zc) (hr : Yl Ad a) (l : Nat) (hl : l ≤ Ea) : GJ a (l : Int) = some (AI (Ja Ad a) l, ()) := by
 unfold GJ
 have hs : Ja Ad a = Ja Kb a.2.1 + (Ja Nb a.2.2.1 + (Ja Cc a.2.2.2.1)) := by simp only [Ja, Nat.add_zero, js, jt]
 rw [F7 a.2.1 hr.2.1 (l) (by omega)]
 simp only [jb]
 by_cases h0 : Ja Kb a.2.1 ≤ l
 case neg => rw [Vf h0, Vf (by omega)]; rfl
 rw [Mh h0, Ba (by omega)]
 simp only [cond_false]
 rw [J9 a.2.2.1 hr.2.2.1 (l - Ja Kb a.2.1) (by omega)]
 simp only [jb]
 by_cases h1 : Ja Nb a.2.2.1 ≤ l - Ja Kb a.2.1
 case neg => rw [Vf h1, Vf (by omega)]; rfl
 rw [Mh h1, Ba (by omega)]
 simp only [cond_false]
 rw [Fae a.2.2.2.1 hr.2.2.2.1 (l - Ja Kb a.2.1 - Ja Nb a.2.2.1) (by omega)]
 simp only [jb]
 by_cases h2 : Ja Cc a.2.2.2.1 ≤ l - Ja Kb a.2.1 - Ja Nb a.2.2.1
 case neg => rw [Vf h2, Vf (by omega)]; rfl
 rw [Mh h2, Ba (by omega)]
 simp only [cond_false]
 rw [Mh (by omega), hs]
 try simp only [Nat.sub_sub, jt]
theorem H7 (a : Ob) (hz : Ja Kb a ≤ Ea) : Uv a = some (a, ()) := by
 unfold Uv
 have hs : Ja Kb a = Ja (.sl int) a.2.2.2.2.2.1 := by simp only [Ja, Nat.add_zero, js, jt]
 rw [Tau a.2.2.2.2.2.1 (by omega)]
 simp only [jb]
theorem Ear (a : Va) (hz : Ja Wb a ≤ Ea) : MB a = some (a, ()) := by
 unfold MB
 rfl
theorem Laf (a : (List Va)) (hz : Ja (.sl Wb) a ≤ Ea) : KN a = some (a, ()) := H8 (e := Wb) _ _ (f := MB) a hz Ear rfl
theorem Far (a : Ca) (hz : Ja Za a ≤ Ea) : NB a = some (a, ()) := by
 unfold NB
 rfl
theorem UZ (a : (List Ca)) (hz : Ja (.sl Za) a ≤ Ea) : IG a = some (a, ()) := H8 (e := Za) _ _ (f := NB) a hz Far rfl
theorem Kaf (a : Ca) (hz : Ja Za a ≤ Ea) : Gx a = some (a, ()) := by
 unfold Gx
 rfl
theorem Kae (a : (List Ca)) (hz : Ja (.sl Za) a ≤ Ea) : FL a = some (a, ()) := H8 (e := Za) _ _ (f := Gx) a hz Kaf rfl
theorem L9 (a : Oa) (hz : Ja Nb a ≤ Ea) : Qz a = some (a, ()) := by
 unfold Qz
 have hs : Ja Nb a = Ja (.sl Wb) a.1 + (Ja (.sl Za) a.2.2.1 + (Ja (.sl Za) a.2.2.2.2.2.2.1)) := by simp only [Ja, Nat.add_zero, js, jt]
 rw [Laf a.1 (by omega)]
 simp only [jb]
 rw [UZ a.2.2.1 (by omega)]
 simp only [jb]
 rw [Kae a.2.2.2.2.2.2.1 (by omega)]
 simp only [jb]
theorem Uau (a : Qc) (hz : Ja Bc a ≤ Ea) : DF a = some (a, ()) := by
 unfold DF
 rfl
theorem Har (a : (List Qc)) (hz : Ja (.sl Bc) a ≤ Ea) : MJ a = some (a, ()) := H8 (e := Bc) _ _ (f := DF) a hz Uau rfl
theorem Paf (a : (List (List Qc))) (hz : Ja (.sl (.sl Bc)) a ≤ Ea) : LN a = some (a, ()) := H8 (e := (.sl Bc)) _ _ (f := MJ) a hz Har rfl
theorem Sau (a : Pa) (hz : Ja Bf a ≤ Ea) : CF a = some (a, ()) := by
 unfold CF
 have hs : Ja Bf a = 0 := by simp only [Ja, Nat.add_zero, js, jt]
 rw [TZ a.2.1 (by rw [Rw rfl]; exact Nat.zero_le _)]
 simp only [jb]
theorem Gar (a : (List Pa)) (hz : Ja (.sl Bf) a ≤ Ea) : JP a = some (a, ()) := H8 (e := Bf) _ _ (f := CF) a hz Sau rfl
theorem Maf (a : Gb) (hz : Ja Xb a ≤ Ea) : HG a = some (a, ()) := by
 unfold HG
 have hs : Ja Xb a = Ja Ub a.1 + (Ja (.sl (.sl Bc)) a.2.1 + (Ja (.sl Bf) a.2.2.2.1)) := by simp only [Ja, Nat.add_zero, js, jt]
 rw [Naf a.1 (by omega)]
 simp only [jb]
 rw [Paf a.2.1 (by omega)]
 simp only [jb]
 rw [Gar a.2.2.2.1 (by omega)]
 simp only [jb]
theorem Lae (a : Hb) (hz : Ja Cc a ≤ Ea) : BD a = some (a, ()) := by
 unfold BD
 have hs : Ja Cc a = Ja Xb a.1 + (Ja (.sl Za) a.2.2.1) := by simp only [Ja, Nat.add_zero, js, jt]
 rw [Maf a.1 (by omega)]
 simp only [jb]
 rw [Qaf a.2.1 (by rw [Rw rfl]; exact Nat.zero_le _)]
 simp only [jb]
 rw [UZ a.2.2.1 (by omega)]
 simp only [jb]
theorem Dar (a : Zc) (hz : Ja Ad a ≤ Ea) : Wn a = some (a, ()) := by
 unfold Wn
 have hs : Ja Ad a = Ja Kb a.2.1 + (Ja Nb a.2.2.1 + (Ja Cc a.2.2.2.1)) := by simp only [Ja, Nat.add_zero, js, jt]
 rw [Oaf a.1 (by rw [Rw rfl]; exact Nat.zero_le _)]
 simp only [jb]
 rw [H7 a.2.1 (by omega)]
 simp only [jb]
 rw [L9 a.2.2.1 (by omega)]
 simp only [jb]
 rw [Lae a.2.2.2.1 (by omega)]
 simp only [jb]
theorem Vae (a : Ca) (hz : Ja Za a ≤ Xc) : XF a a = some (true, ()) := by
 unfold XF
 have hs : Ja Za a = 0 := by simp only [Ja, Nat.add_zero, js, jt]
 simp only [bne_self_eq_false', cond_false, jg, jb]
theorem X5 (a : Ob) (hz : Ja Kb a ≤ Xc) : Qv a a = some (true, ()) := by
 unfold Qv
 have hs : Ja Kb a = Ja (.sl int) a.2.2.2.2.2.1 := by simp only [Ja, Nat.add_zero, js, jt]
 simp only [bne_self_eq_false', cond_false, jg, jb, S7 a.2.2.2.2.2.1 (by omega)]
theorem Map (a : Va) (hz : Ja Wb a ≤ Xc) : FB a a = some (true, ()) := by
 unfold FB
 have hs : Ja Wb a = 0 := by simp only [Ja, Nat.add_zero, js, jt]
 simp only [bne_self_eq_false', cond_false, jg, jb]
theorem Sae (a : (List Va)) (hz : Ja (.sl Wb) a ≤ Xc) : TF a a = some (true, ()) := O3 (e := Wb) (f := FB) (F := TF) a hz Map rfl
theorem Rae (a : Ca) (hz : Ja Za a ≤ Xc) : Bx a a = some (true, ()) := by
 unfold Bx
 have hs : Ja Za a = 0 := by simp only [Ja, Nat.add_zero, js, jt]
 simp only [bne_self_eq_false', cond_false, jg, jb]
theorem Aac (a : (List Ca)) (hz : Ja (.sl Za) a ≤ Xc) : VC a a = some (true, ()) := O3 (e := Za) (f := Bx) (F := VC) a hz Rae rfl
theorem N8 (a : Oa) (hz : Ja Nb a ≤ Xc) : Gz a a = some (true, ()) := by
 unfold Gz
 have hs : Ja Nb a = Ja (.sl Wb) a.1 + (Ja (.sl Za) a.2.2.1 + (Ja (.sl Za) a.2.2.2.2.2.2.1)) := by simp only [Ja, Nat.add_zero, js, jt]
 simp only [bne_self_eq_false', cond_false, jg, jb, Sae a.1 (by omega), BZ a.2.2.1 (by omega), Aac a.2.2.2.2.2.2.1 (by omega)]
theorem Las (a : Qc) (hz : Ja Bc a ≤ Xc) : TE a a = some (true, ()) := by
 unfold TE
 have hs : Ja Bc a = 0 := by simp only [Ja, Nat.add_zero, js, jt]
 simp only [bne_self_eq_false', cond_false, jg, jb]
theorem Qap (a : (List Qc)) (hz : Ja (.sl Bc) a ≤ Xc) : IB a a = some (true, ()) := O3 (e := Bc) (f := TE) (F := IB) a hz Las rfl
theorem Xae (a : (List (List Qc))) (hz : Ja (.sl (.sl Bc)) a ≤ Xc) : ZF a a = some (true, ()) := O3 (e := (.sl Bc)) (f := IB) (F := ZF) a hz Qap rfl
theorem Jas (a : Pa) (hz : Ja Bf a ≤ Xc) : QE a a = some (true, ()) := by
 unfold QE
 have hs : Ja Bf a = 0 := by simp only [Ja, Nat.add_zero, js, jt]
 simp only [bne_self_eq_false', cond_false, jg, jb, AZ a.2.1 (by rw [Rw rfl]; exact Nat.zero_le _)]
theorem Oap (a : (List Pa)) (hz : Ja (.sl Bf) a ≤ Xc) : YI a a = some (true, ()) := O3 (e := Bf) (f := QE) (F := YI) a hz Jas rfl
theorem Tae (a : Gb) (hz : Ja Xb a ≤ Xc) : UF a a = some (true, ()) := by
 unfold UF
 have hs : Ja Xb a = Ja Ub a.1 + (Ja (.sl (.sl Bc)) a.2.1 + (Ja (.sl Bf) a.2.2.2.1)) := by simp only [Ja, Nat.add_zero, js, jt]
 simp only [bne_self_eq_false', cond_false, jg, jb, Uae a.1 (by omega), Xae a.2.1 (by omega), Oap a.2.2.2.1 (by omega)]
theorem Bac (a : Hb) (hz : Ja Cc a ≤ Xc) : WC a a = some (true, ()) := by
 unfold WC
 have hs : Ja Cc a = Ja Xb a.1 + (Ja (.sl Za) a.2.2.1) := by simp only [Ja, Nat.add_zero, js, jt]
 simp only [bne_self_eq_false', cond_false, jg, jb, Tae a.1 (by omega), Yae a.2.1 (by rw [Rw rfl]; exact Nat.zero_le _), BZ a.2.2.1 (by omega)]
theorem N3 (a : Zc) (hz : Ja Ad a ≤ Xc) : Vn a a = some (true, ()) := by
 unfold Vn
 have hs : Ja Ad a = Ja Kb a.2.1 + (Ja Nb a.2.2.1 + (Ja Cc a.2.2.2.1)) := by simp only [Ja, Nat.add_zero, js, jt]
 simp only [bne_self_eq_false', cond_false, jg, jb, Vae a.1 (by rw [Rw rfl]; exact Nat.zero_le _), X5 a.2.1 (by omega), N8 a.2.2.1 (by omega), Bac a.2.2.2.1 (by omega)]
theorem LZ (a : (List Int)) (k : Nat) (hk : k + 8 * Ja (.sl int) a ≤ Xc) : ∃ (a' : (List Int)) (k' : Nat), k ≤ k' ∧ k' ≤ k + 8 * Ja (.sl int) a ∧ CG a (k : Int) = some (a', ((k' : Int), ())) ∧ BG a' (k : Int) = some ((k' : Int), ()) ∧ kf (.sl int) a a' := DM (e := int) (RM := Ms) (RH := Js) (fun _ _ => rfl) (fun _ _ => rfl) (by
 have h40 : Xc = 1099511627776 := rfl
 intro o k i hi hB
 have hw : j5 .i64 (((k : Nat) : Int) + 1) = (((k + 1) : Nat) : Int) := Gc (by omega)
 refine ⟨((k : Nat) : Int), k + 1, by omega, by omega, ?_, ?_⟩
 ·simp only [Ms]
  rw [Aa (show (i : Int) < (ja o : Int) by omega)]
  simp only [hw, cond_true, Ig, j9, Aa hi, jn, je hi, qv hi, jb, List.set_set, z3, cond_false]
 ·intro o2 hi2 h2
  simp only [Js]
  rw [Aa (show (i : Int) < (ja o2 : Int) by omega), Mb hi2, h2]
  simp only [hw, cond_true, jb, bne_self_eq_false', cond_false, z3]) (by
 intro o k
 simp only [Ms]
 rw [Ba (by omega)]
 rfl) (by
 intro o k
 simp only [Js]
 rw [Ba (by omega)]
 rfl) a k hk
theorem Had (a : (List Lf)) (k : Nat) (hk : k + 8 * Ja (.sl Gj) a ≤ Xc) : ∃ (a' : (List Lf)) (k' : Nat), k ≤ k' ∧ k' ≤ k + 8 * Ja (.sl Gj) a ∧ DL a (k : Int) = some (a', ((k' : Int), ())) ∧ XC a' (k : Int) = some ((k' : Int), ()) ∧ kf (.sl Gj) a a' := DM (e := Gj) (RM := Gq) (RH := Bq) (fun _ _ => rfl) (fun _ _ => rfl) (by
 have h40 : Xc = 1099511627776 := rfl
 intro o k i hi hB
 have hs : Ja Gj o[i] = Ja (.sl int) o[i].2.1.2.1 := by simp only [Ja, Nat.add_zero, js, jt]
 have w0 : j5 .i64 (((k : Nat) : Int) + 1) = (((k + 1) : Nat) : Int) := Gc (by omega)
 have w1 : j5 .i64 ((((k + 1) : Nat) : Int) + 1) = ((((k + 1) + 1) : Nat) : Int) := Gc (by omega)
 obtain ⟨y0, k0, g0, i0, m0, n0, _⟩ := LZ o[i].2.1.2.1 ((k + 1) + 1) (by omega)
 have d0 : decide ((k0 : Int) < 0) = false := Ba (by omega)
 refine ⟨(((k : Nat) : Int), ((((k + 1) : Nat) : Int), y0, ()), ()), k0, by omega, by omega, ?_, ?_⟩
 ·simp only [Gq]
  rw [Aa (show (i : Int) < (ja o : Int) by omega)]
  simp only [w0, w1, m0, cond_true, Ig, j9, Aa hi, jn, je hi, qv hi, jb, List.set_set, z3, cond_false]
 ·intro o2 hi2 h2
  simp only [Bq]
  rw [Aa (show (i : Int) < (ja o2 : Int) by omega), Mb hi2, h2]
  simp only [w0, w1, n0, d0, cond_true, jb, bne_self_eq_false', cond_false, z3]) (by
 intro o k
 simp only [Gq]
 rw [Ba (by omega)]
 rfl) (by
 intro o k
 simp only [Bq]
 rw [Ba (by omega)]
 rfl) a k hk
theorem K6 (a : (List Bb)) (k : Nat) (hk : k + 8 * Ja (.sl Rb) a ≤ Xc) : ∃ (a' : (List Bb)) (k' : Nat), k ≤ k' ∧ k' ≤ k + 8 * Ja (.sl Rb) a ∧ DH a (k : Int) = some (a', ((k' : Int), ())) ∧ AH a' (k : Int) = some ((k' : Int), ()) ∧ kf (.sl Rb) a a' := DM (e := Rb) (RM := Qm) (RH := Om) (fun _ _ => rfl) (fun _ _ => rfl) (by
 have h40 : Xc = 1099511627776 := rfl
 intro o k i hi hB
 have hw : j5 .i64 (((k : Nat) : Int) + 1) = (((k + 1) : Nat) : Int) ∧ j5 .i64 ((((k + 1) : Nat) : Int) + 1) = (((k + 2) : Nat) : Int) ∧ j5 .i64 ((((k + 2) : Nat) : Int) + 1) = (((k + 3) : Nat) : Int) ∧ j5 .i64 ((((k + 3) : Nat) : Int) + 1) = (((k + 4) : Nat) : Int) := ⟨Gc (show k < 9223372036854775807 by omega), Gc (show (k + 1) < 9223372036854775807 by omega), Gc (show (k + 2) < 9223372036854775807 by omega), Gc (show (k + 3) < 9223372036854775807 by omega)⟩
 obtain ⟨w0, w1, w2, w3⟩ := hw
 refine ⟨(((k : Nat) : Int), (((k + 1) : Nat) : Int), (((k + 2) : Nat) : Int), (((k + 3) : Nat) : Int), ()), k + 4, by omega, by omega, ?_, ?_⟩
 ·simp only [Qm]
  rw [Aa (show (i : Int) < (ja o : Int) by omega)]
  simp only [w0, w1, w2, w3, cond_true, Ig, j9, Aa hi, jn, je hi, qv hi, jb, List.set_set, z3, cond_false]
 ·intro o2 hi2 h2
  simp only [Om]
  rw [Aa (show (i : Int) < (ja o2 : Int) by omega), Mb hi2, h2]
  simp only [w0, w1, w2, w3, cond_true, jb, bne_self_eq_false', cond_false, z3]) (by
 intro o k
 simp only [Qm]
 rw [Ba (by omega)]
 rfl) (by
 intro o k
 simp only [Om]
 rw [Ba (by omega)]
 rfl) a k hk
theorem I4 (a : (List (List Bb))) (k : Nat) (hk : k + 8 * Ja (.sl (.sl Rb)) a ≤ Xc) : ∃ (a' : (List (List Bb))) (k' : Nat), k ≤ k' ∧ k' ≤ k + 8 * Ja (.sl (.sl Rb)) a ∧ AE a (k : Int) = some (a', ((k' : Int), ())) ∧ ZD a' (k : Int) = some ((k' : Int), ()) ∧ kf (.sl (.sl Rb)) a a' := DM (e := (.sl Rb)) (RM := Ll) (RH := Kl) (fun _ _ => rfl) (fun _ _ => rfl) (by
 have h40 : Xc = 1099511627776 := rfl
 intro o k i hi hB
 obtain ⟨y0, k0, g0, i0, m0, n0, _⟩ := K6 o[i] k (by omega)
 have d0 : decide ((k0 : Int) < 0) = false := Ba (by omega)
 refine ⟨y0, k0, by omega, by omega, ?_, ?_⟩
 ·simp only [Ll]
  rw [Aa (show (i : Int) < (ja o : Int) by omega)]
  simp only [m0, cond_true, Ig, j9, Aa hi, jn, je hi, qv hi, jb, List.set_set, z3, cond_false]
 ·intro o2 hi2 h2
  simp only [Kl]
  rw [Aa (show (i : Int) < (ja o2 : Int) by omega), Mb hi2, h2]
  simp only [n0, d0, cond_true, jb, bne_self_eq_false', cond_false, z3]) (by
 intro o k
 simp only [Ll]
 rw [Ba (by omega)]
 rfl) (by
 intro o k
 simp only [Kl]
 rw [Ba (by omega)]
 rfl) a k hk
theorem Z8 (a : Sb) (k : Nat) (hk : k + 8 * Ja Ub a ≤ Xc) : ∃ (a' : Sb) (k' : Nat), k ≤ k' ∧ k' ≤ k + 8 * Ja Ub a ∧ Nz a (k : Int) = some (a', ((k' : Int), ())) ∧ Kz a' (k : Int) = some ((k' : Int), ()) ∧ kf Ub a a' := by
 have h40 : Xc = 1099511627776 := rfl
 have hs : Ja Ub a = Ja (.sl (.sl Rb)) a.2.1 := by simp only [Ja, Nat.add_zero, js, jt]
 obtain ⟨x0, k0, g0, i0, m0, n0, f0⟩ := I4 a.2.1 k (by omega)
 refine ⟨(a.1, x0, ()), k0, by omega, by omega, ?_, ?_, Rg _ _, f0, rfl⟩
 ·unfold Nz
  simp only [m0, jb]
 ·unfold Kz
  simp only [n0, jb]
  rw [Ba (by omega)]
  simp only [cond_false]
theorem ZU (a : (List Ca)) (k : Nat) (hk : k + 8 * Ja (.sl Za) a ≤ Xc) : ∃ (a' : (List Ca)) (k' : Nat), k ≤ k' ∧ k' ≤ k + 8 * Ja (.sl Za) a ∧ Mz a (k : Int) = some (a', ((k' : Int), ())) ∧ Jz a' (k : Int) = some ((k' : Int), ()) ∧ kf (.sl Za) a a' := DM (e := Za) (RM := Po) (RH := Mo) (fun _ _ => rfl) (fun _ _ => rfl) (by
 have h40 : Xc = 1099511627776 := rfl
 intro o k i hi hB
 have hw : j5 .i64 (((k : Nat) : Int) + 1) = (((k + 1) : Nat) : Int) ∧ j5 .i64 ((((k + 1) : Nat) : Int) + 1) = (((k + 2) : Nat) : Int) ∧ j5 .i64 ((((k + 2) : Nat) : Int) + 1) = (((k + 3) : Nat) : Int) := ⟨Gc (show k < 9223372036854775807 by omega), Gc (show (k + 1) < 9223372036854775807 by omega), Gc (show (k + 2) < 9223372036854775807 by omega)⟩
 obtain ⟨w0, w1, w2⟩ := hw
 refine ⟨(((k : Nat) : Int), (((k + 1) : Nat) : Int), (Int.tmod (((k + 2) : Nat) : Int) 3 == 0), ()), k + 3, by omega, by omega, ?_, ?_⟩
 ·simp only [Po]
  rw [Aa (show (i : Int) < (ja o : Int) by omega)]
  simp only [w0, w1, w2, cond_true, Ig, j9, Aa hi, jn, je hi, qv hi, jb, List.set_set, z3, cond_false]
 ·intro o2 hi2 h2
  simp only [Mo]
  rw [Aa (show (i : Int) < (ja o2 : Int) by omega), Mb hi2, h2]
  simp only [w0, w1, w2, cond_true, jb, bne_self_eq_false', cond_false, z3]) (by
 intro o k
 simp only [Po]
 rw [Ba (by omega)]
 rfl) (by
 intro o k
 simp only [Mo]
 rw [Ba (by omega)]
 rfl) a k hk
theorem Q1 (a : Ob) (k : Nat) (hk : k + 8 * Ja Kb a ≤ Xc) : ∃ (a' : Ob) (k' : Nat), k ≤ k' ∧ k' ≤ k + 8 * Ja Kb a ∧ Dq a (k : Int) = some (a', ((k' : Int), ())) ∧ Zp a' (k : Int) = some ((k' : Int), ()) ∧ kf Kb a a' := by
 have h40 : Xc = 1099511627776 := rfl
 have hs : Ja Kb a = Ja (.sl int) a.2.2.2.2.2.1 := by simp only [Ja, Nat.add_zero, js, jt]
 obtain ⟨x0, k0, g0, i0, m0, n0, f0⟩ := LZ a.2.2.2.2.2.1 k (by omega)
 refine ⟨(a.1, a.2.1, a.2.2.1, a.2.2.2.1, a.2.2.2.2.1, x0, ()), k0, by omega, by omega, ?_, ?_, Rg _ _, Rg _ _, Rg _ _, Rg _ _, Rg _ _, f0, rfl⟩
 ·unfold Dq
  simp only [m0, jb]
 ·unfold Zp
  simp only [n0, jb]
  rw [Ba (by omega)]
  simp only [cond_false]
theorem X8 (a : (List Va)) (k : Nat) (hk : k + 8 * Ja (.sl Wb) a ≤ Xc) : ∃ (a' : (List Va)) (k' : Nat), k ≤ k' ∧ k' ≤ k + 8 * Ja (.sl Wb) a ∧ DJ a (k : Int) = some (a', ((k' : Int), ())) ∧ AJ a' (k : Int) = some ((k' : Int), ()) ∧ kf (.sl Wb) a a' := DM (e := Wb) (RM := Oo) (RH := Lo) (fun _ _ => rfl) (fun _ _ => rfl) (by
 have h40 : Xc = 1099511627776 := rfl
 intro o k i hi hB
 have hw : j5 .i64 (((k : Nat) : Int) + 1) = (((k + 1) : Nat) : Int) ∧ j5 .i64 ((((k + 1) : Nat) : Int) + 1) = (((k + 2) : Nat) : Int) := ⟨Gc (show k < 9223372036854775807 by omega), Gc (show (k + 1) < 9223372036854775807 by omega)⟩
 obtain ⟨w0, w1⟩ := hw
 refine ⟨(((k : Nat) : Int), (((k + 1) : Nat) : Int), ()), k + 2, by omega, by omega, ?_, ?_⟩
 ·simp only [Oo]
  rw [Aa (show (i : Int) < (ja o : Int) by omega)]
  simp only [w0, w1, cond_true, Ig, j9, Aa hi, jn, je hi, qv hi, jb, List.set_set, z3, cond_false]
 ·intro o2 hi2 h2
  simp only [Lo]
  rw [Aa (show (i : Int) < (ja o2 : Int) by omega), Mb hi2, h2]
  simp only [w0, w1, cond_true, jb, bne_self_eq_false', cond_false, z3]) (by
 intro o k
 simp only [Oo]
 rw [Ba (by omega)]
 rfl) (by
 intro o k
 simp only [Lo]
 rw [Ba (by omega)]
 rfl) a k hk
theorem L6 (a : (List Ca)) (k : Nat) (hk : k + 8 * Ja (.sl Za) a ≤ Xc) : ∃ (a' : (List Ca)) (k' : Nat), k ≤ k' ∧ k' ≤ k + 8 * Ja (.sl Za) a ∧ EH a (k : Int) = some (a', ((k' : Int), ())) ∧ BH a' (k : Int) = some ((k' : Int), ()) ∧ kf (.sl Za) a a' := DM (e := Za) (RM := Rm) (RH := Pm) (fun _ _ => rfl) (fun _ _ => rfl) (by
 have h40 : Xc = 1099511627776 := rfl
 intro o k i hi hB
 have hw : j5 .i64 (((k : Nat) : Int) + 1) = (((k + 1) : Nat) : Int) ∧ j5 .i64 ((((k + 1) : Nat) : Int) + 1) = (((k + 2) : Nat) : Int) ∧ j5 .i64 ((((k + 2) : Nat) : Int) + 1) = (((k + 3) : Nat) : Int) := ⟨Gc (show k < 9223372036854775807 by omega), Gc (show (k + 1) < 9223372036854775807 by omega), Gc (show (k + 2) < 9223372036854775807 by omega)⟩
 obtain ⟨w0, w1, w2⟩ := hw
 refine ⟨(((k : Nat) : Int), (((k + 1) : Nat) : Int), (Int.tmod (((k + 2) : Nat) : Int) 3 == 0), ()), k + 3, by omega, by omega, ?_, ?_⟩
 ·simp only [Rm]
  rw [Aa (show (i : Int) < (ja o : Int) by omega)]
  simp only [w0, w1, w2, cond_true, Ig, j9, Aa hi, jn, je hi, qv hi, jb, List.set_set, z3, cond_false]
 ·intro o2 hi2 h2
  simp only [Pm]
  rw [Aa (show (i : Int) < (ja o2 : Int) by omega), Mb hi2, h2]
  simp only [w0, w1, w2, cond_true, jb, bne_self_eq_false', cond_false, z3]) (by
 intro o k
 simp only [Rm]
 rw [Ba (by omega)]
 rfl) (by
 intro o k
 simp only [Pm]
 rw [Ba (by omega)]
 rfl) a k hk
theorem J4 (a : Oa) (k : Nat) (hk : k + 8 * Ja Nb a ≤ Xc) : ∃ (a' : Oa) (k' : Nat), k ≤ k' ∧ k' ≤ k + 8 * Ja Nb a ∧ Ks a (k : Int) = some (a', ((k' : Int), ())) ∧ Is a' (k : Int) = some ((k' : Int), ()) ∧ kf Nb a a' := by
 have h40 : Xc = 1099511627776 := rfl
 have hs : Ja Nb a = Ja (.sl Wb) a.1 + (Ja (.sl Za) a.2.2.1 + (Ja (.sl Za) a.2.2.2.2.2.2.1)) := by simp only [Ja, Nat.add_zero, js, jt]
 obtain ⟨x0, k0, g0, i0, m0, n0, f0⟩ := X8 a.1 k (by omega)
 obtain ⟨x1, k1, g1, i1, m1, n1, f1⟩ := ZU a.2.2.1 k0 (by omega)
 obtain ⟨x2, k2, g2, i2, m2, n2, f2⟩ := L6 a.2.2.2.2.2.2.1 k1 (by omega)
 refine ⟨(x0, a.2.1, x1, a.2.2.2.1, a.2.2.2.2.1, a.2.2.2.2.2.1, x2, ()), k2, by omega, by omega, ?_, ?_, f0, Rg _ _, f1, Rg _ _, Rg _ _, Rg _ _, f2, rfl⟩
 ·unfold Ks
  simp only [m0, m1, m2, jb]
 ·unfold Is
  simp only [n0, jb]
  rw [Ba (by omega)]
  simp only [cond_false]
  simp only [n1, jb]
  rw [Ba (by omega)]
  simp only [cond_false]
  simp only [n2, jb]
  rw [Ba (by omega)]
  simp only [cond_false]
theorem Iad (a : (List Qc)) (k : Nat) (hk : k + 8 * Ja (.sl Bc) a ≤ Xc) : ∃ (a' : (List Qc)) (k' : Nat), k ≤ k' ∧ k' ≤ k + 8 * Ja (.sl Bc) a ∧ EL a (k : Int) = some (a', ((k' : Int), ())) ∧ BL a' (k : Int) = some ((k' : Int), ()) ∧ kf (.sl Bc) a a' := DM (e := Bc) (RM := Hq) (RH := Cq) (fun _ _ => rfl) (fun _ _ => rfl) (by
 have h40 : Xc = 1099511627776 := rfl
 intro o k i hi hB
 have hw : j5 .i64 (((k : Nat) : Int) + 1) = (((k + 1) : Nat) : Int) ∧ j5 .i64 ((((k + 1) : Nat) : Int) + 1) = (((k + 2) : Nat) : Int) ∧ j5 .i64 ((((k + 2) : Nat) : Int) + 1) = (((k + 3) : Nat) : Int) := ⟨Gc (show k < 9223372036854775807 by omega), Gc (show (k + 1) < 9223372036854775807 by omega), Gc (show (k + 2) < 9223372036854775807 by omega)⟩
 obtain ⟨w0, w1, w2⟩ := hw
 refine ⟨(((k : Nat) : Int), (((k + 1) : Nat) : Int), (((k + 2) : Nat) : Int), ()), k + 3, by omega, by omega, ?_, ?_⟩
 ·simp only [Hq]
  rw [Aa (show (i : Int) < (ja o : Int) by omega)]
  simp only [w0, w1, w2, cond_true, Ig, j9, Aa hi, jn, je hi, qv hi, jb, List.set_set, z3, cond_false]
 ·intro o2 hi2 h2
  simp only [Cq]
  rw [Aa (show (i : Int) < (ja o2 : Int) by omega), Mb hi2, h2]
  simp only [w0, w1, w2, cond_true, jb, bne_self_eq_false', cond_false, z3]) (by
 intro o k
 simp only [Hq]
 rw [Ba (by omega)]
 rfl) (by
 intro o k
 simp only [Cq]
 rw [Ba (by omega)]
 rfl) a k hk
theorem A9 (a : (List (List Qc))) (k : Nat) (hk : k + 8 * Ja (.sl (.sl Bc)) a ≤ Xc) : ∃ (a' : (List (List Qc))) (k' : Nat), k ≤ k' ∧ k' ≤ k + 8 * Ja (.sl (.sl Bc)) a ∧ FJ a (k : Int) = some (a', ((k' : Int), ())) ∧ CJ a' (k : Int) = some ((k' : Int), ()) ∧ kf (.sl (.sl Bc)) a a' := DM (e := (.sl Bc)) (RM := Qo) (RH := No) (fun _ _ => rfl) (fun _ _ => rfl) (by
 have h40 : Xc = 1099511627776 := rfl
 intro o k i hi hB
 obtain ⟨y0, k0, g0, i0, m0, n0, _⟩ := Iad o[i] k (by omega)
 have d0 : decide ((k0 : Int) < 0) = false := Ba (by omega)
 refine ⟨y0, k0, by omega, by omega, ?_, ?_⟩
 ·simp only [Qo]
  rw [Aa (show (i : Int) < (ja o : Int) by omega)]
  simp only [m0, cond_true, Ig, j9, Aa hi, jn, je hi, qv hi, jb, List.set_set, z3, cond_false]
 ·intro o2 hi2 h2
  simp only [No]
  rw [Aa (show (i : Int) < (ja o2 : Int) by omega), Mb hi2, h2]
  simp only [n0, d0, cond_true, jb, bne_self_eq_false', cond_false, z3]) (by
 intro o k
 simp only [Qo]
 rw [Ba (by omega)]
 rfl) (by
 intro o k
 simp only [No]
 rw [Ba (by omega)]
 rfl) a k hk
theorem Gad (a : (List Pa)) (k : Nat) (hk : k + 8 * Ja (.sl Bf) a ≤ Xc) : ∃ (a' : (List Pa)) (k' : Nat), k ≤ k' ∧ k' ≤ k + 8 * Ja (.sl Bf) a ∧ CL a (k : Int) = some (a', ((k' : Int), ())) ∧ AL a' (k : Int) = some ((k' : Int), ()) ∧ kf (.sl Bf) a a' := DM (e := Bf) (RM := Fq) (RH := Aq) (fun _ _ => rfl) (fun _ _ => rfl) (by
 have h40 : Xc = 1099511627776 := rfl
 intro o k i hi hB
 have hw : j5 .i64 (((k : Nat) : Int) + 1) = (((k + 1) : Nat) : Int) ∧ j5 .i64 ((((k + 1) : Nat) : Int) + 1) = (((k + 2) : Nat) : Int) ∧ j5 .i64 ((((k + 2) : Nat) : Int) + 1) = (((k + 3) : Nat) : Int) ∧ j5 .i64 ((((k + 3) : Nat) : Int) + 1) = (((k + 4) : Nat) : Int) ∧ j5 .i64 ((((k + 4) : Nat) : Int) + 1) = (((k + 5) : Nat) : Int) := ⟨Gc (show k < 9223372036854775807 by omega), Gc (show (k + 1) < 9223372036854775807 by omega), Gc (show (k + 2) < 9223372036854775807 by omega), Gc (show (k + 3) < 9223372036854775807 by omega), Gc (show (k + 4) < 9223372036854775807 by omega)⟩
 obtain ⟨w0, w1, w2, w3, w4⟩ := hw
 refine ⟨(((k : Nat) : Int), ((((k + 1) : Nat) : Int), (((k + 2) : Nat) : Int), (((k + 3) : Nat) : Int), (((k + 4) : Nat) : Int), ()), ()), k + 5, by omega, by omega, ?_, ?_⟩
 ·simp only [Fq]
  rw [Aa (show (i : Int) < (ja o : Int) by omega)]
  simp only [w0, w1, w2, w3, w4, cond_true, Ig, j9, Aa hi, jn, je hi, qv hi, jb, List.set_set, z3, cond_false]
 ·intro o2 hi2 h2
  simp only [Aq]
  rw [Aa (show (i : Int) < (ja o2 : Int) by omega), Mb hi2, h2]
  simp only [w0, w1, w2, w3, w4, cond_true, jb, bne_self_eq_false', cond_false, z3]) (by
 intro o k
 simp only [Fq]
 rw [Ba (by omega)]
 rfl) (by
 intro o k
 simp only [Aq]
 rw [Ba (by omega)]
 rfl) a k hk
theorem Y8 (a : Gb) (k : Nat) (hk : k + 8 * Ja Xb a ≤ Xc) : ∃ (a' : Gb) (k' : Nat), k ≤ k' ∧ k' ≤ k + 8 * Ja Xb a ∧ Lz a (k : Int) = some (a', ((k' : Int), ())) ∧ Iz a' (k : Int) = some ((k' : Int), ()) ∧ kf Xb a a' := by
 have h40 : Xc = 1099511627776 := rfl
 have hs : Ja Xb a = Ja Ub a.1 + (Ja (.sl (.sl Bc)) a.2.1 + (Ja (.sl Bf) a.2.2.2.1)) := by simp only [Ja, Nat.add_zero, js, jt]
 obtain ⟨x0, k0, g0, i0, m0, n0, f0⟩ := Z8 a.1 k (by omega)
 obtain ⟨x1, k1, g1, i1, m1, n1, f1⟩ := A9 a.2.1 k0 (by omega)
 obtain ⟨x2, k2, g2, i2, m2, n2, f2⟩ := Gad a.2.2.2.1 k1 (by omega)
 refine ⟨(x0, x1, a.2.2.1, x2, a.2.2.2.2.1, a.2.2.2.2.2.1, ()), k2, by omega, by omega, ?_, ?_, f0, f1, Rg _ _, f2, Rg _ _, Rg _ _, rfl⟩
 ·unfold Lz
  simp only [kf, true_and, and_true] at f0
  simp only [m0, m1, m2, jb]
  simp only [jc, Prod.ext_iff, f0, and_self]
 ·unfold Iz
  simp only [n0, jb]
  rw [Ba (by omega)]
  simp only [cond_false]
  simp only [n1, jb]
  rw [Ba (by omega)]
  simp only [cond_false]
  simp only [n2, jb]
  rw [Ba (by omega)]
  simp only [cond_false]
theorem M6 (a : Hb) (k : Nat) (hk : k + 8 * Ja Cc a ≤ Xc) : ∃ (a' : Hb) (k' : Nat), k ≤ k' ∧ k' ≤ k + 8 * Ja Cc a ∧ Sv a (k : Int) = some (a', ((k' : Int), ())) ∧ Rv a' (k : Int) = some ((k' : Int), ()) ∧ kf Cc a a' := by
 have h40 : Xc = 1099511627776 := rfl
 have hs : Ja Cc a = Ja Xb a.1 + (Ja (.sl Za) a.2.2.1) := by simp only [Ja, Nat.add_zero, js, jt]
 obtain ⟨x0, k0, g0, i0, m0, n0, f0⟩ := Y8 a.1 k (by omega)
 obtain ⟨x1, k1, g1, i1, m1, n1, f1⟩ := ZU a.2.2.1 k0 (by omega)
 refine ⟨(x0, a.2.1, x1, a.2.2.2.1, a.2.2.2.2.1, a.2.2.2.2.2.1, a.2.2.2.2.2.2.1, ()), k1, by omega, by omega, ?_, ?_, f0, Rg _ _, f1, Rg _ _, Rg _ _, Rg _ _, Rg _ _, rfl⟩
 ·unfold Sv
  simp only [kf, true_and, and_true] at f0
  simp only [m0, m1, jb]
  simp only [jc, Prod.ext_iff, f0, and_self]
 ·unfold Rv
  simp only [n0, jb]
  rw [Ba (by omega)]
  simp only [cond_false]
  simp only [n1, jb]
  rw [Ba (by omega)]
  simp only [cond_false]
theorem OW (a : Zc) (k : Nat) (hk : k + 8 * Ja Ad a ≤ Xc) : ∃ (a' : Zc) (k' : Nat), k ≤ k' ∧ k' ≤ k + 8 * Ja Ad a ∧ Yt a (k : Int) = some (a', ((k' : Int), ())) ∧ Xt a' (k : Int) = some ((k' : Int), ()) ∧ kf Ad a a' := by
 have h40 : Xc = 1099511627776 := rfl
 have hs : Ja Ad a = Ja Kb a.2.1 + (Ja Nb a.2.2.1 + (Ja Cc a.2.2.2.1)) := by simp only [Ja, Nat.add_zero, js, jt]
 obtain ⟨x0, k0, g0, i0, m0, n0, f0⟩ := Q1 a.2.1 k (by omega)
 obtain ⟨x1, k1, g1, i1, m1, n1, f1⟩ := J4 a.2.2.1 k0 (by omega)
 obtain ⟨x2, k2, g2, i2, m2, n2, f2⟩ := M6 a.2.2.2.1 k1 (by omega)
 refine ⟨(a.1, x0, x1, x2, a.2.2.2.2.1, a.2.2.2.2.2.1, ()), k2, by omega, by omega, ?_, ?_, Rg _ _, f0, f1, f2, Rg _ _, Rg _ _, rfl⟩
 ·unfold Yt
  simp only [kf, true_and, and_true] at f0
  simp only [kf, true_and, and_true] at f1
  simp only [kf, true_and, and_true] at f2
  simp only [m0, m1, m2, jb]
  simp only [jc, Prod.ext_iff, f0, f1, f2, and_self]
 ·unfold Xt
  simp only [n0, jb]
  rw [Ba (by omega)]
  simp only [cond_false]
  simp only [n1, jb]
  rw [Ba (by omega)]
  simp only [cond_false]
  simp only [n2, jb]
  rw [Ba (by omega)]
  simp only [cond_false]
end KF
