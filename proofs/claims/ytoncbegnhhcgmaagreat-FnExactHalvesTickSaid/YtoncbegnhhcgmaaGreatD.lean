/- An evaluator of Go functions on plain data, its soundness, and plain laws on what the functions compute, part 4 (conditions: as each lemma tells). -/
import Derived.Test.YtoncbegnhhcgmaaGreatC
set_option linter.unusedSimpArgs false
set_option linter.unusedVariables false
namespace KF
open Go
open List renaming length → ja, getElem?_eq_getElem → je, append → jf, mem_append → jl, mem_cons → jp, mem_cons_of_mem → jr, length_cons → jw, set → j6, length_nil → j8, length_set → j9, mem_singleton → qe, length_append → qf, getElem?_append_left → qh, getElem?_append_right → qi, getD_eq_getElem?_getD → qj, getElem_mem → qs, mem_of_mem_drop → qt, getElem_of_mem → qu, mem_map → qv, getElem?_set_self → qw, length_drop → qx, mem_cons_self → qz
open Option renaming bind_some → jb, bind → jz, map_some → qd, bind_eq_some_iff → qg
open Option.some renaming injEq → jc
open Bool renaming and_eq_true → jd, not_true → jg, true_and → jk, false_eq_true → jq, not_false → qa, not_eq_true → qb, false_and → qq, eq_iff_iff → qy
open Prod.mk renaming injEq → jh
open Nat renaming ble_eq_true_of_le → ji, mul_le_mul_right → jm, le_refl → jo, zero_add → js, add_assoc → jt, eq_of_beq_eq_true → ju, ble → jx, le_trans → qc, shiftLeft_eq → qk, lt_of_lt_of_le → qm, pow_le_pow_right → qn, testBit_xor → qo, testBit_two_pow → qp, xor_lt_two_pow → qr
open Int renaming toNat_natCast → jn, eq_ofNat_of_zero_le → jv, toNat → jy
open Go.IntKind renaming wrap → j5
open Sum renaming elim → j7, elim_inl → ql
open Result renaming andThen_ok → q0
open Sem renaming run_bind → q5
abbrev int : Ty := .i .i64
abbrev Uh : Ty := .i .u8
abbrev Zb : Ty := (.p int (.p int .u))
abbrev Wa : Type := (Int × (Int × Unit))
abbrev Ec : Ty := (.p int (.p (.sl int) .u))
abbrev Ka : Type := (Int × ((List Int) × Unit))
abbrev Bb : Ty := (.p int (.p int (.p .b .u)))
abbrev Ca : Type := (Int × (Int × (Bool × Unit)))
abbrev Kc : Ty := (.p int Zb)
abbrev Zc : Type := (Int × Wa)
abbrev TZ : Type := ((List Int) × Wa)
abbrev Wb : Ty := (.p int Kc)
abbrev Cb : Type := (Int × Zc)
abbrev Tc : Ty := (.p (.sl Uh) Kc)
abbrev Rb : Type := ((List Int) × Zc)
abbrev Wj : Ty := (.p int (.p Ec .u))
abbrev Lf : Type := (Int × (Ka × Unit))
abbrev Of : Ty := (.p int (.p Wb .u))
abbrev Ra : Type := (Int × (Cb × Unit))
abbrev Nb : Ty := (.p int (.p int (.p int (.p int Ec))))
abbrev Qb : Type := (Int × (Int × (Int × (Int × Ka))))
abbrev Bc : Ty := (.p int (.p (.sl (.sl Wb)) .u))
abbrev Xb : Type := (Int × ((List (List Cb)) × Unit))
abbrev Yax : Ty := (.p Bb (.p Bb .u))
abbrev Pb : Ty := (.p (.sl Zb) (.p int (.p (.sl Bb) (.p int (.p int (.p int (.p (.sl Bb) .u)))))))
abbrev Pa : Type := ((List Wa) × (Int × ((List Ca) × (Int × (Int × (Int × ((List Ca) × Unit)))))))
abbrev Dc : Ty := (.p Bc (.p (.sl (.sl Kc)) (.p int (.p (.sl Of) (.p int (.p .b .u))))))
abbrev Hb : Type := (Xb × ((List (List Zc)) × (Int × ((List Ra) × (Int × (Bool × Unit))))))
abbrev Hc : Ty := (.p Dc (.p Kc (.p (.sl Bb) Wb)))
abbrev Gb : Type := (Hb × (Zc × ((List Ca) × Cb)))
abbrev Ed : Ty := (.p Bb (.p Nb (.p Pb (.p Hc Zb))))
abbrev Jd : Type := (Ca × (Qb × (Pa × (Gb × Wa))))
abbrev Fe : Ty := (.p Ed (.p Tc (.p int .u)))
abbrev Gd : Type := (Jd × (Rb × (Int × Unit)))
abbrev Be : Type := Ca
abbrev JO : Type := Zc
def Jag : List UInt8 := [0, 1, 1, 2, 1, 2, 2, 3, 1, 2, 2, 3, 2, 3, 3, 4, 1, 2, 2, 3, 2, 3, 3, 4, 2, 3, 3, 4, 3, 4, 4, 5, 1, 2, 2, 3, 2, 3, 3, 4, 2, 3, 3, 4, 3, 4, 4, 5, 2, 3, 3, 4, 3, 4, 4, 5, 3, 4, 4, 5, 4, 5, 5, 6, 1, 2, 2, 3, 2, 3, 3, 4, 2, 3, 3, 4, 3, 4, 4, 5, 2, 3, 3, 4, 3, 4, 4, 5, 3, 4, 4, 5, 4, 5, 5, 6, 2, 3, 3, 4, 3, 4, 4, 5, 3, 4, 4, 5, 4, 5, 5, 6, 3, 4, 4, 5, 4, 5, 5, 6, 4, 5, 5, 6, 5, 6, 6, 7, 1, 2, 2, 3, 2, 3, 3, 4, 2, 3, 3, 4, 3, 4, 4, 5, 2, 3, 3, 4, 3, 4, 4, 5, 3, 4, 4, 5, 4, 5, 5, 6, 2, 3, 3, 4, 3, 4, 4, 5, 3, 4, 4, 5, 4, 5, 5, 6, 3, 4, 4, 5, 4, 5, 5, 6, 4, 5, 5, 6, 5, 6, 6, 7, 2, 3, 3, 4, 3, 4, 4, 5, 3, 4, 4, 5, 4, 5, 5, 6, 3, 4, 4, 5, 4, 5, 5, 6, 4, 5, 5, 6, 5, 6, 6, 7, 3, 4, 4, 5, 4, 5, 5, 6, 4, 5, 5, 6, 5, 6, 6, 7, 4, 5, 5, 6, 5, 6, 6, 7, 5, 6, 6, 7, 6, 7, 7, 8]
noncomputable section
open Option renaming bind → ob
open Go.IntKind renaming wrap → wr
open Int renaming toNat → tn
open List renaming length → ln, append → ap, set → ls
open Sum renaming elim → se
open Nat renaming ble → bl
abbrev Gc : Type := Int × Unit
abbrev Wc : Type := Bool × Unit
abbrev Uc : Type := List Int
abbrev Ke : Type := Unit × Unit
abbrev Ae : Type := List Ca
abbrev Je : Type := List Wa
abbrev Sl : Type := List Cb
abbrev Ge : Type := List Ra
abbrev Qh : Type := List Zc
abbrev Th : Type := List Lf
abbrev Rk : Type := List Ka
abbrev Nt : Type := Xb × Unit
abbrev Nh : Type := Ca × Unit
abbrev JF : Type := Pa × Unit
abbrev Zl : Type := Hb × Unit
abbrev K2 : Type := Gc × Unit
abbrev Zj : Type := Unit × Gc
abbrev Cj : Type := List Sl
abbrev OP : Type := Uc × Wa
abbrev Sq : Type := Je × Wa
abbrev Xh : Type := List Qh
abbrev Tq : Type := Uc × Unit
abbrev Qw : Type := Unit × Wa
abbrev Eav : Type := Ae × Wa
abbrev PP : Type := (Uc × (Uc × Gc)) × Unit
abbrev QP : Type := Jd × Unit
abbrev L2 : Type := Ge × Wa
abbrev EX : Type := Rb × Unit
abbrev XR : Type := Qb × Unit
abbrev LF : Type := Ae × Unit
abbrev RP : Type := Ka × Unit
abbrev ED : Type := Ka × RP
abbrev Fav : Type := (Ge × (Unit × (Unit × (Uc × (Int × (Bool × Gc)))))) × ED
abbrev Am : Type := Wc × Unit
abbrev Sk : Type := Ke ⊕ Am
abbrev Rw : Type := K2 ⊕ Ke
abbrev FX : Type := (Ge × (Unit × Zj)) × ED
abbrev SL : Type := Cj × Wa
abbrev E8 : Type := Unit × (Th × Unit)
abbrev NF : Type := K2 ⊕ K2
abbrev YR : Type := Gb × Unit
abbrev ZR : Type := Unit × Zc
abbrev Qaf : Type := (Int × (Int × Zj)) × Nt
abbrev MaK : Type := Int × (Int × (Sl × Wa))
abbrev Sw : Type := Int × Wc
abbrev M2 : Type := Th × Wc
abbrev GX : Type := Rk × Unit
abbrev CU : Type := (Int × L2) × Unit
abbrev TL : Type := Wa × Unit
abbrev OF : Type := Zc × Unit
abbrev CB : Type := Int × Eav
abbrev UL : Type := Cb × Unit
abbrev Raf : Type := Th × Wa
abbrev SP : Type := Xh × Wa
abbrev Gav : Type := Hb × Zl
abbrev N2 : Type := (Unit × LF) × JF
abbrev Q2 : Type := Unit × (Unit × Zj)
abbrev VL : Type := Ae × Gc
abbrev BU : Type := (Ae × VL) × Unit
abbrev Saf : Type := Qb × (Qb × XR)
abbrev Hav : Type := Rk × Wc
abbrev TP : Type := Sq × Unit
abbrev Taf : Type := (Cj × (Cj × Gc)) × Unit
abbrev Uaf : Type := (Xh × (Xh × Gc)) × Unit
abbrev HX : Type := Ke ⊕ K2
abbrev Iav : Type := (Unit × (Unit × LF)) × (Pa × JF)
abbrev NaK : Type := ((Uc × Gc) × Unit) ⊕ Ke
abbrev Vaf : Type := (Je × (Je × Gc)) × Unit
abbrev Waf : Type := (Sl × (Sl × Gc)) × Unit
abbrev Xaf : Type := (Ge × (Ge × Gc)) × Unit
abbrev Yaf : Type := (Qh × (Qh × Gc)) × Unit
abbrev F8 : Type := (Tq × Unit) ⊕ Ke
abbrev Jav : Type := (GX × Unit) ⊕ Ke
abbrev IX : Type := Unit × OP
abbrev OaK : Type := (Je × (Int × (Int × (Unit × (Int × (Int × (Int × (Bool × Eav)))))))) × Nh
abbrev Kav : Type := ((Unit × (Unit × Tq)) × ED) ⊕ Ke
abbrev DU : Type := Qw × JF
abbrev EU : Type := Qh × Wa
abbrev R2 : Type := Rb × EX
abbrev FU : Type := Eav × Unit
abbrev GU : Type := L2 × Unit
abbrev PaK : Type := Fav ⊕ (((Ge × (Unit × (Unit × (Uc × Sw)))) × ED) ⊕ Ke)
abbrev QaK : Type := (Unit × (Unit × (Int × (Unit × VL)))) × (Jd × (Jd × XR))
abbrev Lav : Type := (Unit × E8) × (Gb × YR)
abbrev JX : Type := TZ × Unit
abbrev S2 : Type := Xb × Nt
abbrev HU : Type := Unit × Ke
abbrev Mav : Type := (Unit × (Uc × Cb)) × Nh
abbrev Zaf : Type := (Sl × Wa) × Unit
abbrev Aag : Type := Unit × Cb
abbrev Bag : Type := (Uc × OP) × Unit
abbrev Nay : Type := (Unit × (Th × (Int × ((Rk × Int) × Gc)))) × YR
abbrev Oay : Type := (Unit × (Uc × (Int × (Int × (Int × Cb))))) × Nh
abbrev Pay : Type := (Je × (Unit × (Je × (Int × (Int × Sq))))) × TL
abbrev C8 : Type := (Je × Gc) × Unit
abbrev D8 : Type := Uc × TZ
abbrev Qay : Type := Unit × (Uc × Gc)
abbrev Jk : Gd := (((0, 0, false, ()), (0, 0, 0, 0, 0, [], ()), ([], 0, [], 0, 0, 0, [], ()), (((0, [], ()), [], 0, [], 0, false, ()), (0, 0, 0, ()), [], 0, 0, 0, 0, ()), 0, 0, ()), ([], 0, 0, 0, ()), 0, ())
abbrev Xk : Jd := ((0, 0, false, ()), (0, 0, 0, 0, 0, [], ()), ([], 0, [], 0, 0, 0, [], ()), (((0, [], ()), [], 0, [], 0, false, ()), (0, 0, 0, ()), [], 0, 0, 0, 0, ()), 0, 0, ())
abbrev Jh : Gb := (((0, [], ()), [], 0, [], 0, false, ()), (0, 0, 0, ()), [], 0, 0, 0, 0, ())
abbrev ZK : Hb := ((0, [], ()), [], 0, [], 0, false, ())
abbrev Og : Pa := ([], 0, [], 0, 0, 0, [], ())
def Wx (t0 : Uc) (t3 : Uc) (t4 : Int) : Option (PP ⊕ F8) :=
 (cond (decide (t4 < ((ln t0 : Nat) : Int)))
 (ob (Ya t0 t4) fun x5 =>
 (cond (Af (ln t3) t4)
 (ob t3[(tn t4)]? fun x6 =>
 (some (.inl ((t0, (ls t3 (tn t4) x5), (wr .i64 (t4 + 1)), ()), ()))))
 none))
 (some (.inr (.inl ((t3, ()), ())))))
def UA := Ua fun x : PP => Wx x.1.1 x.1.2.1 x.1.2.2.1
def Xl (a0 : Uc) : Option Tq :=
 (cond ((((ln a0 : Nat) : Int) == ((ln a0 : Nat) : Int)) && (decide (0 ≤ ((ln a0 : Nat) : Int)) && decide (((ln a0 : Nat) : Int) ≤ ((Sa : Nat) : Int))))
 (ob (UA ((a0, (List.replicate (tn ((ln a0 : Nat) : Int)) 0), 0, ()), ())) (se (fun y7 => (some (y7.1.1, ()))) (fun z8 => none)))
 none)
def Rx (t0 : Uc) (t1 : Uc) (t5 : Int) : Option (PP ⊕ Sk) :=
 (cond (decide (t5 < ((ln t0 : Nat) : Int)))
 (ob (Ya t0 t5) fun x5 =>
 (ob (Ya t1 t5) fun x6 =>
 (cond (x5 != x6)
 (some (.inr (.inr ((false, ()), ()))))
 (some (.inl ((t0, t1, (wr .i64 (t5 + 1)), ()), ()))))))
 (some (.inr (.inl ((), ())))))
def TA := Ua fun x : PP => Rx x.1.1 x.1.2.1 x.1.2.2.1
def CE (a0 : Uc) (a1 : Uc) : Option Wc :=
 (cond (((ln a0 : Nat) : Int) != ((ln a1 : Nat) : Int))
 (some (false, ()))
 (ob (TA ((a0, a1, 0, ()), ())) (se (fun y7 => (some (true, ()))) (fun z8 => (some (z8.1.1, ()))))))
def Qr (t0 : Uc) (t1 : Int) (t5 : Int) : Option (JX ⊕ NaK) :=
 (cond (decide (t5 < ((ln t0 : Nat) : Int)))
 (cond (Af (ln t0) t5)
 (ob t0[(tn t5)]? fun x3 =>
 (some (.inl (((ls t0 (tn t5) (wr .u8 t1)), (wr .i64 (t1 + 1)), (wr .i64 (t5 + 1)), ()), ()))))
 none)
 (some (.inr (.inl ((t0, t1, ()), ())))))
def JL := Ua fun x : JX => Qr x.1.1 x.1.2.1 x.1.2.2.1
def EG (a0 : Uc) (a1 : Int) : Option (Uc × Gc) :=
 (ob (JL ((a0, a1, 0, ()), ())) (se (fun y4 => (some (y4.1.1, (y4.1.2.1, ())))) (fun z5 => none)))
def Jr (t0 : Uc) (t1 : Int) (t5 : Int) : Option (JX ⊕ NF) :=
 (cond (decide (t5 < ((ln t0 : Nat) : Int)))
 (ob (Ya t0 t5) fun x3 =>
 (cond (x3 != (wr .u8 t1))
 (some (.inr (.inr (((-1), ()), ()))))
 (some (.inl ((t0, (wr .i64 (t1 + 1)), (wr .i64 (t5 + 1)), ()), ())))))
 (some (.inr (.inl ((t1, ()), ())))))
def FL := Ua fun x : JX => Jr x.1.1 x.1.2.1 x.1.2.2.1
def YO (a0 : Uc) (a1 : Int) : Option Gc :=
 (ob (FL ((a0, a1, 0, ()), ())) (se (fun y4 => (some (y4.1.1, ()))) (fun z5 => (some (z5.1.1, ())))))
def Sb (a0 : Int) (a1 : Int) (a2 : Int) : Option Wc :=
 (cond (decide (a0 ≥ a1))
 (some ((decide (a0 ≤ a2)), ()))
 (some (false, ())))
def CQ (a0 : Uc) (a1 : Int) : Option Gc :=
 (cond (decide ((wr .i64 (a1 - ((ln a0 : Nat) : Int))) < 0))
 (some ((-1), ()))
 (some ((wr .i64 (a1 - ((ln a0 : Nat) : Int))), ())))
def IC (t0 : Uc) (t3 : Uc) (t4 : Int) : Option (PP ⊕ F8) :=
 (cond (decide (t4 < ((ln t0 : Nat) : Int)))
 (ob (Ya t0 t4) fun x5 =>
 (cond (Af (ln t3) t4)
 (ob t3[(tn t4)]? fun x6 =>
 (some (.inl ((t0, (ls t3 (tn t4) x5), (wr .i64 (t4 + 1)), ()), ()))))
 none))
 (some (.inr (.inl ((t3, ()), ())))))
def ME := Ua fun x : PP => IC x.1.1 x.1.2.1 x.1.2.2.1
def DQ (a0 : Uc) : Option Tq :=
 (cond ((((ln a0 : Nat) : Int) == ((ln a0 : Nat) : Int)) && (decide (0 ≤ ((ln a0 : Nat) : Int)) && decide (((ln a0 : Nat) : Int) ≤ ((Sa : Nat) : Int))))
 (ob (ME ((a0, (List.replicate (tn ((ln a0 : Nat) : Int)) 0), 0, ()), ())) (se (fun y7 => (some (y7.1.1, ()))) (fun z8 => none)))
 none)
def IQ (a0 : Ka) : Option RP :=
 (cond (bl (ln ([] : List Int) + ln a0.2.1) Sa)
 (some ((a0.1, (ap [] a0.2.1), ()), ()))
 none)
def Kz (a0 : Uc) : Option Tq :=
 (cond (bl (ln ([] : List Int) + ln a0) Sa)
 (some ((ap [] a0), ()))
 none)
def WB (t0 : Uc) (t1 : Uc) (t5 : Int) : Option (PP ⊕ Sk) :=
 (cond (decide (t5 < ((ln t0 : Nat) : Int)))
 (ob (Ya t0 t5) fun x5 =>
 (ob (Ya t1 t5) fun x6 =>
 (cond (x5 != x6)
 (some (.inr (.inr ((false, ()), ()))))
 (some (.inl ((t0, t1, (wr .i64 (t5 + 1)), ()), ()))))))
 (some (.inr (.inl ((), ())))))
def FE := Ua fun x : PP => WB x.1.1 x.1.2.1 x.1.2.2.1
def FI (a0 : Uc) (a1 : Uc) : Option Wc :=
 (cond (((ln a0 : Nat) : Int) != ((ln a1 : Nat) : Int))
 (some (false, ()))
 (ob (FE ((a0, a1, 0, ()), ())) (se (fun y7 => (some (true, ()))) (fun z8 => (some (z8.1.1, ()))))))
def LJ (a0 : Ka) (a1 : Ka) : Option Wc :=
 (cond (a0.1 != a1.1)
 (some (false, ()))
 (ob (FI a0.2.1 a1.2.1) fun r1 =>
 (cond (!r1.1)
 (some (false, ()))
 (some (true, ())))))
def GI (a0 : Lf) (a1 : Lf) : Option Wc :=
 (cond (a0.1 != a1.1)
 (some (false, ()))
 (ob (LJ a0.2.1 a1.2.1) fun r1 =>
 (cond (!r1.1)
 (some (false, ()))
 (some (true, ())))))
def V6 (t0 : Th) (t1 : Th) (t5 : Int) : Option (((Th × (Th × Gc)) × Unit) ⊕ Sk) :=
 (cond (decide (t5 < ((ln t0 : Nat) : Int)))
 (ob (Ya t0 t5) fun x7 =>
 (ob (Ya t1 t5) fun x8 =>
 (ob (GI x7 x8) fun r9 =>
 (cond (!r9.1)
 (some (.inr (.inr ((false, ()), ()))))
 (some (.inl ((t0, t1, (wr .i64 (t5 + 1)), ()), ())))))))
 (some (.inr (.inl ((), ())))))
def YN := Ua fun x : ((Th × (Th × Gc)) × Unit) => V6 x.1.1 x.1.2.1 x.1.2.2.1
def Uv (a0 : Th) (a1 : Th) : Option Wc :=
 (cond (((ln a0 : Nat) : Int) != ((ln a1 : Nat) : Int))
 (some (false, ()))
 (ob (YN ((a0, a1, 0, ()), ())) (se (fun y10 => (some (true, ()))) (fun z11 => (some (z11.1.1, ()))))))
def Hu (t0 : Uc) (t1 : Int) (t5 : Int) : Option ((OP × Unit) ⊕ NaK) :=
 (cond (decide (t5 < ((ln t0 : Nat) : Int)))
 (cond (Af (ln t0) t5)
 (ob t0[(tn t5)]? fun x3 =>
 (some (.inl (((ls t0 (tn t5) t1), (wr .i64 (t1 + 1)), (wr .i64 (t5 + 1)), ()), ()))))
 none)
 (some (.inr (.inl ((t0, t1, ()), ())))))
def WM := Ua fun x : (OP × Unit) => Hu x.1.1 x.1.2.1 x.1.2.2.1
def PJ (a0 : Uc) (a1 : Int) : Option (Uc × Gc) :=
 (ob (WM ((a0, a1, 0, ()), ())) (se (fun y4 => (some (y4.1.1, (y4.1.2.1, ())))) (fun z5 => none)))
def Ur (t0 : Th) (t1 : Int) (t5 : Int) : Option ((Raf × Unit) ⊕ (((Th × Gc) × Unit) ⊕ Ke)) :=
 (cond (decide (t5 < ((ln t0 : Nat) : Int)))
 (cond (Af (ln t0) t5)
 (ob t0[(tn t5)]? fun x9 =>
 (cond (Af (ln (ls t0 (tn t5) (t1, x9.2))) t5)
 (ob (ls t0 (tn t5) (t1, x9.2))[(tn t5)]? fun x10 =>
 (cond (Af (ln (ls (ls t0 (tn t5) (t1, x9.2)) (tn t5) (x10.1, ((wr .i64 (t1 + 1)), x10.2.1.2), x10.2.2))) t5)
 (ob (ls (ls t0 (tn t5) (t1, x9.2)) (tn t5) (x10.1, ((wr .i64 (t1 + 1)), x10.2.1.2), x10.2.2))[(tn t5)]? fun x11 =>
 (ob (PJ x11.2.1.2.1 (wr .i64 ((wr .i64 (t1 + 1)) + 1))) fun r12 =>
 (some (.inl (((ls (ls (ls t0 (tn t5) (t1, x9.2)) (tn t5) (x10.1, ((wr .i64 (t1 + 1)), x10.2.1.2), x10.2.2)) (tn t5) (x11.1, (x11.2.1.1, r12.1, x11.2.1.2.2), x11.2.2)), r12.2.1, (wr .i64 (t5 + 1)), ()), ())))))
 none))
 none))
 none)
 (some (.inr (.inl ((t0, t1, ()), ())))))
def LL := Ua fun x : (Raf × Unit) => Ur x.1.1 x.1.2.1 x.1.2.2.1
def CP (a0 : Th) (a1 : Int) : Option (Th × Gc) :=
 (ob (LL ((a0, a1, 0, ()), ())) (se (fun y13 => (some (y13.1.1, (y13.1.2.1, ())))) (fun z14 => none)))
def Eu (t0 : Uc) (t1 : Int) (t5 : Int) : Option ((OP × Unit) ⊕ NF) :=
 (cond (decide (t5 < ((ln t0 : Nat) : Int)))
 (ob (Ya t0 t5) fun x3 =>
 (cond (x3 != t1)
 (some (.inr (.inr (((-1), ()), ()))))
 (some (.inl ((t0, (wr .i64 (t1 + 1)), (wr .i64 (t5 + 1)), ()), ())))))
 (some (.inr (.inl ((t1, ()), ())))))
def TM := Ua fun x : (OP × Unit) => Eu x.1.1 x.1.2.1 x.1.2.2.1
def OJ (a0 : Uc) (a1 : Int) : Option Gc :=
 (ob (TM ((a0, a1, 0, ()), ())) (se (fun y4 => (some (y4.1.1, ()))) (fun z5 => (some (z5.1.1, ())))))
def Vv (a0 : Sl) (a1 : Int) : Option Gc :=
 (cond (decide ((wr .i64 (a1 - ((ln a0 : Nat) : Int))) < 0))
 (some ((-1), ()))
 (some ((wr .i64 (a1 - ((ln a0 : Nat) : Int))), ())))
def QZ (t0 : Cj) (t1 : Int) (t5 : Int) : Option ((SL × Unit) ⊕ NF) :=
 (cond (decide (t5 < ((ln t0 : Nat) : Int)))
 (ob (Ya t0 t5) fun x5 =>
 (ob (Vv x5 t1) fun r6 =>
 (cond (decide (r6.1 < 0))
 (some (.inr (.inr (((-1), ()), ()))))
 (some (.inl ((t0, r6.1, (wr .i64 (t5 + 1)), ()), ()))))))
 (some (.inr (.inl ((t1, ()), ())))))
def PI := Ua fun x : (SL × Unit) => QZ x.1.1 x.1.2.1 x.1.2.2.1
def EC (a0 : Cj) (a1 : Int) : Option Gc :=
 (cond (decide ((wr .i64 (a1 - ((ln a0 : Nat) : Int))) < 0))
 (some ((-1), ()))
 (ob (PI ((a0, (wr .i64 (a1 - ((ln a0 : Nat) : Int))), 0, ()), ())) (se (fun y7 => (some (y7.1.1, ()))) (fun z8 => (some (z8.1.1, ()))))))
def TJ (a0 : Xb) (a1 : Int) : Option Gc :=
 (ob (EC a0.2.1 a1) fun r1 =>
 (cond (decide (r1.1 < 0))
 (some ((-1), ()))
 (some (r1.1, ()))))
def Oq (a0 : Cb) : Option UL :=
 (some (a0, ()))
def B1 (t0 : Sl) (t3 : Sl) (t4 : Int) : Option (Waf ⊕ (((Sl × Unit) × Unit) ⊕ Ke)) :=
 (cond (decide (t4 < ((ln t0 : Nat) : Int)))
 (ob (Ya t0 t4) fun x7 =>
 (ob (Oq x7) fun r8 =>
 (cond (Af (ln t3) t4)
 (ob t3[(tn t4)]? fun x9 =>
 (some (.inl ((t0, (ls t3 (tn t4) r8.1), (wr .i64 (t4 + 1)), ()), ()))))
 none)))
 (some (.inr (.inl ((t3, ()), ())))))
def NL := Ua fun x : Waf => B1 x.1.1 x.1.2.1 x.1.2.2.1
def HG (a0 : Sl) : Option (Sl × Unit) :=
 (cond ((((ln a0 : Nat) : Int) == ((ln a0 : Nat) : Int)) && (decide (0 ≤ ((ln a0 : Nat) : Int)) && decide (((ln a0 : Nat) : Int) ≤ ((Sa : Nat) : Int))))
 (ob (NL ((a0, (List.replicate (tn ((ln a0 : Nat) : Int)) (0, 0, 0, 0, ())), 0, ()), ())) (se (fun y10 => (some (y10.1.1, ()))) (fun z11 => none)))
 none)
def RZ (t0 : Cj) (t3 : Cj) (t4 : Int) : Option (Taf ⊕ (((Cj × Unit) × Unit) ⊕ Ke)) :=
 (cond (decide (t4 < ((ln t0 : Nat) : Int)))
 (ob (Ya t0 t4) fun x7 =>
 (ob (HG x7) fun r8 =>
 (cond (Af (ln t3) t4)
 (ob t3[(tn t4)]? fun x9 =>
 (some (.inl ((t0, (ls t3 (tn t4) r8.1), (wr .i64 (t4 + 1)), ()), ()))))
 none)))
 (some (.inr (.inl ((t3, ()), ())))))
def QI := Ua fun x : Taf => RZ x.1.1 x.1.2.1 x.1.2.2.1
def CN (a0 : Cj) : Option (Cj × Unit) :=
 (cond ((((ln a0 : Nat) : Int) == ((ln a0 : Nat) : Int)) && (decide (0 ≤ ((ln a0 : Nat) : Int)) && decide (((ln a0 : Nat) : Int) ≤ ((Sa : Nat) : Int))))
 (ob (QI ((a0, (List.replicate (tn ((ln a0 : Nat) : Int)) []), 0, ()), ())) (se (fun y10 => (some (y10.1.1, ()))) (fun z11 => none)))
 none)
def XJ (a0 : Xb) : Option Nt :=
 (ob (CN a0.2.1) fun r1 =>
 (some ((a0.1, r1.1, ()), ())))
def Nk (a0 : Cb) : Option Wc :=
 (ob (Sb a0.2.1 1 56) fun r1 =>
 (ob (Sb a0.2.2.1 1 15) fun r2 =>
 (ob (Sb a0.2.2.2.1 1 3) fun r3 =>
 (cond (a0.1 == 0)
 (cond (a0.2.1 == 0)
 (cond (a0.2.2.1 == 0)
 (some ((a0.2.2.2.1 == 0), ()))
 (some (false, ())))
 (some (false, ())))
 (cond (a0.1 == 1)
 (cond (a0.2.1 == 0)
 (cond (a0.2.2.1 == 0)
 (some ((a0.2.2.2.1 == 0), ()))
 (some (false, ())))
 (some (false, ())))
 (cond (a0.1 == 10)
 (cond (a0.2.1 == 0)
 (cond (a0.2.2.1 == 0)
 (some ((a0.2.2.2.1 == 0), ()))
 (some (false, ())))
 (some (false, ())))
 (cond (a0.1 == 2)
 (cond (a0.2.2.2.1 == 0)
 (cond r1.1
 (cond r2.1
 (some (true, ()))
 (some ((a0.2.2.1 == 0), ())))
 (cond (a0.2.1 == 0)
 (cond r2.1
 (cond r2.1
 (some (true, ()))
 (some ((a0.2.2.1 == 0), ())))
 (some (false, ())))
 (some (false, ()))))
 (some (false, ())))
 (cond (a0.1 == 3)
 (cond r3.1
 (cond (a0.2.1 == 0)
 (some ((a0.2.2.1 == 0), ()))
 (some (false, ())))
 (some (false, ())))
 (cond (a0.1 == 4)
 (cond r3.1
 (cond (a0.2.1 == 0)
 (some ((a0.2.2.1 == 0), ()))
 (some (false, ())))
 (some (false, ())))
 (cond (a0.1 == 5)
 (ob (Sb a0.2.2.2.1 0 3) fun r4 =>
 (cond r4.1
 (cond (a0.2.1 == 0)
 (some ((a0.2.2.1 == 0), ()))
 (some (false, ())))
 (some (false, ()))))
 (cond (a0.1 == 9)
 (ob (Sb a0.2.2.2.1 0 3) fun r5 =>
 (cond r5.1
 (cond (a0.2.1 == 0)
 (some ((a0.2.2.1 == 0), ()))
 (some (false, ())))
 (some (false, ()))))
 (cond (a0.1 == 6)
 (cond r1.1
 (cond r2.1
 (some ((a0.2.2.2.1 == 0), ()))
 (some (false, ())))
 (some (false, ())))
 (cond (a0.1 == 7)
 (cond r1.1
 (cond r3.1
 (some ((a0.2.2.1 == 0), ()))
 (some (false, ())))
 (some (false, ())))
 (cond (a0.1 == 8)
 (cond r2.1
 (cond (a0.2.1 == 0)
 (some ((a0.2.2.2.1 == 0), ()))
 (some (false, ())))
 (some (false, ())))
 (some (false, ()))))))))))))))))
def PH (t1 : Unit) (t3 : Int) (t4 : Int) (b1 : Xb) : Option ((Qw × Nt) ⊕ ((Zj × Nt) ⊕ Am)) :=
 (ob (Ya b1.2.1 t3) fun x40 =>
 (cond (decide (t4 < ((ln x40 : Nat) : Int)))
 (ob (Ya b1.2.1 t3) fun x41 =>
 (ob (Ya x41 t4) fun x42 =>
 (ob (Nk x42) fun r43 =>
 (cond (!r43.1)
 (some (.inr (.inr ((false, ()), ()))))
 (cond (x42.1 == 1)
 (cond (t3 == 0)
 (some (.inr (.inr ((false, ()), ()))))
 (cond (x42.1 != 9)
 (cond (decide (x42.2.2.2.1 ≥ ((ln b1.2.1 : Nat) : Int)))
 (some (.inr (.inr ((false, ()), ()))))
 (some (.inl (((), t3, (wr .i64 (t4 + 1)), ()), (b1, ())))))
 (some (.inl (((), t3, (wr .i64 (t4 + 1)), ()), (b1, ()))))))
 (cond (x42.1 != 9)
 (cond (decide (x42.2.2.2.1 ≥ ((ln b1.2.1 : Nat) : Int)))
 (some (.inr (.inr ((false, ()), ()))))
 (some (.inl (((), t3, (wr .i64 (t4 + 1)), ()), (b1, ())))))
 (some (.inl (((), t3, (wr .i64 (t4 + 1)), ()), (b1, ()))))))))))
 (some (.inr (.inl (((), t3, ()), (b1, ())))))))
def Bo := Ua fun x : (Qw × Nt) => PH x.1.1 x.1.2.1 x.1.2.2.1 x.2.1
def OH (t1 : Unit) (t3 : Int) (b1 : Xb) : Option ((Zj × Nt) ⊕ ((Ke × Nt) ⊕ Am)) :=
 (cond (decide (t3 < ((ln b1.2.1 : Nat) : Int)))
 (ob (Ya b1.2.1 t3) fun x31 =>
 (cond (((ln x31 : Nat) : Int) != b1.1)
 (some (.inr (.inr ((false, ()), ()))))
 (ob (Bo (((), t3, 0, ()), (b1, ()))) (se (fun y44 => (some (.inl (((), (wr .i64 (y44.1.2.1 + 1)), ()), (y44.2.1, ()))))) (fun z45 => (some (.inr (.inr ((z45.1.1, ()), ())))))))))
 (some (.inr (.inl (((), ()), (b1, ()))))))
def Ao := Ua fun x : (Zj × Nt) => OH x.1.1 x.1.2.1 x.2.1
def Uz (a0 : Xb) : Option Wc :=
 (ob (Ao (((), 0, ()), (a0, ()))) (se (fun y46 => (ob (Sb y46.2.1.1 1 32) fun r48 =>
 (cond r48.1
 (ob (Sb ((ln y46.2.1.2.1 : Nat) : Int) 1 4) fun r49 =>
 (some (r49.1, ())))
 (some (false, ()))))) (fun z47 => (some (z47.1.1, ())))))
def DA (a0 : Int) : Option Wc :=
 (cond (decide (a0 ≥ 1))
 (some ((decide (a0 ≤ 56)), ()))
 (some (false, ())))
def Zs (a0 : Int) : Option Wc :=
 (cond (decide (a0 ≥ 1))
 (some ((decide (a0 ≤ 15)), ()))
 (some (false, ())))
def Nv (a0 : Int) : Option Wc :=
 (cond (decide (a0 ≥ 1))
 (some ((decide (a0 ≤ 3)), ()))
 (some (false, ())))
def Lk (a0 : Cb) : Option Wc :=
 (cond (a0.1 == 0)
 (cond (a0.2.1 == 0)
 (cond (a0.2.2.1 == 0)
 (some ((a0.2.2.2.1 == 0), ()))
 (some (false, ())))
 (some (false, ())))
 (cond (a0.1 == 1)
 (cond (a0.2.1 == 0)
 (cond (a0.2.2.1 == 0)
 (some ((a0.2.2.2.1 == 0), ()))
 (some (false, ())))
 (some (false, ())))
 (cond (a0.1 == 10)
 (cond (a0.2.1 == 0)
 (cond (a0.2.2.1 == 0)
 (some ((a0.2.2.2.1 == 0), ()))
 (some (false, ())))
 (some (false, ())))
 (cond (a0.1 == 2)
 (cond (a0.2.2.2.1 == 0)
 (cond (a0.2.1 == 0)
 (cond (a0.2.2.1 == 0)
 (cond (a0.2.1 != 0)
 (some (true, ()))
 (some ((a0.2.2.1 != 0), ())))
 (ob (Zs a0.2.2.1) fun r1 =>
 (cond r1.1
 (cond (a0.2.1 != 0)
 (some (true, ()))
 (some ((a0.2.2.1 != 0), ())))
 (some (false, ())))))
 (ob (DA a0.2.1) fun r2 =>
 (cond r2.1
 (cond (a0.2.2.1 == 0)
 (cond (a0.2.1 != 0)
 (some (true, ()))
 (some ((a0.2.2.1 != 0), ())))
 (ob (Zs a0.2.2.1) fun r3 =>
 (cond r3.1
 (cond (a0.2.1 != 0)
 (some (true, ()))
 (some ((a0.2.2.1 != 0), ())))
 (some (false, ())))))
 (some (false, ())))))
 (some (false, ())))
 (cond (a0.1 == 3)
 (cond (a0.2.1 == 0)
 (cond (a0.2.2.1 == 0)
 (ob (Nv a0.2.2.2.1) fun r4 =>
 (some (r4.1, ())))
 (some (false, ())))
 (some (false, ())))
 (cond (a0.1 == 4)
 (cond (a0.2.1 == 0)
 (cond (a0.2.2.1 == 0)
 (ob (Nv a0.2.2.2.1) fun r5 =>
 (some (r5.1, ())))
 (some (false, ())))
 (some (false, ())))
 (cond (a0.1 == 5)
 (cond (a0.2.1 == 0)
 (cond (a0.2.2.1 == 0)
 (cond (decide (a0.2.2.2.1 ≥ 0))
 (some ((decide (a0.2.2.2.1 ≤ 3)), ()))
 (some (false, ())))
 (some (false, ())))
 (some (false, ())))
 (cond (a0.1 == 9)
 (cond (a0.2.1 == 0)
 (cond (a0.2.2.1 == 0)
 (cond (decide (a0.2.2.2.1 ≥ 0))
 (some ((decide (a0.2.2.2.1 ≤ 3)), ()))
 (some (false, ())))
 (some (false, ())))
 (some (false, ())))
 (cond (a0.1 == 6)
 (ob (DA a0.2.1) fun r6 =>
 (cond r6.1
 (ob (Zs a0.2.2.1) fun r7 =>
 (cond r7.1
 (some ((a0.2.2.2.1 == 0), ()))
 (some (false, ()))))
 (some (false, ()))))
 (cond (a0.1 == 7)
 (ob (DA a0.2.1) fun r8 =>
 (cond r8.1
 (cond (a0.2.2.1 == 0)
 (ob (Nv a0.2.2.2.1) fun r9 =>
 (some (r9.1, ())))
 (some (false, ())))
 (some (false, ()))))
 (cond (a0.1 == 8)
 (cond (a0.2.1 == 0)
 (ob (Zs a0.2.2.1) fun r10 =>
 (cond r10.1
 (some ((a0.2.2.2.1 == 0), ()))
 (some (false, ()))))
 (some (false, ())))
 (some (false, ())))))))))))))
def DH (t1 : Unit) (t3 : Int) (t28 : Cj) (t29 : Int) (t30 : Int) (t40 : Sl) (t41 : Int) (t42 : Int) (b1 : Xb) : Option (((Unit × (Int × (Cj × MaK))) × Nt) ⊕ (((Unit × SL) × Nt) ⊕ Am)) :=
 (cond (decide (t42 < t41))
 (ob (Ya t40 t42) fun x24 =>
 (ob (Lk x24) fun r25 =>
 (cond (!r25.1)
 (some (.inr (.inr ((false, ()), ()))))
 (cond (t3 == 0)
 (cond (x24.1 == 1)
 (some (.inr (.inr ((false, ()), ()))))
 (cond (x24.1 != 9)
 (cond (decide (x24.2.2.2.1 ≥ ((ln b1.2.1 : Nat) : Int)))
 (some (.inr (.inr ((false, ()), ()))))
 (some (.inl (((), t3, t28, t29, t30, t40, t41, (wr .i64 (t42 + 1)), ()), (b1, ())))))
 (some (.inl (((), t3, t28, t29, t30, t40, t41, (wr .i64 (t42 + 1)), ()), (b1, ()))))))
 (cond (x24.1 != 9)
 (cond (decide (x24.2.2.2.1 ≥ ((ln b1.2.1 : Nat) : Int)))
 (some (.inr (.inr ((false, ()), ()))))
 (some (.inl (((), t3, t28, t29, t30, t40, t41, (wr .i64 (t42 + 1)), ()), (b1, ())))))
 (some (.inl (((), t3, t28, t29, t30, t40, t41, (wr .i64 (t42 + 1)), ()), (b1, ())))))))))
 (some (.inr (.inl (((), t28, t29, t30, ()), (b1, ()))))))
def On := Ua fun x : ((Unit × (Int × (Cj × MaK))) × Nt) => DH x.1.1 x.1.2.1 x.1.2.2.1 x.1.2.2.2.1 x.1.2.2.2.2.1 x.1.2.2.2.2.2.1 x.1.2.2.2.2.2.2.1 x.1.2.2.2.2.2.2.2.1 x.2.1
def BH (t1 : Unit) (t28 : Cj) (t29 : Int) (t30 : Int) (b1 : Xb) : Option (((Unit × SL) × Nt) ⊕ Sk) :=
 (cond (decide (t30 < t29))
 (ob (Ya t28 t30) fun x19 =>
 (cond (((ln x19 : Nat) : Int) != b1.1)
 (some (.inr (.inr ((false, ()), ()))))
 (ob (On (((), t30, t28, t29, t30, x19, ((ln x19 : Nat) : Int), 0, ()), (b1, ()))) (se (fun y26 => (some (.inl (((), y26.1.2.1, y26.1.2.2.1, (wr .i64 (y26.1.2.2.2.1 + 1)), ()), (y26.2.1, ()))))) (fun z27 => (some (.inr (.inr ((z27.1.1, ()), ())))))))))
 (some (.inr (.inl ((), ())))))
def Nn := Ua fun x : ((Unit × SL) × Nt) => BH x.1.1 x.1.2.1 x.1.2.2.1 x.1.2.2.2.1 x.2.1
def Hz (a0 : Xb) : Option Wc :=
 (cond (decide (a0.1 < 1))
 (some (false, ()))
 (cond (decide (a0.1 > 32))
 (some (false, ()))
 (cond (decide (((ln a0.2.1 : Nat) : Int) < 1))
 (some (false, ()))
 (cond (decide (((ln a0.2.1 : Nat) : Int) > 4))
 (some (false, ()))
 (ob (Nn (((), a0.2.1, ((ln a0.2.1 : Nat) : Int), 0, ()), (a0, ()))) (se (fun y28 => (some (true, ()))) (fun z29 => (some (z29.1.1, ())))))))))
def Nq (a0 : Cb) (a1 : Cb) : Option Wc :=
 (cond (a0.1 != a1.1)
 (some (false, ()))
 (cond (a0.2.1 != a1.2.1)
 (some (false, ()))
 (cond (a0.2.2.1 != a1.2.2.1)
 (some (false, ()))
 (cond (a0.2.2.2.1 != a1.2.2.2.1)
 (some (false, ()))
 (some (true, ()))))))
def Z0 (t0 : Sl) (t1 : Sl) (t5 : Int) : Option (Waf ⊕ Sk) :=
 (cond (decide (t5 < ((ln t0 : Nat) : Int)))
 (ob (Ya t0 t5) fun x7 =>
 (ob (Ya t1 t5) fun x8 =>
 (ob (Nq x7 x8) fun r9 =>
 (cond (!r9.1)
 (some (.inr (.inr ((false, ()), ()))))
 (some (.inl ((t0, t1, (wr .i64 (t5 + 1)), ()), ())))))))
 (some (.inr (.inl ((), ())))))
def DL := Ua fun x : Waf => Z0 x.1.1 x.1.2.1 x.1.2.2.1
def Tv (a0 : Sl) (a1 : Sl) : Option Wc :=
 (cond (((ln a0 : Nat) : Int) != ((ln a1 : Nat) : Int))
 (some (false, ()))
 (ob (DL ((a0, a1, 0, ()), ())) (se (fun y10 => (some (true, ()))) (fun z11 => (some (z11.1.1, ()))))))
def PZ (t0 : Cj) (t1 : Cj) (t5 : Int) : Option (Taf ⊕ Sk) :=
 (cond (decide (t5 < ((ln t0 : Nat) : Int)))
 (ob (Ya t0 t5) fun x7 =>
 (ob (Ya t1 t5) fun x8 =>
 (ob (Tv x7 x8) fun r9 =>
 (cond (!r9.1)
 (some (.inr (.inr ((false, ()), ()))))
 (some (.inl ((t0, t1, (wr .i64 (t5 + 1)), ()), ())))))))
 (some (.inr (.inl ((), ())))))
def DI := Ua fun x : Taf => PZ x.1.1 x.1.2.1 x.1.2.2.1
def UB (a0 : Cj) (a1 : Cj) : Option Wc :=
 (cond (((ln a0 : Nat) : Int) != ((ln a1 : Nat) : Int))
 (some (false, ()))
 (ob (DI ((a0, a1, 0, ()), ())) (se (fun y10 => (some (true, ()))) (fun z11 => (some (z11.1.1, ()))))))
def JJ (a0 : Xb) (a1 : Xb) : Option Wc :=
 (cond (a0.1 != a1.1)
 (some (false, ()))
 (ob (UB a0.2.1 a1.2.1) fun r1 =>
 (cond (!r1.1)
 (some (false, ()))
 (some (true, ())))))
def YJ (a0 : Ca) : Option Nh :=
 (some (a0, ()))
def Vz (a0 : Ca) : Option Wc :=
 (ob (Sb a0.1 1 4) fun r1 =>
 (cond r1.1
 (ob (Sb a0.2.1 1 6) fun r2 =>
 (some (r2.1, ())))
 (some (false, ()))))
def Ok (a0 : Ca) : Option Gc :=
 (ob (Vz a0) fun r1 =>
 (cond (!r1.1)
 (some (0, ()))
 (some ((wr .i64 (a0.1 * a0.2.1)), ()))))
def Jo (a0 : Ca) (a1 : Int) : Option Wc :=
 (ob (Vz a0) fun r1 =>
 (cond r1.1
 (ob (Ok a0) fun r2 =>
 (cond (decide (0 ≤ r2.1))
 (ob (Sb a1 0 (wr .i64 ((Qa .i64 1 r2.1) - 1))) fun r3 =>
 (some (r3.1, ())))
 none))
 (some (false, ()))))
def TG (a0 : Ca) (a1 : Int) (a2 : Int) : Option Gc :=
 (cond (decide (0 ≤ (wr .i64 (a2 * a0.2.1))))
 (cond (decide (0 ≤ a0.2.1))
 (some ((Va .i64 (Vb .i64 a1 (wr .i64 (a2 * a0.2.1))) (wr .i64 ((Qa .i64 1 a0.2.1) - 1))), ()))
 none)
 none)
def Uy (t2 : Unit) (t5 : Int) (t6 : Int) (t7 : Int) (t8 : Int) (b2 : Ca) : Option ((Aag × Nh) ⊕ ((ZR × Nh) ⊕ Ke)) :=
 (cond (decide (t8 < b2.1))
 (ob (TG b2 t5 t7) fun r99 =>
 (ob (TG b2 t5 t8) fun r100 =>
 (cond ((Va .i64 r99.1 r100.1) != 0)
 (ob (TG b2 t5 t8) fun r101 =>
 (cond (decide (0 ≤ (wr .i64 (t7 * b2.2.1))))
 (some (.inl (((), (Nc .i64 t5 (Qa .i64 r101.1 (wr .i64 (t7 * b2.2.1)))), t6, t7, (wr .i64 (t8 + 1)), ()), (b2, ()))))
 none))
 (some (.inl (((), t5, t6, t7, (wr .i64 (t8 + 1)), ()), (b2, ())))))))
 (some (.inr (.inl (((), t5, t6, t7, ()), (b2, ()))))))
def BB := Ua fun x : (Aag × Nh) => Uy x.1.1 x.1.2.1 x.1.2.2.1 x.1.2.2.2.1 x.1.2.2.2.2.1 x.2.1
def YC (t2 : Unit) (t5 : Int) (t6 : Int) (t7 : Int) (b2 : Ca) : Option ((ZR × Nh) ⊕ ((Qw × Nh) ⊕ Ke)) :=
 (cond (decide (t7 < b2.1))
 (ob (BB (((), t5, t6, t7, 0, ()), (b2, ()))) (se (fun y102 => (some (.inl (((), y102.1.2.1, y102.1.2.2.1, (wr .i64 (y102.1.2.2.2.1 + 1)), ()), (y102.2.1, ()))))) (fun z103 => (some (.inr (.inr ((), ())))))))
 (some (.inr (.inl (((), t5, t6, ()), (b2, ()))))))
def BF := Ua fun x : (ZR × Nh) => YC x.1.1 x.1.2.1 x.1.2.2.1 x.1.2.2.2.1 x.2.1
def XC (t2 : Unit) (t5 : Int) (t6 : Int) (b2 : Ca) : Option ((Qw × Nh) ⊕ Rw) :=
 (cond (decide (t6 < b2.1))
 (ob (BF (((), t5, t6, 0, ()), (b2, ()))) (se (fun y104 => (some (.inl (((), y104.1.2.1, (wr .i64 (y104.1.2.2.1 + 1)), ()), (y104.2.1, ()))))) (fun z105 => (some (.inr (.inr ((), ())))))))
 (some (.inr (.inl ((t5, ()), ())))))
def AF := Ua fun x : (Qw × Nh) => XC x.1.1 x.1.2.1 x.1.2.2.1 x.2.1
def Jt (a0 : Ca) (a1 : Int) : Option Gc :=
 (cond a0.2.2.1
 (some (a1, ()))
 (ob (AF (((), a1, 0, ()), (a0, ()))) (se (fun y106 => (some (y106.1.1, ()))) (fun z107 => none))))
def RC (a0 : Ca) (a1 : Int) : Option Sw :=
 (ob (Jo a0 a1) fun r1 =>
 (cond (!r1.1)
 (some (0, false, ()))
 (ob (Jt a0 a1) fun r2 =>
 (some (r2.1, true, ())))))
def Po (a0 : Ca) (a1 : Int) : Option Wc :=
 (ob (Jo a0 a1) fun r1 =>
 (cond r1.1
 (ob (Jt a0 a1) fun r2 =>
 (some ((r2.1 == a1), ())))
 (some (false, ()))))
def Cy (a0 : Ca) (a1 : Int) (a2 : Int) : Option Sw :=
 (ob (Po a0 a1) fun r1 =>
 (cond (!r1.1)
 (some (0, false, ()))
 (ob (Ok a0) fun r2 =>
 (ob (Sb a2 0 (wr .i64 (r2.1 - 1))) fun r3 =>
 (cond (!r3.1)
 (some (0, false, ()))
 (cond (decide (0 ≤ a2))
 (cond ((Va .i64 (Vb .i64 a1 a2) 1) == 0)
 (some (0, false, ()))
 (cond (decide (0 ≤ a2))
 (ob (Jt a0 (Mb .i64 a1 (Qa .i64 1 a2))) fun r4 =>
 (cond (r4.1 != a1)
 (some (0, false, ()))
 (some ((Mb .i64 a1 (Qa .i64 1 a2)), true, ()))))
 none))
 none))))))
def Rj (t1 : Int) (t2 : Unit) (t5 : Int) (t6 : Int) (b2 : Ca) : Option (((Int × Qw) × Nh) ⊕ Rw) :=
 (ob (Ok b2) fun r7 =>
 (cond (decide (t6 < r7.1))
 (ob (Po b2 t1) fun r8 =>
 (cond r8.1
 (ob (Cy b2 t1 t6) fun r9 =>
 (cond (decide (0 ≤ t6))
 (cond ((Va .i64 (Vb .i64 t1 t6) 1) == 1)
 (cond (!r9.2.1)
 (cond (decide (0 ≤ t6))
 (some (.inl ((t1, (), (Nc .i64 t5 (Qa .i64 1 t6)), (wr .i64 (t6 + 1)), ()), (b2, ()))))
 none)
 (some (.inl ((t1, (), t5, (wr .i64 (t6 + 1)), ()), (b2, ())))))
 (some (.inl ((t1, (), t5, (wr .i64 (t6 + 1)), ()), (b2, ())))))
 none))
 (some (.inr (.inl ((t5, ()), ()))))))
 (some (.inr (.inl ((t5, ()), ()))))))
def Lm := Ua fun x : ((Int × Qw) × Nh) => Rj x.1.1 x.1.2.1 x.1.2.2.1 x.1.2.2.2.1 x.2.1
def NG (a0 : Ca) (a1 : Int) : Option Gc :=
 (ob (Lm ((a1, (), 0, 0, ()), (a0, ()))) (se (fun y10 => (some (y10.1.1, ()))) (fun z11 => none)))
def Yr (a0 : Ca) (a1 : Int) (a2 : Int) : Option Sw :=
 (ob (Jo a0 a1) fun r1 =>
 (cond (!r1.1)
 (some (0, false, ()))
 (ob (Po a0 a2) fun r2 =>
 (cond (!r2.1)
 (some (0, false, ()))
 (ob (NG a0 a2) fun r3 =>
 (some ((Va .i64 a2 (Nc .i64 a1 r3.1)), true, ())))))))
def Mq (a0 : Ca) : Option Wc :=
 (cond (decide (a0.1 ≥ 1))
 (cond (decide (a0.1 ≤ 4))
 (cond (decide (a0.2.1 ≥ 1))
 (some ((decide (a0.2.1 ≤ 6)), ()))
 (some (false, ())))
 (some (false, ())))
 (some (false, ())))
def Fj (a0 : Ca) : Option Gc :=
 (ob (Mq a0) fun r1 =>
 (cond (!r1.1)
 (some (0, ()))
 (some ((wr .i64 (a0.1 * a0.2.1)), ()))))
def Fo (a0 : Ca) (a1 : Int) : Option Wc :=
 (ob (Mq a0) fun r1 =>
 (cond r1.1
 (cond (decide (a1 ≥ 0))
 (ob (Fj a0) fun r2 =>
 (cond (decide (0 ≤ r2.1))
 (some ((decide (a1 < (Qa .i64 1 r2.1))), ()))
 none))
 (some (false, ())))
 (some (false, ()))))
def EJ (t1 : Int) (t2 : Unit) (t5 : Uc) (t15 : Int) (t16 : Int) (b2 : Ca) : Option (((Int × IX) × Nh) ⊕ (((Unit × Tq) × Nh) ⊕ Ke)) :=
 (cond (decide (t16 < t15))
 (cond (decide (0 ≤ (wr .i64 (t16 * b2.2.1))))
 (cond (decide (0 ≤ b2.2.1))
 (cond (Nat.beq 4 (ln t5))
 (cond (Af (ln t5) t16)
 (ob t5[(tn t16)]? fun x3 =>
 (some (.inl ((t1, (), (ls t5 (tn t16) (Va .i64 (Vb .i64 t1 (wr .i64 (t16 * b2.2.1))) (wr .i64 ((Qa .i64 1 b2.2.1) - 1)))), t15, (wr .i64 (t16 + 1)), ()), (b2, ())))))
 none)
 none)
 none)
 none)
 (some (.inr (.inl (((), t5, ()), (b2, ()))))))
def NK := Ua fun x : ((Int × IX) × Nh) => EJ x.1.1 x.1.2.1 x.1.2.2.1 x.1.2.2.2.1 x.1.2.2.2.2.1 x.2.1
def VF (t2 : Unit) (t5 : Uc) (t7 : Int) (t34 : Int) (t35 : Int) (t38 : Int) (t39 : Int) (t43 : Int) (t44 : Int) (b2 : Ca) : Option (Oay ⊕ (Mav ⊕ Ke)) :=
 (cond (decide (t44 < t43))
 (cond (Nat.beq 4 (ln t5))
 (cond (Af (ln t5) t7)
 (ob t5[(tn t7)]? fun x156 =>
 (cond (Nat.beq 4 (ln t5))
 (cond (Af (ln t5) t44)
 (ob t5[(tn t44)]? fun x157 =>
 (cond ((Va .i64 x156 x157) != 0)
 (cond (Nat.beq 4 (ln t5))
 (cond (Af (ln t5) t7)
 (ob t5[(tn t7)]? fun x158 =>
 (cond (Nat.beq 4 (ln t5))
 (cond (Af (ln t5) t44)
 (ob t5[(tn t44)]? fun x159 =>
 (cond (Nat.beq 4 (ln t5))
 (cond (Af (ln t5) t7)
 (ob t5[(tn t7)]? fun x160 =>
 (some (.inl (((), (ls t5 (tn t7) (Nc .i64 x158 x159)), t7, t34, t35, t38, t39, t43, (wr .i64 (t44 + 1)), ()), (b2, ())))))
 none)
 none))
 none)
 none))
 none)
 none)
 (some (.inl (((), t5, t7, t34, t35, t38, t39, t43, (wr .i64 (t44 + 1)), ()), (b2, ()))))))
 none)
 none))
 none)
 none)
 (some (.inr (.inl (((), t5, t34, t35, t38, t39, ()), (b2, ()))))))
def JH := Ua fun x : Oay => VF x.1.1 x.1.2.1 x.1.2.2.1 x.1.2.2.2.1 x.1.2.2.2.2.1 x.1.2.2.2.2.2.1 x.1.2.2.2.2.2.2.1 x.1.2.2.2.2.2.2.2.1 x.1.2.2.2.2.2.2.2.2.1 x.2.1
def UF (t2 : Unit) (t5 : Uc) (t34 : Int) (t35 : Int) (t38 : Int) (t39 : Int) (b2 : Ca) : Option (Mav ⊕ ((IX × Nh) ⊕ Ke)) :=
 (cond (decide (t39 < t38))
 (ob (JH (((), t5, t39, t34, t35, t38, t39, b2.1, 0, ()), (b2, ()))) (se (fun y161 => (some (.inl (((), y161.1.2.1, y161.1.2.2.1, y161.1.2.2.2.1, y161.1.2.2.2.2.1, (wr .i64 (y161.1.2.2.2.2.2.1 + 1)), ()), (y161.2.1, ()))))) (fun z162 => (some (.inr (.inr ((), ())))))))
 (some (.inr (.inl (((), t5, t34, t35, ()), (b2, ()))))))
def HH := Ua fun x : Mav => UF x.1.1 x.1.2.1 x.1.2.2.1 x.1.2.2.2.1 x.1.2.2.2.2.1 x.1.2.2.2.2.2.1 x.2.1
def TF (t2 : Unit) (t5 : Uc) (t34 : Int) (t35 : Int) (b2 : Ca) : Option ((IX × Nh) ⊕ (((Unit × Tq) × Nh) ⊕ Ke)) :=
 (cond (decide (t35 < t34))
 (ob (HH (((), t5, t34, t35, b2.1, 0, ()), (b2, ()))) (se (fun y163 => (some (.inl (((), y163.1.2.1, y163.1.2.2.1, (wr .i64 (y163.1.2.2.2.1 + 1)), ()), (y163.2.1, ()))))) (fun z164 => (some (.inr (.inr ((), ())))))))
 (some (.inr (.inl (((), t5, ()), (b2, ()))))))
def GH := Ua fun x : (IX × Nh) => TF x.1.1 x.1.2.1 x.1.2.2.1 x.1.2.2.2.1 x.2.1
def XF (t2 : Unit) (t5 : Uc) (t9 : Int) (t67 : Int) (t68 : Int) (b2 : Ca) : Option (((Unit × (Uc × Zc)) × Nh) ⊕ Rw) :=
 (cond (decide (t68 < t67))
 (cond (Nat.beq 4 (ln t5))
 (cond (Af (ln t5) t68)
 (ob t5[(tn t68)]? fun x169 =>
 (cond (decide (0 ≤ (wr .i64 (t68 * b2.2.1))))
 (some (.inl (((), t5, (Nc .i64 t9 (Qa .i64 x169 (wr .i64 (t68 * b2.2.1)))), t67, (wr .i64 (t68 + 1)), ()), (b2, ()))))
 none))
 none)
 none)
 (some (.inr (.inl ((t9, ()), ())))))
def KH := Ua fun x : ((Unit × (Uc × Zc)) × Nh) => XF x.1.1 x.1.2.1 x.1.2.2.1 x.1.2.2.2.1 x.1.2.2.2.2.1 x.2.1
def ZD (a0 : Ca) (a1 : Int) : Option Gc :=
 (cond a0.2.2.1
 (some (a1, ()))
 (ob (NK ((a1, (), (List.replicate 4 0), a0.1, 0, ()), (a0, ()))) (se (fun y4 => (ob (GH (((), y4.1.2.1, y4.2.1.1, 0, ()), (y4.2.1, ()))) (se (fun y165 => (ob (KH (((), y165.1.2.1, 0, y165.2.1.1, 0, ()), (y165.2.1, ()))) (se (fun y170 => (some (y170.1.1, ()))) (fun z171 => none)))) (fun z166 => none)))) (fun z5 => none))))
def Lo (a0 : Ca) (a1 : Int) : Option Wc :=
 (ob (Fo a0 a1) fun r1 =>
 (cond r1.1
 (ob (ZD a0 a1) fun r2 =>
 (some ((r2.1 == a1), ())))
 (some (false, ()))))
def Ax (a0 : Ca) (a1 : Int) (a2 : Int) : Option Sw :=
 (ob (Lo a0 a1) fun r1 =>
 (cond (!r1.1)
 (some (0, false, ()))
 (cond (decide (a2 < 0))
 (some (0, false, ()))
 (ob (Fj a0) fun r2 =>
 (cond (decide (a2 ≥ r2.1))
 (some (0, false, ()))
 (cond (decide (0 ≤ a2))
 (cond ((Va .i64 (Vb .i64 a1 a2) 1) == 0)
 (some (0, false, ()))
 (cond (decide (0 ≤ a2))
 (ob (ZD a0 (Mb .i64 a1 (Qa .i64 1 a2))) fun r3 =>
 (cond (r3.1 != a1)
 (some (0, false, ()))
 (some ((Mb .i64 a1 (Qa .i64 1 a2)), true, ()))))
 none))
 none))))))
def Wq (t1 : Int) (t2 : Unit) (t5 : Int) (t14 : Int) (t15 : Int) (b2 : Ca) : Option (((Int × ZR) × Nh) ⊕ Rw) :=
 (cond (decide (t15 < t14))
 (cond (decide (0 ≤ t15))
 (cond ((Va .i64 (Vb .i64 t1 t15) 1) == 1)
 (ob (Ax b2 t1 t15) fun r5 =>
 (cond (!r5.2.1)
 (cond (decide (0 ≤ t15))
 (some (.inl ((t1, (), (Nc .i64 t5 (Qa .i64 1 t15)), t14, (wr .i64 (t15 + 1)), ()), (b2, ()))))
 none)
 (some (.inl ((t1, (), t5, t14, (wr .i64 (t15 + 1)), ()), (b2, ()))))))
 (some (.inl ((t1, (), t5, t14, (wr .i64 (t15 + 1)), ()), (b2, ())))))
 none)
 (some (.inr (.inl ((t5, ()), ())))))
def Gv := Ua fun x : ((Int × ZR) × Nh) => Wq x.1.1 x.1.2.1 x.1.2.2.1 x.1.2.2.2.1 x.1.2.2.2.2.1 x.2.1
def QF (a0 : Ca) (a1 : Int) : Option Gc :=
 (ob (Lo a0 a1) fun r1 =>
 (cond (!r1.1)
 (some (0, ()))
 (ob (Fj a0) fun r2 =>
 (ob (Gv ((a1, (), 0, r2.1, 0, ()), (a0, ()))) (se (fun y6 => (some (y6.1.1, ()))) (fun z7 => none))))))
def Vq (a0 : Ca) (a1 : Int) (a2 : Int) : Option Sw :=
 (ob (Fo a0 a1) fun r1 =>
 (cond (!r1.1)
 (some (0, false, ()))
 (ob (Lo a0 a2) fun r2 =>
 (cond (!r2.1)
 (some (0, false, ()))
 (ob (QF a0 a2) fun r3 =>
 (some ((Va .i64 a2 (Nc .i64 a1 r3.1)), true, ())))))))
def Fl (a0 : Cb) : Option Wc :=
 (ob (Nk a0) fun r1 =>
 (cond r1.1
 (cond (a0.1 == 6)
 (some (true, ()))
 (some ((a0.1 == 7), ())))
 (some (false, ()))))
def HS (a0 : Cb) : Option UL :=
 (ob (Fl a0) fun r1 =>
 (cond (!r1.1)
 (some (a0, ()))
 (some ((2, a0.2.1, 0, 0, ()), ()))))
def Mo (a0 : Cb) : Option Wc :=
 (ob (Lk a0) fun r1 =>
 (cond r1.1
 (cond (a0.1 == 6)
 (some (true, ()))
 (some ((a0.1 == 7), ())))
 (some (false, ()))))
def DS (a0 : Cb) : Option UL :=
 (ob (Mo a0) fun r1 =>
 (cond (!r1.1)
 (some (a0, ()))
 (some ((2, a0.2.1, 0, 0, ()), ()))))
def Mp (t2 : Unit) (t3 : Unit) (t10 : Cj) (t11 : Int) (t12 : Int) (b2 : Xb) (b3 : Xb) : Option (((Unit × (Unit × SL)) × S2) ⊕ ((HU × S2) ⊕ Ke)) :=
 (cond (decide (t12 < t11))
 (ob (Ya t10 t12) fun x4 =>
 (cond (bl (ln ([] : List Cb) + ln x4) Sa)
 (cond (bl (ln b3.2.1 + ln ([(ap [] x4)] : List Sl)) Sa)
 (some (.inl (((), (), t10, t11, (wr .i64 (t12 + 1)), ()), (b2, (b3.1, (ap b3.2.1 ([(ap [] x4)] : List Sl)), ()), ()))))
 none)
 none))
 (some (.inr (.inl (((), (), ()), (b2, b3, ()))))))
def Xs := Ua fun x : ((Unit × (Unit × SL)) × S2) => Mp x.1.1 x.1.2.1 x.1.2.2.1 x.1.2.2.2.1 x.1.2.2.2.2.1 x.2.1 x.2.2.1
def OB (a0 : Xb) : Option Nt :=
 (ob (Xs (((), (), a0.2.1, ((ln a0.2.1 : Nat) : Int), 0, ()), ((0, [], ()), (a0.1, [], ()), ()))) (se (fun y5 => (some (y5.2.2.1, ()))) (fun z6 => none)))
def Np (t3 : Xh) (t6 : Xh) (t7 : Int) (t8 : Int) : Option (((Xh × SP) × Unit) ⊕ (((Xh × Unit) × Unit) ⊕ Ke)) :=
 (cond (decide (t8 < t7))
 (ob (Ya t6 t8) fun x4 =>
 (cond (bl (ln ([] : List Zc) + ln x4) Sa)
 (cond (bl (ln t3 + ln ([(ap [] x4)] : List Qh)) Sa)
 (some (.inl (((ap t3 ([(ap [] x4)] : List Qh)), t6, t7, (wr .i64 (t8 + 1)), ()), ())))
 none)
 none))
 (some (.inr (.inl ((t3, ()), ())))))
def Ys := Ua fun x : ((Xh × SP) × Unit) => Np x.1.1 x.1.2.1 x.1.2.2.1 x.1.2.2.2.1
def PB (a0 : Xh) : Option (Xh × Unit) :=
 (ob (Ys (([], a0, ((ln a0 : Nat) : Int), 0, ()), ())) (se (fun y5 => (some (y5.1.1, ()))) (fun z6 => none)))
def Xe (a0 : Int) (a1 : Int) : Option Gc :=
 (cond (decide (0 ≤ a1))
 (some ((Va .i64 (Vb .i64 a0 a1) 1), ()))
 none)
def HB (t3 : Int) (t6 : Ge) (t7 : Int) (t8 : Int) : Option (CU ⊕ Sk) :=
 (cond (decide (t8 < t7))
 (ob (Ya t6 t8) fun x7 =>
 (cond (decide (x7.1 < 0))
 (some (.inr (.inr ((false, ()), ()))))
 (cond (decide (x7.1 > 31))
 (some (.inr (.inr ((false, ()), ()))))
 (ob (Xe t3 x7.1) fun r8 =>
 (cond (r8.1 == 1)
 (some (.inr (.inr ((false, ()), ()))))
 (ob (Lk x7.2.1) fun r9 =>
 (cond (!r9.1)
 (some (.inr (.inr ((false, ()), ()))))
 (cond (x7.2.1.1 == 1)
 (some (.inr (.inr ((false, ()), ()))))
 (cond (x7.2.1.1 == 6)
 (some (.inr (.inr ((false, ()), ()))))
 (cond (x7.2.1.1 == 7)
 (some (.inr (.inr ((false, ()), ()))))
 (cond (decide (0 ≤ x7.1))
 (some (.inl (((Nc .i64 t3 (Qa .i64 1 x7.1)), t6, t7, (wr .i64 (t8 + 1)), ()), ())))
 none)))))))))))
 (some (.inr (.inl ((), ())))))
def QD := Ua fun x : CU => HB x.1.1 x.1.2.1 x.1.2.2.1 x.1.2.2.2.1
def Ll (a0 : Ge) : Option Wc :=
 (ob (QD ((0, a0, ((ln a0 : Nat) : Int), 0, ()), ())) (se (fun y10 => (some (true, ()))) (fun z11 => (some (z11.1.1, ())))))
def SB (t3 : Unit) (t7 : Je) (t8 : Int) (t9 : Int) (b3 : Wa) : Option (((Unit × Sq) × TL) ⊕ HX) :=
 (cond (decide (t9 < t8))
 (ob (Ya t7 t9) fun x3 =>
 (cond (EB Zb x3 b3)
 (some (.inr (.inr ((t9, ()), ()))))
 (some (.inl (((), t7, t8, (wr .i64 (t9 + 1)), ()), (b3, ()))))))
 (some (.inr (.inl ((), ())))))
def YD := Ua fun x : ((Unit × Sq) × TL) => SB x.1.1 x.1.2.1 x.1.2.2.1 x.1.2.2.2.1 x.2.1
def BI (a0 : Je) (a1 : Wa) : Option Gc :=
 (ob (YD (((), a0, ((ln a0 : Nat) : Int), 0, ()), (a1, ()))) (se (fun y4 => (some ((-1), ()))) (fun z5 => (some (z5.1.1, ())))))
def Wo (t3 : Je) (t11 : Qh) (t12 : Int) (t13 : Int) : Option (((Je × EU) × Unit) ⊕ (((Je × Unit) × Unit) ⊕ Am)) :=
 (cond (decide (t13 < t12))
 (ob (Ya t11 t13) fun x10 =>
 (ob (BI t3 x10.2) fun r11 =>
 (ob (Lk (2, x10.2.1, x10.2.2.1, 0, ())) fun r12 =>
 (cond (!r12.1)
 (some (.inr (.inr ((false, ()), ()))))
 (cond (x10.1 == 0)
 (cond (decide (r11.1 ≥ 0))
 (some (.inr (.inr ((false, ()), ()))))
 (cond (x10.1 == 1)
 (cond (bl (ln t3 + ln ([x10.2] : List Wa)) Sa)
 (some (.inl (((ap t3 ([x10.2] : List Wa)), t11, t12, (wr .i64 (t13 + 1)), ()), ())))
 none)
 (some (.inl ((t3, t11, t12, (wr .i64 (t13 + 1)), ()), ())))))
 (cond (x10.1 == 1)
 (cond (decide (r11.1 ≥ 0))
 (some (.inr (.inr ((false, ()), ()))))
 (cond (x10.1 == 1)
 (cond (bl (ln t3 + ln ([x10.2] : List Wa)) Sa)
 (some (.inl (((ap t3 ([x10.2] : List Wa)), t11, t12, (wr .i64 (t13 + 1)), ()), ())))
 none)
 (some (.inl ((t3, t11, t12, (wr .i64 (t13 + 1)), ()), ())))))
 (cond (x10.1 == 2)
 (cond (decide (r11.1 < 0))
 (some (.inr (.inr ((false, ()), ()))))
 (cond (Ld (ln t3) 0 r11.1)
 (cond (Ld (ln t3) (wr .i64 (r11.1 + 1)) ((ln t3 : Nat) : Int))
 (cond (bl (ln (Eb t3 (tn 0) (tn r11.1)) + ln (Eb t3 (tn (wr .i64 (r11.1 + 1))) (tn ((ln t3 : Nat) : Int)))) Sa)
 (some (.inl (((ap (Eb t3 (tn 0) (tn r11.1)) (Eb t3 (tn (wr .i64 (r11.1 + 1))) (tn ((ln t3 : Nat) : Int)))), t11, t12, (wr .i64 (t13 + 1)), ()), ())))
 none)
 none)
 none))
 (some (.inr (.inr ((false, ()), ())))))))))))
 (some (.inr (.inl ((t3, ()), ())))))
def PA := Ua fun x : ((Je × EU) × Unit) => Wo x.1.1 x.1.2.1 x.1.2.2.1 x.1.2.2.2.1
def RD (a0 : Qh) : Option Wc :=
 (cond (decide (((ln a0 : Nat) : Int) > 8))
 (some (false, ()))
 (ob (PA (([], a0, ((ln a0 : Nat) : Int), 0, ()), ())) (se (fun y13 => (some ((((ln y13.1.1 : Nat) : Int) == 0), ()))) (fun z14 => (some (z14.1.1, ()))))))
def Vt (t1 : Unit) (t35 : Xh) (t36 : Int) (t37 : Int) (b1 : Hb) : Option (((Unit × SP) × Zl) ⊕ ((Ke × Zl) ⊕ Am)) :=
 (cond (decide (t37 < t36))
 (ob (Ya t35 t37) fun x7 =>
 (ob (RD x7) fun r8 =>
 (cond (!r8.1)
 (some (.inr (.inr ((false, ()), ()))))
 (some (.inl (((), t35, t36, (wr .i64 (t37 + 1)), ()), (b1, ())))))))
 (some (.inr (.inl (((), ()), (b1, ()))))))
def Mn := Ua fun x : ((Unit × SP) × Zl) => Vt x.1.1 x.1.2.1 x.1.2.2.1 x.1.2.2.2.1 x.2.1
def Ar (t1 : Unit) (t5 : Int) (t50 : Ge) (t51 : Int) (t52 : Int) (b1 : Hb) : Option (((Unit × (Int × L2)) × Zl) ⊕ ((Zj × Zl) ⊕ Am)) :=
 (cond (decide (t52 < t51))
 (ob (Ya t50 t52) fun x13 =>
 (cond (decide (x13.1 ≥ b1.1.1))
 (some (.inr (.inr ((false, ()), ()))))
 (cond (x13.2.1.1 != 9)
 (cond (decide (x13.2.1.2.2.2.1 ≥ t5))
 (some (.inr (.inr ((false, ()), ()))))
 (some (.inl (((), t5, t50, t51, (wr .i64 (t52 + 1)), ()), (b1, ())))))
 (some (.inl (((), t5, t50, t51, (wr .i64 (t52 + 1)), ()), (b1, ())))))))
 (some (.inr (.inl (((), t5, ()), (b1, ()))))))
def Em := Ua fun x : ((Unit × (Int × L2)) × Zl) => Ar x.1.1 x.1.2.1 x.1.2.2.1 x.1.2.2.2.1 x.1.2.2.2.2.1 x.2.1
def CJ (a0 : Hb) : Option Wc :=
 (ob (Hz a0.1) fun r1 =>
 (cond (!r1.1)
 (some (false, ()))
 (cond (decide (((ln a0.2.1 : Nat) : Int) > 4))
 (some (false, ()))
 (ob (Ll a0.2.2.2.1) fun r2 =>
 (cond (!r2.1)
 (some (false, ()))
 (cond (decide (a0.2.2.2.2.1 < 0))
 (some (false, ()))
 (cond (decide (a0.2.2.2.2.1 > 15))
 (some (false, ()))
 (ob (Mn (((), a0.2.1, ((ln a0.2.1 : Nat) : Int), 0, ()), (a0, ()))) (se (fun y9 => (ob (Em (((), ((ln y9.2.1.1.2.1 : Nat) : Int), y9.2.1.2.2.2.1, ((ln y9.2.1.2.2.2.1 : Nat) : Int), 0, ()), (y9.2.1, ()))) (se (fun y14 => (cond (decide (y14.2.1.2.2.1 ≥ 0))
 (cond ((2 : Int) == 0)
 none
 (cond ((Int.tmod y14.2.1.2.2.1 2) == 0)
 (cond (decide (0 ≤ y14.1.2.1))
 (some ((decide (y14.2.1.2.2.1 < (Qa .i64 1 y14.1.2.1))), ()))
 none)
 (some (false, ()))))
 (some (false, ())))) (fun z15 => (some (z15.1.1, ())))))) (fun z10 => (some (z10.1.1, ()))))))))))))
def Gm (a0 : Hb) : Option Zl :=
 (ob (OB a0.1) fun r1 =>
 (ob (PB a0.2.1) fun r2 =>
 (cond (bl (ln ([] : List Ra) + ln a0.2.2.2.1) Sa)
 (some ((r1.1, r2.1, a0.2.2.1, (ap [] a0.2.2.2.1), a0.2.2.2.2), ()))
 none)))
def Iz (a0 : Zc) : Option Wc :=
 (cond (decide (a0.1 ≥ 1))
 (cond (decide (a0.1 ≤ 1000))
 (cond (decide (a0.2.1 ≥ 0))
 (cond (decide (a0.2.1 ≤ 1000))
 (cond (decide (a0.2.2.1 ≥ 0))
 (some ((decide (a0.2.2.1 ≤ 2)), ()))
 (some (false, ())))
 (some (false, ())))
 (some (false, ())))
 (some (false, ())))
 (some (false, ())))
def Yt (t3 : Int) (t6 : Ge) (t7 : Int) (t8 : Int) : Option (CU ⊕ Rw) :=
 (cond (decide (t8 < t7))
 (ob (Ya t6 t8) fun x3 =>
 (cond (decide (0 ≤ x3.1))
 (some (.inl (((Nc .i64 t3 (Qa .i64 1 x3.1)), t6, t7, (wr .i64 (t8 + 1)), ()), ())))
 none))
 (some (.inr (.inl ((t3, ()), ())))))
def Nx := Ua fun x : CU => Yt x.1.1 x.1.2.1 x.1.2.2.1 x.1.2.2.2.1
def Sm (a0 : Ge) : Option Gc :=
 (ob (Nx ((0, a0, ((ln a0 : Nat) : Int), 0, ()), ())) (se (fun y4 => (some (y4.1.1, ()))) (fun z5 => none)))
def Jv (a0 : Ca) : Option Wc :=
 (cond (decide (a0.1 ≥ 0))
 (cond (decide (a0.1 ≤ 1000000))
 (cond (decide (a0.2.1 ≥ 0))
 (some ((decide (a0.2.1 ≤ 31)), ()))
 (some (false, ())))
 (some (false, ())))
 (some (false, ())))
def QB (t0 : Ae) (t1 : Int) (t11 : Ae) (t12 : Int) (t13 : Int) : Option (((Ae × CB) × Unit) ⊕ (K2 ⊕ (Sw × Unit))) :=
 (cond (decide (t13 < t12))
 (ob (Ya t11 t13) fun x11 =>
 (ob (Jv x11) fun r12 =>
 (cond (!r12.1)
 (some (.inr (.inr ((0, false, ()), ()))))
 (cond (decide (t13 > 0))
 (ob (Ya t0 (wr .i64 (t13 - 1))) fun x13 =>
 (cond (decide (x13.1 > x11.1))
 (some (.inr (.inr ((0, false, ()), ()))))
 (ob (Xe t1 x11.2.1) fun r14 =>
 (cond (x11.2.2.1 == (r14.1 == 1))
 (some (.inr (.inr ((0, false, ()), ()))))
 (cond (decide (0 ≤ x11.2.1))
 (some (.inl ((t0, (Za .i64 t1 (Qa .i64 1 x11.2.1)), t11, t12, (wr .i64 (t13 + 1)), ()), ())))
 none)))))
 (ob (Xe t1 x11.2.1) fun r15 =>
 (cond (x11.2.2.1 == (r15.1 == 1))
 (some (.inr (.inr ((0, false, ()), ()))))
 (cond (decide (0 ≤ x11.2.1))
 (some (.inl ((t0, (Za .i64 t1 (Qa .i64 1 x11.2.1)), t11, t12, (wr .i64 (t13 + 1)), ()), ())))
 none)))))))
 (some (.inr (.inl ((t1, ()), ())))))
def VD := Ua fun x : ((Ae × CB) × Unit) => QB x.1.1 x.1.2.1 x.1.2.2.1 x.1.2.2.2.1 x.1.2.2.2.2.1
def AQ (a0 : Ae) (a1 : Int) : Option Sw :=
 (cond (decide (((ln a0 : Nat) : Int) > 64))
 (some (0, false, ()))
 (ob (VD ((a0, a1, a0, ((ln a0 : Nat) : Int), 0, ()), ())) (se (fun y16 => (some (y16.1.1, true, ()))) (fun z17 => (some z17.1)))))
def Gr (t0 : Ae) (t1 : Int) (t2 : Int) (t11 : Ae) (t12 : Int) (t13 : Int) : Option (((Ae × (Int × CB)) × Unit) ⊕ ((VL × Unit) ⊕ Am)) :=
 (cond (decide (t13 < t12))
 (ob (Ya t11 t13) fun x3 =>
 (cond (decide (x3.2.1 ≥ t2))
 (some (.inr (.inr ((false, ()), ()))))
 (some (.inl ((t0, t1, t2, t11, t12, (wr .i64 (t13 + 1)), ()), ())))))
 (some (.inr (.inl ((t0, t1, ()), ())))))
def Qv := Ua fun x : ((Ae × (Int × CB)) × Unit) => Gr x.1.1 x.1.2.1 x.1.2.2.1 x.1.2.2.2.1 x.1.2.2.2.2.1 x.1.2.2.2.2.2.1
def Ii (a0 : Ae) (a1 : Int) (a2 : Int) : Option Wc :=
 (ob (Qv ((a0, a1, a2, a0, ((ln a0 : Nat) : Int), 0, ()), ())) (se (fun y4 => (ob (AQ y4.1.1 y4.1.2.1) fun r6 =>
 (some (r6.2.1, ())))) (fun z5 => (some (z5.1.1, ())))))
def Gi (a0 : Ae) (a1 : Int) : Option Wc :=
 (cond (((ln a0 : Nat) : Int) == 0)
 (some (true, ()))
 (ob (Ya a0 (wr .i64 (((ln a0 : Nat) : Int) - 1))) fun x1 =>
 (some ((decide (x1.1 ≤ a1)), ()))))
def Iv (a0 : Gb) : Option Wc :=
 (ob (CJ a0.1) fun r1 =>
 (cond (!r1.1)
 (some (false, ()))
 (ob (Iz a0.2.1) fun r2 =>
 (cond (!r2.1)
 (some (false, ()))
 (cond (decide (a0.2.2.2.1 < 0))
 (some (false, ()))
 (cond (decide (a0.2.2.2.1 > 1000000))
 (some (false, ()))
 (cond (decide (a0.2.2.2.2.1 < 0))
 (some (false, ()))
 (cond (decide (a0.2.2.2.2.1 > a0.2.2.2.1))
 (some (false, ()))
 (ob (Sm a0.1.2.2.2.1) fun r3 =>
 (ob (Ii a0.2.2.1 r3.1 a0.1.1.1) fun r4 =>
 (cond (!r4.1)
 (some (false, ()))
 (ob (Gi a0.2.2.1 a0.2.2.2.1) fun r5 =>
 (cond (!r5.1)
 (some (false, ()))
 (cond (decide (a0.2.2.2.2.2.1 ≥ 0))
 (cond (decide (a0.2.2.2.2.2.1 ≤ a0.1.1.1))
 (cond (decide (a0.2.2.2.2.2.2.1 ≥ 0))
 (some ((decide (a0.2.2.2.2.2.2.1 ≤ a0.2.2.2.1)), ()))
 (some (false, ())))
 (some (false, ())))
 (some (false, ()))))))))))))))))
def Zo (a0 : Gb) : Option YR :=
 (ob (Gm a0.1) fun r1 =>
 (cond (bl (ln ([] : List Ca) + ln a0.2.2.1) Sa)
 (some ((r1.1, a0.2.1, (ap [] a0.2.2.1), a0.2.2.2), ()))
 none))
def GB (t1 : Int) (t8 : Ge) (t9 : Int) (t10 : Int) : Option (CU ⊕ HX) :=
 (cond (decide (t10 < t9))
 (ob (Ya t8 t10) fun x3 =>
 (cond (x3.1 == t1)
 (some (.inr (.inr ((t10, ()), ()))))
 (some (.inl ((t1, t8, t9, (wr .i64 (t10 + 1)), ()), ())))))
 (some (.inr (.inl ((), ())))))
def OD := Ua fun x : CU => GB x.1.1 x.1.2.1 x.1.2.2.1 x.1.2.2.2.1
def YP (a0 : Hb) (a1 : Int) : Option Gc :=
 (ob (OD ((a1, a0.2.2.2.1, ((ln a0.2.2.2.1 : Nat) : Int), 0, ()), ())) (se (fun y4 => (some ((-1), ()))) (fun z5 => (some (z5.1.1, ())))))
def sort_Ints (x0 : Uc) : Option Tq := srt x0
def RB (t1 : Int) (t7 : Uc) (t8 : Int) (t9 : Int) : Option (((Int × OP) × Unit) ⊕ Sk) :=
 (cond (decide (t9 < t8))
 (ob (Ya t7 t9) fun x3 =>
 (cond (x3 == t1)
 (some (.inr (.inr ((true, ()), ()))))
 (some (.inl ((t1, t7, t8, (wr .i64 (t9 + 1)), ()), ())))))
 (some (.inr (.inl ((), ())))))
def WD := Ua fun x : ((Int × OP) × Unit) => RB x.1.1 x.1.2.1 x.1.2.2.1 x.1.2.2.2.1
def BQ (a0 : Uc) (a1 : Int) : Option Wc :=
 (ob (WD ((a1, a0, ((ln a0 : Nat) : Int), 0, ()), ())) (se (fun y4 => (some (false, ()))) (fun z5 => (some (z5.1.1, ())))))
def Lx (t4 : Uc) (t11 : Uc) (t12 : Int) (t13 : Int) : Option (Bag ⊕ F8) :=
 (cond (decide (t13 < t12))
 (cond (Af (ln t11) t13)
 (ob t11[(tn t13)]? fun x9 =>
 (cond (x9 != 0)
 (ob (BQ t4 x9) fun r10 =>
 (cond (!r10.1)
 (cond (bl (ln t4 + ln ([x9] : List Int)) Sa)
 (some (.inl (((ap t4 ([x9] : List Int)), t11, t12, (wr .i64 (t13 + 1)), ()), ())))
 none)
 (some (.inl ((t4, t11, t12, (wr .i64 (t13 + 1)), ()), ())))))
 (some (.inl ((t4, t11, t12, (wr .i64 (t13 + 1)), ()), ())))))
 none)
 (some (.inr (.inl ((t4, ()), ())))))
def RA := Ua fun x : Bag => Lx x.1.1 x.1.2.1 x.1.2.2.1 x.1.2.2.2.1
def Mv (a0 : Uc) : Option Tq :=
 (ob (Kz a0) fun r1 =>
 (ob (sort_Ints r1.1) fun r2 =>
 (ob (RA (([], r2.1, ((ln r2.1 : Nat) : Int), 0, ()), ())) (se (fun y11 => (some (y11.1.1, ()))) (fun z12 => none)))))
def Xt (t2 : Unit) (t3 : Unit) (t4 : Uc) (t11 : Ge) (t12 : Int) (t13 : Int) (b2 : Ka) (b3 : Ka) : Option (((Unit × (Unit × (Uc × L2))) × ED) ⊕ Kav) :=
 (cond (decide (t13 < t12))
 (ob (Ya t11 t13) fun x5 =>
 (cond (x5.2.1.1 == 2)
 (cond (bl (ln t4 + ln ([x5.2.1.2.1] : List Int)) Sa)
 (some (.inl (((), (), (ap t4 ([x5.2.1.2.1] : List Int)), t11, t12, (wr .i64 (t13 + 1)), ()), (b2, ((Nc .i64 b3.1 x5.2.1.2.2.1), b3.2.1, ()), ()))))
 none)
 (cond (x5.2.1.1 == 8)
 (cond (bl (ln t4 + ln ([x5.2.1.2.1] : List Int)) Sa)
 (some (.inl (((), (), (ap t4 ([x5.2.1.2.1] : List Int)), t11, t12, (wr .i64 (t13 + 1)), ()), (b2, ((Nc .i64 b3.1 x5.2.1.2.2.1), b3.2.1, ()), ()))))
 none)
 (cond (bl (ln t4 + ln ([x5.2.1.2.1] : List Int)) Sa)
 (some (.inl (((), (), (ap t4 ([x5.2.1.2.1] : List Int)), t11, t12, (wr .i64 (t13 + 1)), ()), (b2, b3, ()))))
 none))))
 (some (.inr (.inl (((), (), t4, ()), (b2, b3, ()))))))
def Jx := Ua fun x : ((Unit × (Unit × (Uc × L2))) × ED) => Xt x.1.1 x.1.2.1 x.1.2.2.1 x.1.2.2.2.1 x.1.2.2.2.2.1 x.1.2.2.2.2.2.1 x.2.1 x.2.2.1
def Me (a0 : Ge) : Option RP :=
 (ob (Ll a0) fun r1 =>
 (cond (!r1.1)
 (some ((0, [], ()), ()))
 (ob (Jx (((), (), [], a0, ((ln a0 : Nat) : Int), 0, ()), ((0, [], ()), (0, [], ()), ()))) (se (fun y6 => (ob (Mv y6.1.2.2.1) fun r8 =>
 (some ((y6.2.2.1.1, r8.1, ()), ())))) (fun z7 => none)))))
def Bu (t0 : Uc) (t1 : Uc) (t12 : Int) (t13 : Int) : Option (Bag ⊕ Sk) :=
 (cond (decide (t13 < t12))
 (ob (Ya t0 t13) fun x5 =>
 (ob (Ya t1 t13) fun x6 =>
 (cond (x5 != x6)
 (some (.inr (.inr ((false, ()), ()))))
 (some (.inl ((t0, t1, t12, (wr .i64 (t13 + 1)), ()), ()))))))
 (some (.inr (.inl ((), ())))))
def Ox := Ua fun x : Bag => Bu x.1.1 x.1.2.1 x.1.2.2.1 x.1.2.2.2.1
def FJ (a0 : Uc) (a1 : Uc) : Option Wc :=
 (cond (((ln a0 : Nat) : Int) != ((ln a1 : Nat) : Int))
 (some (false, ()))
 (ob (Ox ((a0, a1, ((ln a0 : Nat) : Int), 0, ()), ())) (se (fun y7 => (some (true, ()))) (fun z8 => (some (z8.1.1, ()))))))
def Cr (a0 : Ka) (a1 : Ka) : Option Wc :=
 (cond (a0.1 == a1.1)
 (ob (FJ a0.2.1 a1.2.1) fun r1 =>
 (some (r1.1, ())))
 (some (false, ())))
def Uk (a b : Ka) : Bool := (a.1 == b.1) && (a.2.1 == b.2.1)
def LaK (c : T Bf → T Bf → Option Bool) (a b : T Bf) : Option Wc := ob (c a b) fun x => some (x, ())
def PO (c : T Bf → T Bf → Option Bool) (t2 : Unit) (t5 : (List (Int × ((T .o) × Unit)))) (t8 : (List (Int × ((T .o) × Unit)))) (t9 : Int) (t10 : Int) (b2 : (Int × ((T .o) × Unit))) : Option (((Unit × ((List (Int × ((T .o) × Unit))) × ((List (Int × ((T .o) × Unit))) × Wa))) × ((Int × ((T .o) × Unit)) × Unit)) ⊕ ((((List (Int × ((T .o) × Unit))) × Unit) × Unit) ⊕ Ke)) :=
 (cond (decide (t10 < t9))
 (ob (Ya t8 t10) fun x7 =>
 (ob (LaK c b2 x7) fun r8 =>
 (cond (!r8.1)
 (cond (bl (ln t5 + ln ([x7] : List (Int × ((T .o) × Unit)))) Sa)
 (some (.inl (((), (ap t5 ([x7] : List (Int × ((T .o) × Unit)))), t8, t9, (wr .i64 (t10 + 1)), ()), (x7, ()))))
 none)
 (some (.inl (((), t5, t8, t9, (wr .i64 (t10 + 1)), ()), (x7, ())))))))
 (some (.inr (.inl ((t5, ()), ())))))
def AA (c : T Bf → T Bf → Option Bool) (x : ((Unit × ((List (Int × ((T .o) × Unit))) × ((List (Int × ((T .o) × Unit))) × Wa))) × ((Int × ((T .o) × Unit)) × Unit))) : Option ((((List (Int × ((T .o) × Unit))) × Unit) × Unit) ⊕ Ke) := Ua (fun x : ((Unit × ((List (Int × ((T .o) × Unit))) × ((List (Int × ((T .o) × Unit))) × Wa))) × ((Int × ((T .o) × Unit)) × Unit)) => PO c x.1.1 x.1.2.1 x.1.2.2.1 x.1.2.2.2.1 x.1.2.2.2.2.1 x.2.1) x
def Yav (c : T Bf → T Bf → Option Bool) (a0 : (Int × ((T .o) × Unit))) (a1 : (List (Int × ((T .o) × Unit)))) : Option ((List (Int × ((T .o) × Unit))) × Unit) :=
 (ob (AA c (((), ([] : List (Int × ((T .o) × Unit))), a1, ((ln a1 : Nat) : Int), 0, ()), (a0, ()))) (se (fun y9 => (some (y9.1.1, ()))) (fun z10 => none)))
def Ff (a0 : Ka) (a1 : List Ka) : Option GX := Xav Uk a0 a1
def AE (a0 : Hb) (a1 : Int) : Option (Hb × GX) :=
 (ob (Gm a0) fun r1 =>
 (ob (YP a0 a1) fun r2 =>
 (cond (Ld (ln r1.1.2.2.2.1) 0 r2.1)
 (cond (Ld (ln r1.1.2.2.2.1) (wr .i64 (r2.1 + 1)) ((ln r1.1.2.2.2.1 : Nat) : Int))
 (cond (bl (ln (Eb r1.1.2.2.2.1 (tn 0) (tn r2.1)) + ln (Eb r1.1.2.2.2.1 (tn (wr .i64 (r2.1 + 1))) (tn ((ln r1.1.2.2.2.1 : Nat) : Int)))) Sa)
 (ob (Me a0.2.2.2.1) fun r3 =>
 (ob (Me (ap (Eb r1.1.2.2.2.1 (tn 0) (tn r2.1)) (Eb r1.1.2.2.2.1 (tn (wr .i64 (r2.1 + 1))) (tn ((ln r1.1.2.2.2.1 : Nat) : Int))))) fun r4 =>
 (ob (Ff r3.1 ([r4.1] : List Ka)) fun r5 =>
 (some ((r1.1.1, r1.1.2.1, r1.1.2.2.1, (ap (Eb r1.1.2.2.2.1 (tn 0) (tn r2.1)) (Eb r1.1.2.2.2.1 (tn (wr .i64 (r2.1 + 1))) (tn ((ln r1.1.2.2.2.1 : Nat) : Int)))), r1.1.2.2.2.2), r5.1, ())))))
 none)
 none)
 none)))
def Wt (t5 : Int) (t21 : Ge) (t22 : Int) (t23 : Int) : Option (CU ⊕ Rw) :=
 (cond (decide (t23 < t22))
 (ob (Ya t21 t23) fun x16 =>
 (cond (x16.2.1.1 == 3)
 (cond (decide (0 ≤ x16.2.1.2.2.2.1))
 (some (.inl (((Nc .i64 t5 (Qa .i64 1 x16.2.1.2.2.2.1)), t21, t22, (wr .i64 (t23 + 1)), ()), ())))
 none)
 (some (.inl ((t5, t21, t22, (wr .i64 (t23 + 1)), ()), ())))))
 (some (.inr (.inl ((t5, ()), ())))))
def Ck := Ua fun x : CU => Wt x.1.1 x.1.2.1 x.1.2.2.1 x.1.2.2.2.1
def Jz (a0 : Int) (a1 : Ge) : Option Gc :=
 (cond (decide (a0 ≥ 0))
 (cond (decide (a0 ≤ 15))
 (ob (Ll a1) fun r1 =>
 (cond (!r1.1)
 (some ((Nc .i64 1 a0), ()))
 (ob (Ck (((Nc .i64 1 a0), a1, ((ln a1 : Nat) : Int), 0, ()), ())) (se (fun y5 => (some (y5.1.1, ()))) (fun z6 => none)))))
 (ob (Ll a1) fun r7 =>
 (cond (!r7.1)
 (some (1, ()))
 (ob (Ck ((1, a1, ((ln a1 : Nat) : Int), 0, ()), ())) (se (fun y11 => (some (y11.1.1, ()))) (fun z12 => none))))))
 (ob (Ll a1) fun r13 =>
 (cond (!r13.1)
 (some (1, ()))
 (ob (Ck ((1, a1, ((ln a1 : Nat) : Int), 0, ()), ())) (se (fun y17 => (some (y17.1.1, ()))) (fun z18 => none))))))
def IT (t1 : Int) (t2 : Int) (t3 : Unit) (t7 : Int) (b3 : Xb) : Option (Qaf ⊕ HX) :=
 (cond (decide (t7 > 0))
 (ob (Xe t1 t7) fun r7 =>
 (cond (r7.1 == 1)
 (ob (Ya b3.2.1 t7) fun x8 =>
 (ob (Ya x8 t2) fun x9 =>
 (cond (x9.1 != 1)
 (some (.inr (.inr ((t7, ()), ()))))
 (some (.inl ((t1, t2, (), (wr .i64 (t7 - 1)), ()), (b3, ())))))))
 (some (.inl ((t1, t2, (), (wr .i64 (t7 - 1)), ()), (b3, ()))))))
 (some (.inr (.inl ((), ())))))
def Ti := Ua fun x : Qaf => IT x.1.1 x.1.2.1 x.1.2.2.1 x.1.2.2.2.1 x.2.1
def XD (a0 : Xb) (a1 : Int) (a2 : Int) : Option Gc :=
 (ob (Ti ((a1, a2, (), (wr .i64 (((ln a0.2.1 : Nat) : Int) - 1)), ()), (a0, ()))) (se (fun y10 => (some (0, ()))) (fun z11 => (some (z11.1.1, ())))))
def FT (a0 : Xb) (a1 : Int) (a2 : Int) : Option Gc :=
 (ob (Hz a0) fun r1 =>
 (cond (!r1.1)
 (some ((-1), ()))
 (cond (decide (a2 < 0))
 (some ((-1), ()))
 (cond (decide (a2 ≥ a0.1))
 (some ((-1), ()))
 (ob (XD a0 a1 a2) fun r2 =>
 (some (r2.1, ())))))))
def AJ (a0 : Xb) (a1 : Int) (a2 : Int) : Option UL :=
 (ob (FT a0 a1 a2) fun r1 =>
 (cond (decide (r1.1 < 0))
 (some ((0, 0, 0, 0, ()), ()))
 (ob (Ya a0.2.1 r1.1) fun x2 =>
 (ob (Ya x2 a2) fun x3 =>
 (some (x3, ()))))))
def Rt (t1 : Int) (t2 : Int) (t4 : Int) (t5 : Unit) (t12 : Int) (t26 : Ae) (t27 : Int) (t28 : Int) (b5 : Zc) : Option (((Int × (Int × (Int × (Unit × CB)))) × OF) ⊕ (((Int × (Int × Ke)) × OF) ⊕ TL)) :=
 (cond (decide (t28 < t27))
 (ob (Ya t26 t28) fun x10 =>
 (ob (Jv x10) fun r11 =>
 (cond (!r11.1)
 (some (.inr (.inr ((0, 0, ()), ()))))
 (cond (decide (x10.1 ≥ (wr .i64 (t2 + b5.1))))
 (some (.inr (.inr ((2, (wr .i64 (t2 + b5.1)), ()), ()))))
 (cond (x10.2.1 == t1)
 (cond (!x10.2.2.1)
 (some (.inr (.inr ((1, x10.1, ()), ()))))
 (cond (x10.2.1 == t1)
 (some (.inl ((t1, t2, t4, (), t12, t26, t27, (wr .i64 (t28 + 1)), ()), (b5, ()))))
 (cond x10.2.2.1
 (cond (b5.2.2.1 == 1)
 (some (.inr (.inr ((2, x10.1, ()), ()))))
 (cond (decide (0 ≤ x10.2.1))
 (some (.inl ((t1, t2, t4, (), (Nc .i64 t12 (Qa .i64 1 x10.2.1)), t26, t27, (wr .i64 (t28 + 1)), ()), (b5, ()))))
 none))
 (cond (b5.2.2.1 == 2)
 (ob (Xe t12 x10.2.1) fun r12 =>
 (cond (r12.1 == 1)
 (some (.inr (.inr ((2, x10.1, ()), ()))))
 (some (.inl ((t1, t2, t4, (), t12, t26, t27, (wr .i64 (t28 + 1)), ()), (b5, ()))))))
 (some (.inl ((t1, t2, t4, (), t12, t26, t27, (wr .i64 (t28 + 1)), ()), (b5, ()))))))))
 (cond (x10.2.1 == t1)
 (some (.inl ((t1, t2, t4, (), t12, t26, t27, (wr .i64 (t28 + 1)), ()), (b5, ()))))
 (cond x10.2.2.1
 (cond (b5.2.2.1 == 1)
 (some (.inr (.inr ((2, x10.1, ()), ()))))
 (cond (decide (0 ≤ x10.2.1))
 (some (.inl ((t1, t2, t4, (), (Nc .i64 t12 (Qa .i64 1 x10.2.1)), t26, t27, (wr .i64 (t28 + 1)), ()), (b5, ()))))
 none))
 (cond (b5.2.2.1 == 2)
 (ob (Xe t12 x10.2.1) fun r13 =>
 (cond (r13.1 == 1)
 (some (.inr (.inr ((2, x10.1, ()), ()))))
 (some (.inl ((t1, t2, t4, (), t12, t26, t27, (wr .i64 (t28 + 1)), ()), (b5, ()))))))
 (some (.inl ((t1, t2, t4, (), t12, t26, t27, (wr .i64 (t28 + 1)), ()), (b5, ()))))))))))))
 (some (.inr (.inl ((t2, t4, (), ()), (b5, ()))))))
def Cx := Ua fun x : ((Int × (Int × (Int × (Unit × CB)))) × OF) => Rt x.1.1 x.1.2.1 x.1.2.2.1 x.1.2.2.2.1 x.1.2.2.2.2.1 x.1.2.2.2.2.2.1 x.1.2.2.2.2.2.2.1 x.1.2.2.2.2.2.2.2.1 x.2.1
def Dz (a0 : Zc) (a1 : Int) (a2 : Int) (a3 : Ae) (a4 : Int) : Option Wa :=
 (ob (Iz a0) fun r1 =>
 (cond (!r1.1)
 (some (0, 0, ()))
 (cond (decide (a2 < 0))
 (some (0, 0, ()))
 (cond (decide (a2 > 1000000))
 (some (0, 0, ()))
 (ob (Cx ((a1, a2, a4, (), 0, a3, ((ln a3 : Nat) : Int), 0, ()), (a0, ()))) (se (fun y14 => (cond (decide (y14.1.2.1 ≥ (wr .i64 (y14.1.1 + y14.2.1.1))))
 (some (2, (wr .i64 (y14.1.1 + y14.2.1.1)), ()))
 (some (0, 0, ())))) (fun z15 => (some z15.1))))))))
def ZP (a0 : Cb) : Option UL :=
 (ob (Mo a0) fun r1 =>
 (cond (!r1.1)
 (some (a0, ()))
 (cond (a0.1 == 6)
 (some ((2, 0, a0.2.2.1, 0, ()), ()))
 (some ((3, 0, 0, a0.2.2.2.1, ()), ())))))
def IB (a0 : Int) : Option Wc :=
 (cond (decide (a0 ≥ 1))
 (cond (decide (a0 ≤ 36))
 (some (true, ()))
 (cond (a0 == 39)
 (some (true, ()))
 (some ((a0 == 42), ()))))
 (cond (a0 == 39)
 (some (true, ()))
 (some ((a0 == 42), ()))))
def At (a0 : Hb) (a1 : Cb) : Option (Hb × UL) :=
 (cond (a1.1 == 2)
 (cond (a1.2.1 == 0)
 (some (a0, (a1, ())))
 (cond a0.2.2.2.2.2.1
 (ob (IB a1.2.1) fun r1 =>
 (cond r1.1
 (cond (decide (a1.2.1 ≤ 26))
 (cond ((Mb .i64 (Nc .i64 a1.2.2.1 a0.2.2.2.2.1) 2) == 0)
 (some ((a0.1, a0.2.1, a0.2.2.1, a0.2.2.2.1, 0, r1.1, a0.2.2.2.2.2.2), ((a1.1, a1.2.1, 2, a1.2.2.2), ())))
 (some ((a0.1, a0.2.1, a0.2.2.1, a0.2.2.2.1, 0, r1.1, a0.2.2.2.2.2.2), ((a1.1, a1.2.1, (Nc .i64 a1.2.2.1 a0.2.2.2.2.1), a1.2.2.2), ()))))
 (some ((a0.1, a0.2.1, a0.2.2.1, a0.2.2.2.1, 0, r1.1, a0.2.2.2.2.2.2), ((a1.1, a1.2.1, (Nc .i64 a1.2.2.1 a0.2.2.2.2.1), a1.2.2.2), ()))))
 (some ((a0.1, a0.2.1, a0.2.2.1, a0.2.2.2.1, 0, r1.1, a0.2.2.2.2.2.2), ((a1.1, a1.2.1, (Nc .i64 a1.2.2.1 a0.2.2.2.2.1), a1.2.2.2), ())))))
 (some ((a0.1, a0.2.1, a0.2.2.1, a0.2.2.2.1, 0, false, a0.2.2.2.2.2.2), ((a1.1, a1.2.1, (Nc .i64 a1.2.2.1 a0.2.2.2.2.1), a1.2.2.2), ())))))
 (cond (a1.1 == 4)
 (cond (decide (0 ≤ a1.2.2.2.1))
 (some ((a0.1, a0.2.1, (Za .i64 a0.2.2.1 (Qa .i64 1 a1.2.2.2.1)), a0.2.2.2), (a1, ())))
 none)
 (cond (a1.1 == 5)
 (cond (decide (0 ≤ a1.2.2.2.1))
 (some ((a0.1, a0.2.1, (Mb .i64 (Qa .i64 1 a1.2.2.2.1) 1), a0.2.2.2), (a1, ())))
 none)
 (cond (a1.1 == 8)
 (cond ((Va .i64 a0.2.2.2.2.1 a1.2.2.1) == a1.2.2.1)
 (some ((a0.1, a0.2.1, a0.2.2.1, a0.2.2.2.1, (Mb .i64 a0.2.2.2.2.1 a1.2.2.1), a0.2.2.2.2.2), (a1, ())))
 (some ((a0.1, a0.2.1, a0.2.2.1, a0.2.2.2.1, (Nc .i64 a0.2.2.2.2.1 a1.2.2.1), a0.2.2.2.2.2), (a1, ()))))
 (cond (a1.1 == 10)
 (some ((a0.1, a0.2.1, a0.2.2.1, a0.2.2.2.1, a0.2.2.2.2.1, (!a0.2.2.2.2.2.1), a0.2.2.2.2.2.2), (a1, ())))
 (some (a0, (a1, ()))))))))
def Hr (t4 : Unit) (t5 : Unit) (t6 : Uc) (t15 : Je) (t16 : Int) (t17 : Int) (b4 : Ka) (b5 : Ka) : Option (((Unit × (Unit × (Uc × Sq))) × ED) ⊕ Kav) :=
 (cond (decide (t17 < t16))
 (ob (Ya t15 t17) fun x4 =>
 (cond (bl (ln t6 + ln ([x4.1] : List Int)) Sa)
 (some (.inl (((), (), (ap t6 ([x4.1] : List Int)), t15, t16, (wr .i64 (t17 + 1)), ()), (b4, ((Nc .i64 b5.1 x4.2.1), b5.2.1, ()), ()))))
 none))
 (some (.inr (.inl (((), (), t6, ()), (b4, b5, ()))))))
def Rv := Ua fun x : ((Unit × (Unit × (Uc × Sq))) × ED) => Hr x.1.1 x.1.2.1 x.1.2.2.1 x.1.2.2.2.1 x.1.2.2.2.2.1 x.1.2.2.2.2.2.1 x.2.1 x.2.2.1
def Xf (a0 : Ka) (a1 : Je) : Option RP :=
 (ob (Kz a0.2.1) fun r1 =>
 (ob (Rv (((), (), r1.1, a1, ((ln a1 : Nat) : Int), 0, ()), ((0, [], ()), (a0.1, [], ()), ()))) (se (fun y5 => (ob (Mv y5.1.2.2.1) fun r7 =>
 (some ((y5.2.2.1.1, r7.1, ()), ())))) (fun z6 => none))))
def Fm (t5 : Unit) (t6 : Rk) (t7 : Je) (t22 : Qh) (t23 : Int) (t24 : Int) (b5 : Ka) : Option (((Unit × (Rk × (Je × EU))) × RP) ⊕ Jav) :=
 (cond (decide (t24 < t23))
 (ob (Ya t22 t24) fun x25 =>
 (cond (x25.1 == 0)
 (cond (bl (ln ([] : List Wa) + ln t7) Sa)
 (cond (bl (ln (ap [] t7) + ln ([x25.2] : List Wa)) Sa)
 (ob (Xf b5 (ap (ap [] t7) ([x25.2] : List Wa))) fun r26 =>
 (cond (bl (ln t6 + ln ([r26.1] : List Ka)) Sa)
 (ob (Xf b5 t7) fun r27 =>
 (cond (bl (ln (ap t6 ([r26.1] : List Ka)) + ln ([r27.1] : List Ka)) Sa)
 (some (.inl (((), (ap (ap t6 ([r26.1] : List Ka)) ([r27.1] : List Ka)), t7, t22, t23, (wr .i64 (t24 + 1)), ()), (b5, ()))))
 none))
 none))
 none)
 none)
 (cond (x25.1 == 1)
 (cond (bl (ln t7 + ln ([x25.2] : List Wa)) Sa)
 (ob (Xf b5 (ap t7 ([x25.2] : List Wa))) fun r28 =>
 (cond (bl (ln t6 + ln ([r28.1] : List Ka)) Sa)
 (some (.inl (((), (ap t6 ([r28.1] : List Ka)), (ap t7 ([x25.2] : List Wa)), t22, t23, (wr .i64 (t24 + 1)), ()), (b5, ()))))
 none))
 none)
 (cond (x25.1 == 2)
 (ob (BI t7 x25.2) fun r29 =>
 (cond (Ld (ln t7) 0 r29.1)
 (cond (Ld (ln t7) (wr .i64 (r29.1 + 1)) ((ln t7 : Nat) : Int))
 (cond (bl (ln (Eb t7 (tn 0) (tn r29.1)) + ln (Eb t7 (tn (wr .i64 (r29.1 + 1))) (tn ((ln t7 : Nat) : Int)))) Sa)
 (ob (Xf b5 (ap (Eb t7 (tn 0) (tn r29.1)) (Eb t7 (tn (wr .i64 (r29.1 + 1))) (tn ((ln t7 : Nat) : Int))))) fun r30 =>
 (cond (bl (ln t6 + ln ([r30.1] : List Ka)) Sa)
 (some (.inl (((), (ap t6 ([r30.1] : List Ka)), (ap (Eb t7 (tn 0) (tn r29.1)) (Eb t7 (tn (wr .i64 (r29.1 + 1))) (tn ((ln t7 : Nat) : Int)))), t22, t23, (wr .i64 (t24 + 1)), ()), (b5, ()))))
 none))
 none)
 none)
 none))
 (ob (Xf b5 t7) fun r31 =>
 (cond (bl (ln t6 + ln ([r31.1] : List Ka)) Sa)
 (some (.inl (((), (ap t6 ([r31.1] : List Ka)), t7, t22, t23, (wr .i64 (t24 + 1)), ()), (b5, ()))))
 none))))))
 (some (.inr (.inl ((t6, ()), ())))))
def Yo := Ua fun x : ((Unit × (Rk × (Je × EU))) × RP) => Fm x.1.1 x.1.2.1 x.1.2.2.1 x.1.2.2.2.1 x.1.2.2.2.2.1 x.1.2.2.2.2.2.1 x.2.1
def Hk (a0 : Ge) (a1 : Qh) : Option GX :=
 (ob (Ll a0) fun r1 =>
 (cond (!r1.1)
 (some ([], ()))
 (ob (RD a1) fun r2 =>
 (cond (!r2.1)
 (some ([], ()))
 (ob (Me a0) fun r3 =>
 (ob (Yo (((), [], [], a1, ((ln a1 : Nat) : Int), 0, ()), (r3.1, ()))) (se (fun y32 => (some (y32.1.1, ()))) (fun z33 => none))))))))
def Hi (a0 : Hb) (a1 : Int) (a2 : Bool) : Option (Hb × GX) :=
 (ob (Gm a0) fun r1 =>
 (ob (Jz a0.2.2.1 a0.2.2.2.1) fun r2 =>
 (ob (XD a0.1 r2.1 a1) fun r3 =>
 (ob (Ya a0.1.2.1 r3.1) fun x4 =>
 (ob (Ya x4 a1) fun x5 =>
 (cond a2
 (ob (ZP x5) fun r6 =>
 (ob (At r1.1 r6.1) fun r7 =>
 (cond (bl (ln r7.1.2.2.2.1 + ln ([(a1, r7.2.1, ())] : List Ra)) Sa)
 (cond (r7.2.1.1 == 9)
 (cond (decide (r7.2.1.2.2.2.1 < ((ln a0.2.1 : Nat) : Int)))
 (ob (Ya a0.2.1 r7.2.1.2.2.2.1) fun x8 =>
 (ob (Hk (ap r7.1.2.2.2.1 ([(a1, r7.2.1, ())] : List Ra)) x8) fun r9 =>
 (ob (Me (ap r7.1.2.2.2.1 ([(a1, r7.2.1, ())] : List Ra))) fun r10 =>
 (cond (bl (ln r9.1 + ln ([r10.1] : List Ka)) Sa)
 (ob (Me a0.2.2.2.1) fun r11 =>
 (ob (Ff r11.1 (ap r9.1 ([r10.1] : List Ka))) fun r12 =>
 (some ((r7.1.1, r7.1.2.1, r7.1.2.2.1, (ap r7.1.2.2.2.1 ([(a1, r7.2.1, ())] : List Ra)), r7.1.2.2.2.2), r12.1, ()))))
 none))))
 (ob (Me (ap r7.1.2.2.2.1 ([(a1, r7.2.1, ())] : List Ra))) fun r13 =>
 (cond (bl (ln ([] : List Ka) + ln ([r13.1] : List Ka)) Sa)
 (ob (Me a0.2.2.2.1) fun r14 =>
 (ob (Ff r14.1 (ap [] ([r13.1] : List Ka))) fun r15 =>
 (some ((r7.1.1, r7.1.2.1, r7.1.2.2.1, (ap r7.1.2.2.2.1 ([(a1, r7.2.1, ())] : List Ra)), r7.1.2.2.2.2), r15.1, ()))))
 none)))
 (ob (Me (ap r7.1.2.2.2.1 ([(a1, r7.2.1, ())] : List Ra))) fun r16 =>
 (cond (bl (ln ([] : List Ka) + ln ([r16.1] : List Ka)) Sa)
 (ob (Me a0.2.2.2.1) fun r17 =>
 (ob (Ff r17.1 (ap [] ([r16.1] : List Ka))) fun r18 =>
 (some ((r7.1.1, r7.1.2.1, r7.1.2.2.1, (ap r7.1.2.2.2.1 ([(a1, r7.2.1, ())] : List Ra)), r7.1.2.2.2.2), r18.1, ()))))
 none)))
 none)))
 (ob (DS x5) fun r19 =>
 (ob (At r1.1 r19.1) fun r20 =>
 (cond (bl (ln r20.1.2.2.2.1 + ln ([(a1, r20.2.1, ())] : List Ra)) Sa)
 (cond (r20.2.1.1 == 9)
 (cond (decide (r20.2.1.2.2.2.1 < ((ln a0.2.1 : Nat) : Int)))
 (ob (Ya a0.2.1 r20.2.1.2.2.2.1) fun x21 =>
 (ob (Hk (ap r20.1.2.2.2.1 ([(a1, r20.2.1, ())] : List Ra)) x21) fun r22 =>
 (ob (Me (ap r20.1.2.2.2.1 ([(a1, r20.2.1, ())] : List Ra))) fun r23 =>
 (cond (bl (ln r22.1 + ln ([r23.1] : List Ka)) Sa)
 (ob (Me a0.2.2.2.1) fun r24 =>
 (ob (Ff r24.1 (ap r22.1 ([r23.1] : List Ka))) fun r25 =>
 (some ((r20.1.1, r20.1.2.1, r20.1.2.2.1, (ap r20.1.2.2.2.1 ([(a1, r20.2.1, ())] : List Ra)), r20.1.2.2.2.2), r25.1, ()))))
 none))))
 (ob (Me (ap r20.1.2.2.2.1 ([(a1, r20.2.1, ())] : List Ra))) fun r26 =>
 (cond (bl (ln ([] : List Ka) + ln ([r26.1] : List Ka)) Sa)
 (ob (Me a0.2.2.2.1) fun r27 =>
 (ob (Ff r27.1 (ap [] ([r26.1] : List Ka))) fun r28 =>
 (some ((r20.1.1, r20.1.2.1, r20.1.2.2.1, (ap r20.1.2.2.2.1 ([(a1, r20.2.1, ())] : List Ra)), r20.1.2.2.2.2), r28.1, ()))))
 none)))
 (ob (Me (ap r20.1.2.2.2.1 ([(a1, r20.2.1, ())] : List Ra))) fun r29 =>
 (cond (bl (ln ([] : List Ka) + ln ([r29.1] : List Ka)) Sa)
 (ob (Me a0.2.2.2.1) fun r30 =>
 (ob (Ff r30.1 (ap [] ([r29.1] : List Ka))) fun r31 =>
 (some ((r20.1.1, r20.1.2.1, r20.1.2.2.1, (ap r20.1.2.2.2.1 ([(a1, r20.2.1, ())] : List Ra)), r20.1.2.2.2.2), r31.1, ()))))
 none)))
 none)))))))))
def Fi (a0 : Gb) : Option (Gb × Hav) :=
 (cond (Af (ln a0.2.2.1) 0)
 (ob a0.2.2.1[(tn 0)]? fun x1 =>
 (cond (Ld (ln a0.2.2.1) 1 ((ln a0.2.2.1 : Nat) : Int))
 (cond (!x1.2.2.1)
 (cond (a0.2.2.2.2.2.1 == (wr .i64 (x1.2.1 + 1)))
 (ob (AE a0.1 x1.2.1) fun r2 =>
 (cond (bl (ln ([] : List Ca) + ln (Eb a0.2.2.1 (tn 1) (tn ((ln a0.2.2.1 : Nat) : Int)))) Sa)
 (some ((r2.1, a0.2.1, (ap [] (Eb a0.2.2.1 (tn 1) (tn ((ln a0.2.2.1 : Nat) : Int)))), a0.2.2.2.1, (max a0.2.2.2.2.1 x1.1), a0.2.2.2.2.2.1, x1.1, a0.2.2.2.2.2.2.2), (r2.2.1, true, ())))
 none))
 (ob (AE a0.1 x1.2.1) fun r3 =>
 (cond (bl (ln ([] : List Ca) + ln (Eb a0.2.2.1 (tn 1) (tn ((ln a0.2.2.1 : Nat) : Int)))) Sa)
 (some ((r3.1, a0.2.1, (ap [] (Eb a0.2.2.1 (tn 1) (tn ((ln a0.2.2.1 : Nat) : Int)))), a0.2.2.2.1, (max a0.2.2.2.2.1 x1.1), a0.2.2.2.2.2), (r3.2.1, true, ())))
 none)))
 (ob (Jz a0.1.2.2.1 a0.1.2.2.2.1) fun r4 =>
 (ob (AJ a0.1.1 r4.1 x1.2.1) fun r5 =>
 (ob (Mo r5.1) fun r6 =>
 (cond r6.1
 (cond (a0.2.2.2.2.2.1 != (wr .i64 (x1.2.1 + 1)))
 (ob (Dz a0.2.1 x1.2.1 x1.1 (Eb a0.2.2.1 (tn 1) (tn ((ln a0.2.2.1 : Nat) : Int))) a0.2.2.2.1) fun r7 =>
 (cond (r7.1 == 0)
 (some (a0, ([], false, ())))
 (cond (r7.1 == 1)
 (ob (Hi a0.1 x1.2.1 false) fun r8 =>
 (cond (bl (ln ([] : List Ca) + ln (Eb a0.2.2.1 (tn 1) (tn ((ln a0.2.2.1 : Nat) : Int)))) Sa)
 (some ((r8.1, a0.2.1, (ap [] (Eb a0.2.2.1 (tn 1) (tn ((ln a0.2.2.1 : Nat) : Int)))), a0.2.2.2.1, (max (max a0.2.2.2.2.1 x1.1) r7.2.1), (wr .i64 (x1.2.1 + 1)), x1.1, a0.2.2.2.2.2.2.2), (r8.2.1, true, ())))
 none))
 (cond (r7.1 == 2)
 (ob (Hi a0.1 x1.2.1 true) fun r9 =>
 (cond (bl (ln ([] : List Ca) + ln (Eb a0.2.2.1 (tn 1) (tn ((ln a0.2.2.1 : Nat) : Int)))) Sa)
 (some ((r9.1, a0.2.1, (ap [] (Eb a0.2.2.1 (tn 1) (tn ((ln a0.2.2.1 : Nat) : Int)))), a0.2.2.2.1, (max (max a0.2.2.2.2.1 x1.1) r7.2.1), 0, a0.2.2.2.2.2.2), (r9.2.1, true, ())))
 none))
 (ob (Hi a0.1 x1.2.1 false) fun r10 =>
 (cond (bl (ln ([] : List Ca) + ln (Eb a0.2.2.1 (tn 1) (tn ((ln a0.2.2.1 : Nat) : Int)))) Sa)
 (some ((r10.1, a0.2.1, (ap [] (Eb a0.2.2.1 (tn 1) (tn ((ln a0.2.2.1 : Nat) : Int)))), a0.2.2.2.1, (max (max a0.2.2.2.2.1 x1.1) r7.2.1), a0.2.2.2.2.2), (r10.2.1, true, ())))
 none))))))
 (cond (decide ((wr .i64 (x1.1 - a0.2.2.2.2.2.2.1)) ≥ a0.2.1.2.1))
 (ob (Dz a0.2.1 x1.2.1 x1.1 (Eb a0.2.2.1 (tn 1) (tn ((ln a0.2.2.1 : Nat) : Int))) a0.2.2.2.1) fun r11 =>
 (cond (r11.1 == 0)
 (some (a0, ([], false, ())))
 (cond (r11.1 == 1)
 (ob (Hi a0.1 x1.2.1 false) fun r12 =>
 (cond (bl (ln ([] : List Ca) + ln (Eb a0.2.2.1 (tn 1) (tn ((ln a0.2.2.1 : Nat) : Int)))) Sa)
 (some ((r12.1, a0.2.1, (ap [] (Eb a0.2.2.1 (tn 1) (tn ((ln a0.2.2.1 : Nat) : Int)))), a0.2.2.2.1, (max (max a0.2.2.2.2.1 x1.1) r11.2.1), (wr .i64 (x1.2.1 + 1)), x1.1, a0.2.2.2.2.2.2.2), (r12.2.1, true, ())))
 none))
 (cond (r11.1 == 2)
 (ob (Hi a0.1 x1.2.1 true) fun r13 =>
 (cond (bl (ln ([] : List Ca) + ln (Eb a0.2.2.1 (tn 1) (tn ((ln a0.2.2.1 : Nat) : Int)))) Sa)
 (some ((r13.1, a0.2.1, (ap [] (Eb a0.2.2.1 (tn 1) (tn ((ln a0.2.2.1 : Nat) : Int)))), a0.2.2.2.1, (max (max a0.2.2.2.2.1 x1.1) r11.2.1), 0, a0.2.2.2.2.2.2), (r13.2.1, true, ())))
 none))
 (ob (Hi a0.1 x1.2.1 false) fun r14 =>
 (cond (bl (ln ([] : List Ca) + ln (Eb a0.2.2.1 (tn 1) (tn ((ln a0.2.2.1 : Nat) : Int)))) Sa)
 (some ((r14.1, a0.2.1, (ap [] (Eb a0.2.2.1 (tn 1) (tn ((ln a0.2.2.1 : Nat) : Int)))), a0.2.2.2.1, (max (max a0.2.2.2.2.1 x1.1) r11.2.1), a0.2.2.2.2.2), (r14.2.1, true, ())))
 none))))))
 (cond ((1 : Int) == 0)
 (some (a0, ([], false, ())))
 (cond ((1 : Int) == 1)
 (ob (Hi a0.1 x1.2.1 false) fun r15 =>
 (cond (bl (ln ([] : List Ca) + ln (Eb a0.2.2.1 (tn 1) (tn ((ln a0.2.2.1 : Nat) : Int)))) Sa)
 (some ((r15.1, a0.2.1, (ap [] (Eb a0.2.2.1 (tn 1) (tn ((ln a0.2.2.1 : Nat) : Int)))), a0.2.2.2.1, (max (max a0.2.2.2.2.1 x1.1) x1.1), (wr .i64 (x1.2.1 + 1)), x1.1, a0.2.2.2.2.2.2.2), (r15.2.1, true, ())))
 none))
 (cond ((1 : Int) == 2)
 (ob (Hi a0.1 x1.2.1 true) fun r16 =>
 (cond (bl (ln ([] : List Ca) + ln (Eb a0.2.2.1 (tn 1) (tn ((ln a0.2.2.1 : Nat) : Int)))) Sa)
 (some ((r16.1, a0.2.1, (ap [] (Eb a0.2.2.1 (tn 1) (tn ((ln a0.2.2.1 : Nat) : Int)))), a0.2.2.2.1, (max (max a0.2.2.2.2.1 x1.1) x1.1), 0, a0.2.2.2.2.2.2), (r16.2.1, true, ())))
 none))
 (ob (Hi a0.1 x1.2.1 false) fun r17 =>
 (cond (bl (ln ([] : List Ca) + ln (Eb a0.2.2.1 (tn 1) (tn ((ln a0.2.2.1 : Nat) : Int)))) Sa)
 (some ((r17.1, a0.2.1, (ap [] (Eb a0.2.2.1 (tn 1) (tn ((ln a0.2.2.1 : Nat) : Int)))), a0.2.2.2.1, (max (max a0.2.2.2.2.1 x1.1) x1.1), a0.2.2.2.2.2), (r17.2.1, true, ())))
 none)))))))
 (ob (Hi a0.1 x1.2.1 false) fun r18 =>
 (cond (bl (ln ([] : List Ca) + ln (Eb a0.2.2.1 (tn 1) (tn ((ln a0.2.2.1 : Nat) : Int)))) Sa)
 (some ((r18.1, a0.2.1, (ap [] (Eb a0.2.2.1 (tn 1) (tn ((ln a0.2.2.1 : Nat) : Int)))), a0.2.2.2.1, (max a0.2.2.2.2.1 x1.1), a0.2.2.2.2.2), (r18.2.1, true, ())))
 none)))))))
 none))
 none)
def GJ (t0 : Th) (t1 : Int) (t9 : (Rk × Int)) (t10 : Int) (t11 : Int) : Option (((Th × (Int × ((Rk × Int) × Wa))) × Unit) ⊕ (((Th × Unit) × Unit) ⊕ Ke)) :=
 (cond (decide (t11 < t10))
 (cond (Af (ln t9.1) t11)
 (cond (Nat.beq (tn t11) (tn t9.2))
 (ob t9.1[(tn t11)]? fun x4 =>
 (cond (bl (ln t0 + ln ([(t1, x4, ())] : List Lf)) Sa)
 (some (.inl (((ap t0 ([(t1, x4, ())] : List Lf)), t1, (t9.1, ((((tn t11) + 1) : Nat) : Int)), t10, (wr .i64 (t11 + 1)), ()), ())))
 none))
 none)
 none)
 (some (.inr (.inl ((t0, ()), ())))))
def OK := Ua fun x : ((Th × (Int × ((Rk × Int) × Wa))) × Unit) => GJ x.1.1 x.1.2.1 x.1.2.2.1 x.1.2.2.2.1 x.1.2.2.2.2.1
def QQ (a0 : Th) (a1 : Int) (a2 : Rk) : Option (Th × Unit) :=
 (ob (OK ((a0, a1, (a2, 0), ((ln a2 : Nat) : Int), 0, ()), ())) (se (fun y5 => (some (y5.1.1, ()))) (fun z6 => none)))
def Rh (t6 : Unit) (t9 : Unit) (t10 : Th) (b6 : Gb) (b9 : Gb) : Option (Lav ⊕ (Lav ⊕ Ke)) :=
 (cond (decide (((ln b9.2.2.1 : Nat) : Int) > 0))
 (ob (Fi b9) fun r25 =>
 (cond (!r25.2.2.1)
 (some (.inr (.inl (((), (), t10, ()), (b6, r25.1, ())))))
 (ob (QQ t10 r25.1.2.2.2.2.1 r25.2.1) fun r26 =>
 (some (.inl (((), (), r26.1, ()), (b6, r25.1, ())))))))
 (some (.inr (.inl (((), (), t10, ()), (b6, b9, ()))))))
def Qg := Ua fun x : Lav => Rh x.1.1 x.1.2.1 x.1.2.2.1 x.2.1 x.2.2.1
def KB (a0 : Gb) (a1 : Ae) (a2 : Int) : Option (Gb × M2) :=
 (ob (Iv a0) fun r1 =>
 (cond (!r1.1)
 (some (Jh, [], false, ()))
 (cond (decide (a2 < a0.2.2.2.1))
 (some (Jh, [], false, ()))
 (cond (decide (a2 > 1000000))
 (some (Jh, [], false, ()))
 (cond (decide (((ln a1 : Nat) : Int) > 0))
 (ob (Ya a1 0) fun x2 =>
 (cond (decide (x2.1 < a0.2.2.2.1))
 (some (Jh, [], false, ()))
 (ob (Gi a1 a2) fun r3 =>
 (cond (!r3.1)
 (some (Jh, [], false, ()))
 (ob (Zo a0) fun r4 =>
 (cond (bl (ln r4.1.2.2.1 + ln a1) Sa)
 (ob (Sm a0.1.2.2.2.1) fun r5 =>
 (ob (Ii (ap r4.1.2.2.1 a1) r5.1 a0.1.1.1) fun r6 =>
 (cond (!r6.1)
 (some (Jh, [], false, ()))
 (ob (Qg (((), (), [], ()), (Jh, (r4.1.1, r4.1.2.1, (ap r4.1.2.2.1 a1), a2, r4.1.2.2.2.2), ()))) (se (fun y15 => (some (y15.2.2.1, y15.1.2.2.1, true, ()))) (fun z16 => none))))))
 none))))))
 (ob (Gi a1 a2) fun r17 =>
 (cond (!r17.1)
 (some (Jh, [], false, ()))
 (ob (Zo a0) fun r18 =>
 (cond (bl (ln r18.1.2.2.1 + ln a1) Sa)
 (ob (Sm a0.1.2.2.2.1) fun r19 =>
 (ob (Ii (ap r18.1.2.2.1 a1) r19.1 a0.1.1.1) fun r20 =>
 (cond (!r20.1)
 (some (Jh, [], false, ()))
 (ob (Qg (((), (), [], ()), (Jh, (r18.1.1, r18.1.2.1, (ap r18.1.2.2.1 a1), a2, r18.1.2.2.2.2), ()))) (se (fun y27 => (some (y27.2.2.1, y27.1.2.2.1, true, ()))) (fun z28 => none))))))
 none)))))))))
def NJ (a0 : Zc) (a1 : Zc) : Option Wc :=
 (cond (a0.1 != a1.1)
 (some (false, ()))
 (cond (a0.2.1 != a1.2.1)
 (some (false, ()))
 (cond (a0.2.2.1 != a1.2.2.1)
 (some (false, ()))
 (some (true, ())))))
def FQ (a0 : Cb) : Option UL :=
 (ob (Fl a0) fun r1 =>
 (cond (!r1.1)
 (some (a0, ()))
 (cond (a0.1 == 6)
 (some ((2, 0, a0.2.2.1, 0, ()), ()))
 (some ((3, 0, 0, a0.2.2.2.1, ()), ())))))
def ZT (t1 : Int) (t2 : Int) (t3 : Unit) (t7 : Int) (b3 : Xb) : Option (Qaf ⊕ HX) :=
 (cond (decide (t7 > 0))
 (cond (decide (0 ≤ t7))
 (cond ((Va .i64 (Vb .i64 t1 t7) 1) == 1)
 (ob (Ya b3.2.1 t7) fun x7 =>
 (ob (Ya x7 t2) fun x8 =>
 (cond (x8.1 != 1)
 (some (.inr (.inr ((t7, ()), ()))))
 (some (.inl ((t1, t2, (), (wr .i64 (t7 - 1)), ()), (b3, ())))))))
 (some (.inl ((t1, t2, (), (wr .i64 (t7 - 1)), ()), (b3, ())))))
 none)
 (some (.inr (.inl ((), ())))))
def Ui := Ua fun x : Qaf => ZT x.1.1 x.1.2.1 x.1.2.2.1 x.1.2.2.2.1 x.2.1
def QN (a0 : Xb) (a1 : Int) (a2 : Int) : Option Gc :=
 (ob (Uz a0) fun r1 =>
 (cond (!r1.1)
 (some ((-1), ()))
 (ob (Sb a2 0 (wr .i64 (a0.1 - 1))) fun r2 =>
 (cond (!r2.1)
 (some ((-1), ()))
 (ob (Ui ((a1, a2, (), (wr .i64 (((ln a0.2.1 : Nat) : Int) - 1)), ()), (a0, ()))) (se (fun y9 => (some (0, ()))) (fun z10 => (some (z10.1.1, ())))))))))
def Qz (a0 : Xb) (a1 : Int) (a2 : Int) : Option UL :=
 (ob (QN a0 a1 a2) fun r1 =>
 (cond (decide (r1.1 < 0))
 (some ((0, 0, 0, 0, ()), ()))
 (ob (Ya a0.2.1 r1.1) fun x2 =>
 (ob (Ya x2 a2) fun x3 =>
 (some (x3, ()))))))
def Tn (t0 : Sl) (t1 : Int) (t5 : Int) : Option (Zaf ⊕ (((Sl × Gc) × Unit) ⊕ Ke)) :=
 (cond (decide (t5 < ((ln t0 : Nat) : Int)))
 (cond (Af (ln t0) t5)
 (ob t0[(tn t5)]? fun x9 =>
 (cond (Af (ln (ls t0 (tn t5) (t1, x9.2))) t5)
 (ob (ls t0 (tn t5) (t1, x9.2))[(tn t5)]? fun x10 =>
 (cond (Af (ln (ls (ls t0 (tn t5) (t1, x9.2)) (tn t5) (x10.1, (wr .i64 (t1 + 1)), x10.2.2))) t5)
 (ob (ls (ls t0 (tn t5) (t1, x9.2)) (tn t5) (x10.1, (wr .i64 (t1 + 1)), x10.2.2))[(tn t5)]? fun x11 =>
 (cond (Af (ln (ls (ls (ls t0 (tn t5) (t1, x9.2)) (tn t5) (x10.1, (wr .i64 (t1 + 1)), x10.2.2)) (tn t5) (x11.1, x11.2.1, (wr .i64 ((wr .i64 (t1 + 1)) + 1)), x11.2.2.2))) t5)
 (ob (ls (ls (ls t0 (tn t5) (t1, x9.2)) (tn t5) (x10.1, (wr .i64 (t1 + 1)), x10.2.2)) (tn t5) (x11.1, x11.2.1, (wr .i64 ((wr .i64 (t1 + 1)) + 1)), x11.2.2.2))[(tn t5)]? fun x12 =>
 (some (.inl (((ls (ls (ls (ls t0 (tn t5) (t1, x9.2)) (tn t5) (x10.1, (wr .i64 (t1 + 1)), x10.2.2)) (tn t5) (x11.1, x11.2.1, (wr .i64 ((wr .i64 (t1 + 1)) + 1)), x11.2.2.2)) (tn t5) (x12.1, x12.2.1, x12.2.2.1, (wr .i64 ((wr .i64 ((wr .i64 (t1 + 1)) + 1)) + 1)), x12.2.2.2.2)), (wr .i64 ((wr .i64 ((wr .i64 ((wr .i64 (t1 + 1)) + 1)) + 1)) + 1)), (wr .i64 (t5 + 1)), ()), ()))))
 none))
 none))
 none))
 none)
 (some (.inr (.inl ((t0, t1, ()), ())))))
def XG := Ua fun x : Zaf => Tn x.1.1 x.1.2.1 x.1.2.2.1
def SK (a0 : Sl) (a1 : Int) : Option (Sl × Gc) :=
 (ob (XG ((a0, a1, 0, ()), ())) (se (fun y13 => (some (y13.1.1, (y13.1.2.1, ())))) (fun z14 => none)))
def Km (t0 : Cj) (t1 : Int) (t5 : Int) : Option ((SL × Unit) ⊕ (((Cj × Gc) × Unit) ⊕ Ke)) :=
 (cond (decide (t5 < ((ln t0 : Nat) : Int)))
 (cond (Af (ln t0) t5)
 (ob t0[(tn t5)]? fun x5 =>
 (ob (SK x5 t1) fun r6 =>
 (some (.inl (((ls t0 (tn t5) r6.1), r6.2.1, (wr .i64 (t5 + 1)), ()), ())))))
 none)
 (some (.inr (.inl ((t0, t1, ()), ())))))
def IE := Ua fun x : (SL × Unit) => Km x.1.1 x.1.2.1 x.1.2.2.1
def MH (a0 : Cj) (a1 : Int) : Option (Cj × Gc) :=
 (ob (IE ((a0, a1, 0, ()), ())) (se (fun y7 => (some (y7.1.1, (y7.1.2.1, ())))) (fun z8 => none)))
def DC (a0 : Xb) (a1 : Int) : Option (Xb × Gc) :=
 (ob (MH a0.2.1 a1) fun r1 =>
 (some ((a0.1, r1.1, ()), (r1.2.1, ()))))
def ZC (t1 : Unit) (t2 : Unit) (t3 : Unit) (t4 : Int) (b1 : Xb) (b2 : Xb) (b3 : Xb) : Option ((Q2 × (Xb × S2)) ⊕ ((HU × S2) ⊕ Ke)) :=
 (cond (decide (t4 < ((ln b1.2.1 : Nat) : Int)))
 (ob (Ya b1.2.1 t4) fun x4 =>
 (cond (bl (ln ([] : List Cb) + ln x4) Sa)
 (cond (bl (ln b3.2.1 + ln ([(ap [] x4)] : List Sl)) Sa)
 (some (.inl (((), (), (), (wr .i64 (t4 + 1)), ()), (b1, b2, (b3.1, (ap b3.2.1 ([(ap [] x4)] : List Sl)), ()), ()))))
 none)
 none))
 (some (.inr (.inl (((), (), ()), (b2, b3, ()))))))
def CF := Ua fun x : (Q2 × (Xb × S2)) => ZC x.1.1 x.1.2.1 x.1.2.2.1 x.1.2.2.2.1 x.2.1 x.2.2.1 x.2.2.2.1
def HQ (a0 : Xb) : Option Nt :=
 (ob (CF (((), (), (), 0, ()), (a0, (0, [], ()), (a0.1, [], ()), ()))) (se (fun y5 => (some (y5.2.2.1, ()))) (fun z6 => none)))
def NC (t0 : Ge) (t3 : Int) (t4 : Int) : Option (GU ⊕ Sk) :=
 (cond (decide (t4 < ((ln t0 : Nat) : Int)))
 (ob (Ya t0 t4) fun x15 =>
 (ob (Ya t0 t4) fun x16 =>
 (ob (Sb x16.1 0 31) fun r17 =>
 (cond (!r17.1)
 (some (.inr (.inr ((false, ()), ()))))
 (ob (Ya t0 t4) fun x18 =>
 (cond (decide (0 ≤ x18.1))
 (cond ((Va .i64 (Vb .i64 t3 x18.1) 1) == 1)
 (some (.inr (.inr ((false, ()), ()))))
 (ob (Nk x15.2.1) fun r19 =>
 (cond (!r19.1)
 (some (.inr (.inr ((false, ()), ()))))
 (cond (x15.2.1.1 == 1)
 (some (.inr (.inr ((false, ()), ()))))
 (ob (Fl x15.2.1) fun r20 =>
 (cond r20.1
 (some (.inr (.inr ((false, ()), ()))))
 (ob (Ya t0 t4) fun x21 =>
 (cond (decide (0 ≤ x21.1))
 (some (.inl ((t0, (Nc .i64 t3 (Qa .i64 1 x21.1)), (wr .i64 (t4 + 1)), ()), ())))
 none))))))))
 none))))))
 (some (.inr (.inl ((), ())))))
def SE := Ua fun x : GU => NC x.1.1 x.1.2.1 x.1.2.2.1
def Ct (a0 : Ge) : Option Wc :=
 (ob (SE ((a0, 0, 0, ()), ())) (se (fun y22 => (some (true, ()))) (fun z23 => (some (z23.1.1, ())))))
def AD (t0 : Ge) (t3 : Unit) (t5 : Int) (b3 : Zc) : Option (((Ge × Zj) × OF) ⊕ HX) :=
 (cond (decide (t5 < ((ln t0 : Nat) : Int)))
 (ob (Ya t0 t5) fun x5 =>
 (cond (x5.2.1.2.1 == b3.2.1)
 (ob (Ya t0 t5) fun x6 =>
 (cond (x6.2.1.2.2.1 == b3.2.2.1)
 (some (.inr (.inr ((t5, ()), ()))))
 (some (.inl ((t0, (), (wr .i64 (t5 + 1)), ()), (b3, ()))))))
 (some (.inl ((t0, (), (wr .i64 (t5 + 1)), ()), (b3, ()))))))
 (some (.inr (.inl ((), ())))))
def DF := Ua fun x : ((Ge × Zj) × OF) => AD x.1.1 x.1.2.1 x.1.2.2.1 x.2.1
def Ko (a0 : Ge) (a1 : Zc) : Option Gc :=
 (ob (DF ((a0, (), 0, ()), (a1, ()))) (se (fun y7 => (some ((-1), ()))) (fun z8 => (some (z8.1.1, ())))))
def Qq (a0 : Zc) : Option UL :=
 (some ((2, a0.2.1, a0.2.2.1, 0, ()), ()))
def Ng (a0 : Ge) (a1 : Int) : Option (Ge × Unit) :=
 (cond (Ld (ln a0) 0 a1)
 (cond (bl (ln ([] : List Ra) + ln (Eb a0 (tn 0) (tn a1))) Sa)
 (cond (Ld (ln a0) (wr .i64 (a1 + 1)) ((ln a0 : Nat) : Int))
 (cond (bl (ln (ap [] (Eb a0 (tn 0) (tn a1))) + ln (Eb a0 (tn (wr .i64 (a1 + 1))) (tn ((ln a0 : Nat) : Int)))) Sa)
 (some ((ap (ap [] (Eb a0 (tn 0) (tn a1))) (Eb a0 (tn (wr .i64 (a1 + 1))) (tn ((ln a0 : Nat) : Int)))), ()))
 none)
 none)
 none)
 none)
def Hp (t0 : Qh) (t3 : Ge) (t4 : Int) : Option (((Qh × (Ge × Gc)) × Unit) ⊕ (((Qh × (Ge × Unit)) × Unit) ⊕ Am)) :=
 (cond (decide (t4 < ((ln t0 : Nat) : Int)))
 (ob (Ya t0 t4) fun x15 =>
 (ob (Ko t3 x15) fun r16 =>
 (ob (Sb x15.1 0 2) fun r17 =>
 (cond (!r17.1)
 (some (.inr (.inr ((false, ()), ()))))
 (ob (Qq x15) fun r18 =>
 (ob (Nk r18.1) fun r19 =>
 (cond (!r19.1)
 (some (.inr (.inr ((false, ()), ()))))
 (cond ((x15.1 == 2) != (decide (r16.1 ≥ 0)))
 (some (.inr (.inr ((false, ()), ()))))
 (cond (x15.1 == 1)
 (ob (Qq x15) fun r20 =>
 (cond (bl (ln t3 + ln ([(0, r20.1, ())] : List Ra)) Sa)
 (some (.inl ((t0, (ap t3 ([(0, r20.1, ())] : List Ra)), (wr .i64 (t4 + 1)), ()), ())))
 none))
 (cond (x15.1 == 2)
 (ob (Ng t3 r16.1) fun r21 =>
 (some (.inl ((t0, r21.1, (wr .i64 (t4 + 1)), ()), ()))))
 (some (.inl ((t0, t3, (wr .i64 (t4 + 1)), ()), ())))))))))))))
 (some (.inr (.inl ((t0, t3, ()), ())))))
def WA := Ua fun x : ((Qh × (Ge × Gc)) × Unit) => Hp x.1.1 x.1.2.1 x.1.2.2.1
def TE (a0 : Qh) : Option Wc :=
 (ob (WA ((a0, [], 0, ()), ())) (se (fun y22 => (cond (decide (((ln y22.1.1 : Nat) : Int) ≤ 8))
 (some ((((ln y22.1.2.1 : Nat) : Int) == 0), ()))
 (some (false, ())))) (fun z23 => (some (z23.1.1, ())))))
def Pu (t1 : Unit) (t3 : Int) (b1 : Hb) : Option ((Zj × Zl) ⊕ ((Ke × Zl) ⊕ Am)) :=
 (cond (decide (t3 < ((ln b1.2.1 : Nat) : Int)))
 (ob (Ya b1.2.1 t3) fun x7 =>
 (ob (TE x7) fun r8 =>
 (cond (!r8.1)
 (some (.inr (.inr ((false, ()), ()))))
 (some (.inl (((), (wr .i64 (t3 + 1)), ()), (b1, ())))))))
 (some (.inr (.inl (((), ()), (b1, ()))))))
def Yn := Ua fun x : (Zj × Zl) => Pu x.1.1 x.1.2.1 x.2.1
def Qu (t1 : Unit) (t4 : Int) (b1 : Hb) : Option ((Zj × Zl) ⊕ ((Ke × Zl) ⊕ Am)) :=
 (cond (decide (t4 < ((ln b1.2.2.2.1 : Nat) : Int)))
 (ob (Ya b1.2.2.2.1 t4) fun x17 =>
 (cond (decide (x17.1 ≥ b1.1.1))
 (some (.inr (.inr ((false, ()), ()))))
 (ob (Ya b1.2.2.2.1 t4) fun x18 =>
 (cond (x18.2.1.1 != 9)
 (ob (Ya b1.2.2.2.1 t4) fun x19 =>
 (cond (decide (x19.2.1.2.2.2.1 ≥ ((ln b1.1.2.1 : Nat) : Int)))
 (some (.inr (.inr ((false, ()), ()))))
 (some (.inl (((), (wr .i64 (t4 + 1)), ()), (b1, ()))))))
 (some (.inl (((), (wr .i64 (t4 + 1)), ()), (b1, ()))))))))
 (some (.inr (.inl (((), ()), (b1, ()))))))
def Zn := Ua fun x : (Zj × Zl) => Qu x.1.1 x.1.2.1 x.2.1
def Pq (a0 : Hb) : Option Wc :=
 (ob (Uz a0.1) fun r1 =>
 (cond (!r1.1)
 (some (false, ()))
 (cond (decide (((ln a0.2.1 : Nat) : Int) > 4))
 (some (false, ()))
 (ob (Ct a0.2.2.2.1) fun r2 =>
 (cond (!r2.1)
 (some (false, ()))
 (ob (Yn (((), 0, ()), (a0, ()))) (se (fun y9 => (ob (Zn (((), 0, ()), (y9.2.1, ()))) (se (fun y20 => (cond (decide (0 ≤ ((ln y20.2.1.1.2.1 : Nat) : Int)))
 (ob (Sb y20.2.1.2.2.1 0 (wr .i64 ((Qa .i64 1 ((ln y20.2.1.1.2.1 : Nat) : Int)) - 1))) fun r22 =>
 (cond r22.1
 (cond ((2 : Int) == 0)
 none
 (cond ((Int.tmod y20.2.1.2.2.1 2) == 0)
 (ob (Sb y20.2.1.2.2.2.2.1 0 15) fun r23 =>
 (some (r23.1, ())))
 (some (false, ()))))
 (some (false, ()))))
 none)) (fun z21 => (some (z21.1.1, ())))))) (fun z10 => (some (z10.1.1, ()))))))))))
def BD (t1 : Unit) (t2 : Unit) (t3 : Unit) (t4 : Int) (b1 : Hb) (b2 : Hb) (b3 : Hb) : Option ((Q2 × (Hb × Gav)) ⊕ (((Unit × HU) × (Hb × Gav)) ⊕ Ke)) :=
 (cond (decide (t4 < ((ln b1.2.1 : Nat) : Int)))
 (ob (Ya b1.2.1 t4) fun x4 =>
 (cond (bl (ln ([] : List Zc) + ln x4) Sa)
 (cond (bl (ln b3.2.1 + ln ([(ap [] x4)] : List Qh)) Sa)
 (some (.inl (((), (), (), (wr .i64 (t4 + 1)), ()), (b1, b2, (b3.1, (ap b3.2.1 ([(ap [] x4)] : List Qh)), b3.2.2), ()))))
 none)
 none))
 (some (.inr (.inl (((), (), (), ()), (b1, b2, b3, ()))))))
def EF := Ua fun x : (Q2 × (Hb × Gav)) => BD x.1.1 x.1.2.1 x.1.2.2.1 x.1.2.2.2.1 x.2.1 x.2.2.1 x.2.2.2.1
def Kt (a0 : Hb) : Option Zl :=
 (ob (HQ a0.1) fun r1 =>
 (ob (EF (((), (), (), 0, ()), (a0, ZK, (r1.1, [], a0.2.2), ()))) (se (fun y5 => (cond (bl (ln ([] : List Ra) + ln y5.2.1.2.2.2.1) Sa)
 (some ((y5.2.2.2.1.1, y5.2.2.2.1.2.1, y5.2.2.2.1.2.2.1, (ap [] y5.2.1.2.2.2.1), y5.2.2.2.1.2.2.2.2), ()))
 none)) (fun z6 => none))))
def MC (t1 : Int) (t2 : Unit) (t5 : Int) (b2 : Hb) : Option (((Int × Zj) × Zl) ⊕ HX) :=
 (cond (decide (t5 < ((ln b2.2.2.2.1 : Nat) : Int)))
 (ob (Ya b2.2.2.2.1 t5) fun x3 =>
 (cond (x3.1 == t1)
 (some (.inr (.inr ((t5, ()), ()))))
 (some (.inl ((t1, (), (wr .i64 (t5 + 1)), ()), (b2, ()))))))
 (some (.inr (.inl ((), ())))))
def QE := Ua fun x : ((Int × Zj) × Zl) => MC x.1.1 x.1.2.1 x.1.2.2.1 x.2.1
def TI (a0 : Hb) (a1 : Int) : Option Gc :=
 (ob (QE ((a1, (), 0, ()), (a0, ()))) (se (fun y4 => (some ((-1), ()))) (fun z5 => (some (z5.1.1, ())))))
def Tu (t1 : Ge) (t5 : Int) (t6 : Int) : Option (GU ⊕ Rw) :=
 (cond (decide (t6 < ((ln t1 : Nat) : Int)))
 (ob (Ct t1) fun r19 =>
 (cond r19.1
 (ob (Ya t1 t6) fun x20 =>
 (cond (x20.2.1.1 == 3)
 (ob (Ya t1 t6) fun x21 =>
 (cond (decide (0 ≤ x21.2.1.2.2.2.1))
 (some (.inl ((t1, (Nc .i64 t5 (Qa .i64 1 x21.2.1.2.2.2.1)), (wr .i64 (t6 + 1)), ()), ())))
 none))
 (some (.inl ((t1, t5, (wr .i64 (t6 + 1)), ()), ())))))
 (some (.inr (.inl ((t5, ()), ()))))))
 (some (.inr (.inl ((t5, ()), ())))))
def Co := Ua fun x : GU => Tu x.1.1 x.1.2.1 x.1.2.2.1
def Xz (a0 : Int) (a1 : Ge) : Option Gc :=
 (ob (Sb a0 0 15) fun r1 =>
 (cond r1.1
 (ob (Co ((a1, (Nc .i64 1 a0), 0, ()), ())) (se (fun y11 => (some (y11.1.1, ()))) (fun z12 => none)))
 (ob (Co ((a1, 1, 0, ()), ())) (se (fun y22 => (some (y22.1.1, ()))) (fun z23 => none)))))
def OC (a0 : Int) : Option Wc :=
 (ob (Sb a0 1 36) fun r1 =>
 (cond r1.1
 (some (true, ()))
 (cond (a0 == 39)
 (some (true, ()))
 (some ((a0 == 42), ())))))
def UY (a0 : Hb) (a1 : Cb) : Option (Hb × UL) :=
 (ob (OC a1.2.1) fun r1 =>
 (cond (!r1.1)
 (some ((a0.1, a0.2.1, a0.2.2.1, a0.2.2.2.1, 0, false, a0.2.2.2.2.2.2), ((a1.1, a1.2.1, (Nc .i64 a1.2.2.1 a0.2.2.2.2.1), a1.2.2.2), ())))
 (cond a0.2.2.2.2.2.1
 (cond (decide (a1.2.1 ≤ 26))
 (cond ((Mb .i64 (Nc .i64 a1.2.2.1 a0.2.2.2.2.1) 2) == 0)
 (some ((a0.1, a0.2.1, a0.2.2.1, a0.2.2.2.1, 0, a0.2.2.2.2.2), ((a1.1, a1.2.1, 2, a1.2.2.2), ())))
 (some ((a0.1, a0.2.1, a0.2.2.1, a0.2.2.2.1, 0, a0.2.2.2.2.2), ((a1.1, a1.2.1, (Nc .i64 a1.2.2.1 a0.2.2.2.2.1), a1.2.2.2), ()))))
 (some ((a0.1, a0.2.1, a0.2.2.1, a0.2.2.2.1, 0, a0.2.2.2.2.2), ((a1.1, a1.2.1, (Nc .i64 a1.2.2.1 a0.2.2.2.2.1), a1.2.2.2), ()))))
 (some ((a0.1, a0.2.1, a0.2.2.1, a0.2.2.2.1, 0, a0.2.2.2.2.2), ((a1.1, a1.2.1, (Nc .i64 a1.2.2.1 a0.2.2.2.2.1), a1.2.2.2), ()))))))
def Zm (a0 : Hb) (a1 : Cb) : Option (Hb × UL) :=
 (cond (a1.1 == 2)
 (cond (decide (a1.2.1 > 0))
 (ob (UY a0 a1) fun r1 =>
 (some (r1.1, (r1.2.1, ()))))
 (some (a0, (a1, ()))))
 (cond (a1.1 == 4)
 (cond (decide (0 ≤ a1.2.2.2.1))
 (some ((a0.1, a0.2.1, (Za .i64 a0.2.2.1 (Qa .i64 1 a1.2.2.2.1)), a0.2.2.2), (a1, ())))
 none)
 (cond (a1.1 == 5)
 (cond (decide (0 ≤ a1.2.2.2.1))
 (some ((a0.1, a0.2.1, (Mb .i64 (Qa .i64 1 a1.2.2.2.1) 1), a0.2.2.2), (a1, ())))
 none)
 (cond (a1.1 == 8)
 (cond ((Va .i64 a0.2.2.2.2.1 a1.2.2.1) == a1.2.2.1)
 (some ((a0.1, a0.2.1, a0.2.2.1, a0.2.2.2.1, (Mb .i64 a0.2.2.2.2.1 a1.2.2.1), a0.2.2.2.2.2), (a1, ())))
 (some ((a0.1, a0.2.1, a0.2.2.1, a0.2.2.2.1, (Nc .i64 a0.2.2.2.2.1 a1.2.2.1), a0.2.2.2.2.2), (a1, ()))))
 (cond (a1.1 == 10)
 (some ((a0.1, a0.2.1, a0.2.2.1, a0.2.2.2.1, a0.2.2.2.2.1, (!a0.2.2.2.2.2.1), a0.2.2.2.2.2.2), (a1, ())))
 (some (a0, (a1, ()))))))))
def Uu (t0 : Ge) (t2 : Unit) (t3 : Unit) (t4 : Int) (b2 : Ka) (b3 : Ka) : Option (FX ⊕ (((Ge × HU) × ED) ⊕ Ke)) :=
 (cond (decide (t4 < ((ln t0 : Nat) : Int)))
 (ob (Ya t0 t4) fun x10 =>
 (cond (x10.2.1.1 == 2)
 (ob (Ya t0 t4) fun x11 =>
 (some (.inl ((t0, (), (), (wr .i64 (t4 + 1)), ()), (b2, ((Nc .i64 b3.1 x11.2.1.2.2.1), b3.2.1, ()), ())))))
 (ob (Ya t0 t4) fun x12 =>
 (cond (x12.2.1.1 == 8)
 (ob (Ya t0 t4) fun x13 =>
 (some (.inl ((t0, (), (), (wr .i64 (t4 + 1)), ()), (b2, ((Nc .i64 b3.1 x13.2.1.2.2.1), b3.2.1, ()), ())))))
 (some (.inl ((t0, (), (), (wr .i64 (t4 + 1)), ()), (b2, b3, ()))))))))
 (some (.inr (.inl ((t0, (), (), ()), (b2, b3, ()))))))
def Ly := Ua fun x : FX => Uu x.1.1 x.1.2.1 x.1.2.2.1 x.1.2.2.2.1 x.2.1 x.2.2.1
def Hs (t0 : Ge) (t2 : Unit) (t3 : Unit) (t5 : Int) (t6 : Int) (b2 : Ka) (b3 : Ka) : Option (((Ge × (Unit × Qw)) × ED) ⊕ (FX ⊕ Ke)) :=
 (cond (decide (t6 < ((ln t0 : Nat) : Int)))
 (ob (Ya t0 t6) fun x28 =>
 (cond (x28.2.1.2.1 == t5)
 (cond (bl (ln b3.2.1 + ln ([t5] : List Int)) Sa)
 (some (.inr (.inl ((t0, (), (), t5, ()), (b2, (b3.1, (ap b3.2.1 ([t5] : List Int)), ()), ())))))
 none)
 (some (.inl ((t0, (), (), t5, (wr .i64 (t6 + 1)), ()), (b2, b3, ()))))))
 (some (.inr (.inl ((t0, (), (), t5, ()), (b2, b3, ()))))))
def Nm := Ua fun x : ((Ge × (Unit × Qw)) × ED) => Hs x.1.1 x.1.2.1 x.1.2.2.1 x.1.2.2.2.1 x.1.2.2.2.2.1 x.2.1 x.2.2.1
def Es (t0 : Ge) (t2 : Unit) (t3 : Unit) (t5 : Int) (b2 : Ka) (b3 : Ka) : Option (FX ⊕ ((HU × ED) ⊕ Ke)) :=
 (cond (decide (t5 ≤ 56))
 (ob (Nm ((t0, (), (), t5, 0, ()), (b2, b3, ()))) (se (fun y29 => (some (.inl ((y29.1.1, (), (), (wr .i64 (y29.1.2.2.2.1 + 1)), ()), y29.2)))) (fun z30 => (some (.inr (.inr ((), ())))))))
 (some (.inr (.inl (((), (), ()), (b2, b3, ()))))))
def Cw := Ua fun x : FX => Es x.1.1 x.1.2.1 x.1.2.2.1 x.1.2.2.2.1 x.2.1 x.2.2.1
def We (a0 : Ge) : Option RP :=
 (ob (Ct a0) fun r1 =>
 (cond (!r1.1)
 (some ((0, [], ()), ()))
 (ob (Ly ((a0, (), (), 0, ()), ((0, [], ()), (0, [], ()), ()))) (se (fun y14 => (ob (Cw ((y14.1.1, (), (), 1, ()), y14.2)) (se (fun y31 => (some (y31.2.2.1, ()))) (fun z32 => none)))) (fun z15 => none)))))
def Wu (t1 : Ge) (t4 : Unit) (t5 : Unit) (t6 : Int) (b4 : Ka) (b5 : Ka) : Option (FX ⊕ (((Ge × HU) × ED) ⊕ Ke)) :=
 (cond (decide (t6 < ((ln t1 : Nat) : Int)))
 (ob (Ya t1 t6) fun x4 =>
 (some (.inl ((t1, (), (), (wr .i64 (t6 + 1)), ()), (b4, ((Nc .i64 b5.1 x4.2.1.2.2.1), b5.2.1, ()), ())))))
 (some (.inr (.inl ((t1, (), (), ()), (b4, b5, ()))))))
def Vy := Ua fun x : FX => Wu x.1.1 x.1.2.1 x.1.2.2.1 x.1.2.2.2.1 x.2.1 x.2.2.1
def Ns (t1 : Ge) (t4 : Unit) (t5 : Unit) (t7 : Uc) (t8 : Int) (t9 : Bool) (t10 : Int) (b4 : Ka) (b5 : Ka) : Option PaK :=
 (cond (decide (t10 < ((ln b5.2.1 : Nat) : Int)))
 (cond t9
 (some (.inl ((t1, (), (), t7, t8, true, (wr .i64 (t10 + 1)), ()), (b4, b5, ()))))
 (cond (Af (ln b5.2.1) t10)
 (ob b5.2.1[(tn t10)]? fun x29 =>
 (some (.inl ((t1, (), (), t7, t8, (x29 == t8), (wr .i64 (t10 + 1)), ()), (b4, b5, ())))))
 none))
 (some (.inr (.inl ((t1, (), (), t7, t8, t9, ()), (b4, b5, ()))))))
def Om := Ua fun x : Fav => Ns x.1.1 x.1.2.1 x.1.2.2.1 x.1.2.2.2.1 x.1.2.2.2.2.1 x.1.2.2.2.2.2.1 x.1.2.2.2.2.2.2.1 x.2.1 x.2.2.1
def Ps (t1 : Ge) (t4 : Unit) (t5 : Unit) (t7 : Uc) (t8 : Int) (t9 : Bool) (t11 : Int) (b4 : Ka) (b5 : Ka) : Option PaK :=
 (cond (decide (t11 < ((ln t1 : Nat) : Int)))
 (cond t9
 (some (.inl ((t1, (), (), t7, t8, true, (wr .i64 (t11 + 1)), ()), (b4, b5, ()))))
 (ob (Ya t1 t11) fun x34 =>
 (some (.inl ((t1, (), (), t7, t8, (x34.2.1.2.1 == t8), (wr .i64 (t11 + 1)), ()), (b4, b5, ()))))))
 (some (.inr (.inl ((t1, (), (), t7, t8, t9, ()), (b4, b5, ()))))))
def Pm := Ua fun x : Fav => Ps x.1.1 x.1.2.1 x.1.2.2.1 x.1.2.2.2.1 x.1.2.2.2.2.1 x.1.2.2.2.2.2.1 x.1.2.2.2.2.2.2.1 x.2.1 x.2.2.1
def Xu (t1 : Ge) (t4 : Unit) (t5 : Unit) (t7 : Uc) (t8 : Int) (b4 : Ka) (b5 : Ka) : Option (((Ge × (Unit × Qay)) × ED) ⊕ Kav) :=
 (cond (decide (t8 ≤ 56))
 (ob (Om ((t1, (), (), t7, t8, false, 0, ()), (b4, b5, ()))) (se (fun y30 => (ob (Pm ((y30.1.1, (), (), y30.1.2.2.2.1, y30.1.2.2.2.2.1, y30.1.2.2.2.2.2.1, 0, ()), y30.2)) (se (fun y35 => (cond y35.1.2.2.2.2.2.1
 (cond (bl (ln y35.1.2.2.2.1 + ln ([y35.1.2.2.2.2.1] : List Int)) Sa)
 (some (.inl ((y35.1.1, (), (), (ap y35.1.2.2.2.1 ([y35.1.2.2.2.2.1] : List Int)), (wr .i64 (y35.1.2.2.2.2.1 + 1)), ()), y35.2)))
 none)
 (some (.inl ((y35.1.1, (), (), y35.1.2.2.2.1, (wr .i64 (y35.1.2.2.2.2.1 + 1)), ()), y35.2))))) (fun z36 => (some (.inr (.inr ((), ())))))))) (fun z31 => (some (.inr (.inr ((), ())))))))
 (some (.inr (.inl (((), (), t7, ()), (b4, b5, ()))))))
def Wy := Ua fun x : ((Ge × (Unit × Qay)) × ED) => Xu x.1.1 x.1.2.1 x.1.2.2.1 x.1.2.2.2.1 x.1.2.2.2.2.1 x.2.1 x.2.2.1
def Ci (a0 : Ge) (a1 : Ge) : Option RP :=
 (ob (We a0) fun r1 =>
 (ob (Vy ((a1, (), (), 0, ()), ((0, [], ()), r1.1, ()))) (se (fun y5 => (ob (Wy ((y5.1.1, (), (), [], 1, ()), y5.2)) (se (fun y37 => (some ((y37.2.2.1.1, y37.1.2.2.1, ()), ()))) (fun z38 => none)))) (fun z6 => none))))
def Mm (t0 : Ge) (t1 : Qh) (t5 : Rk) (t6 : Ge) (t7 : Int) : Option (((Ge × (Qh × (Rk × (Ge × Gc)))) × Unit) ⊕ Jav) :=
 (cond (decide (t7 < ((ln t1 : Nat) : Int)))
 (ob (Ya t1 t7) fun x21 =>
 (cond (x21.1 != 2)
 (ob (Qq x21) fun r22 =>
 (cond (bl (ln t6 + ln ([(0, r22.1, ())] : List Ra)) Sa)
 (ob (Ci t0 (ap t6 ([(0, r22.1, ())] : List Ra))) fun r23 =>
 (cond (bl (ln t5 + ln ([r23.1] : List Ka)) Sa)
 (cond (x21.1 != 1)
 (ob (Ko (ap t6 ([(0, r22.1, ())] : List Ra)) x21) fun r24 =>
 (ob (Ng (ap t6 ([(0, r22.1, ())] : List Ra)) r24.1) fun r25 =>
 (ob (Ci t0 r25.1) fun r26 =>
 (cond (bl (ln (ap t5 ([r23.1] : List Ka)) + ln ([r26.1] : List Ka)) Sa)
 (some (.inl ((t0, t1, (ap (ap t5 ([r23.1] : List Ka)) ([r26.1] : List Ka)), r25.1, (wr .i64 (t7 + 1)), ()), ())))
 none))))
 (some (.inl ((t0, t1, (ap t5 ([r23.1] : List Ka)), (ap t6 ([(0, r22.1, ())] : List Ra)), (wr .i64 (t7 + 1)), ()), ()))))
 none))
 none))
 (cond (x21.1 != 1)
 (ob (Ko t6 x21) fun r27 =>
 (ob (Ng t6 r27.1) fun r28 =>
 (ob (Ci t0 r28.1) fun r29 =>
 (cond (bl (ln t5 + ln ([r29.1] : List Ka)) Sa)
 (some (.inl ((t0, t1, (ap t5 ([r29.1] : List Ka)), r28.1, (wr .i64 (t7 + 1)), ()), ())))
 none))))
 (some (.inl ((t0, t1, t5, t6, (wr .i64 (t7 + 1)), ()), ()))))))
 (some (.inr (.inl ((t5, ()), ())))))
def Ip := Ua fun x : ((Ge × (Qh × (Rk × (Ge × Gc)))) × Unit) => Mm x.1.1 x.1.2.1 x.1.2.2.1 x.1.2.2.2.1 x.1.2.2.2.2.1
def Ik (a0 : Ge) (a1 : Qh) : Option GX :=
 (ob (Ct a0) fun r1 =>
 (cond (!r1.1)
 (some ([], ()))
 (ob (TE a1) fun r2 =>
 (cond (!r2.1)
 (some ([], ()))
 (ob (Ip ((a0, a1, [], [], 0, ()), ())) (se (fun y30 => (some (y30.1.1, ()))) (fun z31 => none)))))))
def Zp (t2 : Unit) (t3 : Unit) (t5 : Int) (b2 : Ka) (b3 : Ka) : Option (((Unit × Zj) × ED) ⊕ Sk) :=
 (cond (decide (t5 < ((ln b2.2.1 : Nat) : Int)))
 (ob (Ya b2.2.1 t5) fun x5 =>
 (ob (Ya b3.2.1 t5) fun x6 =>
 (cond (x5 != x6)
 (some (.inr (.inr ((false, ()), ()))))
 (some (.inl (((), (), (wr .i64 (t5 + 1)), ()), (b2, b3, ())))))))
 (some (.inr (.inl ((), ())))))
def Et := Ua fun x : ((Unit × Zj) × ED) => Zp x.1.1 x.1.2.1 x.1.2.2.1 x.2.1 x.2.2.1
def TC (a0 : Ka) (a1 : Ka) : Option Wc :=
 (cond (a0.1 != a1.1)
 (some (false, ()))
 (cond (((ln a0.2.1 : Nat) : Int) != ((ln a1.2.1 : Nat) : Int))
 (some (false, ()))
 (ob (Et (((), (), 0, ()), (a0, a1, ()))) (se (fun y7 => (some (true, ()))) (fun z8 => (some (z8.1.1, ())))))))
def Qs (t1 : Rk) (t2 : Unit) (t5 : Rk) (t6 : Int) (b2 : Ka) : Option (((Rk × (Unit × (Rk × Gc))) × RP) ⊕ Jav) :=
 (cond (decide (t6 < ((ln t1 : Nat) : Int)))
 (ob (Ya t1 t6) fun x13 =>
 (ob (TC b2 x13) fun r14 =>
 (cond (!r14.1)
 (ob (Ya t1 t6) fun x15 =>
 (ob (IQ x15) fun r16 =>
 (cond (bl (ln t5 + ln ([r16.1] : List Ka)) Sa)
 (ob (Ya t1 t6) fun x17 =>
 (some (.inl ((t1, (), (ap t5 ([r16.1] : List Ka)), (wr .i64 (t6 + 1)), ()), (x17, ())))))
 none)))
 (ob (Ya t1 t6) fun x18 =>
 (some (.inl ((t1, (), t5, (wr .i64 (t6 + 1)), ()), (x18, ()))))))))
 (some (.inr (.inl ((t5, ()), ())))))
def Iw := Ua fun x : ((Rk × (Unit × (Rk × Gc))) × RP) => Qs x.1.1 x.1.2.1 x.1.2.2.1 x.1.2.2.2.1 x.2.1
def Ah (a0 : Ka) (a1 : Rk) : Option GX :=
 (ob (Iw ((a1, (), [], 0, ()), (a0, ()))) (se (fun y19 => (some (y19.1.1, ()))) (fun z20 => none)))
def Rl (a0 : Hb) (a1 : Int) (a2 : Bool) : Option (Hb × Hav) :=
 (ob (Pq a0) fun r1 =>
 (cond (!r1.1)
 (some (ZK, [], false, ()))
 (ob (Sb a1 0 (wr .i64 (a0.1.1 - 1))) fun r2 =>
 (cond (!r2.1)
 (some (ZK, [], false, ()))
 (ob (TI a0 a1) fun r3 =>
 (cond (decide (r3.1 ≥ 0))
 (some (ZK, [], false, ()))
 (ob (Kt a0) fun r4 =>
 (ob (Xz a0.2.2.1 a0.2.2.2.1) fun r5 =>
 (ob (Qz a0.1 r5.1 a1) fun r6 =>
 (cond a2
 (ob (FQ r6.1) fun r7 =>
 (ob (Zm r4.1 r7.1) fun r8 =>
 (cond (bl (ln r8.1.2.2.2.1 + ln ([(a1, r8.2.1, ())] : List Ra)) Sa)
 (cond (r8.2.1.1 == 9)
 (cond (decide (r8.2.1.2.2.2.1 < ((ln a0.2.1 : Nat) : Int)))
 (ob (Ya a0.2.1 r8.2.1.2.2.2.1) fun x9 =>
 (ob (Ik (ap r8.1.2.2.2.1 ([(a1, r8.2.1, ())] : List Ra)) x9) fun r10 =>
 (ob (We (ap r8.1.2.2.2.1 ([(a1, r8.2.1, ())] : List Ra))) fun r11 =>
 (cond (bl (ln r10.1 + ln ([r11.1] : List Ka)) Sa)
 (ob (We a0.2.2.2.1) fun r12 =>
 (ob (Ah r12.1 (ap r10.1 ([r11.1] : List Ka))) fun r13 =>
 (some ((r8.1.1, r8.1.2.1, r8.1.2.2.1, (ap r8.1.2.2.2.1 ([(a1, r8.2.1, ())] : List Ra)), r8.1.2.2.2.2), r13.1, true, ()))))
 none))))
 (ob (We (ap r8.1.2.2.2.1 ([(a1, r8.2.1, ())] : List Ra))) fun r14 =>
 (cond (bl (ln ([] : List Ka) + ln ([r14.1] : List Ka)) Sa)
 (ob (We a0.2.2.2.1) fun r15 =>
 (ob (Ah r15.1 (ap [] ([r14.1] : List Ka))) fun r16 =>
 (some ((r8.1.1, r8.1.2.1, r8.1.2.2.1, (ap r8.1.2.2.2.1 ([(a1, r8.2.1, ())] : List Ra)), r8.1.2.2.2.2), r16.1, true, ()))))
 none)))
 (ob (We (ap r8.1.2.2.2.1 ([(a1, r8.2.1, ())] : List Ra))) fun r17 =>
 (cond (bl (ln ([] : List Ka) + ln ([r17.1] : List Ka)) Sa)
 (ob (We a0.2.2.2.1) fun r18 =>
 (ob (Ah r18.1 (ap [] ([r17.1] : List Ka))) fun r19 =>
 (some ((r8.1.1, r8.1.2.1, r8.1.2.2.1, (ap r8.1.2.2.2.1 ([(a1, r8.2.1, ())] : List Ra)), r8.1.2.2.2.2), r19.1, true, ()))))
 none)))
 none)))
 (ob (HS r6.1) fun r20 =>
 (ob (Zm r4.1 r20.1) fun r21 =>
 (cond (bl (ln r21.1.2.2.2.1 + ln ([(a1, r21.2.1, ())] : List Ra)) Sa)
 (cond (r21.2.1.1 == 9)
 (cond (decide (r21.2.1.2.2.2.1 < ((ln a0.2.1 : Nat) : Int)))
 (ob (Ya a0.2.1 r21.2.1.2.2.2.1) fun x22 =>
 (ob (Ik (ap r21.1.2.2.2.1 ([(a1, r21.2.1, ())] : List Ra)) x22) fun r23 =>
 (ob (We (ap r21.1.2.2.2.1 ([(a1, r21.2.1, ())] : List Ra))) fun r24 =>
 (cond (bl (ln r23.1 + ln ([r24.1] : List Ka)) Sa)
 (ob (We a0.2.2.2.1) fun r25 =>
 (ob (Ah r25.1 (ap r23.1 ([r24.1] : List Ka))) fun r26 =>
 (some ((r21.1.1, r21.1.2.1, r21.1.2.2.1, (ap r21.1.2.2.2.1 ([(a1, r21.2.1, ())] : List Ra)), r21.1.2.2.2.2), r26.1, true, ()))))
 none))))
 (ob (We (ap r21.1.2.2.2.1 ([(a1, r21.2.1, ())] : List Ra))) fun r27 =>
 (cond (bl (ln ([] : List Ka) + ln ([r27.1] : List Ka)) Sa)
 (ob (We a0.2.2.2.1) fun r28 =>
 (ob (Ah r28.1 (ap [] ([r27.1] : List Ka))) fun r29 =>
 (some ((r21.1.1, r21.1.2.1, r21.1.2.2.1, (ap r21.1.2.2.2.1 ([(a1, r21.2.1, ())] : List Ra)), r21.1.2.2.2.2), r29.1, true, ()))))
 none)))
 (ob (We (ap r21.1.2.2.2.1 ([(a1, r21.2.1, ())] : List Ra))) fun r30 =>
 (cond (bl (ln ([] : List Ka) + ln ([r30.1] : List Ka)) Sa)
 (ob (We a0.2.2.2.1) fun r31 =>
 (ob (Ah r31.1 (ap [] ([r30.1] : List Ka))) fun r32 =>
 (some ((r21.1.1, r21.1.2.1, r21.1.2.2.1, (ap r21.1.2.2.2.1 ([(a1, r21.2.1, ())] : List Ra)), r21.1.2.2.2.2), r32.1, true, ()))))
 none)))
 none)))))))))))))
def UE (a0 : Hb) (a1 : Int) : Option (Hb × Hav) :=
 (ob (TI a0 a1) fun r1 =>
 (ob (Pq a0) fun r2 =>
 (cond (!r2.1)
 (some (ZK, [], false, ()))
 (cond (decide (r1.1 < 0))
 (some (ZK, [], false, ()))
 (ob (Kt a0) fun r3 =>
 (ob (Ng r3.1.2.2.2.1 r1.1) fun r4 =>
 (ob (We a0.2.2.2.1) fun r5 =>
 (ob (We r4.1) fun r6 =>
 (ob (Ah r5.1 ([r6.1] : List Ka)) fun r7 =>
 (some ((r3.1.1, r3.1.2.1, r3.1.2.2.1, r4.1, r3.1.2.2.2.2), r7.1, true, ())))))))))))
def Rn (t0 : Sl) (t1 : Int) (t5 : Int) : Option (Zaf ⊕ NF) :=
 (cond (decide (t5 < ((ln t0 : Nat) : Int)))
 (ob (Ya t0 t5) fun x9 =>
 (cond (x9.1 != t1)
 (some (.inr (.inr (((-1), ()), ()))))
 (ob (Ya t0 t5) fun x10 =>
 (cond (x10.2.1 != (wr .i64 (t1 + 1)))
 (some (.inr (.inr (((-1), ()), ()))))
 (ob (Ya t0 t5) fun x11 =>
 (cond (x11.2.2.1 != (wr .i64 ((wr .i64 (t1 + 1)) + 1)))
 (some (.inr (.inr (((-1), ()), ()))))
 (ob (Ya t0 t5) fun x12 =>
 (cond (x12.2.2.2.1 != (wr .i64 ((wr .i64 ((wr .i64 (t1 + 1)) + 1)) + 1)))
 (some (.inr (.inr (((-1), ()), ()))))
 (some (.inl ((t0, (wr .i64 ((wr .i64 ((wr .i64 ((wr .i64 (t1 + 1)) + 1)) + 1)) + 1)), (wr .i64 (t5 + 1)), ()), ())))))))))))
 (some (.inr (.inl ((t1, ()), ())))))
def UG := Ua fun x : Zaf => Rn x.1.1 x.1.2.1 x.1.2.2.1
def QK (a0 : Sl) (a1 : Int) : Option Gc :=
 (ob (UG ((a0, a1, 0, ()), ())) (se (fun y13 => (some (y13.1.1, ()))) (fun z14 => (some (z14.1.1, ())))))
def Jm (t0 : Cj) (t1 : Int) (t5 : Int) : Option ((SL × Unit) ⊕ NF) :=
 (cond (decide (t5 < ((ln t0 : Nat) : Int)))
 (ob (Ya t0 t5) fun x5 =>
 (ob (QK x5 t1) fun r6 =>
 (cond (decide (r6.1 < 0))
 (some (.inr (.inr (((-1), ()), ()))))
 (some (.inl ((t0, r6.1, (wr .i64 (t5 + 1)), ()), ()))))))
 (some (.inr (.inl ((t1, ()), ())))))
def HE := Ua fun x : (SL × Unit) => Jm x.1.1 x.1.2.1 x.1.2.2.1
def LH (a0 : Cj) (a1 : Int) : Option Gc :=
 (ob (HE ((a0, a1, 0, ()), ())) (se (fun y7 => (some (y7.1.1, ()))) (fun z8 => (some (z8.1.1, ())))))
def AC (a0 : Xb) (a1 : Int) : Option Gc :=
 (ob (LH a0.2.1 a1) fun r1 =>
 (cond (decide (r1.1 < 0))
 (some ((-1), ()))
 (some (r1.1, ()))))
def ZM (a0 : Uc) (a1 : Int) : Option Gc :=
 (cond (decide ((wr .i64 (a1 - ((ln a0 : Nat) : Int))) < 0))
 (some ((-1), ()))
 (some ((wr .i64 (a1 - ((ln a0 : Nat) : Int))), ())))
def Xn (t1 : Unit) (t3 : Int) (b1 : Qb) : Option ((Zj × XR) ⊕ ((Ke × XR) ⊕ Am)) :=
 (cond (decide (t3 < ((ln b1.2.2.2.2.2.1 : Nat) : Int)))
 (ob (Ya b1.2.2.2.2.2.1 t3) fun x8 =>
 (ob (Sb x8 0 99) fun r9 =>
 (cond (!r9.1)
 (some (.inr (.inr ((false, ()), ()))))
 (some (.inl (((), (wr .i64 (t3 + 1)), ()), (b1, ())))))))
 (some (.inr (.inl (((), ()), (b1, ()))))))
def Iq := Ua fun x : (Zj × XR) => Xn x.1.1 x.1.2.1 x.2.1
def Gp (a0 : Qb) : Option Wc :=
 (ob (Sb a0.1 0 2) fun r1 =>
 (cond (!r1.1)
 (some (false, ()))
 (ob (Sb a0.2.1 1 20) fun r2 =>
 (cond (!r2.1)
 (some (false, ()))
 (ob (Sb a0.2.2.1 1 24) fun r3 =>
 (cond (!r3.1)
 (some (false, ()))
 (cond (((ln a0.2.2.2.2.2.1 : Nat) : Int) != a0.2.2.1)
 (some (false, ()))
 (ob (Iq (((), 0, ()), (a0, ()))) (se (fun y10 => (cond (decide (0 ≤ y10.2.1.2.2.1))
 (ob (Sb y10.2.1.2.2.2.1 0 (wr .i64 ((Qa .i64 1 y10.2.1.2.2.1) - 1))) fun r12 =>
 (cond r12.1
 (cond (decide (0 ≤ y10.2.1.2.2.1))
 (ob (Sb y10.2.1.2.2.2.2.1 0 (wr .i64 ((Qa .i64 1 y10.2.1.2.2.1) - 1))) fun r13 =>
 (some (r13.1, ())))
 none)
 (some (false, ()))))
 none)) (fun z11 => (some (z11.1.1, ()))))))))))))
def Vu (t0 : Int) (t3 : Int) (t4 : Int) : Option (OF ⊕ Rw) :=
 (cond (decide (t4 ≤ 31))
 (cond (decide (0 ≤ t4))
 (some (.inl ((t0, (wr .i64 (t3 + (Va .i64 (Vb .i64 t0 t4) 1))), (wr .i64 (t4 + 1)), ()), ())))
 none)
 (some (.inr (.inl ((t3, ()), ())))))
def Py := Ua fun x : OF => Vu x.1.1 x.1.2.1 x.1.2.2.1
def Yz (a0 : Int) : Option Gc :=
 (ob (Py ((a0, 0, 0, ()), ())) (se (fun y1 => (some (y1.1.1, ()))) (fun z2 => none)))
def Ou (t0 : Je) (t3 : Int) (t4 : Int) : Option (TP ⊕ (C8 ⊕ Am)) :=
 (cond (decide (t4 < t3))
 (ob (Ya t0 t4) fun x58 =>
 (ob (Ya t0 t3) fun x59 =>
 (cond (x58.1 == x59.1)
 (some (.inr (.inr ((false, ()), ()))))
 (ob (Ya t0 t4) fun x60 =>
 (ob (Ya t0 t3) fun x61 =>
 (cond (x60.2.1 == x61.2.1)
 (some (.inr (.inr ((false, ()), ()))))
 (some (.inl ((t0, t3, (wr .i64 (t4 + 1)), ()), ())))))))))
 (some (.inr (.inl ((t0, t3, ()), ())))))
def Jy := Ua fun x : TP => Ou x.1.1 x.1.2.1 x.1.2.2.1
def Nu (t0 : Je) (t3 : Int) : Option (C8 ⊕ (((Je × Unit) × Unit) ⊕ Am)) :=
 (cond (decide (t3 < ((ln t0 : Nat) : Int)))
 (ob (Ya t0 t3) fun x43 =>
 (ob (Sb x43.1 0 16777215) fun r44 =>
 (cond (!r44.1)
 (some (.inr (.inr ((false, ()), ()))))
 (ob (Ya t0 t3) fun x45 =>
 (ob (Yz x45.1) fun r46 =>
 (ob (Sb r46.1 2 4) fun r47 =>
 (cond (!r47.1)
 (some (.inr (.inr ((false, ()), ()))))
 (ob (Ya t0 t3) fun x48 =>
 (ob (Sb x48.2.1 24 31) fun r49 =>
 (cond (!r49.1)
 (some (.inr (.inr ((false, ()), ()))))
 (ob (Jy ((t0, t3, 0, ()), ())) (se (fun y62 => (some (.inl ((y62.1.1, (wr .i64 (y62.1.2.1 + 1)), ()), ())))) (fun z63 => (some (.inr (.inr ((z63.1.1, ()), ())))))))))))))))))
 (some (.inr (.inl ((t0, ()), ())))))
def Iy := Ua fun x : C8 => Nu x.1.1 x.1.2.1
def Tz (a0 : Je) : Option Wc :=
 (ob (Iy ((a0, 0, ()), ())) (se (fun y64 => (some ((decide (((ln y64.1.1 : Nat) : Int) ≤ 8)), ()))) (fun z65 => (some (z65.1.1, ())))))
def Sy (t0 : Je) (t1 : Int) (t5 : Int) : Option (TP ⊕ HX) :=
 (cond (decide (t5 < ((ln t0 : Nat) : Int)))
 (ob (Ya t0 t5) fun x5 =>
 (cond (x5.2.1 == t1)
 (ob (Ya t0 t5) fun x6 =>
 (some (.inr (.inr ((x6.1, ()), ())))))
 (some (.inl ((t0, t1, (wr .i64 (t5 + 1)), ()), ())))))
 (some (.inr (.inl ((), ())))))
def AB := Ua fun x : TP => Sy x.1.1 x.1.2.1 x.1.2.2.1
def XE (a0 : Je) (a1 : Int) : Option Gc :=
 (ob (AB ((a0, a1, 0, ()), ())) (se (fun y7 => (some (0, ()))) (fun z8 => (some (z8.1.1, ())))))
def Bq (t1 : Unit) (t3 : Int) (t4 : Int) (t5 : Unit) (t7 : Int) (b1 : Pa) (b5 : Ca) : Option (((Unit × (Int × (Int × Zj))) × (Pa × Nh)) ⊕ (((Unit × (Int × (Int × Ke))) × (Pa × Nh)) ⊕ Am)) :=
 (cond (decide (t7 < t4))
 (ob (Ya b1.2.2.2.2.2.2.1 t7) fun x19 =>
 (cond (x19.1 == b5.1)
 (some (.inr (.inr ((false, ()), ()))))
 (some (.inl (((), t3, t4, (), (wr .i64 (t7 + 1)), ()), (b1, b5, ()))))))
 (some (.inr (.inl (((), t3, t4, (), ()), (b1, b5, ()))))))
def Ht := Ua fun x : ((Unit × (Int × (Int × Zj))) × (Pa × Nh)) => Bq x.1.1 x.1.2.1 x.1.2.2.1 x.1.2.2.2.1 x.1.2.2.2.2.1 x.2.1 x.2.2.1
def Js (t1 : Unit) (t3 : Int) (t4 : Int) (b1 : Pa) : Option (DU ⊕ ((Ke × JF) ⊕ Am)) :=
 (cond (decide (t4 < ((ln b1.2.2.2.2.2.2.1 : Nat) : Int)))
 (ob (Ya b1.2.2.2.2.2.2.1 t4) fun x15 =>
 (ob (XE b1.1 x15.1) fun r16 =>
 (cond (decide (x15.2.1 ≤ 0))
 (some (.inr (.inr ((false, ()), ()))))
 (cond ((Mb .i64 x15.2.1 r16.1) != 0)
 (some (.inr (.inr ((false, ()), ()))))
 (cond (x15.2.2.1 != (x15.2.1 == r16.1))
 (some (.inr (.inr ((false, ()), ()))))
 (cond ((Va .i64 x15.2.1 t3) != 0)
 (some (.inr (.inr ((false, ()), ()))))
 (ob (Ht (((), t3, t4, (), 0, ()), (b1, x15, ()))) (se (fun y20 => (some (.inl (((), (Nc .i64 y20.1.2.1 y20.2.2.1.2.1), (wr .i64 (y20.1.2.2.1 + 1)), ()), (y20.2.1, ()))))) (fun z21 => (some (.inr (.inr ((z21.1.1, ()), ())))))))))))))
 (some (.inr (.inl (((), ()), (b1, ()))))))
def Fw := Ua fun x : DU => Js x.1.1 x.1.2.1 x.1.2.2.1 x.2.1
def RG (a0 : Pa) : Option Wc :=
 (ob (Fw (((), a0.2.2.2.2.2.1, 0, ()), (a0, ()))) (se (fun y22 => (ob (Sb y22.2.1.2.2.2.2.2.1 0 16777215) fun r24 =>
 (some (r24.1, ())))) (fun z23 => (some (z23.1.1, ())))))
def Ry (t1 : Unit) (t3 : Int) (t4 : Int) (b1 : Pa) : Option (DU ⊕ Rw) :=
 (cond (decide (t4 < ((ln b1.2.2.2.2.2.2.1 : Nat) : Int)))
 (ob (Ya b1.2.2.2.2.2.2.1 t4) fun x3 =>
 (some (.inl (((), (Nc .i64 t3 x3.2.1), (wr .i64 (t4 + 1)), ()), (b1, ())))))
 (some (.inr (.inl ((t3, ()), ())))))
def ZA := Ua fun x : DU => Ry x.1.1 x.1.2.1 x.1.2.2.1 x.2.1
def Gw (a0 : Pa) : Option Gc :=
 (ob (ZA (((), a0.2.2.2.2.2.1, 0, ()), (a0, ()))) (se (fun y4 => (some (y4.1.1, ()))) (fun z5 => none)))
def Aw (a0 : Ca) : Option Wc :=
 (ob (Sb a0.1 0 1000000) fun r1 =>
 (cond r1.1
 (ob (Sb a0.2.1 0 31) fun r2 =>
 (some (r2.1, ())))
 (some (false, ()))))
def Aq (t0 : Ae) (t1 : Int) (t2 : Int) (t3 : Int) (t9 : Int) : Option (((Ae × Cb) × Unit) ⊕ ((LF × Unit) ⊕ Am)) :=
 (cond (decide (t9 < ((ln t0 : Nat) : Int)))
 (ob (Ya t0 t9) fun x17 =>
 (ob (Aw x17) fun r18 =>
 (cond (!r18.1)
 (some (.inr (.inr ((false, ()), ()))))
 (ob (Ya t0 t9) fun x19 =>
 (cond (decide (x19.2.1 ≥ t2))
 (some (.inr (.inr ((false, ()), ()))))
 (ob (Ya t0 t9) fun x20 =>
 (cond (decide (x20.1 < t3))
 (some (.inr (.inr ((false, ()), ()))))
 (ob (Ya t0 t9) fun x21 =>
 (ob (Ya t0 t9) fun x22 =>
 (cond (decide (0 ≤ x22.2.1))
 (cond (x21.2.2.1 == ((Va .i64 (Vb .i64 t1 x22.2.1) 1) == 1))
 (some (.inr (.inr ((false, ()), ()))))
 (ob (Ya t0 t9) fun x23 =>
 (ob (Ya t0 t9) fun x24 =>
 (cond (decide (0 ≤ x24.2.1))
 (some (.inl ((t0, (Za .i64 t1 (Qa .i64 1 x24.2.1)), t2, x23.1, (wr .i64 (t9 + 1)), ()), ())))
 none))))
 none))))))))))
 (some (.inr (.inl ((t0, ()), ())))))
def Gt := Ua fun x : ((Ae × Cb) × Unit) => Aq x.1.1 x.1.2.1 x.1.2.2.1 x.1.2.2.2.1 x.1.2.2.2.2.1
def Fk (a0 : Ae) (a1 : Int) (a2 : Int) (a3 : Int) : Option Wc :=
 (ob (Gt ((a0, a1, a2, a3, 0, ()), ())) (se (fun y25 => (some ((decide (((ln y25.1.1 : Nat) : Int) ≤ 64)), ()))) (fun z26 => (some (z26.1.1, ())))))
def Cs (a0 : Pa) : Option Wc :=
 (ob (Tz a0.1) fun r1 =>
 (cond (!r1.1)
 (some (false, ()))
 (ob (Sb a0.2.1 1 200) fun r2 =>
 (cond (!r2.1)
 (some (false, ()))
 (ob (Sb a0.2.2.2.1 0 1000000) fun r3 =>
 (cond (!r3.1)
 (some (false, ()))
 (ob (Sb a0.2.2.2.2.1 0 a0.2.2.2.1) fun r4 =>
 (cond (!r4.1)
 (some (false, ()))
 (ob (RG a0) fun r5 =>
 (cond (!r5.1)
 (some (false, ()))
 (ob (Gw a0) fun r6 =>
 (ob (Fk a0.2.2.1 r6.1 24 0) fun r7 =>
 (cond r7.1
 (cond (((ln a0.2.2.1 : Nat) : Int) == 0)
 (some (true, ()))
 (ob (Ya a0.2.2.1 (wr .i64 (((ln a0.2.2.1 : Nat) : Int) - 1))) fun x8 =>
 (some ((decide (x8.1 ≤ a0.2.2.2.1)), ()))))
 (some (false, ())))))))))))))))
def VE (a0 : Pa) : Option JF :=
 (cond (bl (ln ([] : List Wa) + ln a0.1) Sa)
 (cond (bl (ln ([] : List Ca) + ln a0.2.2.1) Sa)
 (cond (bl (ln ([] : List Ca) + ln a0.2.2.2.2.2.2.1) Sa)
 (some (((ap [] a0.1), a0.2.1, (ap [] a0.2.2.1), a0.2.2.2.1, a0.2.2.2.2.1, a0.2.2.2.2.2.1, (ap [] a0.2.2.2.2.2.2.1), a0.2.2.2.2.2.2.2), ()))
 none)
 none)
 none)
def Wz (a0 : Zc) : Option Wc :=
 (ob (Sb a0.1 1 1000) fun r1 =>
 (cond r1.1
 (ob (Sb a0.2.1 0 1000) fun r2 =>
 (cond r2.1
 (ob (Sb a0.2.2.1 0 2) fun r3 =>
 (some (r3.1, ())))
 (some (false, ()))))
 (some (false, ()))))
def Ft (a0 : Int) : Option Gc :=
 (ob (Sb a0 0 31) fun r1 =>
 (cond (!r1.1)
 (some (0, ()))
 (cond (decide (0 ≤ a0))
 (some ((Qa .i64 1 a0), ()))
 none)))
def Ny (t1 : Unit) (t3 : Int) (t4 : Int) (b1 : Hb) : Option ((Qw × Zl) ⊕ Rw) :=
 (cond (decide (t4 < ((ln b1.2.2.2.1 : Nat) : Int)))
 (ob (Ya b1.2.2.2.1 t4) fun x5 =>
 (ob (Ft x5.1) fun r6 =>
 (some (.inl (((), (Nc .i64 t3 r6.1), (wr .i64 (t4 + 1)), ()), (b1, ()))))))
 (some (.inr (.inl ((t3, ()), ())))))
def XA := Ua fun x : (Qw × Zl) => Ny x.1.1 x.1.2.1 x.1.2.2.1 x.2.1
def Ew (a0 : Hb) : Option Gc :=
 (ob (XA (((), 0, 0, ()), (a0, ()))) (se (fun y7 => (some (y7.1.1, ()))) (fun z8 => none)))
def Zv (a0 : Gb) : Option Wc :=
 (ob (Pq a0.1) fun r1 =>
 (cond (!r1.1)
 (some (false, ()))
 (ob (Wz a0.2.1) fun r2 =>
 (cond (!r2.1)
 (some (false, ()))
 (ob (Sb a0.2.2.2.1 0 1000000) fun r3 =>
 (cond (!r3.1)
 (some (false, ()))
 (ob (Sb a0.2.2.2.2.1 0 a0.2.2.2.1) fun r4 =>
 (cond (!r4.1)
 (some (false, ()))
 (ob (Ew a0.1) fun r5 =>
 (ob (Fk a0.2.2.1 r5.1 a0.1.1.1 0) fun r6 =>
 (cond (!r6.1)
 (some (false, ()))
 (cond (decide (((ln a0.2.2.1 : Nat) : Int) > 0))
 (ob (Ya a0.2.2.1 (wr .i64 (((ln a0.2.2.1 : Nat) : Int) - 1))) fun x7 =>
 (cond (decide (x7.1 > a0.2.2.2.1))
 (some (false, ()))
 (ob (Sb a0.2.2.2.2.2.1 0 a0.1.1.1) fun r8 =>
 (cond r8.1
 (ob (Sb a0.2.2.2.2.2.2.1 0 a0.2.2.2.1) fun r9 =>
 (some (r9.1, ())))
 (some (false, ()))))))
 (ob (Sb a0.2.2.2.2.2.1 0 a0.1.1.1) fun r10 =>
 (cond r10.1
 (ob (Sb a0.2.2.2.2.2.2.1 0 a0.2.2.2.1) fun r11 =>
 (some (r11.1, ())))
 (some (false, ()))))))))))))))))
def Cq (t0 : Int) (t1 : Ae) (t5 : Int) : Option (((Int × VL) × Unit) ⊕ Rw) :=
 (cond (decide (t5 < ((ln t1 : Nat) : Int)))
 (ob (Ya t1 t5) fun x5 =>
 (ob (Ft x5.2.1) fun r6 =>
 (some (.inl (((Za .i64 t0 r6.1), t1, (wr .i64 (t5 + 1)), ()), ())))))
 (some (.inr (.inl ((t0, ()), ())))))
def It := Ua fun x : ((Int × VL) × Unit) => Cq x.1.1 x.1.2.1 x.1.2.2.1
def Ms (a0 : Int) (a1 : Ae) : Option Gc :=
 (ob (It ((a0, a1, 0, ()), ())) (se (fun y7 => (some (y7.1.1, ()))) (fun z8 => none)))
def WC (t1 : Unit) (t3 : Int) (t4 : Int) (b1 : Pa) : Option (DU ⊕ Rw) :=
 (cond (decide (t4 < ((ln b1.2.2.2.2.2.2.1 : Nat) : Int)))
 (ob (Ya b1.2.2.2.2.2.2.1 t4) fun x7 =>
 (cond x7.2.2.1
 (ob (Ya b1.2.2.2.2.2.2.1 t4) fun x8 =>
 (ob (Ft x8.1) fun r9 =>
 (some (.inl (((), (Nc .i64 t3 r9.1), (wr .i64 (t4 + 1)), ()), (b1, ()))))))
 (some (.inl (((), t3, (wr .i64 (t4 + 1)), ()), (b1, ()))))))
 (some (.inr (.inl ((t3, ()), ())))))
def ZE := Ua fun x : DU => WC x.1.1 x.1.2.1 x.1.2.2.1 x.2.1
def GQ (a0 : Pa) : Option Gc :=
 (ob (ZE (((), a0.2.2.2.2.2.1, 0, ()), (a0, ()))) (se (fun y10 => (some (y10.1.1, ()))) (fun z11 => none)))
def Hy (t1 : Unit) (t4 : Int) (t5 : Int) (b1 : Jd) : Option ((Qw × QP) ⊕ ((Ke × QP) ⊕ Am)) :=
 (cond (decide (t5 < ((ln b1.2.2.1.1 : Nat) : Int)))
 (ob (Ya b1.2.2.1.1 t5) fun x12 =>
 (ob (Jo b1.1 x12.1) fun r13 =>
 (cond (!r13.1)
 (some (.inr (.inr ((false, ()), ()))))
 (ob (Ya b1.2.2.1.1 t5) fun x14 =>
 (cond (decide (x14.2.1 ≥ t4))
 (some (.inr (.inr ((false, ()), ()))))
 (some (.inl (((), t4, (wr .i64 (t5 + 1)), ()), (b1, ())))))))))
 (some (.inr (.inl (((), ()), (b1, ()))))))
def VA := Ua fun x : (Qw × QP) => Hy x.1.1 x.1.2.1 x.1.2.2.1 x.2.1
def RE (a0 : Jd) : Option Wc :=
 (ob (Ok a0.1) fun r1 =>
 (cond (r1.1 == 0)
 (some (false, ()))
 (ob (Gp a0.2.1) fun r2 =>
 (cond (!r2.1)
 (some (false, ()))
 (cond (a0.2.1.2.2.1 != r1.1)
 (some (false, ()))
 (ob (Jo a0.1 a0.2.2.2.2.1) fun r3 =>
 (cond (!r3.1)
 (some (false, ()))
 (ob (Cs a0.2.2.1) fun r4 =>
 (cond (!r4.1)
 (some (false, ()))
 (ob (Zv a0.2.2.2.1) fun r5 =>
 (cond (!r5.1)
 (some (false, ()))
 (cond (decide (a0.2.2.2.1.1.1.1 < r1.1))
 (some (false, ()))
 (ob (VA (((), a0.2.2.2.1.1.1.1, 0, ()), (a0, ()))) (se (fun y15 => (ob (Sb y15.2.1.2.2.2.2.2.1 0 1000000) fun r17 =>
 (cond (!r17.1)
 (some (false, ()))
 (cond (decide (y15.2.1.2.2.1.2.2.2.1 > y15.2.1.2.2.2.2.2.1))
 (some (false, ()))
 (cond (decide (y15.2.1.2.2.2.1.2.2.2.1 > y15.2.1.2.2.2.2.2.1))
 (some (false, ()))
 (ob (Gw y15.2.1.2.2.1) fun r18 =>
 (ob (Ms r18.1 y15.2.1.2.2.1.2.2.1) fun r19 =>
 (cond (r19.1 == y15.2.1.2.1.2.2.2.1)
 (ob (Ew y15.2.1.2.2.2.1.1) fun r20 =>
 (ob (Ms r20.1 y15.2.1.2.2.2.1.2.2.1) fun r21 =>
 (ob (GQ y15.2.1.2.2.1) fun r22 =>
 (some ((r21.1 == r22.1), ())))))
 (some (false, ())))))))))) (fun z16 => (some (z16.1.1, ())))))))))))))))))
def Ln (t66 : Uc) (t67 : Int) (t68 : Int) : Option ((OP × Unit) ⊕ Sk) :=
 (cond (decide (t68 < t67))
 (ob (Ya t66 t68) fun x3 =>
 (cond (decide (x3 < 0))
 (some (.inr (.inr ((false, ()), ()))))
 (cond (decide (x3 > 99))
 (some (.inr (.inr ((false, ()), ()))))
 (some (.inl ((t66, t67, (wr .i64 (t68 + 1)), ()), ()))))))
 (some (.inr (.inl ((), ())))))
def Hq := Ua fun x : (OP × Unit) => Ln x.1.1 x.1.2.1 x.1.2.2.1
def Vo (a0 : Qb) : Option Wc :=
 (cond (decide (a0.1 < 0))
 (some (false, ()))
 (cond (decide (a0.1 > 2))
 (some (false, ()))
 (cond (decide (a0.2.1 < 1))
 (some (false, ()))
 (cond (decide (a0.2.1 > 20))
 (some (false, ()))
 (cond (decide (a0.2.2.1 < 1))
 (some (false, ()))
 (cond (decide (a0.2.2.1 > 24))
 (some (false, ()))
 (cond (((ln a0.2.2.2.2.2.1 : Nat) : Int) != a0.2.2.1)
 (some (false, ()))
 (cond (decide (a0.2.2.2.1 < 0))
 (some (false, ()))
 (cond (decide (0 ≤ a0.2.2.1))
 (cond (decide (a0.2.2.2.1 ≥ (Qa .i64 1 a0.2.2.1)))
 (some (false, ()))
 (cond (decide (a0.2.2.2.2.1 < 0))
 (some (false, ()))
 (cond (decide (0 ≤ a0.2.2.1))
 (cond (decide (a0.2.2.2.2.1 ≥ (Qa .i64 1 a0.2.2.1)))
 (some (false, ()))
 (ob (Hq ((a0.2.2.2.2.2.1, ((ln a0.2.2.2.2.2.1 : Nat) : Int), 0, ()), ())) (se (fun y4 => (some (true, ()))) (fun z5 => (some (z5.1.1, ()))))))
 none)))
 none)))))))))
def T5 (a0 : Int) : Option Gc :=
 (cond (decide ((0 : Int) ≤ 24))
 (ob (Ya Jag (Vb .u32 a0 24)) fun c1 =>
 (cond (decide ((0 : Int) ≤ 16))
 (ob (Ya Jag (Va .u32 (Vb .u32 a0 16) 255)) fun c2 =>
 (cond (decide ((0 : Int) ≤ 8))
 (ob (Ya Jag (Va .u32 (Vb .u32 a0 8) 255)) fun c3 =>
 (ob (Ya Jag (Va .u32 a0 255)) fun c4 =>
 (some ((wr .i64 (wr .u8 ((wr .u8 ((wr .u8 (((UInt8.toNat c1 : Nat) : Int) + ((UInt8.toNat c2 : Nat) : Int))) + ((UInt8.toNat c3 : Nat) : Int))) + ((UInt8.toNat c4 : Nat) : Int)))), ()))))
 none))
 none))
 none)
def GK (a0 : Int) : Option Gc :=
 (cond (decide ((0 : Int) ≤ 1))
 (cond (decide ((0 : Int) ≤ 2))
 (cond (decide ((0 : Int) ≤ 4))
 (cond (decide ((0 : Int) ≤ 8))
 (cond (decide ((0 : Int) ≤ 16))
 (cond (decide ((0 : Int) ≤ 32))
 (some ((Va .i64 (wr .i64 (wr .u64 ((wr .u64 ((wr .u64 ((Va .u64 (wr .u64 ((Vb .u64 (wr .u64 ((Va .u64 (Vb .u64 (wr .u64 ((Va .u64 (Vb .u64 a0 1) 6148914691236517205) + (Va .u64 a0 6148914691236517205))) 2) 3689348814741910323) + (Va .u64 (wr .u64 ((Va .u64 (Vb .u64 a0 1) 6148914691236517205) + (Va .u64 a0 6148914691236517205))) 3689348814741910323))) 4) + (wr .u64 ((Va .u64 (Vb .u64 (wr .u64 ((Va .u64 (Vb .u64 a0 1) 6148914691236517205) + (Va .u64 a0 6148914691236517205))) 2) 3689348814741910323) + (Va .u64 (wr .u64 ((Va .u64 (Vb .u64 a0 1) 6148914691236517205) + (Va .u64 a0 6148914691236517205))) 3689348814741910323))))) 1085102592571150095) + (Vb .u64 (Va .u64 (wr .u64 ((Vb .u64 (wr .u64 ((Va .u64 (Vb .u64 (wr .u64 ((Va .u64 (Vb .u64 a0 1) 6148914691236517205) + (Va .u64 a0 6148914691236517205))) 2) 3689348814741910323) + (Va .u64 (wr .u64 ((Va .u64 (Vb .u64 a0 1) 6148914691236517205) + (Va .u64 a0 6148914691236517205))) 3689348814741910323))) 4) + (wr .u64 ((Va .u64 (Vb .u64 (wr .u64 ((Va .u64 (Vb .u64 a0 1) 6148914691236517205) + (Va .u64 a0 6148914691236517205))) 2) 3689348814741910323) + (Va .u64 (wr .u64 ((Va .u64 (Vb .u64 a0 1) 6148914691236517205) + (Va .u64 a0 6148914691236517205))) 3689348814741910323))))) 1085102592571150095) 8))) + (Vb .u64 (wr .u64 ((Va .u64 (wr .u64 ((Vb .u64 (wr .u64 ((Va .u64 (Vb .u64 (wr .u64 ((Va .u64 (Vb .u64 a0 1) 6148914691236517205) + (Va .u64 a0 6148914691236517205))) 2) 3689348814741910323) + (Va .u64 (wr .u64 ((Va .u64 (Vb .u64 a0 1) 6148914691236517205) + (Va .u64 a0 6148914691236517205))) 3689348814741910323))) 4) + (wr .u64 ((Va .u64 (Vb .u64 (wr .u64 ((Va .u64 (Vb .u64 a0 1) 6148914691236517205) + (Va .u64 a0 6148914691236517205))) 2) 3689348814741910323) + (Va .u64 (wr .u64 ((Va .u64 (Vb .u64 a0 1) 6148914691236517205) + (Va .u64 a0 6148914691236517205))) 3689348814741910323))))) 1085102592571150095) + (Vb .u64 (Va .u64 (wr .u64 ((Vb .u64 (wr .u64 ((Va .u64 (Vb .u64 (wr .u64 ((Va .u64 (Vb .u64 a0 1) 6148914691236517205) + (Va .u64 a0 6148914691236517205))) 2) 3689348814741910323) + (Va .u64 (wr .u64 ((Va .u64 (Vb .u64 a0 1) 6148914691236517205) + (Va .u64 a0 6148914691236517205))) 3689348814741910323))) 4) + (wr .u64 ((Va .u64 (Vb .u64 (wr .u64 ((Va .u64 (Vb .u64 a0 1) 6148914691236517205) + (Va .u64 a0 6148914691236517205))) 2) 3689348814741910323) + (Va .u64 (wr .u64 ((Va .u64 (Vb .u64 a0 1) 6148914691236517205) + (Va .u64 a0 6148914691236517205))) 3689348814741910323))))) 1085102592571150095) 8))) 16))) + (Vb .u64 (wr .u64 ((wr .u64 ((Va .u64 (wr .u64 ((Vb .u64 (wr .u64 ((Va .u64 (Vb .u64 (wr .u64 ((Va .u64 (Vb .u64 a0 1) 6148914691236517205) + (Va .u64 a0 6148914691236517205))) 2) 3689348814741910323) + (Va .u64 (wr .u64 ((Va .u64 (Vb .u64 a0 1) 6148914691236517205) + (Va .u64 a0 6148914691236517205))) 3689348814741910323))) 4) + (wr .u64 ((Va .u64 (Vb .u64 (wr .u64 ((Va .u64 (Vb .u64 a0 1) 6148914691236517205) + (Va .u64 a0 6148914691236517205))) 2) 3689348814741910323) + (Va .u64 (wr .u64 ((Va .u64 (Vb .u64 a0 1) 6148914691236517205) + (Va .u64 a0 6148914691236517205))) 3689348814741910323))))) 1085102592571150095) + (Vb .u64 (Va .u64 (wr .u64 ((Vb .u64 (wr .u64 ((Va .u64 (Vb .u64 (wr .u64 ((Va .u64 (Vb .u64 a0 1) 6148914691236517205) + (Va .u64 a0 6148914691236517205))) 2) 3689348814741910323) + (Va .u64 (wr .u64 ((Va .u64 (Vb .u64 a0 1) 6148914691236517205) + (Va .u64 a0 6148914691236517205))) 3689348814741910323))) 4) + (wr .u64 ((Va .u64 (Vb .u64 (wr .u64 ((Va .u64 (Vb .u64 a0 1) 6148914691236517205) + (Va .u64 a0 6148914691236517205))) 2) 3689348814741910323) + (Va .u64 (wr .u64 ((Va .u64 (Vb .u64 a0 1) 6148914691236517205) + (Va .u64 a0 6148914691236517205))) 3689348814741910323))))) 1085102592571150095) 8))) + (Vb .u64 (wr .u64 ((Va .u64 (wr .u64 ((Vb .u64 (wr .u64 ((Va .u64 (Vb .u64 (wr .u64 ((Va .u64 (Vb .u64 a0 1) 6148914691236517205) + (Va .u64 a0 6148914691236517205))) 2) 3689348814741910323) + (Va .u64 (wr .u64 ((Va .u64 (Vb .u64 a0 1) 6148914691236517205) + (Va .u64 a0 6148914691236517205))) 3689348814741910323))) 4) + (wr .u64 ((Va .u64 (Vb .u64 (wr .u64 ((Va .u64 (Vb .u64 a0 1) 6148914691236517205) + (Va .u64 a0 6148914691236517205))) 2) 3689348814741910323) + (Va .u64 (wr .u64 ((Va .u64 (Vb .u64 a0 1) 6148914691236517205) + (Va .u64 a0 6148914691236517205))) 3689348814741910323))))) 1085102592571150095) + (Vb .u64 (Va .u64 (wr .u64 ((Vb .u64 (wr .u64 ((Va .u64 (Vb .u64 (wr .u64 ((Va .u64 (Vb .u64 a0 1) 6148914691236517205) + (Va .u64 a0 6148914691236517205))) 2) 3689348814741910323) + (Va .u64 (wr .u64 ((Va .u64 (Vb .u64 a0 1) 6148914691236517205) + (Va .u64 a0 6148914691236517205))) 3689348814741910323))) 4) + (wr .u64 ((Va .u64 (Vb .u64 (wr .u64 ((Va .u64 (Vb .u64 a0 1) 6148914691236517205) + (Va .u64 a0 6148914691236517205))) 2) 3689348814741910323) + (Va .u64 (wr .u64 ((Va .u64 (Vb .u64 a0 1) 6148914691236517205) + (Va .u64 a0 6148914691236517205))) 3689348814741910323))))) 1085102592571150095) 8))) 16))) 32)))) 127), ()))
 none)
 none)
 none)
 none)
 none)
 none)
def PF (a0 : Int) : Option Gc :=
 (ob (GK a0) fun r1 =>
 (some (r1.1, ())))
def Zq (t0 : Je) (t4 : Unit) (t11 : Je) (t12 : Int) (t13 : Int) (t48 : Je) (t49 : Int) (t50 : Int) (b4 : Wa) : Option (Pay ⊕ (((Je × Sq) × Unit) ⊕ Am)) :=
 (cond (decide (t50 < t49))
 (ob (Ya t48 t50) fun x19 =>
 (cond (x19.1 == b4.1)
 (some (.inr (.inr ((false, ()), ()))))
 (cond (x19.2.1 == b4.2.1)
 (some (.inr (.inr ((false, ()), ()))))
 (some (.inl ((t0, (), t11, t12, t13, t48, t49, (wr .i64 (t50 + 1)), ()), (b4, ())))))))
 (some (.inr (.inl ((t0, t11, t12, t13, ()), ())))))
def Hv := Ua fun x : Pay => Zq x.1.1 x.1.2.1 x.1.2.2.1 x.1.2.2.2.1 x.1.2.2.2.2.1 x.1.2.2.2.2.2.1 x.1.2.2.2.2.2.2.1 x.1.2.2.2.2.2.2.2.1 x.2.1
def Ut (t0 : Je) (t11 : Je) (t12 : Int) (t13 : Int) : Option (((Je × Sq) × Unit) ⊕ Sk) :=
 (cond (decide (t13 < t12))
 (ob (Ya t11 t13) fun x15 =>
 (cond (decide (x15.1 < 0))
 (some (.inr (.inr ((false, ()), ()))))
 (cond (decide (x15.1 > 16777215))
 (some (.inr (.inr ((false, ()), ()))))
 (cond (decide (x15.2.1 < 24))
 (some (.inr (.inr ((false, ()), ()))))
 (cond (decide (x15.2.1 > 31))
 (some (.inr (.inr ((false, ()), ()))))
 (ob (PF (wr .u64 x15.1)) fun r16 =>
 (cond (decide (r16.1 < 2))
 (some (.inr (.inr ((false, ()), ()))))
 (cond (decide (r16.1 > 4))
 (some (.inr (.inr ((false, ()), ()))))
 (cond (Ld (ln t0) 0 t13)
 (ob (Hv ((t0, (), t11, t12, t13, (Eb t0 (tn 0) (tn t13)), ((ln (Eb t0 (tn 0) (tn t13)) : Nat) : Int), 0, ()), (x15, ()))) (se (fun y20 => (some (.inl ((y20.1.1, y20.1.2.1, y20.1.2.2.1, (wr .i64 (y20.1.2.2.2.1 + 1)), ()), ())))) (fun z21 => (some (.inr (.inr ((z21.1.1, ()), ())))))))
 none)))))))))
 (some (.inr (.inl ((), ())))))
def Hx := Ua fun x : ((Je × Sq) × Unit) => Ut x.1.1 x.1.2.1 x.1.2.2.1 x.1.2.2.2.1
def Gz (a0 : Je) : Option Wc :=
 (cond (decide (((ln a0 : Nat) : Int) > 8))
 (some (false, ()))
 (ob (Hx ((a0, a0, ((ln a0 : Nat) : Int), 0, ()), ())) (se (fun y22 => (some (true, ()))) (fun z23 => (some (z23.1.1, ()))))))
def Mx (t1 : Int) (t4 : Unit) (t8 : Je) (t9 : Int) (t10 : Int) (b4 : Wa) : Option (((Int × (Unit × Sq)) × TL) ⊕ ((Ke × TL) ⊕ ((Unit × Wc) × TL))) :=
 (cond (decide (t10 < t9))
 (ob (Ya t8 t10) fun x3 =>
 (cond (x3.2.1 == t1)
 (some (.inr (.inr (((), true, ()), (x3, ())))))
 (some (.inl ((t1, (), t8, t9, (wr .i64 (t10 + 1)), ()), (b4, ()))))))
 (some (.inr (.inl (((), ()), (b4, ()))))))
def SA := Ua fun x : ((Int × (Unit × Sq)) × TL) => Mx x.1.1 x.1.2.1 x.1.2.2.1 x.1.2.2.2.1 x.1.2.2.2.2.1 x.2.1
def SD (a0 : Je) (a1 : Int) : Option (Wa × Wc) :=
 (ob (SA ((a1, (), a0, ((ln a0 : Nat) : Int), 0, ()), ((0, 0, ()), ()))) (se (fun y4 => (some ((0, 0, ()), false, ()))) (fun z5 => (some (z5.2.1, z5.1.2.1, ())))))
def Lp (t1 : Unit) (t3 : Int) (t9 : Ae) (t10 : Int) (t11 : Int) (b1 : Pa) : Option (((Unit × CB) × JF) ⊕ Sk) :=
 (cond (decide (t11 < t10))
 (ob (Ya t9 t11) fun x7 =>
 (ob (SD b1.1 x7.1) fun r8 =>
 (cond (!r8.2.1)
 (some (.inr (.inr ((false, ()), ()))))
 (ob (Xe t3 x7.1) fun r9 =>
 (cond (r9.1 == 1)
 (some (.inr (.inr ((false, ()), ()))))
 (cond (decide (x7.2.1 ≤ 0))
 (some (.inr (.inr ((false, ()), ()))))
 (cond ((Mb .i64 x7.2.1 r8.1.1) != 0)
 (some (.inr (.inr ((false, ()), ()))))
 (cond (x7.2.2.1 != (x7.2.1 == r8.1.1))
 (some (.inr (.inr ((false, ()), ()))))
 (cond (decide (0 ≤ x7.1))
 (some (.inl (((), (Nc .i64 t3 (Qa .i64 1 x7.1)), t9, t10, (wr .i64 (t11 + 1)), ()), (b1, ()))))
 none)))))))))
 (some (.inr (.inl ((), ())))))
def Ws := Ua fun x : ((Unit × CB) × JF) => Lp x.1.1 x.1.2.1 x.1.2.2.1 x.1.2.2.2.1 x.1.2.2.2.2.1 x.2.1
def NB (a0 : Pa) : Option Wc :=
 (ob (Ws (((), 0, a0.2.2.2.2.2.2.1, ((ln a0.2.2.2.2.2.2.1 : Nat) : Int), 0, ()), (a0, ()))) (se (fun y10 => (some (true, ()))) (fun z11 => (some (z11.1.1, ())))))
def Hm (t4 : Int) (t10 : Ae) (t11 : Int) (t12 : Int) : Option ((CB × Unit) ⊕ (K2 ⊕ (Sw × Unit))) :=
 (cond (decide (t12 < t11))
 (ob (Ya t10 t12) fun x3 =>
 (cond ((Va .i64 t4 x3.2.1) != 0)
 (some (.inr (.inr ((0, false, ()), ()))))
 (some (.inl (((Nc .i64 t4 x3.2.1), t10, t11, (wr .i64 (t12 + 1)), ()), ())))))
 (some (.inr (.inl ((t4, ()), ())))))
def Ap := Ua fun x : (CB × Unit) => Hm x.1.1 x.1.2.1 x.1.2.2.1 x.1.2.2.2.1
def Mi (a0 : Pa) : Option Sw :=
 (ob (Ap ((a0.2.2.2.2.2.1, a0.2.2.2.2.2.2.1, ((ln a0.2.2.2.2.2.2.1 : Nat) : Int), 0, ()), ())) (se (fun y4 => (some (y4.1.1, true, ()))) (fun z5 => (some z5.1))))
def Yq (a0 : Pa) : Option Wc :=
 (ob (Gz a0.1) fun r1 =>
 (cond (!r1.1)
 (some (false, ()))
 (cond (decide (a0.2.1 < 1))
 (some (false, ()))
 (cond (decide (a0.2.1 > 200))
 (some (false, ()))
 (cond (decide (a0.2.2.2.1 < 0))
 (some (false, ()))
 (cond (decide (a0.2.2.2.1 > 1000000))
 (some (false, ()))
 (cond (decide (a0.2.2.2.2.1 < 0))
 (some (false, ()))
 (cond (decide (a0.2.2.2.2.1 > a0.2.2.2.1))
 (some (false, ()))
 (cond (decide (a0.2.2.2.2.2.1 < 0))
 (some (false, ()))
 (cond (decide (a0.2.2.2.2.2.1 > 16777215))
 (some (false, ()))
 (ob (NB a0) fun r2 =>
 (cond (!r2.1)
 (some (false, ()))
 (ob (Mi a0) fun r3 =>
 (cond r3.2.1
 (ob (Ii a0.2.2.1 r3.1 24) fun r4 =>
 (cond r4.1
 (ob (Gi a0.2.2.1 a0.2.2.2.1) fun r5 =>
 (some (r5.1, ())))
 (some (false, ()))))
 (some (false, ()))))))))))))))))
def Er (t0 : Int) (t7 : Ae) (t8 : Int) (t9 : Int) : Option ((CB × Unit) ⊕ Rw) :=
 (cond (decide (t9 < t8))
 (ob (Ya t7 t9) fun x3 =>
 (cond x3.2.2.1
 (cond (decide (0 ≤ x3.2.1))
 (some (.inl (((Nc .i64 t0 (Qa .i64 1 x3.2.1)), t7, t8, (wr .i64 (t9 + 1)), ()), ())))
 none)
 (cond (decide (0 ≤ x3.2.1))
 (some (.inl (((Mb .i64 t0 (Qa .i64 1 x3.2.1)), t7, t8, (wr .i64 (t9 + 1)), ()), ())))
 none)))
 (some (.inr (.inl ((t0, ()), ())))))
def Pv := Ua fun x : (CB × Unit) => Er x.1.1 x.1.2.1 x.1.2.2.1 x.1.2.2.2.1
def Ov (a0 : Int) (a1 : Ae) : Option Gc :=
 (ob (Pv ((a0, a1, ((ln a1 : Nat) : Int), 0, ()), ())) (se (fun y4 => (some (y4.1.1, ()))) (fun z5 => none)))
def Gx (t1 : Unit) (t3 : Int) (t62 : Je) (t63 : Int) (t64 : Int) (b1 : Jd) : Option (((Unit × (Int × Sq)) × QP) ⊕ ((Ke × QP) ⊕ Am)) :=
 (cond (decide (t64 < t63))
 (ob (Ya t62 t64) fun x12 =>
 (ob (Fo b1.1 x12.1) fun r13 =>
 (cond (!r13.1)
 (some (.inr (.inr ((false, ()), ()))))
 (cond (decide (x12.2.1 ≥ t3))
 (some (.inr (.inr ((false, ()), ()))))
 (some (.inl (((), t3, t62, t63, (wr .i64 (t64 + 1)), ()), (b1, ()))))))))
 (some (.inr (.inl (((), ()), (b1, ()))))))
def OA := Ua fun x : ((Unit × (Int × Sq)) × QP) => Gx x.1.1 x.1.2.1 x.1.2.2.1 x.1.2.2.2.1 x.1.2.2.2.2.1 x.2.1
def Tt (t1 : Unit) (t6 : Int) (t8 : Int) (t116 : Ae) (t117 : Int) (t118 : Int) (b1 : Jd) : Option (((Unit × (Int × CB)) × QP) ⊕ ((Qw × QP) ⊕ Ke)) :=
 (cond (decide (t118 < t117))
 (ob (Ya t116 t118) fun x19 =>
 (cond x19.2.2.1
 (cond (decide (0 ≤ x19.1))
 (some (.inl (((), t6, (Nc .i64 t8 (Qa .i64 1 x19.1)), t116, t117, (wr .i64 (t118 + 1)), ()), (b1, ()))))
 none)
 (some (.inl (((), t6, t8, t116, t117, (wr .i64 (t118 + 1)), ()), (b1, ()))))))
 (some (.inr (.inl (((), t6, t8, ()), (b1, ()))))))
def Kn := Ua fun x : ((Unit × (Int × CB)) × QP) => Tt x.1.1 x.1.2.1 x.1.2.2.1 x.1.2.2.2.1 x.1.2.2.2.2.1 x.1.2.2.2.2.2.1 x.2.1
def PD (a0 : Jd) : Option Wc :=
 (ob (Mq a0.1) fun r1 =>
 (cond (!r1.1)
 (some (false, ()))
 (ob (Vo a0.2.1) fun r2 =>
 (cond (!r2.1)
 (some (false, ()))
 (ob (Yq a0.2.2.1) fun r3 =>
 (cond (!r3.1)
 (some (false, ()))
 (ob (Iv a0.2.2.2.1) fun r4 =>
 (cond (!r4.1)
 (some (false, ()))
 (ob (Fj a0.1) fun r5 =>
 (cond (a0.2.1.2.2.1 != r5.1)
 (some (false, ()))
 (ob (Fj a0.1) fun r6 =>
 (cond (decide (a0.2.2.2.1.1.1.1 < r6.1))
 (some (false, ()))
 (ob (Fo a0.1 a0.2.2.2.2.1) fun r7 =>
 (cond (!r7.1)
 (some (false, ()))
 (ob (OA (((), a0.2.2.2.1.1.1.1, a0.2.2.1.1, ((ln a0.2.2.1.1 : Nat) : Int), 0, ()), (a0, ()))) (se (fun y14 => (cond (decide (y14.2.1.2.2.2.2.2.1 < 0))
 (some (false, ()))
 (cond (decide (y14.2.1.2.2.2.2.2.1 > 1000000))
 (some (false, ()))
 (cond (decide (y14.2.1.2.2.1.2.2.2.1 > y14.2.1.2.2.2.2.2.1))
 (some (false, ()))
 (cond (decide (y14.2.1.2.2.2.1.2.2.2.1 > y14.2.1.2.2.2.2.2.1))
 (some (false, ()))
 (ob (Mi y14.2.1.2.2.1) fun r16 =>
 (ob (Kn (((), r16.1, y14.2.1.2.2.1.2.2.2.2.2.1, y14.2.1.2.2.1.2.2.2.2.2.2.1, ((ln y14.2.1.2.2.1.2.2.2.2.2.2.1 : Nat) : Int), 0, ()), (y14.2.1, ()))) (se (fun y20 => (ob (Ov y20.1.2.1 y20.2.1.2.2.1.2.2.1) fun r22 =>
 (cond (r22.1 == y20.2.1.2.1.2.2.2.1)
 (ob (Sm y20.2.1.2.2.2.1.1.2.2.2.1) fun r23 =>
 (ob (Ov r23.1 y20.2.1.2.2.2.1.2.2.1) fun r24 =>
 (some ((r24.1 == y20.1.2.2.1), ()))))
 (some (false, ()))))) (fun z21 => none))))))))) (fun z15 => (some (z15.1.1, ())))))))))))))))))))
def Bn (a0 : Pa) : Option JF :=
 (cond (bl (ln ([] : List Wa) + ln a0.1) Sa)
 (cond (bl (ln ([] : List Ca) + ln a0.2.2.1) Sa)
 (cond (bl (ln ([] : List Ca) + ln a0.2.2.2.2.2.2.1) Sa)
 (some (((ap [] a0.1), a0.2.1, (ap [] a0.2.2.1), a0.2.2.2.1, a0.2.2.2.2.1, a0.2.2.2.2.2.1, (ap [] a0.2.2.2.2.2.2.1), a0.2.2.2.2.2.2.2), ()))
 none)
 none)
 none)
def Kj (t1 : Int) (t2 : Unit) (t4 : Unit) (t6 : Unit) (t27 : Uc) (t28 : Int) (t29 : Int) (b2 : Qb) (b4 : Qb) (b6 : Qb) : Option (((Int × (Unit × (Unit × IX))) × Saf) ⊕ (((Int × HU) × (Qb × XR)) ⊕ Ke)) :=
 (cond (decide (t29 < t28))
 (ob (Ya t27 t29) fun x53 =>
 (cond (b2.1 == 0)
 (ob (Xe t1 t29) fun r54 =>
 (ob (Xe b2.2.2.2.2.1 t29) fun r55 =>
 (cond (r54.1 != r55.1)
 (cond (decide (1 ≥ b2.2.1))
 (ob (Xe t1 t29) fun r56 =>
 (ob (Xe b2.2.2.2.1 t29) fun r57 =>
 (cond (r56.1 != r57.1)
 (cond (decide (0 ≤ t29))
 (cond (b2.1 == 2)
 (cond (bl (ln b6.2.2.2.2.2.1 + ln ([0] : List Int)) Sa)
 (some (.inl ((t1, (), (), (), t27, t28, (wr .i64 (t29 + 1)), ()), (b2, b4, (b6.1, b6.2.1, b6.2.2.1, (Za .i64 b6.2.2.2.1 (Qa .i64 1 t29)), b6.2.2.2.2.1, (ap b6.2.2.2.2.2.1 ([0] : List Int)), b6.2.2.2.2.2.2), ()))))
 none)
 (cond (bl (ln b6.2.2.2.2.2.1 + ln ([1] : List Int)) Sa)
 (some (.inl ((t1, (), (), (), t27, t28, (wr .i64 (t29 + 1)), ()), (b2, b4, (b6.1, b6.2.1, b6.2.2.1, (Za .i64 b6.2.2.2.1 (Qa .i64 1 t29)), b6.2.2.2.2.1, (ap b6.2.2.2.2.2.1 ([1] : List Int)), b6.2.2.2.2.2.2), ()))))
 none))
 none)
 (cond (bl (ln b6.2.2.2.2.2.1 + ln ([1] : List Int)) Sa)
 (some (.inl ((t1, (), (), (), t27, t28, (wr .i64 (t29 + 1)), ()), (b2, b4, (b6.1, b6.2.1, b6.2.2.1, b6.2.2.2.1, b6.2.2.2.2.1, (ap b6.2.2.2.2.2.1 ([1] : List Int)), b6.2.2.2.2.2.2), ()))))
 none))))
 (cond (bl (ln b6.2.2.2.2.2.1 + ln ([1] : List Int)) Sa)
 (some (.inl ((t1, (), (), (), t27, t28, (wr .i64 (t29 + 1)), ()), (b2, b4, (b6.1, b6.2.1, b6.2.2.1, b6.2.2.2.1, b6.2.2.2.2.1, (ap b6.2.2.2.2.2.1 ([1] : List Int)), b6.2.2.2.2.2.2), ()))))
 none))
 (cond (b2.1 == 1)
 (cond (t1 != b2.2.2.2.2.1)
 (cond (decide (1 ≥ b2.2.1))
 (ob (Xe t1 t29) fun r58 =>
 (ob (Xe b2.2.2.2.1 t29) fun r59 =>
 (cond (r58.1 != r59.1)
 (cond (decide (0 ≤ t29))
 (cond (b2.1 == 2)
 (cond (bl (ln b6.2.2.2.2.2.1 + ln ([0] : List Int)) Sa)
 (some (.inl ((t1, (), (), (), t27, t28, (wr .i64 (t29 + 1)), ()), (b2, b4, (b6.1, b6.2.1, b6.2.2.1, (Za .i64 b6.2.2.2.1 (Qa .i64 1 t29)), b6.2.2.2.2.1, (ap b6.2.2.2.2.2.1 ([0] : List Int)), b6.2.2.2.2.2.2), ()))))
 none)
 (cond (bl (ln b6.2.2.2.2.2.1 + ln ([1] : List Int)) Sa)
 (some (.inl ((t1, (), (), (), t27, t28, (wr .i64 (t29 + 1)), ()), (b2, b4, (b6.1, b6.2.1, b6.2.2.1, (Za .i64 b6.2.2.2.1 (Qa .i64 1 t29)), b6.2.2.2.2.1, (ap b6.2.2.2.2.2.1 ([1] : List Int)), b6.2.2.2.2.2.2), ()))))
 none))
 none)
 (cond (bl (ln b6.2.2.2.2.2.1 + ln ([1] : List Int)) Sa)
 (some (.inl ((t1, (), (), (), t27, t28, (wr .i64 (t29 + 1)), ()), (b2, b4, (b6.1, b6.2.1, b6.2.2.1, b6.2.2.2.1, b6.2.2.2.2.1, (ap b6.2.2.2.2.2.1 ([1] : List Int)), b6.2.2.2.2.2.2), ()))))
 none))))
 (cond (bl (ln b6.2.2.2.2.2.1 + ln ([1] : List Int)) Sa)
 (some (.inl ((t1, (), (), (), t27, t28, (wr .i64 (t29 + 1)), ()), (b2, b4, (b6.1, b6.2.1, b6.2.2.1, b6.2.2.2.1, b6.2.2.2.2.1, (ap b6.2.2.2.2.2.1 ([1] : List Int)), b6.2.2.2.2.2.2), ()))))
 none))
 (cond (decide ((min (wr .i64 (x53 + 1)) 99) ≥ b2.2.1))
 (ob (Xe t1 t29) fun r60 =>
 (ob (Xe b2.2.2.2.1 t29) fun r61 =>
 (cond (r60.1 != r61.1)
 (cond (decide (0 ≤ t29))
 (cond (b2.1 == 2)
 (cond (bl (ln b6.2.2.2.2.2.1 + ln ([0] : List Int)) Sa)
 (some (.inl ((t1, (), (), (), t27, t28, (wr .i64 (t29 + 1)), ()), (b2, b4, (b6.1, b6.2.1, b6.2.2.1, (Za .i64 b6.2.2.2.1 (Qa .i64 1 t29)), b6.2.2.2.2.1, (ap b6.2.2.2.2.2.1 ([0] : List Int)), b6.2.2.2.2.2.2), ()))))
 none)
 (cond (bl (ln b6.2.2.2.2.2.1 + ln ([(min (wr .i64 (x53 + 1)) 99)] : List Int)) Sa)
 (some (.inl ((t1, (), (), (), t27, t28, (wr .i64 (t29 + 1)), ()), (b2, b4, (b6.1, b6.2.1, b6.2.2.1, (Za .i64 b6.2.2.2.1 (Qa .i64 1 t29)), b6.2.2.2.2.1, (ap b6.2.2.2.2.2.1 ([(min (wr .i64 (x53 + 1)) 99)] : List Int)), b6.2.2.2.2.2.2), ()))))
 none))
 none)
 (cond (bl (ln b6.2.2.2.2.2.1 + ln ([(min (wr .i64 (x53 + 1)) 99)] : List Int)) Sa)
 (some (.inl ((t1, (), (), (), t27, t28, (wr .i64 (t29 + 1)), ()), (b2, b4, (b6.1, b6.2.1, b6.2.2.1, b6.2.2.2.1, b6.2.2.2.2.1, (ap b6.2.2.2.2.2.1 ([(min (wr .i64 (x53 + 1)) 99)] : List Int)), b6.2.2.2.2.2.2), ()))))
 none))))
 (cond (bl (ln b6.2.2.2.2.2.1 + ln ([(min (wr .i64 (x53 + 1)) 99)] : List Int)) Sa)
 (some (.inl ((t1, (), (), (), t27, t28, (wr .i64 (t29 + 1)), ()), (b2, b4, (b6.1, b6.2.1, b6.2.2.1, b6.2.2.2.1, b6.2.2.2.2.1, (ap b6.2.2.2.2.2.1 ([(min (wr .i64 (x53 + 1)) 99)] : List Int)), b6.2.2.2.2.2.2), ()))))
 none)))
 (cond (decide ((min (wr .i64 (x53 + 1)) 99) ≥ b2.2.1))
 (ob (Xe t1 t29) fun r62 =>
 (ob (Xe b2.2.2.2.1 t29) fun r63 =>
 (cond (r62.1 != r63.1)
 (cond (decide (0 ≤ t29))
 (cond (b2.1 == 2)
 (cond (bl (ln b6.2.2.2.2.2.1 + ln ([0] : List Int)) Sa)
 (some (.inl ((t1, (), (), (), t27, t28, (wr .i64 (t29 + 1)), ()), (b2, b4, (b6.1, b6.2.1, b6.2.2.1, (Za .i64 b6.2.2.2.1 (Qa .i64 1 t29)), b6.2.2.2.2.1, (ap b6.2.2.2.2.2.1 ([0] : List Int)), b6.2.2.2.2.2.2), ()))))
 none)
 (cond (bl (ln b6.2.2.2.2.2.1 + ln ([(min (wr .i64 (x53 + 1)) 99)] : List Int)) Sa)
 (some (.inl ((t1, (), (), (), t27, t28, (wr .i64 (t29 + 1)), ()), (b2, b4, (b6.1, b6.2.1, b6.2.2.1, (Za .i64 b6.2.2.2.1 (Qa .i64 1 t29)), b6.2.2.2.2.1, (ap b6.2.2.2.2.2.1 ([(min (wr .i64 (x53 + 1)) 99)] : List Int)), b6.2.2.2.2.2.2), ()))))
 none))
 none)
 (cond (bl (ln b6.2.2.2.2.2.1 + ln ([(min (wr .i64 (x53 + 1)) 99)] : List Int)) Sa)
 (some (.inl ((t1, (), (), (), t27, t28, (wr .i64 (t29 + 1)), ()), (b2, b4, (b6.1, b6.2.1, b6.2.2.1, b6.2.2.2.1, b6.2.2.2.2.1, (ap b6.2.2.2.2.2.1 ([(min (wr .i64 (x53 + 1)) 99)] : List Int)), b6.2.2.2.2.2.2), ()))))
 none))))
 (cond (bl (ln b6.2.2.2.2.2.1 + ln ([(min (wr .i64 (x53 + 1)) 99)] : List Int)) Sa)
 (some (.inl ((t1, (), (), (), t27, t28, (wr .i64 (t29 + 1)), ()), (b2, b4, (b6.1, b6.2.1, b6.2.2.1, b6.2.2.2.1, b6.2.2.2.2.1, (ap b6.2.2.2.2.2.1 ([(min (wr .i64 (x53 + 1)) 99)] : List Int)), b6.2.2.2.2.2.2), ()))))
 none))))))
 (cond (b2.1 == 1)
 (cond (t1 != b2.2.2.2.2.1)
 (cond (decide (1 ≥ b2.2.1))
 (ob (Xe t1 t29) fun r64 =>
 (ob (Xe b2.2.2.2.1 t29) fun r65 =>
 (cond (r64.1 != r65.1)
 (cond (decide (0 ≤ t29))
 (cond (b2.1 == 2)
 (cond (bl (ln b6.2.2.2.2.2.1 + ln ([0] : List Int)) Sa)
 (some (.inl ((t1, (), (), (), t27, t28, (wr .i64 (t29 + 1)), ()), (b2, b4, (b6.1, b6.2.1, b6.2.2.1, (Za .i64 b6.2.2.2.1 (Qa .i64 1 t29)), b6.2.2.2.2.1, (ap b6.2.2.2.2.2.1 ([0] : List Int)), b6.2.2.2.2.2.2), ()))))
 none)
 (cond (bl (ln b6.2.2.2.2.2.1 + ln ([1] : List Int)) Sa)
 (some (.inl ((t1, (), (), (), t27, t28, (wr .i64 (t29 + 1)), ()), (b2, b4, (b6.1, b6.2.1, b6.2.2.1, (Za .i64 b6.2.2.2.1 (Qa .i64 1 t29)), b6.2.2.2.2.1, (ap b6.2.2.2.2.2.1 ([1] : List Int)), b6.2.2.2.2.2.2), ()))))
 none))
 none)
 (cond (bl (ln b6.2.2.2.2.2.1 + ln ([1] : List Int)) Sa)
 (some (.inl ((t1, (), (), (), t27, t28, (wr .i64 (t29 + 1)), ()), (b2, b4, (b6.1, b6.2.1, b6.2.2.1, b6.2.2.2.1, b6.2.2.2.2.1, (ap b6.2.2.2.2.2.1 ([1] : List Int)), b6.2.2.2.2.2.2), ()))))
 none))))
 (cond (bl (ln b6.2.2.2.2.2.1 + ln ([1] : List Int)) Sa)
 (some (.inl ((t1, (), (), (), t27, t28, (wr .i64 (t29 + 1)), ()), (b2, b4, (b6.1, b6.2.1, b6.2.2.1, b6.2.2.2.1, b6.2.2.2.2.1, (ap b6.2.2.2.2.2.1 ([1] : List Int)), b6.2.2.2.2.2.2), ()))))
 none))
 (cond (decide ((min (wr .i64 (x53 + 1)) 99) ≥ b2.2.1))
 (ob (Xe t1 t29) fun r66 =>
 (ob (Xe b2.2.2.2.1 t29) fun r67 =>
 (cond (r66.1 != r67.1)
 (cond (decide (0 ≤ t29))
 (cond (b2.1 == 2)
 (cond (bl (ln b6.2.2.2.2.2.1 + ln ([0] : List Int)) Sa)
 (some (.inl ((t1, (), (), (), t27, t28, (wr .i64 (t29 + 1)), ()), (b2, b4, (b6.1, b6.2.1, b6.2.2.1, (Za .i64 b6.2.2.2.1 (Qa .i64 1 t29)), b6.2.2.2.2.1, (ap b6.2.2.2.2.2.1 ([0] : List Int)), b6.2.2.2.2.2.2), ()))))
 none)
 (cond (bl (ln b6.2.2.2.2.2.1 + ln ([(min (wr .i64 (x53 + 1)) 99)] : List Int)) Sa)
 (some (.inl ((t1, (), (), (), t27, t28, (wr .i64 (t29 + 1)), ()), (b2, b4, (b6.1, b6.2.1, b6.2.2.1, (Za .i64 b6.2.2.2.1 (Qa .i64 1 t29)), b6.2.2.2.2.1, (ap b6.2.2.2.2.2.1 ([(min (wr .i64 (x53 + 1)) 99)] : List Int)), b6.2.2.2.2.2.2), ()))))
 none))
 none)
 (cond (bl (ln b6.2.2.2.2.2.1 + ln ([(min (wr .i64 (x53 + 1)) 99)] : List Int)) Sa)
 (some (.inl ((t1, (), (), (), t27, t28, (wr .i64 (t29 + 1)), ()), (b2, b4, (b6.1, b6.2.1, b6.2.2.1, b6.2.2.2.1, b6.2.2.2.2.1, (ap b6.2.2.2.2.2.1 ([(min (wr .i64 (x53 + 1)) 99)] : List Int)), b6.2.2.2.2.2.2), ()))))
 none))))
 (cond (bl (ln b6.2.2.2.2.2.1 + ln ([(min (wr .i64 (x53 + 1)) 99)] : List Int)) Sa)
 (some (.inl ((t1, (), (), (), t27, t28, (wr .i64 (t29 + 1)), ()), (b2, b4, (b6.1, b6.2.1, b6.2.2.1, b6.2.2.2.1, b6.2.2.2.2.1, (ap b6.2.2.2.2.2.1 ([(min (wr .i64 (x53 + 1)) 99)] : List Int)), b6.2.2.2.2.2.2), ()))))
 none)))
 (cond (decide ((min (wr .i64 (x53 + 1)) 99) ≥ b2.2.1))
 (ob (Xe t1 t29) fun r68 =>
 (ob (Xe b2.2.2.2.1 t29) fun r69 =>
 (cond (r68.1 != r69.1)
 (cond (decide (0 ≤ t29))
 (cond (b2.1 == 2)
 (cond (bl (ln b6.2.2.2.2.2.1 + ln ([0] : List Int)) Sa)
 (some (.inl ((t1, (), (), (), t27, t28, (wr .i64 (t29 + 1)), ()), (b2, b4, (b6.1, b6.2.1, b6.2.2.1, (Za .i64 b6.2.2.2.1 (Qa .i64 1 t29)), b6.2.2.2.2.1, (ap b6.2.2.2.2.2.1 ([0] : List Int)), b6.2.2.2.2.2.2), ()))))
 none)
 (cond (bl (ln b6.2.2.2.2.2.1 + ln ([(min (wr .i64 (x53 + 1)) 99)] : List Int)) Sa)
 (some (.inl ((t1, (), (), (), t27, t28, (wr .i64 (t29 + 1)), ()), (b2, b4, (b6.1, b6.2.1, b6.2.2.1, (Za .i64 b6.2.2.2.1 (Qa .i64 1 t29)), b6.2.2.2.2.1, (ap b6.2.2.2.2.2.1 ([(min (wr .i64 (x53 + 1)) 99)] : List Int)), b6.2.2.2.2.2.2), ()))))
 none))
 none)
 (cond (bl (ln b6.2.2.2.2.2.1 + ln ([(min (wr .i64 (x53 + 1)) 99)] : List Int)) Sa)
 (some (.inl ((t1, (), (), (), t27, t28, (wr .i64 (t29 + 1)), ()), (b2, b4, (b6.1, b6.2.1, b6.2.2.1, b6.2.2.2.1, b6.2.2.2.2.1, (ap b6.2.2.2.2.2.1 ([(min (wr .i64 (x53 + 1)) 99)] : List Int)), b6.2.2.2.2.2.2), ()))))
 none))))
 (cond (bl (ln b6.2.2.2.2.2.1 + ln ([(min (wr .i64 (x53 + 1)) 99)] : List Int)) Sa)
 (some (.inl ((t1, (), (), (), t27, t28, (wr .i64 (t29 + 1)), ()), (b2, b4, (b6.1, b6.2.1, b6.2.2.1, b6.2.2.2.1, b6.2.2.2.2.1, (ap b6.2.2.2.2.2.1 ([(min (wr .i64 (x53 + 1)) 99)] : List Int)), b6.2.2.2.2.2.2), ()))))
 none)))))
 (some (.inr (.inl ((t1, (), (), ()), (b4, b6, ()))))))
def Uo := Ua fun x : ((Int × (Unit × (Unit × IX))) × Saf) => Kj x.1.1 x.1.2.1 x.1.2.2.1 x.1.2.2.2.1 x.1.2.2.2.2.1 x.1.2.2.2.2.2.1 x.1.2.2.2.2.2.2.1 x.2.1 x.2.2.1 x.2.2.2.1
def An (a0 : Qb) (a1 : Int) : Option (Qb × Wc) :=
 (ob (Vo a0) fun r1 =>
 (cond (!r1.1)
 (some ((0, 0, 0, 0, 0, [], ()), false, ()))
 (cond (decide (a1 < 0))
 (some ((0, 0, 0, 0, 0, [], ()), false, ()))
 (cond (decide (0 ≤ a0.2.2.1))
 (cond (decide (a1 ≥ (Qa .i64 1 a0.2.2.1)))
 (some ((0, 0, 0, 0, 0, [], ()), false, ()))
 (ob (Uo ((a1, (), (), (), a0.2.2.2.2.2.1, ((ln a0.2.2.2.2.2.1 : Nat) : Int), 0, ()), (a0, (0, 0, 0, 0, 0, [], ()), (a0.1, a0.2.1, a0.2.2.1, a0.2.2.2.1, a0.2.2.2.2.1, [], a0.2.2.2.2.2.2), ()))) (se (fun y70 => (some ((y70.2.2.1.1, y70.2.2.1.2.1, y70.2.2.1.2.2.1, y70.2.2.1.2.2.2.1, y70.1.1, y70.2.2.1.2.2.2.2.2), true, ()))) (fun z71 => none))))
 none))))
def Nl (t0 : Int) (t1 : Int) (t2 : Int) (t7 : Ae) (t8 : Int) : Option (((Int × (Int × (Int × VL))) × Unit) ⊕ ((LF × Unit) ⊕ Ke)) :=
 (cond (decide (t8 ≤ 31))
 (ob (Xe t0 t8) fun r10 =>
 (ob (Xe t1 t8) fun r11 =>
 (cond (r10.1 != r11.1)
 (ob (Xe t1 t8) fun r12 =>
 (cond (bl (ln t7 + ln ([(t2, t8, (r12.1 == 1), ())] : List Ca)) Sa)
 (some (.inl ((t0, t1, t2, (ap t7 ([(t2, t8, (r12.1 == 1), ())] : List Ca)), (wr .i64 (t8 + 1)), ()), ())))
 none))
 (some (.inl ((t0, t1, t2, t7, (wr .i64 (t8 + 1)), ()), ()))))))
 (some (.inr (.inl ((t7, ()), ())))))
def Qn := Ua fun x : ((Int × (Int × (Int × VL))) × Unit) => Nl x.1.1 x.1.2.1 x.1.2.2.1 x.1.2.2.2.1 x.1.2.2.2.2.1
def Dr (a0 : Int) (a1 : Int) (a2 : Int) : Option LF :=
 (ob (Qn ((a0, a1, a2, [], 0, ()), ())) (se (fun y13 => (some (y13.1.1, ()))) (fun z14 => none)))
def Jn (t0 : Unit) (t1 : Int) (t2 : Int) (t14 : Int) (t15 : Int) (b500000 : Pa) : Option ((Aag × JF) ⊕ (DU ⊕ N2)) :=
 (cond (decide (t15 < t14))
 (cond (Af (ln b500000.2.2.2.2.2.2.1) t15)
 (ob b500000.2.2.2.2.2.2.1[(tn t15)]? fun x19 =>
 (ob (Xe x19.2.1 t1) fun r20 =>
 (cond (r20.1 == 0)
 (some (.inl (((), t1, t2, t14, (wr .i64 (t15 + 1)), ()), (b500000, ()))))
 (ob b500000.2.2.2.2.2.2.1[(tn t15)]? fun x21 =>
 (cond (decide (0 ≤ t1))
 (ob b500000.2.2.2.2.2.2.1[(tn t15)]? fun x22 =>
 (ob (ls b500000.2.2.2.2.2.2.1 (tn t15) (x22.1, (Mb .i64 x21.2.1 (Qa .i64 1 t1)), x22.2.2))[(tn t15)]? fun x23 =>
 (cond x23.2.2.1
 (ob (ls b500000.2.2.2.2.2.2.1 (tn t15) (x22.1, (Mb .i64 x21.2.1 (Qa .i64 1 t1)), x22.2.2))[(tn t15)]? fun x24 =>
 (ob (ls (ls b500000.2.2.2.2.2.2.1 (tn t15) (x22.1, (Mb .i64 x21.2.1 (Qa .i64 1 t1)), x22.2.2)) (tn t15) (x24.1, x24.2.1, false, x24.2.2.2))[(tn t15)]? fun x25 =>
 (ob (ls (ls b500000.2.2.2.2.2.2.1 (tn t15) (x22.1, (Mb .i64 x21.2.1 (Qa .i64 1 t1)), x22.2.2)) (tn t15) (x24.1, x24.2.1, false, x24.2.2.2))[(tn t15)]? fun x26 =>
 (cond (x26.2.1 == 0)
 (cond (Ld (ln (ls (ls b500000.2.2.2.2.2.2.1 (tn t15) (x22.1, (Mb .i64 x21.2.1 (Qa .i64 1 t1)), x22.2.2)) (tn t15) (x24.1, x24.2.1, false, x24.2.2.2))) 0 t15)
 (cond (bl (ln ([] : List Ca) + ln (Eb (ls (ls b500000.2.2.2.2.2.2.1 (tn t15) (x22.1, (Mb .i64 x21.2.1 (Qa .i64 1 t1)), x22.2.2)) (tn t15) (x24.1, x24.2.1, false, x24.2.2.2)) (tn 0) (tn t15))) Sa)
 (cond (Ld (ln (ls (ls b500000.2.2.2.2.2.2.1 (tn t15) (x22.1, (Mb .i64 x21.2.1 (Qa .i64 1 t1)), x22.2.2)) (tn t15) (x24.1, x24.2.1, false, x24.2.2.2))) (wr .i64 (t15 + 1)) ((ln (ls (ls b500000.2.2.2.2.2.2.1 (tn t15) (x22.1, (Mb .i64 x21.2.1 (Qa .i64 1 t1)), x22.2.2)) (tn t15) (x24.1, x24.2.1, false, x24.2.2.2)) : Nat) : Int))
 (cond (bl (ln (ap [] (Eb (ls (ls b500000.2.2.2.2.2.2.1 (tn t15) (x22.1, (Mb .i64 x21.2.1 (Qa .i64 1 t1)), x22.2.2)) (tn t15) (x24.1, x24.2.1, false, x24.2.2.2)) (tn 0) (tn t15))) + ln (Eb (ls (ls b500000.2.2.2.2.2.2.1 (tn t15) (x22.1, (Mb .i64 x21.2.1 (Qa .i64 1 t1)), x22.2.2)) (tn t15) (x24.1, x24.2.1, false, x24.2.2.2)) (tn (wr .i64 (t15 + 1))) (tn ((ln (ls (ls b500000.2.2.2.2.2.2.1 (tn t15) (x22.1, (Mb .i64 x21.2.1 (Qa .i64 1 t1)), x22.2.2)) (tn t15) (x24.1, x24.2.1, false, x24.2.2.2)) : Nat) : Int)))) Sa)
 (some (.inr (.inr (((), ([(t2, x25.1, false, ())] : List Ca), ()), ((b500000.1, b500000.2.1, b500000.2.2.1, b500000.2.2.2.1, b500000.2.2.2.2.1, b500000.2.2.2.2.2.1, (ap (ap [] (Eb (ls (ls b500000.2.2.2.2.2.2.1 (tn t15) (x22.1, (Mb .i64 x21.2.1 (Qa .i64 1 t1)), x22.2.2)) (tn t15) (x24.1, x24.2.1, false, x24.2.2.2)) (tn 0) (tn t15))) (Eb (ls (ls b500000.2.2.2.2.2.2.1 (tn t15) (x22.1, (Mb .i64 x21.2.1 (Qa .i64 1 t1)), x22.2.2)) (tn t15) (x24.1, x24.2.1, false, x24.2.2.2)) (tn (wr .i64 (t15 + 1))) (tn ((ln (ls (ls b500000.2.2.2.2.2.2.1 (tn t15) (x22.1, (Mb .i64 x21.2.1 (Qa .i64 1 t1)), x22.2.2)) (tn t15) (x24.1, x24.2.1, false, x24.2.2.2)) : Nat) : Int)))), ()), ())))))
 none)
 none)
 none)
 none)
 (some (.inr (.inr (((), ([(t2, x25.1, false, ())] : List Ca), ()), ((b500000.1, b500000.2.1, b500000.2.2.1, b500000.2.2.2.1, b500000.2.2.2.2.1, b500000.2.2.2.2.2.1, (ls (ls b500000.2.2.2.2.2.2.1 (tn t15) (x22.1, (Mb .i64 x21.2.1 (Qa .i64 1 t1)), x22.2.2)) (tn t15) (x24.1, x24.2.1, false, x24.2.2.2)), ()), ())))))))))
 (ob (ls b500000.2.2.2.2.2.2.1 (tn t15) (x22.1, (Mb .i64 x21.2.1 (Qa .i64 1 t1)), x22.2.2))[(tn t15)]? fun x27 =>
 (cond (x27.2.1 == 0)
 (cond (Ld (ln (ls b500000.2.2.2.2.2.2.1 (tn t15) (x22.1, (Mb .i64 x21.2.1 (Qa .i64 1 t1)), x22.2.2))) 0 t15)
 (cond (bl (ln ([] : List Ca) + ln (Eb (ls b500000.2.2.2.2.2.2.1 (tn t15) (x22.1, (Mb .i64 x21.2.1 (Qa .i64 1 t1)), x22.2.2)) (tn 0) (tn t15))) Sa)
 (cond (Ld (ln (ls b500000.2.2.2.2.2.2.1 (tn t15) (x22.1, (Mb .i64 x21.2.1 (Qa .i64 1 t1)), x22.2.2))) (wr .i64 (t15 + 1)) ((ln (ls b500000.2.2.2.2.2.2.1 (tn t15) (x22.1, (Mb .i64 x21.2.1 (Qa .i64 1 t1)), x22.2.2)) : Nat) : Int))
 (cond (bl (ln (ap [] (Eb (ls b500000.2.2.2.2.2.2.1 (tn t15) (x22.1, (Mb .i64 x21.2.1 (Qa .i64 1 t1)), x22.2.2)) (tn 0) (tn t15))) + ln (Eb (ls b500000.2.2.2.2.2.2.1 (tn t15) (x22.1, (Mb .i64 x21.2.1 (Qa .i64 1 t1)), x22.2.2)) (tn (wr .i64 (t15 + 1))) (tn ((ln (ls b500000.2.2.2.2.2.2.1 (tn t15) (x22.1, (Mb .i64 x21.2.1 (Qa .i64 1 t1)), x22.2.2)) : Nat) : Int)))) Sa)
 (some (.inr (.inr (((), [], ()), ((b500000.1, b500000.2.1, b500000.2.2.1, b500000.2.2.2.1, b500000.2.2.2.2.1, b500000.2.2.2.2.2.1, (ap (ap [] (Eb (ls b500000.2.2.2.2.2.2.1 (tn t15) (x22.1, (Mb .i64 x21.2.1 (Qa .i64 1 t1)), x22.2.2)) (tn 0) (tn t15))) (Eb (ls b500000.2.2.2.2.2.2.1 (tn t15) (x22.1, (Mb .i64 x21.2.1 (Qa .i64 1 t1)), x22.2.2)) (tn (wr .i64 (t15 + 1))) (tn ((ln (ls b500000.2.2.2.2.2.2.1 (tn t15) (x22.1, (Mb .i64 x21.2.1 (Qa .i64 1 t1)), x22.2.2)) : Nat) : Int)))), ()), ())))))
 none)
 none)
 none)
 none)
 (some (.inr (.inr (((), [], ()), ((b500000.1, b500000.2.1, b500000.2.2.1, b500000.2.2.2.1, b500000.2.2.2.2.1, b500000.2.2.2.2.2.1, (ls b500000.2.2.2.2.2.2.1 (tn t15) (x22.1, (Mb .i64 x21.2.1 (Qa .i64 1 t1)), x22.2.2)), ()), ()))))))))))
 none)))))
 none)
 (some (.inr (.inl (((), t1, t2, ()), (b500000, ()))))))
def Gq := Ua fun x : (Aag × JF) => Jn x.1.1 x.1.2.1 x.1.2.2.1 x.1.2.2.2.1 x.1.2.2.2.2.1 x.2.1
def To (a0 : Pa) (a1 : Int) (a2 : Int) : Option (Pa × LF) :=
 (ob (Gq (((), a1, a2, ((ln a0.2.2.2.2.2.2.1 : Nat) : Int), 0, ()), (a0, ()))) (se (fun y28 => (cond (decide (0 ≤ y28.1.2.1))
 (some ((y28.2.1.1, y28.2.1.2.1, y28.2.1.2.2.1, y28.2.1.2.2.2.1, y28.2.1.2.2.2.2.1, (Mb .i64 y28.2.1.2.2.2.2.2.1 (Qa .i64 1 y28.1.2.1)), y28.2.1.2.2.2.2.2.2.1, ()), (([(y28.1.2.2.1, y28.1.2.1, false, ())] : List Ca), ())))
 none)) (fun z29 => (some (z29.2.1, (z29.1.2.1, ()))))))
def Vl (a0 : Ca) : Option Wc :=
 (ob (Jv a0) fun r1 =>
 (cond r1.1
 (some ((decide (a0.2.1 < 24)), ()))
 (some (false, ()))))
def TB (t1 : Int) (t7 : Je) (t8 : Int) (t9 : Int) : Option (((Int × Sq) × Unit) ⊕ Sk) :=
 (cond (decide (t9 < t8))
 (ob (Ya t7 t9) fun x3 =>
 (cond ((Mb .i64 t1 x3.1) == 0)
 (some (.inr (.inr ((true, ()), ()))))
 (some (.inl ((t1, t7, t8, (wr .i64 (t9 + 1)), ()), ())))))
 (some (.inr (.inl ((), ())))))
def BE := Ua fun x : ((Int × Sq) × Unit) => TB x.1.1 x.1.2.1 x.1.2.2.1 x.1.2.2.2.1
def CI (a0 : Je) (a1 : Int) : Option Wc :=
 (ob (BE ((a1, a0, ((ln a0 : Nat) : Int), 0, ()), ())) (se (fun y4 => (some (false, ()))) (fun z5 => (some (z5.1.1, ())))))
def Pp (t1 : Int) (t6 : Int) (t7 : Bool) (t10 : Je) (t11 : Int) (t12 : Int) : Option (((Int × (Int × (Bool × Sq))) × Unit) ⊕ ((Sw × Unit) ⊕ Ke)) :=
 (cond (decide (t12 < t11))
 (ob (Ya t10 t12) fun x3 =>
 (cond (x3.1 == t1)
 (some (.inl ((t1, x3.2.1, t7, t10, t11, (wr .i64 (t12 + 1)), ()), ())))
 (cond ((Mb .i64 t1 x3.1) == 0)
 (some (.inl ((t1, t6, true, t10, t11, (wr .i64 (t12 + 1)), ()), ())))
 (some (.inl ((t1, t6, t7, t10, t11, (wr .i64 (t12 + 1)), ()), ()))))))
 (some (.inr (.inl ((t6, t7, ()), ())))))
def Bt := Ua fun x : ((Int × (Int × (Bool × Sq))) × Unit) => Pp x.1.1 x.1.2.1 x.1.2.2.1 x.1.2.2.2.1 x.1.2.2.2.2.1 x.1.2.2.2.2.2.1
def Im (a0 : Je) (a1 : Int) : Option Sw :=
 (ob (Bt ((a1, (-1), false, a0, ((ln a0 : Nat) : Int), 0, ()), ())) (se (fun y4 => (some y4.1)) (fun z5 => none)))
def Pn (t0 : Je) (t1 : Int) (t3 : Int) (t11 : Unit) (t12 : Int) (t13 : Int) (t14 : Int) (t15 : Bool) (t69 : Ae) (t70 : Int) (t71 : Int) (b11 : Ca) : Option (OaK ⊕ (((Je × (Int × (Int × Ca))) × Unit) ⊕ OF)) :=
 (cond (decide (t71 < t70))
 (ob (Ya t69 t71) fun x15 =>
 (ob (Vl x15) fun r16 =>
 (cond (!r16.1)
 (some (.inr (.inr ((0, 0, (-1), ()), ()))))
 (cond (decide (x15.1 ≥ (wr .i64 (b11.1 + t1))))
 (some (.inr (.inl ((t0, t3, t12, (min t13 x15.1), t14, false, ()), ()))))
 (cond (!x15.2.2.1)
 (some (.inr (.inl ((t0, t3, t12, (min t13 x15.1), t14, false, ()), ()))))
 (cond (decide (0 ≤ x15.2.1))
 (ob (CI t0 (Nc .i64 t12 (Qa .i64 1 x15.2.1))) fun r17 =>
 (cond (!r17.1)
 (some (.inr (.inl ((t0, t3, t12, (min t13 x15.1), t14, false, ()), ()))))
 (cond (decide (0 ≤ x15.2.1))
 (ob (Im t0 (Nc .i64 t12 (Qa .i64 1 x15.2.1))) fun r18 =>
 (cond (decide (r18.1 ≥ 0))
 (cond (!r18.2.1)
 (some (.inr (.inr (((wr .i64 (t14 + 1)), x15.1, r18.1, ()), ()))))
 (some (.inl ((t0, t1, t3, (), (Nc .i64 t12 (Qa .i64 1 x15.2.1)), t13, (wr .i64 (t14 + 1)), t15, t69, t70, (wr .i64 (t71 + 1)), ()), (b11, ())))))
 (some (.inl ((t0, t1, t3, (), (Nc .i64 t12 (Qa .i64 1 x15.2.1)), t13, (wr .i64 (t14 + 1)), t15, t69, t70, (wr .i64 (t71 + 1)), ()), (b11, ()))))))
 none)))
 none))))))
 (some (.inr (.inl ((t0, t3, t12, t13, t14, t15, ()), ())))))
def Tk := Ua fun x : OaK => Pn x.1.1 x.1.2.1 x.1.2.2.1 x.1.2.2.2.1 x.1.2.2.2.2.1 x.1.2.2.2.2.2.1 x.1.2.2.2.2.2.2.1 x.1.2.2.2.2.2.2.2.1 x.1.2.2.2.2.2.2.2.2.1 x.1.2.2.2.2.2.2.2.2.2.1 x.1.2.2.2.2.2.2.2.2.2.2.1 x.2.1
def JB (a0 : Je) (a1 : Int) (a2 : Ae) (a3 : Int) : Option Zc :=
 (ob (Gz a0) fun r1 =>
 (cond (!r1.1)
 (some (0, 0, (-1), ()))
 (cond (decide (a1 < 1))
 (some (0, 0, (-1), ()))
 (cond (decide (a1 > 200))
 (some (0, 0, (-1), ()))
 (cond (((ln a2 : Nat) : Int) == 0)
 (some (0, 0, (-1), ()))
 (ob (Ya a2 0) fun x2 =>
 (ob (Vl x2) fun r3 =>
 (cond (!r3.1)
 (some (0, 0, (-1), ()))
 (ob (Ya a2 0) fun x4 =>
 (cond (!x4.2.2.1)
 (some (0, 0, (-1), ()))
 (ob (Ya a2 0) fun x5 =>
 (cond (decide (0 ≤ x5.2.1))
 (ob (CI a0 (Qa .i64 1 x5.2.1)) fun r6 =>
 (cond (!r6.1)
 (some (1, x5.1, (-1), ()))
 (cond (Ld (ln a2) 1 ((ln a2 : Nat) : Int))
 (ob (Tk ((a0, a1, a3, (), (Qa .i64 1 x5.2.1), (wr .i64 (x5.1 + a1)), 1, true, (Eb a2 (tn 1) (tn ((ln a2 : Nat) : Int))), ((ln (Eb a2 (tn 1) (tn ((ln a2 : Nat) : Int))) : Nat) : Int), 0, ()), (x5, ()))) (se (fun y19 => (cond y19.1.2.2.2.2.2.1
 (cond (decide (y19.1.2.1 < y19.1.2.2.2.1))
 (some (0, 0, (-1), ()))
 (ob (Im y19.1.1 y19.1.2.2.1) fun r21 =>
 (cond (decide (r21.1 ≥ 0))
 (some (y19.1.2.2.2.2.1, y19.1.2.2.2.1, r21.1, ()))
 (some (1, y19.1.2.2.2.1, (-1), ())))))
 (ob (Im y19.1.1 y19.1.2.2.1) fun r22 =>
 (cond (decide (r22.1 ≥ 0))
 (some (y19.1.2.2.2.2.1, y19.1.2.2.2.1, r22.1, ()))
 (some (1, y19.1.2.2.2.1, (-1), ())))))) (fun z20 => (some z20.1))))
 none)))
 none))))))))))))
def Vh (a0 : Pa) : Option (Pa × (Ae × Wc)) :=
 (cond (Af (ln a0.2.2.1) 0)
 (ob a0.2.2.1[(tn 0)]? fun x1 =>
 (cond (!x1.2.2.1)
 (cond (Ld (ln a0.2.2.1) 1 ((ln a0.2.2.1 : Nat) : Int))
 (cond (bl (ln ([] : List Ca) + ln (Eb a0.2.2.1 (tn 1) (tn ((ln a0.2.2.1 : Nat) : Int)))) Sa)
 (ob (To (a0.1, a0.2.1, (ap [] (Eb a0.2.2.1 (tn 1) (tn ((ln a0.2.2.1 : Nat) : Int)))), a0.2.2.2.1, (max a0.2.2.2.2.1 x1.1), a0.2.2.2.2.2) x1.2.1 (max a0.2.2.2.2.1 x1.1)) fun r2 =>
 (some (r2.1, (r2.2.1, true, ()))))
 none)
 none)
 (ob (JB a0.1 a0.2.1 a0.2.2.1 a0.2.2.2.1) fun r3 =>
 (cond (r3.1 == 0)
 (some (a0, ([], false, ())))
 (cond (Ld (ln a0.2.2.1) r3.1 ((ln a0.2.2.1 : Nat) : Int))
 (cond (bl (ln ([] : List Ca) + ln (Eb a0.2.2.1 (tn r3.1) (tn ((ln a0.2.2.1 : Nat) : Int)))) Sa)
 (cond (decide (r3.2.2.1 < 0))
 (cond (decide (0 ≤ x1.2.1))
 (some ((a0.1, a0.2.1, (ap [] (Eb a0.2.2.1 (tn r3.1) (tn ((ln a0.2.2.1 : Nat) : Int)))), a0.2.2.2.1, (max (max a0.2.2.2.2.1 x1.1) r3.2.1), (Nc .i64 a0.2.2.2.2.2.1 (Qa .i64 1 x1.2.1)), a0.2.2.2.2.2.2), (([((max (max a0.2.2.2.2.1 x1.1) r3.2.1), x1.2.1, true, ())] : List Ca), true, ())))
 none)
 (ob (SD a0.1 r3.2.2.1) fun r4 =>
 (cond (bl (ln a0.2.2.2.2.2.2.1 + ln ([(r3.2.2.1, r4.1.1, true, ())] : List Ca)) Sa)
 (some ((a0.1, a0.2.1, (ap [] (Eb a0.2.2.1 (tn r3.1) (tn ((ln a0.2.2.1 : Nat) : Int)))), a0.2.2.2.1, (max (max a0.2.2.2.2.1 x1.1) r3.2.1), a0.2.2.2.2.2.1, (ap a0.2.2.2.2.2.2.1 ([(r3.2.2.1, r4.1.1, true, ())] : List Ca)), ()), (([((max (max a0.2.2.2.2.1 x1.1) r3.2.1), r3.2.2.1, true, ())] : List Ca), true, ())))
 none)))
 none)
 none)))))
 none)
def Kg (t6 : Unit) (t9 : Unit) (t12 : Ae) (b6 : Pa) (b9 : Pa) : Option (Iav ⊕ (Iav ⊕ Ke)) :=
 (cond (decide (((ln b9.2.2.1 : Nat) : Int) > 0))
 (ob (Vh b9) fun r19 =>
 (cond (!r19.2.2.1)
 (some (.inr (.inl (((), (), t12, ()), (b6, r19.1, ())))))
 (cond (bl (ln t12 + ln r19.2.1) Sa)
 (some (.inl (((), (), (ap t12 r19.2.1), ()), (b6, r19.1, ()))))
 none)))
 (some (.inr (.inl (((), (), t12, ()), (b6, b9, ()))))))
def Tf := Ua fun x : Iav => Kg x.1.1 x.1.2.1 x.1.2.2.1 x.2.1 x.2.2.1
def Xq (a0 : Pa) (a1 : Ae) (a2 : Int) : Option (Pa × (Ae × Wc)) :=
 (ob (Yq a0) fun r1 =>
 (cond (!r1.1)
 (some (Og, [], false, ()))
 (cond (decide (a2 < a0.2.2.2.1))
 (some (Og, [], false, ()))
 (cond (decide (a2 > 1000000))
 (some (Og, [], false, ()))
 (cond (decide (((ln a1 : Nat) : Int) > 0))
 (ob (Ya a1 0) fun x2 =>
 (cond (decide (x2.1 < a0.2.2.2.1))
 (some (Og, [], false, ()))
 (ob (Gi a1 a2) fun r3 =>
 (cond (!r3.1)
 (some (Og, [], false, ()))
 (ob (Bn a0) fun r4 =>
 (cond (bl (ln r4.1.2.2.1 + ln a1) Sa)
 (ob (Mi a0) fun r5 =>
 (ob (Ii (ap r4.1.2.2.1 a1) r5.1 24) fun r6 =>
 (cond (!r6.1)
 (some (Og, [], false, ()))
 (ob (Tf (((), (), [], ()), (Og, (r4.1.1, r4.1.2.1, (ap r4.1.2.2.1 a1), a2, r4.1.2.2.2.2), ()))) (se (fun y11 => (some (y11.2.2.1, y11.1.2.2.1, true, ()))) (fun z12 => none))))))
 none))))))
 (ob (Gi a1 a2) fun r13 =>
 (cond (!r13.1)
 (some (Og, [], false, ()))
 (ob (Bn a0) fun r14 =>
 (cond (bl (ln r14.1.2.2.1 + ln a1) Sa)
 (ob (Mi a0) fun r15 =>
 (ob (Ii (ap r14.1.2.2.1 a1) r15.1 24) fun r16 =>
 (cond (!r16.1)
 (some (Og, [], false, ()))
 (ob (Tf (((), (), [], ()), (Og, (r14.1.1, r14.1.2.1, (ap r14.1.2.2.1 a1), a2, r14.1.2.2.2.2), ()))) (se (fun y20 => (some (y20.2.2.1, y20.1.2.2.1, true, ()))) (fun z21 => none))))))
 none)))))))))
def Al (a0 : Jd) (a1 : Int) : Option (Jd × M2) :=
 (ob (PD a0) fun r1 =>
 (cond (!r1.1)
 (some (Xk, [], false, ()))
 (ob (Fo a0.1 a1) fun r2 =>
 (cond (!r2.1)
 (some (Xk, [], false, ()))
 (cond (decide (a0.2.2.2.2.2.1 ≥ 1000000))
 (some (Xk, [], false, ()))
 (ob (ZD a0.1 a1) fun r3 =>
 (ob (Vq a0.1 a0.2.2.2.2.1 r3.1) fun r4 =>
 (ob (An a0.2.1 r4.1) fun r5 =>
 (cond (!r4.2.1)
 (some (Xk, [], false, ()))
 (cond (!r5.2.1)
 (some (Xk, [], false, ()))
 (ob (Dr a0.2.1.2.2.2.1 r5.1.2.2.2.1 a0.2.2.2.2.2.1) fun r6 =>
 (ob (Xq a0.2.2.1 r6.1 a0.2.2.2.2.2.1) fun r7 =>
 (cond (!r7.2.2.1)
 (some (Xk, [], false, ()))
 (ob (KB a0.2.2.2.1 r7.2.1 a0.2.2.2.2.2.1) fun r8 =>
 (cond (!r8.2.2.1)
 (some (Xk, [], false, ()))
 (some ((a0.1, r5.1, r7.1, r8.1, r4.1, (wr .i64 (a0.2.2.2.2.2.1 + 1)), a0.2.2.2.2.2.2), r8.2.1, true, ())))))))))))))))))
def ZJ (a0 : Zc) : Option OF :=
 (some (a0, ()))
def EE (a0 : Ca) (a1 : Ca) : Option Wc :=
 (cond (a0.1 != a1.1)
 (some (false, ()))
 (cond (a0.2.1 != a1.2.1)
 (some (false, ()))
 (cond (a0.2.2.1 != a1.2.2.1)
 (some (false, ()))
 (some (true, ())))))
def W3 (t0 : Ae) (t1 : Ae) (t5 : Int) : Option (BU ⊕ Sk) :=
 (cond (decide (t5 < ((ln t0 : Nat) : Int)))
 (ob (Ya t0 t5) fun x7 =>
 (ob (Ya t1 t5) fun x8 =>
 (ob (EE x7 x8) fun r9 =>
 (cond (!r9.1)
 (some (.inr (.inr ((false, ()), ()))))
 (some (.inl ((t0, t1, (wr .i64 (t5 + 1)), ()), ())))))))
 (some (.inr (.inl ((), ())))))
def NM := Ua fun x : BU => W3 x.1.1 x.1.2.1 x.1.2.2.1
def Mz (a0 : Ae) (a1 : Ae) : Option Wc :=
 (cond (((ln a0 : Nat) : Int) != ((ln a1 : Nat) : Int))
 (some (false, ()))
 (ob (NM ((a0, a1, 0, ()), ())) (se (fun y10 => (some (true, ()))) (fun z11 => (some (z11.1.1, ()))))))
def Up (t0 : Ae) (t1 : Int) (t5 : Int) : Option (FU ⊕ ((VL × Unit) ⊕ Ke)) :=
 (cond (decide (t5 < ((ln t0 : Nat) : Int)))
 (cond (Af (ln t0) t5)
 (ob t0[(tn t5)]? fun x7 =>
 (cond (Af (ln (ls t0 (tn t5) (t1, x7.2))) t5)
 (ob (ls t0 (tn t5) (t1, x7.2))[(tn t5)]? fun x8 =>
 (cond ((3 : Int) == 0)
 none
 (cond (Af (ln (ls (ls t0 (tn t5) (t1, x7.2)) (tn t5) (x8.1, (wr .i64 (t1 + 1)), x8.2.2))) t5)
 (ob (ls (ls t0 (tn t5) (t1, x7.2)) (tn t5) (x8.1, (wr .i64 (t1 + 1)), x8.2.2))[(tn t5)]? fun x9 =>
 (some (.inl (((ls (ls (ls t0 (tn t5) (t1, x7.2)) (tn t5) (x8.1, (wr .i64 (t1 + 1)), x8.2.2)) (tn t5) (x9.1, x9.2.1, ((Int.tmod (wr .i64 ((wr .i64 (t1 + 1)) + 1)) 3) == 0), x9.2.2.2)), (wr .i64 ((wr .i64 ((wr .i64 (t1 + 1)) + 1)) + 1)), (wr .i64 (t5 + 1)), ()), ()))))
 none)))
 none))
 none)
 (some (.inr (.inl ((t0, t1, ()), ())))))
def NI := Ua fun x : FU => Up x.1.1 x.1.2.1 x.1.2.2.1
def CC (a0 : Ae) (a1 : Int) : Option VL :=
 (ob (NI ((a0, a1, 0, ()), ())) (se (fun y10 => (some (y10.1.1, (y10.1.2.1, ())))) (fun z11 => none)))
def Rp (t0 : Ae) (t1 : Int) (t5 : Int) : Option (FU ⊕ NF) :=
 (cond (decide (t5 < ((ln t0 : Nat) : Int)))
 (ob (Ya t0 t5) fun x7 =>
 (cond (x7.1 != t1)
 (some (.inr (.inr (((-1), ()), ()))))
 (ob (Ya t0 t5) fun x8 =>
 (cond (x8.2.1 != (wr .i64 (t1 + 1)))
 (some (.inr (.inr (((-1), ()), ()))))
 (ob (Ya t0 t5) fun x9 =>
 (cond ((3 : Int) == 0)
 none
 (cond (x9.2.2.1 != ((Int.tmod (wr .i64 ((wr .i64 (t1 + 1)) + 1)) 3) == 0))
 (some (.inr (.inr (((-1), ()), ()))))
 (some (.inl ((t0, (wr .i64 ((wr .i64 ((wr .i64 (t1 + 1)) + 1)) + 1)), (wr .i64 (t5 + 1)), ()), ()))))))))))
 (some (.inr (.inl ((t1, ()), ())))))
def KI := Ua fun x : FU => Rp x.1.1 x.1.2.1 x.1.2.2.1
def ZB (a0 : Ae) (a1 : Int) : Option Gc :=
 (ob (KI ((a0, a1, 0, ()), ())) (se (fun y10 => (some (y10.1.1, ()))) (fun z11 => (some (z11.1.1, ())))))
def Vx (a0 : Qb) (a1 : Int) : Option Gc :=
 (ob (CQ a0.2.2.2.2.2.1 a1) fun r1 =>
 (cond (decide (r1.1 < 0))
 (some ((-1), ()))
 (some (r1.1, ()))))
def QJ (a0 : Je) (a1 : Int) : Option Gc :=
 (cond (decide ((wr .i64 (a1 - ((ln a0 : Nat) : Int))) < 0))
 (some ((-1), ()))
 (some ((wr .i64 (a1 - ((ln a0 : Nat) : Int))), ())))
def Nz (a0 : Ae) (a1 : Int) : Option Gc :=
 (cond (decide ((wr .i64 (a1 - ((ln a0 : Nat) : Int))) < 0))
 (some ((-1), ()))
 (some ((wr .i64 (a1 - ((ln a0 : Nat) : Int))), ())))
def FG (a0 : Ae) (a1 : Int) : Option Gc :=
 (cond (decide ((wr .i64 (a1 - ((ln a0 : Nat) : Int))) < 0))
 (some ((-1), ()))
 (some ((wr .i64 (a1 - ((ln a0 : Nat) : Int))), ())))
def FC (a0 : Pa) (a1 : Int) : Option Gc :=
 (ob (QJ a0.1 a1) fun r1 =>
 (cond (decide (r1.1 < 0))
 (some ((-1), ()))
 (ob (Nz a0.2.2.1 r1.1) fun r2 =>
 (cond (decide (r2.1 < 0))
 (some ((-1), ()))
 (ob (FG a0.2.2.2.2.2.2.1 r2.1) fun r3 =>
 (cond (decide (r3.1 < 0))
 (some ((-1), ()))
 (some (r3.1, ()))))))))
def JE (a0 : Qh) (a1 : Int) : Option Gc :=
 (cond (decide ((wr .i64 (a1 - ((ln a0 : Nat) : Int))) < 0))
 (some ((-1), ()))
 (some ((wr .i64 (a1 - ((ln a0 : Nat) : Int))), ())))
def Y3 (t0 : Xh) (t1 : Int) (t5 : Int) : Option ((SP × Unit) ⊕ NF) :=
 (cond (decide (t5 < ((ln t0 : Nat) : Int)))
 (ob (Ya t0 t5) fun x5 =>
 (ob (JE x5 t1) fun r6 =>
 (cond (decide (r6.1 < 0))
 (some (.inr (.inr (((-1), ()), ()))))
 (some (.inl ((t0, r6.1, (wr .i64 (t5 + 1)), ()), ()))))))
 (some (.inr (.inl ((t1, ()), ())))))
def BN := Ua fun x : (SP × Unit) => Y3 x.1.1 x.1.2.1 x.1.2.2.1
def UJ (a0 : Xh) (a1 : Int) : Option Gc :=
 (cond (decide ((wr .i64 (a1 - ((ln a0 : Nat) : Int))) < 0))
 (some ((-1), ()))
 (ob (BN ((a0, (wr .i64 (a1 - ((ln a0 : Nat) : Int))), 0, ()), ())) (se (fun y7 => (some (y7.1.1, ()))) (fun z8 => (some (z8.1.1, ()))))))
def AN (a0 : Ge) (a1 : Int) : Option Gc :=
 (cond (decide ((wr .i64 (a1 - ((ln a0 : Nat) : Int))) < 0))
 (some ((-1), ()))
 (some ((wr .i64 (a1 - ((ln a0 : Nat) : Int))), ())))
def RJ (a0 : Hb) (a1 : Int) : Option Gc :=
 (ob (TJ a0.1 a1) fun r1 =>
 (cond (decide (r1.1 < 0))
 (some ((-1), ()))
 (ob (UJ a0.2.1 r1.1) fun r2 =>
 (cond (decide (r2.1 < 0))
 (some ((-1), ()))
 (ob (AN a0.2.2.2.1 r2.1) fun r3 =>
 (cond (decide (r3.1 < 0))
 (some ((-1), ()))
 (some (r3.1, ()))))))))
def GG (a0 : Gb) (a1 : Int) : Option Gc :=
 (ob (RJ a0.1 a1) fun r1 =>
 (cond (decide (r1.1 < 0))
 (some ((-1), ()))
 (ob (Nz a0.2.2.1 r1.1) fun r2 =>
 (cond (decide (r2.1 < 0))
 (some ((-1), ()))
 (some (r2.1, ()))))))
def YM (a0 : Jd) (a1 : Int) : Option Gc :=
 (ob (Vx a0.2.1 a1) fun r1 =>
 (cond (decide (r1.1 < 0))
 (some ((-1), ()))
 (ob (FC a0.2.2.1 r1.1) fun r2 =>
 (cond (decide (r2.1 < 0))
 (some ((-1), ()))
 (ob (GG a0.2.2.2.1 r2.1) fun r3 =>
 (cond (decide (r3.1 < 0))
 (some ((-1), ()))
 (some (r3.1, ()))))))))
def GC (a0 : Rb) (a1 : Int) : Option Gc :=
 (ob (ZM a0.1 a1) fun r1 =>
 (cond (decide (r1.1 < 0))
 (some ((-1), ()))
 (some (r1.1, ()))))
def SJ (a0 : Gd) (a1 : Int) : Option Gc :=
 (ob (YM a0.1 a1) fun r1 =>
 (cond (decide (r1.1 < 0))
 (some ((-1), ()))
 (ob (GC a0.2.1 r1.1) fun r2 =>
 (cond (decide (r2.1 < 0))
 (some ((-1), ()))
 (some (r2.1, ()))))))
def Xx (a0 : Qb) : Option XR :=
 (ob (DQ a0.2.2.2.2.2.1) fun r1 =>
 (some ((a0.1, a0.2.1, a0.2.2.1, a0.2.2.2.1, a0.2.2.2.2.1, r1.1, ()), ())))
def KE (a0 : Wa) : Option TL :=
 (some (a0, ()))
def Z3 (t0 : Je) (t3 : Je) (t4 : Int) : Option (Vaf ⊕ (((Je × Unit) × Unit) ⊕ Ke)) :=
 (cond (decide (t4 < ((ln t0 : Nat) : Int)))
 (ob (Ya t0 t4) fun x7 =>
 (ob (KE x7) fun r8 =>
 (cond (Af (ln t3) t4)
 (ob t3[(tn t4)]? fun x9 =>
 (some (.inl ((t0, (ls t3 (tn t4) r8.1), (wr .i64 (t4 + 1)), ()), ()))))
 none)))
 (some (.inr (.inl ((t3, ()), ())))))
def EN := Ua fun x : Vaf => Z3 x.1.1 x.1.2.1 x.1.2.2.1
def KR (a0 : Je) : Option (Je × Unit) :=
 (cond ((((ln a0 : Nat) : Int) == ((ln a0 : Nat) : Int)) && (decide (0 ≤ ((ln a0 : Nat) : Int)) && decide (((ln a0 : Nat) : Int) ≤ ((Sa : Nat) : Int))))
 (ob (EN ((a0, (List.replicate (tn ((ln a0 : Nat) : Int)) (0, 0, ())), 0, ()), ())) (se (fun y10 => (some (y10.1.1, ()))) (fun z11 => none)))
 none)
def LE (a0 : Ca) : Option Nh :=
 (some (a0, ()))
def A4 (t0 : Ae) (t3 : Ae) (t4 : Int) : Option (BU ⊕ ((LF × Unit) ⊕ Ke)) :=
 (cond (decide (t4 < ((ln t0 : Nat) : Int)))
 (ob (Ya t0 t4) fun x7 =>
 (ob (LE x7) fun r8 =>
 (cond (Af (ln t3) t4)
 (ob t3[(tn t4)]? fun x9 =>
 (some (.inl ((t0, (ls t3 (tn t4) r8.1), (wr .i64 (t4 + 1)), ()), ()))))
 none)))
 (some (.inr (.inl ((t3, ()), ())))))
def FN := Ua fun x : BU => A4 x.1.1 x.1.2.1 x.1.2.2.1
def WJ (a0 : Ae) : Option LF :=
 (cond ((((ln a0 : Nat) : Int) == ((ln a0 : Nat) : Int)) && (decide (0 ≤ ((ln a0 : Nat) : Int)) && decide (((ln a0 : Nat) : Int) ≤ ((Sa : Nat) : Int))))
 (ob (FN ((a0, (List.replicate (tn ((ln a0 : Nat) : Int)) (0, 0, false, ())), 0, ()), ())) (se (fun y10 => (some (y10.1.1, ()))) (fun z11 => none)))
 none)
def Oz (a0 : Ca) : Option Nh :=
 (some (a0, ()))
def C1 (t0 : Ae) (t3 : Ae) (t4 : Int) : Option (BU ⊕ ((LF × Unit) ⊕ Ke)) :=
 (cond (decide (t4 < ((ln t0 : Nat) : Int)))
 (ob (Ya t0 t4) fun x7 =>
 (ob (Oz x7) fun r8 =>
 (cond (Af (ln t3) t4)
 (ob t3[(tn t4)]? fun x9 =>
 (some (.inl ((t0, (ls t3 (tn t4) r8.1), (wr .i64 (t4 + 1)), ()), ()))))
 none)))
 (some (.inr (.inl ((t3, ()), ())))))
def OL := Ua fun x : BU => C1 x.1.1 x.1.2.1 x.1.2.2.1
def EP (a0 : Ae) : Option LF :=
 (cond ((((ln a0 : Nat) : Int) == ((ln a0 : Nat) : Int)) && (decide (0 ≤ ((ln a0 : Nat) : Int)) && decide (((ln a0 : Nat) : Int) ≤ ((Sa : Nat) : Int))))
 (ob (OL ((a0, (List.replicate (tn ((ln a0 : Nat) : Int)) (0, 0, false, ())), 0, ()), ())) (se (fun y10 => (some (y10.1.1, ()))) (fun z11 => none)))
 none)
def HC (a0 : Pa) : Option JF :=
 (ob (KR a0.1) fun r1 =>
 (ob (WJ a0.2.2.1) fun r2 =>
 (ob (EP a0.2.2.2.2.2.2.1) fun r3 =>
 (some ((r1.1, a0.2.1, r2.1, a0.2.2.2.1, a0.2.2.2.2.1, a0.2.2.2.2.2.1, r3.1, ()), ())))))
def SI (a0 : Zc) : Option OF :=
 (some (a0, ()))
def Y6 (t0 : Qh) (t3 : Qh) (t4 : Int) : Option (Yaf ⊕ (((Qh × Unit) × Unit) ⊕ Ke)) :=
 (cond (decide (t4 < ((ln t0 : Nat) : Int)))
 (ob (Ya t0 t4) fun x7 =>
 (ob (SI x7) fun r8 =>
 (cond (Af (ln t3) t4)
 (ob t3[(tn t4)]? fun x9 =>
 (some (.inl ((t0, (ls t3 (tn t4) r8.1), (wr .i64 (t4 + 1)), ()), ()))))
 none)))
 (some (.inr (.inl ((t3, ()), ())))))
def BO := Ua fun x : Yaf => Y6 x.1.1 x.1.2.1 x.1.2.2.1
def GN (a0 : Qh) : Option (Qh × Unit) :=
 (cond ((((ln a0 : Nat) : Int) == ((ln a0 : Nat) : Int)) && (decide (0 ≤ ((ln a0 : Nat) : Int)) && decide (((ln a0 : Nat) : Int) ≤ ((Sa : Nat) : Int))))
 (ob (BO ((a0, (List.replicate (tn ((ln a0 : Nat) : Int)) (0, 0, 0, ())), 0, ()), ())) (se (fun y10 => (some (y10.1.1, ()))) (fun z11 => none)))
 none)
def B4 (t0 : Xh) (t3 : Xh) (t4 : Int) : Option (Uaf ⊕ (((Xh × Unit) × Unit) ⊕ Ke)) :=
 (cond (decide (t4 < ((ln t0 : Nat) : Int)))
 (ob (Ya t0 t4) fun x7 =>
 (ob (GN x7) fun r8 =>
 (cond (Af (ln t3) t4)
 (ob t3[(tn t4)]? fun x9 =>
 (some (.inl ((t0, (ls t3 (tn t4) r8.1), (wr .i64 (t4 + 1)), ()), ()))))
 none)))
 (some (.inr (.inl ((t3, ()), ())))))
def HN := Ua fun x : Uaf => B4 x.1.1 x.1.2.1 x.1.2.2.1
def LR (a0 : Xh) : Option (Xh × Unit) :=
 (cond ((((ln a0 : Nat) : Int) == ((ln a0 : Nat) : Int)) && (decide (0 ≤ ((ln a0 : Nat) : Int)) && decide (((ln a0 : Nat) : Int) ≤ ((Sa : Nat) : Int))))
 (ob (HN ((a0, (List.replicate (tn ((ln a0 : Nat) : Int)) []), 0, ()), ())) (se (fun y10 => (some (y10.1.1, ()))) (fun z11 => none)))
 none)
def RI (a0 : Ra) : Option (Ra × Unit) :=
 (ob (Oq a0.2.1) fun r1 =>
 (some ((a0.1, r1.1, ()), ())))
def X6 (t0 : Ge) (t3 : Ge) (t4 : Int) : Option (Xaf ⊕ (((Ge × Unit) × Unit) ⊕ Ke)) :=
 (cond (decide (t4 < ((ln t0 : Nat) : Int)))
 (ob (Ya t0 t4) fun x7 =>
 (ob (RI x7) fun r8 =>
 (cond (Af (ln t3) t4)
 (ob t3[(tn t4)]? fun x9 =>
 (some (.inl ((t0, (ls t3 (tn t4) r8.1), (wr .i64 (t4 + 1)), ()), ()))))
 none)))
 (some (.inr (.inl ((t3, ()), ())))))
def AO := Ua fun x : Xaf => X6 x.1.1 x.1.2.1 x.1.2.2.1
def MT (a0 : Ge) : Option (Ge × Unit) :=
 (cond ((((ln a0 : Nat) : Int) == ((ln a0 : Nat) : Int)) && (decide (0 ≤ ((ln a0 : Nat) : Int)) && decide (((ln a0 : Nat) : Int) ≤ ((Sa : Nat) : Int))))
 (ob (AO ((a0, (List.replicate (tn ((ln a0 : Nat) : Int)) (0, (0, 0, 0, 0, ()), ())), 0, ()), ())) (se (fun y10 => (some (y10.1.1, ()))) (fun z11 => none)))
 none)
def VJ (a0 : Hb) : Option Zl :=
 (ob (XJ a0.1) fun r1 =>
 (ob (LR a0.2.1) fun r2 =>
 (ob (MT a0.2.2.2.1) fun r3 =>
 (some ((r1.1, r2.1, a0.2.2.1, r3.1, a0.2.2.2.2.1, a0.2.2.2.2.2.1, ()), ())))))
def IG (a0 : Gb) : Option YR :=
 (ob (VJ a0.1) fun r1 =>
 (ob (ZJ a0.2.1) fun r2 =>
 (ob (WJ a0.2.2.1) fun r3 =>
 (some ((r1.1, r2.1, r3.1, a0.2.2.2.1, a0.2.2.2.2.1, a0.2.2.2.2.2.1, a0.2.2.2.2.2.2.1, ()), ())))))
def DN (a0 : Jd) : Option QP :=
 (ob (YJ a0.1) fun r1 =>
 (ob (Xx a0.2.1) fun r2 =>
 (ob (HC a0.2.2.1) fun r3 =>
 (ob (IG a0.2.2.2.1) fun r4 =>
 (some ((r1.1, r2.1, r3.1, r4.1, a0.2.2.2.2.1, a0.2.2.2.2.2.1, ()), ()))))))
def JC (a0 : Rb) : Option EX :=
 (ob (Xl a0.1) fun r1 =>
 (some ((r1.1, a0.2.1, a0.2.2.1, a0.2.2.2.1, ()), ())))
def Vm (a0 : Gd) : Option (Gd × Unit) :=
 (ob (DN a0.1) fun r1 =>
 (ob (JC a0.2.1) fun r2 =>
 (some ((r1.1, r2.1, a0.2.2.1, ()), ()))))
def Sz (a0 : Gd) : Option Gc :=
 (cond ((2 : Int) == 0)
 none
 (cond ((Int.tmod a0.1.1.1 2) != 0)
 (some (0, ()))
 (ob (Ok a0.1.1) fun r1 =>
 (cond ((2 : Int) == 0)
 none
 (some ((wr .i64 (Int.tdiv r1.1 2)), ()))))))
def Ez (a0 : Gd) : Option Gc :=
 (cond ((2 : Int) == 0)
 none
 (cond ((Int.tmod a0.1.1.1 2) != 0)
 (some (0, ()))
 (ob (Fj a0.1.1) fun r1 =>
 (cond ((2 : Int) == 0)
 none
 (some ((wr .i64 (Int.tdiv r1.1 2)), ()))))))
def KJ (a0 : Ca) (a1 : Ca) : Option Wc :=
 (cond (a0.1 != a1.1)
 (some (false, ()))
 (cond (a0.2.1 != a1.2.1)
 (some (false, ()))
 (cond (a0.2.2.1 != a1.2.2.1)
 (some (false, ()))
 (some (true, ())))))
def Sx (a0 : Qb) (a1 : Qb) : Option Wc :=
 (cond (a0.1 != a1.1)
 (some (false, ()))
 (cond (a0.2.1 != a1.2.1)
 (some (false, ()))
 (cond (a0.2.2.1 != a1.2.2.1)
 (some (false, ()))
 (cond (a0.2.2.2.1 != a1.2.2.2.1)
 (some (false, ()))
 (cond (a0.2.2.2.2.1 != a1.2.2.2.2.1)
 (some (false, ()))
 (ob (FI a0.2.2.2.2.2.1 a1.2.2.2.2.2.1) fun r1 =>
 (cond (!r1.1)
 (some (false, ()))
 (some (true, ())))))))))
def DE (a0 : Wa) (a1 : Wa) : Option Wc :=
 (cond (a0.1 != a1.1)
 (some (false, ()))
 (cond (a0.2.1 != a1.2.1)
 (some (false, ()))
 (some (true, ()))))
def V3 (t0 : Je) (t1 : Je) (t5 : Int) : Option (Vaf ⊕ Sk) :=
 (cond (decide (t5 < ((ln t0 : Nat) : Int)))
 (ob (Ya t0 t5) fun x7 =>
 (ob (Ya t1 t5) fun x8 =>
 (ob (DE x7 x8) fun r9 =>
 (cond (!r9.1)
 (some (.inr (.inr ((false, ()), ()))))
 (some (.inl ((t0, t1, (wr .i64 (t5 + 1)), ()), ())))))))
 (some (.inr (.inl ((), ())))))
def MM := Ua fun x : Vaf => V3 x.1.1 x.1.2.1 x.1.2.2.1
def HJ (a0 : Je) (a1 : Je) : Option Wc :=
 (cond (((ln a0 : Nat) : Int) != ((ln a1 : Nat) : Int))
 (some (false, ()))
 (ob (MM ((a0, a1, 0, ()), ())) (se (fun y10 => (some (true, ()))) (fun z11 => (some (z11.1.1, ()))))))
def Lz (a0 : Ca) (a1 : Ca) : Option Wc :=
 (cond (a0.1 != a1.1)
 (some (false, ()))
 (cond (a0.2.1 != a1.2.1)
 (some (false, ()))
 (cond (a0.2.2.1 != a1.2.2.1)
 (some (false, ()))
 (some (true, ())))))
def A1 (t0 : Ae) (t1 : Ae) (t5 : Int) : Option (BU ⊕ Sk) :=
 (cond (decide (t5 < ((ln t0 : Nat) : Int)))
 (ob (Ya t0 t5) fun x7 =>
 (ob (Ya t1 t5) fun x8 =>
 (ob (Lz x7 x8) fun r9 =>
 (cond (!r9.1)
 (some (.inr (.inr ((false, ()), ()))))
 (some (.inl ((t0, t1, (wr .i64 (t5 + 1)), ()), ())))))))
 (some (.inr (.inl ((), ())))))
def EL := Ua fun x : BU => A1 x.1.1 x.1.2.1 x.1.2.2.1
def ZF (a0 : Ae) (a1 : Ae) : Option Wc :=
 (cond (((ln a0 : Nat) : Int) != ((ln a1 : Nat) : Int))
 (some (false, ()))
 (ob (EL ((a0, a1, 0, ()), ())) (se (fun y10 => (some (true, ()))) (fun z11 => (some (z11.1.1, ()))))))
def VB (a0 : Pa) (a1 : Pa) : Option Wc :=
 (ob (HJ a0.1 a1.1) fun r1 =>
 (cond (!r1.1)
 (some (false, ()))
 (cond (a0.2.1 != a1.2.1)
 (some (false, ()))
 (ob (Mz a0.2.2.1 a1.2.2.1) fun r2 =>
 (cond (!r2.1)
 (some (false, ()))
 (cond (a0.2.2.2.1 != a1.2.2.2.1)
 (some (false, ()))
 (cond (a0.2.2.2.2.1 != a1.2.2.2.2.1)
 (some (false, ()))
 (cond (a0.2.2.2.2.2.1 != a1.2.2.2.2.2.1)
 (some (false, ()))
 (ob (ZF a0.2.2.2.2.2.2.1 a1.2.2.2.2.2.2.1) fun r3 =>
 (cond (!r3.1)
 (some (false, ()))
 (some (true, ()))))))))))))
def HI (a0 : Zc) (a1 : Zc) : Option Wc :=
 (cond (a0.1 != a1.1)
 (some (false, ()))
 (cond (a0.2.1 != a1.2.1)
 (some (false, ()))
 (cond (a0.2.2.1 != a1.2.2.1)
 (some (false, ()))
 (some (true, ())))))
def W6 (t0 : Qh) (t1 : Qh) (t5 : Int) : Option (Yaf ⊕ Sk) :=
 (cond (decide (t5 < ((ln t0 : Nat) : Int)))
 (ob (Ya t0 t5) fun x7 =>
 (ob (Ya t1 t5) fun x8 =>
 (ob (HI x7 x8) fun r9 =>
 (cond (!r9.1)
 (some (.inr (.inr ((false, ()), ()))))
 (some (.inl ((t0, t1, (wr .i64 (t5 + 1)), ()), ())))))))
 (some (.inr (.inl ((), ())))))
def ZN := Ua fun x : Yaf => W6 x.1.1 x.1.2.1 x.1.2.2.1
def GE (a0 : Qh) (a1 : Qh) : Option Wc :=
 (cond (((ln a0 : Nat) : Int) != ((ln a1 : Nat) : Int))
 (some (false, ()))
 (ob (ZN ((a0, a1, 0, ()), ())) (se (fun y10 => (some (true, ()))) (fun z11 => (some (z11.1.1, ()))))))
def X3 (t0 : Xh) (t1 : Xh) (t5 : Int) : Option (Uaf ⊕ Sk) :=
 (cond (decide (t5 < ((ln t0 : Nat) : Int)))
 (ob (Ya t0 t5) fun x7 =>
 (ob (Ya t1 t5) fun x8 =>
 (ob (GE x7 x8) fun r9 =>
 (cond (!r9.1)
 (some (.inr (.inr ((false, ()), ()))))
 (some (.inl ((t0, t1, (wr .i64 (t5 + 1)), ()), ())))))))
 (some (.inr (.inl ((), ())))))
def QM := Ua fun x : Uaf => X3 x.1.1 x.1.2.1 x.1.2.2.1
def MJ (a0 : Xh) (a1 : Xh) : Option Wc :=
 (cond (((ln a0 : Nat) : Int) != ((ln a1 : Nat) : Int))
 (some (false, ()))
 (ob (QM ((a0, a1, 0, ()), ())) (se (fun y10 => (some (true, ()))) (fun z11 => (some (z11.1.1, ()))))))
def EI (a0 : Ra) (a1 : Ra) : Option Wc :=
 (cond (a0.1 != a1.1)
 (some (false, ()))
 (ob (Nq a0.2.1 a1.2.1) fun r1 =>
 (cond (!r1.1)
 (some (false, ()))
 (some (true, ())))))
def U6 (t0 : Ge) (t1 : Ge) (t5 : Int) : Option (Xaf ⊕ Sk) :=
 (cond (decide (t5 < ((ln t0 : Nat) : Int)))
 (ob (Ya t0 t5) fun x7 =>
 (ob (Ya t1 t5) fun x8 =>
 (ob (EI x7 x8) fun r9 =>
 (cond (!r9.1)
 (some (.inr (.inr ((false, ()), ()))))
 (some (.inl ((t0, t1, (wr .i64 (t5 + 1)), ()), ())))))))
 (some (.inr (.inl ((), ())))))
def XN := Ua fun x : Xaf => U6 x.1.1 x.1.2.1 x.1.2.2.1
def OM (a0 : Ge) (a1 : Ge) : Option Wc :=
 (cond (((ln a0 : Nat) : Int) != ((ln a1 : Nat) : Int))
 (some (false, ()))
 (ob (XN ((a0, a1, 0, ()), ())) (se (fun y10 => (some (true, ()))) (fun z11 => (some (z11.1.1, ()))))))
def IJ (a0 : Hb) (a1 : Hb) : Option Wc :=
 (ob (JJ a0.1 a1.1) fun r1 =>
 (cond (!r1.1)
 (some (false, ()))
 (ob (MJ a0.2.1 a1.2.1) fun r2 =>
 (cond (!r2.1)
 (some (false, ()))
 (cond (a0.2.2.1 != a1.2.2.1)
 (some (false, ()))
 (ob (OM a0.2.2.2.1 a1.2.2.2.1) fun r3 =>
 (cond (!r3.1)
 (some (false, ()))
 (cond (a0.2.2.2.2.1 != a1.2.2.2.2.1)
 (some (false, ()))
 (cond (a0.2.2.2.2.2.1 != a1.2.2.2.2.2.1)
 (some (false, ()))
 (some (true, ())))))))))))
def AG (a0 : Gb) (a1 : Gb) : Option Wc :=
 (ob (IJ a0.1 a1.1) fun r1 =>
 (cond (!r1.1)
 (some (false, ()))
 (ob (NJ a0.2.1 a1.2.1) fun r2 =>
 (cond (!r2.1)
 (some (false, ()))
 (ob (Mz a0.2.2.1 a1.2.2.1) fun r3 =>
 (cond (!r3.1)
 (some (false, ()))
 (cond (a0.2.2.2.1 != a1.2.2.2.1)
 (some (false, ()))
 (cond (a0.2.2.2.2.1 != a1.2.2.2.2.1)
 (some (false, ()))
 (cond (a0.2.2.2.2.2.1 != a1.2.2.2.2.2.1)
 (some (false, ()))
 (cond (a0.2.2.2.2.2.2.1 != a1.2.2.2.2.2.2.1)
 (some (false, ()))
 (some (true, ()))))))))))))
def LM (a0 : Jd) (a1 : Jd) : Option Wc :=
 (ob (KJ a0.1 a1.1) fun r1 =>
 (cond (!r1.1)
 (some (false, ()))
 (ob (Sx a0.2.1 a1.2.1) fun r2 =>
 (cond (!r2.1)
 (some (false, ()))
 (ob (VB a0.2.2.1 a1.2.2.1) fun r3 =>
 (cond (!r3.1)
 (some (false, ()))
 (ob (AG a0.2.2.2.1 a1.2.2.2.1) fun r4 =>
 (cond (!r4.1)
 (some (false, ()))
 (cond (a0.2.2.2.2.1 != a1.2.2.2.2.1)
 (some (false, ()))
 (cond (a0.2.2.2.2.2.1 != a1.2.2.2.2.2.1)
 (some (false, ()))
 (some (true, ()))))))))))))
def XB (a0 : Rb) (a1 : Rb) : Option Wc :=
 (ob (CE a0.1 a1.1) fun r1 =>
 (cond (!r1.1)
 (some (false, ()))
 (cond (a0.2.1 != a1.2.1)
 (some (false, ()))
 (cond (a0.2.2.1 != a1.2.2.1)
 (some (false, ()))
 (cond (a0.2.2.2.1 != a1.2.2.2.1)
 (some (false, ()))
 (some (true, ())))))))
def Um (a0 : Gd) (a1 : Gd) : Option Wc :=
 (ob (LM a0.1 a1.1) fun r1 =>
 (cond (!r1.1)
 (some (false, ()))
 (ob (XB a0.2.1 a1.2.1) fun r2 =>
 (cond (!r2.1)
 (some (false, ()))
 (cond (a0.2.2.1 != a1.2.2.1)
 (some (false, ()))
 (some (true, ())))))))
def Ek (a0 : Rb) : Option Wc :=
 (cond (decide (((ln a0.1 : Nat) : Int) < 6))
 (ob (Sb a0.2.1 (-1) 255) fun r1 =>
 (cond r1.1
 (ob (Sb a0.2.2.1 0 16777215) fun r2 =>
 (cond r2.1
 (ob (Sb a0.2.2.2.1 0 20) fun r3 =>
 (some (r3.1, ())))
 (some (false, ()))))
 (some (false, ()))))
 (some (false, ())))
def DK (a0 : Gd) : Option Wc :=
 (ob (RE a0.1) fun r1 =>
 (cond r1.1
 (ob (Sz a0) fun r2 =>
 (cond (decide (r2.1 > 0))
 (ob (Ek a0.2.1) fun r3 =>
 (cond r3.1
 (ob (Sb a0.2.2.1 0 255) fun r4 =>
 (some (r4.1, ())))
 (some (false, ()))))
 (some (false, ()))))
 (some (false, ()))))
def Bk (a0 : Rb) : Option Wc :=
 (cond (decide (((ln a0.1 : Nat) : Int) < 6))
 (cond (decide (a0.2.1 ≥ (-1)))
 (cond (decide (a0.2.1 ≤ 255))
 (cond (decide (a0.2.2.1 ≥ 0))
 (cond (decide (a0.2.2.1 ≤ 16777215))
 (cond (decide (a0.2.2.2.1 ≥ 0))
 (some ((decide (a0.2.2.2.1 ≤ 20)), ()))
 (some (false, ())))
 (some (false, ())))
 (some (false, ())))
 (some (false, ())))
 (some (false, ())))
 (some (false, ())))
def DJ (a0 : Gd) : Option Wc :=
 (ob (PD a0.1) fun r1 =>
 (cond r1.1
 (ob (Bk a0.2.1) fun r2 =>
 (cond r2.1
 (ob (Ez a0) fun r3 =>
 (cond (r3.1 != 0)
 (cond (decide (a0.2.2.1 ≥ 0))
 (some ((decide (a0.2.2.1 ≤ 255)), ()))
 (some (false, ())))
 (some (false, ()))))
 (some (false, ()))))
 (some (false, ()))))
def Rr (a0 : Qb) (a1 : Int) : Option (Qb × Gc) :=
 (ob (PJ a0.2.2.2.2.2.1 a1) fun r1 =>
 (some ((a0.1, a0.2.1, a0.2.2.1, a0.2.2.2.1, a0.2.2.2.2.1, r1.1, ()), (r1.2.1, ()))))
def Tp (t0 : Je) (t1 : Int) (t5 : Int) : Option (TP ⊕ (C8 ⊕ Ke)) :=
 (cond (decide (t5 < ((ln t0 : Nat) : Int)))
 (cond (Af (ln t0) t5)
 (ob t0[(tn t5)]? fun x5 =>
 (cond (Af (ln (ls t0 (tn t5) (t1, x5.2))) t5)
 (ob (ls t0 (tn t5) (t1, x5.2))[(tn t5)]? fun x6 =>
 (some (.inl (((ls (ls t0 (tn t5) (t1, x5.2)) (tn t5) (x6.1, (wr .i64 (t1 + 1)), x6.2.2)), (wr .i64 ((wr .i64 (t1 + 1)) + 1)), (wr .i64 (t5 + 1)), ()), ()))))
 none))
 none)
 (some (.inr (.inl ((t0, t1, ()), ())))))
def MI := Ua fun x : TP => Tp x.1.1 x.1.2.1 x.1.2.2.1
def VM (a0 : Je) (a1 : Int) : Option (Je × Gc) :=
 (ob (MI ((a0, a1, 0, ()), ())) (se (fun y7 => (some (y7.1.1, (y7.1.2.1, ())))) (fun z8 => none)))
def Un (t0 : Ae) (t1 : Int) (t5 : Int) : Option (FU ⊕ ((VL × Unit) ⊕ Ke)) :=
 (cond (decide (t5 < ((ln t0 : Nat) : Int)))
 (cond (Af (ln t0) t5)
 (ob t0[(tn t5)]? fun x7 =>
 (cond (Af (ln (ls t0 (tn t5) (t1, x7.2))) t5)
 (ob (ls t0 (tn t5) (t1, x7.2))[(tn t5)]? fun x8 =>
 (cond ((3 : Int) == 0)
 none
 (cond (Af (ln (ls (ls t0 (tn t5) (t1, x7.2)) (tn t5) (x8.1, (wr .i64 (t1 + 1)), x8.2.2))) t5)
 (ob (ls (ls t0 (tn t5) (t1, x7.2)) (tn t5) (x8.1, (wr .i64 (t1 + 1)), x8.2.2))[(tn t5)]? fun x9 =>
 (some (.inl (((ls (ls (ls t0 (tn t5) (t1, x7.2)) (tn t5) (x8.1, (wr .i64 (t1 + 1)), x8.2.2)) (tn t5) (x9.1, x9.2.1, ((Int.tmod (wr .i64 ((wr .i64 (t1 + 1)) + 1)) 3) == 0), x9.2.2.2)), (wr .i64 ((wr .i64 ((wr .i64 (t1 + 1)) + 1)) + 1)), (wr .i64 (t5 + 1)), ()), ()))))
 none)))
 none))
 none)
 (some (.inr (.inl ((t0, t1, ()), ())))))
def YG := Ua fun x : FU => Un x.1.1 x.1.2.1 x.1.2.2.1
def TK (a0 : Ae) (a1 : Int) : Option VL :=
 (ob (YG ((a0, a1, 0, ()), ())) (se (fun y10 => (some (y10.1.1, (y10.1.2.1, ())))) (fun z11 => none)))
def Gu (a0 : Pa) (a1 : Int) : Option (Pa × Gc) :=
 (ob (VM a0.1 a1) fun r1 =>
 (ob (CC a0.2.2.1 r1.2.1) fun r2 =>
 (ob (TK a0.2.2.2.2.2.2.1 r2.2.1) fun r3 =>
 (some ((r1.1, a0.2.1, r2.1, a0.2.2.2.1, a0.2.2.2.2.1, a0.2.2.2.2.2.1, r3.1, ()), (r3.2.1, ()))))))
def Vr (t0 : Qh) (t1 : Int) (t5 : Int) : Option ((EU × Unit) ⊕ (((Qh × Gc) × Unit) ⊕ Ke)) :=
 (cond (decide (t5 < ((ln t0 : Nat) : Int)))
 (cond (Af (ln t0) t5)
 (ob t0[(tn t5)]? fun x7 =>
 (cond (Af (ln (ls t0 (tn t5) (t1, x7.2))) t5)
 (ob (ls t0 (tn t5) (t1, x7.2))[(tn t5)]? fun x8 =>
 (cond (Af (ln (ls (ls t0 (tn t5) (t1, x7.2)) (tn t5) (x8.1, (wr .i64 (t1 + 1)), x8.2.2))) t5)
 (ob (ls (ls t0 (tn t5) (t1, x7.2)) (tn t5) (x8.1, (wr .i64 (t1 + 1)), x8.2.2))[(tn t5)]? fun x9 =>
 (some (.inl (((ls (ls (ls t0 (tn t5) (t1, x7.2)) (tn t5) (x8.1, (wr .i64 (t1 + 1)), x8.2.2)) (tn t5) (x9.1, x9.2.1, (wr .i64 ((wr .i64 (t1 + 1)) + 1)), x9.2.2.2)), (wr .i64 ((wr .i64 ((wr .i64 (t1 + 1)) + 1)) + 1)), (wr .i64 (t5 + 1)), ()), ()))))
 none))
 none))
 none)
 (some (.inr (.inl ((t0, t1, ()), ())))))
def ML := Ua fun x : (EU × Unit) => Vr x.1.1 x.1.2.1 x.1.2.2.1
def DP (a0 : Qh) (a1 : Int) : Option (Qh × Gc) :=
 (ob (ML ((a0, a1, 0, ()), ())) (se (fun y10 => (some (y10.1.1, (y10.1.2.1, ())))) (fun z11 => none)))
def Vp (t0 : Xh) (t1 : Int) (t5 : Int) : Option ((SP × Unit) ⊕ (((Xh × Gc) × Unit) ⊕ Ke)) :=
 (cond (decide (t5 < ((ln t0 : Nat) : Int)))
 (cond (Af (ln t0) t5)
 (ob t0[(tn t5)]? fun x5 =>
 (ob (DP x5 t1) fun r6 =>
 (some (.inl (((ls t0 (tn t5) r6.1), r6.2.1, (wr .i64 (t5 + 1)), ()), ())))))
 none)
 (some (.inr (.inl ((t0, t1, ()), ())))))
def OI := Ua fun x : (SP × Unit) => Vp x.1.1 x.1.2.1 x.1.2.2.1
def XM (a0 : Xh) (a1 : Int) : Option (Xh × Gc) :=
 (ob (OI ((a0, a1, 0, ()), ())) (se (fun y7 => (some (y7.1.1, (y7.1.2.1, ())))) (fun z8 => none)))
def Tr (t0 : Ge) (t1 : Int) (t5 : Int) : Option (GU ⊕ (((Ge × Gc) × Unit) ⊕ Ke)) :=
 (cond (decide (t5 < ((ln t0 : Nat) : Int)))
 (cond (Af (ln t0) t5)
 (ob t0[(tn t5)]? fun x11 =>
 (cond (Af (ln (ls t0 (tn t5) (t1, x11.2))) t5)
 (ob (ls t0 (tn t5) (t1, x11.2))[(tn t5)]? fun x12 =>
 (cond (Af (ln (ls (ls t0 (tn t5) (t1, x11.2)) (tn t5) (x12.1, ((wr .i64 (t1 + 1)), x12.2.1.2), x12.2.2))) t5)
 (ob (ls (ls t0 (tn t5) (t1, x11.2)) (tn t5) (x12.1, ((wr .i64 (t1 + 1)), x12.2.1.2), x12.2.2))[(tn t5)]? fun x13 =>
 (cond (Af (ln (ls (ls (ls t0 (tn t5) (t1, x11.2)) (tn t5) (x12.1, ((wr .i64 (t1 + 1)), x12.2.1.2), x12.2.2)) (tn t5) (x13.1, (x13.2.1.1, (wr .i64 ((wr .i64 (t1 + 1)) + 1)), x13.2.1.2.2), x13.2.2))) t5)
 (ob (ls (ls (ls t0 (tn t5) (t1, x11.2)) (tn t5) (x12.1, ((wr .i64 (t1 + 1)), x12.2.1.2), x12.2.2)) (tn t5) (x13.1, (x13.2.1.1, (wr .i64 ((wr .i64 (t1 + 1)) + 1)), x13.2.1.2.2), x13.2.2))[(tn t5)]? fun x14 =>
 (cond (Af (ln (ls (ls (ls (ls t0 (tn t5) (t1, x11.2)) (tn t5) (x12.1, ((wr .i64 (t1 + 1)), x12.2.1.2), x12.2.2)) (tn t5) (x13.1, (x13.2.1.1, (wr .i64 ((wr .i64 (t1 + 1)) + 1)), x13.2.1.2.2), x13.2.2)) (tn t5) (x14.1, (x14.2.1.1, x14.2.1.2.1, (wr .i64 ((wr .i64 ((wr .i64 (t1 + 1)) + 1)) + 1)), x14.2.1.2.2.2), x14.2.2))) t5)
 (ob (ls (ls (ls (ls t0 (tn t5) (t1, x11.2)) (tn t5) (x12.1, ((wr .i64 (t1 + 1)), x12.2.1.2), x12.2.2)) (tn t5) (x13.1, (x13.2.1.1, (wr .i64 ((wr .i64 (t1 + 1)) + 1)), x13.2.1.2.2), x13.2.2)) (tn t5) (x14.1, (x14.2.1.1, x14.2.1.2.1, (wr .i64 ((wr .i64 ((wr .i64 (t1 + 1)) + 1)) + 1)), x14.2.1.2.2.2), x14.2.2))[(tn t5)]? fun x15 =>
 (some (.inl (((ls (ls (ls (ls (ls t0 (tn t5) (t1, x11.2)) (tn t5) (x12.1, ((wr .i64 (t1 + 1)), x12.2.1.2), x12.2.2)) (tn t5) (x13.1, (x13.2.1.1, (wr .i64 ((wr .i64 (t1 + 1)) + 1)), x13.2.1.2.2), x13.2.2)) (tn t5) (x14.1, (x14.2.1.1, x14.2.1.2.1, (wr .i64 ((wr .i64 ((wr .i64 (t1 + 1)) + 1)) + 1)), x14.2.1.2.2.2), x14.2.2)) (tn t5) (x15.1, (x15.2.1.1, x15.2.1.2.1, x15.2.1.2.2.1, (wr .i64 ((wr .i64 ((wr .i64 ((wr .i64 (t1 + 1)) + 1)) + 1)) + 1)), x15.2.1.2.2.2.2), x15.2.2)), (wr .i64 ((wr .i64 ((wr .i64 ((wr .i64 ((wr .i64 (t1 + 1)) + 1)) + 1)) + 1)) + 1)), (wr .i64 (t5 + 1)), ()), ()))))
 none))
 none))
 none))
 none))
 none)
 (some (.inr (.inl ((t0, t1, ()), ())))))
def KL := Ua fun x : GU => Tr x.1.1 x.1.2.1 x.1.2.2.1
def BP (a0 : Ge) (a1 : Int) : Option (Ge × Gc) :=
 (ob (KL ((a0, a1, 0, ()), ())) (se (fun y16 => (some (y16.1.1, (y16.1.2.1, ())))) (fun z17 => none)))
def BC (a0 : Hb) (a1 : Int) : Option (Hb × Gc) :=
 (ob (DC a0.1 a1) fun r1 =>
 (ob (XM a0.2.1 r1.2.1) fun r2 =>
 (ob (BP a0.2.2.2.1 r2.2.1) fun r3 =>
 (some (((a0.1.1, r1.1.2.1, ()), r2.1, a0.2.2.1, r3.1, a0.2.2.2.2), (r3.2.1, ()))))))
def Ux (a0 : Gb) (a1 : Int) : Option (Gb × Gc) :=
 (ob (BC a0.1 a1) fun r1 =>
 (ob (CC a0.2.2.1 r1.2.1) fun r2 =>
 (some ((((a0.1.1.1, r1.1.1.2.1, ()), r1.1.2.1, a0.1.2.2.1, r1.1.2.2.2.1, a0.1.2.2.2.2), a0.2.1, r2.1, a0.2.2.2), (r2.2.1, ())))))
def DG (a0 : Jd) (a1 : Int) : Option (Jd × Gc) :=
 (ob (Rr a0.2.1 a1) fun r1 =>
 (ob (Gu a0.2.2.1 r1.2.1) fun r2 =>
 (ob (Ux a0.2.2.2.1 r2.2.1) fun r3 =>
 (some ((a0.1, (a0.2.1.1, a0.2.1.2.1, a0.2.1.2.2.1, a0.2.1.2.2.2.1, a0.2.1.2.2.2.2.1, r1.1.2.2.2.2.2.1, ()), (r2.1.1, a0.2.2.1.2.1, r2.1.2.2.1, a0.2.2.1.2.2.2.1, a0.2.2.1.2.2.2.2.1, a0.2.2.1.2.2.2.2.2.1, r2.1.2.2.2.2.2.2.1, ()), (((a0.2.2.2.1.1.1.1, r3.1.1.1.2.1, ()), r3.1.1.2.1, a0.2.2.2.1.1.2.2.1, r3.1.1.2.2.2.1, a0.2.2.2.1.1.2.2.2.2), a0.2.2.2.1.2.1, r3.1.2.2.1, a0.2.2.2.1.2.2.2), a0.2.2.2.2), (r3.2.1, ()))))))
def Kr (a0 : Qb) (a1 : Int) : Option Gc :=
 (ob (OJ a0.2.2.2.2.2.1 a1) fun r1 =>
 (cond (decide (r1.1 < 0))
 (some ((-1), ()))
 (some (r1.1, ()))))
def Qp (t0 : Je) (t1 : Int) (t5 : Int) : Option (TP ⊕ NF) :=
 (cond (decide (t5 < ((ln t0 : Nat) : Int)))
 (ob (Ya t0 t5) fun x5 =>
 (cond (x5.1 != t1)
 (some (.inr (.inr (((-1), ()), ()))))
 (ob (Ya t0 t5) fun x6 =>
 (cond (x6.2.1 != (wr .i64 (t1 + 1)))
 (some (.inr (.inr (((-1), ()), ()))))
 (some (.inl ((t0, (wr .i64 ((wr .i64 (t1 + 1)) + 1)), (wr .i64 (t5 + 1)), ()), ())))))))
 (some (.inr (.inl ((t1, ()), ())))))
def JI := Ua fun x : TP => Qp x.1.1 x.1.2.1 x.1.2.2.1
def SM (a0 : Je) (a1 : Int) : Option Gc :=
 (ob (JI ((a0, a1, 0, ()), ())) (se (fun y7 => (some (y7.1.1, ()))) (fun z8 => (some (z8.1.1, ())))))
def Sn (t0 : Ae) (t1 : Int) (t5 : Int) : Option (FU ⊕ NF) :=
 (cond (decide (t5 < ((ln t0 : Nat) : Int)))
 (ob (Ya t0 t5) fun x7 =>
 (cond (x7.1 != t1)
 (some (.inr (.inr (((-1), ()), ()))))
 (ob (Ya t0 t5) fun x8 =>
 (cond (x8.2.1 != (wr .i64 (t1 + 1)))
 (some (.inr (.inr (((-1), ()), ()))))
 (ob (Ya t0 t5) fun x9 =>
 (cond ((3 : Int) == 0)
 none
 (cond (x9.2.2.1 != ((Int.tmod (wr .i64 ((wr .i64 (t1 + 1)) + 1)) 3) == 0))
 (some (.inr (.inr (((-1), ()), ()))))
 (some (.inl ((t0, (wr .i64 ((wr .i64 ((wr .i64 (t1 + 1)) + 1)) + 1)), (wr .i64 (t5 + 1)), ()), ()))))))))))
 (some (.inr (.inl ((t1, ()), ())))))
def VG := Ua fun x : FU => Sn x.1.1 x.1.2.1 x.1.2.2.1
def RK (a0 : Ae) (a1 : Int) : Option Gc :=
 (ob (VG ((a0, a1, 0, ()), ())) (se (fun y10 => (some (y10.1.1, ()))) (fun z11 => (some (z11.1.1, ())))))
def Du (a0 : Pa) (a1 : Int) : Option Gc :=
 (ob (SM a0.1 a1) fun r1 =>
 (cond (decide (r1.1 < 0))
 (some ((-1), ()))
 (ob (ZB a0.2.2.1 r1.1) fun r2 =>
 (cond (decide (r2.1 < 0))
 (some ((-1), ()))
 (ob (RK a0.2.2.2.2.2.2.1 r2.1) fun r3 =>
 (cond (decide (r3.1 < 0))
 (some ((-1), ()))
 (some (r3.1, ()))))))))
def Pr (t0 : Qh) (t1 : Int) (t5 : Int) : Option ((EU × Unit) ⊕ NF) :=
 (cond (decide (t5 < ((ln t0 : Nat) : Int)))
 (ob (Ya t0 t5) fun x7 =>
 (cond (x7.1 != t1)
 (some (.inr (.inr (((-1), ()), ()))))
 (ob (Ya t0 t5) fun x8 =>
 (cond (x8.2.1 != (wr .i64 (t1 + 1)))
 (some (.inr (.inr (((-1), ()), ()))))
 (ob (Ya t0 t5) fun x9 =>
 (cond (x9.2.2.1 != (wr .i64 ((wr .i64 (t1 + 1)) + 1)))
 (some (.inr (.inr (((-1), ()), ()))))
 (some (.inl ((t0, (wr .i64 ((wr .i64 ((wr .i64 (t1 + 1)) + 1)) + 1)), (wr .i64 (t5 + 1)), ()), ())))))))))
 (some (.inr (.inl ((t1, ()), ())))))
def IL := Ua fun x : (EU × Unit) => Pr x.1.1 x.1.2.1 x.1.2.2.1
def AP (a0 : Qh) (a1 : Int) : Option Gc :=
 (ob (IL ((a0, a1, 0, ()), ())) (se (fun y10 => (some (y10.1.1, ()))) (fun z11 => (some (z11.1.1, ())))))
def Sp (t0 : Xh) (t1 : Int) (t5 : Int) : Option ((SP × Unit) ⊕ NF) :=
 (cond (decide (t5 < ((ln t0 : Nat) : Int)))
 (ob (Ya t0 t5) fun x5 =>
 (ob (AP x5 t1) fun r6 =>
 (cond (decide (r6.1 < 0))
 (some (.inr (.inr (((-1), ()), ()))))
 (some (.inl ((t0, r6.1, (wr .i64 (t5 + 1)), ()), ()))))))
 (some (.inr (.inl ((t1, ()), ())))))
def LI := Ua fun x : (SP × Unit) => Sp x.1.1 x.1.2.1 x.1.2.2.1
def UM (a0 : Xh) (a1 : Int) : Option Gc :=
 (ob (LI ((a0, a1, 0, ()), ())) (se (fun y7 => (some (y7.1.1, ()))) (fun z8 => (some (z8.1.1, ())))))
def Mr (t0 : Ge) (t1 : Int) (t5 : Int) : Option (GU ⊕ NF) :=
 (cond (decide (t5 < ((ln t0 : Nat) : Int)))
 (ob (Ya t0 t5) fun x11 =>
 (cond (x11.1 != t1)
 (some (.inr (.inr (((-1), ()), ()))))
 (ob (Ya t0 t5) fun x12 =>
 (cond (x12.2.1.1 != (wr .i64 (t1 + 1)))
 (some (.inr (.inr (((-1), ()), ()))))
 (ob (Ya t0 t5) fun x13 =>
 (cond (x13.2.1.2.1 != (wr .i64 ((wr .i64 (t1 + 1)) + 1)))
 (some (.inr (.inr (((-1), ()), ()))))
 (ob (Ya t0 t5) fun x14 =>
 (cond (x14.2.1.2.2.1 != (wr .i64 ((wr .i64 ((wr .i64 (t1 + 1)) + 1)) + 1)))
 (some (.inr (.inr (((-1), ()), ()))))
 (ob (Ya t0 t5) fun x15 =>
 (cond (x15.2.1.2.2.2.1 != (wr .i64 ((wr .i64 ((wr .i64 ((wr .i64 (t1 + 1)) + 1)) + 1)) + 1)))
 (some (.inr (.inr (((-1), ()), ()))))
 (some (.inl ((t0, (wr .i64 ((wr .i64 ((wr .i64 ((wr .i64 ((wr .i64 (t1 + 1)) + 1)) + 1)) + 1)) + 1)), (wr .i64 (t5 + 1)), ()), ())))))))))))))
 (some (.inr (.inl ((t1, ()), ())))))
def GL := Ua fun x : GU => Mr x.1.1 x.1.2.1 x.1.2.2.1
def ZO (a0 : Ge) (a1 : Int) : Option Gc :=
 (ob (GL ((a0, a1, 0, ()), ())) (se (fun y16 => (some (y16.1.1, ()))) (fun z17 => (some (z17.1.1, ())))))
def YB (a0 : Hb) (a1 : Int) : Option Gc :=
 (ob (AC a0.1 a1) fun r1 =>
 (cond (decide (r1.1 < 0))
 (some ((-1), ()))
 (ob (UM a0.2.1 r1.1) fun r2 =>
 (cond (decide (r2.1 < 0))
 (some ((-1), ()))
 (ob (ZO a0.2.2.2.1 r2.1) fun r3 =>
 (cond (decide (r3.1 < 0))
 (some ((-1), ()))
 (some (r3.1, ()))))))))
def Tx (a0 : Gb) (a1 : Int) : Option Gc :=
 (ob (YB a0.1 a1) fun r1 =>
 (cond (decide (r1.1 < 0))
 (some ((-1), ()))
 (ob (ZB a0.2.2.1 r1.1) fun r2 =>
 (cond (decide (r2.1 < 0))
 (some ((-1), ()))
 (some (r2.1, ()))))))
def BG (a0 : Jd) (a1 : Int) : Option Gc :=
 (ob (Kr a0.2.1 a1) fun r1 =>
 (cond (decide (r1.1 < 0))
 (some ((-1), ()))
 (ob (Du a0.2.2.1 r1.1) fun r2 =>
 (cond (decide (r2.1 < 0))
 (some ((-1), ()))
 (ob (Tx a0.2.2.2.1 r2.1) fun r3 =>
 (cond (decide (r3.1 < 0))
 (some ((-1), ()))
 (some (r3.1, ()))))))))
def Iu (a0 : Rb) (a1 : Int) : Option (Rb × Gc) :=
 (ob (EG a0.1 a1) fun r1 =>
 (some ((r1.1, a0.2), (r1.2.1, ()))))
def Sr (a0 : Gd) (a1 : Int) : Option (Gd × Gc) :=
 (ob (DG a0.1 a1) fun r1 =>
 (ob (Iu a0.2.1 r1.2.1) fun r2 =>
 (some (((a0.1.1, (a0.1.2.1.1, a0.1.2.1.2.1, a0.1.2.1.2.2.1, a0.1.2.1.2.2.2.1, a0.1.2.1.2.2.2.2.1, r1.1.2.1.2.2.2.2.2.1, ()), (r1.1.2.2.1.1, a0.1.2.2.1.2.1, r1.1.2.2.1.2.2.1, a0.1.2.2.1.2.2.2.1, a0.1.2.2.1.2.2.2.2.1, a0.1.2.2.1.2.2.2.2.2.1, r1.1.2.2.1.2.2.2.2.2.2.1, ()), (((a0.1.2.2.2.1.1.1.1, r1.1.2.2.2.1.1.1.2.1, ()), r1.1.2.2.2.1.1.2.1, a0.1.2.2.2.1.1.2.2.1, r1.1.2.2.2.1.1.2.2.2.1, a0.1.2.2.2.1.1.2.2.2.2), a0.1.2.2.2.1.2.1, r1.1.2.2.2.1.2.2.1, a0.1.2.2.2.1.2.2.2), a0.1.2.2.2.2), (r2.1.1, a0.2.1.2), a0.2.2), (r2.2.1, ())))))
def Fu (a0 : Rb) (a1 : Int) : Option Gc :=
 (ob (YO a0.1 a1) fun r1 =>
 (cond (decide (r1.1 < 0))
 (some ((-1), ()))
 (some (r1.1, ()))))
def Lr (a0 : Gd) (a1 : Int) : Option Gc :=
 (ob (BG a0.1 a1) fun r1 =>
 (cond (decide (r1.1 < 0))
 (some ((-1), ()))
 (ob (Fu a0.2.1 r1.1) fun r2 =>
 (cond (decide (r2.1 < 0))
 (some ((-1), ()))
 (some (r2.1, ()))))))
def Mu (t1 : Int) (t3 : Ae) (t4 : Int) (t5 : Unit) (t12 : Int) (t13 : Int) (t14 : Int) (b5 : Zc) : Option (((Int × (Ae × (Int × ZR))) × OF) ⊕ (TL ⊕ TL)) :=
 (cond (decide (t14 < ((ln t3 : Nat) : Int)))
 (ob (Ya t3 t14) fun x7 =>
 (ob (Aw x7) fun r8 =>
 (cond (!r8.1)
 (some (.inr (.inr ((0, 0, ()), ()))))
 (cond (decide (x7.1 ≥ t12))
 (some (.inr (.inr ((2, t12, ()), ()))))
 (cond (x7.2.1 == t1)
 (cond (!x7.2.2.1)
 (some (.inr (.inr ((1, x7.1, ()), ()))))
 (cond (x7.2.1 == t1)
 (some (.inl ((t1, t3, t4, (), t12, t13, (wr .i64 (t14 + 1)), ()), (b5, ()))))
 (cond x7.2.2.1
 (cond (b5.2.2.1 == 1)
 (some (.inr (.inr ((2, x7.1, ()), ()))))
 (cond x7.2.2.1
 (cond (decide (0 ≤ x7.2.1))
 (some (.inl ((t1, t3, t4, (), t12, (Nc .i64 t13 (Qa .i64 1 x7.2.1)), (wr .i64 (t14 + 1)), ()), (b5, ()))))
 none)
 (cond (b5.2.2.1 == 2)
 (cond (decide (0 ≤ x7.2.1))
 (cond ((Va .i64 (Vb .i64 t13 x7.2.1) 1) == 1)
 (some (.inr (.inr ((2, x7.1, ()), ()))))
 (some (.inl ((t1, t3, t4, (), t12, t13, (wr .i64 (t14 + 1)), ()), (b5, ())))))
 none)
 (some (.inl ((t1, t3, t4, (), t12, t13, (wr .i64 (t14 + 1)), ()), (b5, ())))))))
 (cond x7.2.2.1
 (cond (decide (0 ≤ x7.2.1))
 (some (.inl ((t1, t3, t4, (), t12, (Nc .i64 t13 (Qa .i64 1 x7.2.1)), (wr .i64 (t14 + 1)), ()), (b5, ()))))
 none)
 (cond (b5.2.2.1 == 2)
 (cond (decide (0 ≤ x7.2.1))
 (cond ((Va .i64 (Vb .i64 t13 x7.2.1) 1) == 1)
 (some (.inr (.inr ((2, x7.1, ()), ()))))
 (some (.inl ((t1, t3, t4, (), t12, t13, (wr .i64 (t14 + 1)), ()), (b5, ())))))
 none)
 (some (.inl ((t1, t3, t4, (), t12, t13, (wr .i64 (t14 + 1)), ()), (b5, ())))))))))
 (cond (x7.2.1 == t1)
 (some (.inl ((t1, t3, t4, (), t12, t13, (wr .i64 (t14 + 1)), ()), (b5, ()))))
 (cond x7.2.2.1
 (cond (b5.2.2.1 == 1)
 (some (.inr (.inr ((2, x7.1, ()), ()))))
 (cond x7.2.2.1
 (cond (decide (0 ≤ x7.2.1))
 (some (.inl ((t1, t3, t4, (), t12, (Nc .i64 t13 (Qa .i64 1 x7.2.1)), (wr .i64 (t14 + 1)), ()), (b5, ()))))
 none)
 (cond (b5.2.2.1 == 2)
 (cond (decide (0 ≤ x7.2.1))
 (cond ((Va .i64 (Vb .i64 t13 x7.2.1) 1) == 1)
 (some (.inr (.inr ((2, x7.1, ()), ()))))
 (some (.inl ((t1, t3, t4, (), t12, t13, (wr .i64 (t14 + 1)), ()), (b5, ())))))
 none)
 (some (.inl ((t1, t3, t4, (), t12, t13, (wr .i64 (t14 + 1)), ()), (b5, ())))))))
 (cond x7.2.2.1
 (cond (decide (0 ≤ x7.2.1))
 (some (.inl ((t1, t3, t4, (), t12, (Nc .i64 t13 (Qa .i64 1 x7.2.1)), (wr .i64 (t14 + 1)), ()), (b5, ()))))
 none)
 (cond (b5.2.2.1 == 2)
 (cond (decide (0 ≤ x7.2.1))
 (cond ((Va .i64 (Vb .i64 t13 x7.2.1) 1) == 1)
 (some (.inr (.inr ((2, x7.1, ()), ()))))
 (some (.inl ((t1, t3, t4, (), t12, t13, (wr .i64 (t14 + 1)), ()), (b5, ())))))
 none)
 (some (.inl ((t1, t3, t4, (), t12, t13, (wr .i64 (t14 + 1)), ()), (b5, ())))))))))))))
 (some (.inr (.inl ((t4, t12, ()), ())))))
def Ey := Ua fun x : ((Int × (Ae × (Int × ZR))) × OF) => Mu x.1.1 x.1.2.1 x.1.2.2.1 x.1.2.2.2.1 x.1.2.2.2.2.1 x.1.2.2.2.2.2.1 x.1.2.2.2.2.2.2.1 x.2.1
def CK (a0 : Zc) (a1 : Int) (a2 : Int) (a3 : Ae) (a4 : Int) : Option Wa :=
 (ob (Wz a0) fun r1 =>
 (cond (!r1.1)
 (some (0, 0, ()))
 (ob (Sb a2 0 1000000) fun r2 =>
 (cond (!r2.1)
 (some (0, 0, ()))
 (ob (Ey ((a1, a3, a4, (), (wr .i64 (a2 + a0.1)), 0, 0, ()), (a0, ()))) (se (fun y9 => (cond (decide (y9.1.1 ≥ y9.1.2.1))
 (some (2, y9.1.2.1, ()))
 (some (0, 0, ())))) (fun z10 => (some z10.1))))))))
def Dw (a0 : Gb) (a1 : Ca) (a2 : Int) : Option (Gb × (Rk × Sw)) :=
 (ob (Xz a0.1.2.2.1 a0.1.2.2.2.1) fun r1 =>
 (ob (Qz a0.1.1 r1.1 a1.2.1) fun r2 =>
 (ob (Fl r2.1) fun r3 =>
 (cond r3.1
 (cond (Ld (ln a0.2.2.1) 1 ((ln a0.2.2.1 : Nat) : Int))
 (ob (CK a0.2.1 a1.2.1 a1.1 (Eb a0.2.2.1 (tn 1) (tn ((ln a0.2.2.1 : Nat) : Int))) a0.2.2.2.1) fun r4 =>
 (cond (a0.2.2.2.2.2.1 == (wr .i64 (a1.2.1 + 1)))
 (cond (decide ((wr .i64 (a1.1 - a0.2.2.2.2.2.2.1)) < a0.2.1.2.1))
 (cond ((1 : Int) == 0)
 (some (a0, ([], a2, false, ())))
 (cond (!((1 : Int) == 2))
 (ob (Rl a0.1 a1.2.1 ((1 : Int) == 2)) fun r5 =>
 (some ((r5.1, a0.2.1, a0.2.2.1, a0.2.2.2.1, a0.2.2.2.2.1, (wr .i64 (a1.2.1 + 1)), a1.1, a0.2.2.2.2.2.2.2), (r5.2.1, (max a2 a1.1), true, ()))))
 (ob (Rl a0.1 a1.2.1 ((1 : Int) == 2)) fun r6 =>
 (some ((r6.1, a0.2.1, a0.2.2.1, a0.2.2.2.1, a0.2.2.2.2.1, 0, a0.2.2.2.2.2.2), (r6.2.1, (max a2 a1.1), true, ()))))))
 (cond (r4.1 == 0)
 (some (a0, ([], a2, false, ())))
 (cond (!(r4.1 == 2))
 (ob (Rl a0.1 a1.2.1 (r4.1 == 2)) fun r7 =>
 (some ((r7.1, a0.2.1, a0.2.2.1, a0.2.2.2.1, a0.2.2.2.2.1, (wr .i64 (a1.2.1 + 1)), a1.1, a0.2.2.2.2.2.2.2), (r7.2.1, (max a2 r4.2.1), true, ()))))
 (ob (Rl a0.1 a1.2.1 (r4.1 == 2)) fun r8 =>
 (some ((r8.1, a0.2.1, a0.2.2.1, a0.2.2.2.1, a0.2.2.2.2.1, 0, a0.2.2.2.2.2.2), (r8.2.1, (max a2 r4.2.1), true, ())))))))
 (cond (r4.1 == 0)
 (some (a0, ([], a2, false, ())))
 (cond (!(r4.1 == 2))
 (ob (Rl a0.1 a1.2.1 (r4.1 == 2)) fun r9 =>
 (some ((r9.1, a0.2.1, a0.2.2.1, a0.2.2.2.1, a0.2.2.2.2.1, (wr .i64 (a1.2.1 + 1)), a1.1, a0.2.2.2.2.2.2.2), (r9.2.1, (max a2 r4.2.1), true, ()))))
 (ob (Rl a0.1 a1.2.1 (r4.1 == 2)) fun r10 =>
 (some ((r10.1, a0.2.1, a0.2.2.1, a0.2.2.2.1, a0.2.2.2.2.1, 0, a0.2.2.2.2.2.2), (r10.2.1, (max a2 r4.2.1), true, ()))))))))
 none)
 (ob (Rl a0.1 a1.2.1 false) fun r11 =>
 (some ((r11.1, a0.2), (r11.2.1, a2, true, ()))))))))
def Oy (t0 : Unit) (t3 : Th) (t5 : Int) (t6 : (Rk × Int)) (t13 : Int) (b500000 : Gb) : Option (Nay ⊕ (((Unit × (Th × Gc)) × YR) ⊕ Ke)) :=
 (cond (decide (t13 < ((ln t6.1 : Nat) : Int)))
 (cond (Af (ln t6.1) t13)
 (cond (Nat.beq (tn t13) (tn t6.2))
 (ob t6.1[(tn t13)]? fun x53 =>
 (cond (bl (ln t3 + ln ([(t5, x53, ())] : List Lf)) Sa)
 (some (.inl (((), (ap t3 ([(t5, x53, ())] : List Lf)), t5, (t6.1, ((((tn t13) + 1) : Nat) : Int)), (wr .i64 (t13 + 1)), ()), (b500000, ()))))
 none))
 none)
 none)
 (some (.inr (.inl (((), t3, t5, ()), (b500000, ()))))))
def Vi := Ua fun x : Nay => Oy x.1.1 x.1.2.1 x.1.2.2.1 x.1.2.2.2.1 x.1.2.2.2.2.1 x.2.1
def Si (t0 : Unit) (t3 : Th) (b500000 : Gb) : Option ((E8 × YR) ⊕ ((E8 × YR) ⊕ (E8 × YR))) :=
 (cond (decide (((ln b500000.2.2.1 : Nat) : Int) > 0))
 (cond (Af (ln b500000.2.2.1) 0)
 (ob b500000.2.2.1[(tn 0)]? fun x38 =>
 (cond x38.2.2.1
 (ob (Dw b500000 x38 (max b500000.2.2.2.2.1 x38.1)) fun r39 =>
 (cond (!r39.2.2.2.1)
 (some (.inr (.inr (((), t3, ()), (r39.1, ())))))
 (ob (Vi (((), t3, r39.2.2.1, (r39.2.1, 0), 0, ()), (r39.1, ()))) (se (fun y43 => (cond (Ld (ln y43.2.1.2.2.1) 1 ((ln y43.2.1.2.2.1 : Nat) : Int))
 (cond (bl (ln ([] : List Ca) + ln (Eb y43.2.1.2.2.1 (tn 1) (tn ((ln y43.2.1.2.2.1 : Nat) : Int)))) Sa)
 (some (.inl (((), y43.1.2.1, ()), ((y43.2.1.1, y43.2.1.2.1, (ap [] (Eb y43.2.1.2.2.1 (tn 1) (tn ((ln y43.2.1.2.2.1 : Nat) : Int)))), y43.2.1.2.2.2.1, y43.1.2.2.1, y43.2.1.2.2.2.2.2), ()))))
 none)
 none)) (fun z44 => none)))))
 (ob (UE b500000.1 x38.2.1) fun r45 =>
 (cond (b500000.2.2.2.2.2.1 == (wr .i64 (x38.2.1 + 1)))
 (ob (Vi (((), t3, (max b500000.2.2.2.2.1 x38.1), (r45.2.1, 0), 0, ()), ((r45.1, b500000.2.1, b500000.2.2.1, b500000.2.2.2.1, b500000.2.2.2.2.1, b500000.2.2.2.2.2.1, x38.1, b500000.2.2.2.2.2.2.2), ()))) (se (fun y49 => (cond (Ld (ln y49.2.1.2.2.1) 1 ((ln y49.2.1.2.2.1 : Nat) : Int))
 (cond (bl (ln ([] : List Ca) + ln (Eb y49.2.1.2.2.1 (tn 1) (tn ((ln y49.2.1.2.2.1 : Nat) : Int)))) Sa)
 (some (.inl (((), y49.1.2.1, ()), ((y49.2.1.1, y49.2.1.2.1, (ap [] (Eb y49.2.1.2.2.1 (tn 1) (tn ((ln y49.2.1.2.2.1 : Nat) : Int)))), y49.2.1.2.2.2.1, y49.1.2.2.1, y49.2.1.2.2.2.2.2), ()))))
 none)
 none)) (fun z50 => none)))
 (ob (Vi (((), t3, (max b500000.2.2.2.2.1 x38.1), (r45.2.1, 0), 0, ()), ((r45.1, b500000.2), ()))) (se (fun y54 => (cond (Ld (ln y54.2.1.2.2.1) 1 ((ln y54.2.1.2.2.1 : Nat) : Int))
 (cond (bl (ln ([] : List Ca) + ln (Eb y54.2.1.2.2.1 (tn 1) (tn ((ln y54.2.1.2.2.1 : Nat) : Int)))) Sa)
 (some (.inl (((), y54.1.2.1, ()), ((y54.2.1.1, y54.2.1.2.1, (ap [] (Eb y54.2.1.2.2.1 (tn 1) (tn ((ln y54.2.1.2.2.1 : Nat) : Int)))), y54.2.1.2.2.2.1, y54.1.2.2.1, y54.2.1.2.2.2.2.2), ()))))
 none)
 none)) (fun z55 => none)))))))
 none)
 (some (.inr (.inl (((), t3, ()), (b500000, ()))))))
def Tj := Ua fun x : (E8 × YR) => Si x.1.1 x.1.2.1 x.2.1
def HA (a0 : Gb) : Option (Gb × (Th × Unit)) :=
 (ob (Tj (((), [], ()), (a0, ()))) (se (fun y56 => (some (y56.2.1, (y56.1.2.1, ())))) (fun z57 => (some (z57.2.1, (z57.1.2.1, ()))))))
def QC (a0 : Gb) (a1 : Ae) (a2 : Int) : Option (Gb × M2) :=
 (cond (bl (ln ([] : List Ca) + ln a0.2.2.1) Sa)
 (cond (bl (ln (ap [] a0.2.2.1) + ln a1) Sa)
 (ob (Zv a0) fun r1 =>
 (cond (!r1.1)
 (some (Jh, [], false, ()))
 (ob (Sb a2 a0.2.2.2.1 1000000) fun r2 =>
 (cond (!r2.1)
 (some (Jh, [], false, ()))
 (ob (Ew a0.1) fun r3 =>
 (ob (Fk (ap (ap [] a0.2.2.1) a1) r3.1 a0.1.1.1 0) fun r4 =>
 (cond (!r4.1)
 (some (Jh, [], false, ()))
 (cond (decide (((ln a1 : Nat) : Int) > 0))
 (ob (Ya a1 0) fun x5 =>
 (cond (decide (x5.1 < a0.2.2.2.1))
 (some (Jh, [], false, ()))
 (ob (Ya a1 (wr .i64 (((ln a1 : Nat) : Int) - 1))) fun x6 =>
 (cond (decide (x6.1 > a2))
 (some (Jh, [], false, ()))
 (ob (Kt a0.1) fun r7 =>
 (ob (HA (r7.1, a0.2.1, (ap (ap [] a0.2.2.1) a1), a2, a0.2.2.2.2)) fun r8 =>
 (some (r8.1, r8.2.1, true, ()))))))))
 (ob (Kt a0.1) fun r9 =>
 (ob (HA (r9.1, a0.2.1, (ap (ap [] a0.2.2.1) a1), a2, a0.2.2.2.2)) fun r10 =>
 (some (r10.1, r10.2.1, true, ()))))))))))))
 none)
 none)
def Qt (t3 : Int) (t6 : Uc) (t7 : Int) (t8 : Int) (t16 : Int) : Option (((Int × Rb) × Unit) ⊕ (((Int × TZ) × Unit) ⊕ Ke)) :=
 (cond (decide (t16 < 8))
 (cond (decide ((wr .i64 (t3 * 2)) > 255))
 (some (.inl (((Za .i64 (wr .i64 (t3 * 2)) 263), t6, t7, t8, (wr .i64 (t16 + 1)), ()), ())))
 (some (.inl (((wr .i64 (t3 * 2)), t6, t7, t8, (wr .i64 (t16 + 1)), ()), ()))))
 (some (.inr (.inl ((t3, t6, t7, t8, ()), ())))))
def Hn := Ua fun x : ((Int × Rb) × Unit) => Qt x.1.1 x.1.2.1 x.1.2.2.1 x.1.2.2.2.1 x.1.2.2.2.2.1
def Pt (t3 : Int) (t6 : Uc) (t7 : Int) (t8 : Int) : Option (((Int × TZ) × Unit) ⊕ Rw) :=
 (cond (decide (t8 < t7))
 (ob (Ya t6 t8) fun x7 =>
 (ob (Hn (((Za .i64 t3 (wr .i64 x7)), t6, t7, t8, 0, ()), ())) (se (fun y8 => (some (.inl ((y8.1.1, y8.1.2.1, y8.1.2.2.1, (wr .i64 (y8.1.2.2.2.1 + 1)), ()), ())))) (fun z9 => (some (.inr (.inr ((), ()))))))))
 (some (.inr (.inl ((t3, ()), ())))))
def Bx := Ua fun x : ((Int × TZ) × Unit) => Pt x.1.1 x.1.2.1 x.1.2.2.1 x.1.2.2.2.1
def BJ (a0 : Uc) : Option Gc :=
 (ob (Bx ((0, a0, ((ln a0 : Nat) : Int), 0, ()), ())) (se (fun y10 => (some (y10.1.1, ()))) (fun z11 => none)))
def Lv (a0 : Int) (a1 : Int) : Option Tq :=
 (cond (decide (a0 < 0))
 (some ([], ()))
 (cond (decide (a0 > 255))
 (some ([], ()))
 (cond (decide (a1 < 0))
 (some ([], ()))
 (cond (decide (a1 > 16777215))
 (some ([], ()))
 (cond (decide ((0 : Int) ≤ 8))
 (cond (decide ((0 : Int) ≤ 16))
 (ob (BJ ([85, (wr .u8 a0), (wr .u8 a1), (wr .u8 (Vb .i64 a1 8)), (wr .u8 (Vb .i64 a1 16))] : List Int)) fun r1 =>
 (cond (bl (ln ([85, (wr .u8 a0), (wr .u8 a1), (wr .u8 (Vb .i64 a1 8)), (wr .u8 (Vb .i64 a1 16))] : List Int) + ln ([(wr .u8 r1.1)] : List Int)) Sa)
 (some ((ap ([85, (wr .u8 a0), (wr .u8 a1), (wr .u8 (Vb .i64 a1 8)), (wr .u8 (Vb .i64 a1 16))] : List Int) ([(wr .u8 r1.1)] : List Int)), ()))
 none))
 none)
 none)))))
def Ai (t1 : Uc) (t5 : Uc) (t15 : Uc) (t16 : Int) (t17 : Int) : Option (((Uc × D8) × Unit) ⊕ F8) :=
 (cond (decide (t17 < t16))
 (ob (Ya t15 t17) fun x7 =>
 (ob (Ya t1 t17) fun x8 =>
 (cond (bl (ln t5 + ln ([(Za .u8 x7 x8)] : List Int)) Sa)
 (some (.inl ((t1, (ap t5 ([(Za .u8 x7 x8)] : List Int)), t15, t16, (wr .i64 (t17 + 1)), ()), ())))
 none)))
 (some (.inr (.inl ((t5, ()), ())))))
def QA := Ua fun x : ((Uc × D8) × Unit) => Ai x.1.1 x.1.2.1 x.1.2.2.1 x.1.2.2.2.1 x.1.2.2.2.2.1
def KM (a0 : Uc) (a1 : Uc) : Option Tq :=
 (cond (((ln a1 : Nat) : Int) == 0)
 (some (a0, ()))
 (cond (((ln a1 : Nat) : Int) == 6)
 (ob (QA ((a1, [], a0, ((ln a0 : Nat) : Int), 0, ()), ())) (se (fun y9 => (some (y9.1.1, ()))) (fun z10 => none)))
 (some ([], ()))))
def SF (a0 : Uc) : Option Ca :=
 (cond (((ln a0 : Nat) : Int) != 6)
 (some (0, 0, false, ()))
 (ob (Ya a0 1) fun x1 =>
 (ob (Ya a0 2) fun x2 =>
 (ob (Ya a0 3) fun x3 =>
 (cond (decide ((0 : Int) ≤ 8))
 (ob (Ya a0 4) fun x4 =>
 (cond (decide ((0 : Int) ≤ 16))
 (ob (Lv (wr .i64 x1) (Nc .i64 (Nc .i64 (wr .i64 x2) (Qa .i64 (wr .i64 x3) 8)) (Qa .i64 (wr .i64 x4) 16))) fun r5 =>
 (cond ((Qm r5.1) != (Qm a0))
 (some (0, 0, false, ()))
 (some ((wr .i64 x1), (Nc .i64 (Nc .i64 (wr .i64 x2) (Qa .i64 (wr .i64 x3) 8)) (Qa .i64 (wr .i64 x4) 16)), true, ()))))
 none))
 none)))))
def Ix (a0 : Rb) (a1 : Int) : Option (Rb × Gc) :=
 (ob (Bk a0) fun r1 =>
 (cond (!r1.1)
 (some (([], 0, 0, 0, ()), 0, ()))
 (cond (bl (ln ([] : List Int) + ln a0.1) Sa)
 (cond (bl (ln (ap [] a0.1) + ln ([a1] : List Int)) Sa)
 (cond (decide (((ln (ap (ap [] a0.1) ([a1] : List Int)) : Nat) : Int) < 6))
 (some (((ap (ap [] a0.1) ([a1] : List Int)), a0.2), 1, ()))
 (ob (SF (ap (ap [] a0.1) ([a1] : List Int))) fun r2 =>
 (cond (!r2.2.2.1)
 (cond (Ld (ln (ap (ap [] a0.1) ([a1] : List Int))) 1 ((ln (ap (ap [] a0.1) ([a1] : List Int)) : Nat) : Int))
 (some (((Eb (ap (ap [] a0.1) ([a1] : List Int)) (tn 1) (tn ((ln (ap (ap [] a0.1) ([a1] : List Int)) : Nat) : Int))), a0.2), 1, ()))
 none)
 (cond (r2.1 == a0.2.1)
 (some (([], a0.2.1, a0.2.2.1, 0, a0.2.2.2.2), 3, ()))
 (some (([], r2.1, r2.2.1, 0, a0.2.2.2.2), 2, ()))))))
 none)
 none)))
def Kp (t2 : Unit) (t4 : Unit) (t6 : Uc) (t19 : Uc) (t20 : Int) (t21 : Int) (b2 : Rb) (b4 : Rb) : Option (((Unit × (Unit × D8)) × R2) ⊕ (((Unit × (Unit × Tq)) × R2) ⊕ Ke)) :=
 (cond (decide (t21 < t20))
 (ob (Ya t19 t21) fun x8 =>
 (ob (Ix b2 x8) fun r9 =>
 (cond (r9.2.1 == 2)
 (cond (bl (ln t6 + ln ([r9.1.2.2.1] : List Int)) Sa)
 (some (.inl (((), (), (ap t6 ([r9.1.2.2.1] : List Int)), t19, t20, (wr .i64 (t21 + 1)), ()), (r9.1, b4, ()))))
 none)
 (some (.inl (((), (), t6, t19, t20, (wr .i64 (t21 + 1)), ()), (r9.1, b4, ())))))))
 (some (.inr (.inl (((), (), t6, ()), (b2, b4, ()))))))
def Vs := Ua fun x : ((Unit × (Unit × D8)) × R2) => Kp x.1.1 x.1.2.1 x.1.2.2.1 x.1.2.2.2.1 x.1.2.2.2.2.1 x.1.2.2.2.2.2.1 x.2.1 x.2.2.1
def LB (a0 : Rb) (a1 : Uc) : Option (Rb × Tq) :=
 (ob (Bk a0) fun r1 =>
 (cond (!r1.1)
 (some (([], 0, 0, 0, ()), [], ()))
 (cond (bl (ln ([] : List Int) + ln a0.1) Sa)
 (ob (Vs (((), (), [], a1, ((ln a1 : Nat) : Int), 0, ()), (((ap [] a0.1), a0.2), ([], 0, 0, 0, ()), ()))) (se (fun y10 => (some (y10.2.1, y10.1.2.2.1, ()))) (fun z11 => none)))
 none)))
def MB (a0 : Rb) : Option EX :=
 (ob (Bk a0) fun r1 =>
 (cond (!r1.1)
 (some (([], 0, 0, 0, ()), ()))
 (cond (bl (ln ([] : List Int) + ln a0.1) Sa)
 (cond ((min (wr .i64 (a0.2.2.2.1 + 1)) 20) == 20)
 (some (((ap [] a0.1), (-1), 0, (min (wr .i64 (a0.2.2.2.1 + 1)) 20), a0.2.2.2.2), ()))
 (some (((ap [] a0.1), a0.2.1, a0.2.2.1, (min (wr .i64 (a0.2.2.2.1 + 1)) 20), a0.2.2.2.2), ())))
 none)))
def Dm (a0 : Gd) (a1 : Int) (a2 : Int) (a3 : Uc) : Option (Gd × M2) :=
 (ob (DJ a0) fun r1 =>
 (cond (!r1.1)
 (some (Jk, [], false, ()))
 (ob (Ez a0) fun r2 =>
 (cond (decide (a1 < 0))
 (some (Jk, [], false, ()))
 (cond (decide (0 ≤ r2.1))
 (cond (decide (a1 ≥ (Qa .i64 1 r2.1)))
 (some (Jk, [], false, ()))
 (cond (decide (a2 < 0))
 (some (Jk, [], false, ()))
 (cond (decide (0 ≤ r2.1))
 (cond (decide (a2 ≥ (Qa .i64 1 r2.1)))
 (some (Jk, [], false, ()))
 (ob (Lv a0.2.2.1 a2) fun r3 =>
 (ob (KM r3.1 a3) fun r4 =>
 (ob (LB a0.2.1 r4.1) fun r5 =>
 (cond (((ln r5.2.1 : Nat) : Int) == 0)
 (ob (MB r5.1) fun r6 =>
 (cond (decide (0 ≤ r2.1))
 (cond (decide (0 ≤ r2.1))
 (ob (Al a0.1 (Nc .i64 a1 (Qa .i64 (Va .i64 r6.1.2.2.1 (wr .i64 ((Qa .i64 1 r2.1) - 1))) r2.1))) fun r7 =>
 (cond (!r7.2.2.1)
 (some (Jk, [], false, ()))
 (cond ((256 : Int) == 0)
 none
 (some ((r7.1, r6.1, (Int.tmod (wr .i64 (a0.2.2.1 + 1)) 256), ()), r7.2.1, true, ())))))
 none)
 none))
 (cond (decide (0 ≤ r2.1))
 (cond (decide (0 ≤ r2.1))
 (ob (Al a0.1 (Nc .i64 a1 (Qa .i64 (Va .i64 r5.1.2.2.1 (wr .i64 ((Qa .i64 1 r2.1) - 1))) r2.1))) fun r8 =>
 (cond (!r8.2.2.1)
 (some (Jk, [], false, ()))
 (cond ((256 : Int) == 0)
 none
 (some ((r8.1, r5.1, (Int.tmod (wr .i64 (a0.2.2.1 + 1)) 256), ()), r8.2.1, true, ())))))
 none)
 none))))))
 none)))
 none)))))
def Nr (t0 : Th) (t1 : Int) (t5 : Int) : Option ((Raf × Unit) ⊕ NF) :=
 (cond (decide (t5 < ((ln t0 : Nat) : Int)))
 (ob (Ya t0 t5) fun x9 =>
 (cond (x9.1 != t1)
 (some (.inr (.inr (((-1), ()), ()))))
 (ob (Ya t0 t5) fun x10 =>
 (cond (x10.2.1.1 != (wr .i64 (t1 + 1)))
 (some (.inr (.inr (((-1), ()), ()))))
 (ob (Ya t0 t5) fun x11 =>
 (ob (OJ x11.2.1.2.1 (wr .i64 ((wr .i64 (t1 + 1)) + 1))) fun r12 =>
 (cond (decide (r12.1 < 0))
 (some (.inr (.inr (((-1), ()), ()))))
 (some (.inl ((t0, r12.1, (wr .i64 (t5 + 1)), ()), ()))))))))))
 (some (.inr (.inl ((t1, ()), ())))))
def HL := Ua fun x : (Raf × Unit) => Nr x.1.1 x.1.2.1 x.1.2.2.1
def CG (a0 : Th) (a1 : Int) : Option Gc :=
 (ob (HL ((a0, a1, 0, ()), ())) (se (fun y13 => (some (y13.1.1, ()))) (fun z14 => (some (z14.1.1, ())))))
def Sj (t1 : Int) (t2 : Unit) (t4 : Unit) (t6 : Unit) (t7 : Int) (b2 : Qb) (b4 : Qb) (b6 : Qb) : Option (((Int × Q2) × Saf) ⊕ (((Int × HU) × (Qb × XR)) ⊕ Ke)) :=
 (cond (decide (t7 < b2.2.2.1))
 (ob (Ya b2.2.2.2.2.2.1 t7) fun x5 =>
 (cond (b2.1 == 0)
 (cond (decide (0 ≤ t7))
 (cond ((Va .i64 (Vb .i64 (Za .i64 t1 b2.2.2.2.2.1) t7) 1) == 1)
 (cond (decide (1 ≥ b2.2.1))
 (cond (decide (0 ≤ t7))
 (cond ((Va .i64 (Vb .i64 (Za .i64 t1 b2.2.2.2.1) t7) 1) == 1)
 (cond (decide (0 ≤ t7))
 (cond (b2.1 == 2)
 (cond (bl (ln b6.2.2.2.2.2.1 + ln ([0] : List Int)) Sa)
 (some (.inl ((t1, (), (), (), (wr .i64 (t7 + 1)), ()), (b2, b4, (b6.1, b6.2.1, b6.2.2.1, (Za .i64 b6.2.2.2.1 (Qa .i64 1 t7)), b6.2.2.2.2.1, (ap b6.2.2.2.2.2.1 ([0] : List Int)), b6.2.2.2.2.2.2), ()))))
 none)
 (cond (bl (ln b6.2.2.2.2.2.1 + ln ([1] : List Int)) Sa)
 (some (.inl ((t1, (), (), (), (wr .i64 (t7 + 1)), ()), (b2, b4, (b6.1, b6.2.1, b6.2.2.1, (Za .i64 b6.2.2.2.1 (Qa .i64 1 t7)), b6.2.2.2.2.1, (ap b6.2.2.2.2.2.1 ([1] : List Int)), b6.2.2.2.2.2.2), ()))))
 none))
 none)
 (cond (bl (ln b6.2.2.2.2.2.1 + ln ([1] : List Int)) Sa)
 (some (.inl ((t1, (), (), (), (wr .i64 (t7 + 1)), ()), (b2, b4, (b6.1, b6.2.1, b6.2.2.1, b6.2.2.2.1, b6.2.2.2.2.1, (ap b6.2.2.2.2.2.1 ([1] : List Int)), b6.2.2.2.2.2.2), ()))))
 none))
 none)
 (cond (bl (ln b6.2.2.2.2.2.1 + ln ([1] : List Int)) Sa)
 (some (.inl ((t1, (), (), (), (wr .i64 (t7 + 1)), ()), (b2, b4, (b6.1, b6.2.1, b6.2.2.1, b6.2.2.2.1, b6.2.2.2.2.1, (ap b6.2.2.2.2.2.1 ([1] : List Int)), b6.2.2.2.2.2.2), ()))))
 none))
 (cond (b2.1 == 1)
 (cond (t1 != b2.2.2.2.2.1)
 (cond (decide (1 ≥ b2.2.1))
 (cond (decide (0 ≤ t7))
 (cond ((Va .i64 (Vb .i64 (Za .i64 t1 b2.2.2.2.1) t7) 1) == 1)
 (cond (decide (0 ≤ t7))
 (cond (b2.1 == 2)
 (cond (bl (ln b6.2.2.2.2.2.1 + ln ([0] : List Int)) Sa)
 (some (.inl ((t1, (), (), (), (wr .i64 (t7 + 1)), ()), (b2, b4, (b6.1, b6.2.1, b6.2.2.1, (Za .i64 b6.2.2.2.1 (Qa .i64 1 t7)), b6.2.2.2.2.1, (ap b6.2.2.2.2.2.1 ([0] : List Int)), b6.2.2.2.2.2.2), ()))))
 none)
 (cond (bl (ln b6.2.2.2.2.2.1 + ln ([1] : List Int)) Sa)
 (some (.inl ((t1, (), (), (), (wr .i64 (t7 + 1)), ()), (b2, b4, (b6.1, b6.2.1, b6.2.2.1, (Za .i64 b6.2.2.2.1 (Qa .i64 1 t7)), b6.2.2.2.2.1, (ap b6.2.2.2.2.2.1 ([1] : List Int)), b6.2.2.2.2.2.2), ()))))
 none))
 none)
 (cond (bl (ln b6.2.2.2.2.2.1 + ln ([1] : List Int)) Sa)
 (some (.inl ((t1, (), (), (), (wr .i64 (t7 + 1)), ()), (b2, b4, (b6.1, b6.2.1, b6.2.2.1, b6.2.2.2.1, b6.2.2.2.2.1, (ap b6.2.2.2.2.2.1 ([1] : List Int)), b6.2.2.2.2.2.2), ()))))
 none))
 none)
 (cond (bl (ln b6.2.2.2.2.2.1 + ln ([1] : List Int)) Sa)
 (some (.inl ((t1, (), (), (), (wr .i64 (t7 + 1)), ()), (b2, b4, (b6.1, b6.2.1, b6.2.2.1, b6.2.2.2.1, b6.2.2.2.2.1, (ap b6.2.2.2.2.2.1 ([1] : List Int)), b6.2.2.2.2.2.2), ()))))
 none))
 (cond (decide ((min 99 (wr .i64 (x5 + 1))) ≥ b2.2.1))
 (cond (decide (0 ≤ t7))
 (cond ((Va .i64 (Vb .i64 (Za .i64 t1 b2.2.2.2.1) t7) 1) == 1)
 (cond (decide (0 ≤ t7))
 (cond (b2.1 == 2)
 (cond (bl (ln b6.2.2.2.2.2.1 + ln ([0] : List Int)) Sa)
 (some (.inl ((t1, (), (), (), (wr .i64 (t7 + 1)), ()), (b2, b4, (b6.1, b6.2.1, b6.2.2.1, (Za .i64 b6.2.2.2.1 (Qa .i64 1 t7)), b6.2.2.2.2.1, (ap b6.2.2.2.2.2.1 ([0] : List Int)), b6.2.2.2.2.2.2), ()))))
 none)
 (cond (bl (ln b6.2.2.2.2.2.1 + ln ([(min 99 (wr .i64 (x5 + 1)))] : List Int)) Sa)
 (some (.inl ((t1, (), (), (), (wr .i64 (t7 + 1)), ()), (b2, b4, (b6.1, b6.2.1, b6.2.2.1, (Za .i64 b6.2.2.2.1 (Qa .i64 1 t7)), b6.2.2.2.2.1, (ap b6.2.2.2.2.2.1 ([(min 99 (wr .i64 (x5 + 1)))] : List Int)), b6.2.2.2.2.2.2), ()))))
 none))
 none)
 (cond (bl (ln b6.2.2.2.2.2.1 + ln ([(min 99 (wr .i64 (x5 + 1)))] : List Int)) Sa)
 (some (.inl ((t1, (), (), (), (wr .i64 (t7 + 1)), ()), (b2, b4, (b6.1, b6.2.1, b6.2.2.1, b6.2.2.2.1, b6.2.2.2.2.1, (ap b6.2.2.2.2.2.1 ([(min 99 (wr .i64 (x5 + 1)))] : List Int)), b6.2.2.2.2.2.2), ()))))
 none))
 none)
 (cond (bl (ln b6.2.2.2.2.2.1 + ln ([(min 99 (wr .i64 (x5 + 1)))] : List Int)) Sa)
 (some (.inl ((t1, (), (), (), (wr .i64 (t7 + 1)), ()), (b2, b4, (b6.1, b6.2.1, b6.2.2.1, b6.2.2.2.1, b6.2.2.2.2.1, (ap b6.2.2.2.2.2.1 ([(min 99 (wr .i64 (x5 + 1)))] : List Int)), b6.2.2.2.2.2.2), ()))))
 none)))
 (cond (decide ((min 99 (wr .i64 (x5 + 1))) ≥ b2.2.1))
 (cond (decide (0 ≤ t7))
 (cond ((Va .i64 (Vb .i64 (Za .i64 t1 b2.2.2.2.1) t7) 1) == 1)
 (cond (decide (0 ≤ t7))
 (cond (b2.1 == 2)
 (cond (bl (ln b6.2.2.2.2.2.1 + ln ([0] : List Int)) Sa)
 (some (.inl ((t1, (), (), (), (wr .i64 (t7 + 1)), ()), (b2, b4, (b6.1, b6.2.1, b6.2.2.1, (Za .i64 b6.2.2.2.1 (Qa .i64 1 t7)), b6.2.2.2.2.1, (ap b6.2.2.2.2.2.1 ([0] : List Int)), b6.2.2.2.2.2.2), ()))))
 none)
 (cond (bl (ln b6.2.2.2.2.2.1 + ln ([(min 99 (wr .i64 (x5 + 1)))] : List Int)) Sa)
 (some (.inl ((t1, (), (), (), (wr .i64 (t7 + 1)), ()), (b2, b4, (b6.1, b6.2.1, b6.2.2.1, (Za .i64 b6.2.2.2.1 (Qa .i64 1 t7)), b6.2.2.2.2.1, (ap b6.2.2.2.2.2.1 ([(min 99 (wr .i64 (x5 + 1)))] : List Int)), b6.2.2.2.2.2.2), ()))))
 none))
 none)
 (cond (bl (ln b6.2.2.2.2.2.1 + ln ([(min 99 (wr .i64 (x5 + 1)))] : List Int)) Sa)
 (some (.inl ((t1, (), (), (), (wr .i64 (t7 + 1)), ()), (b2, b4, (b6.1, b6.2.1, b6.2.2.1, b6.2.2.2.1, b6.2.2.2.2.1, (ap b6.2.2.2.2.2.1 ([(min 99 (wr .i64 (x5 + 1)))] : List Int)), b6.2.2.2.2.2.2), ()))))
 none))
 none)
 (cond (bl (ln b6.2.2.2.2.2.1 + ln ([(min 99 (wr .i64 (x5 + 1)))] : List Int)) Sa)
 (some (.inl ((t1, (), (), (), (wr .i64 (t7 + 1)), ()), (b2, b4, (b6.1, b6.2.1, b6.2.2.1, b6.2.2.2.1, b6.2.2.2.2.1, (ap b6.2.2.2.2.2.1 ([(min 99 (wr .i64 (x5 + 1)))] : List Int)), b6.2.2.2.2.2.2), ()))))
 none))))
 none)
 (cond (b2.1 == 1)
 (cond (t1 != b2.2.2.2.2.1)
 (cond (decide (1 ≥ b2.2.1))
 (cond (decide (0 ≤ t7))
 (cond ((Va .i64 (Vb .i64 (Za .i64 t1 b2.2.2.2.1) t7) 1) == 1)
 (cond (decide (0 ≤ t7))
 (cond (b2.1 == 2)
 (cond (bl (ln b6.2.2.2.2.2.1 + ln ([0] : List Int)) Sa)
 (some (.inl ((t1, (), (), (), (wr .i64 (t7 + 1)), ()), (b2, b4, (b6.1, b6.2.1, b6.2.2.1, (Za .i64 b6.2.2.2.1 (Qa .i64 1 t7)), b6.2.2.2.2.1, (ap b6.2.2.2.2.2.1 ([0] : List Int)), b6.2.2.2.2.2.2), ()))))
 none)
 (cond (bl (ln b6.2.2.2.2.2.1 + ln ([1] : List Int)) Sa)
 (some (.inl ((t1, (), (), (), (wr .i64 (t7 + 1)), ()), (b2, b4, (b6.1, b6.2.1, b6.2.2.1, (Za .i64 b6.2.2.2.1 (Qa .i64 1 t7)), b6.2.2.2.2.1, (ap b6.2.2.2.2.2.1 ([1] : List Int)), b6.2.2.2.2.2.2), ()))))
 none))
 none)
 (cond (bl (ln b6.2.2.2.2.2.1 + ln ([1] : List Int)) Sa)
 (some (.inl ((t1, (), (), (), (wr .i64 (t7 + 1)), ()), (b2, b4, (b6.1, b6.2.1, b6.2.2.1, b6.2.2.2.1, b6.2.2.2.2.1, (ap b6.2.2.2.2.2.1 ([1] : List Int)), b6.2.2.2.2.2.2), ()))))
 none))
 none)
 (cond (bl (ln b6.2.2.2.2.2.1 + ln ([1] : List Int)) Sa)
 (some (.inl ((t1, (), (), (), (wr .i64 (t7 + 1)), ()), (b2, b4, (b6.1, b6.2.1, b6.2.2.1, b6.2.2.2.1, b6.2.2.2.2.1, (ap b6.2.2.2.2.2.1 ([1] : List Int)), b6.2.2.2.2.2.2), ()))))
 none))
 (cond (decide ((min 99 (wr .i64 (x5 + 1))) ≥ b2.2.1))
 (cond (decide (0 ≤ t7))
 (cond ((Va .i64 (Vb .i64 (Za .i64 t1 b2.2.2.2.1) t7) 1) == 1)
 (cond (decide (0 ≤ t7))
 (cond (b2.1 == 2)
 (cond (bl (ln b6.2.2.2.2.2.1 + ln ([0] : List Int)) Sa)
 (some (.inl ((t1, (), (), (), (wr .i64 (t7 + 1)), ()), (b2, b4, (b6.1, b6.2.1, b6.2.2.1, (Za .i64 b6.2.2.2.1 (Qa .i64 1 t7)), b6.2.2.2.2.1, (ap b6.2.2.2.2.2.1 ([0] : List Int)), b6.2.2.2.2.2.2), ()))))
 none)
 (cond (bl (ln b6.2.2.2.2.2.1 + ln ([(min 99 (wr .i64 (x5 + 1)))] : List Int)) Sa)
 (some (.inl ((t1, (), (), (), (wr .i64 (t7 + 1)), ()), (b2, b4, (b6.1, b6.2.1, b6.2.2.1, (Za .i64 b6.2.2.2.1 (Qa .i64 1 t7)), b6.2.2.2.2.1, (ap b6.2.2.2.2.2.1 ([(min 99 (wr .i64 (x5 + 1)))] : List Int)), b6.2.2.2.2.2.2), ()))))
 none))
 none)
 (cond (bl (ln b6.2.2.2.2.2.1 + ln ([(min 99 (wr .i64 (x5 + 1)))] : List Int)) Sa)
 (some (.inl ((t1, (), (), (), (wr .i64 (t7 + 1)), ()), (b2, b4, (b6.1, b6.2.1, b6.2.2.1, b6.2.2.2.1, b6.2.2.2.2.1, (ap b6.2.2.2.2.2.1 ([(min 99 (wr .i64 (x5 + 1)))] : List Int)), b6.2.2.2.2.2.2), ()))))
 none))
 none)
 (cond (bl (ln b6.2.2.2.2.2.1 + ln ([(min 99 (wr .i64 (x5 + 1)))] : List Int)) Sa)
 (some (.inl ((t1, (), (), (), (wr .i64 (t7 + 1)), ()), (b2, b4, (b6.1, b6.2.1, b6.2.2.1, b6.2.2.2.1, b6.2.2.2.2.1, (ap b6.2.2.2.2.2.1 ([(min 99 (wr .i64 (x5 + 1)))] : List Int)), b6.2.2.2.2.2.2), ()))))
 none)))
 (cond (decide ((min 99 (wr .i64 (x5 + 1))) ≥ b2.2.1))
 (cond (decide (0 ≤ t7))
 (cond ((Va .i64 (Vb .i64 (Za .i64 t1 b2.2.2.2.1) t7) 1) == 1)
 (cond (decide (0 ≤ t7))
 (cond (b2.1 == 2)
 (cond (bl (ln b6.2.2.2.2.2.1 + ln ([0] : List Int)) Sa)
 (some (.inl ((t1, (), (), (), (wr .i64 (t7 + 1)), ()), (b2, b4, (b6.1, b6.2.1, b6.2.2.1, (Za .i64 b6.2.2.2.1 (Qa .i64 1 t7)), b6.2.2.2.2.1, (ap b6.2.2.2.2.2.1 ([0] : List Int)), b6.2.2.2.2.2.2), ()))))
 none)
 (cond (bl (ln b6.2.2.2.2.2.1 + ln ([(min 99 (wr .i64 (x5 + 1)))] : List Int)) Sa)
 (some (.inl ((t1, (), (), (), (wr .i64 (t7 + 1)), ()), (b2, b4, (b6.1, b6.2.1, b6.2.2.1, (Za .i64 b6.2.2.2.1 (Qa .i64 1 t7)), b6.2.2.2.2.1, (ap b6.2.2.2.2.2.1 ([(min 99 (wr .i64 (x5 + 1)))] : List Int)), b6.2.2.2.2.2.2), ()))))
 none))
 none)
 (cond (bl (ln b6.2.2.2.2.2.1 + ln ([(min 99 (wr .i64 (x5 + 1)))] : List Int)) Sa)
 (some (.inl ((t1, (), (), (), (wr .i64 (t7 + 1)), ()), (b2, b4, (b6.1, b6.2.1, b6.2.2.1, b6.2.2.2.1, b6.2.2.2.2.1, (ap b6.2.2.2.2.2.1 ([(min 99 (wr .i64 (x5 + 1)))] : List Int)), b6.2.2.2.2.2.2), ()))))
 none))
 none)
 (cond (bl (ln b6.2.2.2.2.2.1 + ln ([(min 99 (wr .i64 (x5 + 1)))] : List Int)) Sa)
 (some (.inl ((t1, (), (), (), (wr .i64 (t7 + 1)), ()), (b2, b4, (b6.1, b6.2.1, b6.2.2.1, b6.2.2.2.1, b6.2.2.2.2.1, (ap b6.2.2.2.2.2.1 ([(min 99 (wr .i64 (x5 + 1)))] : List Int)), b6.2.2.2.2.2.2), ()))))
 none)))))
 (some (.inr (.inl ((t1, (), (), ()), (b4, b6, ()))))))
def Fp := Ua fun x : ((Int × Q2) × Saf) => Sj x.1.1 x.1.2.1 x.1.2.2.1 x.1.2.2.2.1 x.1.2.2.2.2.1 x.2.1 x.2.2.1 x.2.2.2.1
def En (a0 : Qb) (a1 : Int) : Option (Qb × Wc) :=
 (ob (Gp a0) fun r1 =>
 (cond (!r1.1)
 (some ((0, 0, 0, 0, 0, [], ()), false, ()))
 (cond (decide (0 ≤ a0.2.2.1))
 (ob (Sb a1 0 (wr .i64 ((Qa .i64 1 a0.2.2.1) - 1))) fun r2 =>
 (cond (!r2.1)
 (some ((0, 0, 0, 0, 0, [], ()), false, ()))
 (ob (Fp ((a1, (), (), (), 0, ()), (a0, (0, 0, 0, 0, 0, [], ()), (a0.1, a0.2.1, a0.2.2.1, a0.2.2.2.1, a0.2.2.2.2.1, [], a0.2.2.2.2.2.2), ()))) (se (fun y6 => (some ((y6.2.2.1.1, y6.2.2.1.2.1, y6.2.2.1.2.2.1, y6.2.2.1.2.2.2.1, y6.1.1, y6.2.2.1.2.2.2.2.2), true, ()))) (fun z7 => none)))))
 none)))
def Hw (a0 : Ca) : Option Wc :=
 (ob (Aw a0) fun r1 =>
 (cond r1.1
 (some ((decide (a0.2.1 < 24)), ()))
 (some (false, ()))))
def Qy (t0 : Je) (t1 : Int) (t5 : Int) : Option (TP ⊕ Sk) :=
 (cond (decide (t5 < ((ln t0 : Nat) : Int)))
 (ob (Ya t0 t5) fun x3 =>
 (cond ((Mb .i64 t1 x3.1) == 0)
 (some (.inr (.inr ((true, ()), ()))))
 (some (.inl ((t0, t1, (wr .i64 (t5 + 1)), ()), ())))))
 (some (.inr (.inl ((), ())))))
def YA := Ua fun x : TP => Qy x.1.1 x.1.2.1 x.1.2.2.1
def WE (a0 : Je) (a1 : Int) : Option Wc :=
 (ob (YA ((a0, a1, 0, ()), ())) (se (fun y4 => (some (false, ()))) (fun z5 => (some (z5.1.1, ())))))
def VC (t0 : Je) (t1 : Int) (t6 : Int) (t7 : Bool) (t8 : Int) : Option (((Je × (Int × (Int × (Bool × Gc)))) × Unit) ⊕ ((Sw × Unit) ⊕ Ke)) :=
 (cond (decide (t8 < ((ln t0 : Nat) : Int)))
 (ob (Ya t0 t8) fun x7 =>
 (cond (t1 == x7.1)
 (ob (Ya t0 t8) fun x8 =>
 (some (.inl ((t0, t1, x8.2.1, t7, (wr .i64 (t8 + 1)), ()), ()))))
 (ob (Ya t0 t8) fun x9 =>
 (cond ((Mb .i64 t1 x9.1) == 0)
 (some (.inl ((t0, t1, t6, true, (wr .i64 (t8 + 1)), ()), ())))
 (some (.inl ((t0, t1, t6, t7, (wr .i64 (t8 + 1)), ()), ())))))))
 (some (.inr (.inl ((t6, t7, ()), ())))))
def YE := Ua fun x : ((Je × (Int × (Int × (Bool × Gc)))) × Unit) => VC x.1.1 x.1.2.1 x.1.2.2.1 x.1.2.2.2.1 x.1.2.2.2.2.1
def UI (a0 : Je) (a1 : Int) : Option Sw :=
 (ob (YE ((a0, a1, (-1), false, 0, ()), ())) (se (fun y10 => (some y10.1)) (fun z11 => none)))
def Xp (t0 : Je) (t2 : Ae) (t3 : Int) (t11 : Int) (t12 : Int) (t13 : Int) (t14 : Int) : Option (((Je × (Ae × (Int × Cb))) × Unit) ⊕ (((Je × Zc) × Unit) ⊕ OF)) :=
 (cond (t13 == ((ln t2 : Nat) : Int))
 (cond (decide (t3 < t12))
 (some (.inr (.inr ((0, 0, (-1), ()), ()))))
 (some (.inr (.inl ((t0, t11, t13, t14, ()), ())))))
 (ob (Ya t2 t13) fun x18 =>
 (ob (Hw x18) fun r19 =>
 (cond (!r19.1)
 (some (.inr (.inr ((0, 0, (-1), ()), ()))))
 (cond (decide (x18.1 ≥ t12))
 (some (.inr (.inl ((t0, t11, t13, t14, ()), ()))))
 (cond (!x18.2.2.1)
 (some (.inr (.inl ((t0, t11, t13, x18.1, ()), ()))))
 (cond (decide (0 ≤ x18.2.1))
 (ob (WE t0 (Nc .i64 t11 (Qa .i64 1 x18.2.1))) fun r20 =>
 (cond (!r20.1)
 (some (.inr (.inl ((t0, t11, t13, x18.1, ()), ()))))
 (cond (decide (0 ≤ x18.2.1))
 (ob (UI t0 (Nc .i64 t11 (Qa .i64 1 x18.2.1))) fun r21 =>
 (cond (decide (r21.1 ≥ 0))
 (cond (!r21.2.1)
 (some (.inr (.inr (((wr .i64 (t13 + 1)), x18.1, r21.1, ()), ()))))
 (some (.inl ((t0, t2, t3, (Nc .i64 t11 (Qa .i64 1 x18.2.1)), t12, (wr .i64 (t13 + 1)), t14, ()), ()))))
 (some (.inl ((t0, t2, t3, (Nc .i64 t11 (Qa .i64 1 x18.2.1)), t12, (wr .i64 (t13 + 1)), t14, ()), ())))))
 none)))
 none)))))))
def Ql := Ua fun x : ((Je × (Ae × (Int × Cb))) × Unit) => Xp x.1.1 x.1.2.1 x.1.2.2.1 x.1.2.2.2.1 x.1.2.2.2.2.1 x.1.2.2.2.2.2.1 x.1.2.2.2.2.2.2.1
def PC (a0 : Je) (a1 : Int) (a2 : Ae) (a3 : Int) : Option Zc :=
 (ob (Tz a0) fun r1 =>
 (cond (!r1.1)
 (some (0, 0, (-1), ()))
 (ob (Sb a1 1 200) fun r2 =>
 (cond (!r2.1)
 (some (0, 0, (-1), ()))
 (cond (((ln a2 : Nat) : Int) == 0)
 (some (0, 0, (-1), ()))
 (ob (Ya a2 0) fun x3 =>
 (ob (Hw x3) fun r4 =>
 (cond (!r4.1)
 (some (0, 0, (-1), ()))
 (ob (Ya a2 0) fun x5 =>
 (cond (!x5.2.2.1)
 (some (0, 0, (-1), ()))
 (ob (Ya a2 0) fun x6 =>
 (cond (decide (0 ≤ x6.2.1))
 (ob (Ya a2 0) fun x7 =>
 (ob (WE a0 (Qa .i64 1 x6.2.1)) fun r8 =>
 (cond (!r8.1)
 (ob (Ya a2 0) fun x9 =>
 (some (1, x9.1, (-1), ())))
 (ob (Ql ((a0, a2, a3, (Qa .i64 1 x6.2.1), (wr .i64 (x7.1 + a1)), 1, (wr .i64 (x7.1 + a1)), ()), ())) (se (fun y22 => (ob (UI y22.1.1 y22.1.2.1) fun r24 =>
 (cond (decide (r24.1 < 0))
 (some (1, y22.1.2.2.2.1, r24.1, ()))
 (some (y22.1.2.2.1, y22.1.2.2.2.1, r24.1, ()))))) (fun z23 => (some z23.1)))))))
 none))))))))))))
def SG (t0 : Unit) (t1 : Int) (t2 : Int) (t7 : Int) (b500000 : Pa) : Option ((ZR × JF) ⊕ (DU ⊕ N2)) :=
 (cond (decide (t7 < ((ln b500000.2.2.2.2.2.2.1 : Nat) : Int)))
 (cond (Af (ln b500000.2.2.2.2.2.2.1) t7)
 (ob b500000.2.2.2.2.2.2.1[(tn t7)]? fun x7 =>
 (cond (decide (0 ≤ t1))
 (cond ((Va .i64 (Vb .i64 x7.2.1 t1) 1) == 0)
 (some (.inl (((), t1, t2, (wr .i64 (t7 + 1)), ()), (b500000, ()))))
 (cond x7.2.2.1
 (cond (bl (ln ([] : List Ca) + ln ([(t2, x7.1, false, ())] : List Ca)) Sa)
 (cond (decide (0 ≤ t1))
 (cond (Af (ln b500000.2.2.2.2.2.2.1) t7)
 (ob b500000.2.2.2.2.2.2.1[(tn t7)]? fun x8 =>
 (cond ((Mb .i64 x7.2.1 (Qa .i64 1 t1)) == 0)
 (cond (Ld (ln (ls b500000.2.2.2.2.2.2.1 (tn t7) (x7.1, (Mb .i64 x7.2.1 (Qa .i64 1 t1)), false, x7.2.2.2))) 0 t7)
 (cond (bl (ln ([] : List Ca) + ln (Eb (ls b500000.2.2.2.2.2.2.1 (tn t7) (x7.1, (Mb .i64 x7.2.1 (Qa .i64 1 t1)), false, x7.2.2.2)) (tn 0) (tn t7))) Sa)
 (cond (Ld (ln (ls b500000.2.2.2.2.2.2.1 (tn t7) (x7.1, (Mb .i64 x7.2.1 (Qa .i64 1 t1)), false, x7.2.2.2))) (wr .i64 (t7 + 1)) ((ln (ls b500000.2.2.2.2.2.2.1 (tn t7) (x7.1, (Mb .i64 x7.2.1 (Qa .i64 1 t1)), false, x7.2.2.2)) : Nat) : Int))
 (cond (bl (ln (ap [] (Eb (ls b500000.2.2.2.2.2.2.1 (tn t7) (x7.1, (Mb .i64 x7.2.1 (Qa .i64 1 t1)), false, x7.2.2.2)) (tn 0) (tn t7))) + ln (Eb (ls b500000.2.2.2.2.2.2.1 (tn t7) (x7.1, (Mb .i64 x7.2.1 (Qa .i64 1 t1)), false, x7.2.2.2)) (tn (wr .i64 (t7 + 1))) (tn ((ln (ls b500000.2.2.2.2.2.2.1 (tn t7) (x7.1, (Mb .i64 x7.2.1 (Qa .i64 1 t1)), false, x7.2.2.2)) : Nat) : Int)))) Sa)
 (some (.inr (.inr (((), (ap [] ([(t2, x7.1, false, ())] : List Ca)), ()), ((b500000.1, b500000.2.1, b500000.2.2.1, b500000.2.2.2.1, b500000.2.2.2.2.1, b500000.2.2.2.2.2.1, (ap (ap [] (Eb (ls b500000.2.2.2.2.2.2.1 (tn t7) (x7.1, (Mb .i64 x7.2.1 (Qa .i64 1 t1)), false, x7.2.2.2)) (tn 0) (tn t7))) (Eb (ls b500000.2.2.2.2.2.2.1 (tn t7) (x7.1, (Mb .i64 x7.2.1 (Qa .i64 1 t1)), false, x7.2.2.2)) (tn (wr .i64 (t7 + 1))) (tn ((ln (ls b500000.2.2.2.2.2.2.1 (tn t7) (x7.1, (Mb .i64 x7.2.1 (Qa .i64 1 t1)), false, x7.2.2.2)) : Nat) : Int)))), ()), ())))))
 none)
 none)
 none)
 none)
 (some (.inr (.inr (((), (ap [] ([(t2, x7.1, false, ())] : List Ca)), ()), ((b500000.1, b500000.2.1, b500000.2.2.1, b500000.2.2.2.1, b500000.2.2.2.2.1, b500000.2.2.2.2.2.1, (ls b500000.2.2.2.2.2.2.1 (tn t7) (x7.1, (Mb .i64 x7.2.1 (Qa .i64 1 t1)), false, x7.2.2.2)), ()), ())))))))
 none)
 none)
 none)
 (cond (decide (0 ≤ t1))
 (cond (Af (ln b500000.2.2.2.2.2.2.1) t7)
 (ob b500000.2.2.2.2.2.2.1[(tn t7)]? fun x9 =>
 (cond ((Mb .i64 x7.2.1 (Qa .i64 1 t1)) == 0)
 (cond (Ld (ln (ls b500000.2.2.2.2.2.2.1 (tn t7) (x7.1, (Mb .i64 x7.2.1 (Qa .i64 1 t1)), false, x7.2.2.2))) 0 t7)
 (cond (bl (ln ([] : List Ca) + ln (Eb (ls b500000.2.2.2.2.2.2.1 (tn t7) (x7.1, (Mb .i64 x7.2.1 (Qa .i64 1 t1)), false, x7.2.2.2)) (tn 0) (tn t7))) Sa)
 (cond (Ld (ln (ls b500000.2.2.2.2.2.2.1 (tn t7) (x7.1, (Mb .i64 x7.2.1 (Qa .i64 1 t1)), false, x7.2.2.2))) (wr .i64 (t7 + 1)) ((ln (ls b500000.2.2.2.2.2.2.1 (tn t7) (x7.1, (Mb .i64 x7.2.1 (Qa .i64 1 t1)), false, x7.2.2.2)) : Nat) : Int))
 (cond (bl (ln (ap [] (Eb (ls b500000.2.2.2.2.2.2.1 (tn t7) (x7.1, (Mb .i64 x7.2.1 (Qa .i64 1 t1)), false, x7.2.2.2)) (tn 0) (tn t7))) + ln (Eb (ls b500000.2.2.2.2.2.2.1 (tn t7) (x7.1, (Mb .i64 x7.2.1 (Qa .i64 1 t1)), false, x7.2.2.2)) (tn (wr .i64 (t7 + 1))) (tn ((ln (ls b500000.2.2.2.2.2.2.1 (tn t7) (x7.1, (Mb .i64 x7.2.1 (Qa .i64 1 t1)), false, x7.2.2.2)) : Nat) : Int)))) Sa)
 (some (.inr (.inr (((), [], ()), ((b500000.1, b500000.2.1, b500000.2.2.1, b500000.2.2.2.1, b500000.2.2.2.2.1, b500000.2.2.2.2.2.1, (ap (ap [] (Eb (ls b500000.2.2.2.2.2.2.1 (tn t7) (x7.1, (Mb .i64 x7.2.1 (Qa .i64 1 t1)), false, x7.2.2.2)) (tn 0) (tn t7))) (Eb (ls b500000.2.2.2.2.2.2.1 (tn t7) (x7.1, (Mb .i64 x7.2.1 (Qa .i64 1 t1)), false, x7.2.2.2)) (tn (wr .i64 (t7 + 1))) (tn ((ln (ls b500000.2.2.2.2.2.2.1 (tn t7) (x7.1, (Mb .i64 x7.2.1 (Qa .i64 1 t1)), false, x7.2.2.2)) : Nat) : Int)))), ()), ())))))
 none)
 none)
 none)
 none)
 (some (.inr (.inr (((), [], ()), ((b500000.1, b500000.2.1, b500000.2.2.1, b500000.2.2.2.1, b500000.2.2.2.2.1, b500000.2.2.2.2.2.1, (ls b500000.2.2.2.2.2.2.1 (tn t7) (x7.1, (Mb .i64 x7.2.1 (Qa .i64 1 t1)), false, x7.2.2.2)), ()), ())))))))
 none)
 none)))
 none))
 none)
 (some (.inr (.inl (((), t1, t2, ()), (b500000, ()))))))
def QH := Ua fun x : (ZR × JF) => SG x.1.1 x.1.2.1 x.1.2.2.1 x.1.2.2.2.1 x.2.1
def TN (a0 : Pa) (a1 : Int) (a2 : Int) : Option (Pa × LF) :=
 (ob (QH (((), a1, a2, 0, ()), (a0, ()))) (se (fun y10 => (cond (decide (0 ≤ y10.1.2.1))
 (some ((y10.2.1.1, y10.2.1.2.1, y10.2.1.2.2.1, y10.2.1.2.2.2.1, y10.2.1.2.2.2.2.1, (Mb .i64 y10.2.1.2.2.2.2.2.1 (Qa .i64 1 y10.1.2.1)), y10.2.1.2.2.2.2.2.2.1, ()), (([(y10.1.2.2.1, y10.1.2.1, false, ())] : List Ca), ())))
 none)) (fun z11 => (some (z11.2.1, (z11.1.2.1, ()))))))
def Ks (t0 : Unit) (t3 : Ae) (b500000 : Pa) : Option (N2 ⊕ (N2 ⊕ N2)) :=
 (cond (decide (((ln b500000.2.2.1 : Nat) : Int) > 0))
 (cond (Af (ln b500000.2.2.1) 0)
 (ob b500000.2.2.1[(tn 0)]? fun x9 =>
 (cond x9.2.2.1
 (ob (PC b500000.1 b500000.2.1 b500000.2.2.1 b500000.2.2.2.1) fun r10 =>
 (cond (r10.1 == 0)
 (some (.inr (.inr (((), t3, ()), (b500000, ())))))
 (cond (decide (r10.2.2.1 ≥ 0))
 (cond (bl (ln t3 + ln ([((max (max b500000.2.2.2.2.1 x9.1) r10.2.1), r10.2.2.1, true, ())] : List Ca)) Sa)
 (ob (XE b500000.1 r10.2.2.1) fun r11 =>
 (cond (bl (ln ([] : List Ca) + ln b500000.2.2.2.2.2.2.1) Sa)
 (cond (bl (ln (ap [] b500000.2.2.2.2.2.2.1) + ln ([(r10.2.2.1, r11.1, true, ())] : List Ca)) Sa)
 (cond (Ld (ln b500000.2.2.1) r10.1 ((ln b500000.2.2.1 : Nat) : Int))
 (cond (bl (ln ([] : List Ca) + ln (Eb b500000.2.2.1 (tn r10.1) (tn ((ln b500000.2.2.1 : Nat) : Int)))) Sa)
 (some (.inl (((), (ap t3 ([((max (max b500000.2.2.2.2.1 x9.1) r10.2.1), r10.2.2.1, true, ())] : List Ca)), ()), ((b500000.1, b500000.2.1, (ap [] (Eb b500000.2.2.1 (tn r10.1) (tn ((ln b500000.2.2.1 : Nat) : Int)))), b500000.2.2.2.1, (max (max b500000.2.2.2.2.1 x9.1) r10.2.1), b500000.2.2.2.2.2.1, (ap (ap [] b500000.2.2.2.2.2.2.1) ([(r10.2.2.1, r11.1, true, ())] : List Ca)), ()), ()))))
 none)
 none)
 none)
 none))
 none)
 (cond (bl (ln t3 + ln ([((max (max b500000.2.2.2.2.1 x9.1) r10.2.1), x9.2.1, true, ())] : List Ca)) Sa)
 (cond (decide (0 ≤ x9.2.1))
 (cond (Ld (ln b500000.2.2.1) r10.1 ((ln b500000.2.2.1 : Nat) : Int))
 (cond (bl (ln ([] : List Ca) + ln (Eb b500000.2.2.1 (tn r10.1) (tn ((ln b500000.2.2.1 : Nat) : Int)))) Sa)
 (some (.inl (((), (ap t3 ([((max (max b500000.2.2.2.2.1 x9.1) r10.2.1), x9.2.1, true, ())] : List Ca)), ()), ((b500000.1, b500000.2.1, (ap [] (Eb b500000.2.2.1 (tn r10.1) (tn ((ln b500000.2.2.1 : Nat) : Int)))), b500000.2.2.2.1, (max (max b500000.2.2.2.2.1 x9.1) r10.2.1), (Nc .i64 b500000.2.2.2.2.2.1 (Qa .i64 1 x9.2.1)), b500000.2.2.2.2.2.2.1, ()), ()))))
 none)
 none)
 none)
 none))))
 (ob (TN b500000 x9.2.1 (max b500000.2.2.2.2.1 x9.1)) fun r12 =>
 (cond (bl (ln t3 + ln r12.2.1) Sa)
 (cond (Ld (ln r12.1.2.2.1) 1 ((ln r12.1.2.2.1 : Nat) : Int))
 (cond (bl (ln ([] : List Ca) + ln (Eb r12.1.2.2.1 (tn 1) (tn ((ln r12.1.2.2.1 : Nat) : Int)))) Sa)
 (some (.inl (((), (ap t3 r12.2.1), ()), ((r12.1.1, r12.1.2.1, (ap [] (Eb r12.1.2.2.1 (tn 1) (tn ((ln r12.1.2.2.1 : Nat) : Int)))), r12.1.2.2.2.1, (max b500000.2.2.2.2.1 x9.1), r12.1.2.2.2.2.2), ()))))
 none)
 none)
 none))))
 none)
 (some (.inr (.inl (((), t3, ()), (b500000, ()))))))
def Uj := Ua fun x : N2 => Ks x.1.1 x.1.2.1 x.2.1
def IA (a0 : Pa) : Option (Pa × LF) :=
 (ob (Uj (((), [], ()), (a0, ()))) (se (fun y13 => (some (y13.2.1, (y13.1.2.1, ())))) (fun z14 => (some (z14.2.1, (z14.1.2.1, ()))))))
def As (a0 : Pa) (a1 : Ae) (a2 : Int) : Option (Pa × (Ae × Wc)) :=
 (cond (bl (ln ([] : List Ca) + ln a0.2.2.1) Sa)
 (cond (bl (ln (ap [] a0.2.2.1) + ln a1) Sa)
 (ob (Cs a0) fun r1 =>
 (cond (!r1.1)
 (some (Og, [], false, ()))
 (ob (Sb a2 a0.2.2.2.1 1000000) fun r2 =>
 (cond (!r2.1)
 (some (Og, [], false, ()))
 (ob (Gw a0) fun r3 =>
 (ob (Fk (ap (ap [] a0.2.2.1) a1) r3.1 24 0) fun r4 =>
 (cond (!r4.1)
 (some (Og, [], false, ()))
 (cond (decide (((ln a1 : Nat) : Int) > 0))
 (ob (Ya a1 0) fun x5 =>
 (cond (decide (x5.1 < a0.2.2.2.1))
 (some (Og, [], false, ()))
 (ob (Ya a1 (wr .i64 (((ln a1 : Nat) : Int) - 1))) fun x6 =>
 (cond (decide (x6.1 > a2))
 (some (Og, [], false, ()))
 (ob (VE a0) fun r7 =>
 (ob (IA (r7.1.1, r7.1.2.1, (ap (ap [] a0.2.2.1) a1), a2, r7.1.2.2.2.2)) fun r8 =>
 (some (r8.1, r8.2.1, true, ()))))))))
 (ob (VE a0) fun r9 =>
 (ob (IA (r9.1.1, r9.1.2.1, (ap (ap [] a0.2.2.1) a1), a2, r9.1.2.2.2.2)) fun r10 =>
 (some (r10.1, r10.2.1, true, ()))))))))))))
 none)
 none)
def Zr (t2 : Unit) (t4 : Unit) (t9 : Int) (t11 : Unit) (t13 : Ae) (t14 : Int) (b2 : Jd) (b4 : Jd) (b11 : Qb) : Option (QaK ⊕ (((Unit × (Unit × (Int × (Unit × LF)))) × (Jd × (Jd × XR))) ⊕ Ke)) :=
 (cond (decide (t14 < b11.2.2.1))
 (cond (decide (0 ≤ t14))
 (cond ((Va .i64 (Vb .i64 (Za .i64 b11.2.2.2.1 b2.2.1.2.2.2.1) t14) 1) == 1)
 (cond (decide (0 ≤ t14))
 (cond (bl (ln t13 + ln ([(b2.2.2.2.2.2.1, t14, ((Va .i64 (Vb .i64 b11.2.2.2.1 t14) 1) == 1), ())] : List Ca)) Sa)
 (some (.inl (((), (), t9, (), (ap t13 ([(b2.2.2.2.2.2.1, t14, ((Va .i64 (Vb .i64 b11.2.2.2.1 t14) 1) == 1), ())] : List Ca)), (wr .i64 (t14 + 1)), ()), (b2, b4, b11, ()))))
 none)
 none)
 (some (.inl (((), (), t9, (), t13, (wr .i64 (t14 + 1)), ()), (b2, b4, b11, ())))))
 none)
 (some (.inr (.inl (((), (), t9, (), t13, ()), (b2, b4, b11, ()))))))
def Qj := Ua fun x : QaK => Zr x.1.1 x.1.2.1 x.1.2.2.1 x.1.2.2.2.1 x.1.2.2.2.2.1 x.1.2.2.2.2.2.1 x.2.1 x.2.2.1 x.2.2.2.1
def Dl (a0 : Jd) (a1 : Int) : Option (Jd × M2) :=
 (ob (RC a0.1 a1) fun r1 =>
 (ob (RE a0) fun r2 =>
 (cond (!r2.1)
 (some (Xk, [], false, ()))
 (cond (!r1.2.1)
 (some (Xk, [], false, ()))
 (cond (a0.2.2.2.2.2.1 == 1000000)
 (some (Xk, [], false, ()))
 (ob (Yr a0.1 a0.2.2.2.2.1 r1.1) fun r3 =>
 (ob (En a0.2.1 r3.1) fun r4 =>
 (ob (Qj (((), (), r3.1, (), [], 0, ()), (a0, Xk, r4.1, ()))) (se (fun y5 => (ob (As y5.2.1.2.2.1 y5.1.2.2.2.2.1 y5.2.1.2.2.2.2.2.1) fun r7 =>
 (ob (QC y5.2.1.2.2.2.1 r7.2.1 y5.2.1.2.2.2.2.2.1) fun r8 =>
 (cond (!r7.2.2.1)
 (some (Xk, [], false, ()))
 (cond (!r8.2.2.1)
 (some (Xk, [], false, ()))
 (some ((y5.2.1.1, y5.2.2.2.1, r7.1, r8.1, y5.1.2.2.1, (wr .i64 (y5.2.1.2.2.2.2.2.1 + 1)), ()), r8.2.1, true, ()))))))) (fun z6 => none))))))))))
def Lu (t0 : Uc) (t3 : Int) (t4 : Int) (t5 : Int) : Option (EX ⊕ (JX ⊕ Ke)) :=
 (cond (decide (t5 < 8))
 (cond (decide ((wr .i64 (2 * t3)) > 255))
 (some (.inl ((t0, (Za .i64 (wr .i64 (2 * t3)) 263), t4, (wr .i64 (t5 + 1)), ()), ())))
 (some (.inl ((t0, (wr .i64 (2 * t3)), t4, (wr .i64 (t5 + 1)), ()), ()))))
 (some (.inr (.inl ((t0, t3, t4, ()), ())))))
def Wn := Ua fun x : EX => Lu x.1.1 x.1.2.1 x.1.2.2.1 x.1.2.2.2.1
def Ku (t0 : Uc) (t3 : Int) (t4 : Int) : Option (JX ⊕ Rw) :=
 (cond (decide (t4 < ((ln t0 : Nat) : Int)))
 (ob (Ya t0 t4) fun x7 =>
 (ob (Wn ((t0, (Za .i64 t3 (wr .i64 x7)), t4, 0, ()), ())) (se (fun y8 => (some (.inl ((y8.1.1, y8.1.2.1, (wr .i64 (y8.1.2.2.1 + 1)), ()), ())))) (fun z9 => (some (.inr (.inr ((), ()))))))))
 (some (.inr (.inl ((t3, ()), ())))))
def Dy := Ua fun x : JX => Ku x.1.1 x.1.2.1 x.1.2.2.1
def Rz (a0 : Uc) : Option Gc :=
 (ob (Dy ((a0, 0, 0, ()), ())) (se (fun y10 => (some (y10.1.1, ()))) (fun z11 => none)))
def PG (a0 : Int) (a1 : Int) : Option Tq :=
 (ob (Sb a0 0 255) fun r1 =>
 (cond (!r1.1)
 (some ([], ()))
 (ob (Sb a1 0 16777215) fun r2 =>
 (cond (!r2.1)
 (some ([], ()))
 (cond ((256 : Int) == 0)
 none
 (cond ((256 : Int) == 0)
 none
 (cond ((256 : Int) == 0)
 none
 (cond ((65536 : Int) == 0)
 none
 (ob (Rz ([85, (wr .u8 a0), (wr .u8 (Int.tmod a1 256)), (wr .u8 (Int.tmod (wr .i64 (Int.tdiv a1 256)) 256)), (wr .u8 (wr .i64 (Int.tdiv a1 65536)))] : List Int)) fun r3 =>
 (cond (bl (ln ([85, (wr .u8 a0), (wr .u8 (Int.tmod a1 256)), (wr .u8 (Int.tmod (wr .i64 (Int.tdiv a1 256)) 256)), (wr .u8 (wr .i64 (Int.tdiv a1 65536)))] : List Int) + ln ([(wr .u8 r3.1)] : List Int)) Sa)
 (some ((ap ([85, (wr .u8 a0), (wr .u8 (Int.tmod a1 256)), (wr .u8 (Int.tmod (wr .i64 (Int.tdiv a1 256)) 256)), (wr .u8 (wr .i64 (Int.tdiv a1 65536)))] : List Int) ([(wr .u8 r3.1)] : List Int)), ()))
 none))))))))))
def Ph (t2 : Uc) (t7 : Uc) (t8 : Int) : Option (PP ⊕ F8) :=
 (cond (decide (t8 < ((ln t7 : Nat) : Int)))
 (cond (Af (ln t7) t8)
 (ob t7[(tn t8)]? fun x8 =>
 (ob (Ya t2 t8) fun x9 =>
 (cond (Af (ln t7) t8)
 (ob t7[(tn t8)]? fun x10 =>
 (some (.inl ((t2, (ls t7 (tn t8) (Za .u8 x8 x9)), (wr .i64 (t8 + 1)), ()), ()))))
 none)))
 none)
 (some (.inr (.inl ((t7, ()), ())))))
def Eo := Ua fun x : PP => Ph x.1.1 x.1.2.1 x.1.2.2.1
def EK (a0 : Int) (a1 : Int) (a2 : Uc) : Option Tq :=
 (ob (PG a0 a1) fun r1 =>
 (cond (((ln a2 : Nat) : Int) == 0)
 (some (r1.1, ()))
 (cond (((ln a2 : Nat) : Int) != ((ln r1.1 : Nat) : Int))
 (some ([], ()))
 (ob (Eo ((a2, r1.1, 0, ()), ())) (se (fun y11 => (some (y11.1.1, ()))) (fun z12 => none))))))
def QG (a0 : Uc) : Option Ca :=
 (cond (((ln a0 : Nat) : Int) != 6)
 (some (0, 0, false, ()))
 (ob (Ya a0 0) fun x1 =>
 (cond (x1 != 85)
 (some (0, 0, false, ()))
 (cond (Ld (ln a0) 0 5)
 (ob (Rz (Eb a0 (tn 0) (tn 5))) fun r2 =>
 (ob (Ya a0 5) fun x3 =>
 (cond (r2.1 != (wr .i64 x3))
 (some (0, 0, false, ()))
 (ob (Ya a0 1) fun x4 =>
 (ob (Ya a0 2) fun x5 =>
 (ob (Ya a0 3) fun x6 =>
 (ob (Ya a0 4) fun x7 =>
 (some ((wr .i64 x4), (wr .i64 ((wr .i64 ((wr .i64 x5) + (wr .i64 (256 * (wr .i64 x6))))) + (wr .i64 (65536 * (wr .i64 x7))))), true, ())))))))))
 none))))
def Ky (a0 : Rb) (a1 : Int) : Option (Rb × Gc) :=
 (ob (Ek a0) fun r1 =>
 (cond (!r1.1)
 (some (([], 0, 0, 0, ()), 0, ()))
 (cond (bl (ln ([] : List Int) + ln a0.1) Sa)
 (cond (bl (ln (ap [] a0.1) + ln ([a1] : List Int)) Sa)
 (cond (decide (((ln (ap (ap [] a0.1) ([a1] : List Int)) : Nat) : Int) < 6))
 (some (((ap (ap [] a0.1) ([a1] : List Int)), a0.2), 1, ()))
 (ob (QG (ap (ap [] a0.1) ([a1] : List Int))) fun r2 =>
 (cond (!r2.2.2.1)
 (cond (Ld (ln (ap (ap [] a0.1) ([a1] : List Int))) 1 ((ln (ap (ap [] a0.1) ([a1] : List Int)) : Nat) : Int))
 (some (((Eb (ap (ap [] a0.1) ([a1] : List Int)) (tn 1) (tn ((ln (ap (ap [] a0.1) ([a1] : List Int)) : Nat) : Int))), a0.2), 1, ()))
 none)
 (cond (r2.1 == a0.2.1)
 (some (([], a0.2.1, a0.2.2.1, 0, a0.2.2.2.2), 3, ()))
 (some (([], r2.1, r2.2.1, 0, a0.2.2.2.2), 2, ()))))))
 none)
 none)))
def Yp (t1 : Uc) (t4 : Unit) (t6 : Uc) (t7 : Unit) (t8 : Int) (b4 : Rb) (b7 : Rb) : Option (((Uc × (Unit × (Uc × Zj))) × R2) ⊕ (((Unit × (Uc × Ke)) × R2) ⊕ ((Unit × Tq) × EX))) :=
 (cond (decide (t8 < ((ln t1 : Nat) : Int)))
 (ob (Ya t1 t8) fun x5 =>
 (ob (Ky b7 x5) fun r6 =>
 (cond (r6.2.1 == 0)
 (some (.inr (.inr (((), [], ()), (([], 0, 0, 0, ()), ())))))
 (cond (r6.2.1 == 2)
 (cond (bl (ln t6 + ln ([r6.1.2.2.1] : List Int)) Sa)
 (some (.inl ((t1, (), (ap t6 ([r6.1.2.2.1] : List Int)), (), (wr .i64 (t8 + 1)), ()), (b4, r6.1, ()))))
 none)
 (some (.inl ((t1, (), t6, (), (wr .i64 (t8 + 1)), ()), (b4, r6.1, ()))))))))
 (some (.inr (.inl (((), t6, (), ()), (b4, b7, ()))))))
def Dt := Ua fun x : ((Uc × (Unit × (Uc × Zj))) × R2) => Yp x.1.1 x.1.2.1 x.1.2.2.1 x.1.2.2.2.1 x.1.2.2.2.2.1 x.2.1 x.2.2.1
def SC (a0 : Rb) (a1 : Uc) : Option (Rb × Tq) :=
 (cond (bl (ln ([] : List Int) + ln a0.1) Sa)
 (ob (Dt ((a1, (), [], (), 0, ()), (([], 0, 0, 0, ()), ((ap [] a0.1), a0.2), ()))) (se (fun y7 => (ob (Ek y7.2.2.1) fun r9 =>
 (cond (!r9.1)
 (some (([], 0, 0, 0, ()), [], ()))
 (some (y7.2.2.1, y7.1.2.1, ()))))) (fun z8 => (some (z8.2.1, z8.1.2.1, ())))))
 none)
def UC (a0 : Rb) : Option EX :=
 (ob (Ek a0) fun r1 =>
 (cond (!r1.1)
 (some (([], 0, 0, 0, ()), ()))
 (cond (bl (ln ([] : List Int) + ln a0.1) Sa)
 (cond ((min 20 (wr .i64 (a0.2.2.2.1 + 1))) == 20)
 (some (((ap [] a0.1), (-1), 0, (min 20 (wr .i64 (a0.2.2.2.1 + 1))), a0.2.2.2.2), ()))
 (some (((ap [] a0.1), a0.2.1, a0.2.2.1, (min 20 (wr .i64 (a0.2.2.2.1 + 1))), a0.2.2.2.2), ())))
 none)))
def Bs (a0 : Gd) (a1 : Int) (a2 : Int) (a3 : Uc) : Option (Gd × M2) :=
 (ob (Sz a0) fun r1 =>
 (ob (DK a0) fun r2 =>
 (cond (!r2.1)
 (some (Jk, [], false, ()))
 (cond (decide (0 ≤ r1.1))
 (ob (Sb a1 0 (wr .i64 ((Qa .i64 1 r1.1) - 1))) fun r3 =>
 (cond (!r3.1)
 (some (Jk, [], false, ()))
 (cond (decide (0 ≤ r1.1))
 (ob (Sb a2 0 (wr .i64 ((Qa .i64 1 r1.1) - 1))) fun r4 =>
 (cond (!r4.1)
 (some (Jk, [], false, ()))
 (ob (EK a0.2.2.1 a2 a3) fun r5 =>
 (ob (SC a0.2.1 r5.1) fun r6 =>
 (cond (((ln r6.2.1 : Nat) : Int) == 0)
 (ob (UC r6.1) fun r7 =>
 (cond (decide (0 ≤ r1.1))
 (cond (decide (0 ≤ r1.1))
 (ob (Dl a0.1 (Nc .i64 a1 (Qa .i64 (Va .i64 r7.1.2.2.1 (wr .i64 ((Qa .i64 1 r1.1) - 1))) r1.1))) fun r8 =>
 (cond (!r8.2.2.1)
 (some (Jk, [], false, ()))
 (cond ((256 : Int) == 0)
 none
 (some ((r8.1, r7.1, (Int.tmod (wr .i64 (a0.2.2.1 + 1)) 256), ()), r8.2.1, true, ())))))
 none)
 none))
 (cond (decide (0 ≤ r1.1))
 (cond (decide (0 ≤ r1.1))
 (ob (Dl a0.1 (Nc .i64 a1 (Qa .i64 (Va .i64 r6.1.2.2.1 (wr .i64 ((Qa .i64 1 r1.1) - 1))) r1.1))) fun r9 =>
 (cond (!r9.2.2.1)
 (some (Jk, [], false, ()))
 (cond ((256 : Int) == 0)
 none
 (some ((r9.1, r6.1, (Int.tmod (wr .i64 (a0.2.2.1 + 1)) 256), ()), r9.2.1, true, ())))))
 none)
 none))))))
 none)))
 none))))
def Ol (a0 : Gd) (a1 : Int) (a2 : Int) (a3 : Uc) : Option Wc :=
 (cond (decide (((ln a3 : Nat) : Int) > 1048576))
 (some (true, ()))
 (ob (SJ a0 1048576) fun r1 =>
 (cond (decide (r1.1 < 0))
 (some (true, ()))
 (ob (Vm a0) fun r2 =>
 (ob (Xl a3) fun r3 =>
 (ob (Bs r2.1 a1 a2 r3.1) fun r4 =>
 (ob (Vm a0) fun r5 =>
 (ob (Xl a3) fun r6 =>
 (ob (Dm r5.1 a1 a2 r6.1) fun r7 =>
 (ob (Um r7.1 r4.1) fun r8 =>
 (cond (!r8.1)
 (some (false, ()))
 (ob (Uv r7.2.1 r4.2.1) fun r9 =>
 (cond (!r9.1)
 (some (false, ()))
 (cond (r7.2.2.1 != r4.2.2.1)
 (some (false, ()))
 (ob (Vm a0) fun r10 =>
 (ob (Um r5.1 r10.1) fun r11 =>
 (cond (!r11.1)
 (some (false, ()))
 (ob (Xl a3) fun r12 =>
 (ob (CE r6.1 r12.1) fun r13 =>
 (cond (!r13.1)
 (some (false, ()))
 (ob (Sr r5.1 1) fun r14 =>
 (ob (EG r6.1 r14.2.1) fun r15 =>
 (cond (decide (r15.2.1 < 0))
 (some (false, ()))
 (ob (Um r7.1 r4.1) fun r16 =>
 (cond (!r16.1)
 (some (false, ()))
 (ob (Uv r7.2.1 r4.2.1) fun r17 =>
 (cond (!r17.1)
 (some (false, ()))
 (cond (r7.2.2.1 != r4.2.2.1)
 (some (false, ()))
 (ob (Sr r7.1 1) fun r18 =>
 (ob (CP r7.2.1 r18.2.1) fun r19 =>
 (ob (Lr ((r7.1.1.1, (r7.1.1.2.1.1, r7.1.1.2.1.2.1, r7.1.1.2.1.2.2.1, r7.1.1.2.1.2.2.2.1, r7.1.1.2.1.2.2.2.2.1, r18.1.1.2.1.2.2.2.2.2.1, ()), (r18.1.1.2.2.1.1, r7.1.1.2.2.1.2.1, r18.1.1.2.2.1.2.2.1, r7.1.1.2.2.1.2.2.2.1, r7.1.1.2.2.1.2.2.2.2.1, r7.1.1.2.2.1.2.2.2.2.2.1, r18.1.1.2.2.1.2.2.2.2.2.2.1, ()), (((r7.1.1.2.2.2.1.1.1.1, r18.1.1.2.2.2.1.1.1.2.1, ()), r18.1.1.2.2.2.1.1.2.1, r7.1.1.2.2.2.1.1.2.2.1, r18.1.1.2.2.2.1.1.2.2.2.1, r7.1.1.2.2.2.1.1.2.2.2.2), r7.1.1.2.2.2.1.2.1, r18.1.1.2.2.2.1.2.2.1, r7.1.1.2.2.2.1.2.2.2), r7.1.1.2.2.2.2), (r18.1.2.1.1, r7.1.2.1.2), r7.1.2.2) 1) fun r20 =>
 (cond (decide (r20.1 < 0))
 (some (false, ()))
 (ob (CG r19.1 r20.1) fun r21 =>
 (cond (decide (r21.1 < 0))
 (some (false, ()))
 (cond (r21.1 != r19.2.1)
 (some (false, ()))
 (ob (Vm a0) fun r22 =>
 (ob (Xl a3) fun r23 =>
 (ob (Dm r22.1 a1 a2 r23.1) fun r24 =>
 (ob (Um r24.1 r4.1) fun r25 =>
 (cond (!r25.1)
 (some (false, ()))
 (ob (Uv r24.2.1 r4.2.1) fun r26 =>
 (cond (!r26.1)
 (some (false, ()))
 (cond (r24.2.2.1 != r4.2.2.1)
 (some (false, ()))
 (ob (Lr ((r7.1.1.1, (r7.1.1.2.1.1, r7.1.1.2.1.2.1, r7.1.1.2.1.2.2.1, r7.1.1.2.1.2.2.2.1, r7.1.1.2.1.2.2.2.2.1, r18.1.1.2.1.2.2.2.2.2.1, ()), (r18.1.1.2.2.1.1, r7.1.1.2.2.1.2.1, r18.1.1.2.2.1.2.2.1, r7.1.1.2.2.1.2.2.2.1, r7.1.1.2.2.1.2.2.2.2.1, r7.1.1.2.2.1.2.2.2.2.2.1, r18.1.1.2.2.1.2.2.2.2.2.2.1, ()), (((r7.1.1.2.2.2.1.1.1.1, r18.1.1.2.2.2.1.1.1.2.1, ()), r18.1.1.2.2.2.1.1.2.1, r7.1.1.2.2.2.1.1.2.2.1, r18.1.1.2.2.2.1.1.2.2.2.1, r7.1.1.2.2.2.1.1.2.2.2.2), r7.1.1.2.2.2.1.2.1, r18.1.1.2.2.2.1.2.2.1, r7.1.1.2.2.2.1.2.2.2), r7.1.1.2.2.2.2), (r18.1.2.1.1, r7.1.2.1.2), r7.1.2.2) 1) fun r27 =>
 (cond (decide (r27.1 < 0))
 (some (false, ()))
 (ob (CG r19.1 r27.1) fun r28 =>
 (cond (decide (r28.1 < 0))
 (some (false, ()))
 (cond (r28.1 != r19.2.1)
 (some (false, ()))
 (some (true, ()))))))))))))))))))))))))))))))))))))))))))))))))))
end
end KF
