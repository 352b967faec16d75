/- An evaluator of Go functions on plain data, its soundness, and plain laws on what the functions compute, part 4 (conditions: as each lemma tells). -/
import Derived.Test.YtoncbegnhhcgmaaGreatC
set_option linter.unusedSimpArgs false
set_option linter.unusedVariables false
namespace KF
open Go
open List renaming length → ja, getElem?_eq_getElem → je, append → jf, mem_append → jl, mem_cons → jp, mem_cons_of_mem → jr, length_cons → jw, set → j6, length_nil → j8, length_set → j9, mem_singleton → qe, length_append → qf, getElem?_append_left → qh, getElem?_append_right → qi, getD_eq_getElem?_getD → qj, getElem_mem → qt, mem_of_mem_drop → qu, getElem_of_mem → qv, mem_map → qw, getElem?_set_self → qx, length_drop → qy, mem_cons_self → q0
open Option renaming bind_some → jb, bind → jz, map_some → qd, bind_eq_some_iff → qg
open Option.some renaming injEq → jc
open Bool renaming and_eq_true → jd, not_true → jg, true_and → jk, false_eq_true → jq, not_false → qa, not_eq_true → qb, false_and → qq, and_self → qr, eq_iff_iff → qz
open Prod.mk renaming injEq → jh
open Nat renaming ble_eq_true_of_le → ji, mul_le_mul_right → jm, le_refl → jo, zero_add → js, add_assoc → jt, eq_of_beq_eq_true → ju, ble → jx, le_trans → qc, shiftLeft_eq → qk, lt_of_lt_of_le → qm, pow_le_pow_right → qn, testBit_xor → qo, testBit_two_pow → qp, xor_lt_two_pow → qs
open Int renaming toNat_natCast → jn, eq_ofNat_of_zero_le → jv, toNat → jy
open Go.IntKind renaming wrap → j5
open Sum renaming elim → j7, elim_inl → ql
open Result renaming andThen_ok → q5
open Sem renaming run_bind → q6
abbrev int : Ty := .i .i64
abbrev Tf : Ty := .i .u8
abbrev Xb : Ty := (.p int (.p int .u))
abbrev Va : Type := (Int × (Int × Unit))
abbrev Hc : Ty := (.p int (.p (.sl int) .u))
abbrev Ka : Type := (Int × ((List Int) × Unit))
abbrev Ab : Ty := (.p int (.p int (.p .b .u)))
abbrev Ca : Type := (Int × (Int × (Bool × Unit)))
abbrev Mc : Ty := (.p int Xb)
abbrev Ad : Type := (Int × Va)
abbrev M1 : Type := ((List Int) × Va)
abbrev Ub : Ty := (.p int Mc)
abbrev Db : Type := (Int × Ad)
abbrev Wc : Ty := (.p (.sl Tf) Mc)
abbrev Sb : Type := ((List Int) × Ad)
abbrev Oi : Ty := (.p int (.p Hc .u))
abbrev Qe : Type := (Int × (Ka × Unit))
abbrev Jf : Ty := (.p int (.p Ub .u))
abbrev Sa : Type := (Int × (Db × Unit))
abbrev Nb : Ty := (.p int (.p int (.p int (.p int Hc))))
abbrev Qb : Type := (Int × (Int × (Int × (Int × Ka))))
abbrev Dc : Ty := (.p int (.p (.sl (.sl Ub)) .u))
abbrev Ac : Type := (Int × ((List (List Db)) × Unit))
abbrev Waz : Ty := (.p Ab (.p Ab .u))
abbrev Pb : Ty := (.p (.sl Xb) (.p int (.p (.sl Ab) (.p int (.p int (.p int (.p (.sl Ab) .u)))))))
abbrev Pa : Type := ((List Va) × (Int × ((List Ca) × (Int × (Int × (Int × ((List Ca) × Unit)))))))
abbrev Gc : Ty := (.p Dc (.p (.sl (.sl Mc)) (.p int (.p (.sl Jf) (.p int (.p .b .u))))))
abbrev Jb : Type := (Ac × ((List (List Ad)) × (Int × ((List Sa) × (Int × (Bool × Unit))))))
abbrev Ic : Ty := (.p Gc (.p Mc (.p (.sl Ab) Ub)))
abbrev Ib : Type := (Jb × (Ad × ((List Ca) × Db)))
abbrev Md : Ty := (.p Ab (.p Nb (.p Pb (.p Ic Xb))))
abbrev Fd : Type := (Ca × (Qb × (Pa × (Ib × Va))))
abbrev Bd : Ty := (.p Md (.p Wc (.p int .u)))
abbrev Zb : Type := (Fd × (Sb × (Int × Unit)))
abbrev Ce : Type := Ca
abbrev SP : Type := Ad
def Dai : List UInt8 := [0, 1, 1, 2, 1, 2, 2, 3, 1, 2, 2, 3, 2, 3, 3, 4, 1, 2, 2, 3, 2, 3, 3, 4, 2, 3, 3, 4, 3, 4, 4, 5, 1, 2, 2, 3, 2, 3, 3, 4, 2, 3, 3, 4, 3, 4, 4, 5, 2, 3, 3, 4, 3, 4, 4, 5, 3, 4, 4, 5, 4, 5, 5, 6, 1, 2, 2, 3, 2, 3, 3, 4, 2, 3, 3, 4, 3, 4, 4, 5, 2, 3, 3, 4, 3, 4, 4, 5, 3, 4, 4, 5, 4, 5, 5, 6, 2, 3, 3, 4, 3, 4, 4, 5, 3, 4, 4, 5, 4, 5, 5, 6, 3, 4, 4, 5, 4, 5, 5, 6, 4, 5, 5, 6, 5, 6, 6, 7, 1, 2, 2, 3, 2, 3, 3, 4, 2, 3, 3, 4, 3, 4, 4, 5, 2, 3, 3, 4, 3, 4, 4, 5, 3, 4, 4, 5, 4, 5, 5, 6, 2, 3, 3, 4, 3, 4, 4, 5, 3, 4, 4, 5, 4, 5, 5, 6, 3, 4, 4, 5, 4, 5, 5, 6, 4, 5, 5, 6, 5, 6, 6, 7, 2, 3, 3, 4, 3, 4, 4, 5, 3, 4, 4, 5, 4, 5, 5, 6, 3, 4, 4, 5, 4, 5, 5, 6, 4, 5, 5, 6, 5, 6, 6, 7, 3, 4, 4, 5, 4, 5, 5, 6, 4, 5, 5, 6, 5, 6, 6, 7, 4, 5, 5, 6, 5, 6, 6, 7, 5, 6, 6, 7, 6, 7, 7, 8]
noncomputable section
open Option renaming bind → ob
open Go.IntKind renaming wrap → wr
open Int renaming toNat → tn
open List renaming length → ln, append → ap, set → ls
open Sum renaming elim → se
open Nat renaming ble → bl
abbrev Cc : Type := Int × Unit
abbrev Xc : Type := Bool × Unit
abbrev Lc : Type := List Int
abbrev Fe : Type := Unit × Unit
abbrev Be : Type := List Ca
abbrev Ke : Type := List Va
abbrev Zl : Type := List Db
abbrev He : Type := List Sa
abbrev Th : Type := List Ad
abbrev Bh : Type := List Qe
abbrev Bl : Type := List Ka
abbrev Zt : Type := Ac × Unit
abbrev Rh : Type := Ca × Unit
abbrev GG : Type := Pa × Unit
abbrev Fm : Type := Jb × Unit
abbrev D4 : Type := Cc × Unit
abbrev Dk : Type := Unit × Cc
abbrev Yh : Type := List Lc
abbrev Ij : Type := List Zl
abbrev UQ : Type := Lc × Va
abbrev Er : Type := Ke × Va
abbrev Zh : Type := List Th
abbrev Gr : Type := Lc × Unit
abbrev Kx : Type := Unit × Va
abbrev Dax : Type := Be × Va
abbrev VQ : Type := (Lc × (Lc × Cc)) × Unit
abbrev WJ : Type := Fd × Unit
abbrev E4 : Type := He × Va
abbrev OY : Type := Sb × Unit
abbrev CT : Type := Qb × Unit
abbrev HG : Type := Be × Unit
abbrev WQ : Type := Ka × Unit
abbrev CE : Type := Ka × WQ
abbrev Eax : Type := (He × (Unit × (Unit × (Lc × (Int × (Bool × Cc)))))) × CE
abbrev Gm : Type := Xc × Unit
abbrev Hk : Type := Fe ⊕ Gm
abbrev Lx : Type := D4 ⊕ Fe
abbrev PY : Type := (He × (Unit × Dk)) × CE
abbrev Mx : Type := D4 ⊕ D4
abbrev WM : Type := Ij × Va
abbrev G4 : Type := Unit × (Bh × Unit)
abbrev DT : Type := Ib × Unit
abbrev ET : Type := Unit × Ad
abbrev Lah : Type := (Int × (Int × Dk)) × Zt
abbrev XaM : Type := Int × (Int × (Zl × Va))
abbrev Nx : Type := Int × Xc
abbrev XQ : Type := Bh × Xc
abbrev QY : Type := Bl × Unit
abbrev JV : Type := (Int × E4) × Unit
abbrev XM : Type := Va × Unit
abbrev IG : Type := Ad × Unit
abbrev XB : Type := Int × Dax
abbrev YM : Type := Db × Unit
abbrev W9 : Type := Zb × (Zb × Unit)
abbrev H4 : Type := Yh × Va
abbrev X9 : Type := Bh × Va
abbrev YQ : Type := Zh × Va
abbrev Fax : Type := Jb × Fm
abbrev I4 : Type := (Unit × HG) × GG
abbrev J4 : Type := Unit × (Unit × Dk)
abbrev ZM : Type := Be × Cc
abbrev IV : Type := (Be × ZM) × Unit
abbrev Mah : Type := Qb × (Qb × CT)
abbrev Gax : Type := Bl × Xc
abbrev ZQ : Type := Er × Unit
abbrev Nah : Type := (Yh × (Yh × Cc)) × Unit
abbrev Oah : Type := (Ij × (Ij × Cc)) × Unit
abbrev Pah : Type := (Zh × (Zh × Cc)) × Unit
abbrev RY : Type := Fe ⊕ D4
abbrev Hax : Type := (Unit × (Unit × HG)) × (Pa × GG)
abbrev YaM : Type := ((Lc × Cc) × Unit) ⊕ Fe
abbrev Qah : Type := (Ke × (Ke × Cc)) × Unit
abbrev Rah : Type := (Zl × (Zl × Cc)) × Unit
abbrev Sah : Type := (He × (He × Cc)) × Unit
abbrev Tah : Type := (Th × (Th × Cc)) × Unit
abbrev Y9 : Type := (Gr × Unit) ⊕ Fe
abbrev Iax : Type := (QY × Unit) ⊕ Fe
abbrev SY : Type := Unit × UQ
abbrev ZaM : Type := (Ke × (Int × (Int × (Unit × (Int × (Int × (Int × (Bool × Dax)))))))) × Rh
abbrev Jax : Type := ((Unit × (Unit × Gr)) × CE) ⊕ Fe
abbrev KV : Type := Kx × GG
abbrev LV : Type := Th × Va
abbrev K4 : Type := Sb × OY
abbrev MV : Type := Dax × Unit
abbrev NV : Type := E4 × Unit
abbrev AaN : Type := (Unit × (Unit × (Int × (Unit × ZM)))) × (Fd × (Fd × CT))
abbrev BaN : Type := Eax ⊕ (((He × (Unit × (Unit × (Lc × Nx)))) × CE) ⊕ Fe)
abbrev Kax : Type := (Unit × G4) × (Ib × DT)
abbrev TY : Type := M1 × Unit
abbrev L4 : Type := Ac × Zt
abbrev OV : Type := Unit × Fe
abbrev Lax : Type := (Unit × (Lc × Db)) × Rh
abbrev Uah : Type := (Zl × Va) × Unit
abbrev CaN : Type := Unit × (Bh × Dk)
abbrev Vah : Type := Unit × Db
abbrev Qa9 : Type := ((Yh × Unit) × Unit) ⊕ Fe
abbrev KaA : Type := (Lc × (Lc × (Yh × (Unit × (Unit × X9))))) × W9
abbrev T9 : Type := (Lc × UQ) × Unit
abbrev LaA : Type := (Unit × (Bh × (Int × ((Bl × Int) × Cc)))) × DT
abbrev MaA : Type := (Unit × (Lc × (Int × (Int × (Int × Db))))) × Rh
abbrev NaA : Type := (Ke × (Unit × (Ke × (Int × (Int × Er))))) × XM
abbrev U9 : Type := (Ke × Cc) × Unit
abbrev V9 : Type := Lc × M1
abbrev OaA : Type := Unit × (Lc × Cc)
abbrev Mf : Zb := (((0, 0, false, ()), (0, 0, 0, 0, 0, [], ()), ([], 0, [], 0, 0, 0, [], ()), (((0, [], ()), [], 0, [], 0, false, ()), (0, 0, 0, ()), [], 0, 0, 0, 0, ()), 0, 0, ()), ([], 0, 0, 0, ()), 0, ())
abbrev Hl : Fd := ((0, 0, false, ()), (0, 0, 0, 0, 0, [], ()), ([], 0, [], 0, 0, 0, [], ()), (((0, [], ()), [], 0, [], 0, false, ()), (0, 0, 0, ()), [], 0, 0, 0, 0, ()), 0, 0, ())
abbrev Nh : Ib := (((0, [], ()), [], 0, [], 0, false, ()), (0, 0, 0, ()), [], 0, 0, 0, 0, ())
abbrev ZL : Jb := ((0, [], ()), [], 0, [], 0, false, ())
abbrev Tg : Pa := ([], 0, [], 0, 0, 0, [], ())
def Sy (t0 : Lc) (t3 : Lc) (t4 : Int) : Option (VQ ⊕ Y9) :=
 (cond (decide (t4 < ((ln t0 : Nat) : Int)))
 (ob (Xa t0 t4) fun x5 =>
 (cond (Af (ln t3) t4)
 (ob t3[(tn t4)]? fun x6 =>
 (some (.inl ((t0, (ls t3 (tn t4) x5), (wr .i64 (t4 + 1)), ()), ()))))
 none))
 (some (.inr (.inl ((t3, ()), ())))))
def PB := Ta fun x : VQ => Sy x.1.1 x.1.2.1 x.1.2.2.1
def Kw (a0 : Lc) : Option Gr :=
 (cond ((((ln a0 : Nat) : Int) == ((ln a0 : Nat) : Int)) && (decide (0 ≤ ((ln a0 : Nat) : Int)) && decide (((ln a0 : Nat) : Int) ≤ ((Qa : Nat) : Int))))
 (ob (PB ((a0, (List.replicate (tn ((ln a0 : Nat) : Int)) 0), 0, ()), ())) (se (fun y7 => (some (y7.1.1, ()))) (fun z8 => none)))
 none)
def Ny (t0 : Lc) (t1 : Lc) (t5 : Int) : Option (VQ ⊕ Hk) :=
 (cond (decide (t5 < ((ln t0 : Nat) : Int)))
 (ob (Xa t0 t5) fun x5 =>
 (ob (Xa t1 t5) fun x6 =>
 (cond (x5 != x6)
 (some (.inr (.inr ((false, ()), ()))))
 (some (.inl ((t0, t1, (wr .i64 (t5 + 1)), ()), ()))))))
 (some (.inr (.inl ((), ())))))
def OB := Ta fun x : VQ => Ny x.1.1 x.1.2.1 x.1.2.2.1
def Gw (a0 : Lc) (a1 : Lc) : Option Xc :=
 (cond (((ln a0 : Nat) : Int) != ((ln a1 : Nat) : Int))
 (some (false, ()))
 (ob (OB ((a0, a1, 0, ()), ())) (se (fun y7 => (some (true, ()))) (fun z8 => (some (z8.1.1, ()))))))
def Cs (t0 : Lc) (t1 : Int) (t5 : Int) : Option (TY ⊕ YaM) :=
 (cond (decide (t5 < ((ln t0 : Nat) : Int)))
 (cond (Af (ln t0) t5)
 (ob t0[(tn t5)]? fun x3 =>
 (some (.inl (((ls t0 (tn t5) (wr .u8 t1)), (wr .i64 (t1 + 1)), (wr .i64 (t5 + 1)), ()), ()))))
 none)
 (some (.inr (.inl ((t0, t1, ()), ())))))
def KM := Ta fun x : TY => Cs x.1.1 x.1.2.1 x.1.2.2.1
def AH (a0 : Lc) (a1 : Int) : Option (Lc × Cc) :=
 (ob (KM ((a0, a1, 0, ()), ())) (se (fun y4 => (some (y4.1.1, (y4.1.2.1, ())))) (fun z5 => none)))
def Wr (t0 : Lc) (t1 : Int) (t5 : Int) : Option (TY ⊕ Mx) :=
 (cond (decide (t5 < ((ln t0 : Nat) : Int)))
 (ob (Xa t0 t5) fun x3 =>
 (cond (x3 != (wr .u8 t1))
 (some (.inr (.inr (((-1), ()), ()))))
 (some (.inl ((t0, (wr .i64 (t1 + 1)), (wr .i64 (t5 + 1)), ()), ())))))
 (some (.inr (.inl ((t1, ()), ())))))
def FM := Ta fun x : TY => Wr x.1.1 x.1.2.1 x.1.2.2.1
def XG (a0 : Lc) (a1 : Int) : Option Cc :=
 (ob (FM ((a0, a1, 0, ()), ())) (se (fun y4 => (some (y4.1.1, ()))) (fun z5 => (some (z5.1.1, ())))))
def Tb (a0 : Int) (a1 : Int) (a2 : Int) : Option Xc :=
 (cond (decide (a0 ≥ a1))
 (some ((decide (a0 ≤ a2)), ()))
 (some (false, ())))
def O5 (t0 : Yh) (t1 : Yh) (t5 : Int) : Option (Nah ⊕ Hk) :=
 (cond (decide (t5 < ((ln t0 : Nat) : Int)))
 (ob (Xa t0 t5) fun x7 =>
 (ob (Xa t1 t5) fun x8 =>
 (ob (Gw x7 x8) fun r9 =>
 (cond (!r9.1)
 (some (.inr (.inr ((false, ()), ()))))
 (some (.inl ((t0, t1, (wr .i64 (t5 + 1)), ()), ())))))))
 (some (.inr (.inl ((), ())))))
def RN := Ta fun x : Nah => O5 x.1.1 x.1.2.1 x.1.2.2.1
def EK (a0 : Yh) (a1 : Yh) : Option Xc :=
 (cond (((ln a0 : Nat) : Int) != ((ln a1 : Nat) : Int))
 (some (false, ()))
 (ob (RN ((a0, a1, 0, ()), ())) (se (fun y10 => (some (true, ()))) (fun z11 => (some (z11.1.1, ()))))))
def Aq (t0 : Yh) (t1 : Int) (t5 : Int) : Option ((H4 × Unit) ⊕ (((Yh × Cc) × Unit) ⊕ Fe)) :=
 (cond (decide (t5 < ((ln t0 : Nat) : Int)))
 (cond (Af (ln t0) t5)
 (ob t0[(tn t5)]? fun x5 =>
 (ob (AH x5 t1) fun r6 =>
 (some (.inl (((ls t0 (tn t5) r6.1), r6.2.1, (wr .i64 (t5 + 1)), ()), ())))))
 none)
 (some (.inr (.inl ((t0, t1, ()), ())))))
def HJ := Ta fun x : (H4 × Unit) => Aq x.1.1 x.1.2.1 x.1.2.2.1
def ZN (a0 : Yh) (a1 : Int) : Option (Yh × Cc) :=
 (ob (HJ ((a0, a1, 0, ()), ())) (se (fun y7 => (some (y7.1.1, (y7.1.2.1, ())))) (fun z8 => none)))
def Wp (t0 : Yh) (t1 : Int) (t5 : Int) : Option ((H4 × Unit) ⊕ Mx) :=
 (cond (decide (t5 < ((ln t0 : Nat) : Int)))
 (ob (Xa t0 t5) fun x5 =>
 (ob (XG x5 t1) fun r6 =>
 (cond (decide (r6.1 < 0))
 (some (.inr (.inr (((-1), ()), ()))))
 (some (.inl ((t0, r6.1, (wr .i64 (t5 + 1)), ()), ()))))))
 (some (.inr (.inl ((t1, ()), ())))))
def BX := Ta fun x : (H4 × Unit) => Wp x.1.1 x.1.2.1 x.1.2.2.1
def Fab (a0 : Yh) (a1 : Int) : Option Cc :=
 (ob (BX ((a0, a1, 0, ()), ())) (se (fun y7 => (some (y7.1.1, ()))) (fun z8 => (some (z8.1.1, ())))))
def HR (a0 : Lc) (a1 : Int) : Option Cc :=
 (cond (decide ((wr .i64 (a1 - ((ln a0 : Nat) : Int))) < 0))
 (some ((-1), ()))
 (some ((wr .i64 (a1 - ((ln a0 : Nat) : Int))), ())))
def DD (t0 : Lc) (t3 : Lc) (t4 : Int) : Option (VQ ⊕ Y9) :=
 (cond (decide (t4 < ((ln t0 : Nat) : Int)))
 (ob (Xa t0 t4) fun x5 =>
 (cond (Af (ln t3) t4)
 (ob t3[(tn t4)]? fun x6 =>
 (some (.inl ((t0, (ls t3 (tn t4) x5), (wr .i64 (t4 + 1)), ()), ()))))
 none))
 (some (.inr (.inl ((t3, ()), ())))))
def JF := Ta fun x : VQ => DD x.1.1 x.1.2.1 x.1.2.2.1
def Fi (a0 : Lc) : Option Gr :=
 (cond ((((ln a0 : Nat) : Int) == ((ln a0 : Nat) : Int)) && (decide (0 ≤ ((ln a0 : Nat) : Int)) && decide (((ln a0 : Nat) : Int) ≤ ((Qa : Nat) : Int))))
 (ob (JF ((a0, (List.replicate (tn ((ln a0 : Nat) : Int)) 0), 0, ()), ())) (se (fun y7 => (some (y7.1.1, ()))) (fun z8 => none)))
 none)
def OR (a0 : Ka) : Option WQ :=
 (cond (bl (ln ([] : List Int) + ln a0.2.1) Qa)
 (some ((a0.1, (ap [] a0.2.1), ()), ()))
 none)
def Wq (a0 : Lc) : Option Gr :=
 (cond (bl (ln ([] : List Int) + ln a0) Qa)
 (some ((ap [] a0), ()))
 none)
def RC (t0 : Lc) (t1 : Lc) (t5 : Int) : Option (VQ ⊕ Hk) :=
 (cond (decide (t5 < ((ln t0 : Nat) : Int)))
 (ob (Xa t0 t5) fun x5 =>
 (ob (Xa t1 t5) fun x6 =>
 (cond (x5 != x6)
 (some (.inr (.inr ((false, ()), ()))))
 (some (.inl ((t0, t1, (wr .i64 (t5 + 1)), ()), ()))))))
 (some (.inr (.inl ((), ())))))
def CF := Ta fun x : VQ => RC x.1.1 x.1.2.1 x.1.2.2.1
def Ot (a0 : Lc) (a1 : Lc) : Option Xc :=
 (cond (((ln a0 : Nat) : Int) != ((ln a1 : Nat) : Int))
 (some (false, ()))
 (ob (CF ((a0, a1, 0, ()), ())) (se (fun y7 => (some (true, ()))) (fun z8 => (some (z8.1.1, ()))))))
def JK (a0 : Ka) (a1 : Ka) : Option Xc :=
 (cond (a0.1 != a1.1)
 (some (false, ()))
 (ob (Ot a0.2.1 a1.2.1) fun r1 =>
 (cond (!r1.1)
 (some (false, ()))
 (some (true, ())))))
def CJ (a0 : Qe) (a1 : Qe) : Option Xc :=
 (cond (a0.1 != a1.1)
 (some (false, ()))
 (ob (JK a0.2.1 a1.2.1) fun r1 =>
 (cond (!r1.1)
 (some (false, ()))
 (some (true, ())))))
def N8 (t0 : Bh) (t1 : Bh) (t5 : Int) : Option (((Bh × (Bh × Cc)) × Unit) ⊕ Hk) :=
 (cond (decide (t5 < ((ln t0 : Nat) : Int)))
 (ob (Xa t0 t5) fun x7 =>
 (ob (Xa t1 t5) fun x8 =>
 (ob (CJ x7 x8) fun r9 =>
 (cond (!r9.1)
 (some (.inr (.inr ((false, ()), ()))))
 (some (.inl ((t0, t1, (wr .i64 (t5 + 1)), ()), ())))))))
 (some (.inr (.inl ((), ())))))
def JP := Ta fun x : ((Bh × (Bh × Cc)) × Unit) => N8 x.1.1 x.1.2.1 x.1.2.2.1
def Hw (a0 : Bh) (a1 : Bh) : Option Xc :=
 (cond (((ln a0 : Nat) : Int) != ((ln a1 : Nat) : Int))
 (some (false, ()))
 (ob (JP ((a0, a1, 0, ()), ())) (se (fun y10 => (some (true, ()))) (fun z11 => (some (z11.1.1, ()))))))
def Su (t0 : Lc) (t1 : Int) (t5 : Int) : Option ((UQ × Unit) ⊕ YaM) :=
 (cond (decide (t5 < ((ln t0 : Nat) : Int)))
 (cond (Af (ln t0) t5)
 (ob t0[(tn t5)]? fun x3 =>
 (some (.inl (((ls t0 (tn t5) t1), (wr .i64 (t1 + 1)), (wr .i64 (t5 + 1)), ()), ()))))
 none)
 (some (.inr (.inl ((t0, t1, ()), ())))))
def BO := Ta fun x : (UQ × Unit) => Su x.1.1 x.1.2.1 x.1.2.2.1
def Yq (a0 : Lc) (a1 : Int) : Option (Lc × Cc) :=
 (ob (BO ((a0, a1, 0, ()), ())) (se (fun y4 => (some (y4.1.1, (y4.1.2.1, ())))) (fun z5 => none)))
def Is (t0 : Bh) (t1 : Int) (t5 : Int) : Option ((X9 × Unit) ⊕ (((Bh × Cc) × Unit) ⊕ Fe)) :=
 (cond (decide (t5 < ((ln t0 : Nat) : Int)))
 (cond (Af (ln t0) t5)
 (ob t0[(tn t5)]? fun x9 =>
 (cond (Af (ln (ls t0 (tn t5) (t1, x9.2))) t5)
 (ob (ls t0 (tn t5) (t1, x9.2))[(tn t5)]? fun x10 =>
 (cond (Af (ln (ls (ls t0 (tn t5) (t1, x9.2)) (tn t5) (x10.1, ((wr .i64 (t1 + 1)), x10.2.1.2), x10.2.2))) t5)
 (ob (ls (ls t0 (tn t5) (t1, x9.2)) (tn t5) (x10.1, ((wr .i64 (t1 + 1)), x10.2.1.2), x10.2.2))[(tn t5)]? fun x11 =>
 (ob (Yq x11.2.1.2.1 (wr .i64 ((wr .i64 (t1 + 1)) + 1))) fun r12 =>
 (some (.inl (((ls (ls (ls t0 (tn t5) (t1, x9.2)) (tn t5) (x10.1, ((wr .i64 (t1 + 1)), x10.2.1.2), x10.2.2)) (tn t5) (x11.1, (x11.2.1.1, r12.1, x11.2.1.2.2), x11.2.2)), r12.2.1, (wr .i64 (t5 + 1)), ()), ())))))
 none))
 none))
 none)
 (some (.inr (.inl ((t0, t1, ()), ())))))
def MM := Ta fun x : (X9 × Unit) => Is x.1.1 x.1.2.1 x.1.2.2.1
def KQ (a0 : Bh) (a1 : Int) : Option (Bh × Cc) :=
 (ob (MM ((a0, a1, 0, ()), ())) (se (fun y13 => (some (y13.1.1, (y13.1.2.1, ())))) (fun z14 => none)))
def Pu (t0 : Lc) (t1 : Int) (t5 : Int) : Option ((UQ × Unit) ⊕ Mx) :=
 (cond (decide (t5 < ((ln t0 : Nat) : Int)))
 (ob (Xa t0 t5) fun x3 =>
 (cond (x3 != t1)
 (some (.inr (.inr (((-1), ()), ()))))
 (some (.inl ((t0, (wr .i64 (t1 + 1)), (wr .i64 (t5 + 1)), ()), ())))))
 (some (.inr (.inl ((t1, ()), ())))))
def XN := Ta fun x : (UQ × Unit) => Pu x.1.1 x.1.2.1 x.1.2.2.1
def MK (a0 : Lc) (a1 : Int) : Option Cc :=
 (ob (XN ((a0, a1, 0, ()), ())) (se (fun y4 => (some (y4.1.1, ()))) (fun z5 => (some (z5.1.1, ())))))
def Iw (a0 : Zl) (a1 : Int) : Option Cc :=
 (cond (decide ((wr .i64 (a1 - ((ln a0 : Nat) : Int))) < 0))
 (some ((-1), ()))
 (some ((wr .i64 (a1 - ((ln a0 : Nat) : Int))), ())))
def J1 (t0 : Ij) (t1 : Int) (t5 : Int) : Option ((WM × Unit) ⊕ Mx) :=
 (cond (decide (t5 < ((ln t0 : Nat) : Int)))
 (ob (Xa t0 t5) fun x5 =>
 (ob (Iw x5 t1) fun r6 =>
 (cond (decide (r6.1 < 0))
 (some (.inr (.inr (((-1), ()), ()))))
 (some (.inl ((t0, r6.1, (wr .i64 (t5 + 1)), ()), ()))))))
 (some (.inr (.inl ((t1, ()), ())))))
def LJ := Ta fun x : (WM × Unit) => J1 x.1.1 x.1.2.1 x.1.2.2.1
def ZC (a0 : Ij) (a1 : Int) : Option Cc :=
 (cond (decide ((wr .i64 (a1 - ((ln a0 : Nat) : Int))) < 0))
 (some ((-1), ()))
 (ob (LJ ((a0, (wr .i64 (a1 - ((ln a0 : Nat) : Int))), 0, ()), ())) (se (fun y7 => (some (y7.1.1, ()))) (fun z8 => (some (z8.1.1, ()))))))
def RK (a0 : Ac) (a1 : Int) : Option Cc :=
 (ob (ZC a0.2.1 a1) fun r1 =>
 (cond (decide (r1.1 < 0))
 (some ((-1), ()))
 (some (r1.1, ()))))
def Zq (a0 : Db) : Option YM :=
 (some (a0, ()))
def W2 (t0 : Zl) (t3 : Zl) (t4 : Int) : Option (Rah ⊕ (((Zl × Unit) × Unit) ⊕ Fe)) :=
 (cond (decide (t4 < ((ln t0 : Nat) : Int)))
 (ob (Xa t0 t4) fun x7 =>
 (ob (Zq x7) fun r8 =>
 (cond (Af (ln t3) t4)
 (ob t3[(tn t4)]? fun x9 =>
 (some (.inl ((t0, (ls t3 (tn t4) r8.1), (wr .i64 (t4 + 1)), ()), ()))))
 none)))
 (some (.inr (.inl ((t3, ()), ())))))
def OM := Ta fun x : Rah => W2 x.1.1 x.1.2.1 x.1.2.2.1
def EH (a0 : Zl) : Option (Zl × Unit) :=
 (cond ((((ln a0 : Nat) : Int) == ((ln a0 : Nat) : Int)) && (decide (0 ≤ ((ln a0 : Nat) : Int)) && decide (((ln a0 : Nat) : Int) ≤ ((Qa : Nat) : Int))))
 (ob (OM ((a0, (List.replicate (tn ((ln a0 : Nat) : Int)) (0, 0, 0, 0, ())), 0, ()), ())) (se (fun y10 => (some (y10.1.1, ()))) (fun z11 => none)))
 none)
def K1 (t0 : Ij) (t3 : Ij) (t4 : Int) : Option (Oah ⊕ (((Ij × Unit) × Unit) ⊕ Fe)) :=
 (cond (decide (t4 < ((ln t0 : Nat) : Int)))
 (ob (Xa t0 t4) fun x7 =>
 (ob (EH x7) fun r8 =>
 (cond (Af (ln t3) t4)
 (ob t3[(tn t4)]? fun x9 =>
 (some (.inl ((t0, (ls t3 (tn t4) r8.1), (wr .i64 (t4 + 1)), ()), ()))))
 none)))
 (some (.inr (.inl ((t3, ()), ())))))
def MJ := Ta fun x : Oah => K1 x.1.1 x.1.2.1 x.1.2.2.1
def JO (a0 : Ij) : Option (Ij × Unit) :=
 (cond ((((ln a0 : Nat) : Int) == ((ln a0 : Nat) : Int)) && (decide (0 ≤ ((ln a0 : Nat) : Int)) && decide (((ln a0 : Nat) : Int) ≤ ((Qa : Nat) : Int))))
 (ob (MJ ((a0, (List.replicate (tn ((ln a0 : Nat) : Int)) []), 0, ()), ())) (se (fun y10 => (some (y10.1.1, ()))) (fun z11 => none)))
 none)
def VK (a0 : Ac) : Option Zt :=
 (ob (JO a0.2.1) fun r1 =>
 (some ((a0.1, r1.1, ()), ())))
def Xk (a0 : Db) : Option Xc :=
 (ob (Tb a0.2.1 1 56) fun r1 =>
 (ob (Tb a0.2.2.1 1 15) fun r2 =>
 (ob (Tb a0.2.2.2.1 1 3) fun r3 =>
 (cond (a0.1 == 0)
 (cond (a0.2.1 == 0)
 (cond (a0.2.2.1 == 0)
 (some ((a0.2.2.2.1 == 0), ()))
 (some (false, ())))
 (some (false, ())))
 (cond (a0.1 == 1)
 (cond (a0.2.1 == 0)
 (cond (a0.2.2.1 == 0)
 (some ((a0.2.2.2.1 == 0), ()))
 (some (false, ())))
 (some (false, ())))
 (cond (a0.1 == 10)
 (cond (a0.2.1 == 0)
 (cond (a0.2.2.1 == 0)
 (some ((a0.2.2.2.1 == 0), ()))
 (some (false, ())))
 (some (false, ())))
 (cond (a0.1 == 2)
 (cond (a0.2.2.2.1 == 0)
 (cond r1.1
 (cond r2.1
 (some (true, ()))
 (some ((a0.2.2.1 == 0), ())))
 (cond (a0.2.1 == 0)
 (cond r2.1
 (cond r2.1
 (some (true, ()))
 (some ((a0.2.2.1 == 0), ())))
 (some (false, ())))
 (some (false, ()))))
 (some (false, ())))
 (cond (a0.1 == 3)
 (cond r3.1
 (cond (a0.2.1 == 0)
 (some ((a0.2.2.1 == 0), ()))
 (some (false, ())))
 (some (false, ())))
 (cond (a0.1 == 4)
 (cond r3.1
 (cond (a0.2.1 == 0)
 (some ((a0.2.2.1 == 0), ()))
 (some (false, ())))
 (some (false, ())))
 (cond (a0.1 == 5)
 (ob (Tb a0.2.2.2.1 0 3) fun r4 =>
 (cond r4.1
 (cond (a0.2.1 == 0)
 (some ((a0.2.2.1 == 0), ()))
 (some (false, ())))
 (some (false, ()))))
 (cond (a0.1 == 9)
 (ob (Tb a0.2.2.2.1 0 3) fun r5 =>
 (cond r5.1
 (cond (a0.2.1 == 0)
 (some ((a0.2.2.1 == 0), ()))
 (some (false, ())))
 (some (false, ()))))
 (cond (a0.1 == 6)
 (cond r1.1
 (cond r2.1
 (some ((a0.2.2.2.1 == 0), ()))
 (some (false, ())))
 (some (false, ())))
 (cond (a0.1 == 7)
 (cond r1.1
 (cond r3.1
 (some ((a0.2.2.1 == 0), ()))
 (some (false, ())))
 (some (false, ())))
 (cond (a0.1 == 8)
 (cond r2.1
 (cond (a0.2.1 == 0)
 (some ((a0.2.2.2.1 == 0), ()))
 (some (false, ())))
 (some (false, ())))
 (some (false, ()))))))))))))))))
def NI (t1 : Unit) (t3 : Int) (t4 : Int) (b1 : Ac) : Option ((Kx × Zt) ⊕ ((Dk × Zt) ⊕ Gm)) :=
 (ob (Xa b1.2.1 t3) fun x40 =>
 (cond (decide (t4 < ((ln x40 : Nat) : Int)))
 (ob (Xa b1.2.1 t3) fun x41 =>
 (ob (Xa x41 t4) fun x42 =>
 (ob (Xk x42) fun r43 =>
 (cond (!r43.1)
 (some (.inr (.inr ((false, ()), ()))))
 (cond (x42.1 == 1)
 (cond (t3 == 0)
 (some (.inr (.inr ((false, ()), ()))))
 (cond (x42.1 != 9)
 (cond (decide (x42.2.2.2.1 ≥ ((ln b1.2.1 : Nat) : Int)))
 (some (.inr (.inr ((false, ()), ()))))
 (some (.inl (((), t3, (wr .i64 (t4 + 1)), ()), (b1, ())))))
 (some (.inl (((), t3, (wr .i64 (t4 + 1)), ()), (b1, ()))))))
 (cond (x42.1 != 9)
 (cond (decide (x42.2.2.2.1 ≥ ((ln b1.2.1 : Nat) : Int)))
 (some (.inr (.inr ((false, ()), ()))))
 (some (.inl (((), t3, (wr .i64 (t4 + 1)), ()), (b1, ())))))
 (some (.inl (((), t3, (wr .i64 (t4 + 1)), ()), (b1, ()))))))))))
 (some (.inr (.inl (((), t3, ()), (b1, ())))))))
def Io := Ta fun x : (Kx × Zt) => NI x.1.1 x.1.2.1 x.1.2.2.1 x.2.1
def MI (t1 : Unit) (t3 : Int) (b1 : Ac) : Option ((Dk × Zt) ⊕ ((Fe × Zt) ⊕ Gm)) :=
 (cond (decide (t3 < ((ln b1.2.1 : Nat) : Int)))
 (ob (Xa b1.2.1 t3) fun x31 =>
 (cond (((ln x31 : Nat) : Int) != b1.1)
 (some (.inr (.inr ((false, ()), ()))))
 (ob (Io (((), t3, 0, ()), (b1, ()))) (se (fun y44 => (some (.inl (((), (wr .i64 (y44.1.2.1 + 1)), ()), (y44.2.1, ()))))) (fun z45 => (some (.inr (.inr ((z45.1.1, ()), ())))))))))
 (some (.inr (.inl (((), ()), (b1, ()))))))
def Ho := Ta fun x : (Dk × Zt) => MI x.1.1 x.1.2.1 x.2.1
def RA (a0 : Ac) : Option Xc :=
 (ob (Ho (((), 0, ()), (a0, ()))) (se (fun y46 => (ob (Tb y46.2.1.1 1 32) fun r48 =>
 (cond r48.1
 (ob (Tb ((ln y46.2.1.2.1 : Nat) : Int) 1 4) fun r49 =>
 (some (r49.1, ())))
 (some (false, ()))))) (fun z47 => (some (z47.1.1, ())))))
def AB (a0 : Int) : Option Xc :=
 (cond (decide (a0 ≥ 1))
 (some ((decide (a0 ≤ 56)), ()))
 (some (false, ())))
def Lt (a0 : Int) : Option Xc :=
 (cond (decide (a0 ≥ 1))
 (some ((decide (a0 ≤ 15)), ()))
 (some (false, ())))
def Zv (a0 : Int) : Option Xc :=
 (cond (decide (a0 ≥ 1))
 (some ((decide (a0 ≤ 3)), ()))
 (some (false, ())))
def Vk (a0 : Db) : Option Xc :=
 (cond (a0.1 == 0)
 (cond (a0.2.1 == 0)
 (cond (a0.2.2.1 == 0)
 (some ((a0.2.2.2.1 == 0), ()))
 (some (false, ())))
 (some (false, ())))
 (cond (a0.1 == 1)
 (cond (a0.2.1 == 0)
 (cond (a0.2.2.1 == 0)
 (some ((a0.2.2.2.1 == 0), ()))
 (some (false, ())))
 (some (false, ())))
 (cond (a0.1 == 10)
 (cond (a0.2.1 == 0)
 (cond (a0.2.2.1 == 0)
 (some ((a0.2.2.2.1 == 0), ()))
 (some (false, ())))
 (some (false, ())))
 (cond (a0.1 == 2)
 (cond (a0.2.2.2.1 == 0)
 (cond (a0.2.1 == 0)
 (cond (a0.2.2.1 == 0)
 (cond (a0.2.1 != 0)
 (some (true, ()))
 (some ((a0.2.2.1 != 0), ())))
 (ob (Lt a0.2.2.1) fun r1 =>
 (cond r1.1
 (cond (a0.2.1 != 0)
 (some (true, ()))
 (some ((a0.2.2.1 != 0), ())))
 (some (false, ())))))
 (ob (AB a0.2.1) fun r2 =>
 (cond r2.1
 (cond (a0.2.2.1 == 0)
 (cond (a0.2.1 != 0)
 (some (true, ()))
 (some ((a0.2.2.1 != 0), ())))
 (ob (Lt a0.2.2.1) fun r3 =>
 (cond r3.1
 (cond (a0.2.1 != 0)
 (some (true, ()))
 (some ((a0.2.2.1 != 0), ())))
 (some (false, ())))))
 (some (false, ())))))
 (some (false, ())))
 (cond (a0.1 == 3)
 (cond (a0.2.1 == 0)
 (cond (a0.2.2.1 == 0)
 (ob (Zv a0.2.2.2.1) fun r4 =>
 (some (r4.1, ())))
 (some (false, ())))
 (some (false, ())))
 (cond (a0.1 == 4)
 (cond (a0.2.1 == 0)
 (cond (a0.2.2.1 == 0)
 (ob (Zv a0.2.2.2.1) fun r5 =>
 (some (r5.1, ())))
 (some (false, ())))
 (some (false, ())))
 (cond (a0.1 == 5)
 (cond (a0.2.1 == 0)
 (cond (a0.2.2.1 == 0)
 (cond (decide (a0.2.2.2.1 ≥ 0))
 (some ((decide (a0.2.2.2.1 ≤ 3)), ()))
 (some (false, ())))
 (some (false, ())))
 (some (false, ())))
 (cond (a0.1 == 9)
 (cond (a0.2.1 == 0)
 (cond (a0.2.2.1 == 0)
 (cond (decide (a0.2.2.2.1 ≥ 0))
 (some ((decide (a0.2.2.2.1 ≤ 3)), ()))
 (some (false, ())))
 (some (false, ())))
 (some (false, ())))
 (cond (a0.1 == 6)
 (ob (AB a0.2.1) fun r6 =>
 (cond r6.1
 (ob (Lt a0.2.2.1) fun r7 =>
 (cond r7.1
 (some ((a0.2.2.2.1 == 0), ()))
 (some (false, ()))))
 (some (false, ()))))
 (cond (a0.1 == 7)
 (ob (AB a0.2.1) fun r8 =>
 (cond r8.1
 (cond (a0.2.2.1 == 0)
 (ob (Zv a0.2.2.2.1) fun r9 =>
 (some (r9.1, ())))
 (some (false, ())))
 (some (false, ()))))
 (cond (a0.1 == 8)
 (cond (a0.2.1 == 0)
 (ob (Lt a0.2.2.1) fun r10 =>
 (cond r10.1
 (some ((a0.2.2.2.1 == 0), ()))
 (some (false, ()))))
 (some (false, ())))
 (some (false, ())))))))))))))
def BI (t1 : Unit) (t3 : Int) (t28 : Ij) (t29 : Int) (t30 : Int) (t40 : Zl) (t41 : Int) (t42 : Int) (b1 : Ac) : Option (((Unit × (Int × (Ij × XaM))) × Zt) ⊕ (((Unit × WM) × Zt) ⊕ Gm)) :=
 (cond (decide (t42 < t41))
 (ob (Xa t40 t42) fun x24 =>
 (ob (Vk x24) fun r25 =>
 (cond (!r25.1)
 (some (.inr (.inr ((false, ()), ()))))
 (cond (t3 == 0)
 (cond (x24.1 == 1)
 (some (.inr (.inr ((false, ()), ()))))
 (cond (x24.1 != 9)
 (cond (decide (x24.2.2.2.1 ≥ ((ln b1.2.1 : Nat) : Int)))
 (some (.inr (.inr ((false, ()), ()))))
 (some (.inl (((), t3, t28, t29, t30, t40, t41, (wr .i64 (t42 + 1)), ()), (b1, ())))))
 (some (.inl (((), t3, t28, t29, t30, t40, t41, (wr .i64 (t42 + 1)), ()), (b1, ()))))))
 (cond (x24.1 != 9)
 (cond (decide (x24.2.2.2.1 ≥ ((ln b1.2.1 : Nat) : Int)))
 (some (.inr (.inr ((false, ()), ()))))
 (some (.inl (((), t3, t28, t29, t30, t40, t41, (wr .i64 (t42 + 1)), ()), (b1, ())))))
 (some (.inl (((), t3, t28, t29, t30, t40, t41, (wr .i64 (t42 + 1)), ()), (b1, ())))))))))
 (some (.inr (.inl (((), t28, t29, t30, ()), (b1, ()))))))
def Tn := Ta fun x : ((Unit × (Int × (Ij × XaM))) × Zt) => BI x.1.1 x.1.2.1 x.1.2.2.1 x.1.2.2.2.1 x.1.2.2.2.2.1 x.1.2.2.2.2.2.1 x.1.2.2.2.2.2.2.1 x.1.2.2.2.2.2.2.2.1 x.2.1
def AI (t1 : Unit) (t28 : Ij) (t29 : Int) (t30 : Int) (b1 : Ac) : Option (((Unit × WM) × Zt) ⊕ Hk) :=
 (cond (decide (t30 < t29))
 (ob (Xa t28 t30) fun x19 =>
 (cond (((ln x19 : Nat) : Int) != b1.1)
 (some (.inr (.inr ((false, ()), ()))))
 (ob (Tn (((), t30, t28, t29, t30, x19, ((ln x19 : Nat) : Int), 0, ()), (b1, ()))) (se (fun y26 => (some (.inl (((), y26.1.2.1, y26.1.2.2.1, (wr .i64 (y26.1.2.2.2.1 + 1)), ()), (y26.2.1, ()))))) (fun z27 => (some (.inr (.inr ((z27.1.1, ()), ())))))))))
 (some (.inr (.inl ((), ())))))
def Sn := Ta fun x : ((Unit × WM) × Zt) => AI x.1.1 x.1.2.1 x.1.2.2.1 x.1.2.2.2.1 x.2.1
def DA (a0 : Ac) : Option Xc :=
 (cond (decide (a0.1 < 1))
 (some (false, ()))
 (cond (decide (a0.1 > 32))
 (some (false, ()))
 (cond (decide (((ln a0.2.1 : Nat) : Int) < 1))
 (some (false, ()))
 (cond (decide (((ln a0.2.1 : Nat) : Int) > 4))
 (some (false, ()))
 (ob (Sn (((), a0.2.1, ((ln a0.2.1 : Nat) : Int), 0, ()), (a0, ()))) (se (fun y28 => (some (true, ()))) (fun z29 => (some (z29.1.1, ())))))))))
def Xq (a0 : Db) (a1 : Db) : Option Xc :=
 (cond (a0.1 != a1.1)
 (some (false, ()))
 (cond (a0.2.1 != a1.2.1)
 (some (false, ()))
 (cond (a0.2.2.1 != a1.2.2.1)
 (some (false, ()))
 (cond (a0.2.2.2.1 != a1.2.2.2.1)
 (some (false, ()))
 (some (true, ()))))))
def U2 (t0 : Zl) (t1 : Zl) (t5 : Int) : Option (Rah ⊕ Hk) :=
 (cond (decide (t5 < ((ln t0 : Nat) : Int)))
 (ob (Xa t0 t5) fun x7 =>
 (ob (Xa t1 t5) fun x8 =>
 (ob (Xq x7 x8) fun r9 =>
 (cond (!r9.1)
 (some (.inr (.inr ((false, ()), ()))))
 (some (.inl ((t0, t1, (wr .i64 (t5 + 1)), ()), ())))))))
 (some (.inr (.inl ((), ())))))
def DM := Ta fun x : Rah => U2 x.1.1 x.1.2.1 x.1.2.2.1
def Fw (a0 : Zl) (a1 : Zl) : Option Xc :=
 (cond (((ln a0 : Nat) : Int) != ((ln a1 : Nat) : Int))
 (some (false, ()))
 (ob (DM ((a0, a1, 0, ()), ())) (se (fun y10 => (some (true, ()))) (fun z11 => (some (z11.1.1, ()))))))
def I1 (t0 : Ij) (t1 : Ij) (t5 : Int) : Option (Oah ⊕ Hk) :=
 (cond (decide (t5 < ((ln t0 : Nat) : Int)))
 (ob (Xa t0 t5) fun x7 =>
 (ob (Xa t1 t5) fun x8 =>
 (ob (Fw x7 x8) fun r9 =>
 (cond (!r9.1)
 (some (.inr (.inr ((false, ()), ()))))
 (some (.inl ((t0, t1, (wr .i64 (t5 + 1)), ()), ())))))))
 (some (.inr (.inl ((), ())))))
def AJ := Ta fun x : Oah => I1 x.1.1 x.1.2.1 x.1.2.2.1
def PC (a0 : Ij) (a1 : Ij) : Option Xc :=
 (cond (((ln a0 : Nat) : Int) != ((ln a1 : Nat) : Int))
 (some (false, ()))
 (ob (AJ ((a0, a1, 0, ()), ())) (se (fun y10 => (some (true, ()))) (fun z11 => (some (z11.1.1, ()))))))
def HK (a0 : Ac) (a1 : Ac) : Option Xc :=
 (cond (a0.1 != a1.1)
 (some (false, ()))
 (ob (PC a0.2.1 a1.2.1) fun r1 =>
 (cond (!r1.1)
 (some (false, ()))
 (some (true, ())))))
def WK (a0 : Ca) : Option Rh :=
 (some (a0, ()))
def SA (a0 : Ca) : Option Xc :=
 (ob (Tb a0.1 1 4) fun r1 =>
 (cond r1.1
 (ob (Tb a0.2.1 1 6) fun r2 =>
 (some (r2.1, ())))
 (some (false, ()))))
def Yk (a0 : Ca) : Option Cc :=
 (ob (SA a0) fun r1 =>
 (cond (!r1.1)
 (some (0, ()))
 (some ((wr .i64 (a0.1 * a0.2.1)), ()))))
def Oo (a0 : Ca) (a1 : Int) : Option Xc :=
 (ob (SA a0) fun r1 =>
 (cond r1.1
 (ob (Yk a0) fun r2 =>
 (cond (decide (0 ≤ r2.1))
 (ob (Tb a1 0 (wr .i64 ((Ra .i64 1 r2.1) - 1))) fun r3 =>
 (some (r3.1, ())))
 none))
 (some (false, ()))))
def SH (a0 : Ca) (a1 : Int) (a2 : Int) : Option Cc :=
 (cond (decide (0 ≤ (wr .i64 (a2 * a0.2.1))))
 (cond (decide (0 ≤ a0.2.1))
 (some ((Wa .i64 (Wb .i64 a1 (wr .i64 (a2 * a0.2.1))) (wr .i64 ((Ra .i64 1 a0.2.1) - 1))), ()))
 none)
 none)
def Pz (t2 : Unit) (t5 : Int) (t6 : Int) (t7 : Int) (t8 : Int) (b2 : Ca) : Option ((Vah × Rh) ⊕ ((ET × Rh) ⊕ Fe)) :=
 (cond (decide (t8 < b2.1))
 (ob (SH b2 t5 t7) fun r99 =>
 (ob (SH b2 t5 t8) fun r100 =>
 (cond ((Wa .i64 r99.1 r100.1) != 0)
 (ob (SH b2 t5 t8) fun r101 =>
 (cond (decide (0 ≤ (wr .i64 (t7 * b2.2.1))))
 (some (.inl (((), (Pc .i64 t5 (Ra .i64 r101.1 (wr .i64 (t7 * b2.2.1)))), t6, t7, (wr .i64 (t8 + 1)), ()), (b2, ()))))
 none))
 (some (.inl (((), t5, t6, t7, (wr .i64 (t8 + 1)), ()), (b2, ())))))))
 (some (.inr (.inl (((), t5, t6, t7, ()), (b2, ()))))))
def WB := Ta fun x : (Vah × Rh) => Pz x.1.1 x.1.2.1 x.1.2.2.1 x.1.2.2.2.1 x.1.2.2.2.2.1 x.2.1
def UD (t2 : Unit) (t5 : Int) (t6 : Int) (t7 : Int) (b2 : Ca) : Option ((ET × Rh) ⊕ ((Kx × Rh) ⊕ Fe)) :=
 (cond (decide (t7 < b2.1))
 (ob (WB (((), t5, t6, t7, 0, ()), (b2, ()))) (se (fun y102 => (some (.inl (((), y102.1.2.1, y102.1.2.2.1, (wr .i64 (y102.1.2.2.2.1 + 1)), ()), (y102.2.1, ()))))) (fun z103 => (some (.inr (.inr ((), ())))))))
 (some (.inr (.inl (((), t5, t6, ()), (b2, ()))))))
def AG := Ta fun x : (ET × Rh) => UD x.1.1 x.1.2.1 x.1.2.2.1 x.1.2.2.2.1 x.2.1
def SD (t2 : Unit) (t5 : Int) (t6 : Int) (b2 : Ca) : Option ((Kx × Rh) ⊕ Lx) :=
 (cond (decide (t6 < b2.1))
 (ob (AG (((), t5, t6, 0, ()), (b2, ()))) (se (fun y104 => (some (.inl (((), y104.1.2.1, (wr .i64 (y104.1.2.2.1 + 1)), ()), (y104.2.1, ()))))) (fun z105 => (some (.inr (.inr ((), ())))))))
 (some (.inr (.inl ((t5, ()), ())))))
def ZF := Ta fun x : (Kx × Rh) => SD x.1.1 x.1.2.1 x.1.2.2.1 x.2.1
def Xt (a0 : Ca) (a1 : Int) : Option Cc :=
 (cond a0.2.2.1
 (some (a1, ()))
 (ob (ZF (((), a1, 0, ()), (a0, ()))) (se (fun y106 => (some (y106.1.1, ()))) (fun z107 => none))))
def MD (a0 : Ca) (a1 : Int) : Option Nx :=
 (ob (Oo a0 a1) fun r1 =>
 (cond (!r1.1)
 (some (0, false, ()))
 (ob (Xt a0 a1) fun r2 =>
 (some (r2.1, true, ())))))
def Xo (a0 : Ca) (a1 : Int) : Option Xc :=
 (ob (Oo a0 a1) fun r1 =>
 (cond r1.1
 (ob (Xt a0 a1) fun r2 =>
 (some ((r2.1 == a1), ())))
 (some (false, ()))))
def Yy (a0 : Ca) (a1 : Int) (a2 : Int) : Option Nx :=
 (ob (Xo a0 a1) fun r1 =>
 (cond (!r1.1)
 (some (0, false, ()))
 (ob (Yk a0) fun r2 =>
 (ob (Tb a2 0 (wr .i64 (r2.1 - 1))) fun r3 =>
 (cond (!r3.1)
 (some (0, false, ()))
 (cond (decide (0 ≤ a2))
 (cond ((Wa .i64 (Wb .i64 a1 a2) 1) == 0)
 (some (0, false, ()))
 (cond (decide (0 ≤ a2))
 (ob (Xt a0 (Mb .i64 a1 (Ra .i64 1 a2))) fun r4 =>
 (cond (r4.1 != a1)
 (some (0, false, ()))
 (some ((Mb .i64 a1 (Ra .i64 1 a2)), true, ()))))
 none))
 none))))))
def Yj (t1 : Int) (t2 : Unit) (t5 : Int) (t6 : Int) (b2 : Ca) : Option (((Int × Kx) × Rh) ⊕ Lx) :=
 (ob (Yk b2) fun r7 =>
 (cond (decide (t6 < r7.1))
 (ob (Xo b2 t1) fun r8 =>
 (cond r8.1
 (ob (Yy b2 t1 t6) fun r9 =>
 (cond (decide (0 ≤ t6))
 (cond ((Wa .i64 (Wb .i64 t1 t6) 1) == 1)
 (cond (!r9.2.1)
 (cond (decide (0 ≤ t6))
 (some (.inl ((t1, (), (Pc .i64 t5 (Ra .i64 1 t6)), (wr .i64 (t6 + 1)), ()), (b2, ()))))
 none)
 (some (.inl ((t1, (), t5, (wr .i64 (t6 + 1)), ()), (b2, ())))))
 (some (.inl ((t1, (), t5, (wr .i64 (t6 + 1)), ()), (b2, ())))))
 none))
 (some (.inr (.inl ((t5, ()), ()))))))
 (some (.inr (.inl ((t5, ()), ()))))))
def Rm := Ta fun x : ((Int × Kx) × Rh) => Yj x.1.1 x.1.2.1 x.1.2.2.1 x.1.2.2.2.1 x.2.1
def LH (a0 : Ca) (a1 : Int) : Option Cc :=
 (ob (Rm ((a1, (), 0, 0, ()), (a0, ()))) (se (fun y10 => (some (y10.1.1, ()))) (fun z11 => none)))
def Ns (a0 : Ca) (a1 : Int) (a2 : Int) : Option Nx :=
 (ob (Oo a0 a1) fun r1 =>
 (cond (!r1.1)
 (some (0, false, ()))
 (ob (Xo a0 a2) fun r2 =>
 (cond (!r2.1)
 (some (0, false, ()))
 (ob (LH a0 a2) fun r3 =>
 (some ((Wa .i64 a2 (Pc .i64 a1 r3.1)), true, ())))))))
def Vq (a0 : Ca) : Option Xc :=
 (cond (decide (a0.1 ≥ 1))
 (cond (decide (a0.1 ≤ 4))
 (cond (decide (a0.2.1 ≥ 1))
 (some ((decide (a0.2.1 ≤ 6)), ()))
 (some (false, ())))
 (some (false, ())))
 (some (false, ())))
def Lj (a0 : Ca) : Option Cc :=
 (ob (Vq a0) fun r1 =>
 (cond (!r1.1)
 (some (0, ()))
 (some ((wr .i64 (a0.1 * a0.2.1)), ()))))
def Lo (a0 : Ca) (a1 : Int) : Option Xc :=
 (ob (Vq a0) fun r1 =>
 (cond r1.1
 (cond (decide (a1 ≥ 0))
 (ob (Lj a0) fun r2 =>
 (cond (decide (0 ≤ r2.1))
 (some ((decide (a1 < (Ra .i64 1 r2.1))), ()))
 none))
 (some (false, ())))
 (some (false, ()))))
def BK (t1 : Int) (t2 : Unit) (t5 : Lc) (t15 : Int) (t16 : Int) (b2 : Ca) : Option (((Int × SY) × Rh) ⊕ (((Unit × Gr) × Rh) ⊕ Fe)) :=
 (cond (decide (t16 < t15))
 (cond (decide (0 ≤ (wr .i64 (t16 * b2.2.1))))
 (cond (decide (0 ≤ b2.2.1))
 (cond (Nat.beq 4 (ln t5))
 (cond (Af (ln t5) t16)
 (ob t5[(tn t16)]? fun x3 =>
 (some (.inl ((t1, (), (ls t5 (tn t16) (Wa .i64 (Wb .i64 t1 (wr .i64 (t16 * b2.2.1))) (wr .i64 ((Ra .i64 1 b2.2.1) - 1)))), t15, (wr .i64 (t16 + 1)), ()), (b2, ())))))
 none)
 none)
 none)
 none)
 (some (.inr (.inl (((), t5, ()), (b2, ()))))))
def ML := Ta fun x : ((Int × SY) × Rh) => BK x.1.1 x.1.2.1 x.1.2.2.1 x.1.2.2.2.1 x.1.2.2.2.2.1 x.2.1
def QG (t2 : Unit) (t5 : Lc) (t7 : Int) (t34 : Int) (t35 : Int) (t38 : Int) (t39 : Int) (t43 : Int) (t44 : Int) (b2 : Ca) : Option (MaA ⊕ (Lax ⊕ Fe)) :=
 (cond (decide (t44 < t43))
 (cond (Nat.beq 4 (ln t5))
 (cond (Af (ln t5) t7)
 (ob t5[(tn t7)]? fun x156 =>
 (cond (Nat.beq 4 (ln t5))
 (cond (Af (ln t5) t44)
 (ob t5[(tn t44)]? fun x157 =>
 (cond ((Wa .i64 x156 x157) != 0)
 (cond (Nat.beq 4 (ln t5))
 (cond (Af (ln t5) t7)
 (ob t5[(tn t7)]? fun x158 =>
 (cond (Nat.beq 4 (ln t5))
 (cond (Af (ln t5) t44)
 (ob t5[(tn t44)]? fun x159 =>
 (cond (Nat.beq 4 (ln t5))
 (cond (Af (ln t5) t7)
 (ob t5[(tn t7)]? fun x160 =>
 (some (.inl (((), (ls t5 (tn t7) (Pc .i64 x158 x159)), t7, t34, t35, t38, t39, t43, (wr .i64 (t44 + 1)), ()), (b2, ())))))
 none)
 none))
 none)
 none))
 none)
 none)
 (some (.inl (((), t5, t7, t34, t35, t38, t39, t43, (wr .i64 (t44 + 1)), ()), (b2, ()))))))
 none)
 none))
 none)
 none)
 (some (.inr (.inl (((), t5, t34, t35, t38, t39, ()), (b2, ()))))))
def GI := Ta fun x : MaA => QG x.1.1 x.1.2.1 x.1.2.2.1 x.1.2.2.2.1 x.1.2.2.2.2.1 x.1.2.2.2.2.2.1 x.1.2.2.2.2.2.2.1 x.1.2.2.2.2.2.2.2.1 x.1.2.2.2.2.2.2.2.2.1 x.2.1
def PG (t2 : Unit) (t5 : Lc) (t34 : Int) (t35 : Int) (t38 : Int) (t39 : Int) (b2 : Ca) : Option (Lax ⊕ ((SY × Rh) ⊕ Fe)) :=
 (cond (decide (t39 < t38))
 (ob (GI (((), t5, t39, t34, t35, t38, t39, b2.1, 0, ()), (b2, ()))) (se (fun y161 => (some (.inl (((), y161.1.2.1, y161.1.2.2.1, y161.1.2.2.2.1, y161.1.2.2.2.2.1, (wr .i64 (y161.1.2.2.2.2.2.1 + 1)), ()), (y161.2.1, ()))))) (fun z162 => (some (.inr (.inr ((), ())))))))
 (some (.inr (.inl (((), t5, t34, t35, ()), (b2, ()))))))
def FI := Ta fun x : Lax => PG x.1.1 x.1.2.1 x.1.2.2.1 x.1.2.2.2.1 x.1.2.2.2.2.1 x.1.2.2.2.2.2.1 x.2.1
def OG (t2 : Unit) (t5 : Lc) (t34 : Int) (t35 : Int) (b2 : Ca) : Option ((SY × Rh) ⊕ (((Unit × Gr) × Rh) ⊕ Fe)) :=
 (cond (decide (t35 < t34))
 (ob (FI (((), t5, t34, t35, b2.1, 0, ()), (b2, ()))) (se (fun y163 => (some (.inl (((), y163.1.2.1, y163.1.2.2.1, (wr .i64 (y163.1.2.2.2.1 + 1)), ()), (y163.2.1, ()))))) (fun z164 => (some (.inr (.inr ((), ())))))))
 (some (.inr (.inl (((), t5, ()), (b2, ()))))))
def EI := Ta fun x : (SY × Rh) => OG x.1.1 x.1.2.1 x.1.2.2.1 x.1.2.2.2.1 x.2.1
def RG (t2 : Unit) (t5 : Lc) (t9 : Int) (t67 : Int) (t68 : Int) (b2 : Ca) : Option (((Unit × (Lc × Ad)) × Rh) ⊕ Lx) :=
 (cond (decide (t68 < t67))
 (cond (Nat.beq 4 (ln t5))
 (cond (Af (ln t5) t68)
 (ob t5[(tn t68)]? fun x169 =>
 (cond (decide (0 ≤ (wr .i64 (t68 * b2.2.1))))
 (some (.inl (((), t5, (Pc .i64 t9 (Ra .i64 x169 (wr .i64 (t68 * b2.2.1)))), t67, (wr .i64 (t68 + 1)), ()), (b2, ()))))
 none))
 none)
 none)
 (some (.inr (.inl ((t9, ()), ())))))
def HI := Ta fun x : ((Unit × (Lc × Ad)) × Rh) => RG x.1.1 x.1.2.1 x.1.2.2.1 x.1.2.2.2.1 x.1.2.2.2.2.1 x.2.1
def XE (a0 : Ca) (a1 : Int) : Option Cc :=
 (cond a0.2.2.1
 (some (a1, ()))
 (ob (ML ((a1, (), (List.replicate 4 0), a0.1, 0, ()), (a0, ()))) (se (fun y4 => (ob (EI (((), y4.1.2.1, y4.2.1.1, 0, ()), (y4.2.1, ()))) (se (fun y165 => (ob (HI (((), y165.1.2.1, 0, y165.2.1.1, 0, ()), (y165.2.1, ()))) (se (fun y170 => (some (y170.1.1, ()))) (fun z171 => none)))) (fun z166 => none)))) (fun z5 => none))))
def To (a0 : Ca) (a1 : Int) : Option Xc :=
 (ob (Lo a0 a1) fun r1 =>
 (cond r1.1
 (ob (XE a0 a1) fun r2 =>
 (some ((r2.1 == a1), ())))
 (some (false, ()))))
def Wx (a0 : Ca) (a1 : Int) (a2 : Int) : Option Nx :=
 (ob (To a0 a1) fun r1 =>
 (cond (!r1.1)
 (some (0, false, ()))
 (cond (decide (a2 < 0))
 (some (0, false, ()))
 (ob (Lj a0) fun r2 =>
 (cond (decide (a2 ≥ r2.1))
 (some (0, false, ()))
 (cond (decide (0 ≤ a2))
 (cond ((Wa .i64 (Wb .i64 a1 a2) 1) == 0)
 (some (0, false, ()))
 (cond (decide (0 ≤ a2))
 (ob (XE a0 (Mb .i64 a1 (Ra .i64 1 a2))) fun r3 =>
 (cond (r3.1 != a1)
 (some (0, false, ()))
 (some ((Mb .i64 a1 (Ra .i64 1 a2)), true, ()))))
 none))
 none))))))
def Jr (t1 : Int) (t2 : Unit) (t5 : Int) (t14 : Int) (t15 : Int) (b2 : Ca) : Option (((Int × ET) × Rh) ⊕ Lx) :=
 (cond (decide (t15 < t14))
 (cond (decide (0 ≤ t15))
 (cond ((Wa .i64 (Wb .i64 t1 t15) 1) == 1)
 (ob (Wx b2 t1 t15) fun r5 =>
 (cond (!r5.2.1)
 (cond (decide (0 ≤ t15))
 (some (.inl ((t1, (), (Pc .i64 t5 (Ra .i64 1 t15)), t14, (wr .i64 (t15 + 1)), ()), (b2, ()))))
 none)
 (some (.inl ((t1, (), t5, t14, (wr .i64 (t15 + 1)), ()), (b2, ()))))))
 (some (.inl ((t1, (), t5, t14, (wr .i64 (t15 + 1)), ()), (b2, ())))))
 none)
 (some (.inr (.inl ((t5, ()), ())))))
def Rv := Ta fun x : ((Int × ET) × Rh) => Jr x.1.1 x.1.2.1 x.1.2.2.1 x.1.2.2.2.1 x.1.2.2.2.2.1 x.2.1
def KG (a0 : Ca) (a1 : Int) : Option Cc :=
 (ob (To a0 a1) fun r1 =>
 (cond (!r1.1)
 (some (0, ()))
 (ob (Lj a0) fun r2 =>
 (ob (Rv ((a1, (), 0, r2.1, 0, ()), (a0, ()))) (se (fun y6 => (some (y6.1.1, ()))) (fun z7 => none))))))
def Ir (a0 : Ca) (a1 : Int) (a2 : Int) : Option Nx :=
 (ob (Lo a0 a1) fun r1 =>
 (cond (!r1.1)
 (some (0, false, ()))
 (ob (To a0 a2) fun r2 =>
 (cond (!r2.1)
 (some (0, false, ()))
 (ob (KG a0 a2) fun r3 =>
 (some ((Wa .i64 a2 (Pc .i64 a1 r3.1)), true, ())))))))
def Ol (a0 : Db) : Option Xc :=
 (ob (Xk a0) fun r1 =>
 (cond r1.1
 (cond (a0.1 == 6)
 (some (true, ()))
 (some ((a0.1 == 7), ())))
 (some (false, ()))))
def NT (a0 : Db) : Option YM :=
 (ob (Ol a0) fun r1 =>
 (cond (!r1.1)
 (some (a0, ()))
 (some ((2, a0.2.1, 0, 0, ()), ()))))
def Uo (a0 : Db) : Option Xc :=
 (ob (Vk a0) fun r1 =>
 (cond r1.1
 (cond (a0.1 == 6)
 (some (true, ()))
 (some ((a0.1 == 7), ())))
 (some (false, ()))))
def IT (a0 : Db) : Option YM :=
 (ob (Uo a0) fun r1 =>
 (cond (!r1.1)
 (some (a0, ()))
 (some ((2, a0.2.1, 0, 0, ()), ()))))
def Tp (t2 : Unit) (t3 : Unit) (t10 : Ij) (t11 : Int) (t12 : Int) (b2 : Ac) (b3 : Ac) : Option (((Unit × (Unit × WM)) × L4) ⊕ ((OV × L4) ⊕ Fe)) :=
 (cond (decide (t12 < t11))
 (ob (Xa t10 t12) fun x4 =>
 (cond (bl (ln ([] : List Db) + ln x4) Qa)
 (cond (bl (ln b3.2.1 + ln ([(ap [] x4)] : List Zl)) Qa)
 (some (.inl (((), (), t10, t11, (wr .i64 (t12 + 1)), ()), (b2, (b3.1, (ap b3.2.1 ([(ap [] x4)] : List Zl)), ()), ()))))
 none)
 none))
 (some (.inr (.inl (((), (), ()), (b2, b3, ()))))))
def Jt := Ta fun x : ((Unit × (Unit × WM)) × L4) => Tp x.1.1 x.1.2.1 x.1.2.2.1 x.1.2.2.2.1 x.1.2.2.2.2.1 x.2.1 x.2.2.1
def JC (a0 : Ac) : Option Zt :=
 (ob (Jt (((), (), a0.2.1, ((ln a0.2.1 : Nat) : Int), 0, ()), ((0, [], ()), (a0.1, [], ()), ()))) (se (fun y5 => (some (y5.2.2.1, ()))) (fun z6 => none)))
def Up (t3 : Zh) (t6 : Zh) (t7 : Int) (t8 : Int) : Option (((Zh × YQ) × Unit) ⊕ (((Zh × Unit) × Unit) ⊕ Fe)) :=
 (cond (decide (t8 < t7))
 (ob (Xa t6 t8) fun x4 =>
 (cond (bl (ln ([] : List Ad) + ln x4) Qa)
 (cond (bl (ln t3 + ln ([(ap [] x4)] : List Th)) Qa)
 (some (.inl (((ap t3 ([(ap [] x4)] : List Th)), t6, t7, (wr .i64 (t8 + 1)), ()), ())))
 none)
 none))
 (some (.inr (.inl ((t3, ()), ())))))
def Kt := Ta fun x : ((Zh × YQ) × Unit) => Up x.1.1 x.1.2.1 x.1.2.2.1 x.1.2.2.2.1
def KC (a0 : Zh) : Option (Zh × Unit) :=
 (ob (Kt (([], a0, ((ln a0 : Nat) : Int), 0, ()), ())) (se (fun y5 => (some (y5.1.1, ()))) (fun z6 => none)))
def Ye (a0 : Int) (a1 : Int) : Option Cc :=
 (cond (decide (0 ≤ a1))
 (some ((Wa .i64 (Wb .i64 a0 a1) 1), ()))
 none)
def CC (t3 : Int) (t6 : He) (t7 : Int) (t8 : Int) : Option (JV ⊕ Hk) :=
 (cond (decide (t8 < t7))
 (ob (Xa t6 t8) fun x7 =>
 (cond (decide (x7.1 < 0))
 (some (.inr (.inr ((false, ()), ()))))
 (cond (decide (x7.1 > 31))
 (some (.inr (.inr ((false, ()), ()))))
 (ob (Ye t3 x7.1) fun r8 =>
 (cond (r8.1 == 1)
 (some (.inr (.inr ((false, ()), ()))))
 (ob (Vk x7.2.1) fun r9 =>
 (cond (!r9.1)
 (some (.inr (.inr ((false, ()), ()))))
 (cond (x7.2.1.1 == 1)
 (some (.inr (.inr ((false, ()), ()))))
 (cond (x7.2.1.1 == 6)
 (some (.inr (.inr ((false, ()), ()))))
 (cond (x7.2.1.1 == 7)
 (some (.inr (.inr ((false, ()), ()))))
 (cond (decide (0 ≤ x7.1))
 (some (.inl (((Pc .i64 t3 (Ra .i64 1 x7.1)), t6, t7, (wr .i64 (t8 + 1)), ()), ())))
 none)))))))))))
 (some (.inr (.inl ((), ())))))
def PE := Ta fun x : JV => CC x.1.1 x.1.2.1 x.1.2.2.1 x.1.2.2.2.1
def Tl (a0 : He) : Option Xc :=
 (ob (PE ((0, a0, ((ln a0 : Nat) : Int), 0, ()), ())) (se (fun y10 => (some (true, ()))) (fun z11 => (some (z11.1.1, ())))))
def NC (t3 : Unit) (t7 : Ke) (t8 : Int) (t9 : Int) (b3 : Va) : Option (((Unit × Er) × XM) ⊕ RY) :=
 (cond (decide (t9 < t8))
 (ob (Xa t7 t9) fun x3 =>
 (cond (ZB Xb x3 b3)
 (some (.inr (.inr ((t9, ()), ()))))
 (some (.inl (((), t7, t8, (wr .i64 (t9 + 1)), ()), (b3, ()))))))
 (some (.inr (.inl ((), ())))))
def WE := Ta fun x : ((Unit × Er) × XM) => NC x.1.1 x.1.2.1 x.1.2.2.1 x.1.2.2.2.1 x.2.1
def YI (a0 : Ke) (a1 : Va) : Option Cc :=
 (ob (WE (((), a0, ((ln a0 : Nat) : Int), 0, ()), (a1, ()))) (se (fun y4 => (some ((-1), ()))) (fun z5 => (some (z5.1.1, ())))))
def Ep (t3 : Ke) (t11 : Th) (t12 : Int) (t13 : Int) : Option (((Ke × LV) × Unit) ⊕ (((Ke × Unit) × Unit) ⊕ Gm)) :=
 (cond (decide (t13 < t12))
 (ob (Xa t11 t13) fun x10 =>
 (ob (YI t3 x10.2) fun r11 =>
 (ob (Vk (2, x10.2.1, x10.2.2.1, 0, ())) fun r12 =>
 (cond (!r12.1)
 (some (.inr (.inr ((false, ()), ()))))
 (cond (x10.1 == 0)
 (cond (decide (r11.1 ≥ 0))
 (some (.inr (.inr ((false, ()), ()))))
 (cond (x10.1 == 1)
 (cond (bl (ln t3 + ln ([x10.2] : List Va)) Qa)
 (some (.inl (((ap t3 ([x10.2] : List Va)), t11, t12, (wr .i64 (t13 + 1)), ()), ())))
 none)
 (some (.inl ((t3, t11, t12, (wr .i64 (t13 + 1)), ()), ())))))
 (cond (x10.1 == 1)
 (cond (decide (r11.1 ≥ 0))
 (some (.inr (.inr ((false, ()), ()))))
 (cond (x10.1 == 1)
 (cond (bl (ln t3 + ln ([x10.2] : List Va)) Qa)
 (some (.inl (((ap t3 ([x10.2] : List Va)), t11, t12, (wr .i64 (t13 + 1)), ()), ())))
 none)
 (some (.inl ((t3, t11, t12, (wr .i64 (t13 + 1)), ()), ())))))
 (cond (x10.1 == 2)
 (cond (decide (r11.1 < 0))
 (some (.inr (.inr ((false, ()), ()))))
 (cond (Ld (ln t3) 0 r11.1)
 (cond (Ld (ln t3) (wr .i64 (r11.1 + 1)) ((ln t3 : Nat) : Int))
 (cond (bl (ln (Gb t3 (tn 0) (tn r11.1)) + ln (Gb t3 (tn (wr .i64 (r11.1 + 1))) (tn ((ln t3 : Nat) : Int)))) Qa)
 (some (.inl (((ap (Gb t3 (tn 0) (tn r11.1)) (Gb t3 (tn (wr .i64 (r11.1 + 1))) (tn ((ln t3 : Nat) : Int)))), t11, t12, (wr .i64 (t13 + 1)), ()), ())))
 none)
 none)
 none))
 (some (.inr (.inr ((false, ()), ())))))))))))
 (some (.inr (.inl ((t3, ()), ())))))
def KB := Ta fun x : ((Ke × LV) × Unit) => Ep x.1.1 x.1.2.1 x.1.2.2.1 x.1.2.2.2.1
def QE (a0 : Th) : Option Xc :=
 (cond (decide (((ln a0 : Nat) : Int) > 8))
 (some (false, ()))
 (ob (KB (([], a0, ((ln a0 : Nat) : Int), 0, ()), ())) (se (fun y13 => (some ((((ln y13.1.1 : Nat) : Int) == 0), ()))) (fun z14 => (some (z14.1.1, ()))))))
def Gu (t1 : Unit) (t35 : Zh) (t36 : Int) (t37 : Int) (b1 : Jb) : Option (((Unit × YQ) × Fm) ⊕ ((Fe × Fm) ⊕ Gm)) :=
 (cond (decide (t37 < t36))
 (ob (Xa t35 t37) fun x7 =>
 (ob (QE x7) fun r8 =>
 (cond (!r8.1)
 (some (.inr (.inr ((false, ()), ()))))
 (some (.inl (((), t35, t36, (wr .i64 (t37 + 1)), ()), (b1, ())))))))
 (some (.inr (.inl (((), ()), (b1, ()))))))
def Rn := Ta fun x : ((Unit × YQ) × Fm) => Gu x.1.1 x.1.2.1 x.1.2.2.1 x.1.2.2.2.1 x.2.1
def Pr (t1 : Unit) (t5 : Int) (t50 : He) (t51 : Int) (t52 : Int) (b1 : Jb) : Option (((Unit × (Int × E4)) × Fm) ⊕ ((Dk × Fm) ⊕ Gm)) :=
 (cond (decide (t52 < t51))
 (ob (Xa t50 t52) fun x13 =>
 (cond (decide (x13.1 ≥ b1.1.1))
 (some (.inr (.inr ((false, ()), ()))))
 (cond (x13.2.1.1 != 9)
 (cond (decide (x13.2.1.2.2.2.1 ≥ t5))
 (some (.inr (.inr ((false, ()), ()))))
 (some (.inl (((), t5, t50, t51, (wr .i64 (t52 + 1)), ()), (b1, ())))))
 (some (.inl (((), t5, t50, t51, (wr .i64 (t52 + 1)), ()), (b1, ())))))))
 (some (.inr (.inl (((), t5, ()), (b1, ()))))))
def Jm := Ta fun x : ((Unit × (Int × E4)) × Fm) => Pr x.1.1 x.1.2.1 x.1.2.2.1 x.1.2.2.2.1 x.1.2.2.2.2.1 x.2.1
def AK (a0 : Jb) : Option Xc :=
 (ob (DA a0.1) fun r1 =>
 (cond (!r1.1)
 (some (false, ()))
 (cond (decide (((ln a0.2.1 : Nat) : Int) > 4))
 (some (false, ()))
 (ob (Tl a0.2.2.2.1) fun r2 =>
 (cond (!r2.1)
 (some (false, ()))
 (cond (decide (a0.2.2.2.2.1 < 0))
 (some (false, ()))
 (cond (decide (a0.2.2.2.2.1 > 15))
 (some (false, ()))
 (ob (Rn (((), a0.2.1, ((ln a0.2.1 : Nat) : Int), 0, ()), (a0, ()))) (se (fun y9 => (ob (Jm (((), ((ln y9.2.1.1.2.1 : Nat) : Int), y9.2.1.2.2.2.1, ((ln y9.2.1.2.2.2.1 : Nat) : Int), 0, ()), (y9.2.1, ()))) (se (fun y14 => (cond (decide (y14.2.1.2.2.1 ≥ 0))
 (cond ((2 : Int) == 0)
 none
 (cond ((Int.tmod y14.2.1.2.2.1 2) == 0)
 (cond (decide (0 ≤ y14.1.2.1))
 (some ((decide (y14.2.1.2.2.1 < (Ra .i64 1 y14.1.2.1))), ()))
 none)
 (some (false, ()))))
 (some (false, ())))) (fun z15 => (some (z15.1.1, ())))))) (fun z10 => (some (z10.1.1, ()))))))))))))
def Lm (a0 : Jb) : Option Fm :=
 (ob (JC a0.1) fun r1 =>
 (ob (KC a0.2.1) fun r2 =>
 (cond (bl (ln ([] : List Sa) + ln a0.2.2.2.1) Qa)
 (some ((r1.1, r2.1, a0.2.2.1, (ap [] a0.2.2.2.1), a0.2.2.2.2), ()))
 none)))
def EA (a0 : Ad) : Option Xc :=
 (cond (decide (a0.1 ≥ 1))
 (cond (decide (a0.1 ≤ 1000))
 (cond (decide (a0.2.1 ≥ 0))
 (cond (decide (a0.2.1 ≤ 1000))
 (cond (decide (a0.2.2.1 ≥ 0))
 (some ((decide (a0.2.2.1 ≤ 2)), ()))
 (some (false, ())))
 (some (false, ())))
 (some (false, ())))
 (some (false, ())))
 (some (false, ())))
def Ju (t3 : Int) (t6 : He) (t7 : Int) (t8 : Int) : Option (JV ⊕ Lx) :=
 (cond (decide (t8 < t7))
 (ob (Xa t6 t8) fun x3 =>
 (cond (decide (0 ≤ x3.1))
 (some (.inl (((Pc .i64 t3 (Ra .i64 1 x3.1)), t6, t7, (wr .i64 (t8 + 1)), ()), ())))
 none))
 (some (.inr (.inl ((t3, ()), ())))))
def Jy := Ta fun x : JV => Ju x.1.1 x.1.2.1 x.1.2.2.1 x.1.2.2.2.1
def Ym (a0 : He) : Option Cc :=
 (ob (Jy ((0, a0, ((ln a0 : Nat) : Int), 0, ()), ())) (se (fun y4 => (some (y4.1.1, ()))) (fun z5 => none)))
def Vv (a0 : Ca) : Option Xc :=
 (cond (decide (a0.1 ≥ 0))
 (cond (decide (a0.1 ≤ 1000000))
 (cond (decide (a0.2.1 ≥ 0))
 (some ((decide (a0.2.1 ≤ 31)), ()))
 (some (false, ())))
 (some (false, ())))
 (some (false, ())))
def LC (t0 : Be) (t1 : Int) (t11 : Be) (t12 : Int) (t13 : Int) : Option (((Be × XB) × Unit) ⊕ (D4 ⊕ (Nx × Unit))) :=
 (cond (decide (t13 < t12))
 (ob (Xa t11 t13) fun x11 =>
 (ob (Vv x11) fun r12 =>
 (cond (!r12.1)
 (some (.inr (.inr ((0, false, ()), ()))))
 (cond (decide (t13 > 0))
 (ob (Xa t0 (wr .i64 (t13 - 1))) fun x13 =>
 (cond (decide (x13.1 > x11.1))
 (some (.inr (.inr ((0, false, ()), ()))))
 (ob (Ye t1 x11.2.1) fun r14 =>
 (cond (x11.2.2.1 == (r14.1 == 1))
 (some (.inr (.inr ((0, false, ()), ()))))
 (cond (decide (0 ≤ x11.2.1))
 (some (.inl ((t0, (Za .i64 t1 (Ra .i64 1 x11.2.1)), t11, t12, (wr .i64 (t13 + 1)), ()), ())))
 none)))))
 (ob (Ye t1 x11.2.1) fun r15 =>
 (cond (x11.2.2.1 == (r15.1 == 1))
 (some (.inr (.inr ((0, false, ()), ()))))
 (cond (decide (0 ≤ x11.2.1))
 (some (.inl ((t0, (Za .i64 t1 (Ra .i64 1 x11.2.1)), t11, t12, (wr .i64 (t13 + 1)), ()), ())))
 none)))))))
 (some (.inr (.inl ((t1, ()), ())))))
def TE := Ta fun x : ((Be × XB) × Unit) => LC x.1.1 x.1.2.1 x.1.2.2.1 x.1.2.2.2.1 x.1.2.2.2.2.1
def FR (a0 : Be) (a1 : Int) : Option Nx :=
 (cond (decide (((ln a0 : Nat) : Int) > 64))
 (some (0, false, ()))
 (ob (TE ((a0, a1, a0, ((ln a0 : Nat) : Int), 0, ()), ())) (se (fun y16 => (some (y16.1.1, true, ()))) (fun z17 => (some z17.1)))))
def Ur (t0 : Be) (t1 : Int) (t2 : Int) (t11 : Be) (t12 : Int) (t13 : Int) : Option (((Be × (Int × XB)) × Unit) ⊕ ((ZM × Unit) ⊕ Gm)) :=
 (cond (decide (t13 < t12))
 (ob (Xa t11 t13) fun x3 =>
 (cond (decide (x3.2.1 ≥ t2))
 (some (.inr (.inr ((false, ()), ()))))
 (some (.inl ((t0, t1, t2, t11, t12, (wr .i64 (t13 + 1)), ()), ())))))
 (some (.inr (.inl ((t0, t1, ()), ())))))
def Cw := Ta fun x : ((Be × (Int × XB)) × Unit) => Ur x.1.1 x.1.2.1 x.1.2.2.1 x.1.2.2.2.1 x.1.2.2.2.2.1 x.1.2.2.2.2.2.1
def Ni (a0 : Be) (a1 : Int) (a2 : Int) : Option Xc :=
 (ob (Cw ((a0, a1, a2, a0, ((ln a0 : Nat) : Int), 0, ()), ())) (se (fun y4 => (ob (FR y4.1.1 y4.1.2.1) fun r6 =>
 (some (r6.2.1, ())))) (fun z5 => (some (z5.1.1, ())))))
def Li (a0 : Be) (a1 : Int) : Option Xc :=
 (cond (((ln a0 : Nat) : Int) == 0)
 (some (true, ()))
 (ob (Xa a0 (wr .i64 (((ln a0 : Nat) : Int) - 1))) fun x1 =>
 (some ((decide (x1.1 ≤ a1)), ()))))
def Uv (a0 : Ib) : Option Xc :=
 (ob (AK a0.1) fun r1 =>
 (cond (!r1.1)
 (some (false, ()))
 (ob (EA a0.2.1) fun r2 =>
 (cond (!r2.1)
 (some (false, ()))
 (cond (decide (a0.2.2.2.1 < 0))
 (some (false, ()))
 (cond (decide (a0.2.2.2.1 > 1000000))
 (some (false, ()))
 (cond (decide (a0.2.2.2.2.1 < 0))
 (some (false, ()))
 (cond (decide (a0.2.2.2.2.1 > a0.2.2.2.1))
 (some (false, ()))
 (ob (Ym a0.1.2.2.2.1) fun r3 =>
 (ob (Ni a0.2.2.1 r3.1 a0.1.1.1) fun r4 =>
 (cond (!r4.1)
 (some (false, ()))
 (ob (Li a0.2.2.1 a0.2.2.2.1) fun r5 =>
 (cond (!r5.1)
 (some (false, ()))
 (cond (decide (a0.2.2.2.2.2.1 ≥ 0))
 (cond (decide (a0.2.2.2.2.2.1 ≤ a0.1.1.1))
 (cond (decide (a0.2.2.2.2.2.2.1 ≥ 0))
 (some ((decide (a0.2.2.2.2.2.2.1 ≤ a0.2.2.2.1)), ()))
 (some (false, ())))
 (some (false, ())))
 (some (false, ()))))))))))))))))
def Kl (a0 : Ib) : Option DT :=
 (ob (Lm a0.1) fun r1 =>
 (cond (bl (ln ([] : List Ca) + ln a0.2.2.1) Qa)
 (some ((r1.1, a0.2.1, (ap [] a0.2.2.1), a0.2.2.2), ()))
 none))
def BC (t1 : Int) (t8 : He) (t9 : Int) (t10 : Int) : Option (JV ⊕ RY) :=
 (cond (decide (t10 < t9))
 (ob (Xa t8 t10) fun x3 =>
 (cond (x3.1 == t1)
 (some (.inr (.inr ((t10, ()), ()))))
 (some (.inl ((t1, t8, t9, (wr .i64 (t10 + 1)), ()), ())))))
 (some (.inr (.inl ((), ())))))
def NE := Ta fun x : JV => BC x.1.1 x.1.2.1 x.1.2.2.1 x.1.2.2.2.1
def DR (a0 : Jb) (a1 : Int) : Option Cc :=
 (ob (NE ((a1, a0.2.2.2.1, ((ln a0.2.2.2.1 : Nat) : Int), 0, ()), ())) (se (fun y4 => (some ((-1), ()))) (fun z5 => (some (z5.1.1, ())))))
def sort_Ints (x0 : Lc) : Option Gr := srt x0
def MC (t1 : Int) (t7 : Lc) (t8 : Int) (t9 : Int) : Option (((Int × UQ) × Unit) ⊕ Hk) :=
 (cond (decide (t9 < t8))
 (ob (Xa t7 t9) fun x3 =>
 (cond (x3 == t1)
 (some (.inr (.inr ((true, ()), ()))))
 (some (.inl ((t1, t7, t8, (wr .i64 (t9 + 1)), ()), ())))))
 (some (.inr (.inl ((), ())))))
def UE := Ta fun x : ((Int × UQ) × Unit) => MC x.1.1 x.1.2.1 x.1.2.2.1 x.1.2.2.2.1
def GR (a0 : Lc) (a1 : Int) : Option Xc :=
 (ob (UE ((a1, a0, ((ln a0 : Nat) : Int), 0, ()), ())) (se (fun y4 => (some (false, ()))) (fun z5 => (some (z5.1.1, ())))))
def Hy (t4 : Lc) (t11 : Lc) (t12 : Int) (t13 : Int) : Option (T9 ⊕ Y9) :=
 (cond (decide (t13 < t12))
 (cond (Af (ln t11) t13)
 (ob t11[(tn t13)]? fun x9 =>
 (cond (x9 != 0)
 (ob (GR t4 x9) fun r10 =>
 (cond (!r10.1)
 (cond (bl (ln t4 + ln ([x9] : List Int)) Qa)
 (some (.inl (((ap t4 ([x9] : List Int)), t11, t12, (wr .i64 (t13 + 1)), ()), ())))
 none)
 (some (.inl ((t4, t11, t12, (wr .i64 (t13 + 1)), ()), ())))))
 (some (.inl ((t4, t11, t12, (wr .i64 (t13 + 1)), ()), ())))))
 none)
 (some (.inr (.inl ((t4, ()), ())))))
def MB := Ta fun x : T9 => Hy x.1.1 x.1.2.1 x.1.2.2.1 x.1.2.2.2.1
def Yv (a0 : Lc) : Option Gr :=
 (ob (Wq a0) fun r1 =>
 (ob (sort_Ints r1.1) fun r2 =>
 (ob (MB (([], r2.1, ((ln r2.1 : Nat) : Int), 0, ()), ())) (se (fun y11 => (some (y11.1.1, ()))) (fun z12 => none)))))
def Iu (t2 : Unit) (t3 : Unit) (t4 : Lc) (t11 : He) (t12 : Int) (t13 : Int) (b2 : Ka) (b3 : Ka) : Option (((Unit × (Unit × (Lc × E4))) × CE) ⊕ Jax) :=
 (cond (decide (t13 < t12))
 (ob (Xa t11 t13) fun x5 =>
 (cond (x5.2.1.1 == 2)
 (cond (bl (ln t4 + ln ([x5.2.1.2.1] : List Int)) Qa)
 (some (.inl (((), (), (ap t4 ([x5.2.1.2.1] : List Int)), t11, t12, (wr .i64 (t13 + 1)), ()), (b2, ((Pc .i64 b3.1 x5.2.1.2.2.1), b3.2.1, ()), ()))))
 none)
 (cond (x5.2.1.1 == 8)
 (cond (bl (ln t4 + ln ([x5.2.1.2.1] : List Int)) Qa)
 (some (.inl (((), (), (ap t4 ([x5.2.1.2.1] : List Int)), t11, t12, (wr .i64 (t13 + 1)), ()), (b2, ((Pc .i64 b3.1 x5.2.1.2.2.1), b3.2.1, ()), ()))))
 none)
 (cond (bl (ln t4 + ln ([x5.2.1.2.1] : List Int)) Qa)
 (some (.inl (((), (), (ap t4 ([x5.2.1.2.1] : List Int)), t11, t12, (wr .i64 (t13 + 1)), ()), (b2, b3, ()))))
 none))))
 (some (.inr (.inl (((), (), t4, ()), (b2, b3, ()))))))
def Ey := Ta fun x : ((Unit × (Unit × (Lc × E4))) × CE) => Iu x.1.1 x.1.2.1 x.1.2.2.1 x.1.2.2.2.1 x.1.2.2.2.2.1 x.1.2.2.2.2.2.1 x.2.1 x.2.2.1
def Me (a0 : He) : Option WQ :=
 (ob (Tl a0) fun r1 =>
 (cond (!r1.1)
 (some ((0, [], ()), ()))
 (ob (Ey (((), (), [], a0, ((ln a0 : Nat) : Int), 0, ()), ((0, [], ()), (0, [], ()), ()))) (se (fun y6 => (ob (Yv y6.1.2.2.1) fun r8 =>
 (some ((y6.2.2.1.1, r8.1, ()), ())))) (fun z7 => none)))))
def Mu (t0 : Lc) (t1 : Lc) (t12 : Int) (t13 : Int) : Option (T9 ⊕ Hk) :=
 (cond (decide (t13 < t12))
 (ob (Xa t0 t13) fun x5 =>
 (ob (Xa t1 t13) fun x6 =>
 (cond (x5 != x6)
 (some (.inr (.inr ((false, ()), ()))))
 (some (.inl ((t0, t1, t12, (wr .i64 (t13 + 1)), ()), ()))))))
 (some (.inr (.inl ((), ())))))
def Ky := Ta fun x : T9 => Mu x.1.1 x.1.2.1 x.1.2.2.1 x.1.2.2.2.1
def CK (a0 : Lc) (a1 : Lc) : Option Xc :=
 (cond (((ln a0 : Nat) : Int) != ((ln a1 : Nat) : Int))
 (some (false, ()))
 (ob (Ky ((a0, a1, ((ln a0 : Nat) : Int), 0, ()), ())) (se (fun y7 => (some (true, ()))) (fun z8 => (some (z8.1.1, ()))))))
def Rr (a0 : Ka) (a1 : Ka) : Option Xc :=
 (cond (a0.1 == a1.1)
 (ob (CK a0.2.1 a1.2.1) fun r1 =>
 (some (r1.1, ())))
 (some (false, ())))
def Dl (a b : Ka) : Bool := (a.1 == b.1) && (a.2.1 == b.2.1)
def WaM (c : T Cf → T Cf → Option Bool) (a b : T Cf) : Option Xc := ob (c a b) fun x => some (x, ())
def AQ (c : T Cf → T Cf → Option Bool) (t2 : Unit) (t5 : (List (Int × ((T .o) × Unit)))) (t8 : (List (Int × ((T .o) × Unit)))) (t9 : Int) (t10 : Int) (b2 : (Int × ((T .o) × Unit))) : Option (((Unit × ((List (Int × ((T .o) × Unit))) × ((List (Int × ((T .o) × Unit))) × Va))) × ((Int × ((T .o) × Unit)) × Unit)) ⊕ ((((List (Int × ((T .o) × Unit))) × Unit) × Unit) ⊕ Fe)) :=
 (cond (decide (t10 < t9))
 (ob (Xa t8 t10) fun x7 =>
 (ob (WaM c b2 x7) fun r8 =>
 (cond (!r8.1)
 (cond (bl (ln t5 + ln ([x7] : List (Int × ((T .o) × Unit)))) Qa)
 (some (.inl (((), (ap t5 ([x7] : List (Int × ((T .o) × Unit)))), t8, t9, (wr .i64 (t10 + 1)), ()), (x7, ()))))
 none)
 (some (.inl (((), t5, t8, t9, (wr .i64 (t10 + 1)), ()), (x7, ())))))))
 (some (.inr (.inl ((t5, ()), ())))))
def XA (c : T Cf → T Cf → Option Bool) (x : ((Unit × ((List (Int × ((T .o) × Unit))) × ((List (Int × ((T .o) × Unit))) × Va))) × ((Int × ((T .o) × Unit)) × Unit))) : Option ((((List (Int × ((T .o) × Unit))) × Unit) × Unit) ⊕ Fe) := Ta (fun x : ((Unit × ((List (Int × ((T .o) × Unit))) × ((List (Int × ((T .o) × Unit))) × Va))) × ((Int × ((T .o) × Unit)) × Unit)) => AQ c x.1.1 x.1.2.1 x.1.2.2.1 x.1.2.2.2.1 x.1.2.2.2.2.1 x.2.1) x
def Xax (c : T Cf → T Cf → Option Bool) (a0 : (Int × ((T .o) × Unit))) (a1 : (List (Int × ((T .o) × Unit)))) : Option ((List (Int × ((T .o) × Unit))) × Unit) :=
 (ob (XA c (((), ([] : List (Int × ((T .o) × Unit))), a1, ((ln a1 : Nat) : Int), 0, ()), (a0, ()))) (se (fun y9 => (some (y9.1.1, ()))) (fun z10 => none)))
def Kf (a0 : Ka) (a1 : List Ka) : Option QY := Wax Dl a0 a1
def YE (a0 : Jb) (a1 : Int) : Option (Jb × QY) :=
 (ob (Lm a0) fun r1 =>
 (ob (DR a0 a1) fun r2 =>
 (cond (Ld (ln r1.1.2.2.2.1) 0 r2.1)
 (cond (Ld (ln r1.1.2.2.2.1) (wr .i64 (r2.1 + 1)) ((ln r1.1.2.2.2.1 : Nat) : Int))
 (cond (bl (ln (Gb r1.1.2.2.2.1 (tn 0) (tn r2.1)) + ln (Gb r1.1.2.2.2.1 (tn (wr .i64 (r2.1 + 1))) (tn ((ln r1.1.2.2.2.1 : Nat) : Int)))) Qa)
 (ob (Me a0.2.2.2.1) fun r3 =>
 (ob (Me (ap (Gb r1.1.2.2.2.1 (tn 0) (tn r2.1)) (Gb r1.1.2.2.2.1 (tn (wr .i64 (r2.1 + 1))) (tn ((ln r1.1.2.2.2.1 : Nat) : Int))))) fun r4 =>
 (ob (Kf r3.1 ([r4.1] : List Ka)) fun r5 =>
 (some ((r1.1.1, r1.1.2.1, r1.1.2.2.1, (ap (Gb r1.1.2.2.2.1 (tn 0) (tn r2.1)) (Gb r1.1.2.2.2.1 (tn (wr .i64 (r2.1 + 1))) (tn ((ln r1.1.2.2.2.1 : Nat) : Int)))), r1.1.2.2.2.2), r5.1, ())))))
 none)
 none)
 none)))
def Hu (t5 : Int) (t21 : He) (t22 : Int) (t23 : Int) : Option (JV ⊕ Lx) :=
 (cond (decide (t23 < t22))
 (ob (Xa t21 t23) fun x16 =>
 (cond (x16.2.1.1 == 3)
 (cond (decide (0 ≤ x16.2.1.2.2.2.1))
 (some (.inl (((Pc .i64 t5 (Ra .i64 1 x16.2.1.2.2.2.1)), t21, t22, (wr .i64 (t23 + 1)), ()), ())))
 none)
 (some (.inl ((t5, t21, t22, (wr .i64 (t23 + 1)), ()), ())))))
 (some (.inr (.inl ((t5, ()), ())))))
def Lk := Ta fun x : JV => Hu x.1.1 x.1.2.1 x.1.2.2.1 x.1.2.2.2.1
def FA (a0 : Int) (a1 : He) : Option Cc :=
 (cond (decide (a0 ≥ 0))
 (cond (decide (a0 ≤ 15))
 (ob (Tl a1) fun r1 =>
 (cond (!r1.1)
 (some ((Pc .i64 1 a0), ()))
 (ob (Lk (((Pc .i64 1 a0), a1, ((ln a1 : Nat) : Int), 0, ()), ())) (se (fun y5 => (some (y5.1.1, ()))) (fun z6 => none)))))
 (ob (Tl a1) fun r7 =>
 (cond (!r7.1)
 (some (1, ()))
 (ob (Lk ((1, a1, ((ln a1 : Nat) : Int), 0, ()), ())) (se (fun y11 => (some (y11.1.1, ()))) (fun z12 => none))))))
 (ob (Tl a1) fun r13 =>
 (cond (!r13.1)
 (some (1, ()))
 (ob (Lk ((1, a1, ((ln a1 : Nat) : Int), 0, ()), ())) (se (fun y17 => (some (y17.1.1, ()))) (fun z18 => none))))))
def MU (t1 : Int) (t2 : Int) (t3 : Unit) (t7 : Int) (b3 : Ac) : Option (Lah ⊕ RY) :=
 (cond (decide (t7 > 0))
 (ob (Ye t1 t7) fun r7 =>
 (cond (r7.1 == 1)
 (ob (Xa b3.2.1 t7) fun x8 =>
 (ob (Xa x8 t2) fun x9 =>
 (cond (x9.1 != 1)
 (some (.inr (.inr ((t7, ()), ()))))
 (some (.inl ((t1, t2, (), (wr .i64 (t7 - 1)), ()), (b3, ())))))))
 (some (.inl ((t1, t2, (), (wr .i64 (t7 - 1)), ()), (b3, ()))))))
 (some (.inr (.inl ((), ())))))
def Zi := Ta fun x : Lah => MU x.1.1 x.1.2.1 x.1.2.2.1 x.1.2.2.2.1 x.2.1
def VE (a0 : Ac) (a1 : Int) (a2 : Int) : Option Cc :=
 (ob (Zi ((a1, a2, (), (wr .i64 (((ln a0.2.1 : Nat) : Int) - 1)), ()), (a0, ()))) (se (fun y10 => (some (0, ()))) (fun z11 => (some (z11.1.1, ())))))
def LU (a0 : Ac) (a1 : Int) (a2 : Int) : Option Cc :=
 (ob (DA a0) fun r1 =>
 (cond (!r1.1)
 (some ((-1), ()))
 (cond (decide (a2 < 0))
 (some ((-1), ()))
 (cond (decide (a2 ≥ a0.1))
 (some ((-1), ()))
 (ob (VE a0 a1 a2) fun r2 =>
 (some (r2.1, ())))))))
def YJ (a0 : Ac) (a1 : Int) (a2 : Int) : Option YM :=
 (ob (LU a0 a1 a2) fun r1 =>
 (cond (decide (r1.1 < 0))
 (some ((0, 0, 0, 0, ()), ()))
 (ob (Xa a0.2.1 r1.1) fun x2 =>
 (ob (Xa x2 a2) fun x3 =>
 (some (x3, ()))))))
def Du (t1 : Int) (t2 : Int) (t4 : Int) (t5 : Unit) (t12 : Int) (t26 : Be) (t27 : Int) (t28 : Int) (b5 : Ad) : Option (((Int × (Int × (Int × (Unit × XB)))) × IG) ⊕ (((Int × (Int × Fe)) × IG) ⊕ XM)) :=
 (cond (decide (t28 < t27))
 (ob (Xa t26 t28) fun x10 =>
 (ob (Vv x10) fun r11 =>
 (cond (!r11.1)
 (some (.inr (.inr ((0, 0, ()), ()))))
 (cond (decide (x10.1 ≥ (wr .i64 (t2 + b5.1))))
 (some (.inr (.inr ((2, (wr .i64 (t2 + b5.1)), ()), ()))))
 (cond (x10.2.1 == t1)
 (cond (!x10.2.2.1)
 (some (.inr (.inr ((1, x10.1, ()), ()))))
 (cond (x10.2.1 == t1)
 (some (.inl ((t1, t2, t4, (), t12, t26, t27, (wr .i64 (t28 + 1)), ()), (b5, ()))))
 (cond x10.2.2.1
 (cond (b5.2.2.1 == 1)
 (some (.inr (.inr ((2, x10.1, ()), ()))))
 (cond (decide (0 ≤ x10.2.1))
 (some (.inl ((t1, t2, t4, (), (Pc .i64 t12 (Ra .i64 1 x10.2.1)), t26, t27, (wr .i64 (t28 + 1)), ()), (b5, ()))))
 none))
 (cond (b5.2.2.1 == 2)
 (ob (Ye t12 x10.2.1) fun r12 =>
 (cond (r12.1 == 1)
 (some (.inr (.inr ((2, x10.1, ()), ()))))
 (some (.inl ((t1, t2, t4, (), t12, t26, t27, (wr .i64 (t28 + 1)), ()), (b5, ()))))))
 (some (.inl ((t1, t2, t4, (), t12, t26, t27, (wr .i64 (t28 + 1)), ()), (b5, ()))))))))
 (cond (x10.2.1 == t1)
 (some (.inl ((t1, t2, t4, (), t12, t26, t27, (wr .i64 (t28 + 1)), ()), (b5, ()))))
 (cond x10.2.2.1
 (cond (b5.2.2.1 == 1)
 (some (.inr (.inr ((2, x10.1, ()), ()))))
 (cond (decide (0 ≤ x10.2.1))
 (some (.inl ((t1, t2, t4, (), (Pc .i64 t12 (Ra .i64 1 x10.2.1)), t26, t27, (wr .i64 (t28 + 1)), ()), (b5, ()))))
 none))
 (cond (b5.2.2.1 == 2)
 (ob (Ye t12 x10.2.1) fun r13 =>
 (cond (r13.1 == 1)
 (some (.inr (.inr ((2, x10.1, ()), ()))))
 (some (.inl ((t1, t2, t4, (), t12, t26, t27, (wr .i64 (t28 + 1)), ()), (b5, ()))))))
 (some (.inl ((t1, t2, t4, (), t12, t26, t27, (wr .i64 (t28 + 1)), ()), (b5, ()))))))))))))
 (some (.inr (.inl ((t2, t4, (), ()), (b5, ()))))))
def Yx := Ta fun x : ((Int × (Int × (Int × (Unit × XB)))) × IG) => Du x.1.1 x.1.2.1 x.1.2.2.1 x.1.2.2.2.1 x.1.2.2.2.2.1 x.1.2.2.2.2.2.1 x.1.2.2.2.2.2.2.1 x.1.2.2.2.2.2.2.2.1 x.2.1
def Zz (a0 : Ad) (a1 : Int) (a2 : Int) (a3 : Be) (a4 : Int) : Option Va :=
 (ob (EA a0) fun r1 =>
 (cond (!r1.1)
 (some (0, 0, ()))
 (cond (decide (a2 < 0))
 (some (0, 0, ()))
 (cond (decide (a2 > 1000000))
 (some (0, 0, ()))
 (ob (Yx ((a1, a2, a4, (), 0, a3, ((ln a3 : Nat) : Int), 0, ()), (a0, ()))) (se (fun y14 => (cond (decide (y14.1.2.1 ≥ (wr .i64 (y14.1.1 + y14.2.1.1))))
 (some (2, (wr .i64 (y14.1.1 + y14.2.1.1)), ()))
 (some (0, 0, ())))) (fun z15 => (some z15.1))))))))
def ER (a0 : Db) : Option YM :=
 (ob (Uo a0) fun r1 =>
 (cond (!r1.1)
 (some (a0, ()))
 (cond (a0.1 == 6)
 (some ((2, 0, a0.2.2.1, 0, ()), ()))
 (some ((3, 0, 0, a0.2.2.2.1, ()), ())))))
def DC (a0 : Int) : Option Xc :=
 (cond (decide (a0 ≥ 1))
 (cond (decide (a0 ≤ 36))
 (some (true, ()))
 (cond (a0 == 39)
 (some (true, ()))
 (some ((a0 == 42), ()))))
 (cond (a0 == 39)
 (some (true, ()))
 (some ((a0 == 42), ()))))
def Mt (a0 : Jb) (a1 : Db) : Option (Jb × YM) :=
 (cond (a1.1 == 2)
 (cond (a1.2.1 == 0)
 (some (a0, (a1, ())))
 (cond a0.2.2.2.2.2.1
 (ob (DC a1.2.1) fun r1 =>
 (cond r1.1
 (cond (decide (a1.2.1 ≤ 26))
 (cond ((Mb .i64 (Pc .i64 a1.2.2.1 a0.2.2.2.2.1) 2) == 0)
 (some ((a0.1, a0.2.1, a0.2.2.1, a0.2.2.2.1, 0, r1.1, a0.2.2.2.2.2.2), ((a1.1, a1.2.1, 2, a1.2.2.2), ())))
 (some ((a0.1, a0.2.1, a0.2.2.1, a0.2.2.2.1, 0, r1.1, a0.2.2.2.2.2.2), ((a1.1, a1.2.1, (Pc .i64 a1.2.2.1 a0.2.2.2.2.1), a1.2.2.2), ()))))
 (some ((a0.1, a0.2.1, a0.2.2.1, a0.2.2.2.1, 0, r1.1, a0.2.2.2.2.2.2), ((a1.1, a1.2.1, (Pc .i64 a1.2.2.1 a0.2.2.2.2.1), a1.2.2.2), ()))))
 (some ((a0.1, a0.2.1, a0.2.2.1, a0.2.2.2.1, 0, r1.1, a0.2.2.2.2.2.2), ((a1.1, a1.2.1, (Pc .i64 a1.2.2.1 a0.2.2.2.2.1), a1.2.2.2), ())))))
 (some ((a0.1, a0.2.1, a0.2.2.1, a0.2.2.2.1, 0, false, a0.2.2.2.2.2.2), ((a1.1, a1.2.1, (Pc .i64 a1.2.2.1 a0.2.2.2.2.1), a1.2.2.2), ())))))
 (cond (a1.1 == 4)
 (cond (decide (0 ≤ a1.2.2.2.1))
 (some ((a0.1, a0.2.1, (Za .i64 a0.2.2.1 (Ra .i64 1 a1.2.2.2.1)), a0.2.2.2), (a1, ())))
 none)
 (cond (a1.1 == 5)
 (cond (decide (0 ≤ a1.2.2.2.1))
 (some ((a0.1, a0.2.1, (Mb .i64 (Ra .i64 1 a1.2.2.2.1) 1), a0.2.2.2), (a1, ())))
 none)
 (cond (a1.1 == 8)
 (cond ((Wa .i64 a0.2.2.2.2.1 a1.2.2.1) == a1.2.2.1)
 (some ((a0.1, a0.2.1, a0.2.2.1, a0.2.2.2.1, (Mb .i64 a0.2.2.2.2.1 a1.2.2.1), a0.2.2.2.2.2), (a1, ())))
 (some ((a0.1, a0.2.1, a0.2.2.1, a0.2.2.2.1, (Pc .i64 a0.2.2.2.2.1 a1.2.2.1), a0.2.2.2.2.2), (a1, ()))))
 (cond (a1.1 == 10)
 (some ((a0.1, a0.2.1, a0.2.2.1, a0.2.2.2.1, a0.2.2.2.2.1, (!a0.2.2.2.2.2.1), a0.2.2.2.2.2.2), (a1, ())))
 (some (a0, (a1, ()))))))))
def Vr (t4 : Unit) (t5 : Unit) (t6 : Lc) (t15 : Ke) (t16 : Int) (t17 : Int) (b4 : Ka) (b5 : Ka) : Option (((Unit × (Unit × (Lc × Er))) × CE) ⊕ Jax) :=
 (cond (decide (t17 < t16))
 (ob (Xa t15 t17) fun x4 =>
 (cond (bl (ln t6 + ln ([x4.1] : List Int)) Qa)
 (some (.inl (((), (), (ap t6 ([x4.1] : List Int)), t15, t16, (wr .i64 (t17 + 1)), ()), (b4, ((Pc .i64 b5.1 x4.2.1), b5.2.1, ()), ()))))
 none))
 (some (.inr (.inl (((), (), t6, ()), (b4, b5, ()))))))
def Dw := Ta fun x : ((Unit × (Unit × (Lc × Er))) × CE) => Vr x.1.1 x.1.2.1 x.1.2.2.1 x.1.2.2.2.1 x.1.2.2.2.2.1 x.1.2.2.2.2.2.1 x.2.1 x.2.2.1
def Zf (a0 : Ka) (a1 : Ke) : Option WQ :=
 (ob (Wq a0.2.1) fun r1 =>
 (ob (Dw (((), (), r1.1, a1, ((ln a1 : Nat) : Int), 0, ()), ((0, [], ()), (a0.1, [], ()), ()))) (se (fun y5 => (ob (Yv y5.1.2.2.1) fun r7 =>
 (some ((y5.2.2.1.1, r7.1, ()), ())))) (fun z6 => none))))
def Km (t5 : Unit) (t6 : Bl) (t7 : Ke) (t22 : Th) (t23 : Int) (t24 : Int) (b5 : Ka) : Option (((Unit × (Bl × (Ke × LV))) × WQ) ⊕ Iax) :=
 (cond (decide (t24 < t23))
 (ob (Xa t22 t24) fun x25 =>
 (cond (x25.1 == 0)
 (cond (bl (ln ([] : List Va) + ln t7) Qa)
 (cond (bl (ln (ap [] t7) + ln ([x25.2] : List Va)) Qa)
 (ob (Zf b5 (ap (ap [] t7) ([x25.2] : List Va))) fun r26 =>
 (cond (bl (ln t6 + ln ([r26.1] : List Ka)) Qa)
 (ob (Zf b5 t7) fun r27 =>
 (cond (bl (ln (ap t6 ([r26.1] : List Ka)) + ln ([r27.1] : List Ka)) Qa)
 (some (.inl (((), (ap (ap t6 ([r26.1] : List Ka)) ([r27.1] : List Ka)), t7, t22, t23, (wr .i64 (t24 + 1)), ()), (b5, ()))))
 none))
 none))
 none)
 none)
 (cond (x25.1 == 1)
 (cond (bl (ln t7 + ln ([x25.2] : List Va)) Qa)
 (ob (Zf b5 (ap t7 ([x25.2] : List Va))) fun r28 =>
 (cond (bl (ln t6 + ln ([r28.1] : List Ka)) Qa)
 (some (.inl (((), (ap t6 ([r28.1] : List Ka)), (ap t7 ([x25.2] : List Va)), t22, t23, (wr .i64 (t24 + 1)), ()), (b5, ()))))
 none))
 none)
 (cond (x25.1 == 2)
 (ob (YI t7 x25.2) fun r29 =>
 (cond (Ld (ln t7) 0 r29.1)
 (cond (Ld (ln t7) (wr .i64 (r29.1 + 1)) ((ln t7 : Nat) : Int))
 (cond (bl (ln (Gb t7 (tn 0) (tn r29.1)) + ln (Gb t7 (tn (wr .i64 (r29.1 + 1))) (tn ((ln t7 : Nat) : Int)))) Qa)
 (ob (Zf b5 (ap (Gb t7 (tn 0) (tn r29.1)) (Gb t7 (tn (wr .i64 (r29.1 + 1))) (tn ((ln t7 : Nat) : Int))))) fun r30 =>
 (cond (bl (ln t6 + ln ([r30.1] : List Ka)) Qa)
 (some (.inl (((), (ap t6 ([r30.1] : List Ka)), (ap (Gb t7 (tn 0) (tn r29.1)) (Gb t7 (tn (wr .i64 (r29.1 + 1))) (tn ((ln t7 : Nat) : Int)))), t22, t23, (wr .i64 (t24 + 1)), ()), (b5, ()))))
 none))
 none)
 none)
 none))
 (ob (Zf b5 t7) fun r31 =>
 (cond (bl (ln t6 + ln ([r31.1] : List Ka)) Qa)
 (some (.inl (((), (ap t6 ([r31.1] : List Ka)), t7, t22, t23, (wr .i64 (t24 + 1)), ()), (b5, ()))))
 none))))))
 (some (.inr (.inl ((t6, ()), ())))))
def Gp := Ta fun x : ((Unit × (Bl × (Ke × LV))) × WQ) => Km x.1.1 x.1.2.1 x.1.2.2.1 x.1.2.2.2.1 x.1.2.2.2.2.1 x.1.2.2.2.2.2.1 x.2.1
def Rk (a0 : He) (a1 : Th) : Option QY :=
 (ob (Tl a0) fun r1 =>
 (cond (!r1.1)
 (some ([], ()))
 (ob (QE a1) fun r2 =>
 (cond (!r2.1)
 (some ([], ()))
 (ob (Me a0) fun r3 =>
 (ob (Gp (((), [], [], a1, ((ln a1 : Nat) : Int), 0, ()), (r3.1, ()))) (se (fun y32 => (some (y32.1.1, ()))) (fun z33 => none))))))))
def Mi (a0 : Jb) (a1 : Int) (a2 : Bool) : Option (Jb × QY) :=
 (ob (Lm a0) fun r1 =>
 (ob (FA a0.2.2.1 a0.2.2.2.1) fun r2 =>
 (ob (VE a0.1 r2.1 a1) fun r3 =>
 (ob (Xa a0.1.2.1 r3.1) fun x4 =>
 (ob (Xa x4 a1) fun x5 =>
 (cond a2
 (ob (ER x5) fun r6 =>
 (ob (Mt r1.1 r6.1) fun r7 =>
 (cond (bl (ln r7.1.2.2.2.1 + ln ([(a1, r7.2.1, ())] : List Sa)) Qa)
 (cond (r7.2.1.1 == 9)
 (cond (decide (r7.2.1.2.2.2.1 < ((ln a0.2.1 : Nat) : Int)))
 (ob (Xa a0.2.1 r7.2.1.2.2.2.1) fun x8 =>
 (ob (Rk (ap r7.1.2.2.2.1 ([(a1, r7.2.1, ())] : List Sa)) x8) fun r9 =>
 (ob (Me (ap r7.1.2.2.2.1 ([(a1, r7.2.1, ())] : List Sa))) fun r10 =>
 (cond (bl (ln r9.1 + ln ([r10.1] : List Ka)) Qa)
 (ob (Me a0.2.2.2.1) fun r11 =>
 (ob (Kf r11.1 (ap r9.1 ([r10.1] : List Ka))) fun r12 =>
 (some ((r7.1.1, r7.1.2.1, r7.1.2.2.1, (ap r7.1.2.2.2.1 ([(a1, r7.2.1, ())] : List Sa)), r7.1.2.2.2.2), r12.1, ()))))
 none))))
 (ob (Me (ap r7.1.2.2.2.1 ([(a1, r7.2.1, ())] : List Sa))) fun r13 =>
 (cond (bl (ln ([] : List Ka) + ln ([r13.1] : List Ka)) Qa)
 (ob (Me a0.2.2.2.1) fun r14 =>
 (ob (Kf r14.1 (ap [] ([r13.1] : List Ka))) fun r15 =>
 (some ((r7.1.1, r7.1.2.1, r7.1.2.2.1, (ap r7.1.2.2.2.1 ([(a1, r7.2.1, ())] : List Sa)), r7.1.2.2.2.2), r15.1, ()))))
 none)))
 (ob (Me (ap r7.1.2.2.2.1 ([(a1, r7.2.1, ())] : List Sa))) fun r16 =>
 (cond (bl (ln ([] : List Ka) + ln ([r16.1] : List Ka)) Qa)
 (ob (Me a0.2.2.2.1) fun r17 =>
 (ob (Kf r17.1 (ap [] ([r16.1] : List Ka))) fun r18 =>
 (some ((r7.1.1, r7.1.2.1, r7.1.2.2.1, (ap r7.1.2.2.2.1 ([(a1, r7.2.1, ())] : List Sa)), r7.1.2.2.2.2), r18.1, ()))))
 none)))
 none)))
 (ob (IT x5) fun r19 =>
 (ob (Mt r1.1 r19.1) fun r20 =>
 (cond (bl (ln r20.1.2.2.2.1 + ln ([(a1, r20.2.1, ())] : List Sa)) Qa)
 (cond (r20.2.1.1 == 9)
 (cond (decide (r20.2.1.2.2.2.1 < ((ln a0.2.1 : Nat) : Int)))
 (ob (Xa a0.2.1 r20.2.1.2.2.2.1) fun x21 =>
 (ob (Rk (ap r20.1.2.2.2.1 ([(a1, r20.2.1, ())] : List Sa)) x21) fun r22 =>
 (ob (Me (ap r20.1.2.2.2.1 ([(a1, r20.2.1, ())] : List Sa))) fun r23 =>
 (cond (bl (ln r22.1 + ln ([r23.1] : List Ka)) Qa)
 (ob (Me a0.2.2.2.1) fun r24 =>
 (ob (Kf r24.1 (ap r22.1 ([r23.1] : List Ka))) fun r25 =>
 (some ((r20.1.1, r20.1.2.1, r20.1.2.2.1, (ap r20.1.2.2.2.1 ([(a1, r20.2.1, ())] : List Sa)), r20.1.2.2.2.2), r25.1, ()))))
 none))))
 (ob (Me (ap r20.1.2.2.2.1 ([(a1, r20.2.1, ())] : List Sa))) fun r26 =>
 (cond (bl (ln ([] : List Ka) + ln ([r26.1] : List Ka)) Qa)
 (ob (Me a0.2.2.2.1) fun r27 =>
 (ob (Kf r27.1 (ap [] ([r26.1] : List Ka))) fun r28 =>
 (some ((r20.1.1, r20.1.2.1, r20.1.2.2.1, (ap r20.1.2.2.2.1 ([(a1, r20.2.1, ())] : List Sa)), r20.1.2.2.2.2), r28.1, ()))))
 none)))
 (ob (Me (ap r20.1.2.2.2.1 ([(a1, r20.2.1, ())] : List Sa))) fun r29 =>
 (cond (bl (ln ([] : List Ka) + ln ([r29.1] : List Ka)) Qa)
 (ob (Me a0.2.2.2.1) fun r30 =>
 (ob (Kf r30.1 (ap [] ([r29.1] : List Ka))) fun r31 =>
 (some ((r20.1.1, r20.1.2.1, r20.1.2.2.1, (ap r20.1.2.2.2.1 ([(a1, r20.2.1, ())] : List Sa)), r20.1.2.2.2.2), r31.1, ()))))
 none)))
 none)))))))))
def Ki (a0 : Ib) : Option (Ib × Gax) :=
 (cond (Af (ln a0.2.2.1) 0)
 (ob a0.2.2.1[(tn 0)]? fun x1 =>
 (cond (Ld (ln a0.2.2.1) 1 ((ln a0.2.2.1 : Nat) : Int))
 (cond (!x1.2.2.1)
 (cond (a0.2.2.2.2.2.1 == (wr .i64 (x1.2.1 + 1)))
 (ob (YE a0.1 x1.2.1) fun r2 =>
 (cond (bl (ln ([] : List Ca) + ln (Gb a0.2.2.1 (tn 1) (tn ((ln a0.2.2.1 : Nat) : Int)))) Qa)
 (some ((r2.1, a0.2.1, (ap [] (Gb a0.2.2.1 (tn 1) (tn ((ln a0.2.2.1 : Nat) : Int)))), a0.2.2.2.1, (max a0.2.2.2.2.1 x1.1), a0.2.2.2.2.2.1, x1.1, a0.2.2.2.2.2.2.2), (r2.2.1, true, ())))
 none))
 (ob (YE a0.1 x1.2.1) fun r3 =>
 (cond (bl (ln ([] : List Ca) + ln (Gb a0.2.2.1 (tn 1) (tn ((ln a0.2.2.1 : Nat) : Int)))) Qa)
 (some ((r3.1, a0.2.1, (ap [] (Gb a0.2.2.1 (tn 1) (tn ((ln a0.2.2.1 : Nat) : Int)))), a0.2.2.2.1, (max a0.2.2.2.2.1 x1.1), a0.2.2.2.2.2), (r3.2.1, true, ())))
 none)))
 (ob (FA a0.1.2.2.1 a0.1.2.2.2.1) fun r4 =>
 (ob (YJ a0.1.1 r4.1 x1.2.1) fun r5 =>
 (ob (Uo r5.1) fun r6 =>
 (cond r6.1
 (cond (a0.2.2.2.2.2.1 != (wr .i64 (x1.2.1 + 1)))
 (ob (Zz a0.2.1 x1.2.1 x1.1 (Gb a0.2.2.1 (tn 1) (tn ((ln a0.2.2.1 : Nat) : Int))) a0.2.2.2.1) fun r7 =>
 (cond (r7.1 == 0)
 (some (a0, ([], false, ())))
 (cond (r7.1 == 1)
 (ob (Mi a0.1 x1.2.1 false) fun r8 =>
 (cond (bl (ln ([] : List Ca) + ln (Gb a0.2.2.1 (tn 1) (tn ((ln a0.2.2.1 : Nat) : Int)))) Qa)
 (some ((r8.1, a0.2.1, (ap [] (Gb a0.2.2.1 (tn 1) (tn ((ln a0.2.2.1 : Nat) : Int)))), a0.2.2.2.1, (max (max a0.2.2.2.2.1 x1.1) r7.2.1), (wr .i64 (x1.2.1 + 1)), x1.1, a0.2.2.2.2.2.2.2), (r8.2.1, true, ())))
 none))
 (cond (r7.1 == 2)
 (ob (Mi a0.1 x1.2.1 true) fun r9 =>
 (cond (bl (ln ([] : List Ca) + ln (Gb a0.2.2.1 (tn 1) (tn ((ln a0.2.2.1 : Nat) : Int)))) Qa)
 (some ((r9.1, a0.2.1, (ap [] (Gb a0.2.2.1 (tn 1) (tn ((ln a0.2.2.1 : Nat) : Int)))), a0.2.2.2.1, (max (max a0.2.2.2.2.1 x1.1) r7.2.1), 0, a0.2.2.2.2.2.2), (r9.2.1, true, ())))
 none))
 (ob (Mi a0.1 x1.2.1 false) fun r10 =>
 (cond (bl (ln ([] : List Ca) + ln (Gb a0.2.2.1 (tn 1) (tn ((ln a0.2.2.1 : Nat) : Int)))) Qa)
 (some ((r10.1, a0.2.1, (ap [] (Gb a0.2.2.1 (tn 1) (tn ((ln a0.2.2.1 : Nat) : Int)))), a0.2.2.2.1, (max (max a0.2.2.2.2.1 x1.1) r7.2.1), a0.2.2.2.2.2), (r10.2.1, true, ())))
 none))))))
 (cond (decide ((wr .i64 (x1.1 - a0.2.2.2.2.2.2.1)) ≥ a0.2.1.2.1))
 (ob (Zz a0.2.1 x1.2.1 x1.1 (Gb a0.2.2.1 (tn 1) (tn ((ln a0.2.2.1 : Nat) : Int))) a0.2.2.2.1) fun r11 =>
 (cond (r11.1 == 0)
 (some (a0, ([], false, ())))
 (cond (r11.1 == 1)
 (ob (Mi a0.1 x1.2.1 false) fun r12 =>
 (cond (bl (ln ([] : List Ca) + ln (Gb a0.2.2.1 (tn 1) (tn ((ln a0.2.2.1 : Nat) : Int)))) Qa)
 (some ((r12.1, a0.2.1, (ap [] (Gb a0.2.2.1 (tn 1) (tn ((ln a0.2.2.1 : Nat) : Int)))), a0.2.2.2.1, (max (max a0.2.2.2.2.1 x1.1) r11.2.1), (wr .i64 (x1.2.1 + 1)), x1.1, a0.2.2.2.2.2.2.2), (r12.2.1, true, ())))
 none))
 (cond (r11.1 == 2)
 (ob (Mi a0.1 x1.2.1 true) fun r13 =>
 (cond (bl (ln ([] : List Ca) + ln (Gb a0.2.2.1 (tn 1) (tn ((ln a0.2.2.1 : Nat) : Int)))) Qa)
 (some ((r13.1, a0.2.1, (ap [] (Gb a0.2.2.1 (tn 1) (tn ((ln a0.2.2.1 : Nat) : Int)))), a0.2.2.2.1, (max (max a0.2.2.2.2.1 x1.1) r11.2.1), 0, a0.2.2.2.2.2.2), (r13.2.1, true, ())))
 none))
 (ob (Mi a0.1 x1.2.1 false) fun r14 =>
 (cond (bl (ln ([] : List Ca) + ln (Gb a0.2.2.1 (tn 1) (tn ((ln a0.2.2.1 : Nat) : Int)))) Qa)
 (some ((r14.1, a0.2.1, (ap [] (Gb a0.2.2.1 (tn 1) (tn ((ln a0.2.2.1 : Nat) : Int)))), a0.2.2.2.1, (max (max a0.2.2.2.2.1 x1.1) r11.2.1), a0.2.2.2.2.2), (r14.2.1, true, ())))
 none))))))
 (cond ((1 : Int) == 0)
 (some (a0, ([], false, ())))
 (cond ((1 : Int) == 1)
 (ob (Mi a0.1 x1.2.1 false) fun r15 =>
 (cond (bl (ln ([] : List Ca) + ln (Gb a0.2.2.1 (tn 1) (tn ((ln a0.2.2.1 : Nat) : Int)))) Qa)
 (some ((r15.1, a0.2.1, (ap [] (Gb a0.2.2.1 (tn 1) (tn ((ln a0.2.2.1 : Nat) : Int)))), a0.2.2.2.1, (max (max a0.2.2.2.2.1 x1.1) x1.1), (wr .i64 (x1.2.1 + 1)), x1.1, a0.2.2.2.2.2.2.2), (r15.2.1, true, ())))
 none))
 (cond ((1 : Int) == 2)
 (ob (Mi a0.1 x1.2.1 true) fun r16 =>
 (cond (bl (ln ([] : List Ca) + ln (Gb a0.2.2.1 (tn 1) (tn ((ln a0.2.2.1 : Nat) : Int)))) Qa)
 (some ((r16.1, a0.2.1, (ap [] (Gb a0.2.2.1 (tn 1) (tn ((ln a0.2.2.1 : Nat) : Int)))), a0.2.2.2.1, (max (max a0.2.2.2.2.1 x1.1) x1.1), 0, a0.2.2.2.2.2.2), (r16.2.1, true, ())))
 none))
 (ob (Mi a0.1 x1.2.1 false) fun r17 =>
 (cond (bl (ln ([] : List Ca) + ln (Gb a0.2.2.1 (tn 1) (tn ((ln a0.2.2.1 : Nat) : Int)))) Qa)
 (some ((r17.1, a0.2.1, (ap [] (Gb a0.2.2.1 (tn 1) (tn ((ln a0.2.2.1 : Nat) : Int)))), a0.2.2.2.1, (max (max a0.2.2.2.2.1 x1.1) x1.1), a0.2.2.2.2.2), (r17.2.1, true, ())))
 none)))))))
 (ob (Mi a0.1 x1.2.1 false) fun r18 =>
 (cond (bl (ln ([] : List Ca) + ln (Gb a0.2.2.1 (tn 1) (tn ((ln a0.2.2.1 : Nat) : Int)))) Qa)
 (some ((r18.1, a0.2.1, (ap [] (Gb a0.2.2.1 (tn 1) (tn ((ln a0.2.2.1 : Nat) : Int)))), a0.2.2.2.1, (max a0.2.2.2.2.1 x1.1), a0.2.2.2.2.2), (r18.2.1, true, ())))
 none)))))))
 none))
 none)
def DK (t0 : Bh) (t1 : Int) (t9 : (Bl × Int)) (t10 : Int) (t11 : Int) : Option (((Bh × (Int × ((Bl × Int) × Va))) × Unit) ⊕ (((Bh × Unit) × Unit) ⊕ Fe)) :=
 (cond (decide (t11 < t10))
 (cond (Af (ln t9.1) t11)
 (cond (Nat.beq (tn t11) (tn t9.2))
 (ob t9.1[(tn t11)]? fun x4 =>
 (cond (bl (ln t0 + ln ([(t1, x4, ())] : List Qe)) Qa)
 (some (.inl (((ap t0 ([(t1, x4, ())] : List Qe)), t1, (t9.1, ((((tn t11) + 1) : Nat) : Int)), t10, (wr .i64 (t11 + 1)), ()), ())))
 none))
 none)
 none)
 (some (.inr (.inl ((t0, ()), ())))))
def NL := Ta fun x : ((Bh × (Int × ((Bl × Int) × Va))) × Unit) => DK x.1.1 x.1.2.1 x.1.2.2.1 x.1.2.2.2.1 x.1.2.2.2.2.1
def WR (a0 : Bh) (a1 : Int) (a2 : Bl) : Option (Bh × Unit) :=
 (ob (NL ((a0, a1, (a2, 0), ((ln a2 : Nat) : Int), 0, ()), ())) (se (fun y5 => (some (y5.1.1, ()))) (fun z6 => none)))
def Uh (t6 : Unit) (t9 : Unit) (t10 : Bh) (b6 : Ib) (b9 : Ib) : Option (Kax ⊕ (Kax ⊕ Fe)) :=
 (cond (decide (((ln b9.2.2.1 : Nat) : Int) > 0))
 (ob (Ki b9) fun r25 =>
 (cond (!r25.2.2.1)
 (some (.inr (.inl (((), (), t10, ()), (b6, r25.1, ())))))
 (ob (WR t10 r25.1.2.2.2.2.1 r25.2.1) fun r26 =>
 (some (.inl (((), (), r26.1, ()), (b6, r25.1, ())))))))
 (some (.inr (.inl (((), (), t10, ()), (b6, b9, ()))))))
def Vg := Ta fun x : Kax => Uh x.1.1 x.1.2.1 x.1.2.2.1 x.2.1 x.2.2.1
def FC (a0 : Ib) (a1 : Be) (a2 : Int) : Option (Ib × XQ) :=
 (ob (Uv a0) fun r1 =>
 (cond (!r1.1)
 (some (Nh, [], false, ()))
 (cond (decide (a2 < a0.2.2.2.1))
 (some (Nh, [], false, ()))
 (cond (decide (a2 > 1000000))
 (some (Nh, [], false, ()))
 (cond (decide (((ln a1 : Nat) : Int) > 0))
 (ob (Xa a1 0) fun x2 =>
 (cond (decide (x2.1 < a0.2.2.2.1))
 (some (Nh, [], false, ()))
 (ob (Li a1 a2) fun r3 =>
 (cond (!r3.1)
 (some (Nh, [], false, ()))
 (ob (Kl a0) fun r4 =>
 (cond (bl (ln r4.1.2.2.1 + ln a1) Qa)
 (ob (Ym a0.1.2.2.2.1) fun r5 =>
 (ob (Ni (ap r4.1.2.2.1 a1) r5.1 a0.1.1.1) fun r6 =>
 (cond (!r6.1)
 (some (Nh, [], false, ()))
 (ob (Vg (((), (), [], ()), (Nh, (r4.1.1, r4.1.2.1, (ap r4.1.2.2.1 a1), a2, r4.1.2.2.2.2), ()))) (se (fun y15 => (some (y15.2.2.1, y15.1.2.2.1, true, ()))) (fun z16 => none))))))
 none))))))
 (ob (Li a1 a2) fun r17 =>
 (cond (!r17.1)
 (some (Nh, [], false, ()))
 (ob (Kl a0) fun r18 =>
 (cond (bl (ln r18.1.2.2.1 + ln a1) Qa)
 (ob (Ym a0.1.2.2.2.1) fun r19 =>
 (ob (Ni (ap r18.1.2.2.1 a1) r19.1 a0.1.1.1) fun r20 =>
 (cond (!r20.1)
 (some (Nh, [], false, ()))
 (ob (Vg (((), (), [], ()), (Nh, (r18.1.1, r18.1.2.1, (ap r18.1.2.2.1 a1), a2, r18.1.2.2.2.2), ()))) (se (fun y27 => (some (y27.2.2.1, y27.1.2.2.1, true, ()))) (fun z28 => none))))))
 none)))))))))
def LK (a0 : Ad) (a1 : Ad) : Option Xc :=
 (cond (a0.1 != a1.1)
 (some (false, ()))
 (cond (a0.2.1 != a1.2.1)
 (some (false, ()))
 (cond (a0.2.2.1 != a1.2.2.1)
 (some (false, ()))
 (some (true, ())))))
def KR (a0 : Db) : Option YM :=
 (ob (Ol a0) fun r1 =>
 (cond (!r1.1)
 (some (a0, ()))
 (cond (a0.1 == 6)
 (some ((2, 0, a0.2.2.1, 0, ()), ()))
 (some ((3, 0, 0, a0.2.2.2.1, ()), ())))))
def FV (t1 : Int) (t2 : Int) (t3 : Unit) (t7 : Int) (b3 : Ac) : Option (Lah ⊕ RY) :=
 (cond (decide (t7 > 0))
 (cond (decide (0 ≤ t7))
 (cond ((Wa .i64 (Wb .i64 t1 t7) 1) == 1)
 (ob (Xa b3.2.1 t7) fun x7 =>
 (ob (Xa x7 t2) fun x8 =>
 (cond (x8.1 != 1)
 (some (.inr (.inr ((t7, ()), ()))))
 (some (.inl ((t1, t2, (), (wr .i64 (t7 - 1)), ()), (b3, ())))))))
 (some (.inl ((t1, t2, (), (wr .i64 (t7 - 1)), ()), (b3, ())))))
 none)
 (some (.inr (.inl ((), ())))))
def Aj := Ta fun x : Lah => FV x.1.1 x.1.2.1 x.1.2.2.1 x.1.2.2.2.1 x.2.1
def ZO (a0 : Ac) (a1 : Int) (a2 : Int) : Option Cc :=
 (ob (RA a0) fun r1 =>
 (cond (!r1.1)
 (some ((-1), ()))
 (ob (Tb a2 0 (wr .i64 (a0.1 - 1))) fun r2 =>
 (cond (!r2.1)
 (some ((-1), ()))
 (ob (Aj ((a1, a2, (), (wr .i64 (((ln a0.2.1 : Nat) : Int) - 1)), ()), (a0, ()))) (se (fun y9 => (some (0, ()))) (fun z10 => (some (z10.1.1, ())))))))))
def MA (a0 : Ac) (a1 : Int) (a2 : Int) : Option YM :=
 (ob (ZO a0 a1 a2) fun r1 =>
 (cond (decide (r1.1 < 0))
 (some ((0, 0, 0, 0, ()), ()))
 (ob (Xa a0.2.1 r1.1) fun x2 =>
 (ob (Xa x2 a2) fun x3 =>
 (some (x3, ()))))))
def Yn (t0 : Zl) (t1 : Int) (t5 : Int) : Option (Uah ⊕ (((Zl × Cc) × Unit) ⊕ Fe)) :=
 (cond (decide (t5 < ((ln t0 : Nat) : Int)))
 (cond (Af (ln t0) t5)
 (ob t0[(tn t5)]? fun x9 =>
 (cond (Af (ln (ls t0 (tn t5) (t1, x9.2))) t5)
 (ob (ls t0 (tn t5) (t1, x9.2))[(tn t5)]? fun x10 =>
 (cond (Af (ln (ls (ls t0 (tn t5) (t1, x9.2)) (tn t5) (x10.1, (wr .i64 (t1 + 1)), x10.2.2))) t5)
 (ob (ls (ls t0 (tn t5) (t1, x9.2)) (tn t5) (x10.1, (wr .i64 (t1 + 1)), x10.2.2))[(tn t5)]? fun x11 =>
 (cond (Af (ln (ls (ls (ls t0 (tn t5) (t1, x9.2)) (tn t5) (x10.1, (wr .i64 (t1 + 1)), x10.2.2)) (tn t5) (x11.1, x11.2.1, (wr .i64 ((wr .i64 (t1 + 1)) + 1)), x11.2.2.2))) t5)
 (ob (ls (ls (ls t0 (tn t5) (t1, x9.2)) (tn t5) (x10.1, (wr .i64 (t1 + 1)), x10.2.2)) (tn t5) (x11.1, x11.2.1, (wr .i64 ((wr .i64 (t1 + 1)) + 1)), x11.2.2.2))[(tn t5)]? fun x12 =>
 (some (.inl (((ls (ls (ls (ls t0 (tn t5) (t1, x9.2)) (tn t5) (x10.1, (wr .i64 (t1 + 1)), x10.2.2)) (tn t5) (x11.1, x11.2.1, (wr .i64 ((wr .i64 (t1 + 1)) + 1)), x11.2.2.2)) (tn t5) (x12.1, x12.2.1, x12.2.2.1, (wr .i64 ((wr .i64 ((wr .i64 (t1 + 1)) + 1)) + 1)), x12.2.2.2.2)), (wr .i64 ((wr .i64 ((wr .i64 ((wr .i64 (t1 + 1)) + 1)) + 1)) + 1)), (wr .i64 (t5 + 1)), ()), ()))))
 none))
 none))
 none))
 none)
 (some (.inr (.inl ((t0, t1, ()), ())))))
def XH := Ta fun x : Uah => Yn x.1.1 x.1.2.1 x.1.2.2.1
def RL (a0 : Zl) (a1 : Int) : Option (Zl × Cc) :=
 (ob (XH ((a0, a1, 0, ()), ())) (se (fun y13 => (some (y13.1.1, (y13.1.2.1, ())))) (fun z14 => none)))
def Qm (t0 : Ij) (t1 : Int) (t5 : Int) : Option ((WM × Unit) ⊕ (((Ij × Cc) × Unit) ⊕ Fe)) :=
 (cond (decide (t5 < ((ln t0 : Nat) : Int)))
 (cond (Af (ln t0) t5)
 (ob t0[(tn t5)]? fun x5 =>
 (ob (RL x5 t1) fun r6 =>
 (some (.inl (((ls t0 (tn t5) r6.1), r6.2.1, (wr .i64 (t5 + 1)), ()), ())))))
 none)
 (some (.inr (.inl ((t0, t1, ()), ())))))
def FF := Ta fun x : (WM × Unit) => Qm x.1.1 x.1.2.1 x.1.2.2.1
def KI (a0 : Ij) (a1 : Int) : Option (Ij × Cc) :=
 (ob (FF ((a0, a1, 0, ()), ())) (se (fun y7 => (some (y7.1.1, (y7.1.2.1, ())))) (fun z8 => none)))
def YC (a0 : Ac) (a1 : Int) : Option (Ac × Cc) :=
 (ob (KI a0.2.1 a1) fun r1 =>
 (some ((a0.1, r1.1, ()), (r1.2.1, ()))))
def VD (t1 : Unit) (t2 : Unit) (t3 : Unit) (t4 : Int) (b1 : Ac) (b2 : Ac) (b3 : Ac) : Option ((J4 × (Ac × L4)) ⊕ ((OV × L4) ⊕ Fe)) :=
 (cond (decide (t4 < ((ln b1.2.1 : Nat) : Int)))
 (ob (Xa b1.2.1 t4) fun x4 =>
 (cond (bl (ln ([] : List Db) + ln x4) Qa)
 (cond (bl (ln b3.2.1 + ln ([(ap [] x4)] : List Zl)) Qa)
 (some (.inl (((), (), (), (wr .i64 (t4 + 1)), ()), (b1, b2, (b3.1, (ap b3.2.1 ([(ap [] x4)] : List Zl)), ()), ()))))
 none)
 none))
 (some (.inr (.inl (((), (), ()), (b2, b3, ()))))))
def BG := Ta fun x : (J4 × (Ac × L4)) => VD x.1.1 x.1.2.1 x.1.2.2.1 x.1.2.2.2.1 x.2.1 x.2.2.1 x.2.2.2.1
def NR (a0 : Ac) : Option Zt :=
 (ob (BG (((), (), (), 0, ()), (a0, (0, [], ()), (a0.1, [], ()), ()))) (se (fun y5 => (some (y5.2.2.1, ()))) (fun z6 => none)))
def ID (t0 : He) (t3 : Int) (t4 : Int) : Option (NV ⊕ Hk) :=
 (cond (decide (t4 < ((ln t0 : Nat) : Int)))
 (ob (Xa t0 t4) fun x15 =>
 (ob (Xa t0 t4) fun x16 =>
 (ob (Tb x16.1 0 31) fun r17 =>
 (cond (!r17.1)
 (some (.inr (.inr ((false, ()), ()))))
 (ob (Xa t0 t4) fun x18 =>
 (cond (decide (0 ≤ x18.1))
 (cond ((Wa .i64 (Wb .i64 t3 x18.1) 1) == 1)
 (some (.inr (.inr ((false, ()), ()))))
 (ob (Xk x15.2.1) fun r19 =>
 (cond (!r19.1)
 (some (.inr (.inr ((false, ()), ()))))
 (cond (x15.2.1.1 == 1)
 (some (.inr (.inr ((false, ()), ()))))
 (ob (Ol x15.2.1) fun r20 =>
 (cond r20.1
 (some (.inr (.inr ((false, ()), ()))))
 (ob (Xa t0 t4) fun x21 =>
 (cond (decide (0 ≤ x21.1))
 (some (.inl ((t0, (Pc .i64 t3 (Ra .i64 1 x21.1)), (wr .i64 (t4 + 1)), ()), ())))
 none))))))))
 none))))))
 (some (.inr (.inl ((), ())))))
def RF := Ta fun x : NV => ID x.1.1 x.1.2.1 x.1.2.2.1
def Pt (a0 : He) : Option Xc :=
 (ob (RF ((a0, 0, 0, ()), ())) (se (fun y22 => (some (true, ()))) (fun z23 => (some (z23.1.1, ())))))
def WD (t0 : He) (t3 : Unit) (t5 : Int) (b3 : Ad) : Option (((He × Dk) × IG) ⊕ RY) :=
 (cond (decide (t5 < ((ln t0 : Nat) : Int)))
 (ob (Xa t0 t5) fun x5 =>
 (cond (x5.2.1.2.1 == b3.2.1)
 (ob (Xa t0 t5) fun x6 =>
 (cond (x6.2.1.2.2.1 == b3.2.2.1)
 (some (.inr (.inr ((t5, ()), ()))))
 (some (.inl ((t0, (), (wr .i64 (t5 + 1)), ()), (b3, ()))))))
 (some (.inl ((t0, (), (wr .i64 (t5 + 1)), ()), (b3, ()))))))
 (some (.inr (.inl ((), ())))))
def CG := Ta fun x : ((He × Dk) × IG) => WD x.1.1 x.1.2.1 x.1.2.2.1 x.2.1
def Po (a0 : He) (a1 : Ad) : Option Cc :=
 (ob (CG ((a0, (), 0, ()), (a1, ()))) (se (fun y7 => (some ((-1), ()))) (fun z8 => (some (z8.1.1, ())))))
def Cr (a0 : Ad) : Option YM :=
 (some ((2, a0.2.1, a0.2.2.1, 0, ()), ()))
def Rg (a0 : He) (a1 : Int) : Option (He × Unit) :=
 (cond (Ld (ln a0) 0 a1)
 (cond (bl (ln ([] : List Sa) + ln (Gb a0 (tn 0) (tn a1))) Qa)
 (cond (Ld (ln a0) (wr .i64 (a1 + 1)) ((ln a0 : Nat) : Int))
 (cond (bl (ln (ap [] (Gb a0 (tn 0) (tn a1))) + ln (Gb a0 (tn (wr .i64 (a1 + 1))) (tn ((ln a0 : Nat) : Int)))) Qa)
 (some ((ap (ap [] (Gb a0 (tn 0) (tn a1))) (Gb a0 (tn (wr .i64 (a1 + 1))) (tn ((ln a0 : Nat) : Int)))), ()))
 none)
 none)
 none)
 none)
def Np (t0 : Th) (t3 : He) (t4 : Int) : Option (((Th × (He × Cc)) × Unit) ⊕ (((Th × (He × Unit)) × Unit) ⊕ Gm)) :=
 (cond (decide (t4 < ((ln t0 : Nat) : Int)))
 (ob (Xa t0 t4) fun x15 =>
 (ob (Po t3 x15) fun r16 =>
 (ob (Tb x15.1 0 2) fun r17 =>
 (cond (!r17.1)
 (some (.inr (.inr ((false, ()), ()))))
 (ob (Cr x15) fun r18 =>
 (ob (Xk r18.1) fun r19 =>
 (cond (!r19.1)
 (some (.inr (.inr ((false, ()), ()))))
 (cond ((x15.1 == 2) != (decide (r16.1 ≥ 0)))
 (some (.inr (.inr ((false, ()), ()))))
 (cond (x15.1 == 1)
 (ob (Cr x15) fun r20 =>
 (cond (bl (ln t3 + ln ([(0, r20.1, ())] : List Sa)) Qa)
 (some (.inl ((t0, (ap t3 ([(0, r20.1, ())] : List Sa)), (wr .i64 (t4 + 1)), ()), ())))
 none))
 (cond (x15.1 == 2)
 (ob (Rg t3 r16.1) fun r21 =>
 (some (.inl ((t0, r21.1, (wr .i64 (t4 + 1)), ()), ()))))
 (some (.inl ((t0, t3, (wr .i64 (t4 + 1)), ()), ())))))))))))))
 (some (.inr (.inl ((t0, t3, ()), ())))))
def RB := Ta fun x : ((Th × (He × Cc)) × Unit) => Np x.1.1 x.1.2.1 x.1.2.2.1
def SF (a0 : Th) : Option Xc :=
 (ob (RB ((a0, [], 0, ()), ())) (se (fun y22 => (cond (decide (((ln y22.1.1 : Nat) : Int) ≤ 8))
 (some ((((ln y22.1.2.1 : Nat) : Int) == 0), ()))
 (some (false, ())))) (fun z23 => (some (z23.1.1, ())))))
def Av (t1 : Unit) (t3 : Int) (b1 : Jb) : Option ((Dk × Fm) ⊕ ((Fe × Fm) ⊕ Gm)) :=
 (cond (decide (t3 < ((ln b1.2.1 : Nat) : Int)))
 (ob (Xa b1.2.1 t3) fun x7 =>
 (ob (SF x7) fun r8 =>
 (cond (!r8.1)
 (some (.inr (.inr ((false, ()), ()))))
 (some (.inl (((), (wr .i64 (t3 + 1)), ()), (b1, ())))))))
 (some (.inr (.inl (((), ()), (b1, ()))))))
def Eo := Ta fun x : (Dk × Fm) => Av x.1.1 x.1.2.1 x.2.1
def Bv (t1 : Unit) (t4 : Int) (b1 : Jb) : Option ((Dk × Fm) ⊕ ((Fe × Fm) ⊕ Gm)) :=
 (cond (decide (t4 < ((ln b1.2.2.2.1 : Nat) : Int)))
 (ob (Xa b1.2.2.2.1 t4) fun x17 =>
 (cond (decide (x17.1 ≥ b1.1.1))
 (some (.inr (.inr ((false, ()), ()))))
 (ob (Xa b1.2.2.2.1 t4) fun x18 =>
 (cond (x18.2.1.1 != 9)
 (ob (Xa b1.2.2.2.1 t4) fun x19 =>
 (cond (decide (x19.2.1.2.2.2.1 ≥ ((ln b1.1.2.1 : Nat) : Int)))
 (some (.inr (.inr ((false, ()), ()))))
 (some (.inl (((), (wr .i64 (t4 + 1)), ()), (b1, ()))))))
 (some (.inl (((), (wr .i64 (t4 + 1)), ()), (b1, ()))))))))
 (some (.inr (.inl (((), ()), (b1, ()))))))
def Fo := Ta fun x : (Dk × Fm) => Bv x.1.1 x.1.2.1 x.2.1
def Br (a0 : Jb) : Option Xc :=
 (ob (RA a0.1) fun r1 =>
 (cond (!r1.1)
 (some (false, ()))
 (cond (decide (((ln a0.2.1 : Nat) : Int) > 4))
 (some (false, ()))
 (ob (Pt a0.2.2.2.1) fun r2 =>
 (cond (!r2.1)
 (some (false, ()))
 (ob (Eo (((), 0, ()), (a0, ()))) (se (fun y9 => (ob (Fo (((), 0, ()), (y9.2.1, ()))) (se (fun y20 => (cond (decide (0 ≤ ((ln y20.2.1.1.2.1 : Nat) : Int)))
 (ob (Tb y20.2.1.2.2.1 0 (wr .i64 ((Ra .i64 1 ((ln y20.2.1.1.2.1 : Nat) : Int)) - 1))) fun r22 =>
 (cond r22.1
 (cond ((2 : Int) == 0)
 none
 (cond ((Int.tmod y20.2.1.2.2.1 2) == 0)
 (ob (Tb y20.2.1.2.2.2.2.1 0 15) fun r23 =>
 (some (r23.1, ())))
 (some (false, ()))))
 (some (false, ()))))
 none)) (fun z21 => (some (z21.1.1, ())))))) (fun z10 => (some (z10.1.1, ()))))))))))
def XD (t1 : Unit) (t2 : Unit) (t3 : Unit) (t4 : Int) (b1 : Jb) (b2 : Jb) (b3 : Jb) : Option ((J4 × (Jb × Fax)) ⊕ (((Unit × OV) × (Jb × Fax)) ⊕ Fe)) :=
 (cond (decide (t4 < ((ln b1.2.1 : Nat) : Int)))
 (ob (Xa b1.2.1 t4) fun x4 =>
 (cond (bl (ln ([] : List Ad) + ln x4) Qa)
 (cond (bl (ln b3.2.1 + ln ([(ap [] x4)] : List Th)) Qa)
 (some (.inl (((), (), (), (wr .i64 (t4 + 1)), ()), (b1, b2, (b3.1, (ap b3.2.1 ([(ap [] x4)] : List Th)), b3.2.2), ()))))
 none)
 none))
 (some (.inr (.inl (((), (), (), ()), (b1, b2, b3, ()))))))
def DG := Ta fun x : (J4 × (Jb × Fax)) => XD x.1.1 x.1.2.1 x.1.2.2.1 x.1.2.2.2.1 x.2.1 x.2.2.1 x.2.2.2.1
def Qo (a0 : Jb) : Option Fm :=
 (ob (NR a0.1) fun r1 =>
 (ob (DG (((), (), (), 0, ()), (a0, ZL, (r1.1, [], a0.2.2), ()))) (se (fun y5 => (cond (bl (ln ([] : List Sa) + ln y5.2.1.2.2.2.1) Qa)
 (some ((y5.2.2.2.1.1, y5.2.2.2.1.2.1, y5.2.2.2.1.2.2.1, (ap [] y5.2.1.2.2.2.1), y5.2.2.2.1.2.2.2.2), ()))
 none)) (fun z6 => none))))
def HD (t1 : Int) (t2 : Unit) (t5 : Int) (b2 : Jb) : Option (((Int × Dk) × Fm) ⊕ RY) :=
 (cond (decide (t5 < ((ln b2.2.2.2.1 : Nat) : Int)))
 (ob (Xa b2.2.2.2.1 t5) fun x3 =>
 (cond (x3.1 == t1)
 (some (.inr (.inr ((t5, ()), ()))))
 (some (.inl ((t1, (), (wr .i64 (t5 + 1)), ()), (b2, ()))))))
 (some (.inr (.inl ((), ())))))
def PF := Ta fun x : ((Int × Dk) × Fm) => HD x.1.1 x.1.2.1 x.1.2.2.1 x.2.1
def QJ (a0 : Jb) (a1 : Int) : Option Cc :=
 (ob (PF ((a1, (), 0, ()), (a0, ()))) (se (fun y4 => (some ((-1), ()))) (fun z5 => (some (z5.1.1, ())))))
def Ev (t1 : He) (t5 : Int) (t6 : Int) : Option (NV ⊕ Lx) :=
 (cond (decide (t6 < ((ln t1 : Nat) : Int)))
 (ob (Pt t1) fun r19 =>
 (cond r19.1
 (ob (Xa t1 t6) fun x20 =>
 (cond (x20.2.1.1 == 3)
 (ob (Xa t1 t6) fun x21 =>
 (cond (decide (0 ≤ x21.2.1.2.2.2.1))
 (some (.inl ((t1, (Pc .i64 t5 (Ra .i64 1 x21.2.1.2.2.2.1)), (wr .i64 (t6 + 1)), ()), ())))
 none))
 (some (.inl ((t1, t5, (wr .i64 (t6 + 1)), ()), ())))))
 (some (.inr (.inl ((t5, ()), ()))))))
 (some (.inr (.inl ((t5, ()), ())))))
def Jo := Ta fun x : NV => Ev x.1.1 x.1.2.1 x.1.2.2.1
def UA (a0 : Int) (a1 : He) : Option Cc :=
 (ob (Tb a0 0 15) fun r1 =>
 (cond r1.1
 (ob (Jo ((a1, (Pc .i64 1 a0), 0, ()), ())) (se (fun y11 => (some (y11.1.1, ()))) (fun z12 => none)))
 (ob (Jo ((a1, 1, 0, ()), ())) (se (fun y22 => (some (y22.1.1, ()))) (fun z23 => none)))))
def JD (a0 : Int) : Option Xc :=
 (ob (Tb a0 1 36) fun r1 =>
 (cond r1.1
 (some (true, ()))
 (cond (a0 == 39)
 (some (true, ()))
 (some ((a0 == 42), ())))))
def H0 (a0 : Jb) (a1 : Db) : Option (Jb × YM) :=
 (ob (JD a1.2.1) fun r1 =>
 (cond (!r1.1)
 (some ((a0.1, a0.2.1, a0.2.2.1, a0.2.2.2.1, 0, false, a0.2.2.2.2.2.2), ((a1.1, a1.2.1, (Pc .i64 a1.2.2.1 a0.2.2.2.2.1), a1.2.2.2), ())))
 (cond a0.2.2.2.2.2.1
 (cond (decide (a1.2.1 ≤ 26))
 (cond ((Mb .i64 (Pc .i64 a1.2.2.1 a0.2.2.2.2.1) 2) == 0)
 (some ((a0.1, a0.2.1, a0.2.2.1, a0.2.2.2.1, 0, a0.2.2.2.2.2), ((a1.1, a1.2.1, 2, a1.2.2.2), ())))
 (some ((a0.1, a0.2.1, a0.2.2.1, a0.2.2.2.1, 0, a0.2.2.2.2.2), ((a1.1, a1.2.1, (Pc .i64 a1.2.2.1 a0.2.2.2.2.1), a1.2.2.2), ()))))
 (some ((a0.1, a0.2.1, a0.2.2.1, a0.2.2.2.1, 0, a0.2.2.2.2.2), ((a1.1, a1.2.1, (Pc .i64 a1.2.2.1 a0.2.2.2.2.1), a1.2.2.2), ()))))
 (some ((a0.1, a0.2.1, a0.2.2.1, a0.2.2.2.1, 0, a0.2.2.2.2.2), ((a1.1, a1.2.1, (Pc .i64 a1.2.2.1 a0.2.2.2.2.1), a1.2.2.2), ()))))))
def Fn (a0 : Jb) (a1 : Db) : Option (Jb × YM) :=
 (cond (a1.1 == 2)
 (cond (decide (a1.2.1 > 0))
 (ob (H0 a0 a1) fun r1 =>
 (some (r1.1, (r1.2.1, ()))))
 (some (a0, (a1, ()))))
 (cond (a1.1 == 4)
 (cond (decide (0 ≤ a1.2.2.2.1))
 (some ((a0.1, a0.2.1, (Za .i64 a0.2.2.1 (Ra .i64 1 a1.2.2.2.1)), a0.2.2.2), (a1, ())))
 none)
 (cond (a1.1 == 5)
 (cond (decide (0 ≤ a1.2.2.2.1))
 (some ((a0.1, a0.2.1, (Mb .i64 (Ra .i64 1 a1.2.2.2.1) 1), a0.2.2.2), (a1, ())))
 none)
 (cond (a1.1 == 8)
 (cond ((Wa .i64 a0.2.2.2.2.1 a1.2.2.1) == a1.2.2.1)
 (some ((a0.1, a0.2.1, a0.2.2.1, a0.2.2.2.1, (Mb .i64 a0.2.2.2.2.1 a1.2.2.1), a0.2.2.2.2.2), (a1, ())))
 (some ((a0.1, a0.2.1, a0.2.2.1, a0.2.2.2.1, (Pc .i64 a0.2.2.2.2.1 a1.2.2.1), a0.2.2.2.2.2), (a1, ()))))
 (cond (a1.1 == 10)
 (some ((a0.1, a0.2.1, a0.2.2.1, a0.2.2.2.1, a0.2.2.2.2.1, (!a0.2.2.2.2.2.1), a0.2.2.2.2.2.2), (a1, ())))
 (some (a0, (a1, ()))))))))
def Fv (t0 : He) (t2 : Unit) (t3 : Unit) (t4 : Int) (b2 : Ka) (b3 : Ka) : Option (PY ⊕ (((He × OV) × CE) ⊕ Fe)) :=
 (cond (decide (t4 < ((ln t0 : Nat) : Int)))
 (ob (Xa t0 t4) fun x10 =>
 (cond (x10.2.1.1 == 2)
 (ob (Xa t0 t4) fun x11 =>
 (some (.inl ((t0, (), (), (wr .i64 (t4 + 1)), ()), (b2, ((Pc .i64 b3.1 x11.2.1.2.2.1), b3.2.1, ()), ())))))
 (ob (Xa t0 t4) fun x12 =>
 (cond (x12.2.1.1 == 8)
 (ob (Xa t0 t4) fun x13 =>
 (some (.inl ((t0, (), (), (wr .i64 (t4 + 1)), ()), (b2, ((Pc .i64 b3.1 x13.2.1.2.2.1), b3.2.1, ()), ())))))
 (some (.inl ((t0, (), (), (wr .i64 (t4 + 1)), ()), (b2, b3, ()))))))))
 (some (.inr (.inl ((t0, (), (), ()), (b2, b3, ()))))))
def Hz := Ta fun x : PY => Fv x.1.1 x.1.2.1 x.1.2.2.1 x.1.2.2.2.1 x.2.1 x.2.2.1
def Vs (t0 : He) (t2 : Unit) (t3 : Unit) (t5 : Int) (t6 : Int) (b2 : Ka) (b3 : Ka) : Option (((He × (Unit × Kx)) × CE) ⊕ (PY ⊕ Fe)) :=
 (cond (decide (t6 < ((ln t0 : Nat) : Int)))
 (ob (Xa t0 t6) fun x28 =>
 (cond (x28.2.1.2.1 == t5)
 (cond (bl (ln b3.2.1 + ln ([t5] : List Int)) Qa)
 (some (.inr (.inl ((t0, (), (), t5, ()), (b2, (b3.1, (ap b3.2.1 ([t5] : List Int)), ()), ())))))
 none)
 (some (.inl ((t0, (), (), t5, (wr .i64 (t6 + 1)), ()), (b2, b3, ()))))))
 (some (.inr (.inl ((t0, (), (), t5, ()), (b2, b3, ()))))))
def Tm := Ta fun x : ((He × (Unit × Kx)) × CE) => Vs x.1.1 x.1.2.1 x.1.2.2.1 x.1.2.2.2.1 x.1.2.2.2.2.1 x.2.1 x.2.2.1
def Us (t0 : He) (t2 : Unit) (t3 : Unit) (t5 : Int) (b2 : Ka) (b3 : Ka) : Option (PY ⊕ ((OV × CE) ⊕ Fe)) :=
 (cond (decide (t5 ≤ 56))
 (ob (Tm ((t0, (), (), t5, 0, ()), (b2, b3, ()))) (se (fun y29 => (some (.inl ((y29.1.1, (), (), (wr .i64 (y29.1.2.2.2.1 + 1)), ()), y29.2)))) (fun z30 => (some (.inr (.inr ((), ())))))))
 (some (.inr (.inl (((), (), ()), (b2, b3, ()))))))
def Tw := Ta fun x : PY => Us x.1.1 x.1.2.1 x.1.2.2.1 x.1.2.2.2.1 x.2.1 x.2.2.1
def Xe (a0 : He) : Option WQ :=
 (ob (Pt a0) fun r1 =>
 (cond (!r1.1)
 (some ((0, [], ()), ()))
 (ob (Hz ((a0, (), (), 0, ()), ((0, [], ()), (0, [], ()), ()))) (se (fun y14 => (ob (Tw ((y14.1.1, (), (), 1, ()), y14.2)) (se (fun y31 => (some (y31.2.2.1, ()))) (fun z32 => none)))) (fun z15 => none)))))
def Hv (t1 : He) (t4 : Unit) (t5 : Unit) (t6 : Int) (b4 : Ka) (b5 : Ka) : Option (PY ⊕ (((He × OV) × CE) ⊕ Fe)) :=
 (cond (decide (t6 < ((ln t1 : Nat) : Int)))
 (ob (Xa t1 t6) fun x4 =>
 (some (.inl ((t1, (), (), (wr .i64 (t6 + 1)), ()), (b4, ((Pc .i64 b5.1 x4.2.1.2.2.1), b5.2.1, ()), ())))))
 (some (.inr (.inl ((t1, (), (), ()), (b4, b5, ()))))))
def Qz := Ta fun x : PY => Hv x.1.1 x.1.2.1 x.1.2.2.1 x.1.2.2.2.1 x.2.1 x.2.2.1
def At (t1 : He) (t4 : Unit) (t5 : Unit) (t7 : Lc) (t8 : Int) (t9 : Bool) (t10 : Int) (b4 : Ka) (b5 : Ka) : Option BaN :=
 (cond (decide (t10 < ((ln b5.2.1 : Nat) : Int)))
 (cond t9
 (some (.inl ((t1, (), (), t7, t8, true, (wr .i64 (t10 + 1)), ()), (b4, b5, ()))))
 (cond (Af (ln b5.2.1) t10)
 (ob b5.2.1[(tn t10)]? fun x29 =>
 (some (.inl ((t1, (), (), t7, t8, (x29 == t8), (wr .i64 (t10 + 1)), ()), (b4, b5, ())))))
 none))
 (some (.inr (.inl ((t1, (), (), t7, t8, t9, ()), (b4, b5, ()))))))
def Um := Ta fun x : Eax => At x.1.1 x.1.2.1 x.1.2.2.1 x.1.2.2.2.1 x.1.2.2.2.2.1 x.1.2.2.2.2.2.1 x.1.2.2.2.2.2.2.1 x.2.1 x.2.2.1
def Bt (t1 : He) (t4 : Unit) (t5 : Unit) (t7 : Lc) (t8 : Int) (t9 : Bool) (t11 : Int) (b4 : Ka) (b5 : Ka) : Option BaN :=
 (cond (decide (t11 < ((ln t1 : Nat) : Int)))
 (cond t9
 (some (.inl ((t1, (), (), t7, t8, true, (wr .i64 (t11 + 1)), ()), (b4, b5, ()))))
 (ob (Xa t1 t11) fun x34 =>
 (some (.inl ((t1, (), (), t7, t8, (x34.2.1.2.1 == t8), (wr .i64 (t11 + 1)), ()), (b4, b5, ()))))))
 (some (.inr (.inl ((t1, (), (), t7, t8, t9, ()), (b4, b5, ()))))))
def Vm := Ta fun x : Eax => Bt x.1.1 x.1.2.1 x.1.2.2.1 x.1.2.2.2.1 x.1.2.2.2.2.1 x.1.2.2.2.2.2.1 x.1.2.2.2.2.2.2.1 x.2.1 x.2.2.1
def Iv (t1 : He) (t4 : Unit) (t5 : Unit) (t7 : Lc) (t8 : Int) (b4 : Ka) (b5 : Ka) : Option (((He × (Unit × OaA)) × CE) ⊕ Jax) :=
 (cond (decide (t8 ≤ 56))
 (ob (Um ((t1, (), (), t7, t8, false, 0, ()), (b4, b5, ()))) (se (fun y30 => (ob (Vm ((y30.1.1, (), (), y30.1.2.2.2.1, y30.1.2.2.2.2.1, y30.1.2.2.2.2.2.1, 0, ()), y30.2)) (se (fun y35 => (cond y35.1.2.2.2.2.2.1
 (cond (bl (ln y35.1.2.2.2.1 + ln ([y35.1.2.2.2.2.1] : List Int)) Qa)
 (some (.inl ((y35.1.1, (), (), (ap y35.1.2.2.2.1 ([y35.1.2.2.2.2.1] : List Int)), (wr .i64 (y35.1.2.2.2.2.1 + 1)), ()), y35.2)))
 none)
 (some (.inl ((y35.1.1, (), (), y35.1.2.2.2.1, (wr .i64 (y35.1.2.2.2.2.1 + 1)), ()), y35.2))))) (fun z36 => (some (.inr (.inr ((), ())))))))) (fun z31 => (some (.inr (.inr ((), ())))))))
 (some (.inr (.inl (((), (), t7, ()), (b4, b5, ()))))))
def Rz := Ta fun x : ((He × (Unit × OaA)) × CE) => Iv x.1.1 x.1.2.1 x.1.2.2.1 x.1.2.2.2.1 x.1.2.2.2.2.1 x.2.1 x.2.2.1
def Gi (a0 : He) (a1 : He) : Option WQ :=
 (ob (Xe a0) fun r1 =>
 (ob (Qz ((a1, (), (), 0, ()), ((0, [], ()), r1.1, ()))) (se (fun y5 => (ob (Rz ((y5.1.1, (), (), [], 1, ()), y5.2)) (se (fun y37 => (some ((y37.2.2.1.1, y37.1.2.2.1, ()), ()))) (fun z38 => none)))) (fun z6 => none))))
def Sm (t0 : He) (t1 : Th) (t5 : Bl) (t6 : He) (t7 : Int) : Option (((He × (Th × (Bl × (He × Cc)))) × Unit) ⊕ Iax) :=
 (cond (decide (t7 < ((ln t1 : Nat) : Int)))
 (ob (Xa t1 t7) fun x21 =>
 (cond (x21.1 != 2)
 (ob (Cr x21) fun r22 =>
 (cond (bl (ln t6 + ln ([(0, r22.1, ())] : List Sa)) Qa)
 (ob (Gi t0 (ap t6 ([(0, r22.1, ())] : List Sa))) fun r23 =>
 (cond (bl (ln t5 + ln ([r23.1] : List Ka)) Qa)
 (cond (x21.1 != 1)
 (ob (Po (ap t6 ([(0, r22.1, ())] : List Sa)) x21) fun r24 =>
 (ob (Rg (ap t6 ([(0, r22.1, ())] : List Sa)) r24.1) fun r25 =>
 (ob (Gi t0 r25.1) fun r26 =>
 (cond (bl (ln (ap t5 ([r23.1] : List Ka)) + ln ([r26.1] : List Ka)) Qa)
 (some (.inl ((t0, t1, (ap (ap t5 ([r23.1] : List Ka)) ([r26.1] : List Ka)), r25.1, (wr .i64 (t7 + 1)), ()), ())))
 none))))
 (some (.inl ((t0, t1, (ap t5 ([r23.1] : List Ka)), (ap t6 ([(0, r22.1, ())] : List Sa)), (wr .i64 (t7 + 1)), ()), ()))))
 none))
 none))
 (cond (x21.1 != 1)
 (ob (Po t6 x21) fun r27 =>
 (ob (Rg t6 r27.1) fun r28 =>
 (ob (Gi t0 r28.1) fun r29 =>
 (cond (bl (ln t5 + ln ([r29.1] : List Ka)) Qa)
 (some (.inl ((t0, t1, (ap t5 ([r29.1] : List Ka)), r28.1, (wr .i64 (t7 + 1)), ()), ())))
 none))))
 (some (.inl ((t0, t1, t5, t6, (wr .i64 (t7 + 1)), ()), ()))))))
 (some (.inr (.inl ((t5, ()), ())))))
def Pp := Ta fun x : ((He × (Th × (Bl × (He × Cc)))) × Unit) => Sm x.1.1 x.1.2.1 x.1.2.2.1 x.1.2.2.2.1 x.1.2.2.2.2.1
def Tk (a0 : He) (a1 : Th) : Option QY :=
 (ob (Pt a0) fun r1 =>
 (cond (!r1.1)
 (some ([], ()))
 (ob (SF a1) fun r2 =>
 (cond (!r2.1)
 (some ([], ()))
 (ob (Pp ((a0, a1, [], [], 0, ()), ())) (se (fun y30 => (some (y30.1.1, ()))) (fun z31 => none)))))))
def Iq (t2 : Unit) (t3 : Unit) (t5 : Int) (b2 : Ka) (b3 : Ka) : Option (((Unit × Dk) × CE) ⊕ Hk) :=
 (cond (decide (t5 < ((ln b2.2.1 : Nat) : Int)))
 (ob (Xa b2.2.1 t5) fun x5 =>
 (ob (Xa b3.2.1 t5) fun x6 =>
 (cond (x5 != x6)
 (some (.inr (.inr ((false, ()), ()))))
 (some (.inl (((), (), (wr .i64 (t5 + 1)), ()), (b2, b3, ())))))))
 (some (.inr (.inl ((), ())))))
def Rt := Ta fun x : ((Unit × Dk) × CE) => Iq x.1.1 x.1.2.1 x.1.2.2.1 x.2.1 x.2.2.1
def OD (a0 : Ka) (a1 : Ka) : Option Xc :=
 (cond (a0.1 != a1.1)
 (some (false, ()))
 (cond (((ln a0.2.1 : Nat) : Int) != ((ln a1.2.1 : Nat) : Int))
 (some (false, ()))
 (ob (Rt (((), (), 0, ()), (a0, a1, ()))) (se (fun y7 => (some (true, ()))) (fun z8 => (some (z8.1.1, ())))))))
def Ct (t1 : Bl) (t2 : Unit) (t5 : Bl) (t6 : Int) (b2 : Ka) : Option (((Bl × (Unit × (Bl × Cc))) × WQ) ⊕ Iax) :=
 (cond (decide (t6 < ((ln t1 : Nat) : Int)))
 (ob (Xa t1 t6) fun x13 =>
 (ob (OD b2 x13) fun r14 =>
 (cond (!r14.1)
 (ob (Xa t1 t6) fun x15 =>
 (ob (OR x15) fun r16 =>
 (cond (bl (ln t5 + ln ([r16.1] : List Ka)) Qa)
 (ob (Xa t1 t6) fun x17 =>
 (some (.inl ((t1, (), (ap t5 ([r16.1] : List Ka)), (wr .i64 (t6 + 1)), ()), (x17, ())))))
 none)))
 (ob (Xa t1 t6) fun x18 =>
 (some (.inl ((t1, (), t5, (wr .i64 (t6 + 1)), ()), (x18, ()))))))))
 (some (.inr (.inl ((t5, ()), ())))))
def Ax := Ta fun x : ((Bl × (Unit × (Bl × Cc))) × WQ) => Ct x.1.1 x.1.2.1 x.1.2.2.1 x.1.2.2.2.1 x.2.1
def Fh (a0 : Ka) (a1 : Bl) : Option QY :=
 (ob (Ax ((a1, (), [], 0, ()), (a0, ()))) (se (fun y19 => (some (y19.1.1, ()))) (fun z20 => none)))
def Yl (a0 : Jb) (a1 : Int) (a2 : Bool) : Option (Jb × Gax) :=
 (ob (Br a0) fun r1 =>
 (cond (!r1.1)
 (some (ZL, [], false, ()))
 (ob (Tb a1 0 (wr .i64 (a0.1.1 - 1))) fun r2 =>
 (cond (!r2.1)
 (some (ZL, [], false, ()))
 (ob (QJ a0 a1) fun r3 =>
 (cond (decide (r3.1 ≥ 0))
 (some (ZL, [], false, ()))
 (ob (Qo a0) fun r4 =>
 (ob (UA a0.2.2.1 a0.2.2.2.1) fun r5 =>
 (ob (MA a0.1 r5.1 a1) fun r6 =>
 (cond a2
 (ob (KR r6.1) fun r7 =>
 (ob (Fn r4.1 r7.1) fun r8 =>
 (cond (bl (ln r8.1.2.2.2.1 + ln ([(a1, r8.2.1, ())] : List Sa)) Qa)
 (cond (r8.2.1.1 == 9)
 (cond (decide (r8.2.1.2.2.2.1 < ((ln a0.2.1 : Nat) : Int)))
 (ob (Xa a0.2.1 r8.2.1.2.2.2.1) fun x9 =>
 (ob (Tk (ap r8.1.2.2.2.1 ([(a1, r8.2.1, ())] : List Sa)) x9) fun r10 =>
 (ob (Xe (ap r8.1.2.2.2.1 ([(a1, r8.2.1, ())] : List Sa))) fun r11 =>
 (cond (bl (ln r10.1 + ln ([r11.1] : List Ka)) Qa)
 (ob (Xe a0.2.2.2.1) fun r12 =>
 (ob (Fh r12.1 (ap r10.1 ([r11.1] : List Ka))) fun r13 =>
 (some ((r8.1.1, r8.1.2.1, r8.1.2.2.1, (ap r8.1.2.2.2.1 ([(a1, r8.2.1, ())] : List Sa)), r8.1.2.2.2.2), r13.1, true, ()))))
 none))))
 (ob (Xe (ap r8.1.2.2.2.1 ([(a1, r8.2.1, ())] : List Sa))) fun r14 =>
 (cond (bl (ln ([] : List Ka) + ln ([r14.1] : List Ka)) Qa)
 (ob (Xe a0.2.2.2.1) fun r15 =>
 (ob (Fh r15.1 (ap [] ([r14.1] : List Ka))) fun r16 =>
 (some ((r8.1.1, r8.1.2.1, r8.1.2.2.1, (ap r8.1.2.2.2.1 ([(a1, r8.2.1, ())] : List Sa)), r8.1.2.2.2.2), r16.1, true, ()))))
 none)))
 (ob (Xe (ap r8.1.2.2.2.1 ([(a1, r8.2.1, ())] : List Sa))) fun r17 =>
 (cond (bl (ln ([] : List Ka) + ln ([r17.1] : List Ka)) Qa)
 (ob (Xe a0.2.2.2.1) fun r18 =>
 (ob (Fh r18.1 (ap [] ([r17.1] : List Ka))) fun r19 =>
 (some ((r8.1.1, r8.1.2.1, r8.1.2.2.1, (ap r8.1.2.2.2.1 ([(a1, r8.2.1, ())] : List Sa)), r8.1.2.2.2.2), r19.1, true, ()))))
 none)))
 none)))
 (ob (NT r6.1) fun r20 =>
 (ob (Fn r4.1 r20.1) fun r21 =>
 (cond (bl (ln r21.1.2.2.2.1 + ln ([(a1, r21.2.1, ())] : List Sa)) Qa)
 (cond (r21.2.1.1 == 9)
 (cond (decide (r21.2.1.2.2.2.1 < ((ln a0.2.1 : Nat) : Int)))
 (ob (Xa a0.2.1 r21.2.1.2.2.2.1) fun x22 =>
 (ob (Tk (ap r21.1.2.2.2.1 ([(a1, r21.2.1, ())] : List Sa)) x22) fun r23 =>
 (ob (Xe (ap r21.1.2.2.2.1 ([(a1, r21.2.1, ())] : List Sa))) fun r24 =>
 (cond (bl (ln r23.1 + ln ([r24.1] : List Ka)) Qa)
 (ob (Xe a0.2.2.2.1) fun r25 =>
 (ob (Fh r25.1 (ap r23.1 ([r24.1] : List Ka))) fun r26 =>
 (some ((r21.1.1, r21.1.2.1, r21.1.2.2.1, (ap r21.1.2.2.2.1 ([(a1, r21.2.1, ())] : List Sa)), r21.1.2.2.2.2), r26.1, true, ()))))
 none))))
 (ob (Xe (ap r21.1.2.2.2.1 ([(a1, r21.2.1, ())] : List Sa))) fun r27 =>
 (cond (bl (ln ([] : List Ka) + ln ([r27.1] : List Ka)) Qa)
 (ob (Xe a0.2.2.2.1) fun r28 =>
 (ob (Fh r28.1 (ap [] ([r27.1] : List Ka))) fun r29 =>
 (some ((r21.1.1, r21.1.2.1, r21.1.2.2.1, (ap r21.1.2.2.2.1 ([(a1, r21.2.1, ())] : List Sa)), r21.1.2.2.2.2), r29.1, true, ()))))
 none)))
 (ob (Xe (ap r21.1.2.2.2.1 ([(a1, r21.2.1, ())] : List Sa))) fun r30 =>
 (cond (bl (ln ([] : List Ka) + ln ([r30.1] : List Ka)) Qa)
 (ob (Xe a0.2.2.2.1) fun r31 =>
 (ob (Fh r31.1 (ap [] ([r30.1] : List Ka))) fun r32 =>
 (some ((r21.1.1, r21.1.2.1, r21.1.2.2.1, (ap r21.1.2.2.2.1 ([(a1, r21.2.1, ())] : List Sa)), r21.1.2.2.2.2), r32.1, true, ()))))
 none)))
 none)))))))))))))
def TF (a0 : Jb) (a1 : Int) : Option (Jb × Gax) :=
 (ob (QJ a0 a1) fun r1 =>
 (ob (Br a0) fun r2 =>
 (cond (!r2.1)
 (some (ZL, [], false, ()))
 (cond (decide (r1.1 < 0))
 (some (ZL, [], false, ()))
 (ob (Qo a0) fun r3 =>
 (ob (Rg r3.1.2.2.2.1 r1.1) fun r4 =>
 (ob (Xe a0.2.2.2.1) fun r5 =>
 (ob (Xe r4.1) fun r6 =>
 (ob (Fh r5.1 ([r6.1] : List Ka)) fun r7 =>
 (some ((r3.1.1, r3.1.2.1, r3.1.2.2.1, r4.1, r3.1.2.2.2.2), r7.1, true, ())))))))))))
def Wn (t0 : Zl) (t1 : Int) (t5 : Int) : Option (Uah ⊕ Mx) :=
 (cond (decide (t5 < ((ln t0 : Nat) : Int)))
 (ob (Xa t0 t5) fun x9 =>
 (cond (x9.1 != t1)
 (some (.inr (.inr (((-1), ()), ()))))
 (ob (Xa t0 t5) fun x10 =>
 (cond (x10.2.1 != (wr .i64 (t1 + 1)))
 (some (.inr (.inr (((-1), ()), ()))))
 (ob (Xa t0 t5) fun x11 =>
 (cond (x11.2.2.1 != (wr .i64 ((wr .i64 (t1 + 1)) + 1)))
 (some (.inr (.inr (((-1), ()), ()))))
 (ob (Xa t0 t5) fun x12 =>
 (cond (x12.2.2.2.1 != (wr .i64 ((wr .i64 ((wr .i64 (t1 + 1)) + 1)) + 1)))
 (some (.inr (.inr (((-1), ()), ()))))
 (some (.inl ((t0, (wr .i64 ((wr .i64 ((wr .i64 ((wr .i64 (t1 + 1)) + 1)) + 1)) + 1)), (wr .i64 (t5 + 1)), ()), ())))))))))))
 (some (.inr (.inl ((t1, ()), ())))))
def VH := Ta fun x : Uah => Wn x.1.1 x.1.2.1 x.1.2.2.1
def PL (a0 : Zl) (a1 : Int) : Option Cc :=
 (ob (VH ((a0, a1, 0, ()), ())) (se (fun y13 => (some (y13.1.1, ()))) (fun z14 => (some (z14.1.1, ())))))
def Pm (t0 : Ij) (t1 : Int) (t5 : Int) : Option ((WM × Unit) ⊕ Mx) :=
 (cond (decide (t5 < ((ln t0 : Nat) : Int)))
 (ob (Xa t0 t5) fun x5 =>
 (ob (PL x5 t1) fun r6 =>
 (cond (decide (r6.1 < 0))
 (some (.inr (.inr (((-1), ()), ()))))
 (some (.inl ((t0, r6.1, (wr .i64 (t5 + 1)), ()), ()))))))
 (some (.inr (.inl ((t1, ()), ())))))
def EF := Ta fun x : (WM × Unit) => Pm x.1.1 x.1.2.1 x.1.2.2.1
def JI (a0 : Ij) (a1 : Int) : Option Cc :=
 (ob (EF ((a0, a1, 0, ()), ())) (se (fun y7 => (some (y7.1.1, ()))) (fun z8 => (some (z8.1.1, ())))))
def VC (a0 : Ac) (a1 : Int) : Option Cc :=
 (ob (JI a0.2.1 a1) fun r1 =>
 (cond (decide (r1.1 < 0))
 (some ((-1), ()))
 (some (r1.1, ()))))
def Jw (a0 : Lc) (a1 : Int) : Option Cc :=
 (cond (decide ((wr .i64 (a1 - ((ln a0 : Nat) : Int))) < 0))
 (some ((-1), ()))
 (some ((wr .i64 (a1 - ((ln a0 : Nat) : Int))), ())))
def S5 (t0 : Yh) (t1 : Int) (t5 : Int) : Option ((H4 × Unit) ⊕ Mx) :=
 (cond (decide (t5 < ((ln t0 : Nat) : Int)))
 (ob (Xa t0 t5) fun x5 =>
 (ob (Jw x5 t1) fun r6 =>
 (cond (decide (r6.1 < 0))
 (some (.inr (.inr (((-1), ()), ()))))
 (some (.inl ((t0, r6.1, (wr .i64 (t5 + 1)), ()), ()))))))
 (some (.inr (.inl ((t1, ()), ())))))
def EO := Ta fun x : (H4 × Unit) => S5 x.1.1 x.1.2.1 x.1.2.2.1
def NK (a0 : Yh) (a1 : Int) : Option Cc :=
 (cond (decide ((wr .i64 (a1 - ((ln a0 : Nat) : Int))) < 0))
 (some ((-1), ()))
 (ob (EO ((a0, (wr .i64 (a1 - ((ln a0 : Nat) : Int))), 0, ()), ())) (se (fun y7 => (some (y7.1.1, ()))) (fun z8 => (some (z8.1.1, ()))))))
def U5 (t0 : Yh) (t3 : Yh) (t4 : Int) : Option (Nah ⊕ Qa9) :=
 (cond (decide (t4 < ((ln t0 : Nat) : Int)))
 (ob (Xa t0 t4) fun x7 =>
 (ob (Kw x7) fun r8 =>
 (cond (Af (ln t3) t4)
 (ob t3[(tn t4)]? fun x9 =>
 (some (.inl ((t0, (ls t3 (tn t4) r8.1), (wr .i64 (t4 + 1)), ()), ()))))
 none)))
 (some (.inr (.inl ((t3, ()), ())))))
def LO := Ta fun x : Nah => U5 x.1.1 x.1.2.1 x.1.2.2.1
def Ar (a0 : Yh) : Option (Yh × Unit) :=
 (cond ((((ln a0 : Nat) : Int) == ((ln a0 : Nat) : Int)) && (decide (0 ≤ ((ln a0 : Nat) : Int)) && decide (((ln a0 : Nat) : Int) ≤ ((Qa : Nat) : Int))))
 (ob (LO ((a0, (List.replicate (tn ((ln a0 : Nat) : Int)) []), 0, ()), ())) (se (fun y10 => (some (y10.1.1, ()))) (fun z11 => none)))
 none)
def Co (t1 : Unit) (t3 : Int) (b1 : Qb) : Option ((Dk × CT) ⊕ ((Fe × CT) ⊕ Gm)) :=
 (cond (decide (t3 < ((ln b1.2.2.2.2.2.1 : Nat) : Int)))
 (ob (Xa b1.2.2.2.2.2.1 t3) fun x8 =>
 (ob (Tb x8 0 99) fun r9 =>
 (cond (!r9.1)
 (some (.inr (.inr ((false, ()), ()))))
 (some (.inl (((), (wr .i64 (t3 + 1)), ()), (b1, ())))))))
 (some (.inr (.inl (((), ()), (b1, ()))))))
def Rq := Ta fun x : (Dk × CT) => Co x.1.1 x.1.2.1 x.2.1
def Mp (a0 : Qb) : Option Xc :=
 (ob (Tb a0.1 0 2) fun r1 =>
 (cond (!r1.1)
 (some (false, ()))
 (ob (Tb a0.2.1 1 20) fun r2 =>
 (cond (!r2.1)
 (some (false, ()))
 (ob (Tb a0.2.2.1 1 24) fun r3 =>
 (cond (!r3.1)
 (some (false, ()))
 (cond (((ln a0.2.2.2.2.2.1 : Nat) : Int) != a0.2.2.1)
 (some (false, ()))
 (ob (Rq (((), 0, ()), (a0, ()))) (se (fun y10 => (cond (decide (0 ≤ y10.2.1.2.2.1))
 (ob (Tb y10.2.1.2.2.2.1 0 (wr .i64 ((Ra .i64 1 y10.2.1.2.2.1) - 1))) fun r12 =>
 (cond r12.1
 (cond (decide (0 ≤ y10.2.1.2.2.1))
 (ob (Tb y10.2.1.2.2.2.2.1 0 (wr .i64 ((Ra .i64 1 y10.2.1.2.2.1) - 1))) fun r13 =>
 (some (r13.1, ())))
 none)
 (some (false, ()))))
 none)) (fun z11 => (some (z11.1.1, ()))))))))))))
def Gv (t0 : Int) (t3 : Int) (t4 : Int) : Option (IG ⊕ Lx) :=
 (cond (decide (t4 ≤ 31))
 (cond (decide (0 ≤ t4))
 (some (.inl ((t0, (wr .i64 (t3 + (Wa .i64 (Wb .i64 t0 t4) 1))), (wr .i64 (t4 + 1)), ()), ())))
 none)
 (some (.inr (.inl ((t3, ()), ())))))
def Lz := Ta fun x : IG => Gv x.1.1 x.1.2.1 x.1.2.2.1
def VA (a0 : Int) : Option Cc :=
 (ob (Lz ((a0, 0, 0, ()), ())) (se (fun y1 => (some (y1.1.1, ()))) (fun z2 => none)))
def Zu (t0 : Ke) (t3 : Int) (t4 : Int) : Option (ZQ ⊕ (U9 ⊕ Gm)) :=
 (cond (decide (t4 < t3))
 (ob (Xa t0 t4) fun x58 =>
 (ob (Xa t0 t3) fun x59 =>
 (cond (x58.1 == x59.1)
 (some (.inr (.inr ((false, ()), ()))))
 (ob (Xa t0 t4) fun x60 =>
 (ob (Xa t0 t3) fun x61 =>
 (cond (x60.2.1 == x61.2.1)
 (some (.inr (.inr ((false, ()), ()))))
 (some (.inl ((t0, t3, (wr .i64 (t4 + 1)), ()), ())))))))))
 (some (.inr (.inl ((t0, t3, ()), ())))))
def Ez := Ta fun x : ZQ => Zu x.1.1 x.1.2.1 x.1.2.2.1
def Yu (t0 : Ke) (t3 : Int) : Option (U9 ⊕ (((Ke × Unit) × Unit) ⊕ Gm)) :=
 (cond (decide (t3 < ((ln t0 : Nat) : Int)))
 (ob (Xa t0 t3) fun x43 =>
 (ob (Tb x43.1 0 16777215) fun r44 =>
 (cond (!r44.1)
 (some (.inr (.inr ((false, ()), ()))))
 (ob (Xa t0 t3) fun x45 =>
 (ob (VA x45.1) fun r46 =>
 (ob (Tb r46.1 2 4) fun r47 =>
 (cond (!r47.1)
 (some (.inr (.inr ((false, ()), ()))))
 (ob (Xa t0 t3) fun x48 =>
 (ob (Tb x48.2.1 24 31) fun r49 =>
 (cond (!r49.1)
 (some (.inr (.inr ((false, ()), ()))))
 (ob (Ez ((t0, t3, 0, ()), ())) (se (fun y62 => (some (.inl ((y62.1.1, (wr .i64 (y62.1.2.1 + 1)), ()), ())))) (fun z63 => (some (.inr (.inr ((z63.1.1, ()), ())))))))))))))))))
 (some (.inr (.inl ((t0, ()), ())))))
def Dz := Ta fun x : U9 => Yu x.1.1 x.1.2.1
def PA (a0 : Ke) : Option Xc :=
 (ob (Dz ((a0, 0, ()), ())) (se (fun y64 => (some ((decide (((ln y64.1.1 : Nat) : Int) ≤ 8)), ()))) (fun z65 => (some (z65.1.1, ())))))
def Oz (t0 : Ke) (t1 : Int) (t5 : Int) : Option (ZQ ⊕ RY) :=
 (cond (decide (t5 < ((ln t0 : Nat) : Int)))
 (ob (Xa t0 t5) fun x5 =>
 (cond (x5.2.1 == t1)
 (ob (Xa t0 t5) fun x6 =>
 (some (.inr (.inr ((x6.1, ()), ())))))
 (some (.inl ((t0, t1, (wr .i64 (t5 + 1)), ()), ())))))
 (some (.inr (.inl ((), ())))))
def VB := Ta fun x : ZQ => Oz x.1.1 x.1.2.1 x.1.2.2.1
def VF (a0 : Ke) (a1 : Int) : Option Cc :=
 (ob (VB ((a0, a1, 0, ()), ())) (se (fun y7 => (some (0, ()))) (fun z8 => (some (z8.1.1, ())))))
def Kq (t1 : Unit) (t3 : Int) (t4 : Int) (t5 : Unit) (t7 : Int) (b1 : Pa) (b5 : Ca) : Option (((Unit × (Int × (Int × Dk))) × (Pa × Rh)) ⊕ (((Unit × (Int × (Int × Fe))) × (Pa × Rh)) ⊕ Gm)) :=
 (cond (decide (t7 < t4))
 (ob (Xa b1.2.2.2.2.2.2.1 t7) fun x19 =>
 (cond (x19.1 == b5.1)
 (some (.inr (.inr ((false, ()), ()))))
 (some (.inl (((), t3, t4, (), (wr .i64 (t7 + 1)), ()), (b1, b5, ()))))))
 (some (.inr (.inl (((), t3, t4, (), ()), (b1, b5, ()))))))
def Vt := Ta fun x : ((Unit × (Int × (Int × Dk))) × (Pa × Rh)) => Kq x.1.1 x.1.2.1 x.1.2.2.1 x.1.2.2.2.1 x.1.2.2.2.2.1 x.2.1 x.2.2.1
def Xs (t1 : Unit) (t3 : Int) (t4 : Int) (b1 : Pa) : Option (KV ⊕ ((Fe × GG) ⊕ Gm)) :=
 (cond (decide (t4 < ((ln b1.2.2.2.2.2.2.1 : Nat) : Int)))
 (ob (Xa b1.2.2.2.2.2.2.1 t4) fun x15 =>
 (ob (VF b1.1 x15.1) fun r16 =>
 (cond (decide (x15.2.1 ≤ 0))
 (some (.inr (.inr ((false, ()), ()))))
 (cond ((Mb .i64 x15.2.1 r16.1) != 0)
 (some (.inr (.inr ((false, ()), ()))))
 (cond (x15.2.2.1 != (x15.2.1 == r16.1))
 (some (.inr (.inr ((false, ()), ()))))
 (cond ((Wa .i64 x15.2.1 t3) != 0)
 (some (.inr (.inr ((false, ()), ()))))
 (ob (Vt (((), t3, t4, (), 0, ()), (b1, x15, ()))) (se (fun y20 => (some (.inl (((), (Pc .i64 y20.1.2.1 y20.2.2.1.2.1), (wr .i64 (y20.1.2.2.1 + 1)), ()), (y20.2.1, ()))))) (fun z21 => (some (.inr (.inr ((z21.1.1, ()), ())))))))))))))
 (some (.inr (.inl (((), ()), (b1, ()))))))
def Ww := Ta fun x : KV => Xs x.1.1 x.1.2.1 x.1.2.2.1 x.2.1
def PH (a0 : Pa) : Option Xc :=
 (ob (Ww (((), a0.2.2.2.2.2.1, 0, ()), (a0, ()))) (se (fun y22 => (ob (Tb y22.2.1.2.2.2.2.2.1 0 16777215) fun r24 =>
 (some (r24.1, ())))) (fun z23 => (some (z23.1.1, ())))))
def Nz (t1 : Unit) (t3 : Int) (t4 : Int) (b1 : Pa) : Option (KV ⊕ Lx) :=
 (cond (decide (t4 < ((ln b1.2.2.2.2.2.2.1 : Nat) : Int)))
 (ob (Xa b1.2.2.2.2.2.2.1 t4) fun x3 =>
 (some (.inl (((), (Pc .i64 t3 x3.2.1), (wr .i64 (t4 + 1)), ()), (b1, ())))))
 (some (.inr (.inl ((t3, ()), ())))))
def UB := Ta fun x : KV => Nz x.1.1 x.1.2.1 x.1.2.2.1 x.2.1
def Yw (a0 : Pa) : Option Cc :=
 (ob (UB (((), a0.2.2.2.2.2.1, 0, ()), (a0, ()))) (se (fun y4 => (some (y4.1.1, ()))) (fun z5 => none)))
def Rw (a0 : Ca) : Option Xc :=
 (ob (Tb a0.1 0 1000000) fun r1 =>
 (cond r1.1
 (ob (Tb a0.2.1 0 31) fun r2 =>
 (some (r2.1, ())))
 (some (false, ()))))
def Jq (t0 : Be) (t1 : Int) (t2 : Int) (t3 : Int) (t9 : Int) : Option (((Be × Db) × Unit) ⊕ ((HG × Unit) ⊕ Gm)) :=
 (cond (decide (t9 < ((ln t0 : Nat) : Int)))
 (ob (Xa t0 t9) fun x17 =>
 (ob (Rw x17) fun r18 =>
 (cond (!r18.1)
 (some (.inr (.inr ((false, ()), ()))))
 (ob (Xa t0 t9) fun x19 =>
 (cond (decide (x19.2.1 ≥ t2))
 (some (.inr (.inr ((false, ()), ()))))
 (ob (Xa t0 t9) fun x20 =>
 (cond (decide (x20.1 < t3))
 (some (.inr (.inr ((false, ()), ()))))
 (ob (Xa t0 t9) fun x21 =>
 (ob (Xa t0 t9) fun x22 =>
 (cond (decide (0 ≤ x22.2.1))
 (cond (x21.2.2.1 == ((Wa .i64 (Wb .i64 t1 x22.2.1) 1) == 1))
 (some (.inr (.inr ((false, ()), ()))))
 (ob (Xa t0 t9) fun x23 =>
 (ob (Xa t0 t9) fun x24 =>
 (cond (decide (0 ≤ x24.2.1))
 (some (.inl ((t0, (Za .i64 t1 (Ra .i64 1 x24.2.1)), t2, x23.1, (wr .i64 (t9 + 1)), ()), ())))
 none))))
 none))))))))))
 (some (.inr (.inl ((t0, ()), ())))))
def Ut := Ta fun x : ((Be × Db) × Unit) => Jq x.1.1 x.1.2.1 x.1.2.2.1 x.1.2.2.2.1 x.1.2.2.2.2.1
def Ok (a0 : Be) (a1 : Int) (a2 : Int) (a3 : Int) : Option Xc :=
 (ob (Ut ((a0, a1, a2, a3, 0, ()), ())) (se (fun y25 => (some ((decide (((ln y25.1.1 : Nat) : Int) ≤ 64)), ()))) (fun z26 => (some (z26.1.1, ())))))
def Ss (a0 : Pa) : Option Xc :=
 (ob (PA a0.1) fun r1 =>
 (cond (!r1.1)
 (some (false, ()))
 (ob (Tb a0.2.1 1 200) fun r2 =>
 (cond (!r2.1)
 (some (false, ()))
 (ob (Tb a0.2.2.2.1 0 1000000) fun r3 =>
 (cond (!r3.1)
 (some (false, ()))
 (ob (Tb a0.2.2.2.2.1 0 a0.2.2.2.1) fun r4 =>
 (cond (!r4.1)
 (some (false, ()))
 (ob (PH a0) fun r5 =>
 (cond (!r5.1)
 (some (false, ()))
 (ob (Yw a0) fun r6 =>
 (ob (Ok a0.2.2.1 r6.1 24 0) fun r7 =>
 (cond r7.1
 (cond (((ln a0.2.2.1 : Nat) : Int) == 0)
 (some (true, ()))
 (ob (Xa a0.2.2.1 (wr .i64 (((ln a0.2.2.1 : Nat) : Int) - 1))) fun x8 =>
 (some ((decide (x8.1 ≤ a0.2.2.2.1)), ()))))
 (some (false, ())))))))))))))))
def Xw (a0 : Pa) : Option GG :=
 (cond (bl (ln ([] : List Va) + ln a0.1) Qa)
 (cond (bl (ln ([] : List Ca) + ln a0.2.2.1) Qa)
 (cond (bl (ln ([] : List Ca) + ln a0.2.2.2.2.2.2.1) Qa)
 (some (((ap [] a0.1), a0.2.1, (ap [] a0.2.2.1), a0.2.2.2.1, a0.2.2.2.2.1, a0.2.2.2.2.2.1, (ap [] a0.2.2.2.2.2.2.1), a0.2.2.2.2.2.2.2), ()))
 none)
 none)
 none)
def TA (a0 : Ad) : Option Xc :=
 (ob (Tb a0.1 1 1000) fun r1 =>
 (cond r1.1
 (ob (Tb a0.2.1 0 1000) fun r2 =>
 (cond r2.1
 (ob (Tb a0.2.2.1 0 2) fun r3 =>
 (some (r3.1, ())))
 (some (false, ()))))
 (some (false, ()))))
def Tt (a0 : Int) : Option Cc :=
 (ob (Tb a0 0 31) fun r1 =>
 (cond (!r1.1)
 (some (0, ()))
 (cond (decide (0 ≤ a0))
 (some ((Ra .i64 1 a0), ()))
 none)))
def Jz (t1 : Unit) (t3 : Int) (t4 : Int) (b1 : Jb) : Option ((Kx × Fm) ⊕ Lx) :=
 (cond (decide (t4 < ((ln b1.2.2.2.1 : Nat) : Int)))
 (ob (Xa b1.2.2.2.1 t4) fun x5 =>
 (ob (Tt x5.1) fun r6 =>
 (some (.inl (((), (Pc .i64 t3 r6.1), (wr .i64 (t4 + 1)), ()), (b1, ()))))))
 (some (.inr (.inl ((t3, ()), ())))))
def SB := Ta fun x : (Kx × Fm) => Jz x.1.1 x.1.2.1 x.1.2.2.1 x.2.1
def Vw (a0 : Jb) : Option Cc :=
 (ob (SB (((), 0, 0, ()), (a0, ()))) (se (fun y7 => (some (y7.1.1, ()))) (fun z8 => none)))
def Qw (a0 : Ib) : Option Xc :=
 (ob (Br a0.1) fun r1 =>
 (cond (!r1.1)
 (some (false, ()))
 (ob (TA a0.2.1) fun r2 =>
 (cond (!r2.1)
 (some (false, ()))
 (ob (Tb a0.2.2.2.1 0 1000000) fun r3 =>
 (cond (!r3.1)
 (some (false, ()))
 (ob (Tb a0.2.2.2.2.1 0 a0.2.2.2.1) fun r4 =>
 (cond (!r4.1)
 (some (false, ()))
 (ob (Vw a0.1) fun r5 =>
 (ob (Ok a0.2.2.1 r5.1 a0.1.1.1 0) fun r6 =>
 (cond (!r6.1)
 (some (false, ()))
 (cond (decide (((ln a0.2.2.1 : Nat) : Int) > 0))
 (ob (Xa a0.2.2.1 (wr .i64 (((ln a0.2.2.1 : Nat) : Int) - 1))) fun x7 =>
 (cond (decide (x7.1 > a0.2.2.2.1))
 (some (false, ()))
 (ob (Tb a0.2.2.2.2.2.1 0 a0.1.1.1) fun r8 =>
 (cond r8.1
 (ob (Tb a0.2.2.2.2.2.2.1 0 a0.2.2.2.1) fun r9 =>
 (some (r9.1, ())))
 (some (false, ()))))))
 (ob (Tb a0.2.2.2.2.2.1 0 a0.1.1.1) fun r10 =>
 (cond r10.1
 (ob (Tb a0.2.2.2.2.2.2.1 0 a0.2.2.2.1) fun r11 =>
 (some (r11.1, ())))
 (some (false, ()))))))))))))))))
def Lq (t0 : Int) (t1 : Be) (t5 : Int) : Option (((Int × ZM) × Unit) ⊕ Lx) :=
 (cond (decide (t5 < ((ln t1 : Nat) : Int)))
 (ob (Xa t1 t5) fun x5 =>
 (ob (Tt x5.2.1) fun r6 =>
 (some (.inl (((Za .i64 t0 r6.1), t1, (wr .i64 (t5 + 1)), ()), ())))))
 (some (.inr (.inl ((t0, ()), ())))))
def Wt := Ta fun x : ((Int × ZM) × Unit) => Lq x.1.1 x.1.2.1 x.1.2.2.1
def Zs (a0 : Int) (a1 : Be) : Option Cc :=
 (ob (Wt ((a0, a1, 0, ()), ())) (se (fun y7 => (some (y7.1.1, ()))) (fun z8 => none)))
def RD (t1 : Unit) (t3 : Int) (t4 : Int) (b1 : Pa) : Option (KV ⊕ Lx) :=
 (cond (decide (t4 < ((ln b1.2.2.2.2.2.2.1 : Nat) : Int)))
 (ob (Xa b1.2.2.2.2.2.2.1 t4) fun x7 =>
 (cond x7.2.2.1
 (ob (Xa b1.2.2.2.2.2.2.1 t4) fun x8 =>
 (ob (Tt x8.1) fun r9 =>
 (some (.inl (((), (Pc .i64 t3 r9.1), (wr .i64 (t4 + 1)), ()), (b1, ()))))))
 (some (.inl (((), t3, (wr .i64 (t4 + 1)), ()), (b1, ()))))))
 (some (.inr (.inl ((t3, ()), ())))))
def YF := Ta fun x : KV => RD x.1.1 x.1.2.1 x.1.2.2.1 x.2.1
def LR (a0 : Pa) : Option Cc :=
 (ob (YF (((), a0.2.2.2.2.2.1, 0, ()), (a0, ()))) (se (fun y10 => (some (y10.1.1, ()))) (fun z11 => none)))
def Cz (t1 : Unit) (t4 : Int) (t5 : Int) (b1 : Fd) : Option ((Kx × WJ) ⊕ ((Fe × WJ) ⊕ Gm)) :=
 (cond (decide (t5 < ((ln b1.2.2.1.1 : Nat) : Int)))
 (ob (Xa b1.2.2.1.1 t5) fun x12 =>
 (ob (Oo b1.1 x12.1) fun r13 =>
 (cond (!r13.1)
 (some (.inr (.inr ((false, ()), ()))))
 (ob (Xa b1.2.2.1.1 t5) fun x14 =>
 (cond (decide (x14.2.1 ≥ t4))
 (some (.inr (.inr ((false, ()), ()))))
 (some (.inl (((), t4, (wr .i64 (t5 + 1)), ()), (b1, ())))))))))
 (some (.inr (.inl (((), ()), (b1, ()))))))
def QB := Ta fun x : (Kx × WJ) => Cz x.1.1 x.1.2.1 x.1.2.2.1 x.2.1
def QF (a0 : Fd) : Option Xc :=
 (ob (Yk a0.1) fun r1 =>
 (cond (r1.1 == 0)
 (some (false, ()))
 (ob (Mp a0.2.1) fun r2 =>
 (cond (!r2.1)
 (some (false, ()))
 (cond (a0.2.1.2.2.1 != r1.1)
 (some (false, ()))
 (ob (Oo a0.1 a0.2.2.2.2.1) fun r3 =>
 (cond (!r3.1)
 (some (false, ()))
 (ob (Ss a0.2.2.1) fun r4 =>
 (cond (!r4.1)
 (some (false, ()))
 (ob (Qw a0.2.2.2.1) fun r5 =>
 (cond (!r5.1)
 (some (false, ()))
 (cond (decide (a0.2.2.2.1.1.1.1 < r1.1))
 (some (false, ()))
 (ob (QB (((), a0.2.2.2.1.1.1.1, 0, ()), (a0, ()))) (se (fun y15 => (ob (Tb y15.2.1.2.2.2.2.2.1 0 1000000) fun r17 =>
 (cond (!r17.1)
 (some (false, ()))
 (cond (decide (y15.2.1.2.2.1.2.2.2.1 > y15.2.1.2.2.2.2.2.1))
 (some (false, ()))
 (cond (decide (y15.2.1.2.2.2.1.2.2.2.1 > y15.2.1.2.2.2.2.2.1))
 (some (false, ()))
 (ob (Yw y15.2.1.2.2.1) fun r18 =>
 (ob (Zs r18.1 y15.2.1.2.2.1.2.2.1) fun r19 =>
 (cond (r19.1 == y15.2.1.2.1.2.2.2.1)
 (ob (Vw y15.2.1.2.2.2.1.1) fun r20 =>
 (ob (Zs r20.1 y15.2.1.2.2.2.1.2.2.1) fun r21 =>
 (ob (LR y15.2.1.2.2.1) fun r22 =>
 (some ((r21.1 == r22.1), ())))))
 (some (false, ())))))))))) (fun z16 => (some (z16.1.1, ())))))))))))))))))
def DP (a0 : Fd) : Option WJ :=
 (cond (bl (ln ([] : List Int) + ln a0.2.1.2.2.2.2.2.1) Qa)
 (ob (Xw a0.2.2.1) fun r1 =>
 (ob (Qo a0.2.2.2.1.1) fun r2 =>
 (cond (bl (ln ([] : List Ca) + ln a0.2.2.2.1.2.2.1) Qa)
 (some ((a0.1, (a0.2.1.1, a0.2.1.2.1, a0.2.1.2.2.1, a0.2.1.2.2.2.1, a0.2.1.2.2.2.2.1, (ap [] a0.2.1.2.2.2.2.2.1), a0.2.1.2.2.2.2.2.2), r1.1, (r2.1, a0.2.2.2.1.2.1, (ap [] a0.2.2.2.1.2.2.1), a0.2.2.2.1.2.2.2), a0.2.2.2.2), ()))
 none)))
 none)
def Qn (t66 : Lc) (t67 : Int) (t68 : Int) : Option ((UQ × Unit) ⊕ Hk) :=
 (cond (decide (t68 < t67))
 (ob (Xa t66 t68) fun x3 =>
 (cond (decide (x3 < 0))
 (some (.inr (.inr ((false, ()), ()))))
 (cond (decide (x3 > 99))
 (some (.inr (.inr ((false, ()), ()))))
 (some (.inl ((t66, t67, (wr .i64 (t68 + 1)), ()), ()))))))
 (some (.inr (.inl ((), ())))))
def Qq := Ta fun x : (UQ × Unit) => Qn x.1.1 x.1.2.1 x.1.2.2.1
def Dp (a0 : Qb) : Option Xc :=
 (cond (decide (a0.1 < 0))
 (some (false, ()))
 (cond (decide (a0.1 > 2))
 (some (false, ()))
 (cond (decide (a0.2.1 < 1))
 (some (false, ()))
 (cond (decide (a0.2.1 > 20))
 (some (false, ()))
 (cond (decide (a0.2.2.1 < 1))
 (some (false, ()))
 (cond (decide (a0.2.2.1 > 24))
 (some (false, ()))
 (cond (((ln a0.2.2.2.2.2.1 : Nat) : Int) != a0.2.2.1)
 (some (false, ()))
 (cond (decide (a0.2.2.2.1 < 0))
 (some (false, ()))
 (cond (decide (0 ≤ a0.2.2.1))
 (cond (decide (a0.2.2.2.1 ≥ (Ra .i64 1 a0.2.2.1)))
 (some (false, ()))
 (cond (decide (a0.2.2.2.2.1 < 0))
 (some (false, ()))
 (cond (decide (0 ≤ a0.2.2.1))
 (cond (decide (a0.2.2.2.2.1 ≥ (Ra .i64 1 a0.2.2.1)))
 (some (false, ()))
 (ob (Qq ((a0.2.2.2.2.2.1, ((ln a0.2.2.2.2.2.1 : Nat) : Int), 0, ()), ())) (se (fun y4 => (some (true, ()))) (fun z5 => (some (z5.1.1, ()))))))
 none)))
 none)))))))))
def O7 (a0 : Int) : Option Cc :=
 (cond (decide ((0 : Int) ≤ 24))
 (ob (Xa Dai (Wb .u32 a0 24)) fun c1 =>
 (cond (decide ((0 : Int) ≤ 16))
 (ob (Xa Dai (Wa .u32 (Wb .u32 a0 16) 255)) fun c2 =>
 (cond (decide ((0 : Int) ≤ 8))
 (ob (Xa Dai (Wa .u32 (Wb .u32 a0 8) 255)) fun c3 =>
 (ob (Xa Dai (Wa .u32 a0 255)) fun c4 =>
 (some ((wr .i64 (wr .u8 ((wr .u8 ((wr .u8 (((UInt8.toNat c1 : Nat) : Int) + ((UInt8.toNat c2 : Nat) : Int))) + ((UInt8.toNat c3 : Nat) : Int))) + ((UInt8.toNat c4 : Nat) : Int)))), ()))))
 none))
 none))
 none)
def FL (a0 : Int) : Option Cc :=
 (cond (decide ((0 : Int) ≤ 1))
 (cond (decide ((0 : Int) ≤ 2))
 (cond (decide ((0 : Int) ≤ 4))
 (cond (decide ((0 : Int) ≤ 8))
 (cond (decide ((0 : Int) ≤ 16))
 (cond (decide ((0 : Int) ≤ 32))
 (some ((Wa .i64 (wr .i64 (wr .u64 ((wr .u64 ((wr .u64 ((Wa .u64 (wr .u64 ((Wb .u64 (wr .u64 ((Wa .u64 (Wb .u64 (wr .u64 ((Wa .u64 (Wb .u64 a0 1) 6148914691236517205) + (Wa .u64 a0 6148914691236517205))) 2) 3689348814741910323) + (Wa .u64 (wr .u64 ((Wa .u64 (Wb .u64 a0 1) 6148914691236517205) + (Wa .u64 a0 6148914691236517205))) 3689348814741910323))) 4) + (wr .u64 ((Wa .u64 (Wb .u64 (wr .u64 ((Wa .u64 (Wb .u64 a0 1) 6148914691236517205) + (Wa .u64 a0 6148914691236517205))) 2) 3689348814741910323) + (Wa .u64 (wr .u64 ((Wa .u64 (Wb .u64 a0 1) 6148914691236517205) + (Wa .u64 a0 6148914691236517205))) 3689348814741910323))))) 1085102592571150095) + (Wb .u64 (Wa .u64 (wr .u64 ((Wb .u64 (wr .u64 ((Wa .u64 (Wb .u64 (wr .u64 ((Wa .u64 (Wb .u64 a0 1) 6148914691236517205) + (Wa .u64 a0 6148914691236517205))) 2) 3689348814741910323) + (Wa .u64 (wr .u64 ((Wa .u64 (Wb .u64 a0 1) 6148914691236517205) + (Wa .u64 a0 6148914691236517205))) 3689348814741910323))) 4) + (wr .u64 ((Wa .u64 (Wb .u64 (wr .u64 ((Wa .u64 (Wb .u64 a0 1) 6148914691236517205) + (Wa .u64 a0 6148914691236517205))) 2) 3689348814741910323) + (Wa .u64 (wr .u64 ((Wa .u64 (Wb .u64 a0 1) 6148914691236517205) + (Wa .u64 a0 6148914691236517205))) 3689348814741910323))))) 1085102592571150095) 8))) + (Wb .u64 (wr .u64 ((Wa .u64 (wr .u64 ((Wb .u64 (wr .u64 ((Wa .u64 (Wb .u64 (wr .u64 ((Wa .u64 (Wb .u64 a0 1) 6148914691236517205) + (Wa .u64 a0 6148914691236517205))) 2) 3689348814741910323) + (Wa .u64 (wr .u64 ((Wa .u64 (Wb .u64 a0 1) 6148914691236517205) + (Wa .u64 a0 6148914691236517205))) 3689348814741910323))) 4) + (wr .u64 ((Wa .u64 (Wb .u64 (wr .u64 ((Wa .u64 (Wb .u64 a0 1) 6148914691236517205) + (Wa .u64 a0 6148914691236517205))) 2) 3689348814741910323) + (Wa .u64 (wr .u64 ((Wa .u64 (Wb .u64 a0 1) 6148914691236517205) + (Wa .u64 a0 6148914691236517205))) 3689348814741910323))))) 1085102592571150095) + (Wb .u64 (Wa .u64 (wr .u64 ((Wb .u64 (wr .u64 ((Wa .u64 (Wb .u64 (wr .u64 ((Wa .u64 (Wb .u64 a0 1) 6148914691236517205) + (Wa .u64 a0 6148914691236517205))) 2) 3689348814741910323) + (Wa .u64 (wr .u64 ((Wa .u64 (Wb .u64 a0 1) 6148914691236517205) + (Wa .u64 a0 6148914691236517205))) 3689348814741910323))) 4) + (wr .u64 ((Wa .u64 (Wb .u64 (wr .u64 ((Wa .u64 (Wb .u64 a0 1) 6148914691236517205) + (Wa .u64 a0 6148914691236517205))) 2) 3689348814741910323) + (Wa .u64 (wr .u64 ((Wa .u64 (Wb .u64 a0 1) 6148914691236517205) + (Wa .u64 a0 6148914691236517205))) 3689348814741910323))))) 1085102592571150095) 8))) 16))) + (Wb .u64 (wr .u64 ((wr .u64 ((Wa .u64 (wr .u64 ((Wb .u64 (wr .u64 ((Wa .u64 (Wb .u64 (wr .u64 ((Wa .u64 (Wb .u64 a0 1) 6148914691236517205) + (Wa .u64 a0 6148914691236517205))) 2) 3689348814741910323) + (Wa .u64 (wr .u64 ((Wa .u64 (Wb .u64 a0 1) 6148914691236517205) + (Wa .u64 a0 6148914691236517205))) 3689348814741910323))) 4) + (wr .u64 ((Wa .u64 (Wb .u64 (wr .u64 ((Wa .u64 (Wb .u64 a0 1) 6148914691236517205) + (Wa .u64 a0 6148914691236517205))) 2) 3689348814741910323) + (Wa .u64 (wr .u64 ((Wa .u64 (Wb .u64 a0 1) 6148914691236517205) + (Wa .u64 a0 6148914691236517205))) 3689348814741910323))))) 1085102592571150095) + (Wb .u64 (Wa .u64 (wr .u64 ((Wb .u64 (wr .u64 ((Wa .u64 (Wb .u64 (wr .u64 ((Wa .u64 (Wb .u64 a0 1) 6148914691236517205) + (Wa .u64 a0 6148914691236517205))) 2) 3689348814741910323) + (Wa .u64 (wr .u64 ((Wa .u64 (Wb .u64 a0 1) 6148914691236517205) + (Wa .u64 a0 6148914691236517205))) 3689348814741910323))) 4) + (wr .u64 ((Wa .u64 (Wb .u64 (wr .u64 ((Wa .u64 (Wb .u64 a0 1) 6148914691236517205) + (Wa .u64 a0 6148914691236517205))) 2) 3689348814741910323) + (Wa .u64 (wr .u64 ((Wa .u64 (Wb .u64 a0 1) 6148914691236517205) + (Wa .u64 a0 6148914691236517205))) 3689348814741910323))))) 1085102592571150095) 8))) + (Wb .u64 (wr .u64 ((Wa .u64 (wr .u64 ((Wb .u64 (wr .u64 ((Wa .u64 (Wb .u64 (wr .u64 ((Wa .u64 (Wb .u64 a0 1) 6148914691236517205) + (Wa .u64 a0 6148914691236517205))) 2) 3689348814741910323) + (Wa .u64 (wr .u64 ((Wa .u64 (Wb .u64 a0 1) 6148914691236517205) + (Wa .u64 a0 6148914691236517205))) 3689348814741910323))) 4) + (wr .u64 ((Wa .u64 (Wb .u64 (wr .u64 ((Wa .u64 (Wb .u64 a0 1) 6148914691236517205) + (Wa .u64 a0 6148914691236517205))) 2) 3689348814741910323) + (Wa .u64 (wr .u64 ((Wa .u64 (Wb .u64 a0 1) 6148914691236517205) + (Wa .u64 a0 6148914691236517205))) 3689348814741910323))))) 1085102592571150095) + (Wb .u64 (Wa .u64 (wr .u64 ((Wb .u64 (wr .u64 ((Wa .u64 (Wb .u64 (wr .u64 ((Wa .u64 (Wb .u64 a0 1) 6148914691236517205) + (Wa .u64 a0 6148914691236517205))) 2) 3689348814741910323) + (Wa .u64 (wr .u64 ((Wa .u64 (Wb .u64 a0 1) 6148914691236517205) + (Wa .u64 a0 6148914691236517205))) 3689348814741910323))) 4) + (wr .u64 ((Wa .u64 (Wb .u64 (wr .u64 ((Wa .u64 (Wb .u64 a0 1) 6148914691236517205) + (Wa .u64 a0 6148914691236517205))) 2) 3689348814741910323) + (Wa .u64 (wr .u64 ((Wa .u64 (Wb .u64 a0 1) 6148914691236517205) + (Wa .u64 a0 6148914691236517205))) 3689348814741910323))))) 1085102592571150095) 8))) 16))) 32)))) 127), ()))
 none)
 none)
 none)
 none)
 none)
 none)
def JG (a0 : Int) : Option Cc :=
 (ob (FL a0) fun r1 =>
 (some (r1.1, ())))
def Nr (t0 : Ke) (t4 : Unit) (t11 : Ke) (t12 : Int) (t13 : Int) (t48 : Ke) (t49 : Int) (t50 : Int) (b4 : Va) : Option (NaA ⊕ (((Ke × Er) × Unit) ⊕ Gm)) :=
 (cond (decide (t50 < t49))
 (ob (Xa t48 t50) fun x19 =>
 (cond (x19.1 == b4.1)
 (some (.inr (.inr ((false, ()), ()))))
 (cond (x19.2.1 == b4.2.1)
 (some (.inr (.inr ((false, ()), ()))))
 (some (.inl ((t0, (), t11, t12, t13, t48, t49, (wr .i64 (t50 + 1)), ()), (b4, ())))))))
 (some (.inr (.inl ((t0, t11, t12, t13, ()), ())))))
def Tv := Ta fun x : NaA => Nr x.1.1 x.1.2.1 x.1.2.2.1 x.1.2.2.2.1 x.1.2.2.2.2.1 x.1.2.2.2.2.2.1 x.1.2.2.2.2.2.2.1 x.1.2.2.2.2.2.2.2.1 x.2.1
def Fu (t0 : Ke) (t11 : Ke) (t12 : Int) (t13 : Int) : Option (((Ke × Er) × Unit) ⊕ Hk) :=
 (cond (decide (t13 < t12))
 (ob (Xa t11 t13) fun x15 =>
 (cond (decide (x15.1 < 0))
 (some (.inr (.inr ((false, ()), ()))))
 (cond (decide (x15.1 > 16777215))
 (some (.inr (.inr ((false, ()), ()))))
 (cond (decide (x15.2.1 < 24))
 (some (.inr (.inr ((false, ()), ()))))
 (cond (decide (x15.2.1 > 31))
 (some (.inr (.inr ((false, ()), ()))))
 (ob (JG (wr .u64 x15.1)) fun r16 =>
 (cond (decide (r16.1 < 2))
 (some (.inr (.inr ((false, ()), ()))))
 (cond (decide (r16.1 > 4))
 (some (.inr (.inr ((false, ()), ()))))
 (cond (Ld (ln t0) 0 t13)
 (ob (Tv ((t0, (), t11, t12, t13, (Gb t0 (tn 0) (tn t13)), ((ln (Gb t0 (tn 0) (tn t13)) : Nat) : Int), 0, ()), (x15, ()))) (se (fun y20 => (some (.inl ((y20.1.1, y20.1.2.1, y20.1.2.2.1, (wr .i64 (y20.1.2.2.2.1 + 1)), ()), ())))) (fun z21 => (some (.inr (.inr ((z21.1.1, ()), ())))))))
 none)))))))))
 (some (.inr (.inl ((), ())))))
def Cy := Ta fun x : ((Ke × Er) × Unit) => Fu x.1.1 x.1.2.1 x.1.2.2.1 x.1.2.2.2.1
def BA (a0 : Ke) : Option Xc :=
 (cond (decide (((ln a0 : Nat) : Int) > 8))
 (some (false, ()))
 (ob (Cy ((a0, a0, ((ln a0 : Nat) : Int), 0, ()), ())) (se (fun y22 => (some (true, ()))) (fun z23 => (some (z23.1.1, ()))))))
def Iy (t1 : Int) (t4 : Unit) (t8 : Ke) (t9 : Int) (t10 : Int) (b4 : Va) : Option (((Int × (Unit × Er)) × XM) ⊕ ((Fe × XM) ⊕ ((Unit × Xc) × XM))) :=
 (cond (decide (t10 < t9))
 (ob (Xa t8 t10) fun x3 =>
 (cond (x3.2.1 == t1)
 (some (.inr (.inr (((), true, ()), (x3, ())))))
 (some (.inl ((t1, (), t8, t9, (wr .i64 (t10 + 1)), ()), (b4, ()))))))
 (some (.inr (.inl (((), ()), (b4, ()))))))
def NB := Ta fun x : ((Int × (Unit × Er)) × XM) => Iy x.1.1 x.1.2.1 x.1.2.2.1 x.1.2.2.2.1 x.1.2.2.2.2.1 x.2.1
def RE (a0 : Ke) (a1 : Int) : Option (Va × Xc) :=
 (ob (NB ((a1, (), a0, ((ln a0 : Nat) : Int), 0, ()), ((0, 0, ()), ()))) (se (fun y4 => (some ((0, 0, ()), false, ()))) (fun z5 => (some (z5.2.1, z5.1.2.1, ())))))
def Sp (t1 : Unit) (t3 : Int) (t9 : Be) (t10 : Int) (t11 : Int) (b1 : Pa) : Option (((Unit × XB) × GG) ⊕ Hk) :=
 (cond (decide (t11 < t10))
 (ob (Xa t9 t11) fun x7 =>
 (ob (RE b1.1 x7.1) fun r8 =>
 (cond (!r8.2.1)
 (some (.inr (.inr ((false, ()), ()))))
 (ob (Ye t3 x7.1) fun r9 =>
 (cond (r9.1 == 1)
 (some (.inr (.inr ((false, ()), ()))))
 (cond (decide (x7.2.1 ≤ 0))
 (some (.inr (.inr ((false, ()), ()))))
 (cond ((Mb .i64 x7.2.1 r8.1.1) != 0)
 (some (.inr (.inr ((false, ()), ()))))
 (cond (x7.2.2.1 != (x7.2.1 == r8.1.1))
 (some (.inr (.inr ((false, ()), ()))))
 (cond (decide (0 ≤ x7.1))
 (some (.inl (((), (Pc .i64 t3 (Ra .i64 1 x7.1)), t9, t10, (wr .i64 (t11 + 1)), ()), (b1, ()))))
 none)))))))))
 (some (.inr (.inl ((), ())))))
def It := Ta fun x : ((Unit × XB) × GG) => Sp x.1.1 x.1.2.1 x.1.2.2.1 x.1.2.2.2.1 x.1.2.2.2.2.1 x.2.1
def IC (a0 : Pa) : Option Xc :=
 (ob (It (((), 0, a0.2.2.2.2.2.2.1, ((ln a0.2.2.2.2.2.2.1 : Nat) : Int), 0, ()), (a0, ()))) (se (fun y10 => (some (true, ()))) (fun z11 => (some (z11.1.1, ())))))
def Mm (t4 : Int) (t10 : Be) (t11 : Int) (t12 : Int) : Option ((XB × Unit) ⊕ (D4 ⊕ (Nx × Unit))) :=
 (cond (decide (t12 < t11))
 (ob (Xa t10 t12) fun x3 =>
 (cond ((Wa .i64 t4 x3.2.1) != 0)
 (some (.inr (.inr ((0, false, ()), ()))))
 (some (.inl (((Pc .i64 t4 x3.2.1), t10, t11, (wr .i64 (t12 + 1)), ()), ())))))
 (some (.inr (.inl ((t4, ()), ())))))
def Hp := Ta fun x : (XB × Unit) => Mm x.1.1 x.1.2.1 x.1.2.2.1 x.1.2.2.2.1
def Si (a0 : Pa) : Option Nx :=
 (ob (Hp ((a0.2.2.2.2.2.1, a0.2.2.2.2.2.2.1, ((ln a0.2.2.2.2.2.2.1 : Nat) : Int), 0, ()), ())) (se (fun y4 => (some (y4.1.1, true, ()))) (fun z5 => (some z5.1))))
def Mr (a0 : Pa) : Option Xc :=
 (ob (BA a0.1) fun r1 =>
 (cond (!r1.1)
 (some (false, ()))
 (cond (decide (a0.2.1 < 1))
 (some (false, ()))
 (cond (decide (a0.2.1 > 200))
 (some (false, ()))
 (cond (decide (a0.2.2.2.1 < 0))
 (some (false, ()))
 (cond (decide (a0.2.2.2.1 > 1000000))
 (some (false, ()))
 (cond (decide (a0.2.2.2.2.1 < 0))
 (some (false, ()))
 (cond (decide (a0.2.2.2.2.1 > a0.2.2.2.1))
 (some (false, ()))
 (cond (decide (a0.2.2.2.2.2.1 < 0))
 (some (false, ()))
 (cond (decide (a0.2.2.2.2.2.1 > 16777215))
 (some (false, ()))
 (ob (IC a0) fun r2 =>
 (cond (!r2.1)
 (some (false, ()))
 (ob (Si a0) fun r3 =>
 (cond r3.2.1
 (ob (Ni a0.2.2.1 r3.1 24) fun r4 =>
 (cond r4.1
 (ob (Li a0.2.2.1 a0.2.2.2.1) fun r5 =>
 (some (r5.1, ())))
 (some (false, ()))))
 (some (false, ()))))))))))))))))
def Tr (t0 : Int) (t7 : Be) (t8 : Int) (t9 : Int) : Option ((XB × Unit) ⊕ Lx) :=
 (cond (decide (t9 < t8))
 (ob (Xa t7 t9) fun x3 =>
 (cond x3.2.2.1
 (cond (decide (0 ≤ x3.2.1))
 (some (.inl (((Pc .i64 t0 (Ra .i64 1 x3.2.1)), t7, t8, (wr .i64 (t9 + 1)), ()), ())))
 none)
 (cond (decide (0 ≤ x3.2.1))
 (some (.inl (((Mb .i64 t0 (Ra .i64 1 x3.2.1)), t7, t8, (wr .i64 (t9 + 1)), ()), ())))
 none)))
 (some (.inr (.inl ((t0, ()), ())))))
def Bw := Ta fun x : (XB × Unit) => Tr x.1.1 x.1.2.1 x.1.2.2.1 x.1.2.2.2.1
def Aw (a0 : Int) (a1 : Be) : Option Cc :=
 (ob (Bw ((a0, a1, ((ln a1 : Nat) : Int), 0, ()), ())) (se (fun y4 => (some (y4.1.1, ()))) (fun z5 => none)))
def Ay (t1 : Unit) (t3 : Int) (t62 : Ke) (t63 : Int) (t64 : Int) (b1 : Fd) : Option (((Unit × (Int × Er)) × WJ) ⊕ ((Fe × WJ) ⊕ Gm)) :=
 (cond (decide (t64 < t63))
 (ob (Xa t62 t64) fun x12 =>
 (ob (Lo b1.1 x12.1) fun r13 =>
 (cond (!r13.1)
 (some (.inr (.inr ((false, ()), ()))))
 (cond (decide (x12.2.1 ≥ t3))
 (some (.inr (.inr ((false, ()), ()))))
 (some (.inl (((), t3, t62, t63, (wr .i64 (t64 + 1)), ()), (b1, ()))))))))
 (some (.inr (.inl (((), ()), (b1, ()))))))
def JB := Ta fun x : ((Unit × (Int × Er)) × WJ) => Ay x.1.1 x.1.2.1 x.1.2.2.1 x.1.2.2.2.1 x.1.2.2.2.2.1 x.2.1
def Eu (t1 : Unit) (t6 : Int) (t8 : Int) (t116 : Be) (t117 : Int) (t118 : Int) (b1 : Fd) : Option (((Unit × (Int × XB)) × WJ) ⊕ ((Kx × WJ) ⊕ Fe)) :=
 (cond (decide (t118 < t117))
 (ob (Xa t116 t118) fun x19 =>
 (cond x19.2.2.1
 (cond (decide (0 ≤ x19.1))
 (some (.inl (((), t6, (Pc .i64 t8 (Ra .i64 1 x19.1)), t116, t117, (wr .i64 (t118 + 1)), ()), (b1, ()))))
 none)
 (some (.inl (((), t6, t8, t116, t117, (wr .i64 (t118 + 1)), ()), (b1, ()))))))
 (some (.inr (.inl (((), t6, t8, ()), (b1, ()))))))
def Pn := Ta fun x : ((Unit × (Int × XB)) × WJ) => Eu x.1.1 x.1.2.1 x.1.2.2.1 x.1.2.2.2.1 x.1.2.2.2.2.1 x.1.2.2.2.2.2.1 x.2.1
def OE (a0 : Fd) : Option Xc :=
 (ob (Vq a0.1) fun r1 =>
 (cond (!r1.1)
 (some (false, ()))
 (ob (Dp a0.2.1) fun r2 =>
 (cond (!r2.1)
 (some (false, ()))
 (ob (Mr a0.2.2.1) fun r3 =>
 (cond (!r3.1)
 (some (false, ()))
 (ob (Uv a0.2.2.2.1) fun r4 =>
 (cond (!r4.1)
 (some (false, ()))
 (ob (Lj a0.1) fun r5 =>
 (cond (a0.2.1.2.2.1 != r5.1)
 (some (false, ()))
 (ob (Lj a0.1) fun r6 =>
 (cond (decide (a0.2.2.2.1.1.1.1 < r6.1))
 (some (false, ()))
 (ob (Lo a0.1 a0.2.2.2.2.1) fun r7 =>
 (cond (!r7.1)
 (some (false, ()))
 (ob (JB (((), a0.2.2.2.1.1.1.1, a0.2.2.1.1, ((ln a0.2.2.1.1 : Nat) : Int), 0, ()), (a0, ()))) (se (fun y14 => (cond (decide (y14.2.1.2.2.2.2.2.1 < 0))
 (some (false, ()))
 (cond (decide (y14.2.1.2.2.2.2.2.1 > 1000000))
 (some (false, ()))
 (cond (decide (y14.2.1.2.2.1.2.2.2.1 > y14.2.1.2.2.2.2.2.1))
 (some (false, ()))
 (cond (decide (y14.2.1.2.2.2.1.2.2.2.1 > y14.2.1.2.2.2.2.2.1))
 (some (false, ()))
 (ob (Si y14.2.1.2.2.1) fun r16 =>
 (ob (Pn (((), r16.1, y14.2.1.2.2.1.2.2.2.2.2.1, y14.2.1.2.2.1.2.2.2.2.2.2.1, ((ln y14.2.1.2.2.1.2.2.2.2.2.2.1 : Nat) : Int), 0, ()), (y14.2.1, ()))) (se (fun y20 => (ob (Aw y20.1.2.1 y20.2.1.2.2.1.2.2.1) fun r22 =>
 (cond (r22.1 == y20.2.1.2.1.2.2.2.1)
 (ob (Ym y20.2.1.2.2.2.1.1.2.2.2.1) fun r23 =>
 (ob (Aw r23.1 y20.2.1.2.2.2.1.2.2.1) fun r24 =>
 (some ((r24.1 == y20.1.2.2.1), ()))))
 (some (false, ()))))) (fun z21 => none))))))))) (fun z15 => (some (z15.1.1, ())))))))))))))))))))
def Sk (a0 : Pa) : Option GG :=
 (cond (bl (ln ([] : List Va) + ln a0.1) Qa)
 (cond (bl (ln ([] : List Ca) + ln a0.2.2.1) Qa)
 (cond (bl (ln ([] : List Ca) + ln a0.2.2.2.2.2.2.1) Qa)
 (some (((ap [] a0.1), a0.2.1, (ap [] a0.2.2.1), a0.2.2.2.1, a0.2.2.2.2.1, a0.2.2.2.2.2.1, (ap [] a0.2.2.2.2.2.2.1), a0.2.2.2.2.2.2.2), ()))
 none)
 none)
 none)
def NG (a0 : Fd) : Option WJ :=
 (ob (Wq a0.2.1.2.2.2.2.2.1) fun r1 =>
 (ob (Sk a0.2.2.1) fun r2 =>
 (ob (Kl a0.2.2.2.1) fun r3 =>
 (some ((a0.1, (a0.2.1.1, a0.2.1.2.1, a0.2.1.2.2.1, a0.2.1.2.2.2.1, a0.2.1.2.2.2.2.1, r1.1, a0.2.1.2.2.2.2.2.2), r2.1, r3.1, a0.2.2.2.2), ())))))
def Rj (t1 : Int) (t2 : Unit) (t4 : Unit) (t6 : Unit) (t27 : Lc) (t28 : Int) (t29 : Int) (b2 : Qb) (b4 : Qb) (b6 : Qb) : Option (((Int × (Unit × (Unit × SY))) × Mah) ⊕ (((Int × OV) × (Qb × CT)) ⊕ Fe)) :=
 (cond (decide (t29 < t28))
 (ob (Xa t27 t29) fun x53 =>
 (cond (b2.1 == 0)
 (ob (Ye t1 t29) fun r54 =>
 (ob (Ye b2.2.2.2.2.1 t29) fun r55 =>
 (cond (r54.1 != r55.1)
 (cond (decide (1 ≥ b2.2.1))
 (ob (Ye t1 t29) fun r56 =>
 (ob (Ye b2.2.2.2.1 t29) fun r57 =>
 (cond (r56.1 != r57.1)
 (cond (decide (0 ≤ t29))
 (cond (b2.1 == 2)
 (cond (bl (ln b6.2.2.2.2.2.1 + ln ([0] : List Int)) Qa)
 (some (.inl ((t1, (), (), (), t27, t28, (wr .i64 (t29 + 1)), ()), (b2, b4, (b6.1, b6.2.1, b6.2.2.1, (Za .i64 b6.2.2.2.1 (Ra .i64 1 t29)), b6.2.2.2.2.1, (ap b6.2.2.2.2.2.1 ([0] : List Int)), b6.2.2.2.2.2.2), ()))))
 none)
 (cond (bl (ln b6.2.2.2.2.2.1 + ln ([1] : List Int)) Qa)
 (some (.inl ((t1, (), (), (), t27, t28, (wr .i64 (t29 + 1)), ()), (b2, b4, (b6.1, b6.2.1, b6.2.2.1, (Za .i64 b6.2.2.2.1 (Ra .i64 1 t29)), b6.2.2.2.2.1, (ap b6.2.2.2.2.2.1 ([1] : List Int)), b6.2.2.2.2.2.2), ()))))
 none))
 none)
 (cond (bl (ln b6.2.2.2.2.2.1 + ln ([1] : List Int)) Qa)
 (some (.inl ((t1, (), (), (), t27, t28, (wr .i64 (t29 + 1)), ()), (b2, b4, (b6.1, b6.2.1, b6.2.2.1, b6.2.2.2.1, b6.2.2.2.2.1, (ap b6.2.2.2.2.2.1 ([1] : List Int)), b6.2.2.2.2.2.2), ()))))
 none))))
 (cond (bl (ln b6.2.2.2.2.2.1 + ln ([1] : List Int)) Qa)
 (some (.inl ((t1, (), (), (), t27, t28, (wr .i64 (t29 + 1)), ()), (b2, b4, (b6.1, b6.2.1, b6.2.2.1, b6.2.2.2.1, b6.2.2.2.2.1, (ap b6.2.2.2.2.2.1 ([1] : List Int)), b6.2.2.2.2.2.2), ()))))
 none))
 (cond (b2.1 == 1)
 (cond (t1 != b2.2.2.2.2.1)
 (cond (decide (1 ≥ b2.2.1))
 (ob (Ye t1 t29) fun r58 =>
 (ob (Ye b2.2.2.2.1 t29) fun r59 =>
 (cond (r58.1 != r59.1)
 (cond (decide (0 ≤ t29))
 (cond (b2.1 == 2)
 (cond (bl (ln b6.2.2.2.2.2.1 + ln ([0] : List Int)) Qa)
 (some (.inl ((t1, (), (), (), t27, t28, (wr .i64 (t29 + 1)), ()), (b2, b4, (b6.1, b6.2.1, b6.2.2.1, (Za .i64 b6.2.2.2.1 (Ra .i64 1 t29)), b6.2.2.2.2.1, (ap b6.2.2.2.2.2.1 ([0] : List Int)), b6.2.2.2.2.2.2), ()))))
 none)
 (cond (bl (ln b6.2.2.2.2.2.1 + ln ([1] : List Int)) Qa)
 (some (.inl ((t1, (), (), (), t27, t28, (wr .i64 (t29 + 1)), ()), (b2, b4, (b6.1, b6.2.1, b6.2.2.1, (Za .i64 b6.2.2.2.1 (Ra .i64 1 t29)), b6.2.2.2.2.1, (ap b6.2.2.2.2.2.1 ([1] : List Int)), b6.2.2.2.2.2.2), ()))))
 none))
 none)
 (cond (bl (ln b6.2.2.2.2.2.1 + ln ([1] : List Int)) Qa)
 (some (.inl ((t1, (), (), (), t27, t28, (wr .i64 (t29 + 1)), ()), (b2, b4, (b6.1, b6.2.1, b6.2.2.1, b6.2.2.2.1, b6.2.2.2.2.1, (ap b6.2.2.2.2.2.1 ([1] : List Int)), b6.2.2.2.2.2.2), ()))))
 none))))
 (cond (bl (ln b6.2.2.2.2.2.1 + ln ([1] : List Int)) Qa)
 (some (.inl ((t1, (), (), (), t27, t28, (wr .i64 (t29 + 1)), ()), (b2, b4, (b6.1, b6.2.1, b6.2.2.1, b6.2.2.2.1, b6.2.2.2.2.1, (ap b6.2.2.2.2.2.1 ([1] : List Int)), b6.2.2.2.2.2.2), ()))))
 none))
 (cond (decide ((min (wr .i64 (x53 + 1)) 99) ≥ b2.2.1))
 (ob (Ye t1 t29) fun r60 =>
 (ob (Ye b2.2.2.2.1 t29) fun r61 =>
 (cond (r60.1 != r61.1)
 (cond (decide (0 ≤ t29))
 (cond (b2.1 == 2)
 (cond (bl (ln b6.2.2.2.2.2.1 + ln ([0] : List Int)) Qa)
 (some (.inl ((t1, (), (), (), t27, t28, (wr .i64 (t29 + 1)), ()), (b2, b4, (b6.1, b6.2.1, b6.2.2.1, (Za .i64 b6.2.2.2.1 (Ra .i64 1 t29)), b6.2.2.2.2.1, (ap b6.2.2.2.2.2.1 ([0] : List Int)), b6.2.2.2.2.2.2), ()))))
 none)
 (cond (bl (ln b6.2.2.2.2.2.1 + ln ([(min (wr .i64 (x53 + 1)) 99)] : List Int)) Qa)
 (some (.inl ((t1, (), (), (), t27, t28, (wr .i64 (t29 + 1)), ()), (b2, b4, (b6.1, b6.2.1, b6.2.2.1, (Za .i64 b6.2.2.2.1 (Ra .i64 1 t29)), b6.2.2.2.2.1, (ap b6.2.2.2.2.2.1 ([(min (wr .i64 (x53 + 1)) 99)] : List Int)), b6.2.2.2.2.2.2), ()))))
 none))
 none)
 (cond (bl (ln b6.2.2.2.2.2.1 + ln ([(min (wr .i64 (x53 + 1)) 99)] : List Int)) Qa)
 (some (.inl ((t1, (), (), (), t27, t28, (wr .i64 (t29 + 1)), ()), (b2, b4, (b6.1, b6.2.1, b6.2.2.1, b6.2.2.2.1, b6.2.2.2.2.1, (ap b6.2.2.2.2.2.1 ([(min (wr .i64 (x53 + 1)) 99)] : List Int)), b6.2.2.2.2.2.2), ()))))
 none))))
 (cond (bl (ln b6.2.2.2.2.2.1 + ln ([(min (wr .i64 (x53 + 1)) 99)] : List Int)) Qa)
 (some (.inl ((t1, (), (), (), t27, t28, (wr .i64 (t29 + 1)), ()), (b2, b4, (b6.1, b6.2.1, b6.2.2.1, b6.2.2.2.1, b6.2.2.2.2.1, (ap b6.2.2.2.2.2.1 ([(min (wr .i64 (x53 + 1)) 99)] : List Int)), b6.2.2.2.2.2.2), ()))))
 none)))
 (cond (decide ((min (wr .i64 (x53 + 1)) 99) ≥ b2.2.1))
 (ob (Ye t1 t29) fun r62 =>
 (ob (Ye b2.2.2.2.1 t29) fun r63 =>
 (cond (r62.1 != r63.1)
 (cond (decide (0 ≤ t29))
 (cond (b2.1 == 2)
 (cond (bl (ln b6.2.2.2.2.2.1 + ln ([0] : List Int)) Qa)
 (some (.inl ((t1, (), (), (), t27, t28, (wr .i64 (t29 + 1)), ()), (b2, b4, (b6.1, b6.2.1, b6.2.2.1, (Za .i64 b6.2.2.2.1 (Ra .i64 1 t29)), b6.2.2.2.2.1, (ap b6.2.2.2.2.2.1 ([0] : List Int)), b6.2.2.2.2.2.2), ()))))
 none)
 (cond (bl (ln b6.2.2.2.2.2.1 + ln ([(min (wr .i64 (x53 + 1)) 99)] : List Int)) Qa)
 (some (.inl ((t1, (), (), (), t27, t28, (wr .i64 (t29 + 1)), ()), (b2, b4, (b6.1, b6.2.1, b6.2.2.1, (Za .i64 b6.2.2.2.1 (Ra .i64 1 t29)), b6.2.2.2.2.1, (ap b6.2.2.2.2.2.1 ([(min (wr .i64 (x53 + 1)) 99)] : List Int)), b6.2.2.2.2.2.2), ()))))
 none))
 none)
 (cond (bl (ln b6.2.2.2.2.2.1 + ln ([(min (wr .i64 (x53 + 1)) 99)] : List Int)) Qa)
 (some (.inl ((t1, (), (), (), t27, t28, (wr .i64 (t29 + 1)), ()), (b2, b4, (b6.1, b6.2.1, b6.2.2.1, b6.2.2.2.1, b6.2.2.2.2.1, (ap b6.2.2.2.2.2.1 ([(min (wr .i64 (x53 + 1)) 99)] : List Int)), b6.2.2.2.2.2.2), ()))))
 none))))
 (cond (bl (ln b6.2.2.2.2.2.1 + ln ([(min (wr .i64 (x53 + 1)) 99)] : List Int)) Qa)
 (some (.inl ((t1, (), (), (), t27, t28, (wr .i64 (t29 + 1)), ()), (b2, b4, (b6.1, b6.2.1, b6.2.2.1, b6.2.2.2.1, b6.2.2.2.2.1, (ap b6.2.2.2.2.2.1 ([(min (wr .i64 (x53 + 1)) 99)] : List Int)), b6.2.2.2.2.2.2), ()))))
 none))))))
 (cond (b2.1 == 1)
 (cond (t1 != b2.2.2.2.2.1)
 (cond (decide (1 ≥ b2.2.1))
 (ob (Ye t1 t29) fun r64 =>
 (ob (Ye b2.2.2.2.1 t29) fun r65 =>
 (cond (r64.1 != r65.1)
 (cond (decide (0 ≤ t29))
 (cond (b2.1 == 2)
 (cond (bl (ln b6.2.2.2.2.2.1 + ln ([0] : List Int)) Qa)
 (some (.inl ((t1, (), (), (), t27, t28, (wr .i64 (t29 + 1)), ()), (b2, b4, (b6.1, b6.2.1, b6.2.2.1, (Za .i64 b6.2.2.2.1 (Ra .i64 1 t29)), b6.2.2.2.2.1, (ap b6.2.2.2.2.2.1 ([0] : List Int)), b6.2.2.2.2.2.2), ()))))
 none)
 (cond (bl (ln b6.2.2.2.2.2.1 + ln ([1] : List Int)) Qa)
 (some (.inl ((t1, (), (), (), t27, t28, (wr .i64 (t29 + 1)), ()), (b2, b4, (b6.1, b6.2.1, b6.2.2.1, (Za .i64 b6.2.2.2.1 (Ra .i64 1 t29)), b6.2.2.2.2.1, (ap b6.2.2.2.2.2.1 ([1] : List Int)), b6.2.2.2.2.2.2), ()))))
 none))
 none)
 (cond (bl (ln b6.2.2.2.2.2.1 + ln ([1] : List Int)) Qa)
 (some (.inl ((t1, (), (), (), t27, t28, (wr .i64 (t29 + 1)), ()), (b2, b4, (b6.1, b6.2.1, b6.2.2.1, b6.2.2.2.1, b6.2.2.2.2.1, (ap b6.2.2.2.2.2.1 ([1] : List Int)), b6.2.2.2.2.2.2), ()))))
 none))))
 (cond (bl (ln b6.2.2.2.2.2.1 + ln ([1] : List Int)) Qa)
 (some (.inl ((t1, (), (), (), t27, t28, (wr .i64 (t29 + 1)), ()), (b2, b4, (b6.1, b6.2.1, b6.2.2.1, b6.2.2.2.1, b6.2.2.2.2.1, (ap b6.2.2.2.2.2.1 ([1] : List Int)), b6.2.2.2.2.2.2), ()))))
 none))
 (cond (decide ((min (wr .i64 (x53 + 1)) 99) ≥ b2.2.1))
 (ob (Ye t1 t29) fun r66 =>
 (ob (Ye b2.2.2.2.1 t29) fun r67 =>
 (cond (r66.1 != r67.1)
 (cond (decide (0 ≤ t29))
 (cond (b2.1 == 2)
 (cond (bl (ln b6.2.2.2.2.2.1 + ln ([0] : List Int)) Qa)
 (some (.inl ((t1, (), (), (), t27, t28, (wr .i64 (t29 + 1)), ()), (b2, b4, (b6.1, b6.2.1, b6.2.2.1, (Za .i64 b6.2.2.2.1 (Ra .i64 1 t29)), b6.2.2.2.2.1, (ap b6.2.2.2.2.2.1 ([0] : List Int)), b6.2.2.2.2.2.2), ()))))
 none)
 (cond (bl (ln b6.2.2.2.2.2.1 + ln ([(min (wr .i64 (x53 + 1)) 99)] : List Int)) Qa)
 (some (.inl ((t1, (), (), (), t27, t28, (wr .i64 (t29 + 1)), ()), (b2, b4, (b6.1, b6.2.1, b6.2.2.1, (Za .i64 b6.2.2.2.1 (Ra .i64 1 t29)), b6.2.2.2.2.1, (ap b6.2.2.2.2.2.1 ([(min (wr .i64 (x53 + 1)) 99)] : List Int)), b6.2.2.2.2.2.2), ()))))
 none))
 none)
 (cond (bl (ln b6.2.2.2.2.2.1 + ln ([(min (wr .i64 (x53 + 1)) 99)] : List Int)) Qa)
 (some (.inl ((t1, (), (), (), t27, t28, (wr .i64 (t29 + 1)), ()), (b2, b4, (b6.1, b6.2.1, b6.2.2.1, b6.2.2.2.1, b6.2.2.2.2.1, (ap b6.2.2.2.2.2.1 ([(min (wr .i64 (x53 + 1)) 99)] : List Int)), b6.2.2.2.2.2.2), ()))))
 none))))
 (cond (bl (ln b6.2.2.2.2.2.1 + ln ([(min (wr .i64 (x53 + 1)) 99)] : List Int)) Qa)
 (some (.inl ((t1, (), (), (), t27, t28, (wr .i64 (t29 + 1)), ()), (b2, b4, (b6.1, b6.2.1, b6.2.2.1, b6.2.2.2.1, b6.2.2.2.2.1, (ap b6.2.2.2.2.2.1 ([(min (wr .i64 (x53 + 1)) 99)] : List Int)), b6.2.2.2.2.2.2), ()))))
 none)))
 (cond (decide ((min (wr .i64 (x53 + 1)) 99) ≥ b2.2.1))
 (ob (Ye t1 t29) fun r68 =>
 (ob (Ye b2.2.2.2.1 t29) fun r69 =>
 (cond (r68.1 != r69.1)
 (cond (decide (0 ≤ t29))
 (cond (b2.1 == 2)
 (cond (bl (ln b6.2.2.2.2.2.1 + ln ([0] : List Int)) Qa)
 (some (.inl ((t1, (), (), (), t27, t28, (wr .i64 (t29 + 1)), ()), (b2, b4, (b6.1, b6.2.1, b6.2.2.1, (Za .i64 b6.2.2.2.1 (Ra .i64 1 t29)), b6.2.2.2.2.1, (ap b6.2.2.2.2.2.1 ([0] : List Int)), b6.2.2.2.2.2.2), ()))))
 none)
 (cond (bl (ln b6.2.2.2.2.2.1 + ln ([(min (wr .i64 (x53 + 1)) 99)] : List Int)) Qa)
 (some (.inl ((t1, (), (), (), t27, t28, (wr .i64 (t29 + 1)), ()), (b2, b4, (b6.1, b6.2.1, b6.2.2.1, (Za .i64 b6.2.2.2.1 (Ra .i64 1 t29)), b6.2.2.2.2.1, (ap b6.2.2.2.2.2.1 ([(min (wr .i64 (x53 + 1)) 99)] : List Int)), b6.2.2.2.2.2.2), ()))))
 none))
 none)
 (cond (bl (ln b6.2.2.2.2.2.1 + ln ([(min (wr .i64 (x53 + 1)) 99)] : List Int)) Qa)
 (some (.inl ((t1, (), (), (), t27, t28, (wr .i64 (t29 + 1)), ()), (b2, b4, (b6.1, b6.2.1, b6.2.2.1, b6.2.2.2.1, b6.2.2.2.2.1, (ap b6.2.2.2.2.2.1 ([(min (wr .i64 (x53 + 1)) 99)] : List Int)), b6.2.2.2.2.2.2), ()))))
 none))))
 (cond (bl (ln b6.2.2.2.2.2.1 + ln ([(min (wr .i64 (x53 + 1)) 99)] : List Int)) Qa)
 (some (.inl ((t1, (), (), (), t27, t28, (wr .i64 (t29 + 1)), ()), (b2, b4, (b6.1, b6.2.1, b6.2.2.1, b6.2.2.2.1, b6.2.2.2.2.1, (ap b6.2.2.2.2.2.1 ([(min (wr .i64 (x53 + 1)) 99)] : List Int)), b6.2.2.2.2.2.2), ()))))
 none)))))
 (some (.inr (.inl ((t1, (), (), ()), (b4, b6, ()))))))
def Bp := Ta fun x : ((Int × (Unit × (Unit × SY))) × Mah) => Rj x.1.1 x.1.2.1 x.1.2.2.1 x.1.2.2.2.1 x.1.2.2.2.2.1 x.1.2.2.2.2.2.1 x.1.2.2.2.2.2.2.1 x.2.1 x.2.2.1 x.2.2.2.1
def Gn (a0 : Qb) (a1 : Int) : Option (Qb × Xc) :=
 (ob (Dp a0) fun r1 =>
 (cond (!r1.1)
 (some ((0, 0, 0, 0, 0, [], ()), false, ()))
 (cond (decide (a1 < 0))
 (some ((0, 0, 0, 0, 0, [], ()), false, ()))
 (cond (decide (0 ≤ a0.2.2.1))
 (cond (decide (a1 ≥ (Ra .i64 1 a0.2.2.1)))
 (some ((0, 0, 0, 0, 0, [], ()), false, ()))
 (ob (Bp ((a1, (), (), (), a0.2.2.2.2.2.1, ((ln a0.2.2.2.2.2.1 : Nat) : Int), 0, ()), (a0, (0, 0, 0, 0, 0, [], ()), (a0.1, a0.2.1, a0.2.2.1, a0.2.2.2.1, a0.2.2.2.2.1, [], a0.2.2.2.2.2.2), ()))) (se (fun y70 => (some ((y70.2.2.1.1, y70.2.2.1.2.1, y70.2.2.1.2.2.1, y70.2.2.1.2.2.2.1, y70.1.1, y70.2.2.1.2.2.2.2.2), true, ()))) (fun z71 => none))))
 none))))
def Vl (t0 : Int) (t1 : Int) (t2 : Int) (t7 : Be) (t8 : Int) : Option (((Int × (Int × (Int × ZM))) × Unit) ⊕ ((HG × Unit) ⊕ Fe)) :=
 (cond (decide (t8 ≤ 31))
 (ob (Ye t0 t8) fun r10 =>
 (ob (Ye t1 t8) fun r11 =>
 (cond (r10.1 != r11.1)
 (ob (Ye t1 t8) fun r12 =>
 (cond (bl (ln t7 + ln ([(t2, t8, (r12.1 == 1), ())] : List Ca)) Qa)
 (some (.inl ((t0, t1, t2, (ap t7 ([(t2, t8, (r12.1 == 1), ())] : List Ca)), (wr .i64 (t8 + 1)), ()), ())))
 none))
 (some (.inl ((t0, t1, t2, t7, (wr .i64 (t8 + 1)), ()), ()))))))
 (some (.inr (.inl ((t7, ()), ())))))
def Vn := Ta fun x : ((Int × (Int × (Int × ZM))) × Unit) => Vl x.1.1 x.1.2.1 x.1.2.2.1 x.1.2.2.2.1 x.1.2.2.2.2.1
def Sr (a0 : Int) (a1 : Int) (a2 : Int) : Option HG :=
 (ob (Vn ((a0, a1, a2, [], 0, ()), ())) (se (fun y13 => (some (y13.1.1, ()))) (fun z14 => none)))
def On (t0 : Unit) (t1 : Int) (t2 : Int) (t14 : Int) (t15 : Int) (b500000 : Pa) : Option ((Vah × GG) ⊕ (KV ⊕ I4)) :=
 (cond (decide (t15 < t14))
 (cond (Af (ln b500000.2.2.2.2.2.2.1) t15)
 (ob b500000.2.2.2.2.2.2.1[(tn t15)]? fun x19 =>
 (ob (Ye x19.2.1 t1) fun r20 =>
 (cond (r20.1 == 0)
 (some (.inl (((), t1, t2, t14, (wr .i64 (t15 + 1)), ()), (b500000, ()))))
 (ob b500000.2.2.2.2.2.2.1[(tn t15)]? fun x21 =>
 (cond (decide (0 ≤ t1))
 (ob b500000.2.2.2.2.2.2.1[(tn t15)]? fun x22 =>
 (ob (ls b500000.2.2.2.2.2.2.1 (tn t15) (x22.1, (Mb .i64 x21.2.1 (Ra .i64 1 t1)), x22.2.2))[(tn t15)]? fun x23 =>
 (cond x23.2.2.1
 (ob (ls b500000.2.2.2.2.2.2.1 (tn t15) (x22.1, (Mb .i64 x21.2.1 (Ra .i64 1 t1)), x22.2.2))[(tn t15)]? fun x24 =>
 (ob (ls (ls b500000.2.2.2.2.2.2.1 (tn t15) (x22.1, (Mb .i64 x21.2.1 (Ra .i64 1 t1)), x22.2.2)) (tn t15) (x24.1, x24.2.1, false, x24.2.2.2))[(tn t15)]? fun x25 =>
 (ob (ls (ls b500000.2.2.2.2.2.2.1 (tn t15) (x22.1, (Mb .i64 x21.2.1 (Ra .i64 1 t1)), x22.2.2)) (tn t15) (x24.1, x24.2.1, false, x24.2.2.2))[(tn t15)]? fun x26 =>
 (cond (x26.2.1 == 0)
 (cond (Ld (ln (ls (ls b500000.2.2.2.2.2.2.1 (tn t15) (x22.1, (Mb .i64 x21.2.1 (Ra .i64 1 t1)), x22.2.2)) (tn t15) (x24.1, x24.2.1, false, x24.2.2.2))) 0 t15)
 (cond (bl (ln ([] : List Ca) + ln (Gb (ls (ls b500000.2.2.2.2.2.2.1 (tn t15) (x22.1, (Mb .i64 x21.2.1 (Ra .i64 1 t1)), x22.2.2)) (tn t15) (x24.1, x24.2.1, false, x24.2.2.2)) (tn 0) (tn t15))) Qa)
 (cond (Ld (ln (ls (ls b500000.2.2.2.2.2.2.1 (tn t15) (x22.1, (Mb .i64 x21.2.1 (Ra .i64 1 t1)), x22.2.2)) (tn t15) (x24.1, x24.2.1, false, x24.2.2.2))) (wr .i64 (t15 + 1)) ((ln (ls (ls b500000.2.2.2.2.2.2.1 (tn t15) (x22.1, (Mb .i64 x21.2.1 (Ra .i64 1 t1)), x22.2.2)) (tn t15) (x24.1, x24.2.1, false, x24.2.2.2)) : Nat) : Int))
 (cond (bl (ln (ap [] (Gb (ls (ls b500000.2.2.2.2.2.2.1 (tn t15) (x22.1, (Mb .i64 x21.2.1 (Ra .i64 1 t1)), x22.2.2)) (tn t15) (x24.1, x24.2.1, false, x24.2.2.2)) (tn 0) (tn t15))) + ln (Gb (ls (ls b500000.2.2.2.2.2.2.1 (tn t15) (x22.1, (Mb .i64 x21.2.1 (Ra .i64 1 t1)), x22.2.2)) (tn t15) (x24.1, x24.2.1, false, x24.2.2.2)) (tn (wr .i64 (t15 + 1))) (tn ((ln (ls (ls b500000.2.2.2.2.2.2.1 (tn t15) (x22.1, (Mb .i64 x21.2.1 (Ra .i64 1 t1)), x22.2.2)) (tn t15) (x24.1, x24.2.1, false, x24.2.2.2)) : Nat) : Int)))) Qa)
 (some (.inr (.inr (((), ([(t2, x25.1, false, ())] : List Ca), ()), ((b500000.1, b500000.2.1, b500000.2.2.1, b500000.2.2.2.1, b500000.2.2.2.2.1, b500000.2.2.2.2.2.1, (ap (ap [] (Gb (ls (ls b500000.2.2.2.2.2.2.1 (tn t15) (x22.1, (Mb .i64 x21.2.1 (Ra .i64 1 t1)), x22.2.2)) (tn t15) (x24.1, x24.2.1, false, x24.2.2.2)) (tn 0) (tn t15))) (Gb (ls (ls b500000.2.2.2.2.2.2.1 (tn t15) (x22.1, (Mb .i64 x21.2.1 (Ra .i64 1 t1)), x22.2.2)) (tn t15) (x24.1, x24.2.1, false, x24.2.2.2)) (tn (wr .i64 (t15 + 1))) (tn ((ln (ls (ls b500000.2.2.2.2.2.2.1 (tn t15) (x22.1, (Mb .i64 x21.2.1 (Ra .i64 1 t1)), x22.2.2)) (tn t15) (x24.1, x24.2.1, false, x24.2.2.2)) : Nat) : Int)))), ()), ())))))
 none)
 none)
 none)
 none)
 (some (.inr (.inr (((), ([(t2, x25.1, false, ())] : List Ca), ()), ((b500000.1, b500000.2.1, b500000.2.2.1, b500000.2.2.2.1, b500000.2.2.2.2.1, b500000.2.2.2.2.2.1, (ls (ls b500000.2.2.2.2.2.2.1 (tn t15) (x22.1, (Mb .i64 x21.2.1 (Ra .i64 1 t1)), x22.2.2)) (tn t15) (x24.1, x24.2.1, false, x24.2.2.2)), ()), ())))))))))
 (ob (ls b500000.2.2.2.2.2.2.1 (tn t15) (x22.1, (Mb .i64 x21.2.1 (Ra .i64 1 t1)), x22.2.2))[(tn t15)]? fun x27 =>
 (cond (x27.2.1 == 0)
 (cond (Ld (ln (ls b500000.2.2.2.2.2.2.1 (tn t15) (x22.1, (Mb .i64 x21.2.1 (Ra .i64 1 t1)), x22.2.2))) 0 t15)
 (cond (bl (ln ([] : List Ca) + ln (Gb (ls b500000.2.2.2.2.2.2.1 (tn t15) (x22.1, (Mb .i64 x21.2.1 (Ra .i64 1 t1)), x22.2.2)) (tn 0) (tn t15))) Qa)
 (cond (Ld (ln (ls b500000.2.2.2.2.2.2.1 (tn t15) (x22.1, (Mb .i64 x21.2.1 (Ra .i64 1 t1)), x22.2.2))) (wr .i64 (t15 + 1)) ((ln (ls b500000.2.2.2.2.2.2.1 (tn t15) (x22.1, (Mb .i64 x21.2.1 (Ra .i64 1 t1)), x22.2.2)) : Nat) : Int))
 (cond (bl (ln (ap [] (Gb (ls b500000.2.2.2.2.2.2.1 (tn t15) (x22.1, (Mb .i64 x21.2.1 (Ra .i64 1 t1)), x22.2.2)) (tn 0) (tn t15))) + ln (Gb (ls b500000.2.2.2.2.2.2.1 (tn t15) (x22.1, (Mb .i64 x21.2.1 (Ra .i64 1 t1)), x22.2.2)) (tn (wr .i64 (t15 + 1))) (tn ((ln (ls b500000.2.2.2.2.2.2.1 (tn t15) (x22.1, (Mb .i64 x21.2.1 (Ra .i64 1 t1)), x22.2.2)) : Nat) : Int)))) Qa)
 (some (.inr (.inr (((), [], ()), ((b500000.1, b500000.2.1, b500000.2.2.1, b500000.2.2.2.1, b500000.2.2.2.2.1, b500000.2.2.2.2.2.1, (ap (ap [] (Gb (ls b500000.2.2.2.2.2.2.1 (tn t15) (x22.1, (Mb .i64 x21.2.1 (Ra .i64 1 t1)), x22.2.2)) (tn 0) (tn t15))) (Gb (ls b500000.2.2.2.2.2.2.1 (tn t15) (x22.1, (Mb .i64 x21.2.1 (Ra .i64 1 t1)), x22.2.2)) (tn (wr .i64 (t15 + 1))) (tn ((ln (ls b500000.2.2.2.2.2.2.1 (tn t15) (x22.1, (Mb .i64 x21.2.1 (Ra .i64 1 t1)), x22.2.2)) : Nat) : Int)))), ()), ())))))
 none)
 none)
 none)
 none)
 (some (.inr (.inr (((), [], ()), ((b500000.1, b500000.2.1, b500000.2.2.1, b500000.2.2.2.1, b500000.2.2.2.2.1, b500000.2.2.2.2.2.1, (ls b500000.2.2.2.2.2.2.1 (tn t15) (x22.1, (Mb .i64 x21.2.1 (Ra .i64 1 t1)), x22.2.2)), ()), ()))))))))))
 none)))))
 none)
 (some (.inr (.inl (((), t1, t2, ()), (b500000, ()))))))
def Pq := Ta fun x : (Vah × GG) => On x.1.1 x.1.2.1 x.1.2.2.1 x.1.2.2.2.1 x.1.2.2.2.2.1 x.2.1
def Ap (a0 : Pa) (a1 : Int) (a2 : Int) : Option (Pa × HG) :=
 (ob (Pq (((), a1, a2, ((ln a0.2.2.2.2.2.2.1 : Nat) : Int), 0, ()), (a0, ()))) (se (fun y28 => (cond (decide (0 ≤ y28.1.2.1))
 (some ((y28.2.1.1, y28.2.1.2.1, y28.2.1.2.2.1, y28.2.1.2.2.2.1, y28.2.1.2.2.2.2.1, (Mb .i64 y28.2.1.2.2.2.2.2.1 (Ra .i64 1 y28.1.2.1)), y28.2.1.2.2.2.2.2.2.1, ()), (([(y28.1.2.2.1, y28.1.2.1, false, ())] : List Ca), ())))
 none)) (fun z29 => (some (z29.2.1, (z29.1.2.1, ()))))))
def Cm (a0 : Ca) : Option Xc :=
 (ob (Vv a0) fun r1 =>
 (cond r1.1
 (some ((decide (a0.2.1 < 24)), ()))
 (some (false, ()))))
def OC (t1 : Int) (t7 : Ke) (t8 : Int) (t9 : Int) : Option (((Int × Er) × Unit) ⊕ Hk) :=
 (cond (decide (t9 < t8))
 (ob (Xa t7 t9) fun x3 =>
 (cond ((Mb .i64 t1 x3.1) == 0)
 (some (.inr (.inr ((true, ()), ()))))
 (some (.inl ((t1, t7, t8, (wr .i64 (t9 + 1)), ()), ())))))
 (some (.inr (.inl ((), ())))))
def ZE := Ta fun x : ((Int × Er) × Unit) => OC x.1.1 x.1.2.1 x.1.2.2.1 x.1.2.2.2.1
def ZI (a0 : Ke) (a1 : Int) : Option Xc :=
 (ob (ZE ((a1, a0, ((ln a0 : Nat) : Int), 0, ()), ())) (se (fun y4 => (some (false, ()))) (fun z5 => (some (z5.1.1, ())))))
def Vp (t1 : Int) (t6 : Int) (t7 : Bool) (t10 : Ke) (t11 : Int) (t12 : Int) : Option (((Int × (Int × (Bool × Er))) × Unit) ⊕ ((Nx × Unit) ⊕ Fe)) :=
 (cond (decide (t12 < t11))
 (ob (Xa t10 t12) fun x3 =>
 (cond (x3.1 == t1)
 (some (.inl ((t1, x3.2.1, t7, t10, t11, (wr .i64 (t12 + 1)), ()), ())))
 (cond ((Mb .i64 t1 x3.1) == 0)
 (some (.inl ((t1, t6, true, t10, t11, (wr .i64 (t12 + 1)), ()), ())))
 (some (.inl ((t1, t6, t7, t10, t11, (wr .i64 (t12 + 1)), ()), ()))))))
 (some (.inr (.inl ((t6, t7, ()), ())))))
def Nt := Ta fun x : ((Int × (Int × (Bool × Er))) × Unit) => Vp x.1.1 x.1.2.1 x.1.2.2.1 x.1.2.2.2.1 x.1.2.2.2.2.1 x.1.2.2.2.2.2.1
def Nm (a0 : Ke) (a1 : Int) : Option Nx :=
 (ob (Nt ((a1, (-1), false, a0, ((ln a0 : Nat) : Int), 0, ()), ())) (se (fun y4 => (some y4.1)) (fun z5 => none)))
def Un (t0 : Ke) (t1 : Int) (t3 : Int) (t11 : Unit) (t12 : Int) (t13 : Int) (t14 : Int) (t15 : Bool) (t69 : Be) (t70 : Int) (t71 : Int) (b11 : Ca) : Option (ZaM ⊕ (((Ke × (Int × (Int × Ca))) × Unit) ⊕ IG)) :=
 (cond (decide (t71 < t70))
 (ob (Xa t69 t71) fun x15 =>
 (ob (Cm x15) fun r16 =>
 (cond (!r16.1)
 (some (.inr (.inr ((0, 0, (-1), ()), ()))))
 (cond (decide (x15.1 ≥ (wr .i64 (b11.1 + t1))))
 (some (.inr (.inl ((t0, t3, t12, (min t13 x15.1), t14, false, ()), ()))))
 (cond (!x15.2.2.1)
 (some (.inr (.inl ((t0, t3, t12, (min t13 x15.1), t14, false, ()), ()))))
 (cond (decide (0 ≤ x15.2.1))
 (ob (ZI t0 (Pc .i64 t12 (Ra .i64 1 x15.2.1))) fun r17 =>
 (cond (!r17.1)
 (some (.inr (.inl ((t0, t3, t12, (min t13 x15.1), t14, false, ()), ()))))
 (cond (decide (0 ≤ x15.2.1))
 (ob (Nm t0 (Pc .i64 t12 (Ra .i64 1 x15.2.1))) fun r18 =>
 (cond (decide (r18.1 ≥ 0))
 (cond (!r18.2.1)
 (some (.inr (.inr (((wr .i64 (t14 + 1)), x15.1, r18.1, ()), ()))))
 (some (.inl ((t0, t1, t3, (), (Pc .i64 t12 (Ra .i64 1 x15.2.1)), t13, (wr .i64 (t14 + 1)), t15, t69, t70, (wr .i64 (t71 + 1)), ()), (b11, ())))))
 (some (.inl ((t0, t1, t3, (), (Pc .i64 t12 (Ra .i64 1 x15.2.1)), t13, (wr .i64 (t14 + 1)), t15, t69, t70, (wr .i64 (t71 + 1)), ()), (b11, ()))))))
 none)))
 none))))))
 (some (.inr (.inl ((t0, t3, t12, t13, t14, t15, ()), ())))))
def Cl := Ta fun x : ZaM => Un x.1.1 x.1.2.1 x.1.2.2.1 x.1.2.2.2.1 x.1.2.2.2.2.1 x.1.2.2.2.2.2.1 x.1.2.2.2.2.2.2.1 x.1.2.2.2.2.2.2.2.1 x.1.2.2.2.2.2.2.2.2.1 x.1.2.2.2.2.2.2.2.2.2.1 x.1.2.2.2.2.2.2.2.2.2.2.1 x.2.1
def EC (a0 : Ke) (a1 : Int) (a2 : Be) (a3 : Int) : Option Ad :=
 (ob (BA a0) fun r1 =>
 (cond (!r1.1)
 (some (0, 0, (-1), ()))
 (cond (decide (a1 < 1))
 (some (0, 0, (-1), ()))
 (cond (decide (a1 > 200))
 (some (0, 0, (-1), ()))
 (cond (((ln a2 : Nat) : Int) == 0)
 (some (0, 0, (-1), ()))
 (ob (Xa a2 0) fun x2 =>
 (ob (Cm x2) fun r3 =>
 (cond (!r3.1)
 (some (0, 0, (-1), ()))
 (ob (Xa a2 0) fun x4 =>
 (cond (!x4.2.2.1)
 (some (0, 0, (-1), ()))
 (ob (Xa a2 0) fun x5 =>
 (cond (decide (0 ≤ x5.2.1))
 (ob (ZI a0 (Ra .i64 1 x5.2.1)) fun r6 =>
 (cond (!r6.1)
 (some (1, x5.1, (-1), ()))
 (cond (Ld (ln a2) 1 ((ln a2 : Nat) : Int))
 (ob (Cl ((a0, a1, a3, (), (Ra .i64 1 x5.2.1), (wr .i64 (x5.1 + a1)), 1, true, (Gb a2 (tn 1) (tn ((ln a2 : Nat) : Int))), ((ln (Gb a2 (tn 1) (tn ((ln a2 : Nat) : Int))) : Nat) : Int), 0, ()), (x5, ()))) (se (fun y19 => (cond y19.1.2.2.2.2.2.1
 (cond (decide (y19.1.2.1 < y19.1.2.2.2.1))
 (some (0, 0, (-1), ()))
 (ob (Nm y19.1.1 y19.1.2.2.1) fun r21 =>
 (cond (decide (r21.1 ≥ 0))
 (some (y19.1.2.2.2.2.1, y19.1.2.2.2.1, r21.1, ()))
 (some (1, y19.1.2.2.2.1, (-1), ())))))
 (ob (Nm y19.1.1 y19.1.2.2.1) fun r22 =>
 (cond (decide (r22.1 ≥ 0))
 (some (y19.1.2.2.2.2.1, y19.1.2.2.2.1, r22.1, ()))
 (some (1, y19.1.2.2.2.1, (-1), ())))))) (fun z20 => (some z20.1))))
 none)))
 none))))))))))))
def Wh (a0 : Pa) : Option (Pa × (Be × Xc)) :=
 (cond (Af (ln a0.2.2.1) 0)
 (ob a0.2.2.1[(tn 0)]? fun x1 =>
 (cond (!x1.2.2.1)
 (cond (Ld (ln a0.2.2.1) 1 ((ln a0.2.2.1 : Nat) : Int))
 (cond (bl (ln ([] : List Ca) + ln (Gb a0.2.2.1 (tn 1) (tn ((ln a0.2.2.1 : Nat) : Int)))) Qa)
 (ob (Ap (a0.1, a0.2.1, (ap [] (Gb a0.2.2.1 (tn 1) (tn ((ln a0.2.2.1 : Nat) : Int)))), a0.2.2.2.1, (max a0.2.2.2.2.1 x1.1), a0.2.2.2.2.2) x1.2.1 (max a0.2.2.2.2.1 x1.1)) fun r2 =>
 (some (r2.1, (r2.2.1, true, ()))))
 none)
 none)
 (ob (EC a0.1 a0.2.1 a0.2.2.1 a0.2.2.2.1) fun r3 =>
 (cond (r3.1 == 0)
 (some (a0, ([], false, ())))
 (cond (Ld (ln a0.2.2.1) r3.1 ((ln a0.2.2.1 : Nat) : Int))
 (cond (bl (ln ([] : List Ca) + ln (Gb a0.2.2.1 (tn r3.1) (tn ((ln a0.2.2.1 : Nat) : Int)))) Qa)
 (cond (decide (r3.2.2.1 < 0))
 (cond (decide (0 ≤ x1.2.1))
 (some ((a0.1, a0.2.1, (ap [] (Gb a0.2.2.1 (tn r3.1) (tn ((ln a0.2.2.1 : Nat) : Int)))), a0.2.2.2.1, (max (max a0.2.2.2.2.1 x1.1) r3.2.1), (Pc .i64 a0.2.2.2.2.2.1 (Ra .i64 1 x1.2.1)), a0.2.2.2.2.2.2), (([((max (max a0.2.2.2.2.1 x1.1) r3.2.1), x1.2.1, true, ())] : List Ca), true, ())))
 none)
 (ob (RE a0.1 r3.2.2.1) fun r4 =>
 (cond (bl (ln a0.2.2.2.2.2.2.1 + ln ([(r3.2.2.1, r4.1.1, true, ())] : List Ca)) Qa)
 (some ((a0.1, a0.2.1, (ap [] (Gb a0.2.2.1 (tn r3.1) (tn ((ln a0.2.2.1 : Nat) : Int)))), a0.2.2.2.1, (max (max a0.2.2.2.2.1 x1.1) r3.2.1), a0.2.2.2.2.2.1, (ap a0.2.2.2.2.2.2.1 ([(r3.2.2.1, r4.1.1, true, ())] : List Ca)), ()), (([((max (max a0.2.2.2.2.1 x1.1) r3.2.1), r3.2.2.1, true, ())] : List Ca), true, ())))
 none)))
 none)
 none)))))
 none)
def Og (t6 : Unit) (t9 : Unit) (t12 : Be) (b6 : Pa) (b9 : Pa) : Option (Hax ⊕ (Hax ⊕ Fe)) :=
 (cond (decide (((ln b9.2.2.1 : Nat) : Int) > 0))
 (ob (Wh b9) fun r19 =>
 (cond (!r19.2.2.1)
 (some (.inr (.inl (((), (), t12, ()), (b6, r19.1, ())))))
 (cond (bl (ln t12 + ln r19.2.1) Qa)
 (some (.inl (((), (), (ap t12 r19.2.1), ()), (b6, r19.1, ()))))
 none)))
 (some (.inr (.inl (((), (), t12, ()), (b6, b9, ()))))))
def Vf := Ta fun x : Hax => Og x.1.1 x.1.2.1 x.1.2.2.1 x.2.1 x.2.2.1
def Kr (a0 : Pa) (a1 : Be) (a2 : Int) : Option (Pa × (Be × Xc)) :=
 (ob (Mr a0) fun r1 =>
 (cond (!r1.1)
 (some (Tg, [], false, ()))
 (cond (decide (a2 < a0.2.2.2.1))
 (some (Tg, [], false, ()))
 (cond (decide (a2 > 1000000))
 (some (Tg, [], false, ()))
 (cond (decide (((ln a1 : Nat) : Int) > 0))
 (ob (Xa a1 0) fun x2 =>
 (cond (decide (x2.1 < a0.2.2.2.1))
 (some (Tg, [], false, ()))
 (ob (Li a1 a2) fun r3 =>
 (cond (!r3.1)
 (some (Tg, [], false, ()))
 (ob (Sk a0) fun r4 =>
 (cond (bl (ln r4.1.2.2.1 + ln a1) Qa)
 (ob (Si a0) fun r5 =>
 (ob (Ni (ap r4.1.2.2.1 a1) r5.1 24) fun r6 =>
 (cond (!r6.1)
 (some (Tg, [], false, ()))
 (ob (Vf (((), (), [], ()), (Tg, (r4.1.1, r4.1.2.1, (ap r4.1.2.2.1 a1), a2, r4.1.2.2.2.2), ()))) (se (fun y11 => (some (y11.2.2.1, y11.1.2.2.1, true, ()))) (fun z12 => none))))))
 none))))))
 (ob (Li a1 a2) fun r13 =>
 (cond (!r13.1)
 (some (Tg, [], false, ()))
 (ob (Sk a0) fun r14 =>
 (cond (bl (ln r14.1.2.2.1 + ln a1) Qa)
 (ob (Si a0) fun r15 =>
 (ob (Ni (ap r14.1.2.2.1 a1) r15.1 24) fun r16 =>
 (cond (!r16.1)
 (some (Tg, [], false, ()))
 (ob (Vf (((), (), [], ()), (Tg, (r14.1.1, r14.1.2.1, (ap r14.1.2.2.1 a1), a2, r14.1.2.2.2.2), ()))) (se (fun y20 => (some (y20.2.2.1, y20.1.2.2.1, true, ()))) (fun z21 => none))))))
 none)))))))))
def Jl (a0 : Fd) (a1 : Int) : Option (Fd × XQ) :=
 (ob (OE a0) fun r1 =>
 (cond (!r1.1)
 (some (Hl, [], false, ()))
 (ob (Lo a0.1 a1) fun r2 =>
 (cond (!r2.1)
 (some (Hl, [], false, ()))
 (cond (decide (a0.2.2.2.2.2.1 ≥ 1000000))
 (some (Hl, [], false, ()))
 (ob (XE a0.1 a1) fun r3 =>
 (ob (Ir a0.1 a0.2.2.2.2.1 r3.1) fun r4 =>
 (ob (Gn a0.2.1 r4.1) fun r5 =>
 (cond (!r4.2.1)
 (some (Hl, [], false, ()))
 (cond (!r5.2.1)
 (some (Hl, [], false, ()))
 (ob (Sr a0.2.1.2.2.2.1 r5.1.2.2.2.1 a0.2.2.2.2.2.1) fun r6 =>
 (ob (Kr a0.2.2.1 r6.1 a0.2.2.2.2.2.1) fun r7 =>
 (cond (!r7.2.2.1)
 (some (Hl, [], false, ()))
 (ob (FC a0.2.2.2.1 r7.2.1 a0.2.2.2.2.2.1) fun r8 =>
 (cond (!r8.2.2.1)
 (some (Hl, [], false, ()))
 (some ((a0.1, r5.1, r7.1, r8.1, r4.1, (wr .i64 (a0.2.2.2.2.2.1 + 1)), a0.2.2.2.2.2.2), r8.2.1, true, ())))))))))))))))))
def XK (a0 : Ad) : Option IG :=
 (some (a0, ()))
def BF (a0 : Ca) (a1 : Ca) : Option Xc :=
 (cond (a0.1 != a1.1)
 (some (false, ()))
 (cond (a0.2.1 != a1.2.1)
 (some (false, ()))
 (cond (a0.2.2.1 != a1.2.2.1)
 (some (false, ()))
 (some (true, ())))))
def Q5 (t0 : Be) (t1 : Be) (t5 : Int) : Option (IV ⊕ Hk) :=
 (cond (decide (t5 < ((ln t0 : Nat) : Int)))
 (ob (Xa t0 t5) fun x7 =>
 (ob (Xa t1 t5) fun x8 =>
 (ob (BF x7 x8) fun r9 =>
 (cond (!r9.1)
 (some (.inr (.inr ((false, ()), ()))))
 (some (.inl ((t0, t1, (wr .i64 (t5 + 1)), ()), ())))))))
 (some (.inr (.inl ((), ())))))
def TN := Ta fun x : IV => Q5 x.1.1 x.1.2.1 x.1.2.2.1
def IA (a0 : Be) (a1 : Be) : Option Xc :=
 (cond (((ln a0 : Nat) : Int) != ((ln a1 : Nat) : Int))
 (some (false, ()))
 (ob (TN ((a0, a1, 0, ()), ())) (se (fun y10 => (some (true, ()))) (fun z11 => (some (z11.1.1, ()))))))
def Cq (t0 : Be) (t1 : Int) (t5 : Int) : Option (MV ⊕ ((ZM × Unit) ⊕ Fe)) :=
 (cond (decide (t5 < ((ln t0 : Nat) : Int)))
 (cond (Af (ln t0) t5)
 (ob t0[(tn t5)]? fun x7 =>
 (cond (Af (ln (ls t0 (tn t5) (t1, x7.2))) t5)
 (ob (ls t0 (tn t5) (t1, x7.2))[(tn t5)]? fun x8 =>
 (cond ((3 : Int) == 0)
 none
 (cond (Af (ln (ls (ls t0 (tn t5) (t1, x7.2)) (tn t5) (x8.1, (wr .i64 (t1 + 1)), x8.2.2))) t5)
 (ob (ls (ls t0 (tn t5) (t1, x7.2)) (tn t5) (x8.1, (wr .i64 (t1 + 1)), x8.2.2))[(tn t5)]? fun x9 =>
 (some (.inl (((ls (ls (ls t0 (tn t5) (t1, x7.2)) (tn t5) (x8.1, (wr .i64 (t1 + 1)), x8.2.2)) (tn t5) (x9.1, x9.2.1, ((Int.tmod (wr .i64 ((wr .i64 (t1 + 1)) + 1)) 3) == 0), x9.2.2.2)), (wr .i64 ((wr .i64 ((wr .i64 (t1 + 1)) + 1)) + 1)), (wr .i64 (t5 + 1)), ()), ()))))
 none)))
 none))
 none)
 (some (.inr (.inl ((t0, t1, ()), ())))))
def JJ := Ta fun x : MV => Cq x.1.1 x.1.2.1 x.1.2.2.1
def XC (a0 : Be) (a1 : Int) : Option ZM :=
 (ob (JJ ((a0, a1, 0, ()), ())) (se (fun y10 => (some (y10.1.1, (y10.1.2.1, ())))) (fun z11 => none)))
def Yp (t0 : Be) (t1 : Int) (t5 : Int) : Option (MV ⊕ Mx) :=
 (cond (decide (t5 < ((ln t0 : Nat) : Int)))
 (ob (Xa t0 t5) fun x7 =>
 (cond (x7.1 != t1)
 (some (.inr (.inr (((-1), ()), ()))))
 (ob (Xa t0 t5) fun x8 =>
 (cond (x8.2.1 != (wr .i64 (t1 + 1)))
 (some (.inr (.inr (((-1), ()), ()))))
 (ob (Xa t0 t5) fun x9 =>
 (cond ((3 : Int) == 0)
 none
 (cond (x9.2.2.1 != ((Int.tmod (wr .i64 ((wr .i64 (t1 + 1)) + 1)) 3) == 0))
 (some (.inr (.inr (((-1), ()), ()))))
 (some (.inl ((t0, (wr .i64 ((wr .i64 ((wr .i64 (t1 + 1)) + 1)) + 1)), (wr .i64 (t5 + 1)), ()), ()))))))))))
 (some (.inr (.inl ((t1, ()), ())))))
def FJ := Ta fun x : MV => Yp x.1.1 x.1.2.1 x.1.2.2.1
def UC (a0 : Be) (a1 : Int) : Option Cc :=
 (ob (FJ ((a0, a1, 0, ()), ())) (se (fun y10 => (some (y10.1.1, ()))) (fun z11 => (some (z11.1.1, ())))))
def Ry (a0 : Qb) (a1 : Int) : Option Cc :=
 (ob (HR a0.2.2.2.2.2.1 a1) fun r1 =>
 (cond (decide (r1.1 < 0))
 (some ((-1), ()))
 (some (r1.1, ()))))
def OK (a0 : Ke) (a1 : Int) : Option Cc :=
 (cond (decide ((wr .i64 (a1 - ((ln a0 : Nat) : Int))) < 0))
 (some ((-1), ()))
 (some ((wr .i64 (a1 - ((ln a0 : Nat) : Int))), ())))
def JA (a0 : Be) (a1 : Int) : Option Cc :=
 (cond (decide ((wr .i64 (a1 - ((ln a0 : Nat) : Int))) < 0))
 (some ((-1), ()))
 (some ((wr .i64 (a1 - ((ln a0 : Nat) : Int))), ())))
def BH (a0 : Be) (a1 : Int) : Option Cc :=
 (cond (decide ((wr .i64 (a1 - ((ln a0 : Nat) : Int))) < 0))
 (some ((-1), ()))
 (some ((wr .i64 (a1 - ((ln a0 : Nat) : Int))), ())))
def AD (a0 : Pa) (a1 : Int) : Option Cc :=
 (ob (OK a0.1 a1) fun r1 =>
 (cond (decide (r1.1 < 0))
 (some ((-1), ()))
 (ob (JA a0.2.2.1 r1.1) fun r2 =>
 (cond (decide (r2.1 < 0))
 (some ((-1), ()))
 (ob (BH a0.2.2.2.2.2.2.1 r2.1) fun r3 =>
 (cond (decide (r3.1 < 0))
 (some ((-1), ()))
 (some (r3.1, ()))))))))
def GF (a0 : Th) (a1 : Int) : Option Cc :=
 (cond (decide ((wr .i64 (a1 - ((ln a0 : Nat) : Int))) < 0))
 (some ((-1), ()))
 (some ((wr .i64 (a1 - ((ln a0 : Nat) : Int))), ())))
def T5 (t0 : Zh) (t1 : Int) (t5 : Int) : Option ((YQ × Unit) ⊕ Mx) :=
 (cond (decide (t5 < ((ln t0 : Nat) : Int)))
 (ob (Xa t0 t5) fun x5 =>
 (ob (GF x5 t1) fun r6 =>
 (cond (decide (r6.1 < 0))
 (some (.inr (.inr (((-1), ()), ()))))
 (some (.inl ((t0, r6.1, (wr .i64 (t5 + 1)), ()), ()))))))
 (some (.inr (.inl ((t1, ()), ())))))
def HO := Ta fun x : (YQ × Unit) => T5 x.1.1 x.1.2.1 x.1.2.2.1
def SK (a0 : Zh) (a1 : Int) : Option Cc :=
 (cond (decide ((wr .i64 (a1 - ((ln a0 : Nat) : Int))) < 0))
 (some ((-1), ()))
 (ob (HO ((a0, (wr .i64 (a1 - ((ln a0 : Nat) : Int))), 0, ()), ())) (se (fun y7 => (some (y7.1.1, ()))) (fun z8 => (some (z8.1.1, ()))))))
def GO (a0 : He) (a1 : Int) : Option Cc :=
 (cond (decide ((wr .i64 (a1 - ((ln a0 : Nat) : Int))) < 0))
 (some ((-1), ()))
 (some ((wr .i64 (a1 - ((ln a0 : Nat) : Int))), ())))
def PK (a0 : Jb) (a1 : Int) : Option Cc :=
 (ob (RK a0.1 a1) fun r1 =>
 (cond (decide (r1.1 < 0))
 (some ((-1), ()))
 (ob (SK a0.2.1 r1.1) fun r2 =>
 (cond (decide (r2.1 < 0))
 (some ((-1), ()))
 (ob (GO a0.2.2.2.1 r2.1) fun r3 =>
 (cond (decide (r3.1 < 0))
 (some ((-1), ()))
 (some (r3.1, ()))))))))
def DH (a0 : Ib) (a1 : Int) : Option Cc :=
 (ob (PK a0.1 a1) fun r1 =>
 (cond (decide (r1.1 < 0))
 (some ((-1), ()))
 (ob (JA a0.2.2.1 r1.1) fun r2 =>
 (cond (decide (r2.1 < 0))
 (some ((-1), ()))
 (some (r2.1, ()))))))
def DO (a0 : Fd) (a1 : Int) : Option Cc :=
 (ob (Ry a0.2.1 a1) fun r1 =>
 (cond (decide (r1.1 < 0))
 (some ((-1), ()))
 (ob (AD a0.2.2.1 r1.1) fun r2 =>
 (cond (decide (r2.1 < 0))
 (some ((-1), ()))
 (ob (DH a0.2.2.2.1 r2.1) fun r3 =>
 (cond (decide (r3.1 < 0))
 (some ((-1), ()))
 (some (r3.1, ()))))))))
def BD (a0 : Sb) (a1 : Int) : Option Cc :=
 (ob (Jw a0.1 a1) fun r1 =>
 (cond (decide (r1.1 < 0))
 (some ((-1), ()))
 (some (r1.1, ()))))
def QK (a0 : Zb) (a1 : Int) : Option Cc :=
 (ob (DO a0.1 a1) fun r1 =>
 (cond (decide (r1.1 < 0))
 (some ((-1), ()))
 (ob (BD a0.2.1 r1.1) fun r2 =>
 (cond (decide (r2.1 < 0))
 (some ((-1), ()))
 (some (r2.1, ()))))))
def Uy (a0 : Qb) : Option CT :=
 (ob (Fi a0.2.2.2.2.2.1) fun r1 =>
 (some ((a0.1, a0.2.1, a0.2.2.1, a0.2.2.2.1, a0.2.2.2.2.1, r1.1, ()), ())))
def HF (a0 : Va) : Option XM :=
 (some (a0, ()))
def V5 (t0 : Ke) (t3 : Ke) (t4 : Int) : Option (Qah ⊕ (((Ke × Unit) × Unit) ⊕ Fe)) :=
 (cond (decide (t4 < ((ln t0 : Nat) : Int)))
 (ob (Xa t0 t4) fun x7 =>
 (ob (HF x7) fun r8 =>
 (cond (Af (ln t3) t4)
 (ob t3[(tn t4)]? fun x9 =>
 (some (.inl ((t0, (ls t3 (tn t4) r8.1), (wr .i64 (t4 + 1)), ()), ()))))
 none)))
 (some (.inr (.inl ((t3, ()), ())))))
def MO := Ta fun x : Qah => V5 x.1.1 x.1.2.1 x.1.2.2.1
def RS (a0 : Ke) : Option (Ke × Unit) :=
 (cond ((((ln a0 : Nat) : Int) == ((ln a0 : Nat) : Int)) && (decide (0 ≤ ((ln a0 : Nat) : Int)) && decide (((ln a0 : Nat) : Int) ≤ ((Qa : Nat) : Int))))
 (ob (MO ((a0, (List.replicate (tn ((ln a0 : Nat) : Int)) (0, 0, ())), 0, ()), ())) (se (fun y10 => (some (y10.1.1, ()))) (fun z11 => none)))
 none)
def IF (a0 : Ca) : Option Rh :=
 (some (a0, ()))
def W5 (t0 : Be) (t3 : Be) (t4 : Int) : Option (IV ⊕ ((HG × Unit) ⊕ Fe)) :=
 (cond (decide (t4 < ((ln t0 : Nat) : Int)))
 (ob (Xa t0 t4) fun x7 =>
 (ob (IF x7) fun r8 =>
 (cond (Af (ln t3) t4)
 (ob t3[(tn t4)]? fun x9 =>
 (some (.inl ((t0, (ls t3 (tn t4) r8.1), (wr .i64 (t4 + 1)), ()), ()))))
 none)))
 (some (.inr (.inl ((t3, ()), ())))))
def NO := Ta fun x : IV => W5 x.1.1 x.1.2.1 x.1.2.2.1
def UK (a0 : Be) : Option HG :=
 (cond ((((ln a0 : Nat) : Int) == ((ln a0 : Nat) : Int)) && (decide (0 ≤ ((ln a0 : Nat) : Int)) && decide (((ln a0 : Nat) : Int) ≤ ((Qa : Nat) : Int))))
 (ob (NO ((a0, (List.replicate (tn ((ln a0 : Nat) : Int)) (0, 0, false, ())), 0, ()), ())) (se (fun y10 => (some (y10.1.1, ()))) (fun z11 => none)))
 none)
def KA (a0 : Ca) : Option Rh :=
 (some (a0, ()))
def X2 (t0 : Be) (t3 : Be) (t4 : Int) : Option (IV ⊕ ((HG × Unit) ⊕ Fe)) :=
 (cond (decide (t4 < ((ln t0 : Nat) : Int)))
 (ob (Xa t0 t4) fun x7 =>
 (ob (KA x7) fun r8 =>
 (cond (Af (ln t3) t4)
 (ob t3[(tn t4)]? fun x9 =>
 (some (.inl ((t0, (ls t3 (tn t4) r8.1), (wr .i64 (t4 + 1)), ()), ()))))
 none)))
 (some (.inr (.inl ((t3, ()), ())))))
def QM := Ta fun x : IV => X2 x.1.1 x.1.2.1 x.1.2.2.1
def MQ (a0 : Be) : Option HG :=
 (cond ((((ln a0 : Nat) : Int) == ((ln a0 : Nat) : Int)) && (decide (0 ≤ ((ln a0 : Nat) : Int)) && decide (((ln a0 : Nat) : Int) ≤ ((Qa : Nat) : Int))))
 (ob (QM ((a0, (List.replicate (tn ((ln a0 : Nat) : Int)) (0, 0, false, ())), 0, ()), ())) (se (fun y10 => (some (y10.1.1, ()))) (fun z11 => none)))
 none)
def CD (a0 : Pa) : Option GG :=
 (ob (RS a0.1) fun r1 =>
 (ob (UK a0.2.2.1) fun r2 =>
 (ob (MQ a0.2.2.2.2.2.2.1) fun r3 =>
 (some ((r1.1, a0.2.1, r2.1, a0.2.2.2.1, a0.2.2.2.2.1, a0.2.2.2.2.2.1, r3.1, ()), ())))))
def OJ (a0 : Ad) : Option IG :=
 (some (a0, ()))
def Q8 (t0 : Th) (t3 : Th) (t4 : Int) : Option (Tah ⊕ (((Th × Unit) × Unit) ⊕ Fe)) :=
 (cond (decide (t4 < ((ln t0 : Nat) : Int)))
 (ob (Xa t0 t4) fun x7 =>
 (ob (OJ x7) fun r8 =>
 (cond (Af (ln t3) t4)
 (ob t3[(tn t4)]? fun x9 =>
 (some (.inl ((t0, (ls t3 (tn t4) r8.1), (wr .i64 (t4 + 1)), ()), ()))))
 none)))
 (some (.inr (.inl ((t3, ()), ())))))
def MP := Ta fun x : Tah => Q8 x.1.1 x.1.2.1 x.1.2.2.1
def PO (a0 : Th) : Option (Th × Unit) :=
 (cond ((((ln a0 : Nat) : Int) == ((ln a0 : Nat) : Int)) && (decide (0 ≤ ((ln a0 : Nat) : Int)) && decide (((ln a0 : Nat) : Int) ≤ ((Qa : Nat) : Int))))
 (ob (MP ((a0, (List.replicate (tn ((ln a0 : Nat) : Int)) (0, 0, 0, ())), 0, ()), ())) (se (fun y10 => (some (y10.1.1, ()))) (fun z11 => none)))
 none)
def X5 (t0 : Zh) (t3 : Zh) (t4 : Int) : Option (Pah ⊕ (((Zh × Unit) × Unit) ⊕ Fe)) :=
 (cond (decide (t4 < ((ln t0 : Nat) : Int)))
 (ob (Xa t0 t4) fun x7 =>
 (ob (PO x7) fun r8 =>
 (cond (Af (ln t3) t4)
 (ob t3[(tn t4)]? fun x9 =>
 (some (.inl ((t0, (ls t3 (tn t4) r8.1), (wr .i64 (t4 + 1)), ()), ()))))
 none)))
 (some (.inr (.inl ((t3, ()), ())))))
def QO := Ta fun x : Pah => X5 x.1.1 x.1.2.1 x.1.2.2.1
def SS (a0 : Zh) : Option (Zh × Unit) :=
 (cond ((((ln a0 : Nat) : Int) == ((ln a0 : Nat) : Int)) && (decide (0 ≤ ((ln a0 : Nat) : Int)) && decide (((ln a0 : Nat) : Int) ≤ ((Qa : Nat) : Int))))
 (ob (QO ((a0, (List.replicate (tn ((ln a0 : Nat) : Int)) []), 0, ()), ())) (se (fun y10 => (some (y10.1.1, ()))) (fun z11 => none)))
 none)
def NJ (a0 : Sa) : Option (Sa × Unit) :=
 (ob (Zq a0.2.1) fun r1 =>
 (some ((a0.1, r1.1, ()), ())))
def P8 (t0 : He) (t3 : He) (t4 : Int) : Option (Sah ⊕ (((He × Unit) × Unit) ⊕ Fe)) :=
 (cond (decide (t4 < ((ln t0 : Nat) : Int)))
 (ob (Xa t0 t4) fun x7 =>
 (ob (NJ x7) fun r8 =>
 (cond (Af (ln t3) t4)
 (ob t3[(tn t4)]? fun x9 =>
 (some (.inl ((t0, (ls t3 (tn t4) r8.1), (wr .i64 (t4 + 1)), ()), ()))))
 none)))
 (some (.inr (.inl ((t3, ()), ())))))
def LP := Ta fun x : Sah => P8 x.1.1 x.1.2.1 x.1.2.2.1
def QU (a0 : He) : Option (He × Unit) :=
 (cond ((((ln a0 : Nat) : Int) == ((ln a0 : Nat) : Int)) && (decide (0 ≤ ((ln a0 : Nat) : Int)) && decide (((ln a0 : Nat) : Int) ≤ ((Qa : Nat) : Int))))
 (ob (LP ((a0, (List.replicate (tn ((ln a0 : Nat) : Int)) (0, (0, 0, 0, 0, ()), ())), 0, ()), ())) (se (fun y10 => (some (y10.1.1, ()))) (fun z11 => none)))
 none)
def TK (a0 : Jb) : Option Fm :=
 (ob (VK a0.1) fun r1 =>
 (ob (SS a0.2.1) fun r2 =>
 (ob (QU a0.2.2.2.1) fun r3 =>
 (some ((r1.1, r2.1, a0.2.2.1, r3.1, a0.2.2.2.2.1, a0.2.2.2.2.2.1, ()), ())))))
def FH (a0 : Ib) : Option DT :=
 (ob (TK a0.1) fun r1 =>
 (ob (XK a0.2.1) fun r2 =>
 (ob (UK a0.2.2.1) fun r3 =>
 (some ((r1.1, r2.1, r3.1, a0.2.2.2.1, a0.2.2.2.2.1, a0.2.2.2.2.2.1, a0.2.2.2.2.2.2.1, ()), ())))))
def KO (a0 : Fd) : Option WJ :=
 (ob (WK a0.1) fun r1 =>
 (ob (Uy a0.2.1) fun r2 =>
 (ob (CD a0.2.2.1) fun r3 =>
 (ob (FH a0.2.2.2.1) fun r4 =>
 (some ((r1.1, r2.1, r3.1, r4.1, a0.2.2.2.2.1, a0.2.2.2.2.2.1, ()), ()))))))
def ED (a0 : Sb) : Option OY :=
 (ob (Kw a0.1) fun r1 =>
 (some ((r1.1, a0.2.1, a0.2.2.1, a0.2.2.2.1, ()), ())))
def Bn (a0 : Zb) : Option (Zb × Unit) :=
 (ob (KO a0.1) fun r1 =>
 (ob (ED a0.2.1) fun r2 =>
 (some ((r1.1, r2.1, a0.2.2.1, ()), ()))))
def OA (a0 : Zb) : Option Cc :=
 (cond ((2 : Int) == 0)
 none
 (cond ((Int.tmod a0.1.1.1 2) != 0)
 (some (0, ()))
 (ob (Yk a0.1.1) fun r1 =>
 (cond ((2 : Int) == 0)
 none
 (some ((wr .i64 (Int.tdiv r1.1 2)), ()))))))
def AA (a0 : Zb) : Option Cc :=
 (cond ((2 : Int) == 0)
 none
 (cond ((Int.tmod a0.1.1.1 2) != 0)
 (some (0, ()))
 (ob (Lj a0.1.1) fun r1 =>
 (cond ((2 : Int) == 0)
 none
 (some ((wr .i64 (Int.tdiv r1.1 2)), ()))))))
def IK (a0 : Ca) (a1 : Ca) : Option Xc :=
 (cond (a0.1 != a1.1)
 (some (false, ()))
 (cond (a0.2.1 != a1.2.1)
 (some (false, ()))
 (cond (a0.2.2.1 != a1.2.2.1)
 (some (false, ()))
 (some (true, ())))))
def Oy (a0 : Qb) (a1 : Qb) : Option Xc :=
 (cond (a0.1 != a1.1)
 (some (false, ()))
 (cond (a0.2.1 != a1.2.1)
 (some (false, ()))
 (cond (a0.2.2.1 != a1.2.2.1)
 (some (false, ()))
 (cond (a0.2.2.2.1 != a1.2.2.2.1)
 (some (false, ()))
 (cond (a0.2.2.2.2.1 != a1.2.2.2.2.1)
 (some (false, ()))
 (ob (Ot a0.2.2.2.2.2.1 a1.2.2.2.2.2.1) fun r1 =>
 (cond (!r1.1)
 (some (false, ()))
 (some (true, ())))))))))
def AF (a0 : Va) (a1 : Va) : Option Xc :=
 (cond (a0.1 != a1.1)
 (some (false, ()))
 (cond (a0.2.1 != a1.2.1)
 (some (false, ()))
 (some (true, ()))))
def P5 (t0 : Ke) (t1 : Ke) (t5 : Int) : Option (Qah ⊕ Hk) :=
 (cond (decide (t5 < ((ln t0 : Nat) : Int)))
 (ob (Xa t0 t5) fun x7 =>
 (ob (Xa t1 t5) fun x8 =>
 (ob (AF x7 x8) fun r9 =>
 (cond (!r9.1)
 (some (.inr (.inr ((false, ()), ()))))
 (some (.inl ((t0, t1, (wr .i64 (t5 + 1)), ()), ())))))))
 (some (.inr (.inl ((), ())))))
def SN := Ta fun x : Qah => P5 x.1.1 x.1.2.1 x.1.2.2.1
def FK (a0 : Ke) (a1 : Ke) : Option Xc :=
 (cond (((ln a0 : Nat) : Int) != ((ln a1 : Nat) : Int))
 (some (false, ()))
 (ob (SN ((a0, a1, 0, ()), ())) (se (fun y10 => (some (true, ()))) (fun z11 => (some (z11.1.1, ()))))))
def HA (a0 : Ca) (a1 : Ca) : Option Xc :=
 (cond (a0.1 != a1.1)
 (some (false, ()))
 (cond (a0.2.1 != a1.2.1)
 (some (false, ()))
 (cond (a0.2.2.1 != a1.2.2.1)
 (some (false, ()))
 (some (true, ())))))
def V2 (t0 : Be) (t1 : Be) (t5 : Int) : Option (IV ⊕ Hk) :=
 (cond (decide (t5 < ((ln t0 : Nat) : Int)))
 (ob (Xa t0 t5) fun x7 =>
 (ob (Xa t1 t5) fun x8 =>
 (ob (HA x7 x8) fun r9 =>
 (cond (!r9.1)
 (some (.inr (.inr ((false, ()), ()))))
 (some (.inl ((t0, t1, (wr .i64 (t5 + 1)), ()), ())))))))
 (some (.inr (.inl ((), ())))))
def EM := Ta fun x : IV => V2 x.1.1 x.1.2.1 x.1.2.2.1
def TG (a0 : Be) (a1 : Be) : Option Xc :=
 (cond (((ln a0 : Nat) : Int) != ((ln a1 : Nat) : Int))
 (some (false, ()))
 (ob (EM ((a0, a1, 0, ()), ())) (se (fun y10 => (some (true, ()))) (fun z11 => (some (z11.1.1, ()))))))
def QC (a0 : Pa) (a1 : Pa) : Option Xc :=
 (ob (FK a0.1 a1.1) fun r1 =>
 (cond (!r1.1)
 (some (false, ()))
 (cond (a0.2.1 != a1.2.1)
 (some (false, ()))
 (ob (IA a0.2.2.1 a1.2.2.1) fun r2 =>
 (cond (!r2.1)
 (some (false, ()))
 (cond (a0.2.2.2.1 != a1.2.2.2.1)
 (some (false, ()))
 (cond (a0.2.2.2.2.1 != a1.2.2.2.2.1)
 (some (false, ()))
 (cond (a0.2.2.2.2.2.1 != a1.2.2.2.2.2.1)
 (some (false, ()))
 (ob (TG a0.2.2.2.2.2.2.1 a1.2.2.2.2.2.2.1) fun r3 =>
 (cond (!r3.1)
 (some (false, ()))
 (some (true, ()))))))))))))
def DJ (a0 : Ad) (a1 : Ad) : Option Xc :=
 (cond (a0.1 != a1.1)
 (some (false, ()))
 (cond (a0.2.1 != a1.2.1)
 (some (false, ()))
 (cond (a0.2.2.1 != a1.2.2.1)
 (some (false, ()))
 (some (true, ())))))
def O8 (t0 : Th) (t1 : Th) (t5 : Int) : Option (Tah ⊕ Hk) :=
 (cond (decide (t5 < ((ln t0 : Nat) : Int)))
 (ob (Xa t0 t5) fun x7 =>
 (ob (Xa t1 t5) fun x8 =>
 (ob (DJ x7 x8) fun r9 =>
 (cond (!r9.1)
 (some (.inr (.inr ((false, ()), ()))))
 (some (.inl ((t0, t1, (wr .i64 (t5 + 1)), ()), ())))))))
 (some (.inr (.inl ((), ())))))
def KP := Ta fun x : Tah => O8 x.1.1 x.1.2.1 x.1.2.2.1
def DF (a0 : Th) (a1 : Th) : Option Xc :=
 (cond (((ln a0 : Nat) : Int) != ((ln a1 : Nat) : Int))
 (some (false, ()))
 (ob (KP ((a0, a1, 0, ()), ())) (se (fun y10 => (some (true, ()))) (fun z11 => (some (z11.1.1, ()))))))
def R5 (t0 : Zh) (t1 : Zh) (t5 : Int) : Option (Pah ⊕ Hk) :=
 (cond (decide (t5 < ((ln t0 : Nat) : Int)))
 (ob (Xa t0 t5) fun x7 =>
 (ob (Xa t1 t5) fun x8 =>
 (ob (DF x7 x8) fun r9 =>
 (cond (!r9.1)
 (some (.inr (.inr ((false, ()), ()))))
 (some (.inl ((t0, t1, (wr .i64 (t5 + 1)), ()), ())))))))
 (some (.inr (.inl ((), ())))))
def VN := Ta fun x : Pah => R5 x.1.1 x.1.2.1 x.1.2.2.1
def KK (a0 : Zh) (a1 : Zh) : Option Xc :=
 (cond (((ln a0 : Nat) : Int) != ((ln a1 : Nat) : Int))
 (some (false, ()))
 (ob (VN ((a0, a1, 0, ()), ())) (se (fun y10 => (some (true, ()))) (fun z11 => (some (z11.1.1, ()))))))
def BJ (a0 : Sa) (a1 : Sa) : Option Xc :=
 (cond (a0.1 != a1.1)
 (some (false, ()))
 (ob (Xq a0.2.1 a1.2.1) fun r1 =>
 (cond (!r1.1)
 (some (false, ()))
 (some (true, ())))))
def M8 (t0 : He) (t1 : He) (t5 : Int) : Option (Sah ⊕ Hk) :=
 (cond (decide (t5 < ((ln t0 : Nat) : Int)))
 (ob (Xa t0 t5) fun x7 =>
 (ob (Xa t1 t5) fun x8 =>
 (ob (BJ x7 x8) fun r9 =>
 (cond (!r9.1)
 (some (.inr (.inr ((false, ()), ()))))
 (some (.inl ((t0, t1, (wr .i64 (t5 + 1)), ()), ())))))))
 (some (.inr (.inl ((), ())))))
def IP := Ta fun x : Sah => M8 x.1.1 x.1.2.1 x.1.2.2.1
def UN (a0 : He) (a1 : He) : Option Xc :=
 (cond (((ln a0 : Nat) : Int) != ((ln a1 : Nat) : Int))
 (some (false, ()))
 (ob (IP ((a0, a1, 0, ()), ())) (se (fun y10 => (some (true, ()))) (fun z11 => (some (z11.1.1, ()))))))
def GK (a0 : Jb) (a1 : Jb) : Option Xc :=
 (ob (HK a0.1 a1.1) fun r1 =>
 (cond (!r1.1)
 (some (false, ()))
 (ob (KK a0.2.1 a1.2.1) fun r2 =>
 (cond (!r2.1)
 (some (false, ()))
 (cond (a0.2.2.1 != a1.2.2.1)
 (some (false, ()))
 (ob (UN a0.2.2.2.1 a1.2.2.2.1) fun r3 =>
 (cond (!r3.1)
 (some (false, ()))
 (cond (a0.2.2.2.2.1 != a1.2.2.2.2.1)
 (some (false, ()))
 (cond (a0.2.2.2.2.2.1 != a1.2.2.2.2.2.1)
 (some (false, ()))
 (some (true, ())))))))))))
def UG (a0 : Ib) (a1 : Ib) : Option Xc :=
 (ob (GK a0.1 a1.1) fun r1 =>
 (cond (!r1.1)
 (some (false, ()))
 (ob (LK a0.2.1 a1.2.1) fun r2 =>
 (cond (!r2.1)
 (some (false, ()))
 (ob (IA a0.2.2.1 a1.2.2.1) fun r3 =>
 (cond (!r3.1)
 (some (false, ()))
 (cond (a0.2.2.2.1 != a1.2.2.2.1)
 (some (false, ()))
 (cond (a0.2.2.2.2.1 != a1.2.2.2.2.1)
 (some (false, ()))
 (cond (a0.2.2.2.2.2.1 != a1.2.2.2.2.2.1)
 (some (false, ()))
 (cond (a0.2.2.2.2.2.2.1 != a1.2.2.2.2.2.2.1)
 (some (false, ()))
 (some (true, ()))))))))))))
def QN (a0 : Fd) (a1 : Fd) : Option Xc :=
 (ob (IK a0.1 a1.1) fun r1 =>
 (cond (!r1.1)
 (some (false, ()))
 (ob (Oy a0.2.1 a1.2.1) fun r2 =>
 (cond (!r2.1)
 (some (false, ()))
 (ob (QC a0.2.2.1 a1.2.2.1) fun r3 =>
 (cond (!r3.1)
 (some (false, ()))
 (ob (UG a0.2.2.2.1 a1.2.2.2.1) fun r4 =>
 (cond (!r4.1)
 (some (false, ()))
 (cond (a0.2.2.2.2.1 != a1.2.2.2.2.1)
 (some (false, ()))
 (cond (a0.2.2.2.2.2.1 != a1.2.2.2.2.2.1)
 (some (false, ()))
 (some (true, ()))))))))))))
def SC (a0 : Sb) (a1 : Sb) : Option Xc :=
 (ob (Gw a0.1 a1.1) fun r1 =>
 (cond (!r1.1)
 (some (false, ()))
 (cond (a0.2.1 != a1.2.1)
 (some (false, ()))
 (cond (a0.2.2.1 != a1.2.2.1)
 (some (false, ()))
 (cond (a0.2.2.2.1 != a1.2.2.2.1)
 (some (false, ()))
 (some (true, ())))))))
def An (a0 : Zb) (a1 : Zb) : Option Xc :=
 (ob (QN a0.1 a1.1) fun r1 =>
 (cond (!r1.1)
 (some (false, ()))
 (ob (SC a0.2.1 a1.2.1) fun r2 =>
 (cond (!r2.1)
 (some (false, ()))
 (cond (a0.2.2.1 != a1.2.2.1)
 (some (false, ()))
 (some (true, ())))))))
def Nk (a0 : Sb) : Option Xc :=
 (cond (decide (((ln a0.1 : Nat) : Int) < 6))
 (ob (Tb a0.2.1 (-1) 255) fun r1 =>
 (cond r1.1
 (ob (Tb a0.2.2.1 0 16777215) fun r2 =>
 (cond r2.1
 (ob (Tb a0.2.2.2.1 0 20) fun r3 =>
 (some (r3.1, ())))
 (some (false, ()))))
 (some (false, ()))))
 (some (false, ())))
def QA (a0 : Zb) : Option Xc :=
 (ob (QF a0.1) fun r1 =>
 (cond r1.1
 (ob (OA a0) fun r2 =>
 (cond (decide (r2.1 > 0))
 (ob (Nk a0.2.1) fun r3 =>
 (cond r3.1
 (ob (Tb a0.2.2.1 0 255) fun r4 =>
 (some (r4.1, ())))
 (some (false, ()))))
 (some (false, ()))))
 (some (false, ()))))
def Kk (a0 : Sb) : Option Xc :=
 (cond (decide (((ln a0.1 : Nat) : Int) < 6))
 (cond (decide (a0.2.1 ≥ (-1)))
 (cond (decide (a0.2.1 ≤ 255))
 (cond (decide (a0.2.2.1 ≥ 0))
 (cond (decide (a0.2.2.1 ≤ 16777215))
 (cond (decide (a0.2.2.2.1 ≥ 0))
 (some ((decide (a0.2.2.2.1 ≤ 20)), ()))
 (some (false, ())))
 (some (false, ())))
 (some (false, ())))
 (some (false, ())))
 (some (false, ())))
 (some (false, ())))
def CA (a0 : Zb) : Option Xc :=
 (ob (OE a0.1) fun r1 =>
 (cond r1.1
 (ob (Kk a0.2.1) fun r2 =>
 (cond r2.1
 (ob (AA a0) fun r3 =>
 (cond (r3.1 != 0)
 (cond (decide (a0.2.2.1 ≥ 0))
 (some ((decide (a0.2.2.1 ≤ 255)), ()))
 (some (false, ())))
 (some (false, ()))))
 (some (false, ()))))
 (some (false, ()))))
def Ds (a0 : Qb) (a1 : Int) : Option (Qb × Cc) :=
 (ob (Yq a0.2.2.2.2.2.1 a1) fun r1 =>
 (some ((a0.1, a0.2.1, a0.2.2.1, a0.2.2.2.1, a0.2.2.2.2.1, r1.1, ()), (r1.2.1, ()))))
def Bq (t0 : Ke) (t1 : Int) (t5 : Int) : Option (ZQ ⊕ (U9 ⊕ Fe)) :=
 (cond (decide (t5 < ((ln t0 : Nat) : Int)))
 (cond (Af (ln t0) t5)
 (ob t0[(tn t5)]? fun x5 =>
 (cond (Af (ln (ls t0 (tn t5) (t1, x5.2))) t5)
 (ob (ls t0 (tn t5) (t1, x5.2))[(tn t5)]? fun x6 =>
 (some (.inl (((ls (ls t0 (tn t5) (t1, x5.2)) (tn t5) (x6.1, (wr .i64 (t1 + 1)), x6.2.2)), (wr .i64 ((wr .i64 (t1 + 1)) + 1)), (wr .i64 (t5 + 1)), ()), ()))))
 none))
 none)
 (some (.inr (.inl ((t0, t1, ()), ())))))
def IJ := Ta fun x : ZQ => Bq x.1.1 x.1.2.1 x.1.2.2.1
def AO (a0 : Ke) (a1 : Int) : Option (Ke × Cc) :=
 (ob (IJ ((a0, a1, 0, ()), ())) (se (fun y7 => (some (y7.1.1, (y7.1.2.1, ())))) (fun z8 => none)))
def Zn (t0 : Be) (t1 : Int) (t5 : Int) : Option (MV ⊕ ((ZM × Unit) ⊕ Fe)) :=
 (cond (decide (t5 < ((ln t0 : Nat) : Int)))
 (cond (Af (ln t0) t5)
 (ob t0[(tn t5)]? fun x7 =>
 (cond (Af (ln (ls t0 (tn t5) (t1, x7.2))) t5)
 (ob (ls t0 (tn t5) (t1, x7.2))[(tn t5)]? fun x8 =>
 (cond ((3 : Int) == 0)
 none
 (cond (Af (ln (ls (ls t0 (tn t5) (t1, x7.2)) (tn t5) (x8.1, (wr .i64 (t1 + 1)), x8.2.2))) t5)
 (ob (ls (ls t0 (tn t5) (t1, x7.2)) (tn t5) (x8.1, (wr .i64 (t1 + 1)), x8.2.2))[(tn t5)]? fun x9 =>
 (some (.inl (((ls (ls (ls t0 (tn t5) (t1, x7.2)) (tn t5) (x8.1, (wr .i64 (t1 + 1)), x8.2.2)) (tn t5) (x9.1, x9.2.1, ((Int.tmod (wr .i64 ((wr .i64 (t1 + 1)) + 1)) 3) == 0), x9.2.2.2)), (wr .i64 ((wr .i64 ((wr .i64 (t1 + 1)) + 1)) + 1)), (wr .i64 (t5 + 1)), ()), ()))))
 none)))
 none))
 none)
 (some (.inr (.inl ((t0, t1, ()), ())))))
def YH := Ta fun x : MV => Zn x.1.1 x.1.2.1 x.1.2.2.1
def SL (a0 : Be) (a1 : Int) : Option ZM :=
 (ob (YH ((a0, a1, 0, ()), ())) (se (fun y10 => (some (y10.1.1, (y10.1.2.1, ())))) (fun z11 => none)))
def Ru (a0 : Pa) (a1 : Int) : Option (Pa × Cc) :=
 (ob (AO a0.1 a1) fun r1 =>
 (ob (XC a0.2.2.1 r1.2.1) fun r2 =>
 (ob (SL a0.2.2.2.2.2.2.1 r2.2.1) fun r3 =>
 (some ((r1.1, a0.2.1, r2.1, a0.2.2.2.1, a0.2.2.2.2.1, a0.2.2.2.2.2.1, r3.1, ()), (r3.2.1, ()))))))
def Js (t0 : Th) (t1 : Int) (t5 : Int) : Option ((LV × Unit) ⊕ (((Th × Cc) × Unit) ⊕ Fe)) :=
 (cond (decide (t5 < ((ln t0 : Nat) : Int)))
 (cond (Af (ln t0) t5)
 (ob t0[(tn t5)]? fun x7 =>
 (cond (Af (ln (ls t0 (tn t5) (t1, x7.2))) t5)
 (ob (ls t0 (tn t5) (t1, x7.2))[(tn t5)]? fun x8 =>
 (cond (Af (ln (ls (ls t0 (tn t5) (t1, x7.2)) (tn t5) (x8.1, (wr .i64 (t1 + 1)), x8.2.2))) t5)
 (ob (ls (ls t0 (tn t5) (t1, x7.2)) (tn t5) (x8.1, (wr .i64 (t1 + 1)), x8.2.2))[(tn t5)]? fun x9 =>
 (some (.inl (((ls (ls (ls t0 (tn t5) (t1, x7.2)) (tn t5) (x8.1, (wr .i64 (t1 + 1)), x8.2.2)) (tn t5) (x9.1, x9.2.1, (wr .i64 ((wr .i64 (t1 + 1)) + 1)), x9.2.2.2)), (wr .i64 ((wr .i64 ((wr .i64 (t1 + 1)) + 1)) + 1)), (wr .i64 (t5 + 1)), ()), ()))))
 none))
 none))
 none)
 (some (.inr (.inl ((t0, t1, ()), ())))))
def NM := Ta fun x : (LV × Unit) => Js x.1.1 x.1.2.1 x.1.2.2.1
def LQ (a0 : Th) (a1 : Int) : Option (Th × Cc) :=
 (ob (NM ((a0, a1, 0, ()), ())) (se (fun y10 => (some (y10.1.1, (y10.1.2.1, ())))) (fun z11 => none)))
def Dq (t0 : Zh) (t1 : Int) (t5 : Int) : Option ((YQ × Unit) ⊕ (((Zh × Cc) × Unit) ⊕ Fe)) :=
 (cond (decide (t5 < ((ln t0 : Nat) : Int)))
 (cond (Af (ln t0) t5)
 (ob t0[(tn t5)]? fun x5 =>
 (ob (LQ x5 t1) fun r6 =>
 (some (.inl (((ls t0 (tn t5) r6.1), r6.2.1, (wr .i64 (t5 + 1)), ()), ())))))
 none)
 (some (.inr (.inl ((t0, t1, ()), ())))))
def KJ := Ta fun x : (YQ × Unit) => Dq x.1.1 x.1.2.1 x.1.2.2.1
def CO (a0 : Zh) (a1 : Int) : Option (Zh × Cc) :=
 (ob (KJ ((a0, a1, 0, ()), ())) (se (fun y7 => (some (y7.1.1, (y7.1.2.1, ())))) (fun z8 => none)))
def Hs (t0 : He) (t1 : Int) (t5 : Int) : Option (NV ⊕ (((He × Cc) × Unit) ⊕ Fe)) :=
 (cond (decide (t5 < ((ln t0 : Nat) : Int)))
 (cond (Af (ln t0) t5)
 (ob t0[(tn t5)]? fun x11 =>
 (cond (Af (ln (ls t0 (tn t5) (t1, x11.2))) t5)
 (ob (ls t0 (tn t5) (t1, x11.2))[(tn t5)]? fun x12 =>
 (cond (Af (ln (ls (ls t0 (tn t5) (t1, x11.2)) (tn t5) (x12.1, ((wr .i64 (t1 + 1)), x12.2.1.2), x12.2.2))) t5)
 (ob (ls (ls t0 (tn t5) (t1, x11.2)) (tn t5) (x12.1, ((wr .i64 (t1 + 1)), x12.2.1.2), x12.2.2))[(tn t5)]? fun x13 =>
 (cond (Af (ln (ls (ls (ls t0 (tn t5) (t1, x11.2)) (tn t5) (x12.1, ((wr .i64 (t1 + 1)), x12.2.1.2), x12.2.2)) (tn t5) (x13.1, (x13.2.1.1, (wr .i64 ((wr .i64 (t1 + 1)) + 1)), x13.2.1.2.2), x13.2.2))) t5)
 (ob (ls (ls (ls t0 (tn t5) (t1, x11.2)) (tn t5) (x12.1, ((wr .i64 (t1 + 1)), x12.2.1.2), x12.2.2)) (tn t5) (x13.1, (x13.2.1.1, (wr .i64 ((wr .i64 (t1 + 1)) + 1)), x13.2.1.2.2), x13.2.2))[(tn t5)]? fun x14 =>
 (cond (Af (ln (ls (ls (ls (ls t0 (tn t5) (t1, x11.2)) (tn t5) (x12.1, ((wr .i64 (t1 + 1)), x12.2.1.2), x12.2.2)) (tn t5) (x13.1, (x13.2.1.1, (wr .i64 ((wr .i64 (t1 + 1)) + 1)), x13.2.1.2.2), x13.2.2)) (tn t5) (x14.1, (x14.2.1.1, x14.2.1.2.1, (wr .i64 ((wr .i64 ((wr .i64 (t1 + 1)) + 1)) + 1)), x14.2.1.2.2.2), x14.2.2))) t5)
 (ob (ls (ls (ls (ls t0 (tn t5) (t1, x11.2)) (tn t5) (x12.1, ((wr .i64 (t1 + 1)), x12.2.1.2), x12.2.2)) (tn t5) (x13.1, (x13.2.1.1, (wr .i64 ((wr .i64 (t1 + 1)) + 1)), x13.2.1.2.2), x13.2.2)) (tn t5) (x14.1, (x14.2.1.1, x14.2.1.2.1, (wr .i64 ((wr .i64 ((wr .i64 (t1 + 1)) + 1)) + 1)), x14.2.1.2.2.2), x14.2.2))[(tn t5)]? fun x15 =>
 (some (.inl (((ls (ls (ls (ls (ls t0 (tn t5) (t1, x11.2)) (tn t5) (x12.1, ((wr .i64 (t1 + 1)), x12.2.1.2), x12.2.2)) (tn t5) (x13.1, (x13.2.1.1, (wr .i64 ((wr .i64 (t1 + 1)) + 1)), x13.2.1.2.2), x13.2.2)) (tn t5) (x14.1, (x14.2.1.1, x14.2.1.2.1, (wr .i64 ((wr .i64 ((wr .i64 (t1 + 1)) + 1)) + 1)), x14.2.1.2.2.2), x14.2.2)) (tn t5) (x15.1, (x15.2.1.1, x15.2.1.2.1, x15.2.1.2.2.1, (wr .i64 ((wr .i64 ((wr .i64 ((wr .i64 (t1 + 1)) + 1)) + 1)) + 1)), x15.2.1.2.2.2.2), x15.2.2)), (wr .i64 ((wr .i64 ((wr .i64 ((wr .i64 ((wr .i64 (t1 + 1)) + 1)) + 1)) + 1)) + 1)), (wr .i64 (t5 + 1)), ()), ()))))
 none))
 none))
 none))
 none))
 none)
 (some (.inr (.inl ((t0, t1, ()), ())))))
def LM := Ta fun x : NV => Hs x.1.1 x.1.2.1 x.1.2.2.1
def JQ (a0 : He) (a1 : Int) : Option (He × Cc) :=
 (ob (LM ((a0, a1, 0, ()), ())) (se (fun y16 => (some (y16.1.1, (y16.1.2.1, ())))) (fun z17 => none)))
def WC (a0 : Jb) (a1 : Int) : Option (Jb × Cc) :=
 (ob (YC a0.1 a1) fun r1 =>
 (ob (CO a0.2.1 r1.2.1) fun r2 =>
 (ob (JQ a0.2.2.2.1 r2.2.1) fun r3 =>
 (some (((a0.1.1, r1.1.2.1, ()), r2.1, a0.2.2.1, r3.1, a0.2.2.2.2), (r3.2.1, ()))))))
def Qy (a0 : Ib) (a1 : Int) : Option (Ib × Cc) :=
 (ob (WC a0.1 a1) fun r1 =>
 (ob (XC a0.2.2.1 r1.2.1) fun r2 =>
 (some ((((a0.1.1.1, r1.1.1.2.1, ()), r1.1.2.1, a0.1.2.2.1, r1.1.2.2.2.1, a0.1.2.2.2.2), a0.2.1, r2.1, a0.2.2.2), (r2.2.1, ())))))
def ZG (a0 : Fd) (a1 : Int) : Option (Fd × Cc) :=
 (ob (Ds a0.2.1 a1) fun r1 =>
 (ob (Ru a0.2.2.1 r1.2.1) fun r2 =>
 (ob (Qy a0.2.2.2.1 r2.2.1) fun r3 =>
 (some ((a0.1, (a0.2.1.1, a0.2.1.2.1, a0.2.1.2.2.1, a0.2.1.2.2.2.1, a0.2.1.2.2.2.2.1, r1.1.2.2.2.2.2.1, ()), (r2.1.1, a0.2.2.1.2.1, r2.1.2.2.1, a0.2.2.1.2.2.2.1, a0.2.2.1.2.2.2.2.1, a0.2.2.1.2.2.2.2.2.1, r2.1.2.2.2.2.2.2.1, ()), (((a0.2.2.2.1.1.1.1, r3.1.1.1.2.1, ()), r3.1.1.2.1, a0.2.2.2.1.1.2.2.1, r3.1.1.2.2.2.1, a0.2.2.2.1.1.2.2.2.2), a0.2.2.2.1.2.1, r3.1.2.2.1, a0.2.2.2.1.2.2.2), a0.2.2.2.2), (r3.2.1, ()))))))
def Xr (a0 : Qb) (a1 : Int) : Option Cc :=
 (ob (MK a0.2.2.2.2.2.1 a1) fun r1 =>
 (cond (decide (r1.1 < 0))
 (some ((-1), ()))
 (some (r1.1, ()))))
def Xp (t0 : Ke) (t1 : Int) (t5 : Int) : Option (ZQ ⊕ Mx) :=
 (cond (decide (t5 < ((ln t0 : Nat) : Int)))
 (ob (Xa t0 t5) fun x5 =>
 (cond (x5.1 != t1)
 (some (.inr (.inr (((-1), ()), ()))))
 (ob (Xa t0 t5) fun x6 =>
 (cond (x6.2.1 != (wr .i64 (t1 + 1)))
 (some (.inr (.inr (((-1), ()), ()))))
 (some (.inl ((t0, (wr .i64 ((wr .i64 (t1 + 1)) + 1)), (wr .i64 (t5 + 1)), ()), ())))))))
 (some (.inr (.inl ((t1, ()), ())))))
def EJ := Ta fun x : ZQ => Xp x.1.1 x.1.2.1 x.1.2.2.1
def WN (a0 : Ke) (a1 : Int) : Option Cc :=
 (ob (EJ ((a0, a1, 0, ()), ())) (se (fun y7 => (some (y7.1.1, ()))) (fun z8 => (some (z8.1.1, ())))))
def Xn (t0 : Be) (t1 : Int) (t5 : Int) : Option (MV ⊕ Mx) :=
 (cond (decide (t5 < ((ln t0 : Nat) : Int)))
 (ob (Xa t0 t5) fun x7 =>
 (cond (x7.1 != t1)
 (some (.inr (.inr (((-1), ()), ()))))
 (ob (Xa t0 t5) fun x8 =>
 (cond (x8.2.1 != (wr .i64 (t1 + 1)))
 (some (.inr (.inr (((-1), ()), ()))))
 (ob (Xa t0 t5) fun x9 =>
 (cond ((3 : Int) == 0)
 none
 (cond (x9.2.2.1 != ((Int.tmod (wr .i64 ((wr .i64 (t1 + 1)) + 1)) 3) == 0))
 (some (.inr (.inr (((-1), ()), ()))))
 (some (.inl ((t0, (wr .i64 ((wr .i64 ((wr .i64 (t1 + 1)) + 1)) + 1)), (wr .i64 (t5 + 1)), ()), ()))))))))))
 (some (.inr (.inl ((t1, ()), ())))))
def WH := Ta fun x : MV => Xn x.1.1 x.1.2.1 x.1.2.2.1
def QL (a0 : Be) (a1 : Int) : Option Cc :=
 (ob (WH ((a0, a1, 0, ()), ())) (se (fun y10 => (some (y10.1.1, ()))) (fun z11 => (some (z11.1.1, ())))))
def Ou (a0 : Pa) (a1 : Int) : Option Cc :=
 (ob (WN a0.1 a1) fun r1 =>
 (cond (decide (r1.1 < 0))
 (some ((-1), ()))
 (ob (UC a0.2.2.1 r1.1) fun r2 =>
 (cond (decide (r2.1 < 0))
 (some ((-1), ()))
 (ob (QL a0.2.2.2.2.2.2.1 r2.1) fun r3 =>
 (cond (decide (r3.1 < 0))
 (some ((-1), ()))
 (some (r3.1, ()))))))))
def Bs (t0 : Th) (t1 : Int) (t5 : Int) : Option ((LV × Unit) ⊕ Mx) :=
 (cond (decide (t5 < ((ln t0 : Nat) : Int)))
 (ob (Xa t0 t5) fun x7 =>
 (cond (x7.1 != t1)
 (some (.inr (.inr (((-1), ()), ()))))
 (ob (Xa t0 t5) fun x8 =>
 (cond (x8.2.1 != (wr .i64 (t1 + 1)))
 (some (.inr (.inr (((-1), ()), ()))))
 (ob (Xa t0 t5) fun x9 =>
 (cond (x9.2.2.1 != (wr .i64 ((wr .i64 (t1 + 1)) + 1)))
 (some (.inr (.inr (((-1), ()), ()))))
 (some (.inl ((t0, (wr .i64 ((wr .i64 ((wr .i64 (t1 + 1)) + 1)) + 1)), (wr .i64 (t5 + 1)), ()), ())))))))))
 (some (.inr (.inl ((t1, ()), ())))))
def JM := Ta fun x : (LV × Unit) => Bs x.1.1 x.1.2.1 x.1.2.2.1
def IQ (a0 : Th) (a1 : Int) : Option Cc :=
 (ob (JM ((a0, a1, 0, ()), ())) (se (fun y10 => (some (y10.1.1, ()))) (fun z11 => (some (z11.1.1, ())))))
def Zp (t0 : Zh) (t1 : Int) (t5 : Int) : Option ((YQ × Unit) ⊕ Mx) :=
 (cond (decide (t5 < ((ln t0 : Nat) : Int)))
 (ob (Xa t0 t5) fun x5 =>
 (ob (IQ x5 t1) fun r6 =>
 (cond (decide (r6.1 < 0))
 (some (.inr (.inr (((-1), ()), ()))))
 (some (.inl ((t0, r6.1, (wr .i64 (t5 + 1)), ()), ()))))))
 (some (.inr (.inl ((t1, ()), ())))))
def GJ := Ta fun x : (YQ × Unit) => Zp x.1.1 x.1.2.1 x.1.2.2.1
def YN (a0 : Zh) (a1 : Int) : Option Cc :=
 (ob (GJ ((a0, a1, 0, ()), ())) (se (fun y7 => (some (y7.1.1, ()))) (fun z8 => (some (z8.1.1, ())))))
def Zr (t0 : He) (t1 : Int) (t5 : Int) : Option (NV ⊕ Mx) :=
 (cond (decide (t5 < ((ln t0 : Nat) : Int)))
 (ob (Xa t0 t5) fun x11 =>
 (cond (x11.1 != t1)
 (some (.inr (.inr (((-1), ()), ()))))
 (ob (Xa t0 t5) fun x12 =>
 (cond (x12.2.1.1 != (wr .i64 (t1 + 1)))
 (some (.inr (.inr (((-1), ()), ()))))
 (ob (Xa t0 t5) fun x13 =>
 (cond (x13.2.1.2.1 != (wr .i64 ((wr .i64 (t1 + 1)) + 1)))
 (some (.inr (.inr (((-1), ()), ()))))
 (ob (Xa t0 t5) fun x14 =>
 (cond (x14.2.1.2.2.1 != (wr .i64 ((wr .i64 ((wr .i64 (t1 + 1)) + 1)) + 1)))
 (some (.inr (.inr (((-1), ()), ()))))
 (ob (Xa t0 t5) fun x15 =>
 (cond (x15.2.1.2.2.2.1 != (wr .i64 ((wr .i64 ((wr .i64 ((wr .i64 (t1 + 1)) + 1)) + 1)) + 1)))
 (some (.inr (.inr (((-1), ()), ()))))
 (some (.inl ((t0, (wr .i64 ((wr .i64 ((wr .i64 ((wr .i64 ((wr .i64 (t1 + 1)) + 1)) + 1)) + 1)) + 1)), (wr .i64 (t5 + 1)), ()), ())))))))))))))
 (some (.inr (.inl ((t1, ()), ())))))
def GM := Ta fun x : NV => Zr x.1.1 x.1.2.1 x.1.2.2.1
def HQ (a0 : He) (a1 : Int) : Option Cc :=
 (ob (GM ((a0, a1, 0, ()), ())) (se (fun y16 => (some (y16.1.1, ()))) (fun z17 => (some (z17.1.1, ())))))
def TC (a0 : Jb) (a1 : Int) : Option Cc :=
 (ob (VC a0.1 a1) fun r1 =>
 (cond (decide (r1.1 < 0))
 (some ((-1), ()))
 (ob (YN a0.2.1 r1.1) fun r2 =>
 (cond (decide (r2.1 < 0))
 (some ((-1), ()))
 (ob (HQ a0.2.2.2.1 r2.1) fun r3 =>
 (cond (decide (r3.1 < 0))
 (some ((-1), ()))
 (some (r3.1, ()))))))))
def Py (a0 : Ib) (a1 : Int) : Option Cc :=
 (ob (TC a0.1 a1) fun r1 =>
 (cond (decide (r1.1 < 0))
 (some ((-1), ()))
 (ob (UC a0.2.2.1 r1.1) fun r2 =>
 (cond (decide (r2.1 < 0))
 (some ((-1), ()))
 (some (r2.1, ()))))))
def VG (a0 : Fd) (a1 : Int) : Option Cc :=
 (ob (Xr a0.2.1 a1) fun r1 =>
 (cond (decide (r1.1 < 0))
 (some ((-1), ()))
 (ob (Ou a0.2.2.1 r1.1) fun r2 =>
 (cond (decide (r2.1 < 0))
 (some ((-1), ()))
 (ob (Py a0.2.2.2.1 r2.1) fun r3 =>
 (cond (decide (r3.1 < 0))
 (some ((-1), ()))
 (some (r3.1, ()))))))))
def GV (a0 : Zb) : Option (Zb × Unit) :=
 (ob (DP a0.1) fun r1 =>
 (cond (bl (ln ([] : List Int) + ln a0.2.1.1) Qa)
 (some ((r1.1, ((ap [] a0.2.1.1), a0.2.1.2), a0.2.2), ()))
 none))
def Tu (a0 : Sb) (a1 : Int) : Option (Sb × Cc) :=
 (ob (AH a0.1 a1) fun r1 =>
 (some ((r1.1, a0.2), (r1.2.1, ()))))
def Es (a0 : Zb) (a1 : Int) : Option (Zb × Cc) :=
 (ob (ZG a0.1 a1) fun r1 =>
 (ob (Tu a0.2.1 r1.2.1) fun r2 =>
 (some (((a0.1.1, (a0.1.2.1.1, a0.1.2.1.2.1, a0.1.2.1.2.2.1, a0.1.2.1.2.2.2.1, a0.1.2.1.2.2.2.2.1, r1.1.2.1.2.2.2.2.2.1, ()), (r1.1.2.2.1.1, a0.1.2.2.1.2.1, r1.1.2.2.1.2.2.1, a0.1.2.2.1.2.2.2.1, a0.1.2.2.1.2.2.2.2.1, a0.1.2.2.1.2.2.2.2.2.1, r1.1.2.2.1.2.2.2.2.2.2.1, ()), (((a0.1.2.2.2.1.1.1.1, r1.1.2.2.2.1.1.1.2.1, ()), r1.1.2.2.2.1.1.2.1, a0.1.2.2.2.1.1.2.2.1, r1.1.2.2.2.1.1.2.2.2.1, a0.1.2.2.2.1.1.2.2.2.2), a0.1.2.2.2.1.2.1, r1.1.2.2.2.1.2.2.1, a0.1.2.2.2.1.2.2.2), a0.1.2.2.2.2), (r2.1.1, a0.2.1.2), a0.2.2), (r2.2.1, ())))))
def Qu (a0 : Sb) (a1 : Int) : Option Cc :=
 (ob (XG a0.1 a1) fun r1 =>
 (cond (decide (r1.1 < 0))
 (some ((-1), ()))
 (some (r1.1, ()))))
def Yr (a0 : Zb) (a1 : Int) : Option Cc :=
 (ob (VG a0.1 a1) fun r1 =>
 (cond (decide (r1.1 < 0))
 (some ((-1), ()))
 (ob (Qu a0.2.1 r1.1) fun r2 =>
 (cond (decide (r2.1 < 0))
 (some ((-1), ()))
 (some (r2.1, ()))))))
def Xu (t1 : Int) (t3 : Be) (t4 : Int) (t5 : Unit) (t12 : Int) (t13 : Int) (t14 : Int) (b5 : Ad) : Option (((Int × (Be × (Int × ET))) × IG) ⊕ (XM ⊕ XM)) :=
 (cond (decide (t14 < ((ln t3 : Nat) : Int)))
 (ob (Xa t3 t14) fun x7 =>
 (ob (Rw x7) fun r8 =>
 (cond (!r8.1)
 (some (.inr (.inr ((0, 0, ()), ()))))
 (cond (decide (x7.1 ≥ t12))
 (some (.inr (.inr ((2, t12, ()), ()))))
 (cond (x7.2.1 == t1)
 (cond (!x7.2.2.1)
 (some (.inr (.inr ((1, x7.1, ()), ()))))
 (cond (x7.2.1 == t1)
 (some (.inl ((t1, t3, t4, (), t12, t13, (wr .i64 (t14 + 1)), ()), (b5, ()))))
 (cond x7.2.2.1
 (cond (b5.2.2.1 == 1)
 (some (.inr (.inr ((2, x7.1, ()), ()))))
 (cond x7.2.2.1
 (cond (decide (0 ≤ x7.2.1))
 (some (.inl ((t1, t3, t4, (), t12, (Pc .i64 t13 (Ra .i64 1 x7.2.1)), (wr .i64 (t14 + 1)), ()), (b5, ()))))
 none)
 (cond (b5.2.2.1 == 2)
 (cond (decide (0 ≤ x7.2.1))
 (cond ((Wa .i64 (Wb .i64 t13 x7.2.1) 1) == 1)
 (some (.inr (.inr ((2, x7.1, ()), ()))))
 (some (.inl ((t1, t3, t4, (), t12, t13, (wr .i64 (t14 + 1)), ()), (b5, ())))))
 none)
 (some (.inl ((t1, t3, t4, (), t12, t13, (wr .i64 (t14 + 1)), ()), (b5, ())))))))
 (cond x7.2.2.1
 (cond (decide (0 ≤ x7.2.1))
 (some (.inl ((t1, t3, t4, (), t12, (Pc .i64 t13 (Ra .i64 1 x7.2.1)), (wr .i64 (t14 + 1)), ()), (b5, ()))))
 none)
 (cond (b5.2.2.1 == 2)
 (cond (decide (0 ≤ x7.2.1))
 (cond ((Wa .i64 (Wb .i64 t13 x7.2.1) 1) == 1)
 (some (.inr (.inr ((2, x7.1, ()), ()))))
 (some (.inl ((t1, t3, t4, (), t12, t13, (wr .i64 (t14 + 1)), ()), (b5, ())))))
 none)
 (some (.inl ((t1, t3, t4, (), t12, t13, (wr .i64 (t14 + 1)), ()), (b5, ())))))))))
 (cond (x7.2.1 == t1)
 (some (.inl ((t1, t3, t4, (), t12, t13, (wr .i64 (t14 + 1)), ()), (b5, ()))))
 (cond x7.2.2.1
 (cond (b5.2.2.1 == 1)
 (some (.inr (.inr ((2, x7.1, ()), ()))))
 (cond x7.2.2.1
 (cond (decide (0 ≤ x7.2.1))
 (some (.inl ((t1, t3, t4, (), t12, (Pc .i64 t13 (Ra .i64 1 x7.2.1)), (wr .i64 (t14 + 1)), ()), (b5, ()))))
 none)
 (cond (b5.2.2.1 == 2)
 (cond (decide (0 ≤ x7.2.1))
 (cond ((Wa .i64 (Wb .i64 t13 x7.2.1) 1) == 1)
 (some (.inr (.inr ((2, x7.1, ()), ()))))
 (some (.inl ((t1, t3, t4, (), t12, t13, (wr .i64 (t14 + 1)), ()), (b5, ())))))
 none)
 (some (.inl ((t1, t3, t4, (), t12, t13, (wr .i64 (t14 + 1)), ()), (b5, ())))))))
 (cond x7.2.2.1
 (cond (decide (0 ≤ x7.2.1))
 (some (.inl ((t1, t3, t4, (), t12, (Pc .i64 t13 (Ra .i64 1 x7.2.1)), (wr .i64 (t14 + 1)), ()), (b5, ()))))
 none)
 (cond (b5.2.2.1 == 2)
 (cond (decide (0 ≤ x7.2.1))
 (cond ((Wa .i64 (Wb .i64 t13 x7.2.1) 1) == 1)
 (some (.inr (.inr ((2, x7.1, ()), ()))))
 (some (.inl ((t1, t3, t4, (), t12, t13, (wr .i64 (t14 + 1)), ()), (b5, ())))))
 none)
 (some (.inl ((t1, t3, t4, (), t12, t13, (wr .i64 (t14 + 1)), ()), (b5, ())))))))))))))
 (some (.inr (.inl ((t4, t12, ()), ())))))
def Az := Ta fun x : ((Int × (Be × (Int × ET))) × IG) => Xu x.1.1 x.1.2.1 x.1.2.2.1 x.1.2.2.2.1 x.1.2.2.2.2.1 x.1.2.2.2.2.2.1 x.1.2.2.2.2.2.2.1 x.2.1
def BL (a0 : Ad) (a1 : Int) (a2 : Int) (a3 : Be) (a4 : Int) : Option Va :=
 (ob (TA a0) fun r1 =>
 (cond (!r1.1)
 (some (0, 0, ()))
 (ob (Tb a2 0 1000000) fun r2 =>
 (cond (!r2.1)
 (some (0, 0, ()))
 (ob (Az ((a1, a3, a4, (), (wr .i64 (a2 + a0.1)), 0, 0, ()), (a0, ()))) (se (fun y9 => (cond (decide (y9.1.1 ≥ y9.1.2.1))
 (some (2, y9.1.2.1, ()))
 (some (0, 0, ())))) (fun z10 => (some z10.1))))))))
def Uw (a0 : Ib) (a1 : Ca) (a2 : Int) : Option (Ib × (Bl × Nx)) :=
 (ob (UA a0.1.2.2.1 a0.1.2.2.2.1) fun r1 =>
 (ob (MA a0.1.1 r1.1 a1.2.1) fun r2 =>
 (ob (Ol r2.1) fun r3 =>
 (cond r3.1
 (cond (Ld (ln a0.2.2.1) 1 ((ln a0.2.2.1 : Nat) : Int))
 (ob (BL a0.2.1 a1.2.1 a1.1 (Gb a0.2.2.1 (tn 1) (tn ((ln a0.2.2.1 : Nat) : Int))) a0.2.2.2.1) fun r4 =>
 (cond (a0.2.2.2.2.2.1 == (wr .i64 (a1.2.1 + 1)))
 (cond (decide ((wr .i64 (a1.1 - a0.2.2.2.2.2.2.1)) < a0.2.1.2.1))
 (cond ((1 : Int) == 0)
 (some (a0, ([], a2, false, ())))
 (cond (!((1 : Int) == 2))
 (ob (Yl a0.1 a1.2.1 ((1 : Int) == 2)) fun r5 =>
 (some ((r5.1, a0.2.1, a0.2.2.1, a0.2.2.2.1, a0.2.2.2.2.1, (wr .i64 (a1.2.1 + 1)), a1.1, a0.2.2.2.2.2.2.2), (r5.2.1, (max a2 a1.1), true, ()))))
 (ob (Yl a0.1 a1.2.1 ((1 : Int) == 2)) fun r6 =>
 (some ((r6.1, a0.2.1, a0.2.2.1, a0.2.2.2.1, a0.2.2.2.2.1, 0, a0.2.2.2.2.2.2), (r6.2.1, (max a2 a1.1), true, ()))))))
 (cond (r4.1 == 0)
 (some (a0, ([], a2, false, ())))
 (cond (!(r4.1 == 2))
 (ob (Yl a0.1 a1.2.1 (r4.1 == 2)) fun r7 =>
 (some ((r7.1, a0.2.1, a0.2.2.1, a0.2.2.2.1, a0.2.2.2.2.1, (wr .i64 (a1.2.1 + 1)), a1.1, a0.2.2.2.2.2.2.2), (r7.2.1, (max a2 r4.2.1), true, ()))))
 (ob (Yl a0.1 a1.2.1 (r4.1 == 2)) fun r8 =>
 (some ((r8.1, a0.2.1, a0.2.2.1, a0.2.2.2.1, a0.2.2.2.2.1, 0, a0.2.2.2.2.2.2), (r8.2.1, (max a2 r4.2.1), true, ())))))))
 (cond (r4.1 == 0)
 (some (a0, ([], a2, false, ())))
 (cond (!(r4.1 == 2))
 (ob (Yl a0.1 a1.2.1 (r4.1 == 2)) fun r9 =>
 (some ((r9.1, a0.2.1, a0.2.2.1, a0.2.2.2.1, a0.2.2.2.2.1, (wr .i64 (a1.2.1 + 1)), a1.1, a0.2.2.2.2.2.2.2), (r9.2.1, (max a2 r4.2.1), true, ()))))
 (ob (Yl a0.1 a1.2.1 (r4.1 == 2)) fun r10 =>
 (some ((r10.1, a0.2.1, a0.2.2.1, a0.2.2.2.1, a0.2.2.2.2.1, 0, a0.2.2.2.2.2.2), (r10.2.1, (max a2 r4.2.1), true, ()))))))))
 none)
 (ob (Yl a0.1 a1.2.1 false) fun r11 =>
 (some ((r11.1, a0.2), (r11.2.1, a2, true, ()))))))))
def Kz (t0 : Unit) (t3 : Bh) (t5 : Int) (t6 : (Bl × Int)) (t13 : Int) (b500000 : Ib) : Option (LaA ⊕ (((Unit × (Bh × Cc)) × DT) ⊕ Fe)) :=
 (cond (decide (t13 < ((ln t6.1 : Nat) : Int)))
 (cond (Af (ln t6.1) t13)
 (cond (Nat.beq (tn t13) (tn t6.2))
 (ob t6.1[(tn t13)]? fun x53 =>
 (cond (bl (ln t3 + ln ([(t5, x53, ())] : List Qe)) Qa)
 (some (.inl (((), (ap t3 ([(t5, x53, ())] : List Qe)), t5, (t6.1, ((((tn t13) + 1) : Nat) : Int)), (wr .i64 (t13 + 1)), ()), (b500000, ()))))
 none))
 none)
 none)
 (some (.inr (.inl (((), t3, t5, ()), (b500000, ()))))))
def Bj := Ta fun x : LaA => Kz x.1.1 x.1.2.1 x.1.2.2.1 x.1.2.2.2.1 x.1.2.2.2.2.1 x.2.1
def Yi (t0 : Unit) (t3 : Bh) (b500000 : Ib) : Option ((G4 × DT) ⊕ ((G4 × DT) ⊕ (G4 × DT))) :=
 (cond (decide (((ln b500000.2.2.1 : Nat) : Int) > 0))
 (cond (Af (ln b500000.2.2.1) 0)
 (ob b500000.2.2.1[(tn 0)]? fun x38 =>
 (cond x38.2.2.1
 (ob (Uw b500000 x38 (max b500000.2.2.2.2.1 x38.1)) fun r39 =>
 (cond (!r39.2.2.2.1)
 (some (.inr (.inr (((), t3, ()), (r39.1, ())))))
 (ob (Bj (((), t3, r39.2.2.1, (r39.2.1, 0), 0, ()), (r39.1, ()))) (se (fun y43 => (cond (Ld (ln y43.2.1.2.2.1) 1 ((ln y43.2.1.2.2.1 : Nat) : Int))
 (cond (bl (ln ([] : List Ca) + ln (Gb y43.2.1.2.2.1 (tn 1) (tn ((ln y43.2.1.2.2.1 : Nat) : Int)))) Qa)
 (some (.inl (((), y43.1.2.1, ()), ((y43.2.1.1, y43.2.1.2.1, (ap [] (Gb y43.2.1.2.2.1 (tn 1) (tn ((ln y43.2.1.2.2.1 : Nat) : Int)))), y43.2.1.2.2.2.1, y43.1.2.2.1, y43.2.1.2.2.2.2.2), ()))))
 none)
 none)) (fun z44 => none)))))
 (ob (TF b500000.1 x38.2.1) fun r45 =>
 (cond (b500000.2.2.2.2.2.1 == (wr .i64 (x38.2.1 + 1)))
 (ob (Bj (((), t3, (max b500000.2.2.2.2.1 x38.1), (r45.2.1, 0), 0, ()), ((r45.1, b500000.2.1, b500000.2.2.1, b500000.2.2.2.1, b500000.2.2.2.2.1, b500000.2.2.2.2.2.1, x38.1, b500000.2.2.2.2.2.2.2), ()))) (se (fun y49 => (cond (Ld (ln y49.2.1.2.2.1) 1 ((ln y49.2.1.2.2.1 : Nat) : Int))
 (cond (bl (ln ([] : List Ca) + ln (Gb y49.2.1.2.2.1 (tn 1) (tn ((ln y49.2.1.2.2.1 : Nat) : Int)))) Qa)
 (some (.inl (((), y49.1.2.1, ()), ((y49.2.1.1, y49.2.1.2.1, (ap [] (Gb y49.2.1.2.2.1 (tn 1) (tn ((ln y49.2.1.2.2.1 : Nat) : Int)))), y49.2.1.2.2.2.1, y49.1.2.2.1, y49.2.1.2.2.2.2.2), ()))))
 none)
 none)) (fun z50 => none)))
 (ob (Bj (((), t3, (max b500000.2.2.2.2.1 x38.1), (r45.2.1, 0), 0, ()), ((r45.1, b500000.2), ()))) (se (fun y54 => (cond (Ld (ln y54.2.1.2.2.1) 1 ((ln y54.2.1.2.2.1 : Nat) : Int))
 (cond (bl (ln ([] : List Ca) + ln (Gb y54.2.1.2.2.1 (tn 1) (tn ((ln y54.2.1.2.2.1 : Nat) : Int)))) Qa)
 (some (.inl (((), y54.1.2.1, ()), ((y54.2.1.1, y54.2.1.2.1, (ap [] (Gb y54.2.1.2.2.1 (tn 1) (tn ((ln y54.2.1.2.2.1 : Nat) : Int)))), y54.2.1.2.2.2.1, y54.1.2.2.1, y54.2.1.2.2.2.2.2), ()))))
 none)
 none)) (fun z55 => none)))))))
 none)
 (some (.inr (.inl (((), t3, ()), (b500000, ()))))))
def Ak := Ta fun x : (G4 × DT) => Yi x.1.1 x.1.2.1 x.2.1
def DB (a0 : Ib) : Option (Ib × (Bh × Unit)) :=
 (ob (Ak (((), [], ()), (a0, ()))) (se (fun y56 => (some (y56.2.1, (y56.1.2.1, ())))) (fun z57 => (some (z57.2.1, (z57.1.2.1, ()))))))
def LD (a0 : Ib) (a1 : Be) (a2 : Int) : Option (Ib × XQ) :=
 (cond (bl (ln ([] : List Ca) + ln a0.2.2.1) Qa)
 (cond (bl (ln (ap [] a0.2.2.1) + ln a1) Qa)
 (ob (Qw a0) fun r1 =>
 (cond (!r1.1)
 (some (Nh, [], false, ()))
 (ob (Tb a2 a0.2.2.2.1 1000000) fun r2 =>
 (cond (!r2.1)
 (some (Nh, [], false, ()))
 (ob (Vw a0.1) fun r3 =>
 (ob (Ok (ap (ap [] a0.2.2.1) a1) r3.1 a0.1.1.1 0) fun r4 =>
 (cond (!r4.1)
 (some (Nh, [], false, ()))
 (cond (decide (((ln a1 : Nat) : Int) > 0))
 (ob (Xa a1 0) fun x5 =>
 (cond (decide (x5.1 < a0.2.2.2.1))
 (some (Nh, [], false, ()))
 (ob (Xa a1 (wr .i64 (((ln a1 : Nat) : Int) - 1))) fun x6 =>
 (cond (decide (x6.1 > a2))
 (some (Nh, [], false, ()))
 (ob (Qo a0.1) fun r7 =>
 (ob (DB (r7.1, a0.2.1, (ap (ap [] a0.2.2.1) a1), a2, a0.2.2.2.2)) fun r8 =>
 (some (r8.1, r8.2.1, true, ()))))))))
 (ob (Qo a0.1) fun r9 =>
 (ob (DB (r9.1, a0.2.1, (ap (ap [] a0.2.2.1) a1), a2, a0.2.2.2.2)) fun r10 =>
 (some (r10.1, r10.2.1, true, ()))))))))))))
 none)
 none)
def Cu (t3 : Int) (t6 : Lc) (t7 : Int) (t8 : Int) (t16 : Int) : Option (((Int × Sb) × Unit) ⊕ (((Int × M1) × Unit) ⊕ Fe)) :=
 (cond (decide (t16 < 8))
 (cond (decide ((wr .i64 (t3 * 2)) > 255))
 (some (.inl (((Za .i64 (wr .i64 (t3 * 2)) 263), t6, t7, t8, (wr .i64 (t16 + 1)), ()), ())))
 (some (.inl (((wr .i64 (t3 * 2)), t6, t7, t8, (wr .i64 (t16 + 1)), ()), ()))))
 (some (.inr (.inl ((t3, t6, t7, t8, ()), ())))))
def Nn := Ta fun x : ((Int × Sb) × Unit) => Cu x.1.1 x.1.2.1 x.1.2.2.1 x.1.2.2.2.1 x.1.2.2.2.2.1
def Bu (t3 : Int) (t6 : Lc) (t7 : Int) (t8 : Int) : Option (((Int × M1) × Unit) ⊕ Lx) :=
 (cond (decide (t8 < t7))
 (ob (Xa t6 t8) fun x7 =>
 (ob (Nn (((Za .i64 t3 (wr .i64 x7)), t6, t7, t8, 0, ()), ())) (se (fun y8 => (some (.inl ((y8.1.1, y8.1.2.1, y8.1.2.2.1, (wr .i64 (y8.1.2.2.2.1 + 1)), ()), ())))) (fun z9 => (some (.inr (.inr ((), ()))))))))
 (some (.inr (.inl ((t3, ()), ())))))
def Xx := Ta fun x : ((Int × M1) × Unit) => Bu x.1.1 x.1.2.1 x.1.2.2.1 x.1.2.2.2.1
def ZJ (a0 : Lc) : Option Cc :=
 (ob (Xx ((0, a0, ((ln a0 : Nat) : Int), 0, ()), ())) (se (fun y10 => (some (y10.1.1, ()))) (fun z11 => none)))
def Xv (a0 : Int) (a1 : Int) : Option Gr :=
 (cond (decide (a0 < 0))
 (some ([], ()))
 (cond (decide (a0 > 255))
 (some ([], ()))
 (cond (decide (a1 < 0))
 (some ([], ()))
 (cond (decide (a1 > 16777215))
 (some ([], ()))
 (cond (decide ((0 : Int) ≤ 8))
 (cond (decide ((0 : Int) ≤ 16))
 (ob (ZJ ([85, (wr .u8 a0), (wr .u8 a1), (wr .u8 (Wb .i64 a1 8)), (wr .u8 (Wb .i64 a1 16))] : List Int)) fun r1 =>
 (cond (bl (ln ([85, (wr .u8 a0), (wr .u8 a1), (wr .u8 (Wb .i64 a1 8)), (wr .u8 (Wb .i64 a1 16))] : List Int) + ln ([(wr .u8 r1.1)] : List Int)) Qa)
 (some ((ap ([85, (wr .u8 a0), (wr .u8 a1), (wr .u8 (Wb .i64 a1 8)), (wr .u8 (Wb .i64 a1 16))] : List Int) ([(wr .u8 r1.1)] : List Int)), ()))
 none))
 none)
 none)))))
def Ci (t1 : Lc) (t5 : Lc) (t15 : Lc) (t16 : Int) (t17 : Int) : Option (((Lc × V9) × Unit) ⊕ Y9) :=
 (cond (decide (t17 < t16))
 (ob (Xa t15 t17) fun x7 =>
 (ob (Xa t1 t17) fun x8 =>
 (cond (bl (ln t5 + ln ([(Za .u8 x7 x8)] : List Int)) Qa)
 (some (.inl ((t1, (ap t5 ([(Za .u8 x7 x8)] : List Int)), t15, t16, (wr .i64 (t17 + 1)), ()), ())))
 none)))
 (some (.inr (.inl ((t5, ()), ())))))
def LB := Ta fun x : ((Lc × V9) × Unit) => Ci x.1.1 x.1.2.1 x.1.2.2.1 x.1.2.2.2.1 x.1.2.2.2.2.1
def ON (a0 : Lc) (a1 : Lc) : Option Gr :=
 (cond (((ln a1 : Nat) : Int) == 0)
 (some (a0, ()))
 (cond (((ln a1 : Nat) : Int) == 6)
 (ob (LB ((a1, [], a0, ((ln a0 : Nat) : Int), 0, ()), ())) (se (fun y9 => (some (y9.1.1, ()))) (fun z10 => none)))
 (some ([], ()))))
def MG (a0 : Lc) : Option Ca :=
 (cond (((ln a0 : Nat) : Int) != 6)
 (some (0, 0, false, ()))
 (ob (Xa a0 1) fun x1 =>
 (ob (Xa a0 2) fun x2 =>
 (ob (Xa a0 3) fun x3 =>
 (cond (decide ((0 : Int) ≤ 8))
 (ob (Xa a0 4) fun x4 =>
 (cond (decide ((0 : Int) ≤ 16))
 (ob (Xv (wr .i64 x1) (Pc .i64 (Pc .i64 (wr .i64 x2) (Ra .i64 (wr .i64 x3) 8)) (Ra .i64 (wr .i64 x4) 16))) fun r5 =>
 (cond ((Wm r5.1) != (Wm a0))
 (some (0, 0, false, ()))
 (some ((wr .i64 x1), (Pc .i64 (Pc .i64 (wr .i64 x2) (Ra .i64 (wr .i64 x3) 8)) (Ra .i64 (wr .i64 x4) 16)), true, ()))))
 none))
 none)))))
def Dy (a0 : Sb) (a1 : Int) : Option (Sb × Cc) :=
 (ob (Kk a0) fun r1 =>
 (cond (!r1.1)
 (some (([], 0, 0, 0, ()), 0, ()))
 (cond (bl (ln ([] : List Int) + ln a0.1) Qa)
 (cond (bl (ln (ap [] a0.1) + ln ([a1] : List Int)) Qa)
 (cond (decide (((ln (ap (ap [] a0.1) ([a1] : List Int)) : Nat) : Int) < 6))
 (some (((ap (ap [] a0.1) ([a1] : List Int)), a0.2), 1, ()))
 (ob (MG (ap (ap [] a0.1) ([a1] : List Int))) fun r2 =>
 (cond (!r2.2.2.1)
 (cond (Ld (ln (ap (ap [] a0.1) ([a1] : List Int))) 1 ((ln (ap (ap [] a0.1) ([a1] : List Int)) : Nat) : Int))
 (some (((Gb (ap (ap [] a0.1) ([a1] : List Int)) (tn 1) (tn ((ln (ap (ap [] a0.1) ([a1] : List Int)) : Nat) : Int))), a0.2), 1, ()))
 none)
 (cond (r2.1 == a0.2.1)
 (some (([], a0.2.1, a0.2.2.1, 0, a0.2.2.2.2), 3, ()))
 (some (([], r2.1, r2.2.1, 0, a0.2.2.2.2), 2, ()))))))
 none)
 none)))
def Rp (t2 : Unit) (t4 : Unit) (t6 : Lc) (t19 : Lc) (t20 : Int) (t21 : Int) (b2 : Sb) (b4 : Sb) : Option (((Unit × (Unit × V9)) × K4) ⊕ (((Unit × (Unit × Gr)) × K4) ⊕ Fe)) :=
 (cond (decide (t21 < t20))
 (ob (Xa t19 t21) fun x8 =>
 (ob (Dy b2 x8) fun r9 =>
 (cond (r9.2.1 == 2)
 (cond (bl (ln t6 + ln ([r9.1.2.2.1] : List Int)) Qa)
 (some (.inl (((), (), (ap t6 ([r9.1.2.2.1] : List Int)), t19, t20, (wr .i64 (t21 + 1)), ()), (r9.1, b4, ()))))
 none)
 (some (.inl (((), (), t6, t19, t20, (wr .i64 (t21 + 1)), ()), (r9.1, b4, ())))))))
 (some (.inr (.inl (((), (), t6, ()), (b2, b4, ()))))))
def Ht := Ta fun x : ((Unit × (Unit × V9)) × K4) => Rp x.1.1 x.1.2.1 x.1.2.2.1 x.1.2.2.2.1 x.1.2.2.2.2.1 x.1.2.2.2.2.2.1 x.2.1 x.2.2.1
def GC (a0 : Sb) (a1 : Lc) : Option (Sb × Gr) :=
 (ob (Kk a0) fun r1 =>
 (cond (!r1.1)
 (some (([], 0, 0, 0, ()), [], ()))
 (cond (bl (ln ([] : List Int) + ln a0.1) Qa)
 (ob (Ht (((), (), [], a1, ((ln a1 : Nat) : Int), 0, ()), (((ap [] a0.1), a0.2), ([], 0, 0, 0, ()), ()))) (se (fun y10 => (some (y10.2.1, y10.1.2.2.1, ()))) (fun z11 => none)))
 none)))
def HC (a0 : Sb) : Option OY :=
 (ob (Kk a0) fun r1 =>
 (cond (!r1.1)
 (some (([], 0, 0, 0, ()), ()))
 (cond (bl (ln ([] : List Int) + ln a0.1) Qa)
 (cond ((min (wr .i64 (a0.2.2.2.1 + 1)) 20) == 20)
 (some (((ap [] a0.1), (-1), 0, (min (wr .i64 (a0.2.2.2.1 + 1)) 20), a0.2.2.2.2), ()))
 (some (((ap [] a0.1), a0.2.1, a0.2.2.1, (min (wr .i64 (a0.2.2.2.1 + 1)) 20), a0.2.2.2.2), ())))
 none)))
def Jk (a0 : Zb) (a1 : Int) (a2 : Int) (a3 : Lc) : Option (Zb × XQ) :=
 (ob (CA a0) fun r1 =>
 (cond (!r1.1)
 (some (Mf, [], false, ()))
 (ob (AA a0) fun r2 =>
 (cond (decide (a1 < 0))
 (some (Mf, [], false, ()))
 (cond (decide (0 ≤ r2.1))
 (cond (decide (a1 ≥ (Ra .i64 1 r2.1)))
 (some (Mf, [], false, ()))
 (cond (decide (a2 < 0))
 (some (Mf, [], false, ()))
 (cond (decide (0 ≤ r2.1))
 (cond (decide (a2 ≥ (Ra .i64 1 r2.1)))
 (some (Mf, [], false, ()))
 (ob (Xv a0.2.2.1 a2) fun r3 =>
 (ob (ON r3.1 a3) fun r4 =>
 (ob (GC a0.2.1 r4.1) fun r5 =>
 (cond (((ln r5.2.1 : Nat) : Int) == 0)
 (ob (HC r5.1) fun r6 =>
 (cond (decide (0 ≤ r2.1))
 (cond (decide (0 ≤ r2.1))
 (ob (Jl a0.1 (Pc .i64 a1 (Ra .i64 (Wa .i64 r6.1.2.2.1 (wr .i64 ((Ra .i64 1 r2.1) - 1))) r2.1))) fun r7 =>
 (cond (!r7.2.2.1)
 (some (Mf, [], false, ()))
 (cond ((256 : Int) == 0)
 none
 (some ((r7.1, r6.1, (Int.tmod (wr .i64 (a0.2.2.1 + 1)) 256), ()), r7.2.1, true, ())))))
 none)
 none))
 (cond (decide (0 ≤ r2.1))
 (cond (decide (0 ≤ r2.1))
 (ob (Jl a0.1 (Pc .i64 a1 (Ra .i64 (Wa .i64 r5.1.2.2.1 (wr .i64 ((Ra .i64 1 r2.1) - 1))) r2.1))) fun r8 =>
 (cond (!r8.2.2.1)
 (some (Mf, [], false, ()))
 (cond ((256 : Int) == 0)
 none
 (some ((r8.1, r5.1, (Int.tmod (wr .i64 (a0.2.2.1 + 1)) 256), ()), r8.2.1, true, ())))))
 none)
 none))))))
 none)))
 none)))))
def Lr (t1 : Lc) (t2 : Lc) (t3 : Yh) (t8 : Unit) (t11 : Unit) (t12 : Bh) (t49 : Int) (t50 : Int) (b8 : Zb) (b11 : Zb) : Option (KaA ⊕ (((Unit × G4) × W9) ⊕ ((Unit × XQ) × (Zb × Unit)))) :=
 (cond (decide (t50 < t49))
 (cond (decide (t50 < ((ln t3 : Nat) : Int)))
 (ob (Xa t3 t50) fun x24 =>
 (ob (Xa t1 t50) fun x25 =>
 (ob (Xa t2 t50) fun x26 =>
 (ob (Jk b11 x25 x26 x24) fun r27 =>
 (cond (!r27.2.2.1)
 (some (.inr (.inr (((), [], false, ()), (Mf, ())))))
 (cond (bl (ln t12 + ln r27.2.1) Qa)
 (some (.inl ((t1, t2, t3, (), (), (ap t12 r27.2.1), t49, (wr .i64 (t50 + 1)), ()), (b8, r27.1, ()))))
 none))))))
 (ob (Xa t1 t50) fun x28 =>
 (ob (Xa t2 t50) fun x29 =>
 (ob (Jk b11 x28 x29 []) fun r30 =>
 (cond (!r30.2.2.1)
 (some (.inr (.inr (((), [], false, ()), (Mf, ())))))
 (cond (bl (ln t12 + ln r30.2.1) Qa)
 (some (.inl ((t1, t2, t3, (), (), (ap t12 r30.2.1), t49, (wr .i64 (t50 + 1)), ()), (b8, r30.1, ()))))
 none))))))
 (some (.inr (.inl (((), (), t12, ()), (b8, b11, ()))))))
def Sv := Ta fun x : KaA => Lr x.1.1 x.1.2.1 x.1.2.2.1 x.1.2.2.2.1 x.1.2.2.2.2.1 x.1.2.2.2.2.2.1 x.1.2.2.2.2.2.2.1 x.1.2.2.2.2.2.2.2.1 x.2.1 x.2.2.1
def So (a0 : Zb) (a1 : Lc) (a2 : Lc) (a3 : Yh) : Option (Zb × XQ) :=
 (ob (CA a0) fun r1 =>
 (cond (!r1.1)
 (some (Mf, [], false, ()))
 (cond (((ln a1 : Nat) : Int) != ((ln a2 : Nat) : Int))
 (some (Mf, [], false, ()))
 (cond (decide (((ln a1 : Nat) : Int) > 200))
 (some (Mf, [], false, ()))
 (ob (NG a0.1) fun r2 =>
 (cond (bl (ln ([] : List Int) + ln a0.2.1.1) Qa)
 (ob (Sv ((a1, a2, a3, (), (), [], ((ln a1 : Nat) : Int), 0, ()), (Mf, (r2.1, ((ap [] a0.2.1.1), a0.2.1.2), a0.2.2.1, ()), ()))) (se (fun y31 => (some (y31.2.2.1, y31.1.2.2.1, true, ()))) (fun z32 => (some (z32.2.1, z32.1.2.1, z32.1.2.2.1, ())))))
 none))))))
def As (t0 : Bh) (t1 : Int) (t5 : Int) : Option ((X9 × Unit) ⊕ Mx) :=
 (cond (decide (t5 < ((ln t0 : Nat) : Int)))
 (ob (Xa t0 t5) fun x9 =>
 (cond (x9.1 != t1)
 (some (.inr (.inr (((-1), ()), ()))))
 (ob (Xa t0 t5) fun x10 =>
 (cond (x10.2.1.1 != (wr .i64 (t1 + 1)))
 (some (.inr (.inr (((-1), ()), ()))))
 (ob (Xa t0 t5) fun x11 =>
 (ob (MK x11.2.1.2.1 (wr .i64 ((wr .i64 (t1 + 1)) + 1))) fun r12 =>
 (cond (decide (r12.1 < 0))
 (some (.inr (.inr (((-1), ()), ()))))
 (some (.inl ((t0, r12.1, (wr .i64 (t5 + 1)), ()), ()))))))))))
 (some (.inr (.inl ((t1, ()), ())))))
def HM := Ta fun x : (X9 × Unit) => As x.1.1 x.1.2.1 x.1.2.2.1
def YG (a0 : Bh) (a1 : Int) : Option Cc :=
 (ob (HM ((a0, a1, 0, ()), ())) (se (fun y13 => (some (y13.1.1, ()))) (fun z14 => (some (z14.1.1, ())))))
def Zj (t1 : Int) (t2 : Unit) (t4 : Unit) (t6 : Unit) (t7 : Int) (b2 : Qb) (b4 : Qb) (b6 : Qb) : Option (((Int × J4) × Mah) ⊕ (((Int × OV) × (Qb × CT)) ⊕ Fe)) :=
 (cond (decide (t7 < b2.2.2.1))
 (ob (Xa b2.2.2.2.2.2.1 t7) fun x5 =>
 (cond (b2.1 == 0)
 (cond (decide (0 ≤ t7))
 (cond ((Wa .i64 (Wb .i64 (Za .i64 t1 b2.2.2.2.2.1) t7) 1) == 1)
 (cond (decide (1 ≥ b2.2.1))
 (cond (decide (0 ≤ t7))
 (cond ((Wa .i64 (Wb .i64 (Za .i64 t1 b2.2.2.2.1) t7) 1) == 1)
 (cond (decide (0 ≤ t7))
 (cond (b2.1 == 2)
 (cond (bl (ln b6.2.2.2.2.2.1 + ln ([0] : List Int)) Qa)
 (some (.inl ((t1, (), (), (), (wr .i64 (t7 + 1)), ()), (b2, b4, (b6.1, b6.2.1, b6.2.2.1, (Za .i64 b6.2.2.2.1 (Ra .i64 1 t7)), b6.2.2.2.2.1, (ap b6.2.2.2.2.2.1 ([0] : List Int)), b6.2.2.2.2.2.2), ()))))
 none)
 (cond (bl (ln b6.2.2.2.2.2.1 + ln ([1] : List Int)) Qa)
 (some (.inl ((t1, (), (), (), (wr .i64 (t7 + 1)), ()), (b2, b4, (b6.1, b6.2.1, b6.2.2.1, (Za .i64 b6.2.2.2.1 (Ra .i64 1 t7)), b6.2.2.2.2.1, (ap b6.2.2.2.2.2.1 ([1] : List Int)), b6.2.2.2.2.2.2), ()))))
 none))
 none)
 (cond (bl (ln b6.2.2.2.2.2.1 + ln ([1] : List Int)) Qa)
 (some (.inl ((t1, (), (), (), (wr .i64 (t7 + 1)), ()), (b2, b4, (b6.1, b6.2.1, b6.2.2.1, b6.2.2.2.1, b6.2.2.2.2.1, (ap b6.2.2.2.2.2.1 ([1] : List Int)), b6.2.2.2.2.2.2), ()))))
 none))
 none)
 (cond (bl (ln b6.2.2.2.2.2.1 + ln ([1] : List Int)) Qa)
 (some (.inl ((t1, (), (), (), (wr .i64 (t7 + 1)), ()), (b2, b4, (b6.1, b6.2.1, b6.2.2.1, b6.2.2.2.1, b6.2.2.2.2.1, (ap b6.2.2.2.2.2.1 ([1] : List Int)), b6.2.2.2.2.2.2), ()))))
 none))
 (cond (b2.1 == 1)
 (cond (t1 != b2.2.2.2.2.1)
 (cond (decide (1 ≥ b2.2.1))
 (cond (decide (0 ≤ t7))
 (cond ((Wa .i64 (Wb .i64 (Za .i64 t1 b2.2.2.2.1) t7) 1) == 1)
 (cond (decide (0 ≤ t7))
 (cond (b2.1 == 2)
 (cond (bl (ln b6.2.2.2.2.2.1 + ln ([0] : List Int)) Qa)
 (some (.inl ((t1, (), (), (), (wr .i64 (t7 + 1)), ()), (b2, b4, (b6.1, b6.2.1, b6.2.2.1, (Za .i64 b6.2.2.2.1 (Ra .i64 1 t7)), b6.2.2.2.2.1, (ap b6.2.2.2.2.2.1 ([0] : List Int)), b6.2.2.2.2.2.2), ()))))
 none)
 (cond (bl (ln b6.2.2.2.2.2.1 + ln ([1] : List Int)) Qa)
 (some (.inl ((t1, (), (), (), (wr .i64 (t7 + 1)), ()), (b2, b4, (b6.1, b6.2.1, b6.2.2.1, (Za .i64 b6.2.2.2.1 (Ra .i64 1 t7)), b6.2.2.2.2.1, (ap b6.2.2.2.2.2.1 ([1] : List Int)), b6.2.2.2.2.2.2), ()))))
 none))
 none)
 (cond (bl (ln b6.2.2.2.2.2.1 + ln ([1] : List Int)) Qa)
 (some (.inl ((t1, (), (), (), (wr .i64 (t7 + 1)), ()), (b2, b4, (b6.1, b6.2.1, b6.2.2.1, b6.2.2.2.1, b6.2.2.2.2.1, (ap b6.2.2.2.2.2.1 ([1] : List Int)), b6.2.2.2.2.2.2), ()))))
 none))
 none)
 (cond (bl (ln b6.2.2.2.2.2.1 + ln ([1] : List Int)) Qa)
 (some (.inl ((t1, (), (), (), (wr .i64 (t7 + 1)), ()), (b2, b4, (b6.1, b6.2.1, b6.2.2.1, b6.2.2.2.1, b6.2.2.2.2.1, (ap b6.2.2.2.2.2.1 ([1] : List Int)), b6.2.2.2.2.2.2), ()))))
 none))
 (cond (decide ((min 99 (wr .i64 (x5 + 1))) ≥ b2.2.1))
 (cond (decide (0 ≤ t7))
 (cond ((Wa .i64 (Wb .i64 (Za .i64 t1 b2.2.2.2.1) t7) 1) == 1)
 (cond (decide (0 ≤ t7))
 (cond (b2.1 == 2)
 (cond (bl (ln b6.2.2.2.2.2.1 + ln ([0] : List Int)) Qa)
 (some (.inl ((t1, (), (), (), (wr .i64 (t7 + 1)), ()), (b2, b4, (b6.1, b6.2.1, b6.2.2.1, (Za .i64 b6.2.2.2.1 (Ra .i64 1 t7)), b6.2.2.2.2.1, (ap b6.2.2.2.2.2.1 ([0] : List Int)), b6.2.2.2.2.2.2), ()))))
 none)
 (cond (bl (ln b6.2.2.2.2.2.1 + ln ([(min 99 (wr .i64 (x5 + 1)))] : List Int)) Qa)
 (some (.inl ((t1, (), (), (), (wr .i64 (t7 + 1)), ()), (b2, b4, (b6.1, b6.2.1, b6.2.2.1, (Za .i64 b6.2.2.2.1 (Ra .i64 1 t7)), b6.2.2.2.2.1, (ap b6.2.2.2.2.2.1 ([(min 99 (wr .i64 (x5 + 1)))] : List Int)), b6.2.2.2.2.2.2), ()))))
 none))
 none)
 (cond (bl (ln b6.2.2.2.2.2.1 + ln ([(min 99 (wr .i64 (x5 + 1)))] : List Int)) Qa)
 (some (.inl ((t1, (), (), (), (wr .i64 (t7 + 1)), ()), (b2, b4, (b6.1, b6.2.1, b6.2.2.1, b6.2.2.2.1, b6.2.2.2.2.1, (ap b6.2.2.2.2.2.1 ([(min 99 (wr .i64 (x5 + 1)))] : List Int)), b6.2.2.2.2.2.2), ()))))
 none))
 none)
 (cond (bl (ln b6.2.2.2.2.2.1 + ln ([(min 99 (wr .i64 (x5 + 1)))] : List Int)) Qa)
 (some (.inl ((t1, (), (), (), (wr .i64 (t7 + 1)), ()), (b2, b4, (b6.1, b6.2.1, b6.2.2.1, b6.2.2.2.1, b6.2.2.2.2.1, (ap b6.2.2.2.2.2.1 ([(min 99 (wr .i64 (x5 + 1)))] : List Int)), b6.2.2.2.2.2.2), ()))))
 none)))
 (cond (decide ((min 99 (wr .i64 (x5 + 1))) ≥ b2.2.1))
 (cond (decide (0 ≤ t7))
 (cond ((Wa .i64 (Wb .i64 (Za .i64 t1 b2.2.2.2.1) t7) 1) == 1)
 (cond (decide (0 ≤ t7))
 (cond (b2.1 == 2)
 (cond (bl (ln b6.2.2.2.2.2.1 + ln ([0] : List Int)) Qa)
 (some (.inl ((t1, (), (), (), (wr .i64 (t7 + 1)), ()), (b2, b4, (b6.1, b6.2.1, b6.2.2.1, (Za .i64 b6.2.2.2.1 (Ra .i64 1 t7)), b6.2.2.2.2.1, (ap b6.2.2.2.2.2.1 ([0] : List Int)), b6.2.2.2.2.2.2), ()))))
 none)
 (cond (bl (ln b6.2.2.2.2.2.1 + ln ([(min 99 (wr .i64 (x5 + 1)))] : List Int)) Qa)
 (some (.inl ((t1, (), (), (), (wr .i64 (t7 + 1)), ()), (b2, b4, (b6.1, b6.2.1, b6.2.2.1, (Za .i64 b6.2.2.2.1 (Ra .i64 1 t7)), b6.2.2.2.2.1, (ap b6.2.2.2.2.2.1 ([(min 99 (wr .i64 (x5 + 1)))] : List Int)), b6.2.2.2.2.2.2), ()))))
 none))
 none)
 (cond (bl (ln b6.2.2.2.2.2.1 + ln ([(min 99 (wr .i64 (x5 + 1)))] : List Int)) Qa)
 (some (.inl ((t1, (), (), (), (wr .i64 (t7 + 1)), ()), (b2, b4, (b6.1, b6.2.1, b6.2.2.1, b6.2.2.2.1, b6.2.2.2.2.1, (ap b6.2.2.2.2.2.1 ([(min 99 (wr .i64 (x5 + 1)))] : List Int)), b6.2.2.2.2.2.2), ()))))
 none))
 none)
 (cond (bl (ln b6.2.2.2.2.2.1 + ln ([(min 99 (wr .i64 (x5 + 1)))] : List Int)) Qa)
 (some (.inl ((t1, (), (), (), (wr .i64 (t7 + 1)), ()), (b2, b4, (b6.1, b6.2.1, b6.2.2.1, b6.2.2.2.1, b6.2.2.2.2.1, (ap b6.2.2.2.2.2.1 ([(min 99 (wr .i64 (x5 + 1)))] : List Int)), b6.2.2.2.2.2.2), ()))))
 none))))
 none)
 (cond (b2.1 == 1)
 (cond (t1 != b2.2.2.2.2.1)
 (cond (decide (1 ≥ b2.2.1))
 (cond (decide (0 ≤ t7))
 (cond ((Wa .i64 (Wb .i64 (Za .i64 t1 b2.2.2.2.1) t7) 1) == 1)
 (cond (decide (0 ≤ t7))
 (cond (b2.1 == 2)
 (cond (bl (ln b6.2.2.2.2.2.1 + ln ([0] : List Int)) Qa)
 (some (.inl ((t1, (), (), (), (wr .i64 (t7 + 1)), ()), (b2, b4, (b6.1, b6.2.1, b6.2.2.1, (Za .i64 b6.2.2.2.1 (Ra .i64 1 t7)), b6.2.2.2.2.1, (ap b6.2.2.2.2.2.1 ([0] : List Int)), b6.2.2.2.2.2.2), ()))))
 none)
 (cond (bl (ln b6.2.2.2.2.2.1 + ln ([1] : List Int)) Qa)
 (some (.inl ((t1, (), (), (), (wr .i64 (t7 + 1)), ()), (b2, b4, (b6.1, b6.2.1, b6.2.2.1, (Za .i64 b6.2.2.2.1 (Ra .i64 1 t7)), b6.2.2.2.2.1, (ap b6.2.2.2.2.2.1 ([1] : List Int)), b6.2.2.2.2.2.2), ()))))
 none))
 none)
 (cond (bl (ln b6.2.2.2.2.2.1 + ln ([1] : List Int)) Qa)
 (some (.inl ((t1, (), (), (), (wr .i64 (t7 + 1)), ()), (b2, b4, (b6.1, b6.2.1, b6.2.2.1, b6.2.2.2.1, b6.2.2.2.2.1, (ap b6.2.2.2.2.2.1 ([1] : List Int)), b6.2.2.2.2.2.2), ()))))
 none))
 none)
 (cond (bl (ln b6.2.2.2.2.2.1 + ln ([1] : List Int)) Qa)
 (some (.inl ((t1, (), (), (), (wr .i64 (t7 + 1)), ()), (b2, b4, (b6.1, b6.2.1, b6.2.2.1, b6.2.2.2.1, b6.2.2.2.2.1, (ap b6.2.2.2.2.2.1 ([1] : List Int)), b6.2.2.2.2.2.2), ()))))
 none))
 (cond (decide ((min 99 (wr .i64 (x5 + 1))) ≥ b2.2.1))
 (cond (decide (0 ≤ t7))
 (cond ((Wa .i64 (Wb .i64 (Za .i64 t1 b2.2.2.2.1) t7) 1) == 1)
 (cond (decide (0 ≤ t7))
 (cond (b2.1 == 2)
 (cond (bl (ln b6.2.2.2.2.2.1 + ln ([0] : List Int)) Qa)
 (some (.inl ((t1, (), (), (), (wr .i64 (t7 + 1)), ()), (b2, b4, (b6.1, b6.2.1, b6.2.2.1, (Za .i64 b6.2.2.2.1 (Ra .i64 1 t7)), b6.2.2.2.2.1, (ap b6.2.2.2.2.2.1 ([0] : List Int)), b6.2.2.2.2.2.2), ()))))
 none)
 (cond (bl (ln b6.2.2.2.2.2.1 + ln ([(min 99 (wr .i64 (x5 + 1)))] : List Int)) Qa)
 (some (.inl ((t1, (), (), (), (wr .i64 (t7 + 1)), ()), (b2, b4, (b6.1, b6.2.1, b6.2.2.1, (Za .i64 b6.2.2.2.1 (Ra .i64 1 t7)), b6.2.2.2.2.1, (ap b6.2.2.2.2.2.1 ([(min 99 (wr .i64 (x5 + 1)))] : List Int)), b6.2.2.2.2.2.2), ()))))
 none))
 none)
 (cond (bl (ln b6.2.2.2.2.2.1 + ln ([(min 99 (wr .i64 (x5 + 1)))] : List Int)) Qa)
 (some (.inl ((t1, (), (), (), (wr .i64 (t7 + 1)), ()), (b2, b4, (b6.1, b6.2.1, b6.2.2.1, b6.2.2.2.1, b6.2.2.2.2.1, (ap b6.2.2.2.2.2.1 ([(min 99 (wr .i64 (x5 + 1)))] : List Int)), b6.2.2.2.2.2.2), ()))))
 none))
 none)
 (cond (bl (ln b6.2.2.2.2.2.1 + ln ([(min 99 (wr .i64 (x5 + 1)))] : List Int)) Qa)
 (some (.inl ((t1, (), (), (), (wr .i64 (t7 + 1)), ()), (b2, b4, (b6.1, b6.2.1, b6.2.2.1, b6.2.2.2.1, b6.2.2.2.2.1, (ap b6.2.2.2.2.2.1 ([(min 99 (wr .i64 (x5 + 1)))] : List Int)), b6.2.2.2.2.2.2), ()))))
 none)))
 (cond (decide ((min 99 (wr .i64 (x5 + 1))) ≥ b2.2.1))
 (cond (decide (0 ≤ t7))
 (cond ((Wa .i64 (Wb .i64 (Za .i64 t1 b2.2.2.2.1) t7) 1) == 1)
 (cond (decide (0 ≤ t7))
 (cond (b2.1 == 2)
 (cond (bl (ln b6.2.2.2.2.2.1 + ln ([0] : List Int)) Qa)
 (some (.inl ((t1, (), (), (), (wr .i64 (t7 + 1)), ()), (b2, b4, (b6.1, b6.2.1, b6.2.2.1, (Za .i64 b6.2.2.2.1 (Ra .i64 1 t7)), b6.2.2.2.2.1, (ap b6.2.2.2.2.2.1 ([0] : List Int)), b6.2.2.2.2.2.2), ()))))
 none)
 (cond (bl (ln b6.2.2.2.2.2.1 + ln ([(min 99 (wr .i64 (x5 + 1)))] : List Int)) Qa)
 (some (.inl ((t1, (), (), (), (wr .i64 (t7 + 1)), ()), (b2, b4, (b6.1, b6.2.1, b6.2.2.1, (Za .i64 b6.2.2.2.1 (Ra .i64 1 t7)), b6.2.2.2.2.1, (ap b6.2.2.2.2.2.1 ([(min 99 (wr .i64 (x5 + 1)))] : List Int)), b6.2.2.2.2.2.2), ()))))
 none))
 none)
 (cond (bl (ln b6.2.2.2.2.2.1 + ln ([(min 99 (wr .i64 (x5 + 1)))] : List Int)) Qa)
 (some (.inl ((t1, (), (), (), (wr .i64 (t7 + 1)), ()), (b2, b4, (b6.1, b6.2.1, b6.2.2.1, b6.2.2.2.1, b6.2.2.2.2.1, (ap b6.2.2.2.2.2.1 ([(min 99 (wr .i64 (x5 + 1)))] : List Int)), b6.2.2.2.2.2.2), ()))))
 none))
 none)
 (cond (bl (ln b6.2.2.2.2.2.1 + ln ([(min 99 (wr .i64 (x5 + 1)))] : List Int)) Qa)
 (some (.inl ((t1, (), (), (), (wr .i64 (t7 + 1)), ()), (b2, b4, (b6.1, b6.2.1, b6.2.2.1, b6.2.2.2.1, b6.2.2.2.2.1, (ap b6.2.2.2.2.2.1 ([(min 99 (wr .i64 (x5 + 1)))] : List Int)), b6.2.2.2.2.2.2), ()))))
 none)))))
 (some (.inr (.inl ((t1, (), (), ()), (b4, b6, ()))))))
def Lp := Ta fun x : ((Int × J4) × Mah) => Zj x.1.1 x.1.2.1 x.1.2.2.1 x.1.2.2.2.1 x.1.2.2.2.2.1 x.2.1 x.2.2.1 x.2.2.2.1
def Kn (a0 : Qb) (a1 : Int) : Option (Qb × Xc) :=
 (ob (Mp a0) fun r1 =>
 (cond (!r1.1)
 (some ((0, 0, 0, 0, 0, [], ()), false, ()))
 (cond (decide (0 ≤ a0.2.2.1))
 (ob (Tb a1 0 (wr .i64 ((Ra .i64 1 a0.2.2.1) - 1))) fun r2 =>
 (cond (!r2.1)
 (some ((0, 0, 0, 0, 0, [], ()), false, ()))
 (ob (Lp ((a1, (), (), (), 0, ()), (a0, (0, 0, 0, 0, 0, [], ()), (a0.1, a0.2.1, a0.2.2.1, a0.2.2.2.1, a0.2.2.2.2.1, [], a0.2.2.2.2.2.2), ()))) (se (fun y6 => (some ((y6.2.2.1.1, y6.2.2.1.2.1, y6.2.2.1.2.2.1, y6.2.2.1.2.2.2.1, y6.1.1, y6.2.2.1.2.2.2.2.2), true, ()))) (fun z7 => none)))))
 none)))
def Zw (a0 : Ca) : Option Xc :=
 (ob (Rw a0) fun r1 =>
 (cond r1.1
 (some ((decide (a0.2.1 < 24)), ()))
 (some (false, ()))))
def Mz (t0 : Ke) (t1 : Int) (t5 : Int) : Option (ZQ ⊕ Hk) :=
 (cond (decide (t5 < ((ln t0 : Nat) : Int)))
 (ob (Xa t0 t5) fun x3 =>
 (cond ((Mb .i64 t1 x3.1) == 0)
 (some (.inr (.inr ((true, ()), ()))))
 (some (.inl ((t0, t1, (wr .i64 (t5 + 1)), ()), ())))))
 (some (.inr (.inl ((), ())))))
def TB := Ta fun x : ZQ => Mz x.1.1 x.1.2.1 x.1.2.2.1
def UF (a0 : Ke) (a1 : Int) : Option Xc :=
 (ob (TB ((a0, a1, 0, ()), ())) (se (fun y4 => (some (false, ()))) (fun z5 => (some (z5.1.1, ())))))
def QD (t0 : Ke) (t1 : Int) (t6 : Int) (t7 : Bool) (t8 : Int) : Option (((Ke × (Int × (Int × (Bool × Cc)))) × Unit) ⊕ ((Nx × Unit) ⊕ Fe)) :=
 (cond (decide (t8 < ((ln t0 : Nat) : Int)))
 (ob (Xa t0 t8) fun x7 =>
 (cond (t1 == x7.1)
 (ob (Xa t0 t8) fun x8 =>
 (some (.inl ((t0, t1, x8.2.1, t7, (wr .i64 (t8 + 1)), ()), ()))))
 (ob (Xa t0 t8) fun x9 =>
 (cond ((Mb .i64 t1 x9.1) == 0)
 (some (.inl ((t0, t1, t6, true, (wr .i64 (t8 + 1)), ()), ())))
 (some (.inl ((t0, t1, t6, t7, (wr .i64 (t8 + 1)), ()), ())))))))
 (some (.inr (.inl ((t6, t7, ()), ())))))
def XF := Ta fun x : ((Ke × (Int × (Int × (Bool × Cc)))) × Unit) => QD x.1.1 x.1.2.1 x.1.2.2.1 x.1.2.2.2.1 x.1.2.2.2.2.1
def RJ (a0 : Ke) (a1 : Int) : Option Nx :=
 (ob (XF ((a0, a1, (-1), false, 0, ()), ())) (se (fun y10 => (some y10.1)) (fun z11 => none)))
def Gq (t0 : Ke) (t2 : Be) (t3 : Int) (t11 : Int) (t12 : Int) (t13 : Int) (t14 : Int) : Option (((Ke × (Be × (Int × Db))) × Unit) ⊕ (((Ke × Ad) × Unit) ⊕ IG)) :=
 (cond (t13 == ((ln t2 : Nat) : Int))
 (cond (decide (t3 < t12))
 (some (.inr (.inr ((0, 0, (-1), ()), ()))))
 (some (.inr (.inl ((t0, t11, t13, t14, ()), ())))))
 (ob (Xa t2 t13) fun x18 =>
 (ob (Zw x18) fun r19 =>
 (cond (!r19.1)
 (some (.inr (.inr ((0, 0, (-1), ()), ()))))
 (cond (decide (x18.1 ≥ t12))
 (some (.inr (.inl ((t0, t11, t13, t14, ()), ()))))
 (cond (!x18.2.2.1)
 (some (.inr (.inl ((t0, t11, t13, x18.1, ()), ()))))
 (cond (decide (0 ≤ x18.2.1))
 (ob (UF t0 (Pc .i64 t11 (Ra .i64 1 x18.2.1))) fun r20 =>
 (cond (!r20.1)
 (some (.inr (.inl ((t0, t11, t13, x18.1, ()), ()))))
 (cond (decide (0 ≤ x18.2.1))
 (ob (RJ t0 (Pc .i64 t11 (Ra .i64 1 x18.2.1))) fun r21 =>
 (cond (decide (r21.1 ≥ 0))
 (cond (!r21.2.1)
 (some (.inr (.inr (((wr .i64 (t13 + 1)), x18.1, r21.1, ()), ()))))
 (some (.inl ((t0, t2, t3, (Pc .i64 t11 (Ra .i64 1 x18.2.1)), t12, (wr .i64 (t13 + 1)), t14, ()), ()))))
 (some (.inl ((t0, t2, t3, (Pc .i64 t11 (Ra .i64 1 x18.2.1)), t12, (wr .i64 (t13 + 1)), t14, ()), ())))))
 none)))
 none)))))))
def Xl := Ta fun x : ((Ke × (Be × (Int × Db))) × Unit) => Gq x.1.1 x.1.2.1 x.1.2.2.1 x.1.2.2.2.1 x.1.2.2.2.2.1 x.1.2.2.2.2.2.1 x.1.2.2.2.2.2.2.1
def KD (a0 : Ke) (a1 : Int) (a2 : Be) (a3 : Int) : Option Ad :=
 (ob (PA a0) fun r1 =>
 (cond (!r1.1)
 (some (0, 0, (-1), ()))
 (ob (Tb a1 1 200) fun r2 =>
 (cond (!r2.1)
 (some (0, 0, (-1), ()))
 (cond (((ln a2 : Nat) : Int) == 0)
 (some (0, 0, (-1), ()))
 (ob (Xa a2 0) fun x3 =>
 (ob (Zw x3) fun r4 =>
 (cond (!r4.1)
 (some (0, 0, (-1), ()))
 (ob (Xa a2 0) fun x5 =>
 (cond (!x5.2.2.1)
 (some (0, 0, (-1), ()))
 (ob (Xa a2 0) fun x6 =>
 (cond (decide (0 ≤ x6.2.1))
 (ob (Xa a2 0) fun x7 =>
 (ob (UF a0 (Ra .i64 1 x6.2.1)) fun r8 =>
 (cond (!r8.1)
 (ob (Xa a2 0) fun x9 =>
 (some (1, x9.1, (-1), ())))
 (ob (Xl ((a0, a2, a3, (Ra .i64 1 x6.2.1), (wr .i64 (x7.1 + a1)), 1, (wr .i64 (x7.1 + a1)), ()), ())) (se (fun y22 => (ob (RJ y22.1.1 y22.1.2.1) fun r24 =>
 (cond (decide (r24.1 < 0))
 (some (1, y22.1.2.2.2.1, r24.1, ()))
 (some (y22.1.2.2.1, y22.1.2.2.2.1, r24.1, ()))))) (fun z23 => (some z23.1)))))))
 none))))))))))))
def QH (t0 : Unit) (t1 : Int) (t2 : Int) (t7 : Int) (b500000 : Pa) : Option ((ET × GG) ⊕ (KV ⊕ I4)) :=
 (cond (decide (t7 < ((ln b500000.2.2.2.2.2.2.1 : Nat) : Int)))
 (cond (Af (ln b500000.2.2.2.2.2.2.1) t7)
 (ob b500000.2.2.2.2.2.2.1[(tn t7)]? fun x7 =>
 (cond (decide (0 ≤ t1))
 (cond ((Wa .i64 (Wb .i64 x7.2.1 t1) 1) == 0)
 (some (.inl (((), t1, t2, (wr .i64 (t7 + 1)), ()), (b500000, ()))))
 (cond x7.2.2.1
 (cond (bl (ln ([] : List Ca) + ln ([(t2, x7.1, false, ())] : List Ca)) Qa)
 (cond (decide (0 ≤ t1))
 (cond (Af (ln b500000.2.2.2.2.2.2.1) t7)
 (ob b500000.2.2.2.2.2.2.1[(tn t7)]? fun x8 =>
 (cond ((Mb .i64 x7.2.1 (Ra .i64 1 t1)) == 0)
 (cond (Ld (ln (ls b500000.2.2.2.2.2.2.1 (tn t7) (x7.1, (Mb .i64 x7.2.1 (Ra .i64 1 t1)), false, x7.2.2.2))) 0 t7)
 (cond (bl (ln ([] : List Ca) + ln (Gb (ls b500000.2.2.2.2.2.2.1 (tn t7) (x7.1, (Mb .i64 x7.2.1 (Ra .i64 1 t1)), false, x7.2.2.2)) (tn 0) (tn t7))) Qa)
 (cond (Ld (ln (ls b500000.2.2.2.2.2.2.1 (tn t7) (x7.1, (Mb .i64 x7.2.1 (Ra .i64 1 t1)), false, x7.2.2.2))) (wr .i64 (t7 + 1)) ((ln (ls b500000.2.2.2.2.2.2.1 (tn t7) (x7.1, (Mb .i64 x7.2.1 (Ra .i64 1 t1)), false, x7.2.2.2)) : Nat) : Int))
 (cond (bl (ln (ap [] (Gb (ls b500000.2.2.2.2.2.2.1 (tn t7) (x7.1, (Mb .i64 x7.2.1 (Ra .i64 1 t1)), false, x7.2.2.2)) (tn 0) (tn t7))) + ln (Gb (ls b500000.2.2.2.2.2.2.1 (tn t7) (x7.1, (Mb .i64 x7.2.1 (Ra .i64 1 t1)), false, x7.2.2.2)) (tn (wr .i64 (t7 + 1))) (tn ((ln (ls b500000.2.2.2.2.2.2.1 (tn t7) (x7.1, (Mb .i64 x7.2.1 (Ra .i64 1 t1)), false, x7.2.2.2)) : Nat) : Int)))) Qa)
 (some (.inr (.inr (((), (ap [] ([(t2, x7.1, false, ())] : List Ca)), ()), ((b500000.1, b500000.2.1, b500000.2.2.1, b500000.2.2.2.1, b500000.2.2.2.2.1, b500000.2.2.2.2.2.1, (ap (ap [] (Gb (ls b500000.2.2.2.2.2.2.1 (tn t7) (x7.1, (Mb .i64 x7.2.1 (Ra .i64 1 t1)), false, x7.2.2.2)) (tn 0) (tn t7))) (Gb (ls b500000.2.2.2.2.2.2.1 (tn t7) (x7.1, (Mb .i64 x7.2.1 (Ra .i64 1 t1)), false, x7.2.2.2)) (tn (wr .i64 (t7 + 1))) (tn ((ln (ls b500000.2.2.2.2.2.2.1 (tn t7) (x7.1, (Mb .i64 x7.2.1 (Ra .i64 1 t1)), false, x7.2.2.2)) : Nat) : Int)))), ()), ())))))
 none)
 none)
 none)
 none)
 (some (.inr (.inr (((), (ap [] ([(t2, x7.1, false, ())] : List Ca)), ()), ((b500000.1, b500000.2.1, b500000.2.2.1, b500000.2.2.2.1, b500000.2.2.2.2.1, b500000.2.2.2.2.2.1, (ls b500000.2.2.2.2.2.2.1 (tn t7) (x7.1, (Mb .i64 x7.2.1 (Ra .i64 1 t1)), false, x7.2.2.2)), ()), ())))))))
 none)
 none)
 none)
 (cond (decide (0 ≤ t1))
 (cond (Af (ln b500000.2.2.2.2.2.2.1) t7)
 (ob b500000.2.2.2.2.2.2.1[(tn t7)]? fun x9 =>
 (cond ((Mb .i64 x7.2.1 (Ra .i64 1 t1)) == 0)
 (cond (Ld (ln (ls b500000.2.2.2.2.2.2.1 (tn t7) (x7.1, (Mb .i64 x7.2.1 (Ra .i64 1 t1)), false, x7.2.2.2))) 0 t7)
 (cond (bl (ln ([] : List Ca) + ln (Gb (ls b500000.2.2.2.2.2.2.1 (tn t7) (x7.1, (Mb .i64 x7.2.1 (Ra .i64 1 t1)), false, x7.2.2.2)) (tn 0) (tn t7))) Qa)
 (cond (Ld (ln (ls b500000.2.2.2.2.2.2.1 (tn t7) (x7.1, (Mb .i64 x7.2.1 (Ra .i64 1 t1)), false, x7.2.2.2))) (wr .i64 (t7 + 1)) ((ln (ls b500000.2.2.2.2.2.2.1 (tn t7) (x7.1, (Mb .i64 x7.2.1 (Ra .i64 1 t1)), false, x7.2.2.2)) : Nat) : Int))
 (cond (bl (ln (ap [] (Gb (ls b500000.2.2.2.2.2.2.1 (tn t7) (x7.1, (Mb .i64 x7.2.1 (Ra .i64 1 t1)), false, x7.2.2.2)) (tn 0) (tn t7))) + ln (Gb (ls b500000.2.2.2.2.2.2.1 (tn t7) (x7.1, (Mb .i64 x7.2.1 (Ra .i64 1 t1)), false, x7.2.2.2)) (tn (wr .i64 (t7 + 1))) (tn ((ln (ls b500000.2.2.2.2.2.2.1 (tn t7) (x7.1, (Mb .i64 x7.2.1 (Ra .i64 1 t1)), false, x7.2.2.2)) : Nat) : Int)))) Qa)
 (some (.inr (.inr (((), [], ()), ((b500000.1, b500000.2.1, b500000.2.2.1, b500000.2.2.2.1, b500000.2.2.2.2.1, b500000.2.2.2.2.2.1, (ap (ap [] (Gb (ls b500000.2.2.2.2.2.2.1 (tn t7) (x7.1, (Mb .i64 x7.2.1 (Ra .i64 1 t1)), false, x7.2.2.2)) (tn 0) (tn t7))) (Gb (ls b500000.2.2.2.2.2.2.1 (tn t7) (x7.1, (Mb .i64 x7.2.1 (Ra .i64 1 t1)), false, x7.2.2.2)) (tn (wr .i64 (t7 + 1))) (tn ((ln (ls b500000.2.2.2.2.2.2.1 (tn t7) (x7.1, (Mb .i64 x7.2.1 (Ra .i64 1 t1)), false, x7.2.2.2)) : Nat) : Int)))), ()), ())))))
 none)
 none)
 none)
 none)
 (some (.inr (.inr (((), [], ()), ((b500000.1, b500000.2.1, b500000.2.2.1, b500000.2.2.2.1, b500000.2.2.2.2.1, b500000.2.2.2.2.2.1, (ls b500000.2.2.2.2.2.2.1 (tn t7) (x7.1, (Mb .i64 x7.2.1 (Ra .i64 1 t1)), false, x7.2.2.2)), ()), ())))))))
 none)
 none)))
 none))
 none)
 (some (.inr (.inl (((), t1, t2, ()), (b500000, ()))))))
def OI := Ta fun x : (ET × GG) => QH x.1.1 x.1.2.1 x.1.2.2.1 x.1.2.2.2.1 x.2.1
def CP (a0 : Pa) (a1 : Int) (a2 : Int) : Option (Pa × HG) :=
 (ob (OI (((), a1, a2, 0, ()), (a0, ()))) (se (fun y10 => (cond (decide (0 ≤ y10.1.2.1))
 (some ((y10.2.1.1, y10.2.1.2.1, y10.2.1.2.2.1, y10.2.1.2.2.2.1, y10.2.1.2.2.2.2.1, (Mb .i64 y10.2.1.2.2.2.2.2.1 (Ra .i64 1 y10.1.2.1)), y10.2.1.2.2.2.2.2.2.1, ()), (([(y10.1.2.2.1, y10.1.2.1, false, ())] : List Ca), ())))
 none)) (fun z11 => (some (z11.2.1, (z11.1.2.1, ()))))))
def Ys (t0 : Unit) (t3 : Be) (b500000 : Pa) : Option (I4 ⊕ (I4 ⊕ I4)) :=
 (cond (decide (((ln b500000.2.2.1 : Nat) : Int) > 0))
 (cond (Af (ln b500000.2.2.1) 0)
 (ob b500000.2.2.1[(tn 0)]? fun x9 =>
 (cond x9.2.2.1
 (ob (KD b500000.1 b500000.2.1 b500000.2.2.1 b500000.2.2.2.1) fun r10 =>
 (cond (r10.1 == 0)
 (some (.inr (.inr (((), t3, ()), (b500000, ())))))
 (cond (decide (r10.2.2.1 ≥ 0))
 (cond (bl (ln t3 + ln ([((max (max b500000.2.2.2.2.1 x9.1) r10.2.1), r10.2.2.1, true, ())] : List Ca)) Qa)
 (ob (VF b500000.1 r10.2.2.1) fun r11 =>
 (cond (bl (ln ([] : List Ca) + ln b500000.2.2.2.2.2.2.1) Qa)
 (cond (bl (ln (ap [] b500000.2.2.2.2.2.2.1) + ln ([(r10.2.2.1, r11.1, true, ())] : List Ca)) Qa)
 (cond (Ld (ln b500000.2.2.1) r10.1 ((ln b500000.2.2.1 : Nat) : Int))
 (cond (bl (ln ([] : List Ca) + ln (Gb b500000.2.2.1 (tn r10.1) (tn ((ln b500000.2.2.1 : Nat) : Int)))) Qa)
 (some (.inl (((), (ap t3 ([((max (max b500000.2.2.2.2.1 x9.1) r10.2.1), r10.2.2.1, true, ())] : List Ca)), ()), ((b500000.1, b500000.2.1, (ap [] (Gb b500000.2.2.1 (tn r10.1) (tn ((ln b500000.2.2.1 : Nat) : Int)))), b500000.2.2.2.1, (max (max b500000.2.2.2.2.1 x9.1) r10.2.1), b500000.2.2.2.2.2.1, (ap (ap [] b500000.2.2.2.2.2.2.1) ([(r10.2.2.1, r11.1, true, ())] : List Ca)), ()), ()))))
 none)
 none)
 none)
 none))
 none)
 (cond (bl (ln t3 + ln ([((max (max b500000.2.2.2.2.1 x9.1) r10.2.1), x9.2.1, true, ())] : List Ca)) Qa)
 (cond (decide (0 ≤ x9.2.1))
 (cond (Ld (ln b500000.2.2.1) r10.1 ((ln b500000.2.2.1 : Nat) : Int))
 (cond (bl (ln ([] : List Ca) + ln (Gb b500000.2.2.1 (tn r10.1) (tn ((ln b500000.2.2.1 : Nat) : Int)))) Qa)
 (some (.inl (((), (ap t3 ([((max (max b500000.2.2.2.2.1 x9.1) r10.2.1), x9.2.1, true, ())] : List Ca)), ()), ((b500000.1, b500000.2.1, (ap [] (Gb b500000.2.2.1 (tn r10.1) (tn ((ln b500000.2.2.1 : Nat) : Int)))), b500000.2.2.2.1, (max (max b500000.2.2.2.2.1 x9.1) r10.2.1), (Pc .i64 b500000.2.2.2.2.2.1 (Ra .i64 1 x9.2.1)), b500000.2.2.2.2.2.2.1, ()), ()))))
 none)
 none)
 none)
 none))))
 (ob (CP b500000 x9.2.1 (max b500000.2.2.2.2.1 x9.1)) fun r12 =>
 (cond (bl (ln t3 + ln r12.2.1) Qa)
 (cond (Ld (ln r12.1.2.2.1) 1 ((ln r12.1.2.2.1 : Nat) : Int))
 (cond (bl (ln ([] : List Ca) + ln (Gb r12.1.2.2.1 (tn 1) (tn ((ln r12.1.2.2.1 : Nat) : Int)))) Qa)
 (some (.inl (((), (ap t3 r12.2.1), ()), ((r12.1.1, r12.1.2.1, (ap [] (Gb r12.1.2.2.1 (tn 1) (tn ((ln r12.1.2.2.1 : Nat) : Int)))), r12.1.2.2.2.1, (max b500000.2.2.2.2.1 x9.1), r12.1.2.2.2.2.2), ()))))
 none)
 none)
 none))))
 none)
 (some (.inr (.inl (((), t3, ()), (b500000, ()))))))
def Bk := Ta fun x : I4 => Ys x.1.1 x.1.2.1 x.2.1
def EB (a0 : Pa) : Option (Pa × HG) :=
 (ob (Bk (((), [], ()), (a0, ()))) (se (fun y13 => (some (y13.2.1, (y13.1.2.1, ())))) (fun z14 => (some (z14.2.1, (z14.1.2.1, ()))))))
def Qs (a0 : Pa) (a1 : Be) (a2 : Int) : Option (Pa × (Be × Xc)) :=
 (cond (bl (ln ([] : List Ca) + ln a0.2.2.1) Qa)
 (cond (bl (ln (ap [] a0.2.2.1) + ln a1) Qa)
 (ob (Ss a0) fun r1 =>
 (cond (!r1.1)
 (some (Tg, [], false, ()))
 (ob (Tb a2 a0.2.2.2.1 1000000) fun r2 =>
 (cond (!r2.1)
 (some (Tg, [], false, ()))
 (ob (Yw a0) fun r3 =>
 (ob (Ok (ap (ap [] a0.2.2.1) a1) r3.1 24 0) fun r4 =>
 (cond (!r4.1)
 (some (Tg, [], false, ()))
 (cond (decide (((ln a1 : Nat) : Int) > 0))
 (ob (Xa a1 0) fun x5 =>
 (cond (decide (x5.1 < a0.2.2.2.1))
 (some (Tg, [], false, ()))
 (ob (Xa a1 (wr .i64 (((ln a1 : Nat) : Int) - 1))) fun x6 =>
 (cond (decide (x6.1 > a2))
 (some (Tg, [], false, ()))
 (ob (Xw a0) fun r7 =>
 (ob (EB (r7.1.1, r7.1.2.1, (ap (ap [] a0.2.2.1) a1), a2, r7.1.2.2.2.2)) fun r8 =>
 (some (r8.1, r8.2.1, true, ()))))))))
 (ob (Xw a0) fun r9 =>
 (ob (EB (r9.1.1, r9.1.2.1, (ap (ap [] a0.2.2.1) a1), a2, r9.1.2.2.2.2)) fun r10 =>
 (some (r10.1, r10.2.1, true, ()))))))))))))
 none)
 none)
def Ps (t2 : Unit) (t4 : Unit) (t9 : Int) (t11 : Unit) (t13 : Be) (t14 : Int) (b2 : Fd) (b4 : Fd) (b11 : Qb) : Option (AaN ⊕ (((Unit × (Unit × (Int × (Unit × HG)))) × (Fd × (Fd × CT))) ⊕ Fe)) :=
 (cond (decide (t14 < b11.2.2.1))
 (cond (decide (0 ≤ t14))
 (cond ((Wa .i64 (Wb .i64 (Za .i64 b11.2.2.2.1 b2.2.1.2.2.2.1) t14) 1) == 1)
 (cond (decide (0 ≤ t14))
 (cond (bl (ln t13 + ln ([(b2.2.2.2.2.2.1, t14, ((Wa .i64 (Wb .i64 b11.2.2.2.1 t14) 1) == 1), ())] : List Ca)) Qa)
 (some (.inl (((), (), t9, (), (ap t13 ([(b2.2.2.2.2.2.1, t14, ((Wa .i64 (Wb .i64 b11.2.2.2.1 t14) 1) == 1), ())] : List Ca)), (wr .i64 (t14 + 1)), ()), (b2, b4, b11, ()))))
 none)
 none)
 (some (.inl (((), (), t9, (), t13, (wr .i64 (t14 + 1)), ()), (b2, b4, b11, ())))))
 none)
 (some (.inr (.inl (((), (), t9, (), t13, ()), (b2, b4, b11, ()))))))
def Xj := Ta fun x : AaN => Ps x.1.1 x.1.2.1 x.1.2.2.1 x.1.2.2.2.1 x.1.2.2.2.2.1 x.1.2.2.2.2.2.1 x.2.1 x.2.2.1 x.2.2.2.1
def Nl (a0 : Fd) (a1 : Int) : Option (Fd × XQ) :=
 (ob (MD a0.1 a1) fun r1 =>
 (ob (QF a0) fun r2 =>
 (cond (!r2.1)
 (some (Hl, [], false, ()))
 (cond (!r1.2.1)
 (some (Hl, [], false, ()))
 (cond (a0.2.2.2.2.2.1 == 1000000)
 (some (Hl, [], false, ()))
 (ob (Ns a0.1 a0.2.2.2.2.1 r1.1) fun r3 =>
 (ob (Kn a0.2.1 r3.1) fun r4 =>
 (ob (Xj (((), (), r3.1, (), [], 0, ()), (a0, Hl, r4.1, ()))) (se (fun y5 => (ob (Qs y5.2.1.2.2.1 y5.1.2.2.2.2.1 y5.2.1.2.2.2.2.2.1) fun r7 =>
 (ob (LD y5.2.1.2.2.2.1 r7.2.1 y5.2.1.2.2.2.2.2.1) fun r8 =>
 (cond (!r7.2.2.1)
 (some (Hl, [], false, ()))
 (cond (!r8.2.2.1)
 (some (Hl, [], false, ()))
 (some ((y5.2.1.1, y5.2.2.2.1, r7.1, r8.1, y5.1.2.2.1, (wr .i64 (y5.2.1.2.2.2.2.2.1 + 1)), ()), r8.2.1, true, ()))))))) (fun z6 => none))))))))))
def Wu (t0 : Lc) (t3 : Int) (t4 : Int) (t5 : Int) : Option (OY ⊕ (TY ⊕ Fe)) :=
 (cond (decide (t5 < 8))
 (cond (decide ((wr .i64 (2 * t3)) > 255))
 (some (.inl ((t0, (Za .i64 (wr .i64 (2 * t3)) 263), t4, (wr .i64 (t5 + 1)), ()), ())))
 (some (.inl ((t0, (wr .i64 (2 * t3)), t4, (wr .i64 (t5 + 1)), ()), ()))))
 (some (.inr (.inl ((t0, t3, t4, ()), ())))))
def Bo := Ta fun x : OY => Wu x.1.1 x.1.2.1 x.1.2.2.1 x.1.2.2.2.1
def Vu (t0 : Lc) (t3 : Int) (t4 : Int) : Option (TY ⊕ Lx) :=
 (cond (decide (t4 < ((ln t0 : Nat) : Int)))
 (ob (Xa t0 t4) fun x7 =>
 (ob (Bo ((t0, (Za .i64 t3 (wr .i64 x7)), t4, 0, ()), ())) (se (fun y8 => (some (.inl ((y8.1.1, y8.1.2.1, (wr .i64 (y8.1.2.2.1 + 1)), ()), ())))) (fun z9 => (some (.inr (.inr ((), ()))))))))
 (some (.inr (.inl ((t3, ()), ())))))
def Zy := Ta fun x : TY => Vu x.1.1 x.1.2.1 x.1.2.2.1
def NA (a0 : Lc) : Option Cc :=
 (ob (Zy ((a0, 0, 0, ()), ())) (se (fun y10 => (some (y10.1.1, ()))) (fun z11 => none)))
def NH (a0 : Int) (a1 : Int) : Option Gr :=
 (ob (Tb a0 0 255) fun r1 =>
 (cond (!r1.1)
 (some ([], ()))
 (ob (Tb a1 0 16777215) fun r2 =>
 (cond (!r2.1)
 (some ([], ()))
 (cond ((256 : Int) == 0)
 none
 (cond ((256 : Int) == 0)
 none
 (cond ((256 : Int) == 0)
 none
 (cond ((65536 : Int) == 0)
 none
 (ob (NA ([85, (wr .u8 a0), (wr .u8 (Int.tmod a1 256)), (wr .u8 (Int.tmod (wr .i64 (Int.tdiv a1 256)) 256)), (wr .u8 (wr .i64 (Int.tdiv a1 65536)))] : List Int)) fun r3 =>
 (cond (bl (ln ([85, (wr .u8 a0), (wr .u8 (Int.tmod a1 256)), (wr .u8 (Int.tmod (wr .i64 (Int.tdiv a1 256)) 256)), (wr .u8 (wr .i64 (Int.tdiv a1 65536)))] : List Int) + ln ([(wr .u8 r3.1)] : List Int)) Qa)
 (some ((ap ([85, (wr .u8 a0), (wr .u8 (Int.tmod a1 256)), (wr .u8 (Int.tmod (wr .i64 (Int.tdiv a1 256)) 256)), (wr .u8 (wr .i64 (Int.tdiv a1 65536)))] : List Int) ([(wr .u8 r3.1)] : List Int)), ()))
 none))))))))))
def Sh (t2 : Lc) (t7 : Lc) (t8 : Int) : Option (VQ ⊕ Y9) :=
 (cond (decide (t8 < ((ln t7 : Nat) : Int)))
 (cond (Af (ln t7) t8)
 (ob t7[(tn t8)]? fun x8 =>
 (ob (Xa t2 t8) fun x9 =>
 (cond (Af (ln t7) t8)
 (ob t7[(tn t8)]? fun x10 =>
 (some (.inl ((t2, (ls t7 (tn t8) (Za .u8 x8 x9)), (wr .i64 (t8 + 1)), ()), ()))))
 none)))
 none)
 (some (.inr (.inl ((t7, ()), ())))))
def Ko := Ta fun x : VQ => Sh x.1.1 x.1.2.1 x.1.2.2.1
def CL (a0 : Int) (a1 : Int) (a2 : Lc) : Option Gr :=
 (ob (NH a0 a1) fun r1 =>
 (cond (((ln a2 : Nat) : Int) == 0)
 (some (r1.1, ()))
 (cond (((ln a2 : Nat) : Int) != ((ln r1.1 : Nat) : Int))
 (some ([], ()))
 (ob (Ko ((a2, r1.1, 0, ()), ())) (se (fun y11 => (some (y11.1.1, ()))) (fun z12 => none))))))
def OH (a0 : Lc) : Option Ca :=
 (cond (((ln a0 : Nat) : Int) != 6)
 (some (0, 0, false, ()))
 (ob (Xa a0 0) fun x1 =>
 (cond (x1 != 85)
 (some (0, 0, false, ()))
 (cond (Ld (ln a0) 0 5)
 (ob (NA (Gb a0 (tn 0) (tn 5))) fun r2 =>
 (ob (Xa a0 5) fun x3 =>
 (cond (r2.1 != (wr .i64 x3))
 (some (0, 0, false, ()))
 (ob (Xa a0 1) fun x4 =>
 (ob (Xa a0 2) fun x5 =>
 (ob (Xa a0 3) fun x6 =>
 (ob (Xa a0 4) fun x7 =>
 (some ((wr .i64 x4), (wr .i64 ((wr .i64 ((wr .i64 x5) + (wr .i64 (256 * (wr .i64 x6))))) + (wr .i64 (65536 * (wr .i64 x7))))), true, ())))))))))
 none))))
def Gz (a0 : Sb) (a1 : Int) : Option (Sb × Cc) :=
 (ob (Nk a0) fun r1 =>
 (cond (!r1.1)
 (some (([], 0, 0, 0, ()), 0, ()))
 (cond (bl (ln ([] : List Int) + ln a0.1) Qa)
 (cond (bl (ln (ap [] a0.1) + ln ([a1] : List Int)) Qa)
 (cond (decide (((ln (ap (ap [] a0.1) ([a1] : List Int)) : Nat) : Int) < 6))
 (some (((ap (ap [] a0.1) ([a1] : List Int)), a0.2), 1, ()))
 (ob (OH (ap (ap [] a0.1) ([a1] : List Int))) fun r2 =>
 (cond (!r2.2.2.1)
 (cond (Ld (ln (ap (ap [] a0.1) ([a1] : List Int))) 1 ((ln (ap (ap [] a0.1) ([a1] : List Int)) : Nat) : Int))
 (some (((Gb (ap (ap [] a0.1) ([a1] : List Int)) (tn 1) (tn ((ln (ap (ap [] a0.1) ([a1] : List Int)) : Nat) : Int))), a0.2), 1, ()))
 none)
 (cond (r2.1 == a0.2.1)
 (some (([], a0.2.1, a0.2.2.1, 0, a0.2.2.2.2), 3, ()))
 (some (([], r2.1, r2.2.1, 0, a0.2.2.2.2), 2, ()))))))
 none)
 none)))
def Hq (t1 : Lc) (t4 : Unit) (t6 : Lc) (t7 : Unit) (t8 : Int) (b4 : Sb) (b7 : Sb) : Option (((Lc × (Unit × (Lc × Dk))) × K4) ⊕ (((Unit × (Lc × Fe)) × K4) ⊕ ((Unit × Gr) × OY))) :=
 (cond (decide (t8 < ((ln t1 : Nat) : Int)))
 (ob (Xa t1 t8) fun x5 =>
 (ob (Gz b7 x5) fun r6 =>
 (cond (r6.2.1 == 0)
 (some (.inr (.inr (((), [], ()), (([], 0, 0, 0, ()), ())))))
 (cond (r6.2.1 == 2)
 (cond (bl (ln t6 + ln ([r6.1.2.2.1] : List Int)) Qa)
 (some (.inl ((t1, (), (ap t6 ([r6.1.2.2.1] : List Int)), (), (wr .i64 (t8 + 1)), ()), (b4, r6.1, ()))))
 none)
 (some (.inl ((t1, (), t6, (), (wr .i64 (t8 + 1)), ()), (b4, r6.1, ()))))))))
 (some (.inr (.inl (((), t6, (), ()), (b4, b7, ()))))))
def Qt := Ta fun x : ((Lc × (Unit × (Lc × Dk))) × K4) => Hq x.1.1 x.1.2.1 x.1.2.2.1 x.1.2.2.2.1 x.1.2.2.2.2.1 x.2.1 x.2.2.1
def ND (a0 : Sb) (a1 : Lc) : Option (Sb × Gr) :=
 (cond (bl (ln ([] : List Int) + ln a0.1) Qa)
 (ob (Qt ((a1, (), [], (), 0, ()), (([], 0, 0, 0, ()), ((ap [] a0.1), a0.2), ()))) (se (fun y7 => (ob (Nk y7.2.2.1) fun r9 =>
 (cond (!r9.1)
 (some (([], 0, 0, 0, ()), [], ()))
 (some (y7.2.2.1, y7.1.2.1, ()))))) (fun z8 => (some (z8.2.1, z8.1.2.1, ())))))
 none)
def PD (a0 : Sb) : Option OY :=
 (ob (Nk a0) fun r1 =>
 (cond (!r1.1)
 (some (([], 0, 0, 0, ()), ()))
 (cond (bl (ln ([] : List Int) + ln a0.1) Qa)
 (cond ((min 20 (wr .i64 (a0.2.2.2.1 + 1))) == 20)
 (some (((ap [] a0.1), (-1), 0, (min 20 (wr .i64 (a0.2.2.2.1 + 1))), a0.2.2.2.2), ()))
 (some (((ap [] a0.1), a0.2.1, a0.2.2.1, (min 20 (wr .i64 (a0.2.2.2.1 + 1))), a0.2.2.2.2), ())))
 none)))
def Mk (a0 : Zb) (a1 : Int) (a2 : Int) (a3 : Lc) : Option (Zb × XQ) :=
 (ob (OA a0) fun r1 =>
 (ob (QA a0) fun r2 =>
 (cond (!r2.1)
 (some (Mf, [], false, ()))
 (cond (decide (0 ≤ r1.1))
 (ob (Tb a1 0 (wr .i64 ((Ra .i64 1 r1.1) - 1))) fun r3 =>
 (cond (!r3.1)
 (some (Mf, [], false, ()))
 (cond (decide (0 ≤ r1.1))
 (ob (Tb a2 0 (wr .i64 ((Ra .i64 1 r1.1) - 1))) fun r4 =>
 (cond (!r4.1)
 (some (Mf, [], false, ()))
 (ob (CL a0.2.2.1 a2 a3) fun r5 =>
 (ob (ND a0.2.1 r5.1) fun r6 =>
 (cond (((ln r6.2.1 : Nat) : Int) == 0)
 (ob (PD r6.1) fun r7 =>
 (cond (decide (0 ≤ r1.1))
 (cond (decide (0 ≤ r1.1))
 (ob (Nl a0.1 (Pc .i64 a1 (Ra .i64 (Wa .i64 r7.1.2.2.1 (wr .i64 ((Ra .i64 1 r1.1) - 1))) r1.1))) fun r8 =>
 (cond (!r8.2.2.1)
 (some (Mf, [], false, ()))
 (cond ((256 : Int) == 0)
 none
 (some ((r8.1, r7.1, (Int.tmod (wr .i64 (a0.2.2.1 + 1)) 256), ()), r8.2.1, true, ())))))
 none)
 none))
 (cond (decide (0 ≤ r1.1))
 (cond (decide (0 ≤ r1.1))
 (ob (Nl a0.1 (Pc .i64 a1 (Ra .i64 (Wa .i64 r6.1.2.2.1 (wr .i64 ((Ra .i64 1 r1.1) - 1))) r1.1))) fun r9 =>
 (cond (!r9.2.2.1)
 (some (Mf, [], false, ()))
 (cond ((256 : Int) == 0)
 none
 (some ((r9.1, r6.1, (Int.tmod (wr .i64 (a0.2.2.1 + 1)) 256), ()), r9.2.1, true, ())))))
 none)
 none))))))
 none)))
 none))))
def Rs (t1 : Lc) (t2 : Lc) (t3 : Yh) (t8 : Unit) (t11 : Bh) (t12 : Unit) (t13 : Int) (b8 : Zb) (b12 : Zb) : Option (((Lc × (Lc × (Yh × CaN))) × W9) ⊕ (((Unit × (Bh × Fe)) × W9) ⊕ ((Unit × XQ) × (Zb × Unit)))) :=
 (cond (decide (t13 < ((ln t1 : Nat) : Int)))
 (cond (decide (t13 < ((ln t3 : Nat) : Int)))
 (ob (Xa t3 t13) fun x17 =>
 (ob (Xa t1 t13) fun x18 =>
 (ob (Xa t2 t13) fun x19 =>
 (ob (Mk b12 x18 x19 x17) fun r20 =>
 (cond (!r20.2.2.1)
 (some (.inr (.inr (((), [], false, ()), (Mf, ())))))
 (cond (bl (ln t11 + ln r20.2.1) Qa)
 (some (.inl ((t1, t2, t3, (), (ap t11 r20.2.1), (), (wr .i64 (t13 + 1)), ()), (b8, r20.1, ()))))
 none))))))
 (ob (Xa t1 t13) fun x21 =>
 (ob (Xa t2 t13) fun x22 =>
 (ob (Mk b12 x21 x22 []) fun r23 =>
 (cond (!r23.2.2.1)
 (some (.inr (.inr (((), [], false, ()), (Mf, ())))))
 (cond (bl (ln t11 + ln r23.2.1) Qa)
 (some (.inl ((t1, t2, t3, (), (ap t11 r23.2.1), (), (wr .i64 (t13 + 1)), ()), (b8, r23.1, ()))))
 none))))))
 (some (.inr (.inl (((), t11, (), ()), (b8, b12, ()))))))
def Pw := Ta fun x : ((Lc × (Lc × (Yh × CaN))) × W9) => Rs x.1.1 x.1.2.1 x.1.2.2.1 x.1.2.2.2.1 x.1.2.2.2.2.1 x.1.2.2.2.2.2.1 x.1.2.2.2.2.2.2.1 x.2.1 x.2.2.1
def Ow (a0 : Zb) (a1 : Lc) (a2 : Lc) (a3 : Yh) : Option (Zb × XQ) :=
 (ob (QA a0) fun r1 =>
 (cond (!r1.1)
 (some (Mf, [], false, ()))
 (cond (((ln a1 : Nat) : Int) != ((ln a2 : Nat) : Int))
 (some (Mf, [], false, ()))
 (cond (decide (((ln a1 : Nat) : Int) > 200))
 (some (Mf, [], false, ()))
 (ob (GV a0) fun r2 =>
 (ob (Pw ((a1, a2, a3, (), [], (), 0, ()), (Mf, r2.1, ()))) (se (fun y24 => (some (y24.2.2.1, y24.1.2.1, true, ()))) (fun z25 => (some (z25.2.1, z25.1.2.1, z25.1.2.2.1, ()))))))))))
def Om (a0 : Zb) (a1 : Lc) (a2 : Lc) (a3 : Yh) : Option Xc :=
 (cond (decide (((ln a1 : Nat) : Int) > 1048576))
 (some (true, ()))
 (cond (decide (((ln a2 : Nat) : Int) > 1048576))
 (some (true, ()))
 (ob (QK a0 1048576) fun r1 =>
 (cond (decide (r1.1 < 0))
 (some (true, ()))
 (ob (NK a3 r1.1) fun r2 =>
 (cond (decide (r2.1 < 0))
 (some (true, ()))
 (ob (Bn a0) fun r3 =>
 (ob (Fi a1) fun r4 =>
 (ob (Fi a2) fun r5 =>
 (ob (Ar a3) fun r6 =>
 (ob (Ow r3.1 r4.1 r5.1 r6.1) fun r7 =>
 (ob (Bn a0) fun r8 =>
 (ob (Fi a1) fun r9 =>
 (ob (Fi a2) fun r10 =>
 (ob (Ar a3) fun r11 =>
 (ob (So r8.1 r9.1 r10.1 r11.1) fun r12 =>
 (ob (An r12.1 r7.1) fun r13 =>
 (cond (!r13.1)
 (some (false, ()))
 (ob (Hw r12.2.1 r7.2.1) fun r14 =>
 (cond (!r14.1)
 (some (false, ()))
 (cond (r12.2.2.1 != r7.2.2.1)
 (some (false, ()))
 (ob (Bn a0) fun r15 =>
 (ob (An r8.1 r15.1) fun r16 =>
 (cond (!r16.1)
 (some (false, ()))
 (ob (Fi a1) fun r17 =>
 (ob (Ot r9.1 r17.1) fun r18 =>
 (cond (!r18.1)
 (some (false, ()))
 (ob (Fi a2) fun r19 =>
 (ob (Ot r10.1 r19.1) fun r20 =>
 (cond (!r20.1)
 (some (false, ()))
 (ob (Ar a3) fun r21 =>
 (ob (EK r11.1 r21.1) fun r22 =>
 (cond (!r22.1)
 (some (false, ()))
 (ob (Es r8.1 1) fun r23 =>
 (ob (Yq r9.1 r23.2.1) fun r24 =>
 (ob (Yq r10.1 r24.2.1) fun r25 =>
 (ob (ZN r11.1 r25.2.1) fun r26 =>
 (cond (decide (r26.2.1 < 0))
 (some (false, ()))
 (ob (An r12.1 r7.1) fun r27 =>
 (cond (!r27.1)
 (some (false, ()))
 (ob (Hw r12.2.1 r7.2.1) fun r28 =>
 (cond (!r28.1)
 (some (false, ()))
 (cond (r12.2.2.1 != r7.2.2.1)
 (some (false, ()))
 (ob (Es r12.1 1) fun r29 =>
 (ob (KQ r12.2.1 r29.2.1) fun r30 =>
 (ob (Yr ((r12.1.1.1, (r12.1.1.2.1.1, r12.1.1.2.1.2.1, r12.1.1.2.1.2.2.1, r12.1.1.2.1.2.2.2.1, r12.1.1.2.1.2.2.2.2.1, r29.1.1.2.1.2.2.2.2.2.1, ()), (r29.1.1.2.2.1.1, r12.1.1.2.2.1.2.1, r29.1.1.2.2.1.2.2.1, r12.1.1.2.2.1.2.2.2.1, r12.1.1.2.2.1.2.2.2.2.1, r12.1.1.2.2.1.2.2.2.2.2.1, r29.1.1.2.2.1.2.2.2.2.2.2.1, ()), (((r12.1.1.2.2.2.1.1.1.1, r29.1.1.2.2.2.1.1.1.2.1, ()), r29.1.1.2.2.2.1.1.2.1, r12.1.1.2.2.2.1.1.2.2.1, r29.1.1.2.2.2.1.1.2.2.2.1, r12.1.1.2.2.2.1.1.2.2.2.2), r12.1.1.2.2.2.1.2.1, r29.1.1.2.2.2.1.2.2.1, r12.1.1.2.2.2.1.2.2.2), r12.1.1.2.2.2.2), (r29.1.2.1.1, r12.1.2.1.2), r12.1.2.2) 1) fun r31 =>
 (cond (decide (r31.1 < 0))
 (some (false, ()))
 (ob (YG r30.1 r31.1) fun r32 =>
 (cond (decide (r32.1 < 0))
 (some (false, ()))
 (cond (r32.1 != r30.2.1)
 (some (false, ()))
 (ob (Bn a0) fun r33 =>
 (ob (Fi a1) fun r34 =>
 (ob (Fi a2) fun r35 =>
 (ob (Ar a3) fun r36 =>
 (ob (So r33.1 r34.1 r35.1 r36.1) fun r37 =>
 (ob (An r37.1 r7.1) fun r38 =>
 (cond (!r38.1)
 (some (false, ()))
 (ob (Hw r37.2.1 r7.2.1) fun r39 =>
 (cond (!r39.1)
 (some (false, ()))
 (cond (r37.2.2.1 != r7.2.2.1)
 (some (false, ()))
 (ob (Yr ((r12.1.1.1, (r12.1.1.2.1.1, r12.1.1.2.1.2.1, r12.1.1.2.1.2.2.1, r12.1.1.2.1.2.2.2.1, r12.1.1.2.1.2.2.2.2.1, r29.1.1.2.1.2.2.2.2.2.1, ()), (r29.1.1.2.2.1.1, r12.1.1.2.2.1.2.1, r29.1.1.2.2.1.2.2.1, r12.1.1.2.2.1.2.2.2.1, r12.1.1.2.2.1.2.2.2.2.1, r12.1.1.2.2.1.2.2.2.2.2.1, r29.1.1.2.2.1.2.2.2.2.2.2.1, ()), (((r12.1.1.2.2.2.1.1.1.1, r29.1.1.2.2.2.1.1.1.2.1, ()), r29.1.1.2.2.2.1.1.2.1, r12.1.1.2.2.2.1.1.2.2.1, r29.1.1.2.2.2.1.1.2.2.2.1, r12.1.1.2.2.2.1.1.2.2.2.2), r12.1.1.2.2.2.1.2.1, r29.1.1.2.2.2.1.2.2.1, r12.1.1.2.2.2.1.2.2.2), r12.1.1.2.2.2.2), (r29.1.2.1.1, r12.1.2.1.2), r12.1.2.2) 1) fun r40 =>
 (cond (decide (r40.1 < 0))
 (some (false, ()))
 (ob (YG r30.1 r40.1) fun r41 =>
 (cond (decide (r41.1 < 0))
 (some (false, ()))
 (cond (r41.1 != r30.2.1)
 (some (false, ()))
 (some (true, ())))))))))))))))))))))))))))))))))))))))))))))))))))))))))))))))))))
end
end KF
