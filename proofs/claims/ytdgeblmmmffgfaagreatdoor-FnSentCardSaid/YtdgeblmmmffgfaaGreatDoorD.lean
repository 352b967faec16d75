/- An evaluator of Go functions on plain data, its soundness, and plain laws on what the functions compute, part 4 (conditions: as each lemma tells). -/
import Derived.Test.YtdgeblmmmffgfaaGreatDoorC
set_option linter.unusedSimpArgs false
set_option linter.unusedVariables false
namespace KF
open Go
open List renaming length → ja, getElem?_eq_getElem → je, append → jf, mem_append → jl, mem_cons → jp, mem_cons_of_mem → jr, length_cons → jw, set → j6, length_nil → j7, length_set → j8, mem_singleton → qd, length_append → qe, getElem?_append_left → qg, getElem?_append_right → qh, getD_eq_getElem?_getD → qi, getElem_mem → qp, mem_of_mem_drop → qq, getElem_of_mem → qr, mem_map → qs, length_drop → qt, mem_cons_self → qv
open Option renaming bind_some → jb, bind → jz, map_some → qc, bind_eq_some_iff → qf
open Option.some renaming injEq → jc
open Bool renaming and_eq_true → jd, not_true → jg, true_and → jk, false_eq_true → jq, not_false → j9, not_eq_true → qa, false_and → qn, eq_iff_iff → qu
open Prod.mk renaming injEq → jh
open Nat renaming ble_eq_true_of_le → ji, mul_le_mul_right → jm, le_refl → jo, zero_add → js, add_assoc → jt, eq_of_beq_eq_true → ju, ble → jx, le_trans → qb, lt_of_lt_of_le → qk, pow_le_pow_right → ql, testBit_two_pow → qm, xor_lt_two_pow → qo
open Int renaming toNat_natCast → jn, eq_ofNat_of_zero_le → jv, toNat → jy
open Go.IntKind renaming wrap → j4, wrap → j5
open Sum renaming elim_inl → qj
open Result renaming andThen_ok → qw
open Sem renaming run_bind → qx
abbrev int : Ty := .i .i64
abbrev Zo : Ty := .i .u8
abbrev Df : Ty := (.p int (.p int .u))
abbrev Jb : Type := (Int × (Int × Unit))
abbrev Hb : Ty := (.p int (.p (.sl int) .u))
abbrev Aa : Type := (Int × ((List Int) × Unit))
abbrev Xi : Ty := (.p int (.p int (.p .b .u)))
abbrev Ia : Type := (Int × (Int × (Bool × Unit)))
abbrev Xc : Ty := (.p int Df)
abbrev Kb : Type := (Int × Jb)
abbrev Re : Type := ((List (List Int)) × ((List Int) × Unit))
abbrev Oe : Ty := (.p (.sl Zo) Df)
abbrev Ta : Type := ((List Int) × Jb)
abbrev Lc : Ty := (.p int Xc)
abbrev La : Type := (Int × Kb)
abbrev Yi : Type := (Bool × Kb)
abbrev Pg : Ty := (.p int (.p Hb .u))
abbrev Rd : Type := (Int × (Aa × Unit))
abbrev Oj : Ty := (.p int (.p Lc .u))
abbrev Ja : Type := (Int × (La × Unit))
abbrev CC : Type := (Int × (Int × (Int × (Int × Aa))))
abbrev Qb : Ty := (.p int (.p (.sl (.sl Lc)) .u))
abbrev Ab : Type := (Int × ((List (List La)) × Unit))
abbrev Om : Type := ((List Jb) × (Int × ((List Ia) × (Int × (Int × (Int × ((List Ia) × Unit)))))))
abbrev Ub : Ty := (.p Qb (.p (.sl (.sl Xc)) (.p int (.p (.sl Oj) (.p int (.p .b .u))))))
abbrev Va : Type := (Ab × ((List (List Kb)) × (Int × ((List Ja) × (Int × (Bool × Unit))))))
abbrev Dc : Ty := (.p Ub (.p Xc (.p (.sl Xi) Lc)))
abbrev Qa : Type := (Va × (Kb × ((List Ia) × La)))
abbrev OV : Type := (Ia × (CC × (Om × (Qa × Jb))))
abbrev PK : Type := Ia
abbrev Sx : Type := Kb
def FI : List UInt8 := [97, 32, 98, 32, 99, 32, 100, 32, 101, 32, 102, 32, 103, 32, 104, 32, 105, 32, 106, 32, 107, 32, 108, 32, 109, 32, 110, 32, 111, 32, 112, 32, 113, 32, 114, 32, 115, 32, 116, 32, 117, 32, 118, 32, 119, 32, 120, 32, 121, 32, 122, 32, 49, 32, 50, 32, 51, 32, 52, 32, 53, 32, 54, 32, 55, 32, 56, 32, 57, 32, 48, 32, 101, 110, 116, 101, 114, 32, 101, 115, 99, 32, 98, 97, 99, 107, 32, 116, 97, 98, 32, 115, 112, 97, 99, 101, 32, 109, 105, 110, 117, 115, 32, 101, 113, 117, 97, 108, 32, 108, 101, 102, 116, 32, 114, 105, 103, 104, 116, 32, 117, 112, 32, 100, 111, 119, 110, 32, 102, 49, 32, 102, 50, 32, 102, 51, 32, 102, 52, 32, 102, 53, 32, 102, 54, 32, 102, 55, 32, 102, 56, 32, 102, 57]
def Ri : List UInt8 := [115, 112, 97, 99, 101]
def Pi : List UInt8 := [109, 105, 110, 117, 115]
def Oi : List UInt8 := [101, 113, 117, 97, 108]
def Qi : List UInt8 := [101, 110, 116, 101, 114]
def Dl : List UInt8 := [33, 64, 35, 36, 37, 94, 38, 42, 40, 41]
def Jc : List UInt8 := [48, 49, 50, 51, 52, 53, 54, 55, 56, 57, 97, 98, 99, 100, 101, 102]
noncomputable section
open Option renaming bind → ob
open Go.IntKind renaming wrap → wr
open Int renaming toNat → tn
open List renaming length → ln, append → ap, set → ls
open Sum renaming elim → se
open Nat renaming ble → bl
abbrev Tf : Type := Int × Unit
abbrev Se : Type := Bool × Unit
abbrev Uf : Type := Unit × Unit
abbrev Gf : Type := List Int
abbrev Pj : Type := List UInt8
abbrev Kh : Type := List Ia
abbrev Qv : Type := Ab × Unit
abbrev Ah : Type := List Aa
abbrev DC : Type := List Jb
abbrev Dd : Type := List Ja
abbrev Nh : Type := Va × Unit
abbrev UD : Type := Unit × Jb
abbrev Sh : Type := List Rd
abbrev Sw : Type := Unit × Tf
abbrev CP : Type := Gf × Jb
abbrev Tw : Type := Se × Unit
abbrev Vj : Type := Aa × Unit
abbrev Fq : Type := Aa × Vj
abbrev Ch : Type := List Kb
abbrev VU : Type := (Tf × Unit) ⊕ Uf
abbrev Bo : Type := List La
abbrev VD : Type := Int × (Kh × Jb)
abbrev WU : Type := DC × Jb
abbrev MG : Type := Gf × Unit
abbrev NG : Type := Ab × Qv
abbrev EC : Type := Qa × Unit
abbrev Ms : Type := List Pj
abbrev XU : Type := Kh × Unit
abbrev H3 : Type := (Dd × (Unit × (Unit × (Gf × (Int × (Bool × Tf)))))) × Fq
abbrev AA : Type := Pj × Unit
abbrev YU : Type := Gf × Tf
abbrev QK : Type := Unit × Uf
abbrev DP : Type := Unit × Sw
abbrev OG : Type := Uf ⊕ Tw
abbrev ZU : Type := Int × Se
abbrev Rae : Type := Unit × Kb
abbrev Sae : Type := Int × ((List Bo) × (Int × (Int × (Bo × Jb))))
abbrev EP : Type := Jb × Unit
abbrev RK : Type := Uf ⊕ (Tf × Unit)
abbrev XD : Type := Kb × Unit
abbrev SK : Type := Int × Sw
abbrev GP : Type := (List Bo) × Jb
abbrev Co : Type := List Ch
abbrev Ay : Type := La × Unit
abbrev YD : Type := Ah × Unit
abbrev HP : Type := Unit × (Sh × Unit)
abbrev Tae : Type := Unit × XU
abbrev PG : Type := (Dd × DP) × Fq
abbrev AV : Type := Unit × DP
abbrev I3 : Type := Va × Nh
abbrev Uae : Type := Unit × CP
abbrev IP : Type := Ta × NG
abbrev BV : Type := (Int × SK) × Qv
abbrev J3 : Type := Int × CP
abbrev FC : Type := Ta × Unit
abbrev Vae : Type := Va × (Ah × Se)
abbrev GC : Type := Dd × Jb
abbrev WD : Type := (Int × GC) × Unit
abbrev K3 : Type := (MG × Unit) ⊕ Uf
abbrev CV : Type := (YD × Unit) ⊕ Uf
abbrev L3 : Type := ((Unit × (Unit × MG)) × Fq) ⊕ Uf
abbrev QG : Type := Ta × EC
abbrev Wae : Type := (Unit × (Int × (Unit × (Int × (Unit × (Int × (Bo × Tf))))))) × IP
abbrev N3 : Type := Ms × Unit
abbrev TK : Type := Gf × CP
abbrev Xae : Type := Unit × YU
abbrev O3 : Type := Unit × QK
abbrev Yae : Type := H3 ⊕ (((Dd × (Unit × (Unit × (Gf × ZU)))) × Fq) ⊕ Uf)
abbrev P3 : Type := (Unit × HP) × (Qa × EC)
abbrev DV : Type := DC × (Ch × Jb)
abbrev Zae : Type := (AA × Unit) ⊕ Uf
abbrev Aaf : Type := (Gf × Ta) × Unit
abbrev BP : Type := Sh × Jb
abbrev P5 : Type := (Unit × (Int × (Unit × (Co × Tf)))) × (Ta × Nh)
abbrev Q5 : Type := (Unit × (Sh × (Int × ((Ah × Int) × Tf)))) × EC
abbrev R5 : Type := (Unit × (Pj × (Unit × (Ah × (Int × J3))))) × Fq
abbrev S5 : Type := Unit × (Int × DP)
abbrev Xe : Qa := (((0, [], ()), [], 0, [], 0, false, ()), (0, 0, 0, ()), [], 0, 0, 0, 0, ())
abbrev Zp : Va := ((0, [], ()), [], 0, [], 0, false, ())
def Qc (a0 : Int) (a1 : Int) (a2 : Int) : Option Se :=
 (cond (decide (a0 ≥ a1))
 (some ((decide (a0 ≤ a2)), ()))
 (some (false, ())))
def XA (a0 : Aa) : Option Vj :=
 (cond (bl (ln ([] : List Int) + ln a0.2.1) Ya)
 (some ((a0.1, (ap [] a0.2.1), ()), ()))
 none)
def Gm (a0 : Gf) : Option MG :=
 (cond (bl (ln ([] : List Int) + ln a0) Ya)
 (some ((ap [] a0), ()))
 none)
def Ys (a0 : Aa) : Option Vj :=
 (ob (Gm a0.2.1) fun r1 =>
 (some ((a0.1, r1.1, ()), ())))
def Sm (t3 : Ah) (t6 : Sh) (t7 : Int) (t8 : Int) : Option (((Ah × BP) × Unit) ⊕ CV) :=
 (cond (decide (t8 < t7))
 (ob (Wb t6 t8) fun x7 =>
 (ob (Ys x7.2.1) fun r8 =>
 (cond (bl (ln t3 + ln ([r8.1] : List Aa)) Ya)
 (some (.inl (((ap t3 ([r8.1] : List Aa)), t6, t7, (wr .i64 (t8 + 1)), ()), ())))
 none)))
 (some (.inr (.inl ((t3, ()), ())))))
def Hp := Mb fun x : ((Ah × BP) × Unit) => Sm x.1.1 x.1.2.1 x.1.2.2.1 x.1.2.2.2.1
def Gp (a0 : Sh) : Option YD :=
 (ob (Hp (([], a0, ((ln a0 : Nat) : Int), 0, ()), ())) (se (fun y9 => (some (y9.1.1, ()))) (fun z10 => none)))
def Ni (a0 : La) : Option Se :=
 (ob (Qc a0.2.1 1 56) fun r1 =>
 (ob (Qc a0.2.2.1 1 15) fun r2 =>
 (ob (Qc a0.2.2.2.1 1 3) fun r3 =>
 (cond (a0.1 == 0)
 (cond (a0.2.1 == 0)
 (cond (a0.2.2.1 == 0)
 (some ((a0.2.2.2.1 == 0), ()))
 (some (false, ())))
 (some (false, ())))
 (cond (a0.1 == 1)
 (cond (a0.2.1 == 0)
 (cond (a0.2.2.1 == 0)
 (some ((a0.2.2.2.1 == 0), ()))
 (some (false, ())))
 (some (false, ())))
 (cond (a0.1 == 10)
 (cond (a0.2.1 == 0)
 (cond (a0.2.2.1 == 0)
 (some ((a0.2.2.2.1 == 0), ()))
 (some (false, ())))
 (some (false, ())))
 (cond (a0.1 == 2)
 (cond (a0.2.2.2.1 == 0)
 (cond r1.1
 (cond r2.1
 (some (true, ()))
 (some ((a0.2.2.1 == 0), ())))
 (cond (a0.2.1 == 0)
 (cond r2.1
 (cond r2.1
 (some (true, ()))
 (some ((a0.2.2.1 == 0), ())))
 (some (false, ())))
 (some (false, ()))))
 (some (false, ())))
 (cond (a0.1 == 3)
 (cond r3.1
 (cond (a0.2.1 == 0)
 (some ((a0.2.2.1 == 0), ()))
 (some (false, ())))
 (some (false, ())))
 (cond (a0.1 == 4)
 (cond r3.1
 (cond (a0.2.1 == 0)
 (some ((a0.2.2.1 == 0), ()))
 (some (false, ())))
 (some (false, ())))
 (cond (a0.1 == 5)
 (ob (Qc a0.2.2.2.1 0 3) fun r4 =>
 (cond r4.1
 (cond (a0.2.1 == 0)
 (some ((a0.2.2.1 == 0), ()))
 (some (false, ())))
 (some (false, ()))))
 (cond (a0.1 == 9)
 (ob (Qc a0.2.2.2.1 0 3) fun r5 =>
 (cond r5.1
 (cond (a0.2.1 == 0)
 (some ((a0.2.2.1 == 0), ()))
 (some (false, ())))
 (some (false, ()))))
 (cond (a0.1 == 6)
 (cond r1.1
 (cond r2.1
 (some ((a0.2.2.2.1 == 0), ()))
 (some (false, ())))
 (some (false, ())))
 (cond (a0.1 == 7)
 (cond r1.1
 (cond r3.1
 (some ((a0.2.2.1 == 0), ()))
 (some (false, ())))
 (some (false, ())))
 (cond (a0.1 == 8)
 (cond r2.1
 (cond (a0.2.1 == 0)
 (some ((a0.2.2.2.1 == 0), ()))
 (some (false, ())))
 (some (false, ())))
 (some (false, ()))))))))))))))))
def Bw (t1 : Unit) (t3 : Int) (t4 : Int) (b1 : Ab) : Option ((UD × Qv) ⊕ ((Sw × Qv) ⊕ Tw)) :=
 (ob (Wb b1.2.1 t3) fun x40 =>
 (cond (decide (t4 < ((ln x40 : Nat) : Int)))
 (ob (Wb b1.2.1 t3) fun x41 =>
 (ob (Wb x41 t4) fun x42 =>
 (ob (Ni x42) fun r43 =>
 (cond (!r43.1)
 (some (.inr (.inr ((false, ()), ()))))
 (cond (x42.1 == 1)
 (cond (t3 == 0)
 (some (.inr (.inr ((false, ()), ()))))
 (cond (x42.1 != 9)
 (cond (decide (x42.2.2.2.1 ≥ ((ln b1.2.1 : Nat) : Int)))
 (some (.inr (.inr ((false, ()), ()))))
 (some (.inl (((), t3, (wr .i64 (t4 + 1)), ()), (b1, ())))))
 (some (.inl (((), t3, (wr .i64 (t4 + 1)), ()), (b1, ()))))))
 (cond (x42.1 != 9)
 (cond (decide (x42.2.2.2.1 ≥ ((ln b1.2.1 : Nat) : Int)))
 (some (.inr (.inr ((false, ()), ()))))
 (some (.inl (((), t3, (wr .i64 (t4 + 1)), ()), (b1, ())))))
 (some (.inl (((), t3, (wr .i64 (t4 + 1)), ()), (b1, ()))))))))))
 (some (.inr (.inl (((), t3, ()), (b1, ())))))))
def Tk := Mb fun x : (UD × Qv) => Bw x.1.1 x.1.2.1 x.1.2.2.1 x.2.1
def Aw (t1 : Unit) (t3 : Int) (b1 : Ab) : Option ((Sw × Qv) ⊕ ((Uf × Qv) ⊕ Tw)) :=
 (cond (decide (t3 < ((ln b1.2.1 : Nat) : Int)))
 (ob (Wb b1.2.1 t3) fun x31 =>
 (cond (((ln x31 : Nat) : Int) != b1.1)
 (some (.inr (.inr ((false, ()), ()))))
 (ob (Tk (((), t3, 0, ()), (b1, ()))) (se (fun y44 => (some (.inl (((), (wr .i64 (y44.1.2.1 + 1)), ()), (y44.2.1, ()))))) (fun z45 => (some (.inr (.inr ((z45.1.1, ()), ())))))))))
 (some (.inr (.inl (((), ()), (b1, ()))))))
def Sk := Mb fun x : (Sw × Qv) => Aw x.1.1 x.1.2.1 x.2.1
def Tr (a0 : Ab) : Option Se :=
 (ob (Sk (((), 0, ()), (a0, ()))) (se (fun y46 => (ob (Qc y46.2.1.1 1 32) fun r48 =>
 (cond r48.1
 (ob (Qc ((ln y46.2.1.2.1 : Nat) : Int) 1 4) fun r49 =>
 (some (r49.1, ())))
 (some (false, ()))))) (fun z47 => (some (z47.1.1, ())))))
def Xk (a0 : Int) : Option Se :=
 (cond (decide (a0 ≥ 1))
 (some ((decide (a0 ≤ 56)), ()))
 (some (false, ())))
def Sn (a0 : Int) : Option Se :=
 (cond (decide (a0 ≥ 1))
 (some ((decide (a0 ≤ 15)), ()))
 (some (false, ())))
def Mp (a0 : Int) : Option Se :=
 (cond (decide (a0 ≥ 1))
 (some ((decide (a0 ≤ 3)), ()))
 (some (false, ())))
def Li (a0 : La) : Option Se :=
 (cond (a0.1 == 0)
 (cond (a0.2.1 == 0)
 (cond (a0.2.2.1 == 0)
 (some ((a0.2.2.2.1 == 0), ()))
 (some (false, ())))
 (some (false, ())))
 (cond (a0.1 == 1)
 (cond (a0.2.1 == 0)
 (cond (a0.2.2.1 == 0)
 (some ((a0.2.2.2.1 == 0), ()))
 (some (false, ())))
 (some (false, ())))
 (cond (a0.1 == 10)
 (cond (a0.2.1 == 0)
 (cond (a0.2.2.1 == 0)
 (some ((a0.2.2.2.1 == 0), ()))
 (some (false, ())))
 (some (false, ())))
 (cond (a0.1 == 2)
 (cond (a0.2.2.2.1 == 0)
 (cond (a0.2.1 == 0)
 (cond (a0.2.2.1 == 0)
 (cond (a0.2.1 != 0)
 (some (true, ()))
 (some ((a0.2.2.1 != 0), ())))
 (ob (Sn a0.2.2.1) fun r1 =>
 (cond r1.1
 (cond (a0.2.1 != 0)
 (some (true, ()))
 (some ((a0.2.2.1 != 0), ())))
 (some (false, ())))))
 (ob (Xk a0.2.1) fun r2 =>
 (cond r2.1
 (cond (a0.2.2.1 == 0)
 (cond (a0.2.1 != 0)
 (some (true, ()))
 (some ((a0.2.2.1 != 0), ())))
 (ob (Sn a0.2.2.1) fun r3 =>
 (cond r3.1
 (cond (a0.2.1 != 0)
 (some (true, ()))
 (some ((a0.2.2.1 != 0), ())))
 (some (false, ())))))
 (some (false, ())))))
 (some (false, ())))
 (cond (a0.1 == 3)
 (cond (a0.2.1 == 0)
 (cond (a0.2.2.1 == 0)
 (ob (Mp a0.2.2.2.1) fun r4 =>
 (some (r4.1, ())))
 (some (false, ())))
 (some (false, ())))
 (cond (a0.1 == 4)
 (cond (a0.2.1 == 0)
 (cond (a0.2.2.1 == 0)
 (ob (Mp a0.2.2.2.1) fun r5 =>
 (some (r5.1, ())))
 (some (false, ())))
 (some (false, ())))
 (cond (a0.1 == 5)
 (cond (a0.2.1 == 0)
 (cond (a0.2.2.1 == 0)
 (cond (decide (a0.2.2.2.1 ≥ 0))
 (some ((decide (a0.2.2.2.1 ≤ 3)), ()))
 (some (false, ())))
 (some (false, ())))
 (some (false, ())))
 (cond (a0.1 == 9)
 (cond (a0.2.1 == 0)
 (cond (a0.2.2.1 == 0)
 (cond (decide (a0.2.2.2.1 ≥ 0))
 (some ((decide (a0.2.2.2.1 ≤ 3)), ()))
 (some (false, ())))
 (some (false, ())))
 (some (false, ())))
 (cond (a0.1 == 6)
 (ob (Xk a0.2.1) fun r6 =>
 (cond r6.1
 (ob (Sn a0.2.2.1) fun r7 =>
 (cond r7.1
 (some ((a0.2.2.2.1 == 0), ()))
 (some (false, ()))))
 (some (false, ()))))
 (cond (a0.1 == 7)
 (ob (Xk a0.2.1) fun r8 =>
 (cond r8.1
 (cond (a0.2.2.1 == 0)
 (ob (Mp a0.2.2.2.1) fun r9 =>
 (some (r9.1, ())))
 (some (false, ())))
 (some (false, ()))))
 (cond (a0.1 == 8)
 (cond (a0.2.1 == 0)
 (ob (Sn a0.2.2.1) fun r10 =>
 (cond r10.1
 (some ((a0.2.2.2.1 == 0), ()))
 (some (false, ()))))
 (some (false, ())))
 (some (false, ())))))))))))))
def Vv (t1 : Unit) (t3 : Int) (t28 : (List Bo)) (t29 : Int) (t30 : Int) (t40 : Bo) (t41 : Int) (t42 : Int) (b1 : Ab) : Option (((Unit × Sae) × Qv) ⊕ (((Unit × GP) × Qv) ⊕ Tw)) :=
 (cond (decide (t42 < t41))
 (ob (Wb t40 t42) fun x24 =>
 (ob (Li x24) fun r25 =>
 (cond (!r25.1)
 (some (.inr (.inr ((false, ()), ()))))
 (cond (t3 == 0)
 (cond (x24.1 == 1)
 (some (.inr (.inr ((false, ()), ()))))
 (cond (x24.1 != 9)
 (cond (decide (x24.2.2.2.1 ≥ ((ln b1.2.1 : Nat) : Int)))
 (some (.inr (.inr ((false, ()), ()))))
 (some (.inl (((), t3, t28, t29, t30, t40, t41, (wr .i64 (t42 + 1)), ()), (b1, ())))))
 (some (.inl (((), t3, t28, t29, t30, t40, t41, (wr .i64 (t42 + 1)), ()), (b1, ()))))))
 (cond (x24.1 != 9)
 (cond (decide (x24.2.2.2.1 ≥ ((ln b1.2.1 : Nat) : Int)))
 (some (.inr (.inr ((false, ()), ()))))
 (some (.inl (((), t3, t28, t29, t30, t40, t41, (wr .i64 (t42 + 1)), ()), (b1, ())))))
 (some (.inl (((), t3, t28, t29, t30, t40, t41, (wr .i64 (t42 + 1)), ()), (b1, ())))))))))
 (some (.inr (.inl (((), t28, t29, t30, ()), (b1, ()))))))
def Nk := Mb fun x : ((Unit × Sae) × Qv) => Vv x.1.1 x.1.2.1 x.1.2.2.1 x.1.2.2.2.1 x.1.2.2.2.2.1 x.1.2.2.2.2.2.1 x.1.2.2.2.2.2.2.1 x.1.2.2.2.2.2.2.2.1 x.2.1
def Uv (t1 : Unit) (t28 : (List Bo)) (t29 : Int) (t30 : Int) (b1 : Ab) : Option (((Unit × GP) × Qv) ⊕ OG) :=
 (cond (decide (t30 < t29))
 (ob (Wb t28 t30) fun x19 =>
 (cond (((ln x19 : Nat) : Int) != b1.1)
 (some (.inr (.inr ((false, ()), ()))))
 (ob (Nk (((), t30, t28, t29, t30, x19, ((ln x19 : Nat) : Int), 0, ()), (b1, ()))) (se (fun y26 => (some (.inl (((), y26.1.2.1, y26.1.2.2.1, (wr .i64 (y26.1.2.2.2.1 + 1)), ()), (y26.2.1, ()))))) (fun z27 => (some (.inr (.inr ((z27.1.1, ()), ())))))))))
 (some (.inr (.inl ((), ())))))
def Mk := Mb fun x : ((Unit × GP) × Qv) => Uv x.1.1 x.1.2.1 x.1.2.2.1 x.1.2.2.2.1 x.2.1
def Nr (a0 : Ab) : Option Se :=
 (cond (decide (a0.1 < 1))
 (some (false, ()))
 (cond (decide (a0.1 > 32))
 (some (false, ()))
 (cond (decide (((ln a0.2.1 : Nat) : Int) < 1))
 (some (false, ()))
 (cond (decide (((ln a0.2.1 : Nat) : Int) > 4))
 (some (false, ()))
 (ob (Mk (((), a0.2.1, ((ln a0.2.1 : Nat) : Int), 0, ()), (a0, ()))) (se (fun y28 => (some (true, ()))) (fun z29 => (some (z29.1.1, ())))))))))
def Qz (a0 : Gf) : Option Se :=
 (some ((decide (((ln a0 : Nat) : Int) > 1048576)), ()))
def Uz (t0 : Gf) (t3 : Int) (t4 : Int) : Option (FC ⊕ ((YU × Unit) ⊕ Uf)) :=
 (cond (decide (t4 < ((ln t0 : Nat) : Int)))
 (cond (decide (t4 < 4000))
 (ob (Wb t0 t4) fun x3 =>
 (some (.inl ((t0, (Yf .i64 (wr .i64 ((wr .i64 ((wr .i64 (t3 * 131)) + (wr .i64 x3))) + 7)) 1073741823), (wr .i64 (t4 + 1)), ()), ()))))
 (some (.inr (.inl ((t0, t3, ()), ())))))
 (some (.inr (.inl ((t0, t3, ()), ())))))
def Cw := Mb fun x : FC => Uz x.1.1 x.1.2.1 x.1.2.2.1
def MC (a0 : Gf) : Option Ta :=
 (ob (Cw ((a0, (wr .i64 (10729 + ((ln a0 : Nat) : Int))), 0, ()), ())) (se (fun y4 => (some (y4.1.1, 0, y4.1.2.1, ()))) (fun z5 => none)))
def TA (a0 : Gf) (a1 : Int) : Option Ta :=
 (ob (MC a0) fun r1 =>
 (some (r1.1, r1.2.1, (wr .i64 (r1.2.2.1 + (wr .i64 (7919 * a1)))), r1.2.2.2)))
def Al (a0 : Ta) : Option (Ta × Tf) :=
 (cond (decide ((0 : Int) ≤ 33))
 (cond (decide ((0 : Int) ≤ 45))
 (cond (decide (a0.2.1 < ((ln a0.1 : Nat) : Int)))
 (ob (Wb a0.1 a0.2.1) fun x1 =>
 (some ((a0.1, (wr .i64 (a0.2.1 + 1)), (wr .i64 ((wr .i64 (a0.2.2.1 * 6364136223846793005)) + 1442695040888963407)), a0.2.2.2), ((Yf .i64 (wr .i64 ((Yf .i64 (Bh .i64 (Ci .i64 (wr .i64 ((wr .i64 (a0.2.2.1 * 6364136223846793005)) + 1442695040888963407)) 33) (Ci .i64 (wr .i64 ((wr .i64 (a0.2.2.1 * 6364136223846793005)) + 1442695040888963407)) 45)) 255) + (wr .i64 x1))) 255), ()))))
 (some ((a0.1, a0.2.1, (wr .i64 ((wr .i64 (a0.2.2.1 * 6364136223846793005)) + 1442695040888963407)), a0.2.2.2), ((Yf .i64 (Bh .i64 (Ci .i64 (wr .i64 ((wr .i64 (a0.2.2.1 * 6364136223846793005)) + 1442695040888963407)) 33) (Ci .i64 (wr .i64 ((wr .i64 (a0.2.2.1 * 6364136223846793005)) + 1442695040888963407)) 45)) 255), ()))))
 none)
 none)
def Bb (a0 : Ta) (a1 : Int) : Option (Ta × Tf) :=
 (cond (decide (a1 ≤ 0))
 (some (a0, (0, ())))
 (cond (decide (a1 ≤ 256))
 (ob (Al a0) fun r1 =>
 (cond (a1 == 0)
 none
 (some (r1.1, ((Int.tmod r1.2.1 a1), ())))))
 (ob (Al a0) fun r2 =>
 (ob (Al r2.1) fun r3 =>
 (ob (Al r3.1) fun r4 =>
 (ob (Al r4.1) fun r5 =>
 (cond (a1 == 0)
 none
 (some (r5.1, ((Int.tmod (wr .i64 ((wr .i64 ((wr .i64 ((wr .i64 (r2.2.1 * 16777216)) + (wr .i64 (r3.2.1 * 65536)))) + (wr .i64 (r4.2.1 * 256)))) + r5.2.1)) a1), ()))))))))))
def Ej (a0 : La) : Option Se :=
 (ob (Ni a0) fun r1 =>
 (cond r1.1
 (cond (a0.1 == 6)
 (some (true, ()))
 (some ((a0.1 == 7), ())))
 (some (false, ()))))
def LC (a0 : La) : Option Ay :=
 (ob (Ej a0) fun r1 =>
 (cond (!r1.1)
 (some (a0, ()))
 (some ((2, a0.2.1, 0, 0, ()), ()))))
def Bl (a0 : Ta) (a1 : Int) : Option (Ta × Se) :=
 (ob (Bb a0 a1) fun r1 =>
 (some (r1.1, ((r1.2.1 == 0), ()))))
def Fj (a0 : Ta) (a1 : Gf) : Option (Ta × Tf) :=
 (ob (Bb a0 ((ln a1 : Nat) : Int)) fun r1 =>
 (cond (Lh (ln a1) r1.2.1)
 (ob a1[(tn r1.2.1)]? fun x2 =>
 (some (r1.1, (x2, ()))))
 none))
def Tz (a0 : Ta) : Option (Ta × XD) :=
 (ob (Bb a0 9) fun r1 =>
 (ob (Fj r1.1 ([0, 0, 3, 6] : List Int)) fun r2 =>
 (ob (Bb r2.1 3) fun r3 =>
 (some (r3.1, (((wr .i64 (1 + r1.2.1)), r2.2.1, r3.2.1, ()), ()))))))
def strings_Split (a b : List UInt8) : Option (List Pj × Unit) := GY a b
def Ic (a0 : Int) : Option AA :=
 (cond (decide (a0 < 1))
 (some ([], ()))
 (cond (decide (a0 > 56))
 (some ([], ()))
 (ob (strings_Split FI ([32] : List UInt8)) fun r1 =>
 (cond (Lh (ln r1.1) (wr .i64 (a0 - 1)))
 (ob r1.1[(tn (wr .i64 (a0 - 1)))]? fun x2 =>
 (some (x2, ())))
 none))))
def Hj (a0 : Int) (a1 : Int) : Option AA :=
 (ob (Xk a0) fun r1 =>
 (cond (!r1.1)
 (some ([], ()))
 (cond (a1 != 0)
 (cond (a1 != 2)
 (some ([], ()))
 (cond (decide (a0 ≤ 26))
 (cond (a1 == 2)
 (some ((Nt ([(wr .u8 (wr .i64 ((wr .i64 (65 + a0)) - 1)))] : List Int)), ()))
 (cond (decide (a0 ≤ 26))
 (ob (Ic a0) fun r2 =>
 (some (r2.1, ())))
 (cond (decide (a0 ≤ 36))
 (cond (a1 == 2)
 (cond (De (ln Dl) (wr .i64 (a0 - 27)) (wr .i64 (a0 - 26)))
 (some ((Nb Dl (tn (wr .i64 (a0 - 27))) (tn (wr .i64 (a0 - 26)))), ()))
 none)
 (cond (decide (a0 ≤ 36))
 (ob (Ic a0) fun r3 =>
 (some (r3.1, ())))
 (ob (Ic a0) fun r4 =>
 (cond (r4.1 == Qi)
 (some (([10] : List UInt8), ()))
 (cond (r4.1 == ([116, 97, 98] : List UInt8))
 (some (([9] : List UInt8), ()))
 (cond (r4.1 == Ri)
 (some (([32] : List UInt8), ()))
 (cond (r4.1 == Pi)
 (cond (a1 == 2)
 (some (([95] : List UInt8), ()))
 (some (([45] : List UInt8), ())))
 (cond (r4.1 == Oi)
 (cond (a1 == 2)
 (some (([43] : List UInt8), ()))
 (some (([61] : List UInt8), ())))
 (some ([], ()))))))))))
 (cond (decide (a0 ≤ 36))
 (ob (Ic a0) fun r5 =>
 (some (r5.1, ())))
 (ob (Ic a0) fun r6 =>
 (cond (r6.1 == Qi)
 (some (([10] : List UInt8), ()))
 (cond (r6.1 == ([116, 97, 98] : List UInt8))
 (some (([9] : List UInt8), ()))
 (cond (r6.1 == Ri)
 (some (([32] : List UInt8), ()))
 (cond (r6.1 == Pi)
 (cond (a1 == 2)
 (some (([95] : List UInt8), ()))
 (some (([45] : List UInt8), ())))
 (cond (r6.1 == Oi)
 (cond (a1 == 2)
 (some (([43] : List UInt8), ()))
 (some (([61] : List UInt8), ())))
 (some ([], ()))))))))))))
 (cond (decide (a0 ≤ 26))
 (ob (Ic a0) fun r7 =>
 (some (r7.1, ())))
 (cond (decide (a0 ≤ 36))
 (cond (a1 == 2)
 (cond (De (ln Dl) (wr .i64 (a0 - 27)) (wr .i64 (a0 - 26)))
 (some ((Nb Dl (tn (wr .i64 (a0 - 27))) (tn (wr .i64 (a0 - 26)))), ()))
 none)
 (cond (decide (a0 ≤ 36))
 (ob (Ic a0) fun r8 =>
 (some (r8.1, ())))
 (ob (Ic a0) fun r9 =>
 (cond (r9.1 == Qi)
 (some (([10] : List UInt8), ()))
 (cond (r9.1 == ([116, 97, 98] : List UInt8))
 (some (([9] : List UInt8), ()))
 (cond (r9.1 == Ri)
 (some (([32] : List UInt8), ()))
 (cond (r9.1 == Pi)
 (cond (a1 == 2)
 (some (([95] : List UInt8), ()))
 (some (([45] : List UInt8), ())))
 (cond (r9.1 == Oi)
 (cond (a1 == 2)
 (some (([43] : List UInt8), ()))
 (some (([61] : List UInt8), ())))
 (some ([], ()))))))))))
 (cond (decide (a0 ≤ 36))
 (ob (Ic a0) fun r10 =>
 (some (r10.1, ())))
 (ob (Ic a0) fun r11 =>
 (cond (r11.1 == Qi)
 (some (([10] : List UInt8), ()))
 (cond (r11.1 == ([116, 97, 98] : List UInt8))
 (some (([9] : List UInt8), ()))
 (cond (r11.1 == Ri)
 (some (([32] : List UInt8), ()))
 (cond (r11.1 == Pi)
 (cond (a1 == 2)
 (some (([95] : List UInt8), ()))
 (some (([45] : List UInt8), ())))
 (cond (r11.1 == Oi)
 (cond (a1 == 2)
 (some (([43] : List UInt8), ()))
 (some (([61] : List UInt8), ())))
 (some ([], ())))))))))))))
 (cond (decide (a0 ≤ 26))
 (cond (a1 == 2)
 (some ((Nt ([(wr .u8 (wr .i64 ((wr .i64 (65 + a0)) - 1)))] : List Int)), ()))
 (cond (decide (a0 ≤ 26))
 (ob (Ic a0) fun r12 =>
 (some (r12.1, ())))
 (cond (decide (a0 ≤ 36))
 (cond (a1 == 2)
 (cond (De (ln Dl) (wr .i64 (a0 - 27)) (wr .i64 (a0 - 26)))
 (some ((Nb Dl (tn (wr .i64 (a0 - 27))) (tn (wr .i64 (a0 - 26)))), ()))
 none)
 (cond (decide (a0 ≤ 36))
 (ob (Ic a0) fun r13 =>
 (some (r13.1, ())))
 (ob (Ic a0) fun r14 =>
 (cond (r14.1 == Qi)
 (some (([10] : List UInt8), ()))
 (cond (r14.1 == ([116, 97, 98] : List UInt8))
 (some (([9] : List UInt8), ()))
 (cond (r14.1 == Ri)
 (some (([32] : List UInt8), ()))
 (cond (r14.1 == Pi)
 (cond (a1 == 2)
 (some (([95] : List UInt8), ()))
 (some (([45] : List UInt8), ())))
 (cond (r14.1 == Oi)
 (cond (a1 == 2)
 (some (([43] : List UInt8), ()))
 (some (([61] : List UInt8), ())))
 (some ([], ()))))))))))
 (cond (decide (a0 ≤ 36))
 (ob (Ic a0) fun r15 =>
 (some (r15.1, ())))
 (ob (Ic a0) fun r16 =>
 (cond (r16.1 == Qi)
 (some (([10] : List UInt8), ()))
 (cond (r16.1 == ([116, 97, 98] : List UInt8))
 (some (([9] : List UInt8), ()))
 (cond (r16.1 == Ri)
 (some (([32] : List UInt8), ()))
 (cond (r16.1 == Pi)
 (cond (a1 == 2)
 (some (([95] : List UInt8), ()))
 (some (([45] : List UInt8), ())))
 (cond (r16.1 == Oi)
 (cond (a1 == 2)
 (some (([43] : List UInt8), ()))
 (some (([61] : List UInt8), ())))
 (some ([], ()))))))))))))
 (cond (decide (a0 ≤ 26))
 (ob (Ic a0) fun r17 =>
 (some (r17.1, ())))
 (cond (decide (a0 ≤ 36))
 (cond (a1 == 2)
 (cond (De (ln Dl) (wr .i64 (a0 - 27)) (wr .i64 (a0 - 26)))
 (some ((Nb Dl (tn (wr .i64 (a0 - 27))) (tn (wr .i64 (a0 - 26)))), ()))
 none)
 (cond (decide (a0 ≤ 36))
 (ob (Ic a0) fun r18 =>
 (some (r18.1, ())))
 (ob (Ic a0) fun r19 =>
 (cond (r19.1 == Qi)
 (some (([10] : List UInt8), ()))
 (cond (r19.1 == ([116, 97, 98] : List UInt8))
 (some (([9] : List UInt8), ()))
 (cond (r19.1 == Ri)
 (some (([32] : List UInt8), ()))
 (cond (r19.1 == Pi)
 (cond (a1 == 2)
 (some (([95] : List UInt8), ()))
 (some (([45] : List UInt8), ())))
 (cond (r19.1 == Oi)
 (cond (a1 == 2)
 (some (([43] : List UInt8), ()))
 (some (([61] : List UInt8), ())))
 (some ([], ()))))))))))
 (cond (decide (a0 ≤ 36))
 (ob (Ic a0) fun r20 =>
 (some (r20.1, ())))
 (ob (Ic a0) fun r21 =>
 (cond (r21.1 == Qi)
 (some (([10] : List UInt8), ()))
 (cond (r21.1 == ([116, 97, 98] : List UInt8))
 (some (([9] : List UInt8), ()))
 (cond (r21.1 == Ri)
 (some (([32] : List UInt8), ()))
 (cond (r21.1 == Pi)
 (cond (a1 == 2)
 (some (([95] : List UInt8), ()))
 (some (([45] : List UInt8), ())))
 (cond (r21.1 == Oi)
 (cond (a1 == 2)
 (some (([43] : List UInt8), ()))
 (some (([61] : List UInt8), ())))
 (some ([], ())))))))))))))))
def Hl (a0 : La) : Option Se :=
 (ob (Li a0) fun r1 =>
 (cond r1.1
 (cond (a0.1 == 6)
 (some (true, ()))
 (some ((a0.1 == 7), ())))
 (some (false, ()))))
def HC (a0 : La) : Option Ay :=
 (ob (Hl a0) fun r1 =>
 (cond (!r1.1)
 (some (a0, ()))
 (some ((2, a0.2.1, 0, 0, ()), ()))))
def Wl (t2 : Unit) (t3 : Unit) (t10 : (List Bo)) (t11 : Int) (t12 : Int) (b2 : Ab) (b3 : Ab) : Option (((Unit × (Unit × GP)) × NG) ⊕ ((QK × NG) ⊕ Uf)) :=
 (cond (decide (t12 < t11))
 (ob (Wb t10 t12) fun x4 =>
 (cond (bl (ln ([] : List La) + ln x4) Ya)
 (cond (bl (ln b3.2.1 + ln ([(ap [] x4)] : List Bo)) Ya)
 (some (.inl (((), (), t10, t11, (wr .i64 (t12 + 1)), ()), (b2, (b3.1, (ap b3.2.1 ([(ap [] x4)] : List Bo)), ()), ()))))
 none)
 none))
 (some (.inr (.inl (((), (), ()), (b2, b3, ()))))))
def Qn := Mb fun x : ((Unit × (Unit × GP)) × NG) => Wl x.1.1 x.1.2.1 x.1.2.2.1 x.1.2.2.2.1 x.1.2.2.2.2.1 x.2.1 x.2.2.1
def Ws (a0 : Ab) : Option Qv :=
 (ob (Qn (((), (), a0.2.1, ((ln a0.2.1 : Nat) : Int), 0, ()), ((0, [], ()), (a0.1, [], ()), ()))) (se (fun y5 => (some (y5.2.2.1, ()))) (fun z6 => none)))
def Xl (t3 : Co) (t6 : Co) (t7 : Int) (t8 : Int) : Option (((Co × (Co × Jb)) × Unit) ⊕ (((Co × Unit) × Unit) ⊕ Uf)) :=
 (cond (decide (t8 < t7))
 (ob (Wb t6 t8) fun x4 =>
 (cond (bl (ln ([] : List Kb) + ln x4) Ya)
 (cond (bl (ln t3 + ln ([(ap [] x4)] : List Ch)) Ya)
 (some (.inl (((ap t3 ([(ap [] x4)] : List Ch)), t6, t7, (wr .i64 (t8 + 1)), ()), ())))
 none)
 none))
 (some (.inr (.inl ((t3, ()), ())))))
def Rn := Mb fun x : ((Co × (Co × Jb)) × Unit) => Xl x.1.1 x.1.2.1 x.1.2.2.1 x.1.2.2.2.1
def Xs (a0 : Co) : Option (Co × Unit) :=
 (ob (Rn (([], a0, ((ln a0 : Nat) : Int), 0, ()), ())) (se (fun y5 => (some (y5.1.1, ()))) (fun z6 => none)))
def Pn (a0 : Int) (a1 : Int) : Option Tf :=
 (cond (decide (0 ≤ a1))
 (some ((Yf .i64 (Ci .i64 a0 a1) 1), ()))
 none)
def Ss (t3 : Int) (t6 : Dd) (t7 : Int) (t8 : Int) : Option (WD ⊕ OG) :=
 (cond (decide (t8 < t7))
 (ob (Wb t6 t8) fun x7 =>
 (cond (decide (x7.1 < 0))
 (some (.inr (.inr ((false, ()), ()))))
 (cond (decide (x7.1 > 31))
 (some (.inr (.inr ((false, ()), ()))))
 (ob (Pn t3 x7.1) fun r8 =>
 (cond (r8.1 == 1)
 (some (.inr (.inr ((false, ()), ()))))
 (ob (Li x7.2.1) fun r9 =>
 (cond (!r9.1)
 (some (.inr (.inr ((false, ()), ()))))
 (cond (x7.2.1.1 == 1)
 (some (.inr (.inr ((false, ()), ()))))
 (cond (x7.2.1.1 == 6)
 (some (.inr (.inr ((false, ()), ()))))
 (cond (x7.2.1.1 == 7)
 (some (.inr (.inr ((false, ()), ()))))
 (cond (decide (0 ≤ x7.1))
 (some (.inl (((Nd .i64 t3 (Kd .i64 1 x7.1)), t6, t7, (wr .i64 (t8 + 1)), ()), ())))
 none)))))))))))
 (some (.inr (.inl ((), ())))))
def Yt := Mb fun x : WD => Ss x.1.1 x.1.2.1 x.1.2.2.1 x.1.2.2.2.1
def Ij (a0 : Dd) : Option Se :=
 (ob (Yt ((0, a0, ((ln a0 : Nat) : Int), 0, ()), ())) (se (fun y10 => (some (true, ()))) (fun z11 => (some (z11.1.1, ())))))
def Bt (t3 : Unit) (t7 : DC) (t8 : Int) (t9 : Int) (b3 : Jb) : Option (((Unit × WU) × EP) ⊕ RK) :=
 (cond (decide (t9 < t8))
 (ob (Wb t7 t9) fun x3 =>
 (cond (Ns Df x3 b3)
 (some (.inr (.inr ((t9, ()), ()))))
 (some (.inl (((), t7, t8, (wr .i64 (t9 + 1)), ()), (b3, ()))))))
 (some (.inr (.inl ((), ())))))
def Du := Mb fun x : ((Unit × WU) × EP) => Bt x.1.1 x.1.2.1 x.1.2.2.1 x.1.2.2.2.1 x.2.1
def Lw (a0 : DC) (a1 : Jb) : Option Tf :=
 (ob (Du (((), a0, ((ln a0 : Nat) : Int), 0, ()), (a1, ()))) (se (fun y4 => (some ((-1), ()))) (fun z5 => (some (z5.1.1, ())))))
def Ql (t3 : DC) (t11 : Ch) (t12 : Int) (t13 : Int) : Option ((DV × Unit) ⊕ (((DC × Unit) × Unit) ⊕ Tw)) :=
 (cond (decide (t13 < t12))
 (ob (Wb t11 t13) fun x10 =>
 (ob (Lw t3 x10.2) fun r11 =>
 (ob (Li (2, x10.2.1, x10.2.2.1, 0, ())) fun r12 =>
 (cond (!r12.1)
 (some (.inr (.inr ((false, ()), ()))))
 (cond (x10.1 == 0)
 (cond (decide (r11.1 ≥ 0))
 (some (.inr (.inr ((false, ()), ()))))
 (cond (x10.1 == 1)
 (cond (bl (ln t3 + ln ([x10.2] : List Jb)) Ya)
 (some (.inl (((ap t3 ([x10.2] : List Jb)), t11, t12, (wr .i64 (t13 + 1)), ()), ())))
 none)
 (some (.inl ((t3, t11, t12, (wr .i64 (t13 + 1)), ()), ())))))
 (cond (x10.1 == 1)
 (cond (decide (r11.1 ≥ 0))
 (some (.inr (.inr ((false, ()), ()))))
 (cond (x10.1 == 1)
 (cond (bl (ln t3 + ln ([x10.2] : List Jb)) Ya)
 (some (.inl (((ap t3 ([x10.2] : List Jb)), t11, t12, (wr .i64 (t13 + 1)), ()), ())))
 none)
 (some (.inl ((t3, t11, t12, (wr .i64 (t13 + 1)), ()), ())))))
 (cond (x10.1 == 2)
 (cond (decide (r11.1 < 0))
 (some (.inr (.inr ((false, ()), ()))))
 (cond (De (ln t3) 0 r11.1)
 (cond (De (ln t3) (wr .i64 (r11.1 + 1)) ((ln t3 : Nat) : Int))
 (cond (bl (ln (Nb t3 (tn 0) (tn r11.1)) + ln (Nb t3 (tn (wr .i64 (r11.1 + 1))) (tn ((ln t3 : Nat) : Int)))) Ya)
 (some (.inl (((ap (Nb t3 (tn 0) (tn r11.1)) (Nb t3 (tn (wr .i64 (r11.1 + 1))) (tn ((ln t3 : Nat) : Int)))), t11, t12, (wr .i64 (t13 + 1)), ()), ())))
 none)
 none)
 none))
 (some (.inr (.inr ((false, ()), ())))))))))))
 (some (.inr (.inl ((t3, ()), ())))))
def Cs := Mb fun x : (DV × Unit) => Ql x.1.1 x.1.2.1 x.1.2.2.1 x.1.2.2.2.1
def Zt (a0 : Ch) : Option Se :=
 (cond (decide (((ln a0 : Nat) : Int) > 8))
 (some (false, ()))
 (ob (Cs (([], a0, ((ln a0 : Nat) : Int), 0, ()), ())) (se (fun y13 => (some ((((ln y13.1.1 : Nat) : Int) == 0), ()))) (fun z14 => (some (z14.1.1, ()))))))
def Ho (t1 : Unit) (t35 : Co) (t36 : Int) (t37 : Int) (b1 : Va) : Option (((Unit × (Co × Jb)) × Nh) ⊕ ((Uf × Nh) ⊕ Tw)) :=
 (cond (decide (t37 < t36))
 (ob (Wb t35 t37) fun x7 =>
 (ob (Zt x7) fun r8 =>
 (cond (!r8.1)
 (some (.inr (.inr ((false, ()), ()))))
 (some (.inl (((), t35, t36, (wr .i64 (t37 + 1)), ()), (b1, ())))))))
 (some (.inr (.inl (((), ()), (b1, ()))))))
def Lk := Mb fun x : ((Unit × (Co × Jb)) × Nh) => Ho x.1.1 x.1.2.1 x.1.2.2.1 x.1.2.2.2.1 x.2.1
def Rm (t1 : Unit) (t5 : Int) (t50 : Dd) (t51 : Int) (t52 : Int) (b1 : Va) : Option (((Unit × (Int × GC)) × Nh) ⊕ ((Sw × Nh) ⊕ Tw)) :=
 (cond (decide (t52 < t51))
 (ob (Wb t50 t52) fun x13 =>
 (cond (decide (x13.1 ≥ b1.1.1))
 (some (.inr (.inr ((false, ()), ()))))
 (cond (x13.2.1.1 != 9)
 (cond (decide (x13.2.1.2.2.2.1 ≥ t5))
 (some (.inr (.inr ((false, ()), ()))))
 (some (.inl (((), t5, t50, t51, (wr .i64 (t52 + 1)), ()), (b1, ())))))
 (some (.inl (((), t5, t50, t51, (wr .i64 (t52 + 1)), ()), (b1, ())))))))
 (some (.inr (.inl (((), t5, ()), (b1, ()))))))
def Xj := Mb fun x : ((Unit × (Int × GC)) × Nh) => Rm x.1.1 x.1.2.1 x.1.2.2.1 x.1.2.2.2.1 x.1.2.2.2.2.1 x.2.1
def Ww (a0 : Va) : Option Se :=
 (ob (Nr a0.1) fun r1 =>
 (cond (!r1.1)
 (some (false, ()))
 (cond (decide (((ln a0.2.1 : Nat) : Int) > 4))
 (some (false, ()))
 (ob (Ij a0.2.2.2.1) fun r2 =>
 (cond (!r2.1)
 (some (false, ()))
 (cond (decide (a0.2.2.2.2.1 < 0))
 (some (false, ()))
 (cond (decide (a0.2.2.2.2.1 > 15))
 (some (false, ()))
 (ob (Lk (((), a0.2.1, ((ln a0.2.1 : Nat) : Int), 0, ()), (a0, ()))) (se (fun y9 => (ob (Xj (((), ((ln y9.2.1.1.2.1 : Nat) : Int), y9.2.1.2.2.2.1, ((ln y9.2.1.2.2.2.1 : Nat) : Int), 0, ()), (y9.2.1, ()))) (se (fun y14 => (cond (decide (y14.2.1.2.2.1 ≥ 0))
 (cond ((2 : Int) == 0)
 none
 (cond ((Int.tmod y14.2.1.2.2.1 2) == 0)
 (cond (decide (0 ≤ y14.1.2.1))
 (some ((decide (y14.2.1.2.2.1 < (Kd .i64 1 y14.1.2.1))), ()))
 none)
 (some (false, ()))))
 (some (false, ())))) (fun z15 => (some (z15.1.1, ())))))) (fun z10 => (some (z10.1.1, ()))))))))))))
def Bi (a0 : Va) : Option Nh :=
 (ob (Ws a0.1) fun r1 =>
 (ob (Xs a0.2.1) fun r2 =>
 (cond (bl (ln ([] : List Ja) + ln a0.2.2.2.1) Ya)
 (some ((r1.1, r2.1, a0.2.2.1, (ap [] a0.2.2.2.1), a0.2.2.2.2), ()))
 none)))
def Pr (a0 : Kb) : Option Se :=
 (cond (decide (a0.1 ≥ 1))
 (cond (decide (a0.1 ≤ 1000))
 (cond (decide (a0.2.1 ≥ 0))
 (cond (decide (a0.2.1 ≤ 1000))
 (cond (decide (a0.2.2.1 ≥ 0))
 (some ((decide (a0.2.2.1 ≤ 2)), ()))
 (some (false, ())))
 (some (false, ())))
 (some (false, ())))
 (some (false, ())))
 (some (false, ())))
def Lo (t3 : Int) (t6 : Dd) (t7 : Int) (t8 : Int) : Option (WD ⊕ VU) :=
 (cond (decide (t8 < t7))
 (ob (Wb t6 t8) fun x3 =>
 (cond (decide (0 ≤ x3.1))
 (some (.inl (((Nd .i64 t3 (Kd .i64 1 x3.1)), t6, t7, (wr .i64 (t8 + 1)), ()), ())))
 none))
 (some (.inr (.inl ((t3, ()), ())))))
def Rq := Mb fun x : WD => Lo x.1.1 x.1.2.1 x.1.2.2.1 x.1.2.2.2.1
def Hm (a0 : Dd) : Option Tf :=
 (ob (Rq ((0, a0, ((ln a0 : Nat) : Int), 0, ()), ())) (se (fun y4 => (some (y4.1.1, ()))) (fun z5 => none)))
def Xt (a0 : Ia) : Option Se :=
 (cond (decide (a0.1 ≥ 0))
 (cond (decide (a0.1 ≤ 1000000))
 (cond (decide (a0.2.1 ≥ 0))
 (some ((decide (a0.2.1 ≤ 31)), ()))
 (some (false, ())))
 (some (false, ())))
 (some (false, ())))
def Zs (t0 : Kh) (t1 : Int) (t11 : Kh) (t12 : Int) (t13 : Int) : Option (((Kh × VD) × Unit) ⊕ ((Tf × Unit) ⊕ (ZU × Unit))) :=
 (cond (decide (t13 < t12))
 (ob (Wb t11 t13) fun x11 =>
 (ob (Xt x11) fun r12 =>
 (cond (!r12.1)
 (some (.inr (.inr ((0, false, ()), ()))))
 (cond (decide (t13 > 0))
 (ob (Wb t0 (wr .i64 (t13 - 1))) fun x13 =>
 (cond (decide (x13.1 > x11.1))
 (some (.inr (.inr ((0, false, ()), ()))))
 (ob (Pn t1 x11.2.1) fun r14 =>
 (cond (x11.2.2.1 == (r14.1 == 1))
 (some (.inr (.inr ((0, false, ()), ()))))
 (cond (decide (0 ≤ x11.2.1))
 (some (.inl ((t0, (Bh .i64 t1 (Kd .i64 1 x11.2.1)), t11, t12, (wr .i64 (t13 + 1)), ()), ())))
 none)))))
 (ob (Pn t1 x11.2.1) fun r15 =>
 (cond (x11.2.2.1 == (r15.1 == 1))
 (some (.inr (.inr ((0, false, ()), ()))))
 (cond (decide (0 ≤ x11.2.1))
 (some (.inl ((t0, (Bh .i64 t1 (Kd .i64 1 x11.2.1)), t11, t12, (wr .i64 (t13 + 1)), ()), ())))
 none)))))))
 (some (.inr (.inl ((t1, ()), ())))))
def Au := Mb fun x : ((Kh × VD) × Unit) => Zs x.1.1 x.1.2.1 x.1.2.2.1 x.1.2.2.2.1 x.1.2.2.2.2.1
def MA (a0 : Kh) (a1 : Int) : Option ZU :=
 (cond (decide (((ln a0 : Nat) : Int) > 64))
 (some (0, false, ()))
 (ob (Au ((a0, a1, a0, ((ln a0 : Nat) : Int), 0, ()), ())) (se (fun y16 => (some (y16.1.1, true, ()))) (fun z17 => (some z17.1)))))
def Wm (t0 : Kh) (t1 : Int) (t2 : Int) (t11 : Kh) (t12 : Int) (t13 : Int) : Option (((Kh × (Int × VD)) × Unit) ⊕ (((Kh × Tf) × Unit) ⊕ Tw)) :=
 (cond (decide (t13 < t12))
 (ob (Wb t11 t13) fun x3 =>
 (cond (decide (x3.2.1 ≥ t2))
 (some (.inr (.inr ((false, ()), ()))))
 (some (.inl ((t0, t1, t2, t11, t12, (wr .i64 (t13 + 1)), ()), ())))))
 (some (.inr (.inl ((t0, t1, ()), ())))))
def Np := Mb fun x : ((Kh × (Int × VD)) × Unit) => Wm x.1.1 x.1.2.1 x.1.2.2.1 x.1.2.2.2.1 x.1.2.2.2.2.1 x.1.2.2.2.2.2.1
def Jl (a0 : Kh) (a1 : Int) (a2 : Int) : Option Se :=
 (ob (Np ((a0, a1, a2, a0, ((ln a0 : Nat) : Int), 0, ()), ())) (se (fun y4 => (ob (MA y4.1.1 y4.1.2.1) fun r6 =>
 (some (r6.2.1, ())))) (fun z5 => (some (z5.1.1, ())))))
def Il (a0 : Kh) (a1 : Int) : Option Se :=
 (cond (((ln a0 : Nat) : Int) == 0)
 (some (true, ()))
 (ob (Wb a0 (wr .i64 (((ln a0 : Nat) : Int) - 1))) fun x1 =>
 (some ((decide (x1.1 ≤ a1)), ()))))
def Gl (a0 : Qa) : Option Se :=
 (ob (Ww a0.1) fun r1 =>
 (cond (!r1.1)
 (some (false, ()))
 (ob (Pr a0.2.1) fun r2 =>
 (cond (!r2.1)
 (some (false, ()))
 (cond (decide (a0.2.2.2.1 < 0))
 (some (false, ()))
 (cond (decide (a0.2.2.2.1 > 1000000))
 (some (false, ()))
 (cond (decide (a0.2.2.2.2.1 < 0))
 (some (false, ()))
 (cond (decide (a0.2.2.2.2.1 > a0.2.2.2.1))
 (some (false, ()))
 (ob (Hm a0.1.2.2.2.1) fun r3 =>
 (ob (Jl a0.2.2.1 r3.1 a0.1.1.1) fun r4 =>
 (cond (!r4.1)
 (some (false, ()))
 (ob (Il a0.2.2.1 a0.2.2.2.1) fun r5 =>
 (cond (!r5.1)
 (some (false, ()))
 (cond (decide (a0.2.2.2.2.2.1 ≥ 0))
 (cond (decide (a0.2.2.2.2.2.1 ≤ a0.1.1.1))
 (cond (decide (a0.2.2.2.2.2.2.1 ≥ 0))
 (some ((decide (a0.2.2.2.2.2.2.1 ≤ a0.2.2.2.1)), ()))
 (some (false, ())))
 (some (false, ())))
 (some (false, ()))))))))))))))))
def Us (a0 : Va) (a1 : Kb) : Option (Qa × Se) :=
 (ob (Bi a0) fun r1 =>
 (ob (Gl (r1.1, a1, [], 0, 0, 0, 0, ())) fun r2 =>
 (cond (!r2.1)
 (some (Xe, false, ()))
 (some ((r1.1, a1, [], 0, 0, 0, 0, ()), true, ())))))
def Sl (a0 : Qa) : Option EC :=
 (ob (Bi a0.1) fun r1 =>
 (cond (bl (ln ([] : List Ia) + ln a0.2.2.1) Ya)
 (some ((r1.1, a0.2.1, (ap [] a0.2.2.1), a0.2.2.2), ()))
 none))
def Rs (t1 : Int) (t8 : Dd) (t9 : Int) (t10 : Int) : Option (WD ⊕ RK) :=
 (cond (decide (t10 < t9))
 (ob (Wb t8 t10) fun x3 =>
 (cond (x3.1 == t1)
 (some (.inr (.inr ((t10, ()), ()))))
 (some (.inl ((t1, t8, t9, (wr .i64 (t10 + 1)), ()), ())))))
 (some (.inr (.inl ((), ())))))
def Wt := Mb fun x : WD => Rs x.1.1 x.1.2.1 x.1.2.2.1 x.1.2.2.2.1
def JA (a0 : Va) (a1 : Int) : Option Tf :=
 (ob (Wt ((a1, a0.2.2.2.1, ((ln a0.2.2.2.1 : Nat) : Int), 0, ()), ())) (se (fun y4 => (some ((-1), ()))) (fun z5 => (some (z5.1.1, ())))))
def sort_Ints (x0 : Gf) : Option MG := srt x0
def At (t1 : Int) (t7 : Gf) (t8 : Int) (t9 : Int) : Option ((J3 × Unit) ⊕ OG) :=
 (cond (decide (t9 < t8))
 (ob (Wb t7 t9) fun x3 =>
 (cond (x3 == t1)
 (some (.inr (.inr ((true, ()), ()))))
 (some (.inl ((t1, t7, t8, (wr .i64 (t9 + 1)), ()), ())))))
 (some (.inr (.inl ((), ())))))
def Bu := Mb fun x : (J3 × Unit) => At x.1.1 x.1.2.1 x.1.2.2.1 x.1.2.2.2.1
def Kw (a0 : Gf) (a1 : Int) : Option Se :=
 (ob (Bu ((a1, a0, ((ln a0 : Nat) : Int), 0, ()), ())) (se (fun y4 => (some (false, ()))) (fun z5 => (some (z5.1.1, ())))))
def Qq (t4 : Gf) (t11 : Gf) (t12 : Int) (t13 : Int) : Option ((TK × Unit) ⊕ K3) :=
 (cond (decide (t13 < t12))
 (cond (Lh (ln t11) t13)
 (ob t11[(tn t13)]? fun x9 =>
 (cond (x9 != 0)
 (ob (Kw t4 x9) fun r10 =>
 (cond (!r10.1)
 (cond (bl (ln t4 + ln ([x9] : List Int)) Ya)
 (some (.inl (((ap t4 ([x9] : List Int)), t11, t12, (wr .i64 (t13 + 1)), ()), ())))
 none)
 (some (.inl ((t4, t11, t12, (wr .i64 (t13 + 1)), ()), ())))))
 (some (.inl ((t4, t11, t12, (wr .i64 (t13 + 1)), ()), ())))))
 none)
 (some (.inr (.inl ((t4, ()), ())))))
def Es := Mb fun x : (TK × Unit) => Qq x.1.1 x.1.2.1 x.1.2.2.1 x.1.2.2.2.1
def Lp (a0 : Gf) : Option MG :=
 (ob (Gm a0) fun r1 =>
 (ob (sort_Ints r1.1) fun r2 =>
 (ob (Es (([], r2.1, ((ln r2.1 : Nat) : Int), 0, ()), ())) (se (fun y11 => (some (y11.1.1, ()))) (fun z12 => none)))))
def Ko (t2 : Unit) (t3 : Unit) (t4 : Gf) (t11 : Dd) (t12 : Int) (t13 : Int) (b2 : Aa) (b3 : Aa) : Option (((Unit × (Unit × (Gf × GC))) × Fq) ⊕ L3) :=
 (cond (decide (t13 < t12))
 (ob (Wb t11 t13) fun x5 =>
 (cond (x5.2.1.1 == 2)
 (cond (bl (ln t4 + ln ([x5.2.1.2.1] : List Int)) Ya)
 (some (.inl (((), (), (ap t4 ([x5.2.1.2.1] : List Int)), t11, t12, (wr .i64 (t13 + 1)), ()), (b2, ((Nd .i64 b3.1 x5.2.1.2.2.1), b3.2.1, ()), ()))))
 none)
 (cond (x5.2.1.1 == 8)
 (cond (bl (ln t4 + ln ([x5.2.1.2.1] : List Int)) Ya)
 (some (.inl (((), (), (ap t4 ([x5.2.1.2.1] : List Int)), t11, t12, (wr .i64 (t13 + 1)), ()), (b2, ((Nd .i64 b3.1 x5.2.1.2.2.1), b3.2.1, ()), ()))))
 none)
 (cond (bl (ln t4 + ln ([x5.2.1.2.1] : List Int)) Ya)
 (some (.inl (((), (), (ap t4 ([x5.2.1.2.1] : List Int)), t11, t12, (wr .i64 (t13 + 1)), ()), (b2, b3, ()))))
 none))))
 (some (.inr (.inl (((), (), t4, ()), (b2, b3, ()))))))
def Oq := Mb fun x : ((Unit × (Unit × (Gf × GC))) × Fq) => Ko x.1.1 x.1.2.1 x.1.2.2.1 x.1.2.2.2.1 x.1.2.2.2.2.1 x.1.2.2.2.2.2.1 x.2.1 x.2.2.1
def Yc (a0 : Dd) : Option Vj :=
 (ob (Ij a0) fun r1 =>
 (cond (!r1.1)
 (some ((0, [], ()), ()))
 (ob (Oq (((), (), [], a0, ((ln a0 : Nat) : Int), 0, ()), ((0, [], ()), (0, [], ()), ()))) (se (fun y6 => (ob (Lp y6.1.2.2.1) fun r8 =>
 (some ((y6.2.2.1.1, r8.1, ()), ())))) (fun z7 => none)))))
def Mo (t0 : Gf) (t1 : Gf) (t12 : Int) (t13 : Int) : Option ((TK × Unit) ⊕ OG) :=
 (cond (decide (t13 < t12))
 (ob (Wb t0 t13) fun x5 =>
 (ob (Wb t1 t13) fun x6 =>
 (cond (x5 != x6)
 (some (.inr (.inr ((false, ()), ()))))
 (some (.inl ((t0, t1, t12, (wr .i64 (t13 + 1)), ()), ()))))))
 (some (.inr (.inl ((), ())))))
def Sq := Mb fun x : (TK × Unit) => Mo x.1.1 x.1.2.1 x.1.2.2.1 x.1.2.2.2.1
def Xw (a0 : Gf) (a1 : Gf) : Option Se :=
 (cond (((ln a0 : Nat) : Int) != ((ln a1 : Nat) : Int))
 (some (false, ()))
 (ob (Sq ((a0, a1, ((ln a0 : Nat) : Int), 0, ()), ())) (se (fun y7 => (some (true, ()))) (fun z8 => (some (z8.1.1, ()))))))
def Tm (a0 : Aa) (a1 : Aa) : Option Se :=
 (cond (a0.1 == a1.1)
 (ob (Xw a0.2.1 a1.2.1) fun r1 =>
 (some (r1.1, ())))
 (some (false, ())))
def Wi (a b : Aa) : Bool := (a.1 == b.1) && (a.2.1 == b.2.1)
def Qae (c : T Ud → T Ud → Option Bool) (a b : T Ud) : Option Se := ob (c a b) fun x => some (x, ())
def Hz (c : T Ud → T Ud → Option Bool) (t2 : Unit) (t5 : (List (Int × ((T .o) × Unit)))) (t8 : (List (Int × ((T .o) × Unit)))) (t9 : Int) (t10 : Int) (b2 : (Int × ((T .o) × Unit))) : Option (((Unit × ((List (Int × ((T .o) × Unit))) × ((List (Int × ((T .o) × Unit))) × Jb))) × ((Int × ((T .o) × Unit)) × Unit)) ⊕ ((((List (Int × ((T .o) × Unit))) × Unit) × Unit) ⊕ Uf)) :=
 (cond (decide (t10 < t9))
 (ob (Wb t8 t10) fun x7 =>
 (ob (Qae c b2 x7) fun r8 =>
 (cond (!r8.1)
 (cond (bl (ln t5 + ln ([x7] : List (Int × ((T .o) × Unit)))) Ya)
 (some (.inl (((), (ap t5 ([x7] : List (Int × ((T .o) × Unit)))), t8, t9, (wr .i64 (t10 + 1)), ()), (x7, ()))))
 none)
 (some (.inl (((), t5, t8, t9, (wr .i64 (t10 + 1)), ()), (x7, ())))))))
 (some (.inr (.inl ((t5, ()), ())))))
def Wr (c : T Ud → T Ud → Option Bool) (x : ((Unit × ((List (Int × ((T .o) × Unit))) × ((List (Int × ((T .o) × Unit))) × Jb))) × ((Int × ((T .o) × Unit)) × Unit))) : Option ((((List (Int × ((T .o) × Unit))) × Unit) × Unit) ⊕ Uf) := Mb (fun x : ((Unit × ((List (Int × ((T .o) × Unit))) × ((List (Int × ((T .o) × Unit))) × Jb))) × ((Int × ((T .o) × Unit)) × Unit)) => Hz c x.1.1 x.1.2.1 x.1.2.2.1 x.1.2.2.2.1 x.1.2.2.2.2.1 x.2.1) x
def Y3 (c : T Ud → T Ud → Option Bool) (a0 : (Int × ((T .o) × Unit))) (a1 : (List (Int × ((T .o) × Unit)))) : Option ((List (Int × ((T .o) × Unit))) × Unit) :=
 (ob (Wr c (((), ([] : List (Int × ((T .o) × Unit))), a1, ((ln a1 : Nat) : Int), 0, ()), (a0, ()))) (se (fun y9 => (some (y9.1.1, ()))) (fun z10 => none)))
def Zd (a0 : Aa) (a1 : List Aa) : Option YD := X3 Wi a0 a1
def Eu (a0 : Va) (a1 : Int) : Option (Va × YD) :=
 (ob (Bi a0) fun r1 =>
 (ob (JA a0 a1) fun r2 =>
 (cond (De (ln r1.1.2.2.2.1) 0 r2.1)
 (cond (De (ln r1.1.2.2.2.1) (wr .i64 (r2.1 + 1)) ((ln r1.1.2.2.2.1 : Nat) : Int))
 (cond (bl (ln (Nb r1.1.2.2.2.1 (tn 0) (tn r2.1)) + ln (Nb r1.1.2.2.2.1 (tn (wr .i64 (r2.1 + 1))) (tn ((ln r1.1.2.2.2.1 : Nat) : Int)))) Ya)
 (ob (Yc a0.2.2.2.1) fun r3 =>
 (ob (Yc (ap (Nb r1.1.2.2.2.1 (tn 0) (tn r2.1)) (Nb r1.1.2.2.2.1 (tn (wr .i64 (r2.1 + 1))) (tn ((ln r1.1.2.2.2.1 : Nat) : Int))))) fun r4 =>
 (ob (Zd r3.1 ([r4.1] : List Aa)) fun r5 =>
 (some ((r1.1.1, r1.1.2.1, r1.1.2.2.1, (ap (Nb r1.1.2.2.2.1 (tn 0) (tn r2.1)) (Nb r1.1.2.2.2.1 (tn (wr .i64 (r2.1 + 1))) (tn ((ln r1.1.2.2.2.1 : Nat) : Int)))), r1.1.2.2.2.2), r5.1, ())))))
 none)
 none)
 none)))
def Jo (t5 : Int) (t21 : Dd) (t22 : Int) (t23 : Int) : Option (WD ⊕ VU) :=
 (cond (decide (t23 < t22))
 (ob (Wb t21 t23) fun x16 =>
 (cond (x16.2.1.1 == 3)
 (cond (decide (0 ≤ x16.2.1.2.2.2.1))
 (some (.inl (((Nd .i64 t5 (Kd .i64 1 x16.2.1.2.2.2.1)), t21, t22, (wr .i64 (t23 + 1)), ()), ())))
 none)
 (some (.inl ((t5, t21, t22, (wr .i64 (t23 + 1)), ()), ())))))
 (some (.inr (.inl ((t5, ()), ())))))
def Ai := Mb fun x : WD => Jo x.1.1 x.1.2.1 x.1.2.2.1 x.1.2.2.2.1
def Qr (a0 : Int) (a1 : Dd) : Option Tf :=
 (cond (decide (a0 ≥ 0))
 (cond (decide (a0 ≤ 15))
 (ob (Ij a1) fun r1 =>
 (cond (!r1.1)
 (some ((Nd .i64 1 a0), ()))
 (ob (Ai (((Nd .i64 1 a0), a1, ((ln a1 : Nat) : Int), 0, ()), ())) (se (fun y5 => (some (y5.1.1, ()))) (fun z6 => none)))))
 (ob (Ij a1) fun r7 =>
 (cond (!r7.1)
 (some (1, ()))
 (ob (Ai ((1, a1, ((ln a1 : Nat) : Int), 0, ()), ())) (se (fun y11 => (some (y11.1.1, ()))) (fun z12 => none))))))
 (ob (Ij a1) fun r13 =>
 (cond (!r13.1)
 (some (1, ()))
 (ob (Ai ((1, a1, ((ln a1 : Nat) : Int), 0, ()), ())) (se (fun y17 => (some (y17.1.1, ()))) (fun z18 => none))))))
def GD (t1 : Int) (t2 : Int) (t3 : Unit) (t7 : Int) (b3 : Ab) : Option (BV ⊕ RK) :=
 (cond (decide (t7 > 0))
 (ob (Pn t1 t7) fun r7 =>
 (cond (r7.1 == 1)
 (ob (Wb b3.2.1 t7) fun x8 =>
 (ob (Wb x8 t2) fun x9 =>
 (cond (x9.1 != 1)
 (some (.inr (.inr ((t7, ()), ()))))
 (some (.inl ((t1, t2, (), (wr .i64 (t7 - 1)), ()), (b3, ())))))))
 (some (.inl ((t1, t2, (), (wr .i64 (t7 - 1)), ()), (b3, ()))))))
 (some (.inr (.inl ((), ())))))
def Hh := Mb fun x : BV => GD x.1.1 x.1.2.1 x.1.2.2.1 x.1.2.2.2.1 x.2.1
def Cu (a0 : Ab) (a1 : Int) (a2 : Int) : Option Tf :=
 (ob (Hh ((a1, a2, (), (wr .i64 (((ln a0.2.1 : Nat) : Int) - 1)), ()), (a0, ()))) (se (fun y10 => (some (0, ()))) (fun z11 => (some (z11.1.1, ())))))
def ED (a0 : Ab) (a1 : Int) (a2 : Int) : Option Tf :=
 (ob (Nr a0) fun r1 =>
 (cond (!r1.1)
 (some ((-1), ()))
 (cond (decide (a2 < 0))
 (some ((-1), ()))
 (cond (decide (a2 ≥ a0.1))
 (some ((-1), ()))
 (ob (Cu a0 a1 a2) fun r2 =>
 (some (r2.1, ())))))))
def Vw (a0 : Ab) (a1 : Int) (a2 : Int) : Option Ay :=
 (ob (ED a0 a1 a2) fun r1 =>
 (cond (decide (r1.1 < 0))
 (some ((0, 0, 0, 0, ()), ()))
 (ob (Wb a0.2.1 r1.1) fun x2 =>
 (ob (Wb x2 a2) fun x3 =>
 (some (x3, ()))))))
def Fo (t1 : Int) (t2 : Int) (t4 : Int) (t5 : Unit) (t12 : Int) (t26 : Kh) (t27 : Int) (t28 : Int) (b5 : Kb) : Option (((Int × (Int × (Int × (Unit × VD)))) × XD) ⊕ (((Int × (Int × Uf)) × XD) ⊕ EP)) :=
 (cond (decide (t28 < t27))
 (ob (Wb t26 t28) fun x10 =>
 (ob (Xt x10) fun r11 =>
 (cond (!r11.1)
 (some (.inr (.inr ((0, 0, ()), ()))))
 (cond (decide (x10.1 ≥ (wr .i64 (t2 + b5.1))))
 (some (.inr (.inr ((2, (wr .i64 (t2 + b5.1)), ()), ()))))
 (cond (x10.2.1 == t1)
 (cond (!x10.2.2.1)
 (some (.inr (.inr ((1, x10.1, ()), ()))))
 (cond (x10.2.1 == t1)
 (some (.inl ((t1, t2, t4, (), t12, t26, t27, (wr .i64 (t28 + 1)), ()), (b5, ()))))
 (cond x10.2.2.1
 (cond (b5.2.2.1 == 1)
 (some (.inr (.inr ((2, x10.1, ()), ()))))
 (cond (decide (0 ≤ x10.2.1))
 (some (.inl ((t1, t2, t4, (), (Nd .i64 t12 (Kd .i64 1 x10.2.1)), t26, t27, (wr .i64 (t28 + 1)), ()), (b5, ()))))
 none))
 (cond (b5.2.2.1 == 2)
 (ob (Pn t12 x10.2.1) fun r12 =>
 (cond (r12.1 == 1)
 (some (.inr (.inr ((2, x10.1, ()), ()))))
 (some (.inl ((t1, t2, t4, (), t12, t26, t27, (wr .i64 (t28 + 1)), ()), (b5, ()))))))
 (some (.inl ((t1, t2, t4, (), t12, t26, t27, (wr .i64 (t28 + 1)), ()), (b5, ()))))))))
 (cond (x10.2.1 == t1)
 (some (.inl ((t1, t2, t4, (), t12, t26, t27, (wr .i64 (t28 + 1)), ()), (b5, ()))))
 (cond x10.2.2.1
 (cond (b5.2.2.1 == 1)
 (some (.inr (.inr ((2, x10.1, ()), ()))))
 (cond (decide (0 ≤ x10.2.1))
 (some (.inl ((t1, t2, t4, (), (Nd .i64 t12 (Kd .i64 1 x10.2.1)), t26, t27, (wr .i64 (t28 + 1)), ()), (b5, ()))))
 none))
 (cond (b5.2.2.1 == 2)
 (ob (Pn t12 x10.2.1) fun r13 =>
 (cond (r13.1 == 1)
 (some (.inr (.inr ((2, x10.1, ()), ()))))
 (some (.inl ((t1, t2, t4, (), t12, t26, t27, (wr .i64 (t28 + 1)), ()), (b5, ()))))))
 (some (.inl ((t1, t2, t4, (), t12, t26, t27, (wr .i64 (t28 + 1)), ()), (b5, ()))))))))))))
 (some (.inr (.inl ((t2, t4, (), ()), (b5, ()))))))
def Kq := Mb fun x : ((Int × (Int × (Int × (Unit × VD)))) × XD) => Fo x.1.1 x.1.2.1 x.1.2.2.1 x.1.2.2.2.1 x.1.2.2.2.2.1 x.1.2.2.2.2.2.1 x.1.2.2.2.2.2.2.1 x.1.2.2.2.2.2.2.2.1 x.2.1
def Mr (a0 : Kb) (a1 : Int) (a2 : Int) (a3 : Kh) (a4 : Int) : Option Jb :=
 (ob (Pr a0) fun r1 =>
 (cond (!r1.1)
 (some (0, 0, ()))
 (cond (decide (a2 < 0))
 (some (0, 0, ()))
 (cond (decide (a2 > 1000000))
 (some (0, 0, ()))
 (ob (Kq ((a1, a2, a4, (), 0, a3, ((ln a3 : Nat) : Int), 0, ()), (a0, ()))) (se (fun y14 => (cond (decide (y14.1.2.1 ≥ (wr .i64 (y14.1.1 + y14.2.1.1))))
 (some (2, (wr .i64 (y14.1.1 + y14.2.1.1)), ()))
 (some (0, 0, ())))) (fun z15 => (some z15.1))))))))
def KA (a0 : La) : Option Ay :=
 (ob (Hl a0) fun r1 =>
 (cond (!r1.1)
 (some (a0, ()))
 (cond (a0.1 == 6)
 (some ((2, 0, a0.2.2.1, 0, ()), ()))
 (some ((3, 0, 0, a0.2.2.2.1, ()), ())))))
def Ts (a0 : Int) : Option Se :=
 (cond (decide (a0 ≥ 1))
 (cond (decide (a0 ≤ 36))
 (some (true, ()))
 (cond (a0 == 39)
 (some (true, ()))
 (some ((a0 == 42), ()))))
 (cond (a0 == 39)
 (some (true, ()))
 (some ((a0 == 42), ()))))
def Tn (a0 : Va) (a1 : La) : Option (Va × Ay) :=
 (cond (a1.1 == 2)
 (cond (a1.2.1 == 0)
 (some (a0, (a1, ())))
 (cond a0.2.2.2.2.2.1
 (ob (Ts a1.2.1) fun r1 =>
 (cond r1.1
 (cond (decide (a1.2.1 ≤ 26))
 (cond ((Ui .i64 (Nd .i64 a1.2.2.1 a0.2.2.2.2.1) 2) == 0)
 (some ((a0.1, a0.2.1, a0.2.2.1, a0.2.2.2.1, 0, r1.1, a0.2.2.2.2.2.2), ((a1.1, a1.2.1, 2, a1.2.2.2), ())))
 (some ((a0.1, a0.2.1, a0.2.2.1, a0.2.2.2.1, 0, r1.1, a0.2.2.2.2.2.2), ((a1.1, a1.2.1, (Nd .i64 a1.2.2.1 a0.2.2.2.2.1), a1.2.2.2), ()))))
 (some ((a0.1, a0.2.1, a0.2.2.1, a0.2.2.2.1, 0, r1.1, a0.2.2.2.2.2.2), ((a1.1, a1.2.1, (Nd .i64 a1.2.2.1 a0.2.2.2.2.1), a1.2.2.2), ()))))
 (some ((a0.1, a0.2.1, a0.2.2.1, a0.2.2.2.1, 0, r1.1, a0.2.2.2.2.2.2), ((a1.1, a1.2.1, (Nd .i64 a1.2.2.1 a0.2.2.2.2.1), a1.2.2.2), ())))))
 (some ((a0.1, a0.2.1, a0.2.2.1, a0.2.2.2.1, 0, false, a0.2.2.2.2.2.2), ((a1.1, a1.2.1, (Nd .i64 a1.2.2.1 a0.2.2.2.2.1), a1.2.2.2), ())))))
 (cond (a1.1 == 4)
 (cond (decide (0 ≤ a1.2.2.2.1))
 (some ((a0.1, a0.2.1, (Bh .i64 a0.2.2.1 (Kd .i64 1 a1.2.2.2.1)), a0.2.2.2), (a1, ())))
 none)
 (cond (a1.1 == 5)
 (cond (decide (0 ≤ a1.2.2.2.1))
 (some ((a0.1, a0.2.1, (Ui .i64 (Kd .i64 1 a1.2.2.2.1) 1), a0.2.2.2), (a1, ())))
 none)
 (cond (a1.1 == 8)
 (cond ((Yf .i64 a0.2.2.2.2.1 a1.2.2.1) == a1.2.2.1)
 (some ((a0.1, a0.2.1, a0.2.2.1, a0.2.2.2.1, (Ui .i64 a0.2.2.2.2.1 a1.2.2.1), a0.2.2.2.2.2), (a1, ())))
 (some ((a0.1, a0.2.1, a0.2.2.1, a0.2.2.2.1, (Nd .i64 a0.2.2.2.2.1 a1.2.2.1), a0.2.2.2.2.2), (a1, ()))))
 (cond (a1.1 == 10)
 (some ((a0.1, a0.2.1, a0.2.2.1, a0.2.2.2.1, a0.2.2.2.2.1, (!a0.2.2.2.2.2.1), a0.2.2.2.2.2.2), (a1, ())))
 (some (a0, (a1, ()))))))))
def Xm (t4 : Unit) (t5 : Unit) (t6 : Gf) (t15 : DC) (t16 : Int) (t17 : Int) (b4 : Aa) (b5 : Aa) : Option (((Unit × (Unit × (Gf × WU))) × Fq) ⊕ L3) :=
 (cond (decide (t17 < t16))
 (ob (Wb t15 t17) fun x4 =>
 (cond (bl (ln t6 + ln ([x4.1] : List Int)) Ya)
 (some (.inl (((), (), (ap t6 ([x4.1] : List Int)), t15, t16, (wr .i64 (t17 + 1)), ()), (b4, ((Nd .i64 b5.1 x4.2.1), b5.2.1, ()), ()))))
 none))
 (some (.inr (.inl (((), (), t6, ()), (b4, b5, ()))))))
def Pp := Mb fun x : ((Unit × (Unit × (Gf × WU))) × Fq) => Xm x.1.1 x.1.2.1 x.1.2.2.1 x.1.2.2.2.1 x.1.2.2.2.2.1 x.1.2.2.2.2.2.1 x.2.1 x.2.2.1
def Qe (a0 : Aa) (a1 : DC) : Option Vj :=
 (ob (Gm a0.2.1) fun r1 =>
 (ob (Pp (((), (), r1.1, a1, ((ln a1 : Nat) : Int), 0, ()), ((0, [], ()), (a0.1, [], ()), ()))) (se (fun y5 => (ob (Lp y5.1.2.2.1) fun r7 =>
 (some ((y5.2.2.1.1, r7.1, ()), ())))) (fun z6 => none))))
def Yj (t5 : Unit) (t6 : Ah) (t7 : DC) (t22 : Ch) (t23 : Int) (t24 : Int) (b5 : Aa) : Option (((Unit × (Ah × DV)) × Vj) ⊕ CV) :=
 (cond (decide (t24 < t23))
 (ob (Wb t22 t24) fun x25 =>
 (cond (x25.1 == 0)
 (cond (bl (ln ([] : List Jb) + ln t7) Ya)
 (cond (bl (ln (ap [] t7) + ln ([x25.2] : List Jb)) Ya)
 (ob (Qe b5 (ap (ap [] t7) ([x25.2] : List Jb))) fun r26 =>
 (cond (bl (ln t6 + ln ([r26.1] : List Aa)) Ya)
 (ob (Qe b5 t7) fun r27 =>
 (cond (bl (ln (ap t6 ([r26.1] : List Aa)) + ln ([r27.1] : List Aa)) Ya)
 (some (.inl (((), (ap (ap t6 ([r26.1] : List Aa)) ([r27.1] : List Aa)), t7, t22, t23, (wr .i64 (t24 + 1)), ()), (b5, ()))))
 none))
 none))
 none)
 none)
 (cond (x25.1 == 1)
 (cond (bl (ln t7 + ln ([x25.2] : List Jb)) Ya)
 (ob (Qe b5 (ap t7 ([x25.2] : List Jb))) fun r28 =>
 (cond (bl (ln t6 + ln ([r28.1] : List Aa)) Ya)
 (some (.inl (((), (ap t6 ([r28.1] : List Aa)), (ap t7 ([x25.2] : List Jb)), t22, t23, (wr .i64 (t24 + 1)), ()), (b5, ()))))
 none))
 none)
 (cond (x25.1 == 2)
 (ob (Lw t7 x25.2) fun r29 =>
 (cond (De (ln t7) 0 r29.1)
 (cond (De (ln t7) (wr .i64 (r29.1 + 1)) ((ln t7 : Nat) : Int))
 (cond (bl (ln (Nb t7 (tn 0) (tn r29.1)) + ln (Nb t7 (tn (wr .i64 (r29.1 + 1))) (tn ((ln t7 : Nat) : Int)))) Ya)
 (ob (Qe b5 (ap (Nb t7 (tn 0) (tn r29.1)) (Nb t7 (tn (wr .i64 (r29.1 + 1))) (tn ((ln t7 : Nat) : Int))))) fun r30 =>
 (cond (bl (ln t6 + ln ([r30.1] : List Aa)) Ya)
 (some (.inl (((), (ap t6 ([r30.1] : List Aa)), (ap (Nb t7 (tn 0) (tn r29.1)) (Nb t7 (tn (wr .i64 (r29.1 + 1))) (tn ((ln t7 : Nat) : Int)))), t22, t23, (wr .i64 (t24 + 1)), ()), (b5, ()))))
 none))
 none)
 none)
 none))
 (ob (Qe b5 t7) fun r31 =>
 (cond (bl (ln t6 + ln ([r31.1] : List Aa)) Ya)
 (some (.inl (((), (ap t6 ([r31.1] : List Aa)), t7, t22, t23, (wr .i64 (t24 + 1)), ()), (b5, ()))))
 none))))))
 (some (.inr (.inl ((t6, ()), ())))))
def Rl := Mb fun x : ((Unit × (Ah × DV)) × Vj) => Yj x.1.1 x.1.2.1 x.1.2.2.1 x.1.2.2.2.1 x.1.2.2.2.2.1 x.1.2.2.2.2.2.1 x.2.1
def Gi (a0 : Dd) (a1 : Ch) : Option YD :=
 (ob (Ij a0) fun r1 =>
 (cond (!r1.1)
 (some ([], ()))
 (ob (Zt a1) fun r2 =>
 (cond (!r2.1)
 (some ([], ()))
 (ob (Yc a0) fun r3 =>
 (ob (Rl (((), [], [], a1, ((ln a1 : Nat) : Int), 0, ()), (r3.1, ()))) (se (fun y32 => (some (y32.1.1, ()))) (fun z33 => none))))))))
def Yg (a0 : Va) (a1 : Int) (a2 : Bool) : Option (Va × YD) :=
 (ob (Bi a0) fun r1 =>
 (ob (Qr a0.2.2.1 a0.2.2.2.1) fun r2 =>
 (ob (Cu a0.1 r2.1 a1) fun r3 =>
 (ob (Wb a0.1.2.1 r3.1) fun x4 =>
 (ob (Wb x4 a1) fun x5 =>
 (cond a2
 (ob (KA x5) fun r6 =>
 (ob (Tn r1.1 r6.1) fun r7 =>
 (cond (bl (ln r7.1.2.2.2.1 + ln ([(a1, r7.2.1, ())] : List Ja)) Ya)
 (cond (r7.2.1.1 == 9)
 (cond (decide (r7.2.1.2.2.2.1 < ((ln a0.2.1 : Nat) : Int)))
 (ob (Wb a0.2.1 r7.2.1.2.2.2.1) fun x8 =>
 (ob (Gi (ap r7.1.2.2.2.1 ([(a1, r7.2.1, ())] : List Ja)) x8) fun r9 =>
 (ob (Yc (ap r7.1.2.2.2.1 ([(a1, r7.2.1, ())] : List Ja))) fun r10 =>
 (cond (bl (ln r9.1 + ln ([r10.1] : List Aa)) Ya)
 (ob (Yc a0.2.2.2.1) fun r11 =>
 (ob (Zd r11.1 (ap r9.1 ([r10.1] : List Aa))) fun r12 =>
 (some ((r7.1.1, r7.1.2.1, r7.1.2.2.1, (ap r7.1.2.2.2.1 ([(a1, r7.2.1, ())] : List Ja)), r7.1.2.2.2.2), r12.1, ()))))
 none))))
 (ob (Yc (ap r7.1.2.2.2.1 ([(a1, r7.2.1, ())] : List Ja))) fun r13 =>
 (cond (bl (ln ([] : List Aa) + ln ([r13.1] : List Aa)) Ya)
 (ob (Yc a0.2.2.2.1) fun r14 =>
 (ob (Zd r14.1 (ap [] ([r13.1] : List Aa))) fun r15 =>
 (some ((r7.1.1, r7.1.2.1, r7.1.2.2.1, (ap r7.1.2.2.2.1 ([(a1, r7.2.1, ())] : List Ja)), r7.1.2.2.2.2), r15.1, ()))))
 none)))
 (ob (Yc (ap r7.1.2.2.2.1 ([(a1, r7.2.1, ())] : List Ja))) fun r16 =>
 (cond (bl (ln ([] : List Aa) + ln ([r16.1] : List Aa)) Ya)
 (ob (Yc a0.2.2.2.1) fun r17 =>
 (ob (Zd r17.1 (ap [] ([r16.1] : List Aa))) fun r18 =>
 (some ((r7.1.1, r7.1.2.1, r7.1.2.2.1, (ap r7.1.2.2.2.1 ([(a1, r7.2.1, ())] : List Ja)), r7.1.2.2.2.2), r18.1, ()))))
 none)))
 none)))
 (ob (HC x5) fun r19 =>
 (ob (Tn r1.1 r19.1) fun r20 =>
 (cond (bl (ln r20.1.2.2.2.1 + ln ([(a1, r20.2.1, ())] : List Ja)) Ya)
 (cond (r20.2.1.1 == 9)
 (cond (decide (r20.2.1.2.2.2.1 < ((ln a0.2.1 : Nat) : Int)))
 (ob (Wb a0.2.1 r20.2.1.2.2.2.1) fun x21 =>
 (ob (Gi (ap r20.1.2.2.2.1 ([(a1, r20.2.1, ())] : List Ja)) x21) fun r22 =>
 (ob (Yc (ap r20.1.2.2.2.1 ([(a1, r20.2.1, ())] : List Ja))) fun r23 =>
 (cond (bl (ln r22.1 + ln ([r23.1] : List Aa)) Ya)
 (ob (Yc a0.2.2.2.1) fun r24 =>
 (ob (Zd r24.1 (ap r22.1 ([r23.1] : List Aa))) fun r25 =>
 (some ((r20.1.1, r20.1.2.1, r20.1.2.2.1, (ap r20.1.2.2.2.1 ([(a1, r20.2.1, ())] : List Ja)), r20.1.2.2.2.2), r25.1, ()))))
 none))))
 (ob (Yc (ap r20.1.2.2.2.1 ([(a1, r20.2.1, ())] : List Ja))) fun r26 =>
 (cond (bl (ln ([] : List Aa) + ln ([r26.1] : List Aa)) Ya)
 (ob (Yc a0.2.2.2.1) fun r27 =>
 (ob (Zd r27.1 (ap [] ([r26.1] : List Aa))) fun r28 =>
 (some ((r20.1.1, r20.1.2.1, r20.1.2.2.1, (ap r20.1.2.2.2.1 ([(a1, r20.2.1, ())] : List Ja)), r20.1.2.2.2.2), r28.1, ()))))
 none)))
 (ob (Yc (ap r20.1.2.2.2.1 ([(a1, r20.2.1, ())] : List Ja))) fun r29 =>
 (cond (bl (ln ([] : List Aa) + ln ([r29.1] : List Aa)) Ya)
 (ob (Yc a0.2.2.2.1) fun r30 =>
 (ob (Zd r30.1 (ap [] ([r29.1] : List Aa))) fun r31 =>
 (some ((r20.1.1, r20.1.2.1, r20.1.2.2.1, (ap r20.1.2.2.2.1 ([(a1, r20.2.1, ())] : List Ja)), r20.1.2.2.2.2), r31.1, ()))))
 none)))
 none)))))))))
def Wg (a0 : Qa) : Option (Qa × (Ah × Se)) :=
 (cond (Lh (ln a0.2.2.1) 0)
 (ob a0.2.2.1[(tn 0)]? fun x1 =>
 (cond (De (ln a0.2.2.1) 1 ((ln a0.2.2.1 : Nat) : Int))
 (cond (!x1.2.2.1)
 (cond (a0.2.2.2.2.2.1 == (wr .i64 (x1.2.1 + 1)))
 (ob (Eu a0.1 x1.2.1) fun r2 =>
 (cond (bl (ln ([] : List Ia) + ln (Nb a0.2.2.1 (tn 1) (tn ((ln a0.2.2.1 : Nat) : Int)))) Ya)
 (some ((r2.1, a0.2.1, (ap [] (Nb a0.2.2.1 (tn 1) (tn ((ln a0.2.2.1 : Nat) : Int)))), a0.2.2.2.1, (max a0.2.2.2.2.1 x1.1), a0.2.2.2.2.2.1, x1.1, a0.2.2.2.2.2.2.2), (r2.2.1, true, ())))
 none))
 (ob (Eu a0.1 x1.2.1) fun r3 =>
 (cond (bl (ln ([] : List Ia) + ln (Nb a0.2.2.1 (tn 1) (tn ((ln a0.2.2.1 : Nat) : Int)))) Ya)
 (some ((r3.1, a0.2.1, (ap [] (Nb a0.2.2.1 (tn 1) (tn ((ln a0.2.2.1 : Nat) : Int)))), a0.2.2.2.1, (max a0.2.2.2.2.1 x1.1), a0.2.2.2.2.2), (r3.2.1, true, ())))
 none)))
 (ob (Qr a0.1.2.2.1 a0.1.2.2.2.1) fun r4 =>
 (ob (Vw a0.1.1 r4.1 x1.2.1) fun r5 =>
 (ob (Hl r5.1) fun r6 =>
 (cond r6.1
 (cond (a0.2.2.2.2.2.1 != (wr .i64 (x1.2.1 + 1)))
 (ob (Mr a0.2.1 x1.2.1 x1.1 (Nb a0.2.2.1 (tn 1) (tn ((ln a0.2.2.1 : Nat) : Int))) a0.2.2.2.1) fun r7 =>
 (cond (r7.1 == 0)
 (some (a0, ([], false, ())))
 (cond (r7.1 == 1)
 (ob (Yg a0.1 x1.2.1 false) fun r8 =>
 (cond (bl (ln ([] : List Ia) + ln (Nb a0.2.2.1 (tn 1) (tn ((ln a0.2.2.1 : Nat) : Int)))) Ya)
 (some ((r8.1, a0.2.1, (ap [] (Nb a0.2.2.1 (tn 1) (tn ((ln a0.2.2.1 : Nat) : Int)))), a0.2.2.2.1, (max (max a0.2.2.2.2.1 x1.1) r7.2.1), (wr .i64 (x1.2.1 + 1)), x1.1, a0.2.2.2.2.2.2.2), (r8.2.1, true, ())))
 none))
 (cond (r7.1 == 2)
 (ob (Yg a0.1 x1.2.1 true) fun r9 =>
 (cond (bl (ln ([] : List Ia) + ln (Nb a0.2.2.1 (tn 1) (tn ((ln a0.2.2.1 : Nat) : Int)))) Ya)
 (some ((r9.1, a0.2.1, (ap [] (Nb a0.2.2.1 (tn 1) (tn ((ln a0.2.2.1 : Nat) : Int)))), a0.2.2.2.1, (max (max a0.2.2.2.2.1 x1.1) r7.2.1), 0, a0.2.2.2.2.2.2), (r9.2.1, true, ())))
 none))
 (ob (Yg a0.1 x1.2.1 false) fun r10 =>
 (cond (bl (ln ([] : List Ia) + ln (Nb a0.2.2.1 (tn 1) (tn ((ln a0.2.2.1 : Nat) : Int)))) Ya)
 (some ((r10.1, a0.2.1, (ap [] (Nb a0.2.2.1 (tn 1) (tn ((ln a0.2.2.1 : Nat) : Int)))), a0.2.2.2.1, (max (max a0.2.2.2.2.1 x1.1) r7.2.1), a0.2.2.2.2.2), (r10.2.1, true, ())))
 none))))))
 (cond (decide ((wr .i64 (x1.1 - a0.2.2.2.2.2.2.1)) ≥ a0.2.1.2.1))
 (ob (Mr a0.2.1 x1.2.1 x1.1 (Nb a0.2.2.1 (tn 1) (tn ((ln a0.2.2.1 : Nat) : Int))) a0.2.2.2.1) fun r11 =>
 (cond (r11.1 == 0)
 (some (a0, ([], false, ())))
 (cond (r11.1 == 1)
 (ob (Yg a0.1 x1.2.1 false) fun r12 =>
 (cond (bl (ln ([] : List Ia) + ln (Nb a0.2.2.1 (tn 1) (tn ((ln a0.2.2.1 : Nat) : Int)))) Ya)
 (some ((r12.1, a0.2.1, (ap [] (Nb a0.2.2.1 (tn 1) (tn ((ln a0.2.2.1 : Nat) : Int)))), a0.2.2.2.1, (max (max a0.2.2.2.2.1 x1.1) r11.2.1), (wr .i64 (x1.2.1 + 1)), x1.1, a0.2.2.2.2.2.2.2), (r12.2.1, true, ())))
 none))
 (cond (r11.1 == 2)
 (ob (Yg a0.1 x1.2.1 true) fun r13 =>
 (cond (bl (ln ([] : List Ia) + ln (Nb a0.2.2.1 (tn 1) (tn ((ln a0.2.2.1 : Nat) : Int)))) Ya)
 (some ((r13.1, a0.2.1, (ap [] (Nb a0.2.2.1 (tn 1) (tn ((ln a0.2.2.1 : Nat) : Int)))), a0.2.2.2.1, (max (max a0.2.2.2.2.1 x1.1) r11.2.1), 0, a0.2.2.2.2.2.2), (r13.2.1, true, ())))
 none))
 (ob (Yg a0.1 x1.2.1 false) fun r14 =>
 (cond (bl (ln ([] : List Ia) + ln (Nb a0.2.2.1 (tn 1) (tn ((ln a0.2.2.1 : Nat) : Int)))) Ya)
 (some ((r14.1, a0.2.1, (ap [] (Nb a0.2.2.1 (tn 1) (tn ((ln a0.2.2.1 : Nat) : Int)))), a0.2.2.2.1, (max (max a0.2.2.2.2.1 x1.1) r11.2.1), a0.2.2.2.2.2), (r14.2.1, true, ())))
 none))))))
 (cond ((1 : Int) == 0)
 (some (a0, ([], false, ())))
 (cond ((1 : Int) == 1)
 (ob (Yg a0.1 x1.2.1 false) fun r15 =>
 (cond (bl (ln ([] : List Ia) + ln (Nb a0.2.2.1 (tn 1) (tn ((ln a0.2.2.1 : Nat) : Int)))) Ya)
 (some ((r15.1, a0.2.1, (ap [] (Nb a0.2.2.1 (tn 1) (tn ((ln a0.2.2.1 : Nat) : Int)))), a0.2.2.2.1, (max (max a0.2.2.2.2.1 x1.1) x1.1), (wr .i64 (x1.2.1 + 1)), x1.1, a0.2.2.2.2.2.2.2), (r15.2.1, true, ())))
 none))
 (cond ((1 : Int) == 2)
 (ob (Yg a0.1 x1.2.1 true) fun r16 =>
 (cond (bl (ln ([] : List Ia) + ln (Nb a0.2.2.1 (tn 1) (tn ((ln a0.2.2.1 : Nat) : Int)))) Ya)
 (some ((r16.1, a0.2.1, (ap [] (Nb a0.2.2.1 (tn 1) (tn ((ln a0.2.2.1 : Nat) : Int)))), a0.2.2.2.1, (max (max a0.2.2.2.2.1 x1.1) x1.1), 0, a0.2.2.2.2.2.2), (r16.2.1, true, ())))
 none))
 (ob (Yg a0.1 x1.2.1 false) fun r17 =>
 (cond (bl (ln ([] : List Ia) + ln (Nb a0.2.2.1 (tn 1) (tn ((ln a0.2.2.1 : Nat) : Int)))) Ya)
 (some ((r17.1, a0.2.1, (ap [] (Nb a0.2.2.1 (tn 1) (tn ((ln a0.2.2.1 : Nat) : Int)))), a0.2.2.2.1, (max (max a0.2.2.2.2.1 x1.1) x1.1), a0.2.2.2.2.2), (r17.2.1, true, ())))
 none)))))))
 (ob (Yg a0.1 x1.2.1 false) fun r18 =>
 (cond (bl (ln ([] : List Ia) + ln (Nb a0.2.2.1 (tn 1) (tn ((ln a0.2.2.1 : Nat) : Int)))) Ya)
 (some ((r18.1, a0.2.1, (ap [] (Nb a0.2.2.1 (tn 1) (tn ((ln a0.2.2.1 : Nat) : Int)))), a0.2.2.2.1, (max a0.2.2.2.2.1 x1.1), a0.2.2.2.2.2), (r18.2.1, true, ())))
 none)))))))
 none))
 none)
def Yw (t0 : Sh) (t1 : Int) (t9 : (Ah × Int)) (t10 : Int) (t11 : Int) : Option (((Sh × (Int × ((Ah × Int) × Jb))) × Unit) ⊕ (((Sh × Unit) × Unit) ⊕ Uf)) :=
 (cond (decide (t11 < t10))
 (cond (Lh (ln t9.1) t11)
 (cond (Nat.beq (tn t11) (tn t9.2))
 (ob t9.1[(tn t11)]? fun x4 =>
 (cond (bl (ln t0 + ln ([(t1, x4, ())] : List Rd)) Ya)
 (some (.inl (((ap t0 ([(t1, x4, ())] : List Rd)), t1, (t9.1, ((((tn t11) + 1) : Nat) : Int)), t10, (wr .i64 (t11 + 1)), ()), ())))
 none))
 none)
 none)
 (some (.inr (.inl ((t0, ()), ())))))
def Kx := Mb fun x : ((Sh × (Int × ((Ah × Int) × Jb))) × Unit) => Yw x.1.1 x.1.2.1 x.1.2.2.1 x.1.2.2.2.1 x.1.2.2.2.2.1
def DB (a0 : Sh) (a1 : Int) (a2 : Ah) : Option (Sh × Unit) :=
 (ob (Kx ((a0, a1, (a2, 0), ((ln a2 : Nat) : Int), 0, ()), ())) (se (fun y5 => (some (y5.1.1, ()))) (fun z6 => none)))
def Lg (t6 : Unit) (t9 : Unit) (t10 : Sh) (b6 : Qa) (b9 : Qa) : Option (P3 ⊕ (P3 ⊕ Uf)) :=
 (cond (decide (((ln b9.2.2.1 : Nat) : Int) > 0))
 (ob (Wg b9) fun r25 =>
 (cond (!r25.2.2.1)
 (some (.inr (.inl (((), (), t10, ()), (b6, r25.1, ())))))
 (ob (DB t10 r25.1.2.2.2.2.1 r25.2.1) fun r26 =>
 (some (.inl (((), (), r26.1, ()), (b6, r25.1, ())))))))
 (some (.inr (.inl (((), (), t10, ()), (b6, b9, ()))))))
def Lf := Mb fun x : P3 => Lg x.1.1 x.1.2.1 x.1.2.2.1 x.2.1 x.2.2.1
def Vs (a0 : Qa) (a1 : Kh) (a2 : Int) : Option (Qa × (Sh × Se)) :=
 (ob (Gl a0) fun r1 =>
 (cond (!r1.1)
 (some (Xe, [], false, ()))
 (cond (decide (a2 < a0.2.2.2.1))
 (some (Xe, [], false, ()))
 (cond (decide (a2 > 1000000))
 (some (Xe, [], false, ()))
 (cond (decide (((ln a1 : Nat) : Int) > 0))
 (ob (Wb a1 0) fun x2 =>
 (cond (decide (x2.1 < a0.2.2.2.1))
 (some (Xe, [], false, ()))
 (ob (Il a1 a2) fun r3 =>
 (cond (!r3.1)
 (some (Xe, [], false, ()))
 (ob (Sl a0) fun r4 =>
 (cond (bl (ln r4.1.2.2.1 + ln a1) Ya)
 (ob (Hm a0.1.2.2.2.1) fun r5 =>
 (ob (Jl (ap r4.1.2.2.1 a1) r5.1 a0.1.1.1) fun r6 =>
 (cond (!r6.1)
 (some (Xe, [], false, ()))
 (ob (Lf (((), (), [], ()), (Xe, (r4.1.1, r4.1.2.1, (ap r4.1.2.2.1 a1), a2, r4.1.2.2.2.2), ()))) (se (fun y15 => (some (y15.2.2.1, y15.1.2.2.1, true, ()))) (fun z16 => none))))))
 none))))))
 (ob (Il a1 a2) fun r17 =>
 (cond (!r17.1)
 (some (Xe, [], false, ()))
 (ob (Sl a0) fun r18 =>
 (cond (bl (ln r18.1.2.2.1 + ln a1) Ya)
 (ob (Hm a0.1.2.2.2.1) fun r19 =>
 (ob (Jl (ap r18.1.2.2.1 a1) r19.1 a0.1.1.1) fun r20 =>
 (cond (!r20.1)
 (some (Xe, [], false, ()))
 (ob (Lf (((), (), [], ()), (Xe, (r18.1.1, r18.1.2.1, (ap r18.1.2.2.1 a1), a2, r18.1.2.2.2.2), ()))) (se (fun y27 => (some (y27.2.2.1, y27.1.2.2.1, true, ()))) (fun z28 => none))))))
 none)))))))))
def Io (t1 : Unit) (t14 : Gf) (t15 : Int) (t16 : Int) (b1 : Aa) : Option ((Uae × Vj) ⊕ OG) :=
 (cond (decide (t16 < t15))
 (ob (Wb t14 t16) fun x7 =>
 (ob (Xk x7) fun r8 =>
 (cond (!r8.1)
 (some (.inr (.inr ((false, ()), ()))))
 (cond (decide (t16 > 0))
 (ob (Wb b1.2.1 (wr .i64 (t16 - 1))) fun x9 =>
 (cond (decide (x9 ≥ x7))
 (some (.inr (.inr ((false, ()), ()))))
 (some (.inl (((), t14, t15, (wr .i64 (t16 + 1)), ()), (b1, ()))))))
 (some (.inl (((), t14, t15, (wr .i64 (t16 + 1)), ()), (b1, ()))))))))
 (some (.inr (.inl ((), ())))))
def Mq := Mb fun x : (Uae × Vj) => Io x.1.1 x.1.2.1 x.1.2.2.1 x.1.2.2.2.1 x.2.1
def Em (a0 : Aa) : Option Se :=
 (cond (decide (a0.1 < 0))
 (some (false, ()))
 (cond (decide (a0.1 > 15))
 (some (false, ()))
 (ob (Mq (((), a0.2.1, ((ln a0.2.1 : Nat) : Int), 0, ()), (a0, ()))) (se (fun y10 => (some (true, ()))) (fun z11 => (some (z11.1.1, ())))))))
def Nq (t2 : Unit) (t5 : Gf) (t17 : Gf) (t18 : Int) (t19 : Int) (b2 : Aa) : Option (((Unit × TK) × Vj) ⊕ K3) :=
 (cond (decide (t19 < t18))
 (ob (Wb t17 t19) fun x9 =>
 (ob (Kw b2.2.1 x9) fun r10 =>
 (cond (!r10.1)
 (cond (bl (ln t5 + ln ([x9] : List Int)) Ya)
 (some (.inl (((), (ap t5 ([x9] : List Int)), t17, t18, (wr .i64 (t19 + 1)), ()), (b2, ()))))
 none)
 (some (.inl (((), t5, t17, t18, (wr .i64 (t19 + 1)), ()), (b2, ())))))))
 (some (.inr (.inl ((t5, ()), ())))))
def Ds := Mb fun x : ((Unit × TK) × Vj) => Nq x.1.1 x.1.2.1 x.1.2.2.1 x.1.2.2.2.1 x.1.2.2.2.2.1 x.2.1
def Gy (a0 : Aa) (a1 : Aa) : Option MG :=
 (ob (Em a0) fun r1 =>
 (cond (!r1.1)
 (some ([], ()))
 (ob (Em a1) fun r2 =>
 (cond (!r2.1)
 (some ([], ()))
 (ob (Ds (((), [], a1.2.1, ((ln a1.2.1 : Nat) : Int), 0, ()), (a0, ()))) (se (fun y11 => (some (y11.1.1, ()))) (fun z12 => none)))))))
def Vm (t2 : Unit) (t5 : Pj) (t7 : Unit) (t10 : Ah) (t11 : Int) (t12 : Int) (t18 : Gf) (t19 : Int) (t20 : Int) (b2 : Aa) (b7 : Aa) : Option (R5 ⊕ (((Unit × (Pj × (Unit × (Ah × Jb)))) × Fq) ⊕ Uf)) :=
 (cond (decide (t20 < t19))
 (cond (Lh (ln t18) t20)
 (ob t18[(tn t20)]? fun x27 =>
 (ob (Hj x27 b7.1) fun r28 =>
 (cond (bl (ln t5 + ln r28.1) Ya)
 (some (.inl (((), (ap t5 r28.1), (), t10, t11, t12, t18, t19, (wr .i64 (t20 + 1)), ()), (b2, b7, ()))))
 none)))
 none)
 (some (.inr (.inl (((), t5, (), t10, t11, t12, ()), (b2, b7, ()))))))
def Kp := Mb fun x : R5 => Vm x.1.1 x.1.2.1 x.1.2.2.1 x.1.2.2.2.1 x.1.2.2.2.2.1 x.1.2.2.2.2.2.1 x.1.2.2.2.2.2.2.1 x.1.2.2.2.2.2.2.2.1 x.1.2.2.2.2.2.2.2.2.1 x.2.1 x.2.2.1
def Um (t2 : Unit) (t5 : Pj) (t10 : Ah) (t11 : Int) (t12 : Int) (b2 : Aa) : Option (((Unit × (Pj × (Ah × Jb))) × Vj) ⊕ Zae) :=
 (cond (decide (t12 < t11))
 (ob (Wb t10 t12) fun x21 =>
 (ob (Gy b2 x21) fun r22 =>
 (ob (Kp (((), t5, (), t10, t11, t12, r22.1, ((ln r22.1 : Nat) : Int), 0, ()), (b2, x21, ()))) (se (fun y29 => (some (.inl (((), y29.1.2.1, y29.1.2.2.2.1, y29.1.2.2.2.2.1, (wr .i64 (y29.1.2.2.2.2.2.1 + 1)), ()), (y29.2.2.1, ()))))) (fun z30 => (some (.inr (.inr ((), ())))))))))
 (some (.inr (.inl ((t5, ()), ())))))
def Jp := Mb fun x : ((Unit × (Pj × (Ah × Jb))) × Vj) => Um x.1.1 x.1.2.1 x.1.2.2.1 x.1.2.2.2.1 x.1.2.2.2.2.1 x.2.1
def Ip (a0 : Aa) (a1 : Ah) : Option AA :=
 (ob (Jp (((), [], a1, ((ln a1 : Nat) : Int), 0, ()), (a0, ()))) (se (fun y31 => (some (y31.1.1, ()))) (fun z32 => none)))
def RA (a0 : La) : Option Ay :=
 (ob (Ej a0) fun r1 =>
 (cond (!r1.1)
 (some (a0, ()))
 (cond (a0.1 == 6)
 (some ((2, 0, a0.2.2.1, 0, ()), ()))
 (some ((3, 0, 0, a0.2.2.2.1, ()), ())))))
def PD (t1 : Int) (t2 : Int) (t3 : Unit) (t7 : Int) (b3 : Ab) : Option (BV ⊕ RK) :=
 (cond (decide (t7 > 0))
 (cond (decide (0 ≤ t7))
 (cond ((Yf .i64 (Ci .i64 t1 t7) 1) == 1)
 (ob (Wb b3.2.1 t7) fun x7 =>
 (ob (Wb x7 t2) fun x8 =>
 (cond (x8.1 != 1)
 (some (.inr (.inr ((t7, ()), ()))))
 (some (.inl ((t1, t2, (), (wr .i64 (t7 - 1)), ()), (b3, ())))))))
 (some (.inl ((t1, t2, (), (wr .i64 (t7 - 1)), ()), (b3, ())))))
 none)
 (some (.inr (.inl ((), ())))))
def Ih := Mb fun x : BV => PD x.1.1 x.1.2.1 x.1.2.2.1 x.1.2.2.2.1 x.2.1
def My (a0 : Ab) (a1 : Int) (a2 : Int) : Option Tf :=
 (ob (Tr a0) fun r1 =>
 (cond (!r1.1)
 (some ((-1), ()))
 (ob (Qc a2 0 (wr .i64 (a0.1 - 1))) fun r2 =>
 (cond (!r2.1)
 (some ((-1), ()))
 (ob (Ih ((a1, a2, (), (wr .i64 (((ln a0.2.1 : Nat) : Int) - 1)), ()), (a0, ()))) (se (fun y9 => (some (0, ()))) (fun z10 => (some (z10.1.1, ())))))))))
def Sr (a0 : Ab) (a1 : Int) (a2 : Int) : Option Ay :=
 (ob (My a0 a1 a2) fun r1 =>
 (cond (decide (r1.1 < 0))
 (some ((0, 0, 0, 0, ()), ()))
 (ob (Wb a0.2.1 r1.1) fun x2 =>
 (ob (Wb x2 a2) fun x3 =>
 (some (x3, ()))))))
def UA (a0 : Ta) (a1 : Int) : Option (Ta × Ay) :=
 (ob (Bb a0 56) fun r1 =>
 (ob (Bb r1.1 15) fun r2 =>
 (ob (Bl r2.1 2) fun r3 =>
 (cond r3.2.1
 (ob (Bb r3.1 (max 1 (wr .i64 (a1 - 1)))) fun r4 =>
 (ob (Bb r4.1 16) fun r5 =>
 (cond (r5.2.1 == 0)
 (some (r5.1, ((2, (wr .i64 (1 + r1.2.1)), 2, 0, ()), ())))
 (cond (r5.2.1 == 1)
 (some (r5.1, ((2, 0, 2, 0, ()), ())))
 (cond (r5.2.1 == 2)
 (some (r5.1, ((6, (wr .i64 (1 + r1.2.1)), 2, 0, ()), ())))
 (cond (r5.2.1 == 3)
 (some (r5.1, ((6, (wr .i64 (1 + r1.2.1)), 2, 0, ()), ())))
 (cond (r5.2.1 == 4)
 (some (r5.1, ((8, 0, 2, 0, ()), ())))
 (cond (r5.2.1 == 5)
 (ob (Bb r5.1 4) fun r6 =>
 (some (r6.1, ((9, 0, 0, r6.2.1, ()), ()))))
 (cond (r5.2.1 == 6)
 (some (r5.1, ((10, 0, 0, 0, ()), ())))
 (cond (r5.2.1 == 7)
 (ob (Bb r5.1 (max 1 a1)) fun r7 =>
 (some (r7.1, ((5, 0, 0, r7.2.1, ()), ()))))
 (cond (r5.2.1 == 8)
 (cond (decide (a1 > 1))
 (ob (Bb r5.1 3) fun r8 =>
 (cond (Lh (ln ([(3, 0, 0, (wr .i64 (1 + r4.2.1)), ()), (4, 0, 0, (wr .i64 (1 + r4.2.1)), ()), (7, (wr .i64 (1 + r1.2.1)), 0, (wr .i64 (1 + r4.2.1)), ())] : List La)) r8.2.1)
 (ob ([(3, 0, 0, (wr .i64 (1 + r4.2.1)), ()), (4, 0, 0, (wr .i64 (1 + r4.2.1)), ()), (7, (wr .i64 (1 + r1.2.1)), 0, (wr .i64 (1 + r4.2.1)), ())] : List La)[(tn r8.2.1)]? fun x9 =>
 (some (r8.1, (x9, ()))))
 none))
 (some (r5.1, ((2, (wr .i64 (1 + r1.2.1)), 0, 0, ()), ()))))
 (cond (r5.2.1 == 9)
 (cond (decide (a1 > 1))
 (ob (Bb r5.1 3) fun r10 =>
 (cond (Lh (ln ([(3, 0, 0, (wr .i64 (1 + r4.2.1)), ()), (4, 0, 0, (wr .i64 (1 + r4.2.1)), ()), (7, (wr .i64 (1 + r1.2.1)), 0, (wr .i64 (1 + r4.2.1)), ())] : List La)) r10.2.1)
 (ob ([(3, 0, 0, (wr .i64 (1 + r4.2.1)), ()), (4, 0, 0, (wr .i64 (1 + r4.2.1)), ()), (7, (wr .i64 (1 + r1.2.1)), 0, (wr .i64 (1 + r4.2.1)), ())] : List La)[(tn r10.2.1)]? fun x11 =>
 (some (r10.1, (x11, ()))))
 none))
 (some (r5.1, ((2, (wr .i64 (1 + r1.2.1)), 0, 0, ()), ()))))
 (cond (r5.2.1 == 10)
 (cond (decide (a1 > 1))
 (ob (Bb r5.1 3) fun r12 =>
 (cond (Lh (ln ([(3, 0, 0, (wr .i64 (1 + r4.2.1)), ()), (4, 0, 0, (wr .i64 (1 + r4.2.1)), ()), (7, (wr .i64 (1 + r1.2.1)), 0, (wr .i64 (1 + r4.2.1)), ())] : List La)) r12.2.1)
 (ob ([(3, 0, 0, (wr .i64 (1 + r4.2.1)), ()), (4, 0, 0, (wr .i64 (1 + r4.2.1)), ()), (7, (wr .i64 (1 + r1.2.1)), 0, (wr .i64 (1 + r4.2.1)), ())] : List La)[(tn r12.2.1)]? fun x13 =>
 (some (r12.1, (x13, ()))))
 none))
 (some (r5.1, ((2, (wr .i64 (1 + r1.2.1)), 0, 0, ()), ()))))
 (some (r5.1, ((2, (wr .i64 (1 + r1.2.1)), 0, 0, ()), ()))))))))))))))))
 (ob (Bb r3.1 (max 1 (wr .i64 (a1 - 1)))) fun r14 =>
 (ob (Bb r14.1 16) fun r15 =>
 (cond (r15.2.1 == 0)
 (some (r15.1, ((2, (wr .i64 (1 + r1.2.1)), (wr .i64 (1 + r2.2.1)), 0, ()), ())))
 (cond (r15.2.1 == 1)
 (some (r15.1, ((2, 0, (wr .i64 (1 + r2.2.1)), 0, ()), ())))
 (cond (r15.2.1 == 2)
 (some (r15.1, ((6, (wr .i64 (1 + r1.2.1)), (wr .i64 (1 + r2.2.1)), 0, ()), ())))
 (cond (r15.2.1 == 3)
 (some (r15.1, ((6, (wr .i64 (1 + r1.2.1)), (wr .i64 (1 + r2.2.1)), 0, ()), ())))
 (cond (r15.2.1 == 4)
 (some (r15.1, ((8, 0, (wr .i64 (1 + r2.2.1)), 0, ()), ())))
 (cond (r15.2.1 == 5)
 (ob (Bb r15.1 4) fun r16 =>
 (some (r16.1, ((9, 0, 0, r16.2.1, ()), ()))))
 (cond (r15.2.1 == 6)
 (some (r15.1, ((10, 0, 0, 0, ()), ())))
 (cond (r15.2.1 == 7)
 (ob (Bb r15.1 (max 1 a1)) fun r17 =>
 (some (r17.1, ((5, 0, 0, r17.2.1, ()), ()))))
 (cond (r15.2.1 == 8)
 (cond (decide (a1 > 1))
 (ob (Bb r15.1 3) fun r18 =>
 (cond (Lh (ln ([(3, 0, 0, (wr .i64 (1 + r14.2.1)), ()), (4, 0, 0, (wr .i64 (1 + r14.2.1)), ()), (7, (wr .i64 (1 + r1.2.1)), 0, (wr .i64 (1 + r14.2.1)), ())] : List La)) r18.2.1)
 (ob ([(3, 0, 0, (wr .i64 (1 + r14.2.1)), ()), (4, 0, 0, (wr .i64 (1 + r14.2.1)), ()), (7, (wr .i64 (1 + r1.2.1)), 0, (wr .i64 (1 + r14.2.1)), ())] : List La)[(tn r18.2.1)]? fun x19 =>
 (some (r18.1, (x19, ()))))
 none))
 (some (r15.1, ((2, (wr .i64 (1 + r1.2.1)), 0, 0, ()), ()))))
 (cond (r15.2.1 == 9)
 (cond (decide (a1 > 1))
 (ob (Bb r15.1 3) fun r20 =>
 (cond (Lh (ln ([(3, 0, 0, (wr .i64 (1 + r14.2.1)), ()), (4, 0, 0, (wr .i64 (1 + r14.2.1)), ()), (7, (wr .i64 (1 + r1.2.1)), 0, (wr .i64 (1 + r14.2.1)), ())] : List La)) r20.2.1)
 (ob ([(3, 0, 0, (wr .i64 (1 + r14.2.1)), ()), (4, 0, 0, (wr .i64 (1 + r14.2.1)), ()), (7, (wr .i64 (1 + r1.2.1)), 0, (wr .i64 (1 + r14.2.1)), ())] : List La)[(tn r20.2.1)]? fun x21 =>
 (some (r20.1, (x21, ()))))
 none))
 (some (r15.1, ((2, (wr .i64 (1 + r1.2.1)), 0, 0, ()), ()))))
 (cond (r15.2.1 == 10)
 (cond (decide (a1 > 1))
 (ob (Bb r15.1 3) fun r22 =>
 (cond (Lh (ln ([(3, 0, 0, (wr .i64 (1 + r14.2.1)), ()), (4, 0, 0, (wr .i64 (1 + r14.2.1)), ()), (7, (wr .i64 (1 + r1.2.1)), 0, (wr .i64 (1 + r14.2.1)), ())] : List La)) r22.2.1)
 (ob ([(3, 0, 0, (wr .i64 (1 + r14.2.1)), ()), (4, 0, 0, (wr .i64 (1 + r14.2.1)), ()), (7, (wr .i64 (1 + r1.2.1)), 0, (wr .i64 (1 + r14.2.1)), ())] : List La)[(tn r22.2.1)]? fun x23 =>
 (some (r22.1, (x23, ()))))
 none))
 (some (r15.1, ((2, (wr .i64 (1 + r1.2.1)), 0, 0, ()), ()))))
 (some (r15.1, ((2, (wr .i64 (1 + r1.2.1)), 0, 0, ()), ()))))))))))))))))))))
def Vy (t0 : Unit) (t1 : Int) (t4 : Unit) (t5 : Int) (t6 : Unit) (t7 : Int) (t8 : Bo) (t9 : Int) (b500000 : Ta) (b4 : Ab) (b6 : Ab) : Option (Wae ⊕ (((Unit × (Int × (Unit × (Int × (Unit × (Int × (Bo × Unit))))))) × IP) ⊕ Uf)) :=
 (cond (decide (t9 < t1))
 (ob (UA b500000 t5) fun r30 =>
 (cond (decide (t7 > 0))
 (ob (Bl r30.1 3) fun r31 =>
 (cond r31.2.1
 (cond (bl (ln t8 + ln ([(1, 0, 0, 0, ())] : List La)) Ya)
 (some (.inl (((), t1, (), t5, (), t7, (ap t8 ([(1, 0, 0, 0, ())] : List La)), (wr .i64 (t9 + 1)), ()), (r31.1, b4, b6, ()))))
 none)
 (cond (bl (ln t8 + ln ([r30.2.1] : List La)) Ya)
 (some (.inl (((), t1, (), t5, (), t7, (ap t8 ([r30.2.1] : List La)), (wr .i64 (t9 + 1)), ()), (r31.1, b4, b6, ()))))
 none)))
 (cond (bl (ln t8 + ln ([r30.2.1] : List La)) Ya)
 (some (.inl (((), t1, (), t5, (), t7, (ap t8 ([r30.2.1] : List La)), (wr .i64 (t9 + 1)), ()), (r30.1, b4, b6, ()))))
 none)))
 (some (.inr (.inl (((), t1, (), t5, (), t7, t8, ()), (b500000, b4, b6, ()))))))
def Wu := Mb fun x : Wae => Vy x.1.1 x.1.2.1 x.1.2.2.1 x.1.2.2.2.1 x.1.2.2.2.2.1 x.1.2.2.2.2.2.1 x.1.2.2.2.2.2.2.1 x.1.2.2.2.2.2.2.2.1 x.2.1 x.2.2.1 x.2.2.2.1
def Uy (t0 : Unit) (t1 : Int) (t4 : Unit) (t5 : Int) (t6 : Unit) (t7 : Int) (b500000 : Ta) (b4 : Ab) (b6 : Ab) : Option (((Unit × (Int × (Unit × SK))) × IP) ⊕ ((O3 × IP) ⊕ Uf)) :=
 (cond (decide (t7 < t5))
 (ob (Wu (((), t1, (), t5, (), t7, [], 0, ()), (b500000, b4, b6, ()))) (se (fun y32 => (cond (bl (ln y32.2.2.2.1.2.1 + ln ([y32.1.2.2.2.2.2.2.1] : List Bo)) Ya)
 (some (.inl (((), y32.1.2.1, (), y32.1.2.2.2.1, (), (wr .i64 (y32.1.2.2.2.2.2.1 + 1)), ()), (y32.2.1, y32.2.2.1, (y32.2.2.2.1.1, (ap y32.2.2.2.1.2.1 ([y32.1.2.2.2.2.2.2.1] : List Bo)), ()), ()))))
 none)) (fun z33 => (some (.inr (.inr ((), ())))))))
 (some (.inr (.inl (((), (), (), ()), (b500000, b4, b6, ()))))))
def Vu := Mb fun x : ((Unit × (Int × (Unit × SK))) × IP) => Uy x.1.1 x.1.2.1 x.1.2.2.1 x.1.2.2.2.1 x.1.2.2.2.2.1 x.1.2.2.2.2.2.1 x.2.1 x.2.2.1 x.2.2.2.1
def WA (a0 : Ta) (a1 : Int) : Option (Ta × Qv) :=
 (ob (Bb a0 4) fun r1 =>
 (ob (Vu (((), a1, (), (wr .i64 (1 + r1.2.1)), (), 0, ()), (r1.1, (0, [], ()), (a1, [], ()), ()))) (se (fun y34 => (some (y34.2.1, (y34.2.2.2.1, ())))) (fun z35 => none))))
def Jt (t1 : Unit) (t2 : Unit) (t3 : Unit) (t4 : Int) (b1 : Ab) (b2 : Ab) (b3 : Ab) : Option ((AV × (Ab × NG)) ⊕ ((QK × NG) ⊕ Uf)) :=
 (cond (decide (t4 < ((ln b1.2.1 : Nat) : Int)))
 (ob (Wb b1.2.1 t4) fun x4 =>
 (cond (bl (ln ([] : List La) + ln x4) Ya)
 (cond (bl (ln b3.2.1 + ln ([(ap [] x4)] : List Bo)) Ya)
 (some (.inl (((), (), (), (wr .i64 (t4 + 1)), ()), (b1, b2, (b3.1, (ap b3.2.1 ([(ap [] x4)] : List Bo)), ()), ()))))
 none)
 none))
 (some (.inr (.inl (((), (), ()), (b2, b3, ()))))))
def Uu := Mb fun x : (AV × (Ab × NG)) => Jt x.1.1 x.1.2.1 x.1.2.2.1 x.1.2.2.2.1 x.2.1 x.2.2.1 x.2.2.2.1
def VA (a0 : Ab) : Option Qv :=
 (ob (Uu (((), (), (), 0, ()), (a0, (0, [], ()), (a0.1, [], ()), ()))) (se (fun y5 => (some (y5.2.2.1, ()))) (fun z6 => none)))
def Bs (t0 : Int) (t3 : Pj) (t12 : Ms) (t13 : Int) (t14 : Int) : Option (((Int × (Pj × (Ms × Jb))) × Unit) ⊕ Zae) :=
 (cond (decide (t14 < t13))
 (cond (Lh (ln t12) t14)
 (ob t12[(tn t14)]? fun x5 =>
 (ob (Pn t0 t14) fun r6 =>
 (cond (r6.1 == 1)
 (cond (bl (ln t3 + ln x5) Ya)
 (some (.inl ((t0, (ap t3 x5), t12, t13, (wr .i64 (t14 + 1)), ()), ())))
 none)
 (some (.inl ((t0, t3, t12, t13, (wr .i64 (t14 + 1)), ()), ()))))))
 none)
 (some (.inr (.inl ((t3, ()), ())))))
def Nn := Mb fun x : ((Int × (Pj × (Ms × Jb))) × Unit) => Bs x.1.1 x.1.2.1 x.1.2.2.1 x.1.2.2.2.1 x.1.2.2.2.2.1
def Qs (a0 : Int) : Option AA :=
 (cond (decide (a0 < 1))
 (some ([], ()))
 (cond (decide (a0 > 15))
 (some ([], ()))
 (ob (Nn ((a0, [], ([([67] : List UInt8), ([83] : List UInt8), ([65] : List UInt8), ([71] : List UInt8)] : List Pj), ((ln ([([67] : List UInt8), ([83] : List UInt8), ([65] : List UInt8), ([71] : List UInt8)] : List Pj) : Nat) : Int), 0, ()), ())) (se (fun y7 => (some (y7.1.1, ()))) (fun z8 => none)))))
def strings_Join (a : List Pj) (b : List UInt8) : Option (List UInt8 × Unit) := JV a b
def Fm (a0 : Ms) (a1 : Pj) : Option AA :=
 (ob (strings_Join a0 a1) fun r1 =>
 (some (r1.1, ())))
def Wj (t1 : Unit) (t3 : Ms) (t10 : Gf) (t11 : Int) (t12 : Int) (b1 : Aa) : Option (((Unit × (Ms × CP)) × Vj) ⊕ (((Unit × N3) × Vj) ⊕ Uf)) :=
 (cond (decide (t12 < t11))
 (ob (Wb t10 t12) fun x8 =>
 (ob (Ic x8) fun r9 =>
 (cond (bl (ln t3 + ln ([r9.1] : List Pj)) Ya)
 (some (.inl (((), (ap t3 ([r9.1] : List Pj)), t10, t11, (wr .i64 (t12 + 1)), ()), (b1, ()))))
 none)))
 (some (.inr (.inl (((), t3, ()), (b1, ()))))))
def Pl := Mb fun x : ((Unit × (Ms × CP)) × Vj) => Wj x.1.1 x.1.2.1 x.1.2.2.1 x.1.2.2.2.1 x.1.2.2.2.2.1 x.2.1
def Jk (a0 : Aa) : Option AA :=
 (ob (Em a0) fun r1 =>
 (cond (!r1.1)
 (some ([], ()))
 (ob (Pl (((), [], a0.2.1, ((ln a0.2.1 : Nat) : Int), 0, ()), (a0, ()))) (se (fun y10 => (ob (Qs y10.2.1.1) fun r12 =>
 (cond (bl (ln r12.1 + ln ([58] : List UInt8)) Ya)
 (ob (Fm y10.1.2.1 ([44] : List UInt8)) fun r13 =>
 (cond (bl (ln (ap r12.1 ([58] : List UInt8)) + ln r13.1) Ya)
 (some ((ap (ap r12.1 ([58] : List UInt8)) r13.1), ()))
 none))
 none))) (fun z11 => none)))))
def Gt (t0 : Dd) (t3 : Int) (t4 : Int) : Option ((GC × Unit) ⊕ OG) :=
 (cond (decide (t4 < ((ln t0 : Nat) : Int)))
 (ob (Wb t0 t4) fun x15 =>
 (ob (Wb t0 t4) fun x16 =>
 (ob (Qc x16.1 0 31) fun r17 =>
 (cond (!r17.1)
 (some (.inr (.inr ((false, ()), ()))))
 (ob (Wb t0 t4) fun x18 =>
 (cond (decide (0 ≤ x18.1))
 (cond ((Yf .i64 (Ci .i64 t3 x18.1) 1) == 1)
 (some (.inr (.inr ((false, ()), ()))))
 (ob (Ni x15.2.1) fun r19 =>
 (cond (!r19.1)
 (some (.inr (.inr ((false, ()), ()))))
 (cond (x15.2.1.1 == 1)
 (some (.inr (.inr ((false, ()), ()))))
 (ob (Ej x15.2.1) fun r20 =>
 (cond r20.1
 (some (.inr (.inr ((false, ()), ()))))
 (ob (Wb t0 t4) fun x21 =>
 (cond (decide (0 ≤ x21.1))
 (some (.inl ((t0, (Nd .i64 t3 (Kd .i64 1 x21.1)), (wr .i64 (t4 + 1)), ()), ())))
 none))))))))
 none))))))
 (some (.inr (.inl ((), ())))))
def Pu := Mb fun x : (GC × Unit) => Gt x.1.1 x.1.2.1 x.1.2.2.1
def Wn (a0 : Dd) : Option Se :=
 (ob (Pu ((a0, 0, 0, ()), ())) (se (fun y22 => (some (true, ()))) (fun z23 => (some (z23.1.1, ())))))
def Kt (t0 : Dd) (t3 : Unit) (t5 : Int) (b3 : Kb) : Option (((Dd × Sw) × XD) ⊕ RK) :=
 (cond (decide (t5 < ((ln t0 : Nat) : Int)))
 (ob (Wb t0 t5) fun x5 =>
 (cond (x5.2.1.2.1 == b3.2.1)
 (ob (Wb t0 t5) fun x6 =>
 (cond (x6.2.1.2.2.1 == b3.2.2.1)
 (some (.inr (.inr ((t5, ()), ()))))
 (some (.inl ((t0, (), (wr .i64 (t5 + 1)), ()), (b3, ()))))))
 (some (.inl ((t0, (), (wr .i64 (t5 + 1)), ()), (b3, ()))))))
 (some (.inr (.inl ((), ())))))
def Yu := Mb fun x : ((Dd × Sw) × XD) => Kt x.1.1 x.1.2.1 x.1.2.2.1 x.2.1
def Cl (a0 : Dd) (a1 : Kb) : Option Tf :=
 (ob (Yu ((a0, (), 0, ()), (a1, ()))) (se (fun y7 => (some ((-1), ()))) (fun z8 => (some (z8.1.1, ())))))
def Lm (a0 : Kb) : Option Ay :=
 (some ((2, a0.2.1, a0.2.2.1, 0, ()), ()))
def Hf (a0 : Dd) (a1 : Int) : Option (Dd × Unit) :=
 (cond (De (ln a0) 0 a1)
 (cond (bl (ln ([] : List Ja) + ln (Nb a0 (tn 0) (tn a1))) Ya)
 (cond (De (ln a0) (wr .i64 (a1 + 1)) ((ln a0 : Nat) : Int))
 (cond (bl (ln (ap [] (Nb a0 (tn 0) (tn a1))) + ln (Nb a0 (tn (wr .i64 (a1 + 1))) (tn ((ln a0 : Nat) : Int)))) Ya)
 (some ((ap (ap [] (Nb a0 (tn 0) (tn a1))) (Nb a0 (tn (wr .i64 (a1 + 1))) (tn ((ln a0 : Nat) : Int)))), ()))
 none)
 none)
 none)
 none)
def Tl (t0 : Ch) (t3 : Dd) (t4 : Int) : Option (((Ch × (Dd × Tf)) × Unit) ⊕ (((Ch × (Dd × Unit)) × Unit) ⊕ Tw)) :=
 (cond (decide (t4 < ((ln t0 : Nat) : Int)))
 (ob (Wb t0 t4) fun x15 =>
 (ob (Cl t3 x15) fun r16 =>
 (ob (Qc x15.1 0 2) fun r17 =>
 (cond (!r17.1)
 (some (.inr (.inr ((false, ()), ()))))
 (ob (Lm x15) fun r18 =>
 (ob (Ni r18.1) fun r19 =>
 (cond (!r19.1)
 (some (.inr (.inr ((false, ()), ()))))
 (cond ((x15.1 == 2) != (decide (r16.1 ≥ 0)))
 (some (.inr (.inr ((false, ()), ()))))
 (cond (x15.1 == 1)
 (ob (Lm x15) fun r20 =>
 (cond (bl (ln t3 + ln ([(0, r20.1, ())] : List Ja)) Ya)
 (some (.inl ((t0, (ap t3 ([(0, r20.1, ())] : List Ja)), (wr .i64 (t4 + 1)), ()), ())))
 none))
 (cond (x15.1 == 2)
 (ob (Hf t3 r16.1) fun r21 =>
 (some (.inl ((t0, r21.1, (wr .i64 (t4 + 1)), ()), ()))))
 (some (.inl ((t0, t3, (wr .i64 (t4 + 1)), ()), ())))))))))))))
 (some (.inr (.inl ((t0, t3, ()), ())))))
def Hs := Mb fun x : ((Ch × (Dd × Tf)) × Unit) => Tl x.1.1 x.1.2.1 x.1.2.2.1
def Qu (a0 : Ch) : Option Se :=
 (ob (Hs ((a0, [], 0, ()), ())) (se (fun y22 => (cond (decide (((ln y22.1.1 : Nat) : Int) ≤ 8))
 (some ((((ln y22.1.2.1 : Nat) : Int) == 0), ()))
 (some (false, ())))) (fun z23 => (some (z23.1.1, ())))))
def Po (t1 : Unit) (t3 : Int) (b1 : Va) : Option ((Sw × Nh) ⊕ ((Uf × Nh) ⊕ Tw)) :=
 (cond (decide (t3 < ((ln b1.2.1 : Nat) : Int)))
 (ob (Wb b1.2.1 t3) fun x7 =>
 (ob (Qu x7) fun r8 =>
 (cond (!r8.1)
 (some (.inr (.inr ((false, ()), ()))))
 (some (.inl (((), (wr .i64 (t3 + 1)), ()), (b1, ())))))))
 (some (.inr (.inl (((), ()), (b1, ()))))))
def Qk := Mb fun x : (Sw × Nh) => Po x.1.1 x.1.2.1 x.2.1
def Qo (t1 : Unit) (t4 : Int) (b1 : Va) : Option ((Sw × Nh) ⊕ ((Uf × Nh) ⊕ Tw)) :=
 (cond (decide (t4 < ((ln b1.2.2.2.1 : Nat) : Int)))
 (ob (Wb b1.2.2.2.1 t4) fun x17 =>
 (cond (decide (x17.1 ≥ b1.1.1))
 (some (.inr (.inr ((false, ()), ()))))
 (ob (Wb b1.2.2.2.1 t4) fun x18 =>
 (cond (x18.2.1.1 != 9)
 (ob (Wb b1.2.2.2.1 t4) fun x19 =>
 (cond (decide (x19.2.1.2.2.2.1 ≥ ((ln b1.1.2.1 : Nat) : Int)))
 (some (.inr (.inr ((false, ()), ()))))
 (some (.inl (((), (wr .i64 (t4 + 1)), ()), (b1, ()))))))
 (some (.inl (((), (wr .i64 (t4 + 1)), ()), (b1, ()))))))))
 (some (.inr (.inl (((), ()), (b1, ()))))))
def Rk := Mb fun x : (Sw × Nh) => Qo x.1.1 x.1.2.1 x.2.1
def Hk (a0 : Va) : Option Se :=
 (ob (Tr a0.1) fun r1 =>
 (cond (!r1.1)
 (some (false, ()))
 (cond (decide (((ln a0.2.1 : Nat) : Int) > 4))
 (some (false, ()))
 (ob (Wn a0.2.2.2.1) fun r2 =>
 (cond (!r2.1)
 (some (false, ()))
 (ob (Qk (((), 0, ()), (a0, ()))) (se (fun y9 => (ob (Rk (((), 0, ()), (y9.2.1, ()))) (se (fun y20 => (cond (decide (0 ≤ ((ln y20.2.1.1.2.1 : Nat) : Int)))
 (ob (Qc y20.2.1.2.2.1 0 (wr .i64 ((Kd .i64 1 ((ln y20.2.1.1.2.1 : Nat) : Int)) - 1))) fun r22 =>
 (cond r22.1
 (cond ((2 : Int) == 0)
 none
 (cond ((Int.tmod y20.2.1.2.2.1 2) == 0)
 (ob (Qc y20.2.1.2.2.2.2.1 0 15) fun r23 =>
 (some (r23.1, ())))
 (some (false, ()))))
 (some (false, ()))))
 none)) (fun z21 => (some (z21.1.1, ())))))) (fun z10 => (some (z10.1.1, ()))))))))))
def Lt (t1 : Unit) (t2 : Unit) (t3 : Unit) (t4 : Int) (b1 : Va) (b2 : Va) (b3 : Va) : Option ((AV × (Va × I3)) ⊕ ((O3 × (Va × I3)) ⊕ Uf)) :=
 (cond (decide (t4 < ((ln b1.2.1 : Nat) : Int)))
 (ob (Wb b1.2.1 t4) fun x4 =>
 (cond (bl (ln ([] : List Kb) + ln x4) Ya)
 (cond (bl (ln b3.2.1 + ln ([(ap [] x4)] : List Ch)) Ya)
 (some (.inl (((), (), (), (wr .i64 (t4 + 1)), ()), (b1, b2, (b3.1, (ap b3.2.1 ([(ap [] x4)] : List Ch)), b3.2.2), ()))))
 none)
 none))
 (some (.inr (.inl (((), (), (), ()), (b1, b2, b3, ()))))))
def Zu := Mb fun x : (AV × (Va × I3)) => Lt x.1.1 x.1.2.1 x.1.2.2.1 x.1.2.2.2.1 x.2.1 x.2.2.1 x.2.2.2.1
def Nj (a0 : Va) : Option Nh :=
 (ob (VA a0.1) fun r1 =>
 (ob (Zu (((), (), (), 0, ()), (a0, Zp, (r1.1, [], a0.2.2), ()))) (se (fun y5 => (cond (bl (ln ([] : List Ja) + ln y5.2.1.2.2.2.1) Ya)
 (some ((y5.2.2.2.1.1, y5.2.2.2.1.2.1, y5.2.2.2.1.2.2.1, (ap [] y5.2.1.2.2.2.1), y5.2.2.2.1.2.2.2.2), ()))
 none)) (fun z6 => none))))
def Kv (a0 : Ab) (a1 : Co) : Option (Va × Se) :=
 (ob (Hk (a0, a1, 0, [], 0, false, ())) fun r1 =>
 (cond (!r1.1)
 (some (Zp, false, ()))
 (ob (Nj (a0, a1, 0, [], 0, false, ())) fun r2 =>
 (some (r2.1, true, ())))))
def Ft (t1 : Int) (t2 : Unit) (t5 : Int) (b2 : Va) : Option ((SK × Nh) ⊕ RK) :=
 (cond (decide (t5 < ((ln b2.2.2.2.1 : Nat) : Int)))
 (ob (Wb b2.2.2.2.1 t5) fun x3 =>
 (cond (x3.1 == t1)
 (some (.inr (.inr ((t5, ()), ()))))
 (some (.inl ((t1, (), (wr .i64 (t5 + 1)), ()), (b2, ()))))))
 (some (.inr (.inl ((), ())))))
def Nu := Mb fun x : (SK × Nh) => Ft x.1.1 x.1.2.1 x.1.2.2.1 x.2.1
def Ow (a0 : Va) (a1 : Int) : Option Tf :=
 (ob (Nu ((a1, (), 0, ()), (a0, ()))) (se (fun y4 => (some ((-1), ()))) (fun z5 => (some (z5.1.1, ())))))
def So (t1 : Dd) (t5 : Int) (t6 : Int) : Option ((GC × Unit) ⊕ VU) :=
 (cond (decide (t6 < ((ln t1 : Nat) : Int)))
 (ob (Wn t1) fun r19 =>
 (cond r19.1
 (ob (Wb t1 t6) fun x20 =>
 (cond (x20.2.1.1 == 3)
 (ob (Wb t1 t6) fun x21 =>
 (cond (decide (0 ≤ x21.2.1.2.2.2.1))
 (some (.inl ((t1, (Nd .i64 t5 (Kd .i64 1 x21.2.1.2.2.2.1)), (wr .i64 (t6 + 1)), ()), ())))
 none))
 (some (.inl ((t1, t5, (wr .i64 (t6 + 1)), ()), ())))))
 (some (.inr (.inl ((t5, ()), ()))))))
 (some (.inr (.inl ((t5, ()), ())))))
def Uk := Mb fun x : (GC × Unit) => So x.1.1 x.1.2.1 x.1.2.2.1
def Vr (a0 : Int) (a1 : Dd) : Option Tf :=
 (ob (Qc a0 0 15) fun r1 =>
 (cond r1.1
 (ob (Uk ((a1, (Nd .i64 1 a0), 0, ()), ())) (se (fun y11 => (some (y11.1.1, ()))) (fun z12 => none)))
 (ob (Uk ((a1, 1, 0, ()), ())) (se (fun y22 => (some (y22.1.1, ()))) (fun z23 => none)))))
def Ht (a0 : Int) : Option Se :=
 (ob (Qc a0 1 36) fun r1 =>
 (cond r1.1
 (some (true, ()))
 (cond (a0 == 39)
 (some (true, ()))
 (some ((a0 == 42), ())))))
def VH (a0 : Va) (a1 : La) : Option (Va × Ay) :=
 (ob (Ht a1.2.1) fun r1 =>
 (cond (!r1.1)
 (some ((a0.1, a0.2.1, a0.2.2.1, a0.2.2.2.1, 0, false, a0.2.2.2.2.2.2), ((a1.1, a1.2.1, (Nd .i64 a1.2.2.1 a0.2.2.2.2.1), a1.2.2.2), ())))
 (cond a0.2.2.2.2.2.1
 (cond (decide (a1.2.1 ≤ 26))
 (cond ((Ui .i64 (Nd .i64 a1.2.2.1 a0.2.2.2.2.1) 2) == 0)
 (some ((a0.1, a0.2.1, a0.2.2.1, a0.2.2.2.1, 0, a0.2.2.2.2.2), ((a1.1, a1.2.1, 2, a1.2.2.2), ())))
 (some ((a0.1, a0.2.1, a0.2.2.1, a0.2.2.2.1, 0, a0.2.2.2.2.2), ((a1.1, a1.2.1, (Nd .i64 a1.2.2.1 a0.2.2.2.2.1), a1.2.2.2), ()))))
 (some ((a0.1, a0.2.1, a0.2.2.1, a0.2.2.2.1, 0, a0.2.2.2.2.2), ((a1.1, a1.2.1, (Nd .i64 a1.2.2.1 a0.2.2.2.2.1), a1.2.2.2), ()))))
 (some ((a0.1, a0.2.1, a0.2.2.1, a0.2.2.2.1, 0, a0.2.2.2.2.2), ((a1.1, a1.2.1, (Nd .i64 a1.2.2.1 a0.2.2.2.2.1), a1.2.2.2), ()))))))
def Ik (a0 : Va) (a1 : La) : Option (Va × Ay) :=
 (cond (a1.1 == 2)
 (cond (decide (a1.2.1 > 0))
 (ob (VH a0 a1) fun r1 =>
 (some (r1.1, (r1.2.1, ()))))
 (some (a0, (a1, ()))))
 (cond (a1.1 == 4)
 (cond (decide (0 ≤ a1.2.2.2.1))
 (some ((a0.1, a0.2.1, (Bh .i64 a0.2.2.1 (Kd .i64 1 a1.2.2.2.1)), a0.2.2.2), (a1, ())))
 none)
 (cond (a1.1 == 5)
 (cond (decide (0 ≤ a1.2.2.2.1))
 (some ((a0.1, a0.2.1, (Ui .i64 (Kd .i64 1 a1.2.2.2.1) 1), a0.2.2.2), (a1, ())))
 none)
 (cond (a1.1 == 8)
 (cond ((Yf .i64 a0.2.2.2.2.1 a1.2.2.1) == a1.2.2.1)
 (some ((a0.1, a0.2.1, a0.2.2.1, a0.2.2.2.1, (Ui .i64 a0.2.2.2.2.1 a1.2.2.1), a0.2.2.2.2.2), (a1, ())))
 (some ((a0.1, a0.2.1, a0.2.2.1, a0.2.2.2.1, (Nd .i64 a0.2.2.2.2.1 a1.2.2.1), a0.2.2.2.2.2), (a1, ()))))
 (cond (a1.1 == 10)
 (some ((a0.1, a0.2.1, a0.2.2.1, a0.2.2.2.1, a0.2.2.2.2.1, (!a0.2.2.2.2.2.1), a0.2.2.2.2.2.2), (a1, ())))
 (some (a0, (a1, ()))))))))
def To (t0 : Dd) (t2 : Unit) (t3 : Unit) (t4 : Int) (b2 : Aa) (b3 : Aa) : Option (PG ⊕ (((Dd × QK) × Fq) ⊕ Uf)) :=
 (cond (decide (t4 < ((ln t0 : Nat) : Int)))
 (ob (Wb t0 t4) fun x10 =>
 (cond (x10.2.1.1 == 2)
 (ob (Wb t0 t4) fun x11 =>
 (some (.inl ((t0, (), (), (wr .i64 (t4 + 1)), ()), (b2, ((Nd .i64 b3.1 x11.2.1.2.2.1), b3.2.1, ()), ())))))
 (ob (Wb t0 t4) fun x12 =>
 (cond (x12.2.1.1 == 8)
 (ob (Wb t0 t4) fun x13 =>
 (some (.inl ((t0, (), (), (wr .i64 (t4 + 1)), ()), (b2, ((Nd .i64 b3.1 x13.2.1.2.2.1), b3.2.1, ()), ())))))
 (some (.inl ((t0, (), (), (wr .i64 (t4 + 1)), ()), (b2, b3, ()))))))))
 (some (.inr (.inl ((t0, (), (), ()), (b2, b3, ()))))))
def Ar := Mb fun x : PG => To x.1.1 x.1.2.1 x.1.2.2.1 x.1.2.2.2.1 x.2.1 x.2.2.1
def Dn (t0 : Dd) (t2 : Unit) (t3 : Unit) (t5 : Int) (t6 : Int) (b2 : Aa) (b3 : Aa) : Option (((Dd × (Unit × UD)) × Fq) ⊕ (PG ⊕ Uf)) :=
 (cond (decide (t6 < ((ln t0 : Nat) : Int)))
 (ob (Wb t0 t6) fun x28 =>
 (cond (x28.2.1.2.1 == t5)
 (cond (bl (ln b3.2.1 + ln ([t5] : List Int)) Ya)
 (some (.inr (.inl ((t0, (), (), t5, ()), (b2, (b3.1, (ap b3.2.1 ([t5] : List Int)), ()), ())))))
 none)
 (some (.inl ((t0, (), (), t5, (wr .i64 (t6 + 1)), ()), (b2, b3, ()))))))
 (some (.inr (.inl ((t0, (), (), t5, ()), (b2, b3, ()))))))
def Ak := Mb fun x : ((Dd × (Unit × UD)) × Fq) => Dn x.1.1 x.1.2.1 x.1.2.2.1 x.1.2.2.2.1 x.1.2.2.2.2.1 x.2.1 x.2.2.1
def Cn (t0 : Dd) (t2 : Unit) (t3 : Unit) (t5 : Int) (b2 : Aa) (b3 : Aa) : Option (PG ⊕ ((QK × Fq) ⊕ Uf)) :=
 (cond (decide (t5 ≤ 56))
 (ob (Ak ((t0, (), (), t5, 0, ()), (b2, b3, ()))) (se (fun y29 => (some (.inl ((y29.1.1, (), (), (wr .i64 (y29.1.2.2.2.1 + 1)), ()), y29.2)))) (fun z30 => (some (.inr (.inr ((), ())))))))
 (some (.inr (.inl (((), (), ()), (b2, b3, ()))))))
def Tp := Mb fun x : PG => Cn x.1.1 x.1.2.1 x.1.2.2.1 x.1.2.2.2.1 x.2.1 x.2.2.1
def Hd (a0 : Dd) : Option Vj :=
 (ob (Wn a0) fun r1 =>
 (cond (!r1.1)
 (some ((0, [], ()), ()))
 (ob (Ar ((a0, (), (), 0, ()), ((0, [], ()), (0, [], ()), ()))) (se (fun y14 => (ob (Tp ((y14.1.1, (), (), 1, ()), y14.2)) (se (fun y31 => (some (y31.2.2.1, ()))) (fun z32 => none)))) (fun z15 => none)))))
def Uo (t1 : Dd) (t4 : Unit) (t5 : Unit) (t6 : Int) (b4 : Aa) (b5 : Aa) : Option (PG ⊕ (((Dd × QK) × Fq) ⊕ Uf)) :=
 (cond (decide (t6 < ((ln t1 : Nat) : Int)))
 (ob (Wb t1 t6) fun x4 =>
 (some (.inl ((t1, (), (), (wr .i64 (t6 + 1)), ()), (b4, ((Nd .i64 b5.1 x4.2.1.2.2.1), b5.2.1, ()), ())))))
 (some (.inr (.inl ((t1, (), (), ()), (b4, b5, ()))))))
def Gr := Mb fun x : PG => Uo x.1.1 x.1.2.1 x.1.2.2.1 x.1.2.2.2.1 x.2.1 x.2.2.1
def Gn (t1 : Dd) (t4 : Unit) (t5 : Unit) (t7 : Gf) (t8 : Int) (t9 : Bool) (t10 : Int) (b4 : Aa) (b5 : Aa) : Option Yae :=
 (cond (decide (t10 < ((ln b5.2.1 : Nat) : Int)))
 (cond t9
 (some (.inl ((t1, (), (), t7, t8, true, (wr .i64 (t10 + 1)), ()), (b4, b5, ()))))
 (cond (Lh (ln b5.2.1) t10)
 (ob b5.2.1[(tn t10)]? fun x29 =>
 (some (.inl ((t1, (), (), t7, t8, (x29 == t8), (wr .i64 (t10 + 1)), ()), (b4, b5, ())))))
 none))
 (some (.inr (.inl ((t1, (), (), t7, t8, t9, ()), (b4, b5, ()))))))
def Bk := Mb fun x : H3 => Gn x.1.1 x.1.2.1 x.1.2.2.1 x.1.2.2.2.1 x.1.2.2.2.2.1 x.1.2.2.2.2.2.1 x.1.2.2.2.2.2.2.1 x.2.1 x.2.2.1
def Hn (t1 : Dd) (t4 : Unit) (t5 : Unit) (t7 : Gf) (t8 : Int) (t9 : Bool) (t11 : Int) (b4 : Aa) (b5 : Aa) : Option Yae :=
 (cond (decide (t11 < ((ln t1 : Nat) : Int)))
 (cond t9
 (some (.inl ((t1, (), (), t7, t8, true, (wr .i64 (t11 + 1)), ()), (b4, b5, ()))))
 (ob (Wb t1 t11) fun x34 =>
 (some (.inl ((t1, (), (), t7, t8, (x34.2.1.2.1 == t8), (wr .i64 (t11 + 1)), ()), (b4, b5, ()))))))
 (some (.inr (.inl ((t1, (), (), t7, t8, t9, ()), (b4, b5, ()))))))
def Ck := Mb fun x : H3 => Hn x.1.1 x.1.2.1 x.1.2.2.1 x.1.2.2.2.1 x.1.2.2.2.2.1 x.1.2.2.2.2.2.1 x.1.2.2.2.2.2.2.1 x.2.1 x.2.2.1
def Vo (t1 : Dd) (t4 : Unit) (t5 : Unit) (t7 : Gf) (t8 : Int) (b4 : Aa) (b5 : Aa) : Option (((Dd × (Unit × Xae)) × Fq) ⊕ L3) :=
 (cond (decide (t8 ≤ 56))
 (ob (Bk ((t1, (), (), t7, t8, false, 0, ()), (b4, b5, ()))) (se (fun y30 => (ob (Ck ((y30.1.1, (), (), y30.1.2.2.2.1, y30.1.2.2.2.2.1, y30.1.2.2.2.2.2.1, 0, ()), y30.2)) (se (fun y35 => (cond y35.1.2.2.2.2.2.1
 (cond (bl (ln y35.1.2.2.2.1 + ln ([y35.1.2.2.2.2.1] : List Int)) Ya)
 (some (.inl ((y35.1.1, (), (), (ap y35.1.2.2.2.1 ([y35.1.2.2.2.2.1] : List Int)), (wr .i64 (y35.1.2.2.2.2.1 + 1)), ()), y35.2)))
 none)
 (some (.inl ((y35.1.1, (), (), y35.1.2.2.2.1, (wr .i64 (y35.1.2.2.2.2.1 + 1)), ()), y35.2))))) (fun z36 => (some (.inr (.inr ((), ())))))))) (fun z31 => (some (.inr (.inr ((), ())))))))
 (some (.inr (.inl (((), (), t7, ()), (b4, b5, ()))))))
def Hr := Mb fun x : ((Dd × (Unit × Xae)) × Fq) => Vo x.1.1 x.1.2.1 x.1.2.2.1 x.1.2.2.2.1 x.1.2.2.2.2.1 x.2.1 x.2.2.1
def Ug (a0 : Dd) (a1 : Dd) : Option Vj :=
 (ob (Hd a0) fun r1 =>
 (ob (Gr ((a1, (), (), 0, ()), ((0, [], ()), r1.1, ()))) (se (fun y5 => (ob (Hr ((y5.1.1, (), (), [], 1, ()), y5.2)) (se (fun y37 => (some ((y37.2.2.1.1, y37.1.2.2.1, ()), ()))) (fun z38 => none)))) (fun z6 => none))))
def Zj (t0 : Dd) (t1 : Ch) (t5 : Ah) (t6 : Dd) (t7 : Int) : Option (((Dd × (Ch × (Ah × (Dd × Tf)))) × Unit) ⊕ CV) :=
 (cond (decide (t7 < ((ln t1 : Nat) : Int)))
 (ob (Wb t1 t7) fun x21 =>
 (cond (x21.1 != 2)
 (ob (Lm x21) fun r22 =>
 (cond (bl (ln t6 + ln ([(0, r22.1, ())] : List Ja)) Ya)
 (ob (Ug t0 (ap t6 ([(0, r22.1, ())] : List Ja))) fun r23 =>
 (cond (bl (ln t5 + ln ([r23.1] : List Aa)) Ya)
 (cond (x21.1 != 1)
 (ob (Cl (ap t6 ([(0, r22.1, ())] : List Ja)) x21) fun r24 =>
 (ob (Hf (ap t6 ([(0, r22.1, ())] : List Ja)) r24.1) fun r25 =>
 (ob (Ug t0 r25.1) fun r26 =>
 (cond (bl (ln (ap t5 ([r23.1] : List Aa)) + ln ([r26.1] : List Aa)) Ya)
 (some (.inl ((t0, t1, (ap (ap t5 ([r23.1] : List Aa)) ([r26.1] : List Aa)), r25.1, (wr .i64 (t7 + 1)), ()), ())))
 none))))
 (some (.inl ((t0, t1, (ap t5 ([r23.1] : List Aa)), (ap t6 ([(0, r22.1, ())] : List Ja)), (wr .i64 (t7 + 1)), ()), ()))))
 none))
 none))
 (cond (x21.1 != 1)
 (ob (Cl t6 x21) fun r27 =>
 (ob (Hf t6 r27.1) fun r28 =>
 (ob (Ug t0 r28.1) fun r29 =>
 (cond (bl (ln t5 + ln ([r29.1] : List Aa)) Ya)
 (some (.inl ((t0, t1, (ap t5 ([r29.1] : List Aa)), r28.1, (wr .i64 (t7 + 1)), ()), ())))
 none))))
 (some (.inl ((t0, t1, t5, t6, (wr .i64 (t7 + 1)), ()), ()))))))
 (some (.inr (.inl ((t5, ()), ())))))
def Ul := Mb fun x : ((Dd × (Ch × (Ah × (Dd × Tf)))) × Unit) => Zj x.1.1 x.1.2.1 x.1.2.2.1 x.1.2.2.2.1 x.1.2.2.2.2.1
def Hi (a0 : Dd) (a1 : Ch) : Option YD :=
 (ob (Wn a0) fun r1 =>
 (cond (!r1.1)
 (some ([], ()))
 (ob (Qu a1) fun r2 =>
 (cond (!r2.1)
 (some ([], ()))
 (ob (Ul ((a0, a1, [], [], 0, ()), ())) (se (fun y30 => (some (y30.1.1, ()))) (fun z31 => none)))))))
def Yl (t2 : Unit) (t3 : Unit) (t5 : Int) (b2 : Aa) (b3 : Aa) : Option ((DP × Fq) ⊕ OG) :=
 (cond (decide (t5 < ((ln b2.2.1 : Nat) : Int)))
 (ob (Wb b2.2.1 t5) fun x5 =>
 (ob (Wb b3.2.1 t5) fun x6 =>
 (cond (x5 != x6)
 (some (.inr (.inr ((false, ()), ()))))
 (some (.inl (((), (), (wr .i64 (t5 + 1)), ()), (b2, b3, ())))))))
 (some (.inr (.inl ((), ())))))
def Xn := Mb fun x : (DP × Fq) => Yl x.1.1 x.1.2.1 x.1.2.2.1 x.2.1 x.2.2.1
def It (a0 : Aa) (a1 : Aa) : Option Se :=
 (cond (a0.1 != a1.1)
 (some (false, ()))
 (cond (((ln a0.2.1 : Nat) : Int) != ((ln a1.2.1 : Nat) : Int))
 (some (false, ()))
 (ob (Xn (((), (), 0, ()), (a0, a1, ()))) (se (fun y7 => (some (true, ()))) (fun z8 => (some (z8.1.1, ())))))))
def Jn (t1 : Ah) (t2 : Unit) (t5 : Ah) (t6 : Int) (b2 : Aa) : Option (((Ah × (Unit × (Ah × Tf))) × Vj) ⊕ CV) :=
 (cond (decide (t6 < ((ln t1 : Nat) : Int)))
 (ob (Wb t1 t6) fun x13 =>
 (ob (It b2 x13) fun r14 =>
 (cond (!r14.1)
 (ob (Wb t1 t6) fun x15 =>
 (ob (XA x15) fun r16 =>
 (cond (bl (ln t5 + ln ([r16.1] : List Aa)) Ya)
 (ob (Wb t1 t6) fun x17 =>
 (some (.inl ((t1, (), (ap t5 ([r16.1] : List Aa)), (wr .i64 (t6 + 1)), ()), (x17, ())))))
 none)))
 (ob (Wb t1 t6) fun x18 =>
 (some (.inl ((t1, (), t5, (wr .i64 (t6 + 1)), ()), (x18, ()))))))))
 (some (.inr (.inl ((t5, ()), ())))))
def Wp := Mb fun x : ((Ah × (Unit × (Ah × Tf))) × Vj) => Jn x.1.1 x.1.2.1 x.1.2.2.1 x.1.2.2.2.1 x.2.1
def Qf (a0 : Aa) (a1 : Ah) : Option YD :=
 (ob (Wp ((a1, (), [], 0, ()), (a0, ()))) (se (fun y19 => (some (y19.1.1, ()))) (fun z20 => none)))
def Mj (a0 : Va) (a1 : Int) (a2 : Bool) : Option Vae :=
 (ob (Hk a0) fun r1 =>
 (cond (!r1.1)
 (some (Zp, [], false, ()))
 (ob (Qc a1 0 (wr .i64 (a0.1.1 - 1))) fun r2 =>
 (cond (!r2.1)
 (some (Zp, [], false, ()))
 (ob (Ow a0 a1) fun r3 =>
 (cond (decide (r3.1 ≥ 0))
 (some (Zp, [], false, ()))
 (ob (Nj a0) fun r4 =>
 (ob (Vr a0.2.2.1 a0.2.2.2.1) fun r5 =>
 (ob (Sr a0.1 r5.1 a1) fun r6 =>
 (cond a2
 (ob (RA r6.1) fun r7 =>
 (ob (Ik r4.1 r7.1) fun r8 =>
 (cond (bl (ln r8.1.2.2.2.1 + ln ([(a1, r8.2.1, ())] : List Ja)) Ya)
 (cond (r8.2.1.1 == 9)
 (cond (decide (r8.2.1.2.2.2.1 < ((ln a0.2.1 : Nat) : Int)))
 (ob (Wb a0.2.1 r8.2.1.2.2.2.1) fun x9 =>
 (ob (Hi (ap r8.1.2.2.2.1 ([(a1, r8.2.1, ())] : List Ja)) x9) fun r10 =>
 (ob (Hd (ap r8.1.2.2.2.1 ([(a1, r8.2.1, ())] : List Ja))) fun r11 =>
 (cond (bl (ln r10.1 + ln ([r11.1] : List Aa)) Ya)
 (ob (Hd a0.2.2.2.1) fun r12 =>
 (ob (Qf r12.1 (ap r10.1 ([r11.1] : List Aa))) fun r13 =>
 (some ((r8.1.1, r8.1.2.1, r8.1.2.2.1, (ap r8.1.2.2.2.1 ([(a1, r8.2.1, ())] : List Ja)), r8.1.2.2.2.2), r13.1, true, ()))))
 none))))
 (ob (Hd (ap r8.1.2.2.2.1 ([(a1, r8.2.1, ())] : List Ja))) fun r14 =>
 (cond (bl (ln ([] : List Aa) + ln ([r14.1] : List Aa)) Ya)
 (ob (Hd a0.2.2.2.1) fun r15 =>
 (ob (Qf r15.1 (ap [] ([r14.1] : List Aa))) fun r16 =>
 (some ((r8.1.1, r8.1.2.1, r8.1.2.2.1, (ap r8.1.2.2.2.1 ([(a1, r8.2.1, ())] : List Ja)), r8.1.2.2.2.2), r16.1, true, ()))))
 none)))
 (ob (Hd (ap r8.1.2.2.2.1 ([(a1, r8.2.1, ())] : List Ja))) fun r17 =>
 (cond (bl (ln ([] : List Aa) + ln ([r17.1] : List Aa)) Ya)
 (ob (Hd a0.2.2.2.1) fun r18 =>
 (ob (Qf r18.1 (ap [] ([r17.1] : List Aa))) fun r19 =>
 (some ((r8.1.1, r8.1.2.1, r8.1.2.2.1, (ap r8.1.2.2.2.1 ([(a1, r8.2.1, ())] : List Ja)), r8.1.2.2.2.2), r19.1, true, ()))))
 none)))
 none)))
 (ob (LC r6.1) fun r20 =>
 (ob (Ik r4.1 r20.1) fun r21 =>
 (cond (bl (ln r21.1.2.2.2.1 + ln ([(a1, r21.2.1, ())] : List Ja)) Ya)
 (cond (r21.2.1.1 == 9)
 (cond (decide (r21.2.1.2.2.2.1 < ((ln a0.2.1 : Nat) : Int)))
 (ob (Wb a0.2.1 r21.2.1.2.2.2.1) fun x22 =>
 (ob (Hi (ap r21.1.2.2.2.1 ([(a1, r21.2.1, ())] : List Ja)) x22) fun r23 =>
 (ob (Hd (ap r21.1.2.2.2.1 ([(a1, r21.2.1, ())] : List Ja))) fun r24 =>
 (cond (bl (ln r23.1 + ln ([r24.1] : List Aa)) Ya)
 (ob (Hd a0.2.2.2.1) fun r25 =>
 (ob (Qf r25.1 (ap r23.1 ([r24.1] : List Aa))) fun r26 =>
 (some ((r21.1.1, r21.1.2.1, r21.1.2.2.1, (ap r21.1.2.2.2.1 ([(a1, r21.2.1, ())] : List Ja)), r21.1.2.2.2.2), r26.1, true, ()))))
 none))))
 (ob (Hd (ap r21.1.2.2.2.1 ([(a1, r21.2.1, ())] : List Ja))) fun r27 =>
 (cond (bl (ln ([] : List Aa) + ln ([r27.1] : List Aa)) Ya)
 (ob (Hd a0.2.2.2.1) fun r28 =>
 (ob (Qf r28.1 (ap [] ([r27.1] : List Aa))) fun r29 =>
 (some ((r21.1.1, r21.1.2.1, r21.1.2.2.1, (ap r21.1.2.2.2.1 ([(a1, r21.2.1, ())] : List Ja)), r21.1.2.2.2.2), r29.1, true, ()))))
 none)))
 (ob (Hd (ap r21.1.2.2.2.1 ([(a1, r21.2.1, ())] : List Ja))) fun r30 =>
 (cond (bl (ln ([] : List Aa) + ln ([r30.1] : List Aa)) Ya)
 (ob (Hd a0.2.2.2.1) fun r31 =>
 (ob (Qf r31.1 (ap [] ([r30.1] : List Aa))) fun r32 =>
 (some ((r21.1.1, r21.1.2.1, r21.1.2.2.1, (ap r21.1.2.2.2.1 ([(a1, r21.2.1, ())] : List Ja)), r21.1.2.2.2.2), r32.1, true, ()))))
 none)))
 none)))))))))))))
def Ru (a0 : Va) (a1 : Int) : Option Vae :=
 (ob (Ow a0 a1) fun r1 =>
 (ob (Hk a0) fun r2 =>
 (cond (!r2.1)
 (some (Zp, [], false, ()))
 (cond (decide (r1.1 < 0))
 (some (Zp, [], false, ()))
 (ob (Nj a0) fun r3 =>
 (ob (Hf r3.1.2.2.2.1 r1.1) fun r4 =>
 (ob (Hd a0.2.2.2.1) fun r5 =>
 (ob (Hd r4.1) fun r6 =>
 (ob (Qf r5.1 ([r6.1] : List Aa)) fun r7 =>
 (some ((r3.1.1, r3.1.2.1, r3.1.2.2.1, r4.1, r3.1.2.2.2.2), r7.1, true, ())))))))))))
def Ou (a0 : Ia) : Option Se :=
 (ob (Qc a0.1 0 1000000) fun r1 =>
 (cond r1.1
 (ob (Qc a0.2.1 0 31) fun r2 =>
 (some (r2.1, ())))
 (some (false, ()))))
def Zl (t0 : Kh) (t1 : Int) (t2 : Int) (t3 : Int) (t9 : Int) : Option (((Kh × La) × Unit) ⊕ ((XU × Unit) ⊕ Tw)) :=
 (cond (decide (t9 < ((ln t0 : Nat) : Int)))
 (ob (Wb t0 t9) fun x17 =>
 (ob (Ou x17) fun r18 =>
 (cond (!r18.1)
 (some (.inr (.inr ((false, ()), ()))))
 (ob (Wb t0 t9) fun x19 =>
 (cond (decide (x19.2.1 ≥ t2))
 (some (.inr (.inr ((false, ()), ()))))
 (ob (Wb t0 t9) fun x20 =>
 (cond (decide (x20.1 < t3))
 (some (.inr (.inr ((false, ()), ()))))
 (ob (Wb t0 t9) fun x21 =>
 (ob (Wb t0 t9) fun x22 =>
 (cond (decide (0 ≤ x22.2.1))
 (cond (x21.2.2.1 == ((Yf .i64 (Ci .i64 t1 x22.2.1) 1) == 1))
 (some (.inr (.inr ((false, ()), ()))))
 (ob (Wb t0 t9) fun x23 =>
 (ob (Wb t0 t9) fun x24 =>
 (cond (decide (0 ≤ x24.2.1))
 (some (.inl ((t0, (Bh .i64 t1 (Kd .i64 1 x24.2.1)), t2, x23.1, (wr .i64 (t9 + 1)), ()), ())))
 none))))
 none))))))))))
 (some (.inr (.inl ((t0, ()), ())))))
def Yn := Mb fun x : ((Kh × La) × Unit) => Zl x.1.1 x.1.2.1 x.1.2.2.1 x.1.2.2.2.1 x.1.2.2.2.2.1
def En (a0 : Kh) (a1 : Int) (a2 : Int) (a3 : Int) : Option Se :=
 (ob (Yn ((a0, a1, a2, a3, 0, ()), ())) (se (fun y25 => (some ((decide (((ln y25.1.1 : Nat) : Int) ≤ 64)), ()))) (fun z26 => (some (z26.1.1, ())))))
def Wy (t0 : Unit) (t3 : Ch) (t4 : Int) (b500000 : Ta) : Option (((Unit × (Ch × Tf)) × FC) ⊕ (((Unit × (Ch × Unit)) × FC) ⊕ Uf)) :=
 (cond (decide (t4 > 0))
 (ob (Bb b500000 56) fun r8 =>
 (ob (Fj r8.1 ([0, 0, 2, 1] : List Int)) fun r9 =>
 (ob (Bl r9.1 2) fun r10 =>
 (cond r10.2.1
 (cond (bl (ln t3 + ln ([(0, (wr .i64 (1 + r8.2.1)), r9.2.1, ())] : List Kb)) Ya)
 (some (.inl (((), (ap t3 ([(0, (wr .i64 (1 + r8.2.1)), r9.2.1, ())] : List Kb)), (wr .i64 (t4 - 1)), ()), (r10.1, ()))))
 none)
 (cond (bl (ln t3 + ln ([(1, (wr .i64 (1 + r8.2.1)), r9.2.1, ()), (0, (wr .i64 ((wr .i64 (60 - ((ln t3 : Nat) : Int))) - 10)), 8, ()), (2, (wr .i64 (1 + r8.2.1)), r9.2.1, ())] : List Kb)) Ya)
 (some (.inl (((), (ap t3 ([(1, (wr .i64 (1 + r8.2.1)), r9.2.1, ()), (0, (wr .i64 ((wr .i64 (60 - ((ln t3 : Nat) : Int))) - 10)), 8, ()), (2, (wr .i64 (1 + r8.2.1)), r9.2.1, ())] : List Kb)), (wr .i64 (t4 - 1)), ()), (r10.1, ()))))
 none)))))
 (some (.inr (.inl (((), t3, ()), (b500000, ()))))))
def Xu := Mb fun x : ((Unit × (Ch × Tf)) × FC) => Wy x.1.1 x.1.2.1 x.1.2.2.1 x.2.1
def YA (a0 : Ta) : Option (Ta × (Ch × Unit)) :=
 (ob (Bb a0 3) fun r1 =>
 (ob (Xu (((), [], r1.2.1, ()), (r1.1, ()))) (se (fun y11 => (some (y11.2.1, (y11.1.2.1, ())))) (fun z12 => none))))
def Wz (t0 : Unit) (t1 : Int) (t4 : Unit) (t5 : Co) (t6 : Int) (b500000 : Ta) (b4 : Va) : Option (P5 ⊕ (((Unit × (Int × (Unit × (Co × Unit)))) × (Ta × Nh)) ⊕ Uf)) :=
 (cond (decide (t6 > 0))
 (ob (YA b500000) fun r4 =>
 (cond (bl (ln t5 + ln ([r4.2.1] : List Ch)) Ya)
 (some (.inl (((), t1, (), (ap t5 ([r4.2.1] : List Ch)), (wr .i64 (t6 - 1)), ()), (r4.1, b4, ()))))
 none))
 (some (.inr (.inl (((), t1, (), t5, ()), (b500000, b4, ()))))))
def Ew := Mb fun x : P5 => Wz x.1.1 x.1.2.1 x.1.2.2.1 x.1.2.2.2.1 x.1.2.2.2.2.1 x.2.1 x.2.2.1
def NC (a0 : Ta) (a1 : Int) : Option (Ta × Nh) :=
 (ob (Bb a0 4) fun r1 =>
 (ob (Ew (((), a1, (), [], r1.2.1, ()), (r1.1, Zp, ()))) (se (fun y5 => (ob (WA y5.2.1 y5.1.2.1) fun r7 =>
 (ob (Kv r7.2.1 y5.1.2.2.2.1) fun r8 =>
 (some (r7.1, (r8.1, ())))))) (fun z6 => none))))
def Ur (a0 : Kb) : Option Se :=
 (ob (Qc a0.1 1 1000) fun r1 =>
 (cond r1.1
 (ob (Qc a0.2.1 0 1000) fun r2 =>
 (cond r2.1
 (ob (Qc a0.2.2.1 0 2) fun r3 =>
 (some (r3.1, ())))
 (some (false, ()))))
 (some (false, ()))))
def Yr (a0 : Int) : Option Tf :=
 (ob (Qc a0 0 31) fun r1 =>
 (cond (!r1.1)
 (some (0, ()))
 (cond (decide (0 ≤ a0))
 (some ((Kd .i64 1 a0), ()))
 none)))
def Cr (t1 : Unit) (t3 : Int) (t4 : Int) (b1 : Va) : Option ((UD × Nh) ⊕ VU) :=
 (cond (decide (t4 < ((ln b1.2.2.2.1 : Nat) : Int)))
 (ob (Wb b1.2.2.2.1 t4) fun x5 =>
 (ob (Yr x5.1) fun r6 =>
 (some (.inl (((), (Nd .i64 t3 r6.1), (wr .i64 (t4 + 1)), ()), (b1, ()))))))
 (some (.inr (.inl ((t3, ()), ())))))
def Is := Mb fun x : (UD × Nh) => Cr x.1.1 x.1.2.1 x.1.2.2.1 x.2.1
def Vp (a0 : Va) : Option Tf :=
 (ob (Is (((), 0, 0, ()), (a0, ()))) (se (fun y7 => (some (y7.1.1, ()))) (fun z8 => none)))
def Sp (a0 : Qa) : Option Se :=
 (ob (Hk a0.1) fun r1 =>
 (cond (!r1.1)
 (some (false, ()))
 (ob (Ur a0.2.1) fun r2 =>
 (cond (!r2.1)
 (some (false, ()))
 (ob (Qc a0.2.2.2.1 0 1000000) fun r3 =>
 (cond (!r3.1)
 (some (false, ()))
 (ob (Qc a0.2.2.2.2.1 0 a0.2.2.2.1) fun r4 =>
 (cond (!r4.1)
 (some (false, ()))
 (ob (Vp a0.1) fun r5 =>
 (ob (En a0.2.2.1 r5.1 a0.1.1.1 0) fun r6 =>
 (cond (!r6.1)
 (some (false, ()))
 (cond (decide (((ln a0.2.2.1 : Nat) : Int) > 0))
 (ob (Wb a0.2.2.1 (wr .i64 (((ln a0.2.2.1 : Nat) : Int) - 1))) fun x7 =>
 (cond (decide (x7.1 > a0.2.2.2.1))
 (some (false, ()))
 (ob (Qc a0.2.2.2.2.2.1 0 a0.1.1.1) fun r8 =>
 (cond r8.1
 (ob (Qc a0.2.2.2.2.2.2.1 0 a0.2.2.2.1) fun r9 =>
 (some (r9.1, ())))
 (some (false, ()))))))
 (ob (Qc a0.2.2.2.2.2.1 0 a0.1.1.1) fun r10 =>
 (cond r10.1
 (ob (Qc a0.2.2.2.2.2.2.1 0 a0.2.2.2.1) fun r11 =>
 (some (r11.1, ())))
 (some (false, ()))))))))))))))))
def An (a0 : Va) (a1 : Kb) : Option (Qa × Se) :=
 (ob (Sp (a0, a1, [], 0, 0, 0, 0, ())) fun r1 =>
 (cond (!r1.1)
 (some (Xe, false, ()))
 (ob (Nj a0) fun r2 =>
 (some ((r2.1, a1, [], 0, 0, 0, 0, ()), true, ())))))
def Qy (t0 : Unit) (t1 : Int) (t4 : Unit) (t5 : Unit) (t6 : Int) (b500000 : Ta) (b4 : Qa) (b5 : Va) : Option ((S5 × (Ta × (Qa × Nh))) ⊕ ((O3 × (Ta × (Qa × Nh))) ⊕ Uf)) :=
 (cond (decide (t6 < t1))
 (ob (Bl b500000 2) fun r12 =>
 (cond r12.2.1
 (cond (Lh (ln b5.1.2.1) 0)
 (ob b5.1.2.1[(tn 0)]? fun x13 =>
 (ob (Bb r12.1 40) fun r14 =>
 (ob (Bb r14.1 15) fun r15 =>
 (cond (Lh (ln x13) t6)
 (ob x13[(tn t6)]? fun x16 =>
 (some (.inl (((), t1, (), (), (wr .i64 (t6 + 1)), ()), (r15.1, b4, ((b5.1.1, (ls b5.1.2.1 (tn 0) (ls x13 (tn t6) (6, (wr .i64 (1 + r14.2.1)), (wr .i64 (1 + r15.2.1)), 0, ()))), ()), b5.2), ())))))
 none))))
 none)
 (some (.inl (((), t1, (), (), (wr .i64 (t6 + 1)), ()), (r12.1, b4, b5, ()))))))
 (some (.inr (.inl (((), (), (), ()), (b500000, b4, b5, ()))))))
def Su := Mb fun x : (S5 × (Ta × (Qa × Nh))) => Qy x.1.1 x.1.2.1 x.1.2.2.1 x.1.2.2.2.1 x.1.2.2.2.2.1 x.2.1 x.2.2.1 x.2.2.2.1
def SA (a0 : Ta) (a1 : Int) : Option QG :=
 (ob (NC a0 a1) fun r1 =>
 (ob (Su (((), a1, (), (), 0, ()), (r1.1, Xe, r1.2.1, ()))) (se (fun y17 => (ob (Tz y17.2.1) fun r19 =>
 (ob (An y17.2.2.2.1 r19.2.1) fun r20 =>
 (some (r19.1, (r20.1, ())))))) (fun z18 => none))))
def strconv_Itoa (a : Int) : Option (List UInt8 × Unit) := IV a
def Fp (a0 : Int) : Option AA :=
 (ob (strconv_Itoa a0) fun r1 =>
 (some (r1.1, ())))
def Vl (t3 : Ms) (t9 : Sh) (t10 : Int) (t11 : Int) : Option (((Ms × BP) × Unit) ⊕ ((N3 × Unit) ⊕ Uf)) :=
 (cond (decide (t11 < t10))
 (ob (Wb t9 t11) fun x10 =>
 (ob (Fp x10.1) fun r11 =>
 (cond (bl (ln r11.1 + ln ([32] : List UInt8)) Ya)
 (ob (Jk x10.2.1) fun r12 =>
 (cond (bl (ln (ap r11.1 ([32] : List UInt8)) + ln r12.1) Ya)
 (cond (bl (ln t3 + ln ([(ap (ap r11.1 ([32] : List UInt8)) r12.1)] : List Pj)) Ya)
 (some (.inl (((ap t3 ([(ap (ap r11.1 ([32] : List UInt8)) r12.1)] : List Pj)), t9, t10, (wr .i64 (t11 + 1)), ()), ())))
 none)
 none))
 none)))
 (some (.inr (.inl ((t3, ()), ())))))
def On := Mb fun x : ((Ms × BP) × Unit) => Vl x.1.1 x.1.2.1 x.1.2.2.1 x.1.2.2.2.1
def Qm (a0 : Sh) : Option AA :=
 (cond (((ln a0 : Nat) : Int) == 0)
 (some (([45] : List UInt8), ()))
 (ob (On (([], a0, ((ln a0 : Nat) : Int), 0, ()), ())) (se (fun y13 => (ob (Fm y13.1.1 ([59, 32] : List UInt8)) fun r15 =>
 (some (r15.1, ())))) (fun z14 => none))))
def Oo (t1 : Int) (t3 : Kh) (t4 : Int) (t5 : Unit) (t12 : Int) (t13 : Int) (t14 : Int) (b5 : Kb) : Option (((Int × (Kh × (Int × Rae))) × XD) ⊕ (EP ⊕ EP)) :=
 (cond (decide (t14 < ((ln t3 : Nat) : Int)))
 (ob (Wb t3 t14) fun x7 =>
 (ob (Ou x7) fun r8 =>
 (cond (!r8.1)
 (some (.inr (.inr ((0, 0, ()), ()))))
 (cond (decide (x7.1 ≥ t12))
 (some (.inr (.inr ((2, t12, ()), ()))))
 (cond (x7.2.1 == t1)
 (cond (!x7.2.2.1)
 (some (.inr (.inr ((1, x7.1, ()), ()))))
 (cond (x7.2.1 == t1)
 (some (.inl ((t1, t3, t4, (), t12, t13, (wr .i64 (t14 + 1)), ()), (b5, ()))))
 (cond x7.2.2.1
 (cond (b5.2.2.1 == 1)
 (some (.inr (.inr ((2, x7.1, ()), ()))))
 (cond x7.2.2.1
 (cond (decide (0 ≤ x7.2.1))
 (some (.inl ((t1, t3, t4, (), t12, (Nd .i64 t13 (Kd .i64 1 x7.2.1)), (wr .i64 (t14 + 1)), ()), (b5, ()))))
 none)
 (cond (b5.2.2.1 == 2)
 (cond (decide (0 ≤ x7.2.1))
 (cond ((Yf .i64 (Ci .i64 t13 x7.2.1) 1) == 1)
 (some (.inr (.inr ((2, x7.1, ()), ()))))
 (some (.inl ((t1, t3, t4, (), t12, t13, (wr .i64 (t14 + 1)), ()), (b5, ())))))
 none)
 (some (.inl ((t1, t3, t4, (), t12, t13, (wr .i64 (t14 + 1)), ()), (b5, ())))))))
 (cond x7.2.2.1
 (cond (decide (0 ≤ x7.2.1))
 (some (.inl ((t1, t3, t4, (), t12, (Nd .i64 t13 (Kd .i64 1 x7.2.1)), (wr .i64 (t14 + 1)), ()), (b5, ()))))
 none)
 (cond (b5.2.2.1 == 2)
 (cond (decide (0 ≤ x7.2.1))
 (cond ((Yf .i64 (Ci .i64 t13 x7.2.1) 1) == 1)
 (some (.inr (.inr ((2, x7.1, ()), ()))))
 (some (.inl ((t1, t3, t4, (), t12, t13, (wr .i64 (t14 + 1)), ()), (b5, ())))))
 none)
 (some (.inl ((t1, t3, t4, (), t12, t13, (wr .i64 (t14 + 1)), ()), (b5, ())))))))))
 (cond (x7.2.1 == t1)
 (some (.inl ((t1, t3, t4, (), t12, t13, (wr .i64 (t14 + 1)), ()), (b5, ()))))
 (cond x7.2.2.1
 (cond (b5.2.2.1 == 1)
 (some (.inr (.inr ((2, x7.1, ()), ()))))
 (cond x7.2.2.1
 (cond (decide (0 ≤ x7.2.1))
 (some (.inl ((t1, t3, t4, (), t12, (Nd .i64 t13 (Kd .i64 1 x7.2.1)), (wr .i64 (t14 + 1)), ()), (b5, ()))))
 none)
 (cond (b5.2.2.1 == 2)
 (cond (decide (0 ≤ x7.2.1))
 (cond ((Yf .i64 (Ci .i64 t13 x7.2.1) 1) == 1)
 (some (.inr (.inr ((2, x7.1, ()), ()))))
 (some (.inl ((t1, t3, t4, (), t12, t13, (wr .i64 (t14 + 1)), ()), (b5, ())))))
 none)
 (some (.inl ((t1, t3, t4, (), t12, t13, (wr .i64 (t14 + 1)), ()), (b5, ())))))))
 (cond x7.2.2.1
 (cond (decide (0 ≤ x7.2.1))
 (some (.inl ((t1, t3, t4, (), t12, (Nd .i64 t13 (Kd .i64 1 x7.2.1)), (wr .i64 (t14 + 1)), ()), (b5, ()))))
 none)
 (cond (b5.2.2.1 == 2)
 (cond (decide (0 ≤ x7.2.1))
 (cond ((Yf .i64 (Ci .i64 t13 x7.2.1) 1) == 1)
 (some (.inr (.inr ((2, x7.1, ()), ()))))
 (some (.inl ((t1, t3, t4, (), t12, t13, (wr .i64 (t14 + 1)), ()), (b5, ())))))
 none)
 (some (.inl ((t1, t3, t4, (), t12, t13, (wr .i64 (t14 + 1)), ()), (b5, ())))))))))))))
 (some (.inr (.inl ((t4, t12, ()), ())))))
def Wq := Mb fun x : ((Int × (Kh × (Int × Rae))) × XD) => Oo x.1.1 x.1.2.1 x.1.2.2.1 x.1.2.2.2.1 x.1.2.2.2.2.1 x.1.2.2.2.2.2.1 x.1.2.2.2.2.2.2.1 x.2.1
def Ax (a0 : Kb) (a1 : Int) (a2 : Int) (a3 : Kh) (a4 : Int) : Option Jb :=
 (ob (Ur a0) fun r1 =>
 (cond (!r1.1)
 (some (0, 0, ()))
 (ob (Qc a2 0 1000000) fun r2 =>
 (cond (!r2.1)
 (some (0, 0, ()))
 (ob (Wq ((a1, a3, a4, (), (wr .i64 (a2 + a0.1)), 0, 0, ()), (a0, ()))) (se (fun y9 => (cond (decide (y9.1.1 ≥ y9.1.2.1))
 (some (2, y9.1.2.1, ()))
 (some (0, 0, ())))) (fun z10 => (some z10.1))))))))
def Up (a0 : Qa) (a1 : Ia) (a2 : Int) : Option (Qa × (Ah × ZU)) :=
 (ob (Vr a0.1.2.2.1 a0.1.2.2.2.1) fun r1 =>
 (ob (Sr a0.1.1 r1.1 a1.2.1) fun r2 =>
 (ob (Ej r2.1) fun r3 =>
 (cond r3.1
 (cond (De (ln a0.2.2.1) 1 ((ln a0.2.2.1 : Nat) : Int))
 (ob (Ax a0.2.1 a1.2.1 a1.1 (Nb a0.2.2.1 (tn 1) (tn ((ln a0.2.2.1 : Nat) : Int))) a0.2.2.2.1) fun r4 =>
 (cond (a0.2.2.2.2.2.1 == (wr .i64 (a1.2.1 + 1)))
 (cond (decide ((wr .i64 (a1.1 - a0.2.2.2.2.2.2.1)) < a0.2.1.2.1))
 (cond ((1 : Int) == 0)
 (some (a0, ([], a2, false, ())))
 (cond (!((1 : Int) == 2))
 (ob (Mj a0.1 a1.2.1 ((1 : Int) == 2)) fun r5 =>
 (some ((r5.1, a0.2.1, a0.2.2.1, a0.2.2.2.1, a0.2.2.2.2.1, (wr .i64 (a1.2.1 + 1)), a1.1, a0.2.2.2.2.2.2.2), (r5.2.1, (max a2 a1.1), true, ()))))
 (ob (Mj a0.1 a1.2.1 ((1 : Int) == 2)) fun r6 =>
 (some ((r6.1, a0.2.1, a0.2.2.1, a0.2.2.2.1, a0.2.2.2.2.1, 0, a0.2.2.2.2.2.2), (r6.2.1, (max a2 a1.1), true, ()))))))
 (cond (r4.1 == 0)
 (some (a0, ([], a2, false, ())))
 (cond (!(r4.1 == 2))
 (ob (Mj a0.1 a1.2.1 (r4.1 == 2)) fun r7 =>
 (some ((r7.1, a0.2.1, a0.2.2.1, a0.2.2.2.1, a0.2.2.2.2.1, (wr .i64 (a1.2.1 + 1)), a1.1, a0.2.2.2.2.2.2.2), (r7.2.1, (max a2 r4.2.1), true, ()))))
 (ob (Mj a0.1 a1.2.1 (r4.1 == 2)) fun r8 =>
 (some ((r8.1, a0.2.1, a0.2.2.1, a0.2.2.2.1, a0.2.2.2.2.1, 0, a0.2.2.2.2.2.2), (r8.2.1, (max a2 r4.2.1), true, ())))))))
 (cond (r4.1 == 0)
 (some (a0, ([], a2, false, ())))
 (cond (!(r4.1 == 2))
 (ob (Mj a0.1 a1.2.1 (r4.1 == 2)) fun r9 =>
 (some ((r9.1, a0.2.1, a0.2.2.1, a0.2.2.2.1, a0.2.2.2.2.1, (wr .i64 (a1.2.1 + 1)), a1.1, a0.2.2.2.2.2.2.2), (r9.2.1, (max a2 r4.2.1), true, ()))))
 (ob (Mj a0.1 a1.2.1 (r4.1 == 2)) fun r10 =>
 (some ((r10.1, a0.2.1, a0.2.2.1, a0.2.2.2.1, a0.2.2.2.2.1, 0, a0.2.2.2.2.2.2), (r10.2.1, (max a2 r4.2.1), true, ()))))))))
 none)
 (ob (Mj a0.1 a1.2.1 false) fun r11 =>
 (some ((r11.1, a0.2), (r11.2.1, a2, true, ()))))))))
def Er (t0 : Unit) (t3 : Sh) (t5 : Int) (t6 : (Ah × Int)) (t13 : Int) (b500000 : Qa) : Option (Q5 ⊕ (((Unit × (Sh × Tf)) × EC) ⊕ Uf)) :=
 (cond (decide (t13 < ((ln t6.1 : Nat) : Int)))
 (cond (Lh (ln t6.1) t13)
 (cond (Nat.beq (tn t13) (tn t6.2))
 (ob t6.1[(tn t13)]? fun x53 =>
 (cond (bl (ln t3 + ln ([(t5, x53, ())] : List Rd)) Ya)
 (some (.inl (((), (ap t3 ([(t5, x53, ())] : List Rd)), t5, (t6.1, ((((tn t13) + 1) : Nat) : Int)), (wr .i64 (t13 + 1)), ()), (b500000, ()))))
 none))
 none)
 none)
 (some (.inr (.inl (((), t3, t5, ()), (b500000, ()))))))
def Jh := Mb fun x : Q5 => Er x.1.1 x.1.2.1 x.1.2.2.1 x.1.2.2.2.1 x.1.2.2.2.2.1 x.2.1
def Gh (t0 : Unit) (t3 : Sh) (b500000 : Qa) : Option ((HP × EC) ⊕ ((HP × EC) ⊕ (HP × EC))) :=
 (cond (decide (((ln b500000.2.2.1 : Nat) : Int) > 0))
 (cond (Lh (ln b500000.2.2.1) 0)
 (ob b500000.2.2.1[(tn 0)]? fun x38 =>
 (cond x38.2.2.1
 (ob (Up b500000 x38 (max b500000.2.2.2.2.1 x38.1)) fun r39 =>
 (cond (!r39.2.2.2.1)
 (some (.inr (.inr (((), t3, ()), (r39.1, ())))))
 (ob (Jh (((), t3, r39.2.2.1, (r39.2.1, 0), 0, ()), (r39.1, ()))) (se (fun y43 => (cond (De (ln y43.2.1.2.2.1) 1 ((ln y43.2.1.2.2.1 : Nat) : Int))
 (cond (bl (ln ([] : List Ia) + ln (Nb y43.2.1.2.2.1 (tn 1) (tn ((ln y43.2.1.2.2.1 : Nat) : Int)))) Ya)
 (some (.inl (((), y43.1.2.1, ()), ((y43.2.1.1, y43.2.1.2.1, (ap [] (Nb y43.2.1.2.2.1 (tn 1) (tn ((ln y43.2.1.2.2.1 : Nat) : Int)))), y43.2.1.2.2.2.1, y43.1.2.2.1, y43.2.1.2.2.2.2.2), ()))))
 none)
 none)) (fun z44 => none)))))
 (ob (Ru b500000.1 x38.2.1) fun r45 =>
 (cond (b500000.2.2.2.2.2.1 == (wr .i64 (x38.2.1 + 1)))
 (ob (Jh (((), t3, (max b500000.2.2.2.2.1 x38.1), (r45.2.1, 0), 0, ()), ((r45.1, b500000.2.1, b500000.2.2.1, b500000.2.2.2.1, b500000.2.2.2.2.1, b500000.2.2.2.2.2.1, x38.1, b500000.2.2.2.2.2.2.2), ()))) (se (fun y49 => (cond (De (ln y49.2.1.2.2.1) 1 ((ln y49.2.1.2.2.1 : Nat) : Int))
 (cond (bl (ln ([] : List Ia) + ln (Nb y49.2.1.2.2.1 (tn 1) (tn ((ln y49.2.1.2.2.1 : Nat) : Int)))) Ya)
 (some (.inl (((), y49.1.2.1, ()), ((y49.2.1.1, y49.2.1.2.1, (ap [] (Nb y49.2.1.2.2.1 (tn 1) (tn ((ln y49.2.1.2.2.1 : Nat) : Int)))), y49.2.1.2.2.2.1, y49.1.2.2.1, y49.2.1.2.2.2.2.2), ()))))
 none)
 none)) (fun z50 => none)))
 (ob (Jh (((), t3, (max b500000.2.2.2.2.1 x38.1), (r45.2.1, 0), 0, ()), ((r45.1, b500000.2), ()))) (se (fun y54 => (cond (De (ln y54.2.1.2.2.1) 1 ((ln y54.2.1.2.2.1 : Nat) : Int))
 (cond (bl (ln ([] : List Ia) + ln (Nb y54.2.1.2.2.1 (tn 1) (tn ((ln y54.2.1.2.2.1 : Nat) : Int)))) Ya)
 (some (.inl (((), y54.1.2.1, ()), ((y54.2.1.1, y54.2.1.2.1, (ap [] (Nb y54.2.1.2.2.1 (tn 1) (tn ((ln y54.2.1.2.2.1 : Nat) : Int)))), y54.2.1.2.2.2.1, y54.1.2.2.1, y54.2.1.2.2.2.2.2), ()))))
 none)
 none)) (fun z55 => none)))))))
 none)
 (some (.inr (.inl (((), t3, ()), (b500000, ()))))))
def Rh := Mb fun x : (HP × EC) => Gh x.1.1 x.1.2.1 x.2.1
def Zr (a0 : Qa) : Option (Qa × (Sh × Unit)) :=
 (ob (Rh (((), [], ()), (a0, ()))) (se (fun y56 => (some (y56.2.1, (y56.1.2.1, ())))) (fun z57 => (some (z57.2.1, (z57.1.2.1, ()))))))
def Bn (a0 : Qa) (a1 : Kh) (a2 : Int) : Option (Qa × (Sh × Se)) :=
 (cond (bl (ln ([] : List Ia) + ln a0.2.2.1) Ya)
 (cond (bl (ln (ap [] a0.2.2.1) + ln a1) Ya)
 (ob (Sp a0) fun r1 =>
 (cond (!r1.1)
 (some (Xe, [], false, ()))
 (ob (Qc a2 a0.2.2.2.1 1000000) fun r2 =>
 (cond (!r2.1)
 (some (Xe, [], false, ()))
 (ob (Vp a0.1) fun r3 =>
 (ob (En (ap (ap [] a0.2.2.1) a1) r3.1 a0.1.1.1 0) fun r4 =>
 (cond (!r4.1)
 (some (Xe, [], false, ()))
 (cond (decide (((ln a1 : Nat) : Int) > 0))
 (ob (Wb a1 0) fun x5 =>
 (cond (decide (x5.1 < a0.2.2.2.1))
 (some (Xe, [], false, ()))
 (ob (Wb a1 (wr .i64 (((ln a1 : Nat) : Int) - 1))) fun x6 =>
 (cond (decide (x6.1 > a2))
 (some (Xe, [], false, ()))
 (ob (Nj a0.1) fun r7 =>
 (ob (Zr (r7.1, a0.2.1, (ap (ap [] a0.2.2.1) a1), a2, a0.2.2.2.2)) fun r8 =>
 (some (r8.1, r8.2.1, true, ()))))))))
 (ob (Nj a0.1) fun r9 =>
 (ob (Zr (r9.1, a0.2.1, (ap (ap [] a0.2.2.1) a1), a2, a0.2.2.2.2)) fun r10 =>
 (some (r10.1, r10.2.1, true, ()))))))))))))
 none)
 none)
def Sy (t0 : Unit) (t1 : Int) (t3 : Int) (t9 : Kh) (t10 : Int) (t11 : Int) (t12 : Int) (b500000 : Ta) : Option (((Unit × (Int × (Int × (Kh × Kb)))) × FC) ⊕ ((Tae × FC) ⊕ Uf)) :=
 (cond (decide (t12 > 0))
 (cond ((3 : Int) == 0)
 none
 (cond ((2 : Int) == 0)
 none
 (ob (Fj b500000 ([0, 0, 1, (wr .i64 (Int.tdiv t3 3)), (wr .i64 (t3 - 1)), t3, (wr .i64 (t3 + 1)), (wr .i64 (Int.tdiv t3 2))] : List Int)) fun r6 =>
 (ob (Bb r6.1 t1) fun r7 =>
 (cond (decide (0 ≤ r7.2.1))
 (cond (decide (0 ≤ r7.2.1))
 (cond (bl (ln t9 + ln ([((wr .i64 (t10 + r6.2.1)), r7.2.1, ((Yf .i64 (Ci .i64 (Bh .i64 t11 (Kd .i64 1 r7.2.1)) r7.2.1) 1) == 1), ())] : List Ia)) Ya)
 (some (.inl (((), t1, t3, (ap t9 ([((wr .i64 (t10 + r6.2.1)), r7.2.1, ((Yf .i64 (Ci .i64 (Bh .i64 t11 (Kd .i64 1 r7.2.1)) r7.2.1) 1) == 1), ())] : List Ia)), (wr .i64 (t10 + r6.2.1)), (Bh .i64 t11 (Kd .i64 1 r7.2.1)), (wr .i64 (t12 - 1)), ()), (r7.1, ()))))
 none)
 none)
 none)))))
 (some (.inr (.inl (((), t9, ()), (b500000, ()))))))
def Tu := Mb fun x : ((Unit × (Int × (Int × (Kh × Kb)))) × FC) => Sy x.1.1 x.1.2.1 x.1.2.2.1 x.1.2.2.2.1 x.1.2.2.2.2.1 x.1.2.2.2.2.2.1 x.1.2.2.2.2.2.2.1 x.2.1
def Pw (a0 : Ta) (a1 : Int) (a2 : Int) (a3 : Int) : Option (Ta × XU) :=
 (ob (Bb a0 (wr .i64 (a2 + 1))) fun r1 =>
 (ob (Tu (((), a1, a3, [], 0, 0, r1.2.1, ()), (r1.1, ()))) (se (fun y8 => (some (y8.2.1, (y8.1.2.1, ())))) (fun z9 => none))))
def Ny (a0 : Ta) (a1 : Int) : Option QG :=
 (ob (SA a0 a1) fun r1 =>
 (ob (Pw r1.1 a1 6 r1.2.1.2.1.1) fun r2 =>
 (cond (decide (((ln r2.2.1 : Nat) : Int) > 0))
 (cond (Lh (ln r2.2.1) (wr .i64 (((ln r2.2.1 : Nat) : Int) - 1)))
 (ob r2.2.1[(tn (wr .i64 (((ln r2.2.1 : Nat) : Int) - 1)))]? fun x3 =>
 (ob (Bb r2.1 4) fun r4 =>
 (ob (Bn r1.2.1 r2.2.1 (wr .i64 (x3.1 + r4.2.1))) fun r5 =>
 (some (r4.1, (r5.1, ()))))))
 none)
 (ob (Bb r2.1 4) fun r6 =>
 (ob (Bn r1.2.1 r2.2.1 (wr .i64 (0 + r6.2.1))) fun r7 =>
 (some (r6.1, (r7.1, ()))))))))
def Dr (t0 : Unit) (t2 : Int) (t4 : Unit) (t7 : Int) (t8 : Int) (b500000 : Ta) (b4 : Qa) : Option (((Unit × (Int × UD)) × QG) ⊕ (((Unit × SK) × QG) ⊕ Uf)) :=
 (cond (decide (t8 < ((ln b4.2.2.1 : Nat) : Int)))
 (ob (Wb b4.2.2.1 t8) fun x6 =>
 (ob (Yr x6.2.1) fun r7 =>
 (some (.inl (((), t2, (), (Bh .i64 t7 r7.1), (wr .i64 (t8 + 1)), ()), (b500000, b4, ()))))))
 (some (.inr (.inl (((), t2, (), t7, ()), (b500000, b4, ()))))))
def Js := Mb fun x : ((Unit × (Int × UD)) × QG) => Dr x.1.1 x.1.2.1 x.1.2.2.1 x.1.2.2.2.1 x.1.2.2.2.2.1 x.2.1 x.2.2.1
def Ox (t0 : Unit) (t4 : Unit) (t7 : Int) (t9 : Kh) (t10 : Int) (t11 : Int) (b500000 : Ta) (b4 : Qa) : Option (((Unit × (Unit × VD)) × QG) ⊕ ((Tae × FC) ⊕ Uf)) :=
 (cond (decide (t11 > 0))
 (cond ((2 : Int) == 0)
 none
 (ob (Fj b500000 ([0, 0, 1, 1, 2, (wr .i64 (Int.tdiv b4.2.1.1 2)), (wr .i64 (b4.2.1.1 - 1)), b4.2.1.1, (wr .i64 (b4.2.1.1 + 1))] : List Int)) fun r15 =>
 (ob (Bb r15.1 b4.1.1.1) fun r16 =>
 (cond (decide (0 ≤ r16.2.1))
 (cond (decide (0 ≤ r16.2.1))
 (cond (bl (ln t9 + ln ([((wr .i64 (t10 + r15.2.1)), r16.2.1, ((Yf .i64 (Ci .i64 (Bh .i64 t7 (Kd .i64 1 r16.2.1)) r16.2.1) 1) == 1), ())] : List Ia)) Ya)
 (some (.inl (((), (), (Bh .i64 t7 (Kd .i64 1 r16.2.1)), (ap t9 ([((wr .i64 (t10 + r15.2.1)), r16.2.1, ((Yf .i64 (Ci .i64 (Bh .i64 t7 (Kd .i64 1 r16.2.1)) r16.2.1) 1) == 1), ())] : List Ia)), (wr .i64 (t10 + r15.2.1)), (wr .i64 (t11 - 1)), ()), (r16.1, b4, ()))))
 none)
 none)
 none))))
 (some (.inr (.inl (((), t9, ()), (b500000, ()))))))
def Ks := Mb fun x : ((Unit × (Unit × VD)) × QG) => Ox x.1.1 x.1.2.1 x.1.2.2.1 x.1.2.2.2.1 x.1.2.2.2.2.1 x.1.2.2.2.2.2.1 x.2.1 x.2.2.1
def Py (a0 : Ta) (a1 : Qa) (a2 : Int) : Option (Ta × XU) :=
 (ob (Vp a1.1) fun r1 =>
 (ob (Js (((), a2, (), r1.1, 0, ()), (a0, a1, ()))) (se (fun y8 => (ob (Bb y8.2.1 (wr .i64 (y8.1.2.1 + 1))) fun r10 =>
 (ob (Ks (((), (), y8.1.2.2.2.1, [], y8.2.2.1.2.2.2.1, r10.2.1, ()), (r10.1, y8.2.2.1, ()))) (se (fun y17 => (some (y17.2.1, (y17.1.2.1, ())))) (fun z18 => none))))) (fun z9 => none))))
def Ry (a0 : Kh) (a1 : Int) : Option Tf :=
 (cond (((ln a0 : Nat) : Int) == 0)
 (some (a1, ()))
 (ob (Wb a0 (wr .i64 (((ln a0 : Nat) : Int) - 1))) fun x1 =>
 (some (x1.1, ()))))
def Zq (a0 : Gf) : Option (Qa × (Kh × Tf)) :=
 (ob (TA a0 8) fun r1 =>
 (ob (Bb r1 4) fun r2 =>
 (ob (Ny r2.1 (wr .i64 (1 + r2.2.1))) fun r3 =>
 (ob (Py r3.1 r3.2.1 9) fun r4 =>
 (ob (Ry r4.2.1 r3.2.1.2.2.2.1) fun r5 =>
 (ob (Bb r4.1 12) fun r6 =>
 (some (r3.2.1, r4.2.1, (wr .i64 (r5.1 + r6.2.1)), ()))))))))
def Pm (t3 : Gf) (t9 : Gf) (t10 : Int) (t11 : Int) : Option (Aaf ⊕ K3) :=
 (cond (decide (t11 < t10))
 (ob (Wb t9 t11) fun x10 =>
 (cond (decide ((0 : Int) ≤ 4))
 (ob (Wb Jc (Ci .u8 x10 4)) fun c11 =>
 (ob (Wb Jc (Yf .u8 x10 15)) fun c12 =>
 (cond (bl (ln t3 + ln ([((UInt8.toNat c11 : Nat) : Int), ((UInt8.toNat c12 : Nat) : Int)] : List Int)) Ya)
 (some (.inl (((ap t3 ([((UInt8.toNat c11 : Nat) : Int), ((UInt8.toNat c12 : Nat) : Int)] : List Int)), t9, t10, (wr .i64 (t11 + 1)), ()), ())))
 none)))
 none))
 (some (.inr (.inl ((t3, ()), ())))))
def Ep := Mb fun x : Aaf => Pm x.1.1 x.1.2.1 x.1.2.2.1 x.1.2.2.2.1
def Dp (a0 : Gf) : Option AA :=
 (cond (decide (((ln a0 : Nat) : Int) > 2000))
 (some ([], ()))
 (ob (Ep (([], a0, ((ln a0 : Nat) : Int), 0, ()), ())) (se (fun y13 => (some ((Nt y13.1.1), ()))) (fun z14 => none))))
def strings_IndexByte (a : List UInt8) (c : Int) : Option Tf := NW a c
def Xv (t0 : Pj) (t4 : Gf) (t5 : Int) : Option (((Pj × YU) × Unit) ⊕ ((MG × Unit) ⊕ ((Gf × Se) × Unit))) :=
 (cond (decide (t5 < ((ln t0 : Nat) : Int)))
 (ob (Wb t0 t5) fun c13 =>
 (ob (strings_IndexByte Jc ((UInt8.toNat c13 : Nat) : Int)) fun r14 =>
 (ob (Wb t0 (wr .i64 (t5 + 1))) fun c15 =>
 (ob (strings_IndexByte Jc ((UInt8.toNat c15 : Nat) : Int)) fun r16 =>
 (cond (decide (r14.1 < 0))
 (some (.inr (.inr (([], false, ()), ()))))
 (cond (decide (r16.1 < 0))
 (some (.inr (.inr (([], false, ()), ()))))
 (cond (bl (ln t4 + ln ([(wr .u8 (wr .i64 ((wr .i64 (16 * r14.1)) + r16.1)))] : List Int)) Ya)
 (some (.inl ((t0, (ap t4 ([(wr .u8 (wr .i64 ((wr .i64 (16 * r14.1)) + r16.1)))] : List Int)), (wr .i64 (t5 + 2)), ()), ())))
 none)))))))
 (some (.inr (.inl ((t4, ()), ())))))
def Xg := Mb fun x : ((Pj × YU) × Unit) => Xv x.1.1 x.1.2.1 x.1.2.2.1
def Rr (a0 : Pj) : Option (Gf × Se) :=
 (cond ((2 : Int) == 0)
 none
 (cond ((Int.tmod ((ln a0 : Nat) : Int) 2) != 0)
 (some ([], false, ()))
 (cond (decide (((ln a0 : Nat) : Int) > 4000))
 (some ([], false, ()))
 (ob (Xg ((a0, [], 0, ()), ())) (se (fun y17 => (some (y17.1.1, true, ()))) (fun z18 => (some z18.1)))))))
def Ct (t7 : Sh) (t8 : Bool) (t9 : Ms) (t10 : Int) : Option (((Sh × (Bool × (Ms × Tf))) × Unit) ⊕ (((Sh × (Bool × N3)) × Unit) ⊕ Uf)) :=
 (cond (decide (t10 < ((ln t7 : Nat) : Int)))
 (ob (Wb t7 t10) fun x12 =>
 (ob (Fp x12.1) fun r13 =>
 (cond (bl (ln r13.1 + ln ([32] : List UInt8)) Ya)
 (ob (Wb t7 t10) fun x14 =>
 (ob (Jk x14.2.1) fun r15 =>
 (cond (bl (ln (ap r13.1 ([32] : List UInt8)) + ln r15.1) Ya)
 (cond (bl (ln t9 + ln ([(ap (ap r13.1 ([32] : List UInt8)) r15.1)] : List Pj)) Ya)
 (some (.inl ((t7, t8, (ap t9 ([(ap (ap r13.1 ([32] : List UInt8)) r15.1)] : List Pj)), (wr .i64 (t10 + 1)), ()), ())))
 none)
 none)))
 none)))
 (some (.inr (.inl ((t7, t8, t9, ()), ())))))
def Gu := Mb fun x : ((Sh × (Bool × (Ms × Tf))) × Unit) => Ct x.1.1 x.1.2.1 x.1.2.2.1 x.1.2.2.2.1
def Mw (a0 : Gf) : Option Se :=
 (ob (Qz a0) fun r1 =>
 (cond r1.1
 (some (true, ()))
 (ob (Zq a0) fun r2 =>
 (ob (Vs r2.1 r2.2.1 r2.2.2.1) fun r3 =>
 (ob (Gu ((r3.2.1, r3.2.2.1, [], 0, ()), ())) (se (fun y16 => (ob (Fm y16.1.2.2.1 ([59, 32] : List UInt8)) fun r18 =>
 (cond (((ln y16.1.1 : Nat) : Int) == 0)
 (ob (Gp y16.1.1) fun r19 =>
 (ob (Ip (0, [], ()) r19.1) fun r20 =>
 (cond (bl (ln r20.1) Ya)
 (ob (Dp (Cd r20.1)) fun r21 =>
 (ob (Rr r21.1) fun r22 =>
 (cond y16.1.2.1
 (ob (Qm y16.1.1) fun r23 =>
 (cond (r23.1 == ([45] : List UInt8))
 (cond r22.2.1
 (some (((Nt r22.1) == r20.1), ()))
 (some (false, ())))
 (some (false, ()))))
 (some (false, ())))))
 none)))
 (ob (Gp y16.1.1) fun r24 =>
 (ob (Ip (0, [], ()) r24.1) fun r25 =>
 (cond (bl (ln r25.1) Ya)
 (ob (Dp (Cd r25.1)) fun r26 =>
 (ob (Rr r26.1) fun r27 =>
 (cond y16.1.2.1
 (ob (Qm y16.1.1) fun r28 =>
 (cond (r28.1 == r18.1)
 (cond r27.2.1
 (some (((Nt r27.1) == r25.1), ()))
 (some (false, ())))
 (some (false, ()))))
 (some (false, ())))))
 none)))))) (fun z17 => none)))))))
end

def Ob (k c m n : Int) : Prop :=
 ((k = 0 ∨ k = 1 ∨ k = 10) ∧ c = 0 ∧ m = 0 ∧ n = 0) ∨
 (k = 2 ∧ n = 0 ∧ (c = 0 ∨ 1 ≤ c ∧ c ≤ 56) ∧ (m = 0 ∨ 1 ≤ m ∧ m ≤ 15) ∧ (c ≠ 0 ∨ m ≠ 0)) ∨
 ((k = 3 ∨ k = 4) ∧ c = 0 ∧ m = 0 ∧ 1 ≤ n ∧ n ≤ 3) ∨
 ((k = 5 ∨ k = 9) ∧ c = 0 ∧ m = 0 ∧ 0 ≤ n ∧ n ≤ 3) ∨
 (k = 6 ∧ 1 ≤ c ∧ c ≤ 56 ∧ 1 ≤ m ∧ m ≤ 15 ∧ n = 0) ∨
 (k = 7 ∧ 1 ≤ c ∧ c ≤ 56 ∧ m = 0 ∧ 1 ≤ n ∧ n ≤ 3) ∨
 (k = 8 ∧ c = 0 ∧ 1 ≤ m ∧ m ≤ 15 ∧ n = 0)
noncomputable def Ac (a : La) : Bool := open Classical in decide (Ob a.1 a.2.1 a.2.2.1 a.2.2.2.1)
theorem Ib (a : La) : Ac a = true ↔ Ob a.1 a.2.1 a.2.2.1 a.2.2.2.1 := by simp [Ac]
theorem Aj (c : Int) : Xk c = some (decide (1 ≤ c ∧ c ≤ 56), ()) := by
 simp only [Xk, Ji, Ki]
 apply Kc; simp only [Wc, decide_eq_true_eq, VG, XG, jq, and_false, false_and, or_false, false_or, and_true, true_and, not_true_eq_false, not_false_eq_true]; try omega
theorem XF (c : Int) : Sn c = some (decide (1 ≤ c ∧ c ≤ 15), ()) := by
 simp only [Sn, Ji, Ki]
 apply Kc; simp only [Wc, decide_eq_true_eq, VG, XG, jq, and_false, false_and, or_false, false_or, and_true, true_and, not_true_eq_false, not_false_eq_true]; try omega
theorem IE (c : Int) : Mp c = some (decide (1 ≤ c ∧ c ≤ 3), ()) := by
 simp only [Mp, Ji, Ki]
 apply Kc; simp only [Wc, decide_eq_true_eq, VG, XG, jq, and_false, false_and, or_false, false_or, and_true, true_and, not_true_eq_false, not_false_eq_true]; try omega
theorem Be (c a b : Int) : Qc c a b = some (decide (a ≤ c ∧ c ≤ b), ()) := by
 simp only [Qc, Ji, Ki]
 apply Kc; simp only [Wc, decide_eq_true_eq, VG, XG, jq, and_false, false_and, or_false, false_or, and_true, true_and, not_true_eq_false, not_false_eq_true]; try omega
theorem Lq (a : La) : Li a = some (Ac a, ()) := by
 obtain ⟨k, c, m, n, u⟩ := a
 have key : ∀ k c m n : Int, Li (k, c, m, n, u) = some (Ac (k, c, m, n, u), ()) := by
  intro k c m n
  simp only [Li, Aj, XF, IE, Be, jb, Ji, Ki]
  by_cases h0 : k = 0
  ·subst h0; apply Kc; rw [Ib]; simp [Ob, Wc]; try omega
  by_cases h1 : k = 1
  ·subst h1; apply Kc; rw [Ib]; simp [Ob, Wc]; try omega
  by_cases h2 : k = 2
  ·subst h2; apply Kc; rw [Ib]; simp [Ob, Wc]; intro hn; (repeat' split) <;> omega
  by_cases h3 : k = 3
  ·subst h3; apply Kc; rw [Ib]; simp [Ob, Wc]; try omega
  by_cases h4 : k = 4
  ·subst h4; apply Kc; rw [Ib]; simp [Ob, Wc]; try omega
  by_cases h5 : k = 5
  ·subst h5; apply Kc; rw [Ib]; simp [Ob, Wc]; try omega
  by_cases h6 : k = 6
  ·subst h6; apply Kc; rw [Ib]; simp [Ob, Wc]; try omega
  by_cases h7 : k = 7
  ·subst h7; apply Kc; rw [Ib]; simp [Ob, Wc]; try omega
  by_cases h8 : k = 8
  ·subst h8; apply Kc; rw [Ib]; simp [Ob, Wc]; try omega
  by_cases h9 : k = 9
  ·subst h9; apply Kc; rw [Ib]; simp [Ob, Wc]; try omega
  by_cases h10 : k = 10
  ·subst h10; apply Kc; rw [Ib]; simp [Ob, Wc]; try omega
  have g : ∀ j : Int, (k == j) = decide (k = j) := fun j => by rw [qu]; simp
  apply Kc; rw [Ib]; simp [Ob, Wc, h0, h1, h2, h3, h4, h5, h6, h7, h8, h9, h10]
 exact key k c m n
theorem Xq (a : La) : Ni a = some (Ac a, ()) := by
 obtain ⟨k, c, m, n, u⟩ := a
 have key : ∀ k c m n : Int, Ni (k, c, m, n, u) = some (Ac (k, c, m, n, u), ()) := by
  intro k c m n
  simp only [Ni, Aj, XF, IE, Be, jb, Ji, Ki]
  by_cases h0 : k = 0
  ·subst h0; apply Kc; rw [Ib]; simp [Ob, Wc]; try omega
  by_cases h1 : k = 1
  ·subst h1; apply Kc; rw [Ib]; simp [Ob, Wc]; try omega
  by_cases h2 : k = 2
  ·subst h2; apply Kc; rw [Ib]; simp [Ob, Wc]; intro hn; (repeat' split) <;> omega
  by_cases h3 : k = 3
  ·subst h3; apply Kc; rw [Ib]; simp [Ob, Wc]; try omega
  by_cases h4 : k = 4
  ·subst h4; apply Kc; rw [Ib]; simp [Ob, Wc]; try omega
  by_cases h5 : k = 5
  ·subst h5; apply Kc; rw [Ib]; simp [Ob, Wc]; try omega
  by_cases h6 : k = 6
  ·subst h6; apply Kc; rw [Ib]; simp [Ob, Wc]; try omega
  by_cases h7 : k = 7
  ·subst h7; apply Kc; rw [Ib]; simp [Ob, Wc]; try omega
  by_cases h8 : k = 8
  ·subst h8; apply Kc; rw [Ib]; simp [Ob, Wc]; try omega
  by_cases h9 : k = 9
  ·subst h9; apply Kc; rw [Ib]; simp [Ob, Wc]; try omega
  by_cases h10 : k = 10
  ·subst h10; apply Kc; rw [Ib]; simp [Ob, Wc]; try omega
  have g : ∀ j : Int, (k == j) = decide (k = j) := fun j => by rw [qu]; simp
  apply Kc; rw [Ib]; simp [Ob, Wc, h0, h1, h2, h3, h4, h5, h6, h7, h8, h9, h10]
 exact key k c m n
noncomputable def Cf (nl : Nat) (i : Nat) (a : La) : Bool := Ac a && !(((i : Int) == 0) && (a.1 == 1)) && !((a.1 != 9) && decide (a.2.2.2.1 ≥ (nl : Int)))
noncomputable def Pf (keys : Int) (nl : Nat) (i : Nat) (l : List La) : Bool := ((ja l : Int) == keys) && Jd (fun _ a => Cf nl i a) 0 l
noncomputable def Ad (m : Ab) : Bool :=
 decide (1 ≤ m.1 ∧ m.1 ≤ 32) && decide (1 ≤ m.2.1.length ∧ m.2.1.length ≤ 4) && Jd (fun i l => Pf m.1 m.2.1.length i l) 0 m.2.1
theorem ON (m : Ab) (i : Nat) (l : List La) (L : List (List La)) (n : Int) (t : Int) (hl : l.length < 9223372036854775807) :
 Nk (((), (i : Int), L, n, t, l, (l.length : Int), (0 : Int), ()), (m, ())) =
  some (cond (Jd (fun _ a => Cf m.2.1.length i a) 0 l) (.inl (((), L, n, t, ()), (m, ()))) (.inr ((false, ()), ()))) := by
 unfold Nk
 refine Eh (step := _) l (fun _ a => Cf m.2.1.length i a) (fun j => (((), (i : Int), L, n, t, l, (l.length : Int), j, ()), (m, ()))) _ _ ?_ ?_ hl
 ·intro k hk
  simp only [Vv]
  rw [Ba (show (k : Int) < (l.length : Int) by omega), Zb hk]
  simp only [cond_true, jb, Cf, Lq]
  cases Ac l[k] <;> cases ((i : Int) == 0) <;> cases (l[k].1 == 1) <;> cases (l[k].1 != 9) <;> cases decide (l[k].2.2.2.1 ≥ (m.2.1.length : Int)) <;> rfl
 ·simp [Vv]
theorem DD (m : Ab) (hz : Xb Qb m ≤ Ga) : Nr m = some (Ad m, ()) := by
 have h20 : Ga = 1048576 := rfl
 have hz' : m.2.1.length + (List.map (Xb (.sl Lc)) m.2.1).sum ≤ Ga := by
  have : Xb Qb m = Xb (.sl (.sl Lc)) m.2.1 := by simp only [Xb, Nat.add_zero, js]
  rw [this] at hz; exact hz
 have hl : ∀ k (hk : k < m.2.1.length), m.2.1[k].length ≤ Ga := by
  intro k hk
  have := Lv (f := Xb (.sl Lc)) hk
  have h2 : m.2.1[k].length ≤ Xb (.sl Lc) m.2.1[k] := Nat.le_add_right _ _
  omega
 have hloop : Mk (((), m.2.1, ((ja m.2.1 : Nat) : Int), (0 : Int), ()), (m, ())) =
  some (cond (Jd (fun i l => Pf m.1 m.2.1.length i l) 0 m.2.1) (.inl ((), ())) (.inr ((false, ()), ()))) := by
  unfold Mk
  refine Eh (step := _) m.2.1 (fun i l => Pf m.1 m.2.1.length i l) (fun j => (((), m.2.1, ((ja m.2.1 : Nat) : Int), j, ()), (m, ()))) _ _ ?_ ?_ (by omega)
  ·intro k hk
   have := hl k hk
   simp only [Uv]
   rw [Ba (show (k : Int) < (m.2.1.length : Int) by omega), Zb hk]
   simp only [cond_true, jb, Pf]
   rw [ON m k _ _ _ _ (by omega)]
   show (cond (!((m.2.1[k].length : Int) == m.1)) _ _) = _
   cases ((m.2.1[k].length : Int) == m.1) <;> cases Jd (fun _ a => Cf m.2.1.length k a) 0 m.2.1[k] <;> rfl
  ·simp [Uv]
 unfold Nr
 rw [hloop]
 simp only [jb, AT, Ji, Ki]
 apply Kc
 simp only [Wc, Ad, jd, decide_eq_true_eq, jq, and_false, false_or, and_true, or_false]
 generalize Jd (fun i l => Pf m.1 m.2.1.length i l) 0 m.2.1 = b
 constructor
 ·rintro ⟨h1, h2, h3, h4, h5⟩; exact ⟨⟨by omega, by omega⟩, h5⟩
 ·rintro ⟨⟨h1, h2⟩, h5⟩; exact ⟨by omega, by omega, by omega, by omega, h5⟩
theorem MO (m : Ab) (i : Nat) (hi : i < m.2.1.length) (hl : m.2.1[i].length < 9223372036854775807) :
 Tk (((), (i : Int), (0 : Int), ()), (m, ())) =
  some (cond (Jd (fun _ a => Cf m.2.1.length i a) 0 m.2.1[i]) (.inl (((), (i : Int), ()), (m, ()))) (.inr ((false, ()), ()))) := by
 unfold Tk
 refine Eh (step := _) m.2.1[i] (fun _ a => Cf m.2.1.length i a) (fun j => (((), (i : Int), j, ()), (m, ()))) _ _ ?_ ?_ hl
 ·intro k hk
  simp only [Bw]
  rw [Zb hi]
  simp only [jb]
  rw [Ba (show (k : Int) < (m.2.1[i].length : Int) by omega), Zb hk]
  simp only [cond_true, jb, Cf, Xq]
  cases Ac m.2.1[i][k] <;> cases ((i : Int) == 0) <;> cases (m.2.1[i][k].1 == 1) <;> cases (m.2.1[i][k].1 != 9) <;> cases decide (m.2.1[i][k].2.2.2.1 ≥ (m.2.1.length : Int)) <;> rfl
 ·simp [Bw, Zb hi]
theorem OD (m : Ab) (hz : Xb Qb m ≤ Ga) : Tr m = some (Ad m, ()) := by
 have h20 : Ga = 1048576 := rfl
 have hz' : m.2.1.length + (List.map (Xb (.sl Lc)) m.2.1).sum ≤ Ga := by
  have : Xb Qb m = Xb (.sl (.sl Lc)) m.2.1 := by simp only [Xb, Nat.add_zero, js]
  rw [this] at hz; exact hz
 have hl : ∀ k (hk : k < m.2.1.length), m.2.1[k].length ≤ Ga := by
  intro k hk
  have := Lv (f := Xb (.sl Lc)) hk
  have h2 : m.2.1[k].length ≤ Xb (.sl Lc) m.2.1[k] := Nat.le_add_right _ _
  omega
 have hloop : Sk (((), (0 : Int), ()), (m, ())) =
  some (cond (Jd (fun i l => Pf m.1 m.2.1.length i l) 0 m.2.1) (.inl (((), ()), (m, ()))) (.inr ((false, ()), ()))) := by
  unfold Sk
  refine Eh (step := _) m.2.1 (fun i l => Pf m.1 m.2.1.length i l) (fun j => (((), j, ()), (m, ()))) _ _ ?_ ?_ (by omega)
  ·intro k hk
   have := hl k hk
   simp only [Aw]
   rw [Ba (show (k : Int) < (m.2.1.length : Int) by omega), Zb hk]
   simp only [cond_true, jb, Pf]
   rw [MO m k hk (by omega)]
   show (cond (!((m.2.1[k].length : Int) == m.1)) _ _) = _
   cases ((m.2.1[k].length : Int) == m.1) <;> cases Jd (fun _ a => Cf m.2.1.length k a) 0 m.2.1[k] <;> rfl
  ·simp [Aw]
 unfold Tr
 rw [hloop]
 simp only [jb, AT, Ji, Ki, Be]
 apply Kc
 simp only [Wc, Ad, jd, decide_eq_true_eq, jq, and_false, false_or, and_true, or_false]
 generalize Jd (fun i l => Pf m.1 m.2.1.length i l) 0 m.2.1 = b
 constructor
 ·rintro ⟨h1, h2, h3⟩; exact ⟨⟨by omega, by omega⟩, h1⟩
 ·rintro ⟨⟨h1, h2⟩, h5⟩; exact ⟨h5, by omega, by omega⟩
theorem Zx {n : Nat} (h : n ≤ 62) : Kd .i64 1 (n : Int) = ((2 ^ n : Nat) : Int) := by
 unfold Kd
 have h1 : min (jy (n : Int)) (IntKind.bits .i64) = n := by
  show min (jy (n : Int)) 64 = n
  rw [jn]; omega
 rw [h1, Int.one_mul]
 have h2 : (2 : Int) ^ n = ((2 ^ n : Nat) : Int) := by simp
 have h3 : 2 ^ n ≤ 2 ^ 62 := ql (by omega) h
 rw [h2]
 clear h1 h2
 generalize 2 ^ n = z at h3
 rw [Hc (by omega) (by omega)]
structure Az (m : Ab) : Prop where
 k1 : 1 ≤ m.1
 k2 : m.1 ≤ 32
 l1 : 1 ≤ m.2.1.length
 l2 : m.2.1.length ≤ 4
 row : ∀ i (h : i < m.2.1.length), (m.2.1[i].length : Int) = m.1
 act : ∀ i (h : i < m.2.1.length) k (hk : k < m.2.1[i].length), Cf m.2.1.length i m.2.1[i][k] = true
theorem Ig {m : Ab} (h : Ad m = true) : Az m := by
 simp only [Ad, jd, decide_eq_true_eq] at h
 obtain ⟨⟨h1, h2⟩, h3⟩ := h
 rw [Vk] at h3
 refine ⟨h1.1, h1.2, h2.1, h2.2, fun i hi => ?_, fun i hi k hk => ?_⟩
 ·have := h3 i hi
  simp only [js, Pf, jd, beq_iff_eq] at this
  exact this.1
 ·have := h3 i hi
  simp only [js, Pf, jd, beq_iff_eq] at this
  have := Vk.1 this.2 k hk
  simpa using this
theorem WJ {nl i : Nat} {a : La} (h : Cf nl i a = true) : Ac a = true := by
 simp only [Cf, jd] at h
 exact h.1.1
theorem HL {nl i : Nat} {a : La} (h : Cf nl i a = true) (hk : a.1 ≠ 9) : a.2.2.2.1 < (nl : Int) := by
 simp only [Cf, jd, Bool.not_eq_true', Bool.and_eq_false_iff] at h
 rcases h.2 with h | h
 ·simp at h; exact absurd h hk
 ·simpa using h
def Kk (m k : Int) : Int := Yf .i64 (Ci .i64 m k) 1
theorem LA (m : Int) {k : Int} (h : 0 ≤ k) : Pn m k = some (Kk m k, ()) := by
 unfold Pn
 rw [Ba h]; rfl
def Vay : La := (0, 0, 0, 0, ())
def Xh (L : List (List La)) (i k : Nat) : La := (L.getD i []).getD k Vay
theorem SM {L : List (List La)} {i k : Nat} (hi : i < L.length) (hk : k < L[i].length) : Xh L i k = L[i][k] := by
 simp [Xh, qi, hi, hk]
theorem OW {α : Type} {L : List (List La)} {i k : Nat} (hi : i < L.length) (hk : k < L[i].length) (K : La → Option α) :
 (jz (Wb L (i : Int)) fun x => jz (Wb x (k : Int)) K) = K (Xh L i k) := by
 rw [Zb hi]
 simp only [jb]
 rw [Zb hk, SM hi hk]
 rfl
def Ye (L : List (List La)) (on : Int) (k : Nat) : Nat → Nat
 | 0 => 0
 | n + 1 => cond ((Kk on ((n + 1 : Nat) : Int) == 1) && ((Xh L (n + 1) k).1 != 1)) (n + 1) (Ye L on k n)
theorem QJ {L : List (List La)} {on : Int} {k : Nat} : ∀ n, Ye L on k n ≤ n
 | 0 => jo _
 | n + 1 => by
  simp only [Ye]
  cases ((Kk on ((n + 1 : Nat) : Int) == 1) && ((Xh L (n + 1) k).1 != 1)) with
  | true => exact jo _
  | false => exact Nat.le_succ_of_le (QJ n)
theorem KE {m : Ab} (hm : Az m) (on : Int) {k : Nat} (hk : (k : Int) < m.1) : ∀ n : Nat, n < m.2.1.length →
 Hh ((on, (k : Int), (), (n : Int), ()), (m, ())) = some (cond (Ye m.2.1 on k n == 0) (.inl ((), ())) (.inr ((((Ye m.2.1 on k n : Nat) : Int), ()), ())))
 | 0, _ => by
  unfold Hh
  rw [Hy]
  rfl
 | n + 1, h => by
  have hrow := hm.row (n + 1) h
  unfold Hh
  rw [Hy]
  simp only [GD]
  rw [Ba (show (((n + 1 : Nat) : Int)) > 0 by omega), LA on (show (0 : Int) ≤ ((n + 1 : Nat) : Int) by omega)]
  simp only [cond_true, jb]
  rw [OW h (by omega), Hc (by have := hm.l2; omega) (by have := hm.l2; omega), show (((n + 1 : Nat) : Int) - 1) = (n : Int) by omega]
  have ih := KE hm on hk n (by omega)
  unfold Hh at ih
  simp only [Ye]
  cases h1 : (Kk on ((n + 1 : Nat) : Int) == 1) with
  | false =>
   simp only [qn, cond_false, jb, qj]
   exact ih
  | true =>
   cases h2 : ((Xh m.2.1 (n + 1) k).1 != 1) with
   | true => rfl
   | false =>
    simp only [Bool.and_false, cond_true, cond_false, jb, qj]
    exact ih
theorem JE {m : Ab} (hm : Az m) (on : Int) {k : Nat} (hk : (k : Int) < m.1) :
 Cu m on (k : Int) = some (((Ye m.2.1 on k (m.2.1.length - 1) : Nat) : Int), ()) := by
 have h1 := hm.l1
 have h2 := hm.l2
 unfold Cu
 rw [Hc (by omega) (by omega), show ((m.2.1.length : Int) - 1) = ((m.2.1.length - 1 : Nat) : Int) by omega, KE hm on hk _ (by omega)]
 cases h : (Ye m.2.1 on k (m.2.1.length - 1) == 0) with
 | false => rfl
 | true =>
  have h' : Ye m.2.1 on k (m.2.1.length - 1) = 0 := by simpa using h
  rw [h']; rfl
theorem ZE {m : Ab} (hm : Az m) (on : Int) {k : Nat} (hk : (k : Int) < m.1) : ∀ n : Nat, n < m.2.1.length →
 Ih ((on, (k : Int), (), (n : Int), ()), (m, ())) = some (cond (Ye m.2.1 on k n == 0) (.inl ((), ())) (.inr ((((Ye m.2.1 on k n : Nat) : Int), ()), ())))
 | 0, _ => by
  unfold Ih
  rw [Hy]
  rfl
 | n + 1, h => by
  have hrow := hm.row (n + 1) h
  unfold Ih
  rw [Hy]
  simp only [PD]
  rw [Ba (show (((n + 1 : Nat) : Int)) > 0 by omega), Ba (show (0 : Int) ≤ ((n + 1 : Nat) : Int) by omega)]
  simp only [cond_true]
  rw [OW h (by omega), Hc (by have := hm.l2; omega) (by have := hm.l2; omega), show (((n + 1 : Nat) : Int) - 1) = (n : Int) by omega]
  have ih := ZE hm on hk n (by omega)
  unfold Ih at ih
  simp only [Ye]
  show jz (cond (Kk on ((n + 1 : Nat) : Int) == 1) _ _) _ = _
  cases h1 : (Kk on ((n + 1 : Nat) : Int) == 1) with
  | false =>
   simp only [qn, cond_false, jb, qj]
   exact ih
  | true =>
   cases h2 : ((Xh m.2.1 (n + 1) k).1 != 1) with
   | true => rfl
   | false =>
    simp only [Bool.and_false, cond_true, cond_false, jb, qj]
    exact ih
def Zg (m : Ab) (on : Int) (k : Nat) : Nat := Ye m.2.1 on k (m.2.1.length - 1)
theorem NE {m : Ab} (hm : Az m) (on : Int) (k : Nat) : Zg m on k < m.2.1.length := by
 have := QJ (L := m.2.1) (on := on) (k := k) (m.2.1.length - 1)
 have := hm.l1
 unfold Zg
 omega
theorem UQ {m : Ab} (hz : Xb Qb m ≤ Ga) (hv : Ad m = true) (on : Int) {k : Nat} (hk : (k : Int) < m.1) :
 My m on (k : Int) = some (((Zg m on k : Nat) : Int), ()) := by
 have hm := Ig hv
 have h1 := hm.l1
 have h2 := hm.l2
 have h3 := hm.k2
 unfold My
 rw [OD m hz, hv, Hc (n := m.1 - 1) (by omega) (by omega)]
 simp only [jb, jg, cond_false, Be]
 rw [Ba (show (0 : Int) ≤ (k : Int) ∧ (k : Int) ≤ m.1 - 1 by omega), Hc (by omega) (by omega), show ((m.2.1.length : Int) - 1) = ((m.2.1.length - 1 : Nat) : Int) by omega, ZE hm on hk _ (by omega)]
 simp only [jg, cond_false, jb]
 show _ = some (((Ye m.2.1 on k (m.2.1.length - 1) : Nat) : Int), ())
 cases h : (Ye m.2.1 on k (m.2.1.length - 1) == 0) with
 | false => rfl
 | true =>
  have h' : Ye m.2.1 on k (m.2.1.length - 1) = 0 := by simpa using h
  rw [h']; rfl
theorem ND {m : Ab} (hz : Xb Qb m ≤ Ga) (hv : Ad m = true) (on : Int) {k : Nat} (hk : (k : Int) < m.1) :
 Sr m on (k : Int) = some (Xh m.2.1 (Zg m on k) k, ()) := by
 have hm := Ig hv
 have hl := NE hm on k
 have hrow := hm.row _ hl
 unfold Sr
 rw [UQ hz hv on hk]
 simp only [jb]
 rw [Ca (by omega)]
 simp only [cond_false]
 rw [OW hl (by omega)]
noncomputable def Ge (a : La) : Bool := Ac a && ((a.1 == 6) || (a.1 == 7))
noncomputable def LB (a : La) : La := cond (Ge a) (2, a.2.1, 0, 0, ()) a
noncomputable def Oz (a : La) : La := cond (Ge a) (cond (a.1 == 6) (2, 0, a.2.2.1, 0, ()) (3, 0, 0, a.2.2.2.1, ())) a
theorem Wv (a : La) : Hl a = some (Ge a, ()) := by
 unfold Hl Ge
 rw [Lq]
 cases Ac a <;> cases (a.1 == 6) <;> rfl
theorem Ro (a : La) : Ej a = some (Ge a, ()) := by
 unfold Ej Ge
 rw [Xq]
 cases Ac a <;> cases (a.1 == 6) <;> rfl
theorem YT (a : La) : HC a = some (LB a, ()) := by
 unfold HC LB
 rw [Wv]
 cases Ge a <;> rfl
theorem HU (a : La) : LC a = some (LB a, ()) := by
 unfold LC LB
 rw [Ro]
 cases Ge a <;> rfl
theorem HS (a : La) : RA a = some (Oz a, ()) := by
 unfold RA Oz
 rw [Ro]
 cases Ge a <;> cases (a.1 == 6) <;> rfl
def Ec {α : Type} (p : α → Bool) : Nat → List α → Int
 | _, [] => -1
 | k, x :: xs => cond (p x) (k : Int) (Ec p (k + 1) xs)
theorem Cq {X R : Type} {s : X → Option (X ⊕ R)} (I : Nat → X → Prop) (Q : R → Prop)
 (h : ∀ n x, I n x → (∃ r, s x = some (.inr r) ∧ Q r) ∨ (∃ y m, m < n ∧ s x = some (.inl y) ∧ I m y)) : ∀ n x, I n x → ∃ r, Mb s x = some r ∧ Q r := by
 intro n
 induction n using Nat.strongRecOn with
 | _ n ih =>
  intro x hi
  rcases h n x hi with ⟨r, h1, hq⟩ | ⟨y, m, hm, h1, hi'⟩
  ·exact ⟨r, by rw [Ve h1]; rfl, hq⟩
  ·obtain ⟨r, g1, hq⟩ := ih m hm y hi'
   exact ⟨r, by rw [Ve h1]; exact g1, hq⟩
def Fu {α β : Type} : α ⊕ β → Bool
 | .inl _ => true
 | .inr _ => false
noncomputable def Fv (s : Int) (x : Ja) : Bool := decide (0 ≤ x.1 ∧ x.1 ≤ 31) && (!(Kk s x.1 == 1) && (Ac x.2.1 && (!(x.2.1.1 == 1) && (!(x.2.1.1 == 6) && !(x.2.1.1 == 7)))))
noncomputable def Ps (s : Int) (x : Ja) : Int ⊕ Unit := cond (Fv s x) (.inl (Nd .i64 s (Kd .i64 1 x.1))) (.inr ())
noncomputable def HV (l : List Ja) : Int ⊕ Unit := Cc (fun _ s x => Ps s x) 0 0 l
noncomputable def Vd (l : List Ja) : Bool := Fu (HV l)
theorem Dv (l : List Ja) (hn : l.length ≤ Ga) : Ij l = some (Vd l, ()) := by
 have h20 : Ga = 1048576 := rfl
 have hl := Jj (step := fun x => Ss x.1.1 x.1.2.1 x.1.2.2.1 x.1.2.2.2.1) l (fun _ s x => Ps s x) (fun s i => ((s, l, ((ja l : Nat) : Int), i, ()), ()))
  (fun _ => .inl ((), ())) (fun _ => .inr ((false, ()), ())) (fun _ _ => True) (by
   intro k hk s _
   refine ⟨?_, fun _ _ => trivial⟩
   simp only [Ss]
   rw [Ba (show (k : Int) < (ja l : Int) by omega), Zb hk]
   simp only [cond_true, jb]
   generalize l[k] = x
   simp only [Ps, Fv, Lq, jb]
   by_cases h1 : 0 ≤ x.1
   ·rw [Ca (show ¬ x.1 < 0 by omega), LA s h1]
    by_cases h2 : x.1 ≤ 31
    ·rw [Ca (show ¬ x.1 > 31 by omega), Ba (show 0 ≤ x.1 ∧ x.1 ≤ 31 from ⟨h1, h2⟩), Ba h1]
     simp only [jb, cond_false]
     cases Kk s x.1 == 1 <;> cases Ac x.2.1 <;> cases x.2.1.1 == 1 <;> cases x.2.1.1 == 6 <;> cases x.2.1.1 == 7 <;> rfl
    ·rw [Ba (show x.1 > 31 by omega), Ca (show ¬ (0 ≤ x.1 ∧ x.1 ≤ 31) by omega)]; rfl
   ·rw [Ba (show x.1 < 0 by omega), Ca (show ¬ (0 ≤ x.1 ∧ x.1 ≤ 31) by omega)]; rfl)
  (by
   intro s _
   simp only [Ss]
   rw [Ca (by omega)]; rfl) (by omega) 0 trivial
 unfold Ij Yt
 erw [hl]
 show jz (some _) _ = _
 simp only [jb, Vd, HV]
 cases Cc (fun x s x => Ps s x) 0 0 l <;> rfl
theorem Jv (l : List Ja) (hn : l.length ≤ Ga) : Wn l = some (Vd l, ()) := by
 have h20 : Ga = 1048576 := rfl
 have hl := Jj (step := fun x => Gt x.1.1 x.1.2.1 x.1.2.2.1) l (fun _ s x => Ps s x) (fun s i => ((l, s, i, ()), ()))
  (fun _ => .inl ((), ())) (fun _ => .inr ((false, ()), ())) (fun _ _ => True) (by
   intro k hk s _
   refine ⟨?_, fun _ _ => trivial⟩
   simp only [Gt]
   rw [Ba (show (k : Int) < (ja l : Int) by omega), Zb hk]
   simp only [cond_true, jb]
   generalize l[k] = x
   simp only [Ps, Fv, Xq, Ro, Be, jb, Ge]
   by_cases h1 : 0 ≤ x.1 ∧ x.1 ≤ 31
   ·rw [Ba h1, Ba h1.1]
    simp only [Kk]
    cases Yf .i64 (Ci .i64 s x.1) 1 == 1 <;> cases Ac x.2.1 <;> cases x.2.1.1 == 1 <;> cases x.2.1.1 == 6 <;> cases x.2.1.1 == 7 <;> rfl
   ·rw [Ca h1]; rfl)
  (by
   intro s _
   simp only [Gt]
   rw [Ca (by omega)]; rfl) (by omega) 0 trivial
 unfold Wn Pu
 erw [hl]
 show jz (some _) _ = _
 simp only [jb, Vd, HV]
 cases Cc (fun x s x => Ps s x) 0 0 l <;> rfl
structure Wo (x : Ja) : Prop where
 lo : 0 ≤ x.1
 hi : x.1 ≤ 31
 act : Ac x.2.1 = true
 n1 : x.2.1.1 ≠ 1
 n6 : x.2.1.1 ≠ 6
 n7 : x.2.1.1 ≠ 7
theorem U8 {s : Int} {x : Ja} (h : Fv s x = true) : Wo x ∧ Kk s x.1 ≠ 1 := by
 simp only [Fv, jd, decide_eq_true_eq, Bool.not_eq_true', beq_eq_false_iff_ne] at h
 exact ⟨⟨h.1.1, h.1.2, h.2.2.1, h.2.2.2.1, h.2.2.2.2.1, h.2.2.2.2.2⟩, h.2.1⟩
theorem LW : ∀ {l : List Ja} {k : Nat} {s : Int}, Fu (Cc (fun _ s x => Ps s x) k s l) = true → ∀ x ∈ l, Wo x
 | [], _, _, _, x, hx => by simp at hx
 | y :: l, k, s, h, x, hx => by
  simp only [Cc, Ps] at h
  cases hc : Fv s y with
  | false => rw [hc] at h; simp [Fu] at h
  | true =>
   rw [hc] at h
   simp only [cond_true] at h
   rcases jp.1 hx with rfl | hx
   ·exact (U8 hc).1
   ·exact LW h x hx
theorem Yk {l : List Ja} (h : Vd l = true) : ∀ x ∈ l, Wo x := LW h
def Ym (l : List Ja) : Int := Gc (fun _ s (x : Ja) => Nd .i64 s (Kd .i64 1 x.1)) 0 0 l
theorem FD (l : List Ja) (hn : l.length ≤ Ga) (hx : ∀ x ∈ l, Wo x) : Hm l = some (Ym l, ()) := by
 have h20 : Ga = 1048576 := rfl
 have hl := (Ae (step := fun x => Lo x.1.1 x.1.2.1 x.1.2.2.1 x.1.2.2.2.1) l (fun _ s (x : Ja) => Nd .i64 s (Kd .i64 1 x.1)) (fun s i => ((s, l, ((ja l : Nat) : Int), i, ()), ()))
  (fun s => .inl ((s, ()), ())) (fun _ _ => True) (by
   intro k hk s _
   refine ⟨?_, trivial⟩
   simp only [Lo]
   rw [Ba (show (k : Int) < (ja l : Int) by omega), Zb hk]
   simp only [cond_true, jb]
   rw [Ba (hx _ (qp hk)).lo]; rfl)
  (by
   intro s _
   simp only [Lo]
   rw [Ca (by omega)]; rfl) (by omega) 0 trivial).1
 unfold Hm Rq
 erw [hl]
 rfl
theorem SP {α β : Type} (p : β → Bool) (f : α → β) : ∀ (xs : List α) (k : Nat), Ec p k (xs.map f) = Ec (fun x => p (f x)) k xs
 | [], _ => rfl
 | x :: xs, k => by simp only [List.map_cons, Ec, SP p f xs]
theorem Bq {α : Type} (p : α → Bool) : ∀ (xs : List α) (k : Nat), Ec p k xs = -1 ∨ ∃ j : Nat, j < xs.length ∧ Ec p k xs = ((k + j : Nat) : Int)
 | [], _ => .inl rfl
 | x :: xs, k => by
  simp only [Ec]
  cases p x with
  | true => exact .inr ⟨0, by simp, by simp⟩
  | false =>
   rcases Bq p xs (k + 1) with h | ⟨j, h1, h2⟩
   ·exact .inl h
   ·exact .inr ⟨j + 1, by simp; omega, by simp only [cond_false]; rw [h2]; omega⟩
theorem BJ {α : Type} (p : α → Bool) : ∀ (xs : List α) (k : Nat), (Cc (fun k (_ : Unit) x => cond (p x) (.inr (k : Int)) (.inl ())) k () xs : Unit ⊕ Int) = if Ec p k xs = -1 then .inl () else .inr (Ec p k xs)
 | [], _ => rfl
 | x :: xs, k => by
  rcases Bool.eq_false_or_eq_true (p x) with hp | hp
  ·simp only [Cc, Ec, hp, cond_true]; rw [if_neg (by omega)]
  ·simp only [Cc, Ec, hp, cond_false]; exact BJ p xs (k + 1)
theorem PA {X R α : Type} {step : X → Option (X ⊕ R)} (xs : List α) (p : α → Bool) (I : Int → X) (no : R) (yes : Int → R)
 (h : ∀ k (hk : k < xs.length), step (I (k : Int)) = some (cond (p xs[k]) (.inr (yes (k : Int))) (.inl (I (j5 .i64 ((k : Int) + 1))))))
 (he : step (I (xs.length : Int)) = some (.inr no)) (hn : xs.length < 9223372036854775807) :
 Mb step (I 0) = some (if Ec p 0 xs = -1 then no else yes (Ec p 0 xs)) := by
 have := Jj (step := step) xs (fun k (_ : Unit) x => cond (p x) (.inr (k : Int)) (.inl ())) (fun _ i => I i) (fun _ => no) yes (fun _ _ => True) (fun k hk s _ => by
  refine ⟨?_, fun _ _ => trivial⟩
  rw [h k hk]
  cases p xs[k] <;> rfl) (fun _ _ => he) hn () trivial
 rw [this, BJ]
 by_cases hc : Ec p 0 xs = -1
 ·rw [if_pos hc, if_pos hc]
 ·rw [if_neg hc, if_neg hc]
def Tc (h : Ja) : Jb := (h.2.1.2.1, h.2.1.2.2.1, ())
def Ue (c m : Int) (h : Ja) : Bool := (h.2.1.2.1 == c) && (h.2.1.2.2.1 == m)
theorem YF (l : List Jb) (c : Jb) (hn : l.length ≤ Ga) : Lw l c = some (Ec (fun x => Ns Df x c) 0 l, ()) := by
 have h20 : Ga = 1048576 := rfl
 have hl := PA (step := fun x => Bt x.1.1 x.1.2.1 x.1.2.2.1 x.1.2.2.2.1 x.2.1) l (fun x => Ns Df x c) (fun i => (((), l, ((ja l : Nat) : Int), i, ()), (c, ())))
  (.inl ((), ())) (fun i => .inr ((i, ()), ())) (by
   intro k hk
   simp only [Bt]
   rw [Ba (show (k : Int) < (ja l : Int) by omega), Zb hk]
   simp only [cond_true, jb]
   cases Ns Df l[k] c <;> rfl) (by
   simp only [Bt]
   rw [Ca (by omega)]; rfl) (by omega)
 unfold Lw Du
 erw [hl]
 simp only [jb]
 by_cases hc : Ec (fun x => Ns Df x c) 0 l = -1
 ·rw [if_pos hc, hc]; rfl
 ·rw [if_neg hc]; rfl
theorem Vz (l : List Ja) (x : Kb) (hn : l.length ≤ Ga) : Cl l x = some (Ec (Ue x.2.1 x.2.2.1) 0 l, ()) := by
 have h20 : Ga = 1048576 := rfl
 have hl := PA (step := fun y => Kt y.1.1 y.1.2.1 y.1.2.2.1 y.2.1) l (Ue x.2.1 x.2.2.1) (fun i => ((l, (), i, ()), (x, ())))
  (.inl ((), ())) (fun i => .inr ((i, ()), ())) (by
   intro k hk
   simp only [Kt]
   rw [Ba (show (k : Int) < (ja l : Int) by omega), Zb hk]
   simp only [cond_true, jb, Ue]
   cases l[k].2.1.2.1 == x.2.1 <;> cases l[k].2.1.2.2.1 == x.2.2.1 <;> rfl) (by
   simp only [Kt]
   rw [Ca (by omega)]; rfl) (by omega)
 unfold Cl Yu
 erw [hl]
 simp only [jb]
 by_cases hc : Ec (Ue x.2.1 x.2.2.1) 0 l = -1
 ·rw [if_pos hc, hc]; rfl
 ·rw [if_neg hc]; rfl
theorem QQ (L : List Ja) (c m : Int) : Ec (fun x => Ns Df x (c, m, ())) 0 (L.map Tc) = Ec (Ue c m) 0 L := by
 rw [SP]
 congr 1
 funext h
 simp only [Tc, Ns, Ue, Bool.and_true]
def Gg {α : Type} (l : List α) (r : Nat) : List α := jf (Nb l 0 r) (Nb l (r + 1) l.length)
theorem MM {α : Type} {l : List α} {r : Nat} (h : r < l.length) : (Gg l r).length = l.length - 1 := by
 simp [Gg, Nb]; omega
theorem NM {α β : Type} (f : α → β) (l : List α) (r : Nat) : Gg (l.map f) r = (Gg l r).map f := by
 simp [Gg, Nb, List.map_take, List.map_drop]
 rw [List.take_of_length_le (by simp)]
theorem VI {α : Type} {l : List α} {r : Nat} (h : r < l.length) : De (ja l) 0 (r : Int) = true ∧ De (ja l) ((r + 1 : Nat) : Int) ((ja l : Nat) : Int) = true := by
 simp only [De, jd, decide_eq_true_eq]
 omega
theorem Dw (l : List Ja) {r : Nat} (h : r < l.length) (hn : l.length ≤ Ga) : Hf l (r : Int) = some (Gg l r, ()) := by
 have h20 : Ga = 1048576 := rfl
 have hc := VI h
 unfold Hf
 rw [Ze (by omega), hc.1, hc.2]
 have e1 : jx (ja ([] : List Ja) + ja (Nb l (jy 0) (jy (r : Int)))) Ya = true := ji (by simp [Nb]; rw [Bf]; omega)
 have e2 : jx (ja (jf ([] : List Ja) (Nb l (jy 0) (jy (r : Int)))) + ja (Nb l (jy ((r + 1 : Nat) : Int)) (jy ((ja l : Nat) : Int)))) Ya = true :=
  ji (by simp [Nb]; rw [Bf]; omega)
 rw [e1, e2]
 simp only [cond_true]
 rfl
noncomputable def Ii (x : Kb) (r : Int) : Bool := Ac (2, x.2.1, x.2.2.1, 0, ()) && (((x.1 == 0) && !decide (r ≥ 0)) || (((x.1 == 1) && !decide (r ≥ 0)) || ((x.1 == 2) && decide (r ≥ 0))))
def Td (x : Kb) : Ja := (0, (2, x.2.1, x.2.2.1, 0, ()), ())
def Iu (x : Kb) (L : List Ja) (r : Int) : List Ja := cond (x.1 == 1) (jf L [Td x]) (cond (x.1 == 2) (Gg L r.toNat) L)
noncomputable def Di (L : List Ja) (x : Kb) : List Ja ⊕ Unit := cond (Ii x (Ec (Ue x.2.1 x.2.2.1) 0 L)) (.inl (Iu x L (Ec (Ue x.2.1 x.2.2.1) 0 L))) (.inr ())
theorem XR {L L' : List Ja} {x : Kb} (h : Di L x = .inl L') : L'.length ≤ L.length + 1 := by
 unfold Di at h
 cases hc : Ii x (Ec (Ue x.2.1 x.2.2.1) 0 L) with
 | false => rw [hc] at h; simp at h
 | true =>
  rw [hc] at h
  simp only [cond_true, Sum.inl.injEq] at h
  rw [← h]
  unfold Iu
  cases x.1 == 1 with
  | true => simp
  | false =>
   cases x.1 == 2 with
   | true => simp [Gg, Nb]; omega
   | false => simp
theorem JU (l : List Kb) (k : Nat) (hk : k < l.length) (L : List Ja) (hL : L.length ≤ k) (hn : l.length ≤ Ga) :
 Tl l L (k : Int) = some (match Di L l[k] with | .inl L' => .inl ((l, L', j5 .i64 ((k : Int) + 1), ()), ()) | .inr _ => .inr (.inr ((false, ()), ()))) := by
 have h20 : Ga = 1048576 := rfl
 simp only [Tl]
 rw [Ba (show (k : Int) < (ja l : Int) by omega), Zb hk]
 simp only [cond_true, jb]
 rw [Vz L l[k] (by omega)]
 simp only [jb, Be, Lm, Xq, Di, Ii, Iu, Td]
 generalize hx : l[k] = x
 generalize hr : Ec (Ue x.2.1 x.2.2.1) 0 L = r
 have hble : jx (ja L + ja [Td x]) Ya = true := ji (by simp [Bf]; omega)
 have hble' : jx (ja L + ja ([((0 : Int), ((2 : Int), x.2.1, x.2.2.1, (0 : Int), ()), ())] : List Ja)) Ya = true := hble
 have hw : decide (r ≥ 0) = true → Hf L r = some (Gg L r.toNat, ()) := by
  intro h
  rcases Bq (Ue x.2.1 x.2.2.1) L 0 with h1 | ⟨j, h1, h2⟩
  ·rw [hr] at h1; rw [h1] at h; simp at h
  ·rw [hr] at h2
   have : r = (j : Int) := by omega
   rw [this, Dw L h1 (by omega)]
   simp
 by_cases k0 : x.1 = 0
 ·simp only [k0]
  cases Ac ((2 : Int), x.2.1, x.2.2.1, (0 : Int), ()) <;> cases decide (r ≥ 0) <;> rfl
 by_cases k1 : x.1 = 1
 ·simp only [k1]
  rw [hble']
  cases Ac ((2 : Int), x.2.1, x.2.2.1, (0 : Int), ()) <;> cases decide (r ≥ 0) <;> rfl
 by_cases k2 : x.1 = 2
 ·simp only [k2]
  cases hd : decide (r ≥ 0) with
  | false => cases Ac ((2 : Int), x.2.1, x.2.2.1, (0 : Int), ()) <;> rfl
  | true =>
   rw [hw hd]
   cases Ac ((2 : Int), x.2.1, x.2.2.1, (0 : Int), ()) <;> rfl
 ·have e0 : (x.1 == 0) = false := by simpa using k0
  have e1 : (x.1 == 1) = false := by simpa using k1
  have e2 : (x.1 == 2) = false := by simpa using k2
  rw [Ca (show ¬ (0 ≤ x.1 ∧ x.1 ≤ 2) by omega), e0, e1, e2]
  cases Ac ((2 : Int), x.2.1, x.2.2.1, (0 : Int), ()) <;> rfl
theorem CU (l : List Kb) (k : Nat) (hk : k < l.length) (L : List Ja) (hL : L.length ≤ k) (hn : l.length ≤ Ga) :
 Ql (L.map Tc) l ((ja l : Nat) : Int) (k : Int) =
  some (match Di L l[k] with | .inl L' => .inl ((L'.map Tc, l, ((ja l : Nat) : Int), j5 .i64 ((k : Int) + 1), ()), ()) | .inr _ => .inr (.inr ((false, ()), ()))) := by
 have h20 : Ga = 1048576 := rfl
 simp only [Ql]
 rw [Ba (show (k : Int) < (ja l : Int) by omega), Zb hk]
 simp only [cond_true, jb]
 rw [YF (L.map Tc) _ (by simp; omega), QQ]
 simp only [jb, Lq, Di, Ii, Iu, Td]
 generalize hx : l[k] = x
 generalize hr : Ec (Ue x.2.1 x.2.2.1) 0 L = r
 have hble : jx (ja (L.map Tc) + ja ([(x.2.1, x.2.2.1, ())] : List Jb)) Ya = true := ji (by simp [Bf]; omega)
 have happ : jf (L.map Tc) ([(x.2.1, x.2.2.1, ())] : List Jb) = (jf L [((0 : Int), ((2 : Int), x.2.1, x.2.2.1, (0 : Int), ()), ())]).map Tc := by
  show _ ++ _ = List.map Tc (_ ++ _)
  rw [List.map_append]; rfl
 by_cases k0 : x.1 = 0
 ·simp only [k0]
  cases Ac ((2 : Int), x.2.1, x.2.2.1, (0 : Int), ()) <;> cases decide (r ≥ 0) <;> rfl
 by_cases k1 : x.1 = 1
 ·simp only [k1]
  rw [hble, happ]
  cases Ac ((2 : Int), x.2.1, x.2.2.1, (0 : Int), ()) <;> cases decide (r ≥ 0) <;> rfl
 by_cases k2 : x.1 = 2
 ·simp only [k2]
  rcases Bq (Ue x.2.1 x.2.2.1) L 0 with h1 | ⟨j, h1, h2⟩
  ·rw [hr] at h1
   rw [h1]
   cases Ac ((2 : Int), x.2.1, x.2.2.1, (0 : Int), ()) <;> rfl
  ·rw [hr] at h2
   have hrj : r = (j : Int) := by omega
   rw [hrj]
   have hj : j < (L.map Tc).length := by simpa using h1
   have hc := VI hj
   rw [Ze (k := j) (by omega), hc.1, hc.2, Ca (show ¬ (j : Int) < 0 by omega), Ba (show (j : Int) ≥ 0 by omega)]
   have e1 : jx (ja (Nb (L.map Tc) (jy 0) (jy (j : Int))) + ja (Nb (L.map Tc) (jy ((j + 1 : Nat) : Int)) (jy ((ja (L.map Tc) : Nat) : Int)))) Ya = true :=
    ji (by simp [Nb]; rw [Bf]; omega)
   have e2 : jf (Nb (L.map Tc) (jy 0) (jy (j : Int))) (Nb (L.map Tc) (jy ((j + 1 : Nat) : Int)) (jy ((ja (L.map Tc) : Nat) : Int))) = (Gg L (jy (j : Int))).map Tc := by
    rw [← NM]
    simp [Gg]
   rw [e1, e2]
   cases Ac ((2 : Int), x.2.1, x.2.2.1, (0 : Int), ()) <;> rfl
 ·have e0 : (x.1 == 0) = false := by simpa using k0
  have e1 : (x.1 == 1) = false := by simpa using k1
  have e2 : (x.1 == 2) = false := by simpa using k2
  rw [e0, e1, e2]
  cases Ac ((2 : Int), x.2.1, x.2.2.1, (0 : Int), ()) <;> rfl
noncomputable def IF (l : List Kb) : List Ja ⊕ Unit := Cc (fun _ L x => Di L x) 0 [] l
noncomputable def Zc (l : List Kb) : Bool := decide (l.length ≤ 8) && (match IF l with | .inl L => ((L.length : Int) == 0) | .inr _ => false)
theorem YE (l : List Kb) (hn : l.length ≤ Ga) : Qu l = some (Zc l, ()) := by
 have h20 : Ga = 1048576 := rfl
 have hl := Jj (step := fun x => Tl x.1.1 x.1.2.1 x.1.2.2.1) l (fun _ L x => Di L x) (fun L i => ((l, L, i, ()), ()))
  (fun L => .inl ((l, L, ()), ())) (fun _ => .inr ((false, ()), ())) (fun k L => L.length ≤ k) (by
   intro k hk L hL
   refine ⟨?_, fun L' h => by have := XR h; omega⟩
   rw [JU l k hk L hL hn]
   cases Di L l[k] <;> rfl) (by
   intro s _
   simp only [Tl]
   rw [Ca (by omega)]; rfl) (by omega) [] (by simp)
 unfold Qu Hs
 erw [hl]
 simp only [jb, Zc, IF]
 cases Cc (fun x L x => Di L x) 0 [] l with
 | inl L =>
  simp only [qj]
  by_cases h : l.length ≤ 8
  ·rw [Ba (show ((ja l : Nat) : Int) ≤ 8 by omega), Ba h]; rfl
  ·rw [Ca (show ¬ ((ja l : Nat) : Int) ≤ 8 by omega), Ca h]; rfl
 | inr u => cases decide (l.length ≤ 8) <;> rfl
theorem GE (l : List Kb) (hn : l.length ≤ Ga) : Zt l = some (Zc l, ()) := by
 have h20 : Ga = 1048576 := rfl
 unfold Zt Zc
 by_cases h : l.length ≤ 8
 ·rw [Ca (show ¬ ((ja l : Nat) : Int) > 8 by omega), Ba h]
  have hl := Jj (step := fun x => Ql x.1.1 x.1.2.1 x.1.2.2.1 x.1.2.2.2.1) l (fun _ L x => Di L x) (fun L i => ((L.map Tc, l, ((ja l : Nat) : Int), i, ()), ()))
   (fun L => .inl ((L.map Tc, ()), ())) (fun _ => .inr ((false, ()), ())) (fun k L => L.length ≤ k) (by
    intro k hk L hL
    refine ⟨?_, fun L' h => by have := XR h; omega⟩
    rw [CU l k hk L hL hn]
    cases Di L l[k] <;> rfl) (by
    intro s _
    simp only [Ql]
    rw [Ca (by omega)]; rfl) (by omega) [] (by simp)
  unfold Cs
  erw [hl]
  simp only [IF]
  cases Cc (fun x L x => Di L x) 0 [] l with
  | inl L =>
   show some _ = some _
   simp only [List.length_map]
   rfl
  | inr u => rfl
 ·rw [Ba (show ((ja l : Nat) : Int) > 8 by omega), Ca h]; rfl
noncomputable def Fi (keys : Int) (nl : Nat) (x : Ja) : Bool := !decide (x.1 ≥ keys) && !((x.2.1.1 != 9) && decide (x.2.1.2.2.2.1 ≥ (nl : Int)))
noncomputable def Dh (e : Va) : Bool :=
 Ad e.1 && (decide (e.2.1.length ≤ 4) && (Vd e.2.2.2.1 && (Jd (fun _ m => Zc m) 0 e.2.1 && (Jd (fun _ x => Fi e.1.1 e.1.2.1.length x) 0 e.2.2.2.1 &&
  (decide (0 ≤ e.2.2.1 ∧ e.2.2.1 < ((2 ^ e.1.2.1.length : Nat) : Int)) && ((Int.tmod e.2.2.1 2 == 0) && decide (0 ≤ e.2.2.2.2.1 ∧ e.2.2.2.2.1 ≤ 15)))))))
theorem Nl (e : Va) : Xb Ub e = Xb Qb e.1 + (Xb (.sl (.sl Xc)) e.2.1 + Xb (.sl Oj) e.2.2.2.1) := by
 simp only [Xb, Nat.add_zero, js]
theorem Kl (l : List Ja) : Xb (.sl Oj) l = l.length := Rx (e := Oj) rfl l
theorem OS (l : List Kb) : Xb (.sl Xc) l = l.length := Rx (e := Xc) rfl l
theorem U1 {e : Ty} (l : List (T e)) : ja l ≤ Xb (.sl e) l := Nat.le_add_right _ _
theorem H9 {e : Ty} {l : List (T e)} {k : Nat} (hk : k < ja l) : Xb e (List.get l ⟨k, hk⟩) ≤ Xb (.sl e) l :=
 qb (Lv (f := Xb e) hk) (Nat.le_add_left _ _)
theorem CQ (e : Va) (hz : Xb Ub e ≤ Ga) : Lk (((), e.2.1, ((ja e.2.1 : Nat) : Int), (0 : Int), ()), (e, ())) =
 some (cond (Jd (fun _ m => Zc m) 0 e.2.1) (.inl (((), ()), (e, ()))) (.inr ((false, ()), ()))) := by
 have h20 : Ga = 1048576 := rfl
 rw [Nl] at hz
 have hl := U1 (e := .sl Xc) e.2.1
 unfold Lk
 refine Eh (step := fun x => Ho x.1.1 x.1.2.1 x.1.2.2.1 x.1.2.2.2.1 x.2.1) e.2.1 (fun _ m => Zc m) (fun i => (((), e.2.1, ((ja e.2.1 : Nat) : Int), i, ()), (e, ()))) _ _ ?_ ?_ (by omega)
 ·intro k hk
  simp only [Ho]
  have hk2 : (k : Int) < ((ja e.2.1 : Nat) : Int) := by omega
  rw [Ba hk2, Zb hk]
  simp only [cond_true, jb]
  have he := H9 (e := .sl Xc) hk
  rw [OS] at he
  rw [GE e.2.1[k] (by have : (List.get e.2.1 ⟨k, hk⟩) = e.2.1[k] := rfl; rw [this] at he; omega)]
  simp only [jb]
  cases Zc e.2.1[k] <;> rfl
 ·simp only [Ho]
  rw [Ca (by omega)]; rfl
theorem VQ (e : Va) (hz : Xb Ub e ≤ Ga) : Qk (((), (0 : Int), ()), (e, ())) =
 some (cond (Jd (fun _ m => Zc m) 0 e.2.1) (.inl (((), ()), (e, ()))) (.inr ((false, ()), ()))) := by
 have h20 : Ga = 1048576 := rfl
 rw [Nl] at hz
 have hl := U1 (e := .sl Xc) e.2.1
 unfold Qk
 refine Eh (step := fun x => Po x.1.1 x.1.2.1 x.2.1) e.2.1 (fun _ m => Zc m) (fun i => (((), i, ()), (e, ()))) _ _ ?_ ?_ (by omega)
 ·intro k hk
  simp only [Po]
  have hk2 : (k : Int) < ((ja e.2.1 : Nat) : Int) := by omega
  rw [Ba hk2, Zb hk]
  simp only [cond_true, jb]
  have he := H9 (e := .sl Xc) hk
  rw [OS] at he
  rw [YE e.2.1[k] (by have : (List.get e.2.1 ⟨k, hk⟩) = e.2.1[k] := rfl; rw [this] at he; omega)]
  simp only [jb]
  cases Zc e.2.1[k] <;> rfl
 ·simp only [Po]
  rw [Ca (by omega)]; rfl
theorem BU (e : Va) (hz : Xb Ub e ≤ Ga) : Xj (((), ((ja e.1.2.1 : Nat) : Int), e.2.2.2.1, ((ja e.2.2.2.1 : Nat) : Int), (0 : Int), ()), (e, ())) =
 some (cond (Jd (fun _ x => Fi e.1.1 e.1.2.1.length x) 0 e.2.2.2.1) (.inl (((), ((ja e.1.2.1 : Nat) : Int), ()), (e, ()))) (.inr ((false, ()), ()))) := by
 have h20 : Ga = 1048576 := rfl
 rw [Nl, Kl] at hz
 unfold Xj
 refine Eh (step := fun x => Rm x.1.1 x.1.2.1 x.1.2.2.1 x.1.2.2.2.1 x.1.2.2.2.2.1 x.2.1) e.2.2.2.1 (fun _ x => Fi e.1.1 e.1.2.1.length x)
  (fun i => (((), ((ja e.1.2.1 : Nat) : Int), e.2.2.2.1, ((ja e.2.2.2.1 : Nat) : Int), i, ()), (e, ()))) _ _ ?_ ?_ (by omega)
 ·intro k hk
  simp only [Rm]
  have hk2 : (k : Int) < ((ja e.2.2.2.1 : Nat) : Int) := by omega
  rw [Ba hk2, Zb hk]
  simp only [cond_true, jb, Fi]
  cases decide (e.2.2.2.1[k].1 ≥ e.1.1) <;> cases (e.2.2.2.1[k].2.1.1 != 9) <;> cases decide (e.2.2.2.1[k].2.1.2.2.2.1 ≥ ((ja e.1.2.1 : Nat) : Int)) <;> rfl
 ·simp only [Rm]
  rw [Ca (by omega)]; rfl
theorem IU (e : Va) (hz : Xb Ub e ≤ Ga) : Rk (((), (0 : Int), ()), (e, ())) =
 some (cond (Jd (fun _ x => Fi e.1.1 e.1.2.1.length x) 0 e.2.2.2.1) (.inl (((), ()), (e, ()))) (.inr ((false, ()), ()))) := by
 have h20 : Ga = 1048576 := rfl
 rw [Nl, Kl] at hz
 unfold Rk
 refine Eh (step := fun x => Qo x.1.1 x.1.2.1 x.2.1) e.2.2.2.1 (fun _ x => Fi e.1.1 e.1.2.1.length x) (fun i => (((), i, ()), (e, ()))) _ _ ?_ ?_ (by omega)
 ·intro k hk
  simp only [Qo]
  have hk2 : (k : Int) < ((ja e.2.2.2.1 : Nat) : Int) := by omega
  rw [Ba hk2, Zb hk]
  simp only [cond_true, jb, Fi]
  cases decide (e.2.2.2.1[k].1 ≥ e.1.1) <;> cases (e.2.2.2.1[k].2.1.1 != 9) <;> cases decide (e.2.2.2.1[k].2.1.2.2.2.1 ≥ ((ja e.1.2.1 : Nat) : Int)) <;> rfl
 ·simp only [Qo]
  rw [Ca (by omega)]; rfl
theorem NN (e : Va) (hz : Xb Ub e ≤ Ga) : Ww e = some (Dh e, ()) := by
 have h20 : Ga = 1048576 := rfl
 have hz' := hz
 rw [Nl, Kl] at hz'
 unfold Ww Dh
 rw [DD e.1 (by omega)]
 cases hk : Ad e.1 with
 | false => rfl
 | true =>
  simp only [jb, jg, cond_false, jk]
  by_cases h4 : e.2.1.length ≤ 4
  ·rw [Ca (show ¬ ((ja e.2.1 : Nat) : Int) > 4 by omega), Ba h4, Dv _ (by omega)]
   simp only [jb, cond_false, jk]
   cases hh : Vd e.2.2.2.1 with
   | false => rfl
   | true =>
    simp only [jg, cond_false, jk]
    rw [CQ e hz]
    have hl := (Ig hk).l2
    by_cases ho : 0 ≤ e.2.2.2.2.1 ∧ e.2.2.2.2.1 ≤ 15
    ·rw [Ca (show ¬ e.2.2.2.2.1 < 0 by omega), Ca (show ¬ e.2.2.2.2.1 > 15 by omega), Ba ho]
     simp only [cond_false, jb, Bool.and_true]
     cases Jd (fun _ m => Zc m) 0 e.2.1 with
     | false => rfl
     | true =>
      simp only [cond_true, qj, jk]
      rw [BU e hz]
      cases Jd (fun _ x => Fi e.1.1 e.1.2.1.length x) 0 e.2.2.2.1 with
      | false => rfl
      | true =>
       simp only [cond_true, jb, qj, jk]
       rw [Zx (by omega), Ba (show (0 : Int) ≤ ((ja e.1.2.1 : Nat) : Int) by omega)]
       have e2 : ((2 : Int) == 0) = false := rfl
       rw [e2]
       simp only [cond_false, cond_true]
       by_cases hf : 0 ≤ e.2.2.1
       ·rw [Ba (show e.2.2.1 ≥ 0 from hf)]
        by_cases hf2 : e.2.2.1 < ((2 ^ e.1.2.1.length : Nat) : Int)
        ·rw [Ba hf2, Ba (show 0 ≤ e.2.2.1 ∧ e.2.2.1 < ((2 ^ e.1.2.1.length : Nat) : Int) from ⟨hf, hf2⟩)]
         cases Int.tmod e.2.2.1 2 == 0 <;> rfl
        ·rw [Ca hf2, Ca (show ¬ (0 ≤ e.2.2.1 ∧ e.2.2.1 < ((2 ^ e.1.2.1.length : Nat) : Int)) from fun h => hf2 h.2)]
         cases Int.tmod e.2.2.1 2 == 0 <;> rfl
       ·rw [Ca (show ¬ e.2.2.1 ≥ 0 from hf), Ca (show ¬ (0 ≤ e.2.2.1 ∧ e.2.2.1 < ((2 ^ e.1.2.1.length : Nat) : Int)) from fun h => hf h.1)]
        rfl
    ·have hr : (Jd (fun _ m => Zc m) 0 e.2.1 && (Jd (fun _ x => Fi e.1.1 e.1.2.1.length x) 0 e.2.2.2.1 && (decide (0 ≤ e.2.2.1 ∧ e.2.2.1 < ((2 ^ e.1.2.1.length : Nat) : Int)) && ((Int.tmod e.2.2.1 2 == 0) && decide (0 ≤ e.2.2.2.2.1 ∧ e.2.2.2.2.1 ≤ 15))))) = false := by
      rw [Ca ho]; simp
     rw [hr]
     by_cases h1 : e.2.2.2.2.1 < 0
     ·rw [Ba h1]; rfl
     ·rw [Ca h1, Ba (show e.2.2.2.2.1 > 15 by omega)]; rfl
  ·rw [Ba (show ((ja e.2.1 : Nat) : Int) > 4 by omega), Ca h4]; rfl
theorem Yq (e : Va) (hz : Xb Ub e ≤ Ga) : Hk e = some (Dh e, ()) := by
 have h20 : Ga = 1048576 := rfl
 have hz' := hz
 rw [Nl, Kl] at hz'
 unfold Hk Dh
 rw [OD e.1 (by omega)]
 cases hk : Ad e.1 with
 | false => rfl
 | true =>
  simp only [jb, jg, cond_false, jk]
  by_cases h4 : e.2.1.length ≤ 4
  ·rw [Ca (show ¬ ((ja e.2.1 : Nat) : Int) > 4 by omega), Ba h4, Jv _ (by omega)]
   simp only [jb, cond_false, jk]
   cases hh : Vd e.2.2.2.1 with
   | false => rfl
   | true =>
    simp only [jg, cond_false, jk]
    rw [VQ e hz]
    have hl := (Ig hk).l2
    cases Jd (fun _ m => Zc m) 0 e.2.1 with
    | false => rfl
    | true =>
     simp only [cond_true, jb, qj, jk]
     rw [IU e hz]
     cases Jd (fun _ x => Fi e.1.1 e.1.2.1.length x) 0 e.2.2.2.1 with
     | false => rfl
     | true =>
      simp only [cond_true, jb, qj, jk, Be]
      have hp : (2 ^ e.1.2.1.length : Nat) ≤ 16 := ql (n := 2) (by omega) hl
      rw [Zx (by omega), Ba (show (0 : Int) ≤ ((ja e.1.2.1 : Nat) : Int) by omega)]
      generalize (2 ^ e.1.2.1.length : Nat) = P2 at hp ⊢
      rw [Hc (by omega) (by omega)]
      have e2 : ((2 : Int) == 0) = false := rfl
      rw [e2]
      simp only [cond_false, cond_true, jb]
      have e3 : decide (0 ≤ e.2.2.1 ∧ e.2.2.1 ≤ (P2 : Int) - 1) = decide (0 ≤ e.2.2.1 ∧ e.2.2.1 < (P2 : Int)) := by
       rw [decide_eq_decide]; omega
      rw [e3]
      cases decide (0 ≤ e.2.2.1 ∧ e.2.2.1 < (P2 : Int)) <;> cases Int.tmod e.2.2.1 2 == 0 <;> rfl
  ·rw [Ba (show ((ja e.2.1 : Nat) : Int) > 4 by omega), Ca h4]; rfl
def Qg (x : Ia) : Bool := decide (0 ≤ x.1 ∧ x.1 ≤ 1000000) && decide (0 ≤ x.2.1 ∧ x.2.1 ≤ 31)
theorem FE (x : Ia) : Xt x = some (Qg x, ()) := by
 unfold Xt Qg
 simp only [Ji, Ki]
 apply Kc
 simp only [Wc, decide_eq_true_eq, jq, and_false, or_false, jd]
 omega
theorem XE (x : Ia) : Ou x = some (Qg x, ()) := by
 unfold Ou Qg
 simp only [Be, jb, Ji, Ki]
 apply Kc
 simp only [Wc, decide_eq_true_eq, jq, and_false, or_false, jd]
def Ol (s : Int × Int) (x : Ia) : Bool := Qg x && (!decide (s.1 > x.1) && !(x.2.2.1 == (Kk s.2 x.2.1 == 1)))
def Ut (s : Int × Int) (x : Ia) : (Int × Int) ⊕ Unit := cond (Ol s x) (.inl (x.1, Bh .i64 s.2 (Kd .i64 1 x.2.1))) (.inr ())
def JW (l : List Ia) (d : Int) : (Int × Int) ⊕ Unit := Cc (fun _ s x => Ut s x) 0 (0, d) l
def Vx (l : List Ia) (d : Int) : Int × Bool := cond (decide (l.length ≤ 64)) (match JW l d with | .inl s => (s.2, true) | .inr _ => (0, false)) (0, false)
theorem Wk {x : Ia} (h : Qg x = true) : 0 ≤ x.1 ∧ x.1 ≤ 1000000 ∧ 0 ≤ x.2.1 ∧ x.2.1 ≤ 31 := by
 simp only [Qg, jd, decide_eq_true_eq] at h
 omega
theorem UR (l : List Ia) (d : Int) (hn : l.length ≤ Ga) : MA l d = some ((Vx l d).1, (Vx l d).2, ()) := by
 have h20 : Ga = 1048576 := rfl
 unfold MA Vx
 by_cases h64 : l.length ≤ 64
 ·rw [Ca (show ¬ ((ja l : Nat) : Int) > 64 by omega), Ba h64]
  have hl := Jj (step := fun x => Zs x.1.1 x.1.2.1 x.1.2.2.1 x.1.2.2.2.1 x.1.2.2.2.2.1) l (fun _ s x => Ut s x) (fun s i => ((l, s.2, l, ((ja l : Nat) : Int), i, ()), ()))
   (fun s => .inl ((s.2, ()), ())) (fun _ => .inr (((0 : Int), false, ()), ())) (fun k s => (k = 0 → s.1 = 0) ∧ ∀ hk : k - 1 < l.length, 0 < k → s.1 = l[k - 1].1) (by
    intro k hk s ⟨hs0, hs1⟩
    refine ⟨?_, ?_⟩
    ·simp only [Zs]
     rw [Ba (show (k : Int) < ((ja l : Nat) : Int) by omega), Zb hk]
     simp only [cond_true, jb, FE, Ut, Ol]
     generalize hx : l[k] = x
     cases hev : Qg x with
     | false => rfl
     | true =>
      have hkey := Wk hev
      simp only [jg, cond_false, jk]
      rw [LA s.2 hkey.2.2.1, Ba hkey.2.2.1]
      simp only [jb, cond_true]
      by_cases h0 : k = 0
      ·subst h0
       rw [Ca (show ¬ ((0 : Nat) : Int) > 0 by omega), Ca (show ¬ s.1 > x.1 by rw [hs0 rfl]; omega)]
       cases (x.2.2.1 == (Kk s.2 x.2.1 == 1)) <;> rfl
      ·rw [Ba (show (k : Int) > 0 by omega), Hc (by omega) (by omega), show (k : Int) - 1 = ((k - 1 : Nat) : Int) by omega, Zb (show k - 1 < l.length by omega)]
       rw [hs1 (by omega) (by omega)]
       simp only [jb, cond_true]
       cases decide (l[k - 1].1 > x.1) <;> cases (x.2.2.1 == (Kk s.2 x.2.1 == 1)) <;> rfl
    ·intro s' h
     unfold Ut at h
     cases hc : Ol s l[k] with
     | false => rw [hc] at h; simp at h
     | true =>
      rw [hc] at h
      simp only [cond_true, Sum.inl.injEq] at h
      refine ⟨by omega, fun _ _ => ?_⟩
      rw [← h]
      simp only [Nat.add_sub_cancel])
   (by
    intro s _
    simp only [Zs]
    rw [Ca (by omega)]; rfl) (by omega) (0, d) ⟨fun _ => rfl, fun _ h => absurd h (by omega)⟩
  unfold Au
  erw [hl]
  simp only [cond_false, jb, JW, cond_true]
  cases Cc (fun x s x => Ut s x) 0 (0, d) l <;> rfl
 ·rw [Ba (show ((ja l : Nat) : Int) > 64 by omega), Ca h64]; rfl
def OJ (keys : Int) (l : List Ia) : Bool := Jd (fun _ (x : Ia) => !decide (x.2.1 ≥ keys)) 0 l
def Fd (q : List Ia) (d keys : Int) : Bool := OJ keys q && (Vx q d).2
theorem ZB (q : List Ia) (d keys : Int) (hn : q.length ≤ Ga) : Jl q d keys = some (Fd q d keys, ()) := by
 have h20 : Ga = 1048576 := rfl
 have hl := Eh (step := fun x => Wm x.1.1 x.1.2.1 x.1.2.2.1 x.1.2.2.2.1 x.1.2.2.2.2.1 x.1.2.2.2.2.2.1) q (fun _ (x : Ia) => !decide (x.2.1 ≥ keys)) (fun i => ((q, d, keys, q, ((ja q : Nat) : Int), i, ()), ()))
  (.inl ((q, d, ()), ())) (.inr ((false, ()), ())) (by
   intro k hk
   simp only [Wm]
   rw [Ba (show (k : Int) < ((ja q : Nat) : Int) by omega), Zb hk]
   simp only [cond_true, jb]
   cases decide (q[k].2.1 ≥ keys) <;> rfl) (by
   simp only [Wm]
   rw [Ca (by omega)]; rfl) (by omega)
 unfold Jl Np Fd OJ
 erw [hl]
 simp only [jb]
 cases Jd (fun _ (x : Ia) => !decide (x.2.1 ≥ keys)) 0 q with
 | false => rfl
 | true => simp only [cond_true, qj, UR q d hn, jb]; rfl
def Eo (keys : Int) (s : Int × Int) (x : Ia) : (Int × Int) ⊕ Unit := cond (Ol s x && !decide (x.2.1 ≥ keys)) (.inl (x.1, Bh .i64 s.2 (Kd .i64 1 x.2.1))) (.inr ())
theorem GF (keys : Int) : ∀ (l : List Ia) (k : Nat) (s : Int × Int), Fu (Cc (fun _ s x => Eo keys s x) k s l) = (Jd (fun _ (x : Ia) => !decide (x.2.1 ≥ keys)) k l && Fu (Cc (fun _ s x => Ut s x) k s l))
 | [], _, _ => rfl
 | x :: l, k, s => by
  simp only [Cc, Jd, Eo, Ut]
  cases Ol s x with
  | false => simp [Fu]
  | true =>
   cases decide (x.2.1 ≥ keys) with
   | true => simp [Fu]
   | false => simp only [jk, j9, cond_true]; exact GF keys l (k + 1) _
theorem KB (q : List Ia) (d keys : Int) (hn : q.length ≤ Ga) : En q d keys 0 = some (Fd q d keys, ()) := by
 have h20 : Ga = 1048576 := rfl
 have hl := Jj (step := fun x => Zl x.1.1 x.1.2.1 x.1.2.2.1 x.1.2.2.2.1 x.1.2.2.2.2.1) q (fun _ s x => Eo keys s x) (fun s i => ((q, s.2, keys, s.1, i, ()), ()))
  (fun s => .inl ((q, ()), ())) (fun _ => .inr ((false, ()), ())) (fun _ _ => True) (by
   intro k hk s _
   refine ⟨?_, fun _ _ => trivial⟩
   simp only [Zl]
   rw [Ba (show (k : Int) < ((ja q : Nat) : Int) by omega), Zb hk]
   simp only [cond_true, jb, XE, Eo, Ol]
   generalize q[k] = x
   cases hev : Qg x with
   | false => rfl
   | true =>
    have hkey := Wk hev
    simp only [jg, cond_false, jk, Kk]
    rw [Ba hkey.2.2.1]
    simp only [gt_iff_lt]
    cases decide (x.2.1 ≥ keys) <;> cases decide (x.1 < s.1) <;> cases (x.2.2.1 == (Yf .i64 (Ci .i64 s.2 x.2.1) 1 == 1)) <;> rfl)
  (by
   intro s _
   simp only [Zl]
   rw [Ca (by omega)]; rfl) (by omega) (0, d) trivial
 unfold En Yn
 erw [hl]
 have hsp := GF keys q 0 (0, d)
 simp only [jb, Fd, OJ, Vx, JW]
 by_cases h64 : q.length ≤ 64
 ·rw [Ba h64]
  cases h1 : Cc (fun _ s x => Eo keys s x) 0 (0, d) q with
  | inl s =>
   rw [h1] at hsp
   simp only [Fu] at hsp
   cases h2 : Cc (fun _ s x => Ut s x) 0 (0, d) q with
   | inl s2 =>
    rw [h2] at hsp
    simp only [Fu, Bool.and_true] at hsp
    rw [← hsp]
    simp only [qj]
    rw [Ba (show ((ja q : Nat) : Int) ≤ 64 by omega)]; rfl
   | inr u => rw [h2] at hsp; simp [Fu] at hsp
  | inr u =>
   rw [h1] at hsp
   simp only [Fu] at hsp
   cases h2 : Cc (fun _ s x => Ut s x) 0 (0, d) q with
   | inl s2 =>
    rw [h2] at hsp
    simp only [Fu, Bool.and_true] at hsp
    rw [← hsp]; rfl
   | inr u => cases Jd (fun _ (x : Ia) => !decide (x.2.1 ≥ keys)) 0 q <;> rfl
 ·rw [Ca h64]
  cases h1 : Cc (fun _ s x => Eo keys s x) 0 (0, d) q with
  | inl s => simp only [qj]; rw [Ca (show ¬ ((ja q : Nat) : Int) ≤ 64 by omega)]; cases Jd (fun _ (x : Ia) => !decide (x.2.1 ≥ keys)) 0 q <;> rfl
  | inr u => cases Jd (fun _ (x : Ia) => !decide (x.2.1 ≥ keys)) 0 q <;> rfl
def Pe (t : Sx) : Bool := decide (1 ≤ t.1 ∧ t.1 ≤ 1000) && (decide (0 ≤ t.2.1 ∧ t.2.1 ≤ 1000) && decide (0 ≤ t.2.2.1 ∧ t.2.2.1 ≤ 2))
theorem XB (t : Sx) : Pr t = some (Pe t, ()) := by
 unfold Pr Pe
 simp only [Ji, Ki]
 apply Kc
 simp only [Wc, decide_eq_true_eq, jq, and_false, or_false, jd]
 omega
theorem BC (t : Sx) : Ur t = some (Pe t, ()) := by
 unfold Ur Pe
 simp only [Be, jb, Ji, Ki]
 apply Kc
 simp only [Wc, decide_eq_true_eq, jq, and_false, or_false, jd]
theorem Oy (e : Va) (hn : e.2.2.2.1.length ≤ Ga) (hx : ∀ x ∈ e.2.2.2.1, Wo x) : Vp e = some (Ym e.2.2.2.1, ()) := by
 have h20 : Ga = 1048576 := rfl
 have hl := (Ae (step := fun x => Cr x.1.1 x.1.2.1 x.1.2.2.1 x.2.1) e.2.2.2.1 (fun _ s (x : Ja) => Nd .i64 s (Kd .i64 1 x.1)) (fun s i => (((), s, i, ()), (e, ())))
  (fun s => .inl ((s, ()), ())) (fun _ _ => True) (by
   intro k hk s _
   refine ⟨?_, trivial⟩
   simp only [Cr]
   rw [Ba (show (k : Int) < ((ja e.2.2.2.1 : Nat) : Int) by omega), Zb hk]
   have hk' := hx _ (qp hk)
   simp only [cond_true, jb, Yr, Be]
   rw [Ba (show 0 ≤ e.2.2.2.1[k].1 ∧ e.2.2.2.1[k].1 ≤ 31 from ⟨hk'.lo, hk'.hi⟩), Ba hk'.lo]; rfl)
  (by
   intro s _
   simp only [Cr]
   rw [Ca (by omega)]; rfl) (by omega) 0 trivial).1
 unfold Vp Is
 erw [hl]
 rfl
def OA (l : List Ia) : Int := (l.getD (l.length - 1) (0, 0, false, ())).1
def Zf (l : List Ia) (t : Int) : Bool := ((l.length : Int) == 0) || decide (OA l ≤ t)
theorem FH {l : List Ia} (h : 0 < l.length) (hn : l.length ≤ Ga) : ∃ x, Wb l (j5 .i64 (((ja l : Nat) : Int) - 1)) = some x ∧ x.1 = OA l := by
 have h20 : Ga = 1048576 := rfl
 refine ⟨l[l.length - 1], ?_, ?_⟩
 ·rw [Hc (by omega) (by omega), show ((ja l : Nat) : Int) - 1 = ((l.length - 1 : Nat) : Int) by omega, Zb (by omega)]
 ·simp [OA, List.getD, je (show l.length - 1 < l.length by omega)]
theorem YB (l : List Ia) (t : Int) (hn : l.length ≤ Ga) : Il l t = some (Zf l t, ()) := by
 unfold Il Zf
 by_cases h0 : l.length = 0
 ·simp [h0]
 ·obtain ⟨x, h1, h2⟩ := FH (l := l) (by omega) hn
  rw [h1, show (((l.length : Nat) : Int) == 0) = false by simp; intro h; rw [h] at h0; simp at h0]
  simp only [cond_false, jb, h2, Bool.false_or]
noncomputable def Md (d : Qa) : Bool :=
 Dh d.1 && (Pe d.2.1 && (decide (0 ≤ d.2.2.2.1 ∧ d.2.2.2.1 ≤ 1000000) && (decide (0 ≤ d.2.2.2.2.1 ∧ d.2.2.2.2.1 ≤ d.2.2.2.1) && (Fd d.2.2.1 (Ym d.1.2.2.2.1) d.1.1.1 && (Zf d.2.2.1 d.2.2.2.1 &&
  (decide (0 ≤ d.2.2.2.2.2.1 ∧ d.2.2.2.2.2.1 ≤ d.1.1.1) && decide (0 ≤ d.2.2.2.2.2.2.1 ∧ d.2.2.2.2.2.2.1 ≤ d.2.2.2.1)))))))
theorem CB (d : Qa) : Xb Dc d = Xb Ub d.1 + Xb (.sl Xi) d.2.2.1 := by
 simp only [Xb, Nat.add_zero, js]
theorem Bv (l : List Ia) : Xb (.sl Xi) l = l.length := Rx (e := Xi) rfl l
theorem FA {e : Va} (h : Dh e = true) : Vd e.2.2.2.1 = true := by
 simp only [Dh, jd] at h
 exact h.2.2.1
theorem Tv (d : Qa) (hz : Xb Dc d ≤ Ga) : Gl d = some (Md d, ()) := by
 have hz' := hz
 rw [CB, Bv] at hz'
 have hz2 := hz'
 rw [Nl, Kl] at hz2
 unfold Gl Md
 rw [NN _ (by omega)]
 cases he : Dh d.1 with
 | false => rfl
 | true =>
  have hh := Yk (FA he)
  simp only [jb, jg, cond_false, jk, XB]
  cases Pe d.2.1 with
  | false => rfl
  | true =>
   rw [FD _ (by omega) hh]
   simp only [jb, jg, cond_false, jk]
   rw [ZB _ _ _ (by omega), YB _ _ (by omega)]
   simp only [jb]
   have key : ∀ a b c e f g h i j k : Bool, cond a (some (false, ())) (cond b (some (false, ())) (cond c (some (false, ())) (cond e (some (false, ())) (cond (!f) (some (false, ())) (cond (!g) (some (false, ())) (cond h (cond i (cond j (some (k, ())) (some (false, ()))) (some (false, ()))) (some (false, ())))))))) =
    some ((((!a && !b) && ((!c && !e) && (f && (g && ((h && i) && (j && k)))))), ()) : Bool × Unit) := by
    intro a b c e f g h i j k
    cases a <;> cases b <;> cases c <;> cases e <;> cases f <;> cases g <;> cases h <;> cases i <;> cases j <;> cases k <;> rfl
   erw [key]
   apply Kc
   simp only [jd, Bool.not_eq_true', decide_eq_true_eq, decide_eq_false_iff_not]
   constructor
   ·rintro ⟨⟨h1, h2⟩, ⟨h3, h4⟩, h5, h6, ⟨h7, h8⟩, h9, h10⟩
    exact ⟨⟨by omega, by omega⟩, ⟨by omega, by omega⟩, h5, h6, ⟨h7, h8⟩, h9, h10⟩
   ·rintro ⟨⟨h1, h2⟩, ⟨h3, h4⟩, h5, h6, ⟨h7, h8⟩, h9, h10⟩
    exact ⟨⟨by omega, by omega⟩, ⟨by omega, by omega⟩, h5, h6, ⟨h7, h8⟩, h9, h10⟩
theorem AC (d : Qa) (hz : Xb Dc d ≤ Ga) : Sp d = some (Md d, ()) := by
 have hz' := hz
 rw [CB, Bv] at hz'
 have hz2 := hz'
 rw [Nl, Kl] at hz2
 unfold Sp Md
 rw [Yq _ (by omega)]
 cases he : Dh d.1 with
 | false => rfl
 | true =>
  have hh := Yk (FA he)
  simp only [jb, jg, cond_false, jk, BC, Be]
  cases Pe d.2.1 with
  | false => rfl
  | true =>
   rw [Oy _ (by omega) hh]
   simp only [jb, jg, cond_false, jk]
   rw [KB _ _ _ (by omega)]
   simp only [jb, Zf]
   by_cases h0 : d.2.2.1.length = 0
   ·rw [Ca (show ¬ ((ja d.2.2.1 : Nat) : Int) > 0 by omega), show (((d.2.2.1.length : Nat) : Int) == 0) = true by simp [h0]]
    simp only [cond_false, Bool.true_or, jk]
    cases decide (0 ≤ d.2.2.2.1 ∧ d.2.2.2.1 ≤ 1000000) <;> cases decide (0 ≤ d.2.2.2.2.1 ∧ d.2.2.2.2.1 ≤ d.2.2.2.1) <;> cases Fd d.2.2.1 (Ym d.1.2.2.2.1) d.1.1.1 <;> cases decide (0 ≤ d.2.2.2.2.2.1 ∧ d.2.2.2.2.2.1 ≤ d.1.1.1) <;> rfl
   ·obtain ⟨x, h1, h2⟩ := FH (l := d.2.2.1) (by omega) (by omega)
    rw [Ba (show ((ja d.2.2.1 : Nat) : Int) > 0 by omega), h1, show (((d.2.2.1.length : Nat) : Int) == 0) = false by simp; intro h; rw [h] at h0; simp at h0]
    simp only [cond_true, jb, Bool.false_or, h2]
    have e1 : decide (OA d.2.2.1 > d.2.2.2.1) = !decide (OA d.2.2.1 ≤ d.2.2.2.1) := by
     rw [qu]; simp only [decide_eq_true_eq, Bool.not_eq_true', decide_eq_false_iff_not]; omega
    rw [e1]
    cases decide (0 ≤ d.2.2.2.1 ∧ d.2.2.2.1 ≤ 1000000) <;> cases decide (0 ≤ d.2.2.2.2.1 ∧ d.2.2.2.2.1 ≤ d.2.2.2.1) <;> cases Fd d.2.2.1 (Ym d.1.2.2.2.1) d.1.1.1 <;> cases decide (OA d.2.2.1 ≤ d.2.2.2.1) <;> cases decide (0 ≤ d.2.2.2.2.2.1 ∧ d.2.2.2.2.2.1 ≤ d.1.1.1) <;> rfl

def WR {S : Type} (g : Nat → S → S) : Nat → S → S
 | 0, s => s
 | n + 1, s => g n (WR g n s)
theorem XH {e : Ty} {c : Nat} : ∀ {w : List (T e)}, (∀ x ∈ w, Xb e x ≤ c) → Xb (.sl e) w ≤ (c + 1) * w.length
 | [], _ => by simp [Xb]
 | x :: r, h => by
  have h1 := h x (by simp)
  have h2 : Xb (.sl e) r ≤ (c + 1) * r.length := XH fun y hy => h y (by simp [hy])
  have h3 : Xb (.sl e) r = ja r + (List.map (Xb e) r).sum := rfl
  have h4 : Xb (.sl e) (x :: r) = (ja r + 1) + (Xb e x + (List.map (Xb e) r).sum) := by simp [Xb]
  rw [h4, jw, Nat.mul_add]
  omega
theorem Le {n : Nat} (h : n ≤ 1073741824) : jx n Ya = true := ji h
theorem VP {α β : Type} (f : α → β) : ∀ (xs : List α) (k : Nat) (o : List β), Gc (fun _ o x => jf o [f x]) k o xs = o ++ xs.map f
 | [], _, o => by simp [Gc]
 | x :: r, k, o => by
  simp only [Gc]
  rw [VP f r]
  simp
theorem Hu {X R α β : Type} {step : X → Option (X ⊕ R)} (xs : List α) (f : α → β) (I : List β → Int → X) (out : List β → R) (hn : xs.length ≤ 1073741824)
 (h : ∀ k (hk : k < xs.length) (o : List β), ja o = k → step (I o (k : Int)) = some (.inl (I (jf o [f xs[k]]) (j5 .i64 ((k : Int) + 1)))))
 (he : ∀ o : List β, step (I o (xs.length : Int)) = some (.inr (out o))) : Mb step (I [] 0) = some (out (xs.map f)) := by
 have := (Ae (step := step) xs (fun _ o x => jf o [f x]) I out (fun k o => ja o = k) (fun k hk o ho => ⟨h k hk o ho, by simp [ho]⟩) (fun o _ => he o) (by omega) [] rfl).1
 rw [this, VP]
 rfl
theorem Bam (a : List Int) : Xb (.sl int) a = a.length := Rx (e := int) rfl a
theorem ZQ (a : List La) : Xb (.sl Lc) a = a.length := Rx (e := Lc) rfl a
theorem HY (r : Aa) : Xb Hb r = r.2.1.length := by
 show 0 + (Xb (.sl int) r.2.1 + 0) = _
 rw [Bam]; omega
theorem LS (r : Aa) (h : r.2.1.length ≤ Ga) : XA r = some (r, ()) := by
 have h20 : Ga = 1048576 := rfl
 unfold XA
 rw [Le (by simp; omega)]
 rfl
theorem Jx (l : List Int) (h : l.length ≤ Ga) : Gm l = some (l, ()) := by
 have h20 : Ga = 1048576 := rfl
 unfold Gm
 rw [Le (by simp; omega)]
 rfl
theorem LJ (r : Aa) (h : r.2.1.length ≤ Ga) : Ys r = some (r, ()) := by
 unfold Ys
 rw [Jx _ h]
 rfl
theorem Uac {a : List Rd} (hz : Xb (.sl Pg) a ≤ Ga) {k : Nat} (hk : k < a.length) : a[k].2.1.2.1.length ≤ Ga := by
 have h1 : Xb (.sl Pg) a = ja a + (List.map (Xb Pg) a).sum := rfl
 have h2 := Lv (f := Xb Pg) hk
 have h3 : Xb Pg a[k] = Xb Hb a[k].2.1 := by
  show 0 + (Xb Hb a[k].2.1 + 0) = _
  omega
 rw [HY] at h3
 omega
theorem QL (a : List Rd) (hz : Xb (.sl Pg) a ≤ Ga) : Gp a = some (a.map (fun x => x.2.1), ()) := by
 have h20 : Ga = 1048576 := rfl
 have h1 : Xb (.sl Pg) a = ja a + (List.map (Xb Pg) a).sum := rfl
 have hl := Hu (step := fun x : (List Aa × List Rd × Int × Int × Unit) × Unit => Sm x.1.1 x.1.2.1 x.1.2.2.1 x.1.2.2.2.1) a (fun x => x.2.1)
  (fun o k => ((o, a, (a.length : Int), k, ()), ())) (fun o => .inl ((o, ()), ())) (by omega) (fun k hk o ho => by
   simp only [Sm]
   rw [Ba (by omega), Zb hk]
   simp only [cond_true, jb]
   rw [LJ _ (Uac hz hk)]
   simp only [jb]
   rw [Le (by simp only [jw, j7]; omega)]
   rfl) (fun o => by
   simp only [Sm]
   rw [Ca (by omega)]
   rfl)
 unfold Gp Hp
 erw [hl]
 rfl
def CG (l : List Int) (k : Nat) (x : Int) : Bool := decide (1 ≤ x ∧ x ≤ 56) && (decide (k = 0) || !decide (l.getD (k - 1) 0 ≥ x))
def Hg (r : Aa) : Bool := decide (0 ≤ r.1 ∧ r.1 ≤ 15) && Jd (fun k x => CG r.2.1 k x) 0 r.2.1
theorem Lac {l : List Int} {k : Nat} (h0 : 0 < k) (hk : k ≤ l.length) (hn : l.length ≤ Ga) : Wb l (j5 .i64 ((k : Int) - 1)) = some (l.getD (k - 1) 0) := by
 have h20 : Ga = 1048576 := rfl
 rw [Hc (by omega) (by omega), show (k : Int) - 1 = ((k - 1 : Nat) : Int) by omega, Zb (by omega)]
 simp [List.getD, je (show k - 1 < l.length by omega)]
theorem Hx (r : Aa) (hn : r.2.1.length ≤ Ga) : Em r = some (Hg r, ()) := by
 have h20 : Ga = 1048576 := rfl
 have hl := Eh (step := fun x => Io x.1.1 x.1.2.1 x.1.2.2.1 x.1.2.2.2.1 x.2.1) r.2.1 (fun k x => CG r.2.1 k x) (fun i => (((), r.2.1, ((ja r.2.1 : Nat) : Int), i, ()), (r, ())))
  (.inl ((), ())) (.inr ((false, ()), ())) (by
   intro k hk
   simp only [Io]
   rw [Ba (show (k : Int) < ((ja r.2.1 : Nat) : Int) by omega), Zb hk]
   simp only [cond_true, jb, Aj, CG]
   by_cases h0 : k = 0
   ·subst h0
    rw [Ca (show ¬ ((0 : Nat) : Int) > 0 by omega)]
    simp only [cond_false]
    cases decide (1 ≤ r.2.1[0] ∧ r.2.1[0] ≤ 56) <;> rfl
   ·rw [Ba (show (k : Int) > 0 by omega), Lac (by omega) (by omega) hn, Ca h0]
    simp only [cond_true, jb, Bool.false_or]
    cases decide (1 ≤ r.2.1[k] ∧ r.2.1[k] ≤ 56) <;> cases decide (r.2.1.getD (k - 1) 0 ≥ r.2.1[k]) <;> rfl) (by
   simp only [Io]
   rw [Ca (by omega)]; rfl) (by omega)
 unfold Em Mq Hg
 by_cases h1 : 0 ≤ r.1 ∧ r.1 ≤ 15
 ·rw [Ca (show ¬ r.1 < 0 by omega), Ca (show ¬ r.1 > 15 by omega), Ba h1]
  simp only [cond_false, jk]
  erw [hl]
  cases Jd (fun k x => CG r.2.1 k x) 0 r.2.1 <;> rfl
 ·rw [Ca h1]
  by_cases h2 : r.1 < 0
  ·rw [Ba h2]; rfl
  ·rw [Ca h2, Ba (show r.1 > 15 by omega)]; rfl
theorem p63 : (2 : Nat) ^ 63 = 9223372036854775808 := rfl
theorem QF {a : Nat} (ha : a < 2 ^ 63) : (BitVec.ofInt 64 (a : Int)).toNat = a := by
 rw [BitVec.ofInt_natCast, BitVec.toNat_ofNat, Nat.mod_eq_of_lt (by omega)]
theorem Kab {a b : Nat} (ha : a < 2 ^ 63) (hb : b < 2 ^ 63) : Yf .i64 (a : Int) (b : Int) = ((a &&& b : Nat) : Int) := by
 have h : (BitVec.ofInt (IntKind.bits .i64) (a : Int) &&& BitVec.ofInt (IntKind.bits .i64) (b : Int)).toNat = a &&& b := by
  rw [BitVec.toNat_and]; erw [QF ha, QF hb]
 unfold Yf
 rw [h]
 have h2 : a &&& b ≤ a := Nat.and_le_left
 have h3 := p63
 exact Hc (by omega) (by omega)
theorem NZ {a b : Nat} (ha : a < 2 ^ 63) (hb : b < 2 ^ 63) : Nd .i64 (a : Int) (b : Int) = ((a ||| b : Nat) : Int) := by
 have h : (BitVec.ofInt (IntKind.bits .i64) (a : Int) ||| BitVec.ofInt (IntKind.bits .i64) (b : Int)).toNat = a ||| b := by
  rw [BitVec.toNat_or]; erw [QF ha, QF hb]
 unfold Nd
 rw [h]
 have h2 : a ||| b < 2 ^ 63 := Nat.or_lt_two_pow ha hb
 have h3 := p63
 exact Hc (by omega) (by omega)
theorem IH {a b : Nat} (ha : a < 2 ^ 63) (hb : b < 2 ^ 63) : Bh .i64 (a : Int) (b : Int) = ((a ^^^ b : Nat) : Int) := by
 have h : (BitVec.ofInt (IntKind.bits .i64) (a : Int) ^^^ BitVec.ofInt (IntKind.bits .i64) (b : Int)).toNat = a ^^^ b := by
  rw [BitVec.toNat_xor]; erw [QF ha, QF hb]
 unfold Bh
 rw [h]
 have h2 : a ^^^ b < 2 ^ 63 := qo ha hb
 have h3 := p63
 exact Hc (by omega) (by omega)
theorem Oab (a : Nat) {k : Nat} (hk : k ≤ 64) : Ci .i64 (a : Int) (k : Int) = ((a >>> k : Nat) : Int) := by
 unfold Ci
 have h1 : min (jy (k : Int)) (IntKind.bits .i64) = k := by
  show min (jy (k : Int)) 64 = k
  rw [jn]; omega
 rw [h1, Nat.shiftRight_eq_div_pow]
 have h2 : (2 : Int) ^ k = ((2 ^ k : Nat) : Int) := by simp
 rw [h2]
 exact (Int.fdiv_eq_ediv_of_nonneg _ (Int.natCast_nonneg _)).trans (by simp)
theorem Dz {a k : Nat} (ha : a < 2 ^ 63) (hk : k ≤ 64) : (Kk (a : Int) (k : Int) == 1) = a.testBit k := by
 unfold Kk
 have h1 : a >>> k ≤ a := by rw [Nat.shiftRight_eq_div_pow]; exact Nat.div_le_self _ _
 have h3 := p63
 rw [Oab a hk]
 show (Yf .i64 ((a >>> k : Nat) : Int) ((1 : Nat) : Int) == 1) = _
 rw [Kab (by omega) (by omega), Nat.and_one_is_mod, Nat.testBit_eq_decide_div_mod_eq, Nat.shiftRight_eq_div_pow]
 have : a / 2 ^ k % 2 = 0 ∨ a / 2 ^ k % 2 = 1 := by omega
 rcases this with h | h <;> rw [h] <;> rfl
theorem Ju {k : Nat} (hk : k ≤ 62) : (2 : Nat) ^ k < 2 ^ 63 := Nat.pow_lt_pow_right (by omega) (by omega)
def cnt : Nat → Nat → Nat
 | 0, _ => 0
 | k + 1, n => n % 2 + cnt k (n / 2)
def u1 (a : Nat) : Nat := ((a / 2) &&& 85) + (a &&& 85)
def u2 (a : Nat) : Nat := ((a / 4) &&& 51) + (a &&& 51)
theorem m3 : ∀ a : Fin 64, ∀ c : Fin 4, (a.val &&& 51) = (a.val + 64 * c.val) &&& 51 := by decide +kernel
def M5 : Nat := 6148914691236517205
def M3 : Nat := 3689348814741910323
def MF : Nat := 1085102592571150095
def s1 (n : Nat) : Nat := (n / 2 &&& M5) + (n &&& M5)
def s2 (n : Nat) : Nat := (n / 4 &&& M3) + (n &&& M3)
def s3 (n : Nat) : Nat := (n / 16 + n) &&& MF
def NJ (m : PK) : Bool := decide (1 ≤ m.1 ∧ m.1 ≤ 4 ∧ 1 ≤ m.2.1 ∧ m.2.1 ≤ 6)
def LE (m : PK) : Int := cond (NJ m) (m.1 * m.2.1) 0
def PC (k x : Int) : Bool := decide (0 ≤ x ∧ x < ((2 ^ k.toNat : Nat) : Int))
def FL (m : PK) (x : Int) : Bool := NJ m && PC (LE m) x
def Xap (l : List Int) : Bool := Jd (fun _ x => decide ((0 : Int) ≤ x ∧ x ≤ 99)) 0 l
def MJ (d : CC) : Bool :=
 decide (0 ≤ d.1 ∧ d.1 ≤ 2) && (decide (1 ≤ d.2.1 ∧ d.2.1 ≤ 20) && (decide (1 ≤ d.2.2.1 ∧ d.2.2.1 ≤ 24) && ((((ja d.2.2.2.2.2.1 : Nat) : Int) == d.2.2.1) && (PC d.2.2.1 d.2.2.2.1 && (PC d.2.2.1 d.2.2.2.2.1 && Xap d.2.2.2.2.2.1)))))
def Waa (L : List Jb) (i : Nat) (x : Jb) : Bool :=
 decide (0 ≤ x.1 ∧ x.1 ≤ 16777215) && (decide (24 ≤ x.2.1 ∧ x.2.1 ≤ 31) && (decide (2 ≤ ((cnt 32 x.1.toNat : Nat) : Int) ∧ ((cnt 32 x.1.toNat : Nat) : Int) ≤ 4) && Jd (fun _ (y : Jb) => !(y.1 == x.1) && !(y.2.1 == x.2.1)) 0 (L.take i)))
def DZ (L : List Jb) : Bool := decide (L.length ≤ 8) && Jd (fun i x => Waa L i x) 0 L
def rowN (C m r : Nat) : Nat := (m >>> (r * C)) &&& (2 ^ C - 1)
def Oas (C a b m : Nat) : Nat := cond (rowN C m a &&& rowN C m b != 0) (m ||| rowN C m b <<< (a * C)) m
def g3 (C a : Nat) : Nat → Nat → Nat := fun b m => Oas C a b m
def g2 (C R : Nat) : Nat → Nat → Nat := fun a m => WR (g3 C a) R m
def g1 (C R : Nat) : Nat → Nat → Nat := fun _ m => WR (g2 C R) R m
structure Dim (C R : Nat) : Prop where
 c1 : 1 ≤ C
 c2 : C ≤ 6
 r1 : 1 ≤ R
 r2 : R ≤ 4

structure Ng (c : Ta) : Prop where
 lo : 0 ≤ c.2.1
 hi : c.2.1 ≤ (c.1.length : Int)
 len : c.1.length ≤ Ga
theorem W5 (z : Int) : 0 ≤ Yf .i64 z 255 ∧ Yf .i64 z 255 ≤ 255 := by
 have h : (BitVec.ofInt 64 z &&& BitVec.ofInt 64 255).toNat ≤ 255 := by
  rw [BitVec.toNat_and]
  exact Nat.and_le_right
 show 0 ≤ j5 .i64 ((BitVec.ofInt 64 z &&& BitVec.ofInt 64 255).toNat : Int) ∧ j5 .i64 ((BitVec.ofInt 64 z &&& BitVec.ofInt 64 255).toNat : Int) ≤ 255
 rw [Hc (by omega) (by omega)]
 omega
theorem ZK {c : Ta} (h : Ng c) : ∃ (c' : Ta) (x : Int), Al c = some (c', (x, ())) ∧ Ng c' ∧ 0 ≤ x ∧ x ≤ 255 := by
 have h20 : Ga = 1048576 := rfl
 have h1 := h.lo
 have h2 := h.len
 unfold Al
 by_cases hi : c.2.1 < ((ja c.1 : Nat) : Int)
 ·obtain ⟨k, hk⟩ := jv h1
  rw [Ba hi, hk, Zb (show k < c.1.length by omega)]
  refine ⟨_, _, rfl, ⟨?_, ?_, h2⟩, W5 _⟩
  ·show 0 ≤ j5 .i64 ((k : Int) + 1)
   rw [Ze (by omega)]; omega
  ·show j5 .i64 ((k : Int) + 1) ≤ _
   rw [Ze (by omega)]; show _ ≤ ((ja c.1 : Nat) : Int); omega
 ·rw [Ca hi]
  exact ⟨_, _, rfl, ⟨h1, h.hi, h2⟩, W5 _⟩
theorem Kg {c : Ta} (h : Ng c) (n : Int) (hn : 0 < n) : ∃ (c' : Ta) (x : Int), Bb c n = some (c', (x, ())) ∧ Ng c' ∧ 0 ≤ x ∧ x < n := by
 obtain ⟨c1, x1, e1, h1, b1⟩ := ZK h
 unfold Bb
 rw [Ca (show ¬ n ≤ 0 by omega), e1, show (n == 0) = false by simp; omega]
 simp only [cond_false, jb]
 by_cases h256 : n ≤ 256
 ·rw [Ba h256]
  exact ⟨_, _, rfl, h1, Int.tmod_nonneg _ (by omega), Int.tmod_lt_of_pos _ hn⟩
 ·obtain ⟨c2, x2, e2, h2, b2⟩ := ZK h1
  obtain ⟨c3, x3, e3, h3, b3⟩ := ZK h2
  obtain ⟨c4, x4, e4, h4, b4⟩ := ZK h3
  rw [Ca h256, e2]
  simp only [cond_false, jb]
  rw [e3]
  simp only [jb]
  rw [e4]
  simp only [jb]
  rw [Hc (n := x1 * 16777216) (by omega) (by omega), Hc (n := x2 * 65536) (by omega) (by omega), Hc (n := x3 * 256) (by omega) (by omega), Hc (n := x1 * 16777216 + x2 * 65536) (by omega) (by omega), Hc (n := x1 * 16777216 + x2 * 65536 + x3 * 256) (by omega) (by omega), Hc (n := x1 * 16777216 + x2 * 65536 + x3 * 256 + x4) (by omega) (by omega)]
  exact ⟨_, _, rfl, h4, Int.tmod_nonneg _ (by omega), Int.tmod_lt_of_pos _ hn⟩
theorem IL {c : Ta} (h : Ng c) (n : Int) (hn : 0 < n) : ∃ (c' : Ta) (b : Bool), Bl c n = some (c', (b, ())) ∧ Ng c' := by
 obtain ⟨c1, x1, e1, h1, b1⟩ := Kg h n hn
 unfold Bl
 rw [e1]
 exact ⟨_, _, rfl, h1⟩
theorem KL {c : Ta} (h : Ng c) (l : List Int) (hl : 0 < l.length) (h2 : l.length ≤ 1000) : ∃ (c' : Ta) (x : Int), Fj c l = some (c', (x, ())) ∧ Ng c' ∧ x ∈ l := by
 obtain ⟨c1, x1, e1, h1, b1⟩ := Kg h ((ja l : Nat) : Int) (by omega)
 unfold Fj
 rw [e1]
 obtain ⟨k, rfl⟩ := jv b1.1
 have hk : k < l.length := by omega
 simp only [jb]
 rw [Im, Ba hk, jn, je hk]
 exact ⟨_, _, rfl, h1, qp hk⟩
theorem Pal (a : List Int) (hn : a.length ≤ Ga) : ∃ h : Int, MC a = some (a, (0, (h, ()))) := by
 have h20 : Ga = 1048576 := rfl
 have := Cq (s := fun x : (List Int × (Int × (Int × Unit))) × Unit => Uz x.1.1 x.1.2.1 x.1.2.2.1) (fun n x => ∃ (h : Int) (k : Nat), x = ((a, h, (k : Int), ()), ()) ∧ n + k = a.length) (fun r => ∃ h : Int, r = .inl ((a, h, ()), ())) (by
  rintro n x ⟨h, k, rfl, hk⟩
  simp only [Uz]
  by_cases h1 : (k : Int) < ((ja a : Nat) : Int)
  ·rw [Ba h1]
   by_cases h2 : (k : Int) < 4000
   ·rw [Ba h2, Zb (show k < a.length by omega), Ze (by omega)]
    exact .inr ⟨_, n - 1, by omega, rfl, _, k + 1, rfl, by omega⟩
   ·rw [Ca h2]; exact .inl ⟨_, rfl, _, rfl⟩
  ·rw [Ca h1]; exact .inl ⟨_, rfl, _, rfl⟩) a.length ((a, j5 .i64 (10729 + ((ja a : Nat) : Int)), ((0 : Nat) : Int), ()), ()) ⟨_, 0, rfl, rfl⟩
 obtain ⟨r, h1, h, rfl⟩ := this
 refine ⟨h, ?_⟩
 unfold MC Cw
 erw [h1]
 rfl
theorem Zab (a : List Int) (n : Int) (hn : a.length ≤ Ga) : ∃ c : Ta, TA a n = some c ∧ Ng c := by
 obtain ⟨h, e⟩ := Pal a hn
 unfold TA
 rw [e]
 exact ⟨_, rfl, ⟨Int.le_refl _, by show (0 : Int) ≤ _; omega, hn⟩⟩
def RC (n : Int) (a : La) : Prop := Ac a = true ∧ a.1 ≠ 1 ∧ (a.1 = 9 ∨ a.2.2.2.1 < n)
theorem Kr {n k c m x : Int} (h : Ob k c m x) (h1 : k ≠ 1) (h2 : k = 9 ∨ x < n) : RC n (k, c, m, x, ()) := ⟨(Ib _).2 h, h1, h2⟩
def Ao (n : Int) (o : Option (Ta × (La × Unit))) : Prop := ∃ (c : Ta) (a : La), o = some (c, (a, ())) ∧ Ng c ∧ RC n a
theorem Uw {n : Int} {c : Ta} {a : La} (h : Ng c) (ha : RC n a) : Ao n (some (c, (a, ()))) := ⟨c, a, rfl, h, ha⟩
theorem Bp {n : Int} {b : Bool} {x y : Option (Ta × (La × Unit))} (h1 : Ao n x) (h2 : Ao n y) : Ao n (cond b x y) := by cases b <;> assumption
theorem Iab {n : Int} {p : Prop} [Decidable p] {x y : Option (Ta × (La × Unit))} (h1 : p → Ao n x) (h2 : Ao n y) : Ao n (cond (decide p) x y) := by
 by_cases h : p
 ·rw [Ba h]; exact h1 h
 ·rw [Ca h]; exact h2
theorem Mz {n m : Int} {c : Ta} (hc : Ng c) (hm : 0 < m) {f : (Ta × (Int × Unit)) → Option (Ta × (La × Unit))}
 (h : ∀ (c' : Ta) (x : Int), Ng c' → 0 ≤ x → x < m → Ao n (f (c', (x, ())))) : Ao n (jz (Bb c m) f) := by
 obtain ⟨c1, x1, e1, h1, b1⟩ := Kg hc m hm
 rw [e1]
 exact h c1 x1 h1 b1.1 b1.2
theorem Zaf {n m : Int} {c : Ta} (hc : Ng c) (hm : 0 < m) {f : (Ta × (Bool × Unit)) → Option (Ta × (La × Unit))}
 (h : ∀ (c' : Ta) (x : Bool), Ng c' → Ao n (f (c', (x, ())))) : Ao n (jz (Bl c m) f) := by
 obtain ⟨c1, x1, e1, h1⟩ := IL hc m hm
 rw [e1]
 exact h c1 x1 h1
theorem Qas {c : Ta} {n x : Int} {a0 a1 a2 : La} (hc : Ng c) (h0 : 0 ≤ x) (h3 : x < 3) (g0 : RC n a0) (g1 : RC n a1) (g2 : RC n a2) :
 Ao n (cond (Lh (ja [a0, a1, a2]) x) (jz [a0, a1, a2][(jy x)]? fun y => some (c, (y, ()))) none) := by
 have : x = 0 ∨ x = 1 ∨ x = 2 := by omega
 rcases this with rfl | rfl | rfl
 ·exact Uw hc g0
 ·exact Uw hc g1
 ·exact Uw hc g2
theorem I7 {c : Ta} (h : Ng c) (n : Int) (hn : 1 ≤ n) (hn4 : n ≤ 4) : Ao n (UA c n) := by
 unfold UA
 rw [Hc (n := n - 1) (by omega) (by omega)]
 refine Mz h (by omega) fun c1 x1 h1 l1 u1 => ?_
 refine Mz h1 (by omega) fun c2 x2 h2 l2 u2 => ?_
 refine Zaf h2 (by omega) fun c3 x3 h3 => ?_
 simp only
 rw [Hc (n := 1 + x1) (by omega) (by omega), Hc (n := 1 + x2) (by omega) (by omega)]
 have tail : ∀ (md : Int), 1 ≤ md → md ≤ 15 → Ao n (jz (Bb c3 (max (1 : Int) (n - 1))) fun r4 =>
  (jz (Bb r4.1 (16 : Int)) fun r5 =>
  (cond (r5.2.1 == (0 : Int)) (some (r5.1, (((2 : Int), (1 + x1), md, (0 : Int), ()), ())))
  (cond (r5.2.1 == (1 : Int)) (some (r5.1, (((2 : Int), (0 : Int), md, (0 : Int), ()), ())))
  (cond (r5.2.1 == (2 : Int)) (some (r5.1, (((6 : Int), (1 + x1), md, (0 : Int), ()), ())))
  (cond (r5.2.1 == (3 : Int)) (some (r5.1, (((6 : Int), (1 + x1), md, (0 : Int), ()), ())))
  (cond (r5.2.1 == (4 : Int)) (some (r5.1, (((8 : Int), (0 : Int), md, (0 : Int), ()), ())))
  (cond (r5.2.1 == (5 : Int)) (jz (Bb r5.1 (4 : Int)) fun r6 => (some (r6.1, (((9 : Int), (0 : Int), (0 : Int), r6.2.1, ()), ()))))
  (cond (r5.2.1 == (6 : Int)) (some (r5.1, (((10 : Int), (0 : Int), (0 : Int), (0 : Int), ()), ())))
  (cond (r5.2.1 == (7 : Int)) (jz (Bb r5.1 (max (1 : Int) n)) fun r7 => (some (r7.1, (((5 : Int), (0 : Int), (0 : Int), r7.2.1, ()), ()))))
  (cond (r5.2.1 == (8 : Int)) (cond (decide (n > (1 : Int))) (jz (Bb r5.1 (3 : Int)) fun r8 => (cond (Lh (ja ([((3 : Int), (0 : Int), (0 : Int), (j4 .i64 ((1 : Int) + r4.2.1)), ()), ((4 : Int), (0 : Int), (0 : Int), (j4 .i64 ((1 : Int) + r4.2.1)), ()), ((7 : Int), (1 + x1), (0 : Int), (j4 .i64 ((1 : Int) + r4.2.1)), ())] : List La)) r8.2.1) (jz ([((3 : Int), (0 : Int), (0 : Int), (j4 .i64 ((1 : Int) + r4.2.1)), ()), ((4 : Int), (0 : Int), (0 : Int), (j4 .i64 ((1 : Int) + r4.2.1)), ()), ((7 : Int), (1 + x1), (0 : Int), (j4 .i64 ((1 : Int) + r4.2.1)), ())] : List La)[(jy r8.2.1)]? fun x9 => (some (r8.1, (x9, ())))) none)) (some (r5.1, (((2 : Int), (1 + x1), (0 : Int), (0 : Int), ()), ()))))
  (cond (r5.2.1 == (9 : Int)) (cond (decide (n > (1 : Int))) (jz (Bb r5.1 (3 : Int)) fun r8 => (cond (Lh (ja ([((3 : Int), (0 : Int), (0 : Int), (j4 .i64 ((1 : Int) + r4.2.1)), ()), ((4 : Int), (0 : Int), (0 : Int), (j4 .i64 ((1 : Int) + r4.2.1)), ()), ((7 : Int), (1 + x1), (0 : Int), (j4 .i64 ((1 : Int) + r4.2.1)), ())] : List La)) r8.2.1) (jz ([((3 : Int), (0 : Int), (0 : Int), (j4 .i64 ((1 : Int) + r4.2.1)), ()), ((4 : Int), (0 : Int), (0 : Int), (j4 .i64 ((1 : Int) + r4.2.1)), ()), ((7 : Int), (1 + x1), (0 : Int), (j4 .i64 ((1 : Int) + r4.2.1)), ())] : List La)[(jy r8.2.1)]? fun x9 => (some (r8.1, (x9, ())))) none)) (some (r5.1, (((2 : Int), (1 + x1), (0 : Int), (0 : Int), ()), ()))))
  (cond (r5.2.1 == (10 : Int)) (cond (decide (n > (1 : Int))) (jz (Bb r5.1 (3 : Int)) fun r8 => (cond (Lh (ja ([((3 : Int), (0 : Int), (0 : Int), (j4 .i64 ((1 : Int) + r4.2.1)), ()), ((4 : Int), (0 : Int), (0 : Int), (j4 .i64 ((1 : Int) + r4.2.1)), ()), ((7 : Int), (1 + x1), (0 : Int), (j4 .i64 ((1 : Int) + r4.2.1)), ())] : List La)) r8.2.1) (jz ([((3 : Int), (0 : Int), (0 : Int), (j4 .i64 ((1 : Int) + r4.2.1)), ()), ((4 : Int), (0 : Int), (0 : Int), (j4 .i64 ((1 : Int) + r4.2.1)), ()), ((7 : Int), (1 + x1), (0 : Int), (j4 .i64 ((1 : Int) + r4.2.1)), ())] : List La)[(jy r8.2.1)]? fun x9 => (some (r8.1, (x9, ())))) none)) (some (r5.1, (((2 : Int), (1 + x1), (0 : Int), (0 : Int), ()), ()))))
  (some (r5.1, (((2 : Int), (1 + x1), (0 : Int), (0 : Int), ()), ())))))))))))))))) := by
  intro md lm um
  refine Mz h3 (by omega) fun c4 x4 h4 l4 u4 => ?_
  refine Mz h4 (by omega) fun c5 x5 h5 l5 u5 => ?_
  simp only
  rw [Hc (n := 1 + x4) (by omega) (by omega)]
  have last : Ao n (some (c5, (((2 : Int), (1 + x1), (0 : Int), (0 : Int), ()), ()))) := Uw h5 (Kr (by unfold Ob; omega) (by omega) (by omega))
  have mid : Ao n (cond (decide (n > (1 : Int))) (jz (Bb c5 (3 : Int)) fun r8 => (cond (Lh (ja ([((3 : Int), (0 : Int), (0 : Int), (1 + x4), ()), ((4 : Int), (0 : Int), (0 : Int), (1 + x4), ()), ((7 : Int), (1 + x1), (0 : Int), (1 + x4), ())] : List La)) r8.2.1) (jz ([((3 : Int), (0 : Int), (0 : Int), (1 + x4), ()), ((4 : Int), (0 : Int), (0 : Int), (1 + x4), ()), ((7 : Int), (1 + x1), (0 : Int), (1 + x4), ())] : List La)[(jy r8.2.1)]? fun x9 => (some (r8.1, (x9, ())))) none)) (some (c5, (((2 : Int), (1 + x1), (0 : Int), (0 : Int), ()), ())))) := by
   refine Iab (fun hn1 => ?_) last
   have hx : 1 + x4 < n := by omega
   refine Mz h5 (by omega) fun c6 x6 h6 l6 u6 => ?_
   exact Qas h6 l6 u6 (Kr (by unfold Ob; omega) (by omega) (by omega)) (Kr (by unfold Ob; omega) (by omega) (by omega)) (Kr (by unfold Ob; omega) (by omega) (by omega))
  refine Bp (Uw h5 (Kr (by unfold Ob; omega) (by omega) (by omega))) ?_
  refine Bp (Uw h5 (Kr (by unfold Ob; omega) (by omega) (by omega))) ?_
  refine Bp (Uw h5 (Kr (by unfold Ob; omega) (by omega) (by omega))) ?_
  refine Bp (Uw h5 (Kr (by unfold Ob; omega) (by omega) (by omega))) ?_
  refine Bp (Uw h5 (Kr (by unfold Ob; omega) (by omega) (by omega))) ?_
  refine Bp (Mz h5 (by omega) fun c6 x6 h6 l6 u6 => by simp only; exact Uw h6 (Kr (by unfold Ob; omega) (by omega) (by omega))) ?_
  refine Bp (Uw h5 (Kr (by unfold Ob; omega) (by omega) (by omega))) ?_
  refine Bp (Mz h5 (by omega) fun c6 x6 h6 l6 u6 => by simp only; exact Uw h6 (Kr (by unfold Ob; omega) (by omega) (by omega))) ?_
  exact Bp mid (Bp mid (Bp mid last))
 cases x3 with
 | true => exact tail 2 (by omega) (by omega)
 | false => exact tail (1 + x2) (by omega) (by omega)
def Jam : Jb := (0, 0, ())
def M6 (L : List Jb) (o : Int) : Option Jb := L.find? (fun c => c.2.1 == o)
def okA (K : Int) (x : Ia) : Bool := !decide (x.2.1 ≤ 0) && (!(Ui .i64 x.2.1 K != 0) && !(x.2.2.1 != (x.2.1 == K)))
def Gaw (L : List Jb) (o : Int) : Int := ((M6 L o).getD Jam).1
def okF (L : List Jb) (x : Ia) : Bool := (M6 L x.1).isSome && okA (Gaw L x.1) x
def Qal (pre : List Ia) (x : Ia) : Bool := Jd (fun _ (y : Ia) => !(y.1 == x.1)) 0 pre
def V5 (L : List Jb) : List Ia → List Ia → Bool
 | _, [] => true
 | pre, x :: r => (okF L x && Qal pre x) && V5 L (pre ++ [x]) r
def Oaf (c : Om) : Bool := V5 c.1 [] c.2.2.2.2.2.2.1
def swG (s : Int) (x : Ia) : Int ⊕ Unit := cond (Yf .i64 s x.2.1 != 0) (.inr ()) (.inl (Nd .i64 s x.2.1))
def swB (c : Om) : Bool := Fu (Cc (fun _ s x => swG s x) 0 c.2.2.2.2.2.1 c.2.2.2.2.2.2.1)
def orK (k : Nat) (s : Int) (l : List Ia) : Int := Gc (fun _ s (x : Ia) => Nd .i64 s x.2.1) k s l
def Baf (c : Om) : Int := orK 0 c.2.2.2.2.2.1 c.2.2.2.2.2.2.1
def BM (c : Om) : Bool :=
 DZ c.1 && (decide (1 ≤ c.2.1 ∧ c.2.1 ≤ 200) && (decide (0 ≤ c.2.2.2.1 ∧ c.2.2.2.1 ≤ 1000000) && (decide (0 ≤ c.2.2.2.2.1 ∧ c.2.2.2.2.1 ≤ c.2.2.2.1) && ((decide (0 ≤ c.2.2.2.2.2.1 ∧ c.2.2.2.2.2.1 ≤ 16777215) && (Oaf c && swB c)) &&
  (Fd c.2.2.1 (Baf c) 24 && Zf c.2.2.1 c.2.2.2.1)))))
structure Z1 (c : Om) : Prop where
 a : c.1.length ≤ Ga
 q : c.2.2.1.length ≤ Ga
 e : c.2.2.2.2.2.2.1.length ≤ Ga
 r : ∀ x ∈ c.2.2.2.2.2.2.1, x.2.1 ≤ 9223372036854775807
def tgG (s : Int) (x : Ia) : Int := Bh .i64 s (Kd .i64 1 x.2.1)
def tgI (d : Int) (q : List Ia) : Int := Gc (fun _ s x => tgG s x) 0 d q
theorem IS {k : Int} (h : 0 ≤ k ∧ k ≤ 31) : Yr k = some (Kd .i64 1 k, ()) := by
 unfold Yr
 rw [Be, Ba h, Ba h.1]; rfl
theorem Gab {q : List Ia} {d keys : Int} (h : Fd q d keys = true) : Fu (Cc (fun _ s x => Ut s x) 0 (0, d) q) = true := by
 simp only [Fd, Vx, JW, jd] at h
 have h2 := h.2
 cases hf : Cc (fun _ s x => Ut s x) 0 (0, d) q with
 | inl s => rfl
 | inr u => rw [hf] at h2; cases hd : decide (q.length ≤ 64) <;> rw [hd] at h2 <;> simp at h2
structure Naz (x : Ia) : Prop where
 lo : 0 ≤ x.1
 hi : x.1 ≤ 31
 left : 0 ≤ x.2.1
def gvG (s : Int) (x : Ia) : Int := cond x.2.2.1 (Nd .i64 s (Kd .i64 1 x.1)) s
def gvI (c : Om) : Int := Gc (fun _ s x => gvG s x) 0 c.2.2.2.2.2.1 c.2.2.2.2.2.2.1
def Lab (m : PK) (keys : Int) (L : List Jb) : Bool := Jd (fun _ (x : Jb) => FL m x.1 && !decide (x.2.1 ≥ keys)) 0 L
noncomputable def Nab (b : OV) : Bool :=
 NJ b.1 && (MJ b.2.1 && (BM b.2.2.1 && (Md b.2.2.2.1 && ((b.2.1.2.2.1 == LE b.1) && (!decide (b.2.2.2.1.1.1.1 < LE b.1) && (FL b.1 b.2.2.2.2.1 &&
  (Lab b.1 b.2.2.2.1.1.1.1 b.2.2.1.1 && (decide (0 ≤ b.2.2.2.2.2.1 ∧ b.2.2.2.2.2.1 ≤ 1000000) && (!decide (b.2.2.1.2.2.2.1 > b.2.2.2.2.2.1) && (!decide (b.2.2.2.1.2.2.2.1 > b.2.2.2.2.2.1) &&
  ((tgI (Baf b.2.2.1) b.2.2.1.2.2.1 == b.2.1.2.2.2.1) && (tgI (Ym b.2.2.2.1.1.2.2.2.1) b.2.2.2.1.2.2.1 == gvI b.2.2.1))))))))))))
structure Way (b : OV) : Prop where
 d : b.2.1.2.2.2.2.2.1.length ≤ Ga
 c : Z1 b.2.2.1
 x : Xb Dc b.2.2.2.1 ≤ Ga
theorem ZW {m : Ab} (hz : Xb Qb m ≤ Ga) : ja m.2.1 ≤ Ga ∧ ∀ k (hk : k < m.2.1.length), m.2.1[k].length ≤ Ga := by
 have h0 : Xb Qb m = 0 + (Xb (.sl (.sl Lc)) m.2.1 + 0) := rfl
 have h1 : Xb (.sl (.sl Lc)) m.2.1 = ja m.2.1 + (List.map (Xb (.sl Lc)) m.2.1).sum := rfl
 refine ⟨by omega, fun k hk => ?_⟩
 have h2 := Lv (f := Xb (.sl Lc)) hk
 rw [ZQ] at h2
 omega
theorem JJ (m : Ab) (hz : Xb Qb m ≤ Ga) : Ws m = some (m, ()) := by
 have h20 : Ga = 1048576 := rfl
 obtain ⟨h1, h2⟩ := ZW hz
 have hl := Hu (step := fun x : (Unit × Unit × List (List La) × Int × Int × Unit) × Ab × Ab × Unit => Wl x.1.1 x.1.2.1 x.1.2.2.1 x.1.2.2.2.1 x.1.2.2.2.2.1 x.2.1 x.2.2.1) m.2.1 (fun x => x)
  (fun o k => (((), (), m.2.1, (m.2.1.length : Int), k, ()), ((0, [], ()), (m.1, o, ()), ()))) (fun o => .inl (((), (), ()), ((0, [], ()), (m.1, o, ()), ()))) (by omega) (fun k hk o ho => by
   have := h2 k hk
   simp only [Wl]
   rw [Ba (by omega), Zb hk]
   simp only [cond_true, jb]
   rw [Le (by simp; omega), Le (by simp only [jw, j7]; omega)]
   rfl) (fun o => by
   simp only [Wl]
   rw [Ca (by omega)]
   rfl)
 unfold Ws Qn
 erw [hl]
 rw [List.map_id']
 rfl
theorem KS (m : Ab) (hz : Xb Qb m ≤ Ga) : VA m = some (m, ()) := by
 have h20 : Ga = 1048576 := rfl
 obtain ⟨h1, h2⟩ := ZW hz
 have hl := Hu (step := fun x : (Unit × Unit × Unit × Int × Unit) × Ab × Ab × Ab × Unit => Jt x.1.1 x.1.2.1 x.1.2.2.1 x.1.2.2.2.1 x.2.1 x.2.2.1 x.2.2.2.1) m.2.1 (fun x => x)
  (fun o k => (((), (), (), k, ()), (m, (0, [], ()), (m.1, o, ()), ()))) (fun o => .inl (((), (), ()), ((0, [], ()), (m.1, o, ()), ()))) (by omega) (fun k hk o ho => by
   have := h2 k hk
   simp only [Jt]
   rw [Ba (by omega), Zb hk]
   simp only [cond_true, jb]
   rw [Le (by simp; omega), Le (by simp only [jw, j7]; omega)]
   rfl) (fun o => by
   simp only [Jt]
   rw [Ca (by omega)]
   rfl)
 unfold VA Uu
 erw [hl]
 rw [List.map_id']
 rfl
theorem UT {L : List (List Kb)} (hz : Xb (.sl (.sl Xc)) L ≤ Ga) : ja L ≤ Ga ∧ ∀ k (hk : k < L.length), L[k].length ≤ Ga := by
 have h1 : Xb (.sl (.sl Xc)) L = ja L + (List.map (Xb (.sl Xc)) L).sum := rfl
 refine ⟨by omega, fun k hk => ?_⟩
 have h2 := Lv (f := Xb (.sl Xc)) hk
 rw [OS] at h2
 omega
theorem KJ (L : List (List Kb)) (hz : Xb (.sl (.sl Xc)) L ≤ Ga) : Xs L = some (L, ()) := by
 have h20 : Ga = 1048576 := rfl
 obtain ⟨h1, h2⟩ := UT hz
 have hl := Hu (step := fun x => Xl x.1.1 x.1.2.1 x.1.2.2.1 x.1.2.2.2.1) L (fun x => x)
  (fun o k => ((o, L, ((ja L : Nat) : Int), k, ()), ())) (fun o => .inl ((o, ()), ())) (by omega) (fun k hk o ho => by
   have := h2 k hk
   simp only [Xl]
   rw [Ba (by omega), Zb hk]
   simp only [cond_true, jb]
   rw [Le (by simp; omega), Le (by simp only [jw, j7]; omega)]
   rfl) (fun o => by
   simp only [Xl]
   rw [Ca (by omega)]
   rfl)
 unfold Xs Rn
 erw [hl]
 rw [List.map_id']
 rfl
theorem Sj (e : Va) (hz : Xb Ub e ≤ Ga) : Bi e = some (e, ()) := by
 have h20 : Ga = 1048576 := rfl
 rw [Nl, Kl] at hz
 unfold Bi
 rw [JJ _ (by omega), KJ _ (by omega), Le (by simp; omega)]
 rfl
theorem JI (d : Qa) (hz : Xb Dc d ≤ Ga) : Sl d = some (d, ()) := by
 have h20 : Ga = 1048576 := rfl
 rw [CB, Bv] at hz
 unfold Sl
 rw [Sj _ (by omega), Le (by simp; omega)]
 rfl
theorem Xp (e : Va) (hz : Xb Ub e ≤ Ga) : Nj e = some (e, ()) := by
 have h20 : Ga = 1048576 := rfl
 rw [Nl, Kl] at hz
 obtain ⟨h1, h2⟩ := UT (L := e.2.1) (by omega)
 have hl := Hu (step := fun x => Lt x.1.1 x.1.2.1 x.1.2.2.1 x.1.2.2.2.1 x.2.1 x.2.2.1 x.2.2.2.1) e.2.1 (fun x => x)
  (fun o k => (((), (), (), k, ()), (e, (((0 : Int), ([] : List (List La)), ()), ([] : List (List Kb)), (0 : Int), ([] : List Ja), (0 : Int), false, ()), (e.1, o, e.2.2), ())))
  (fun o => .inl (((), (), (), ()), (e, (((0 : Int), ([] : List (List La)), ()), ([] : List (List Kb)), (0 : Int), ([] : List Ja), (0 : Int), false, ()), (e.1, o, e.2.2), ()))) (by omega) (fun k hk o ho => by
   have := h2 k hk
   simp only [Lt]
   rw [Ba (by omega), Zb hk]
   simp only [cond_true, jb]
   rw [Le (by simp; omega), Le (by simp only [jw, j7]; omega)]
   rfl) (fun o => by
   simp only [Lt]
   rw [Ca (by omega)]
   rfl)
 unfold Nj Zu
 rw [KS _ (by omega)]
 simp only [jb]
 erw [hl]
 rw [List.map_id']
 simp only [jb, qj]
 rw [Le (by simp; omega)]
 rfl
theorem TW : ∀ (a b : List Int), a.length = b.length → Jd (fun k x => b.getD k 0 == x) 0 a = (b == a)
 | a, b, h => by
  rw [qu, Vk, beq_iff_eq]
  constructor
  ·intro hj
   apply List.ext_getElem h.symm
   intro i h1 h2
   have := hj i h2
   rw [js, beq_iff_eq, qi, je h1] at this
   exact this
  ·rintro rfl i hi
   rw [js, beq_iff_eq, qi, je hi]; rfl
theorem SN (a b : List Int) (hn : a.length ≤ Ya) : Xw a b = some (a == b, ()) := by
 have hlim := Bf
 unfold Xw
 by_cases h : a.length = b.length
 ·have hl := Eh (step := fun x => Mo x.1.1 x.1.2.1 x.1.2.2.1 x.1.2.2.2.1) a (fun k x => b.getD k 0 == x) (fun i => ((a, b, ((ja a : Nat) : Int), i, ()), ()))
   (.inl ((), ())) (.inr ((false, ()), ())) (by
    intro k hk
    simp only [Mo]
    rw [Ba (show (k : Int) < ((ja a : Nat) : Int) by omega), Zb hk, Zb (show k < b.length by omega), qi, je (show k < b.length by omega)]
    simp only [cond_true, jb, Option.getD_some, bne]
    rw [show (a[k] == b[k]) = (b[k] == a[k]) by rw [qu, beq_iff_eq, beq_iff_eq]; exact eq_comm]
    cases b[k] == a[k] <;> rfl) (by
    simp only [Mo]
    rw [Ca (by omega)]; rfl) (by omega)
  have e : (((ja a : Nat) : Int) != ((ja b : Nat) : Int)) = false := by simp [h]
  rw [e]
  simp only [cond_false]
  unfold Sq
  erw [hl]
  rw [TW a b h, show (b == a) = (a == b) by rw [qu, beq_iff_eq, beq_iff_eq]; exact eq_comm]
  cases a == b <;> rfl
 ·have e : (((ja a : Nat) : Int) != ((ja b : Nat) : Int)) = true := by simp; omega
  have e2 : (a == b) = false := by rw [beq_eq_false_iff_ne]; intro hh; exact h (by rw [hh])
  rw [e, e2]; rfl
theorem Rac (a b : T Nf) (h1 : ja a.2.1 ≤ Ya) (_ : ja b.2.1 ≤ Ya) : (fun x : T (.p Nf (.p Nf .u)) => Tm x.1 x.2.1) (a, b, ()) = some (Wi a b, ()) := by
 show Tm a b = _
 unfold Tm
 rw [SN _ _ h1]
 simp only [jb, Wi]
 cases (show Int from a.1) == (show Int from b.1) <;> rfl
theorem J6 (c : T Ud → T Ud → Option Bool) (l : List (T Ud)) (hl : ja l ≤ Ya) : ∀ (ys : List (T Ud)) (k : Nat) (out q : List (T Ud)) (a : T Ud), l.drop k = ys → k ≤ ja l → ja out + ja ys ≤ Ya →
 BH c a ys = some q → Wr c (((), out, l, ((ja l : Nat) : Int), (k : Int), ()), (a, ())) = some (.inl ((jf out q, ()), ())) := by
 have hlim := Bf
 intro ys
 induction ys with
 | nil =>
  intro k out q a hd hk _ hq
  have := BN hd hk
  subst this
  simp only [BH, jc] at hq
  subst hq
  have hs : Hz c () out l ((ja l : Nat) : Int) ((ja l : Nat) : Int) a = some (.inr (.inl ((out, ()), ()))) := by
   unfold Hz
   rw [Ca (by omega)]; rfl
  unfold Wr
  rw [Ve hs]
  simp
 | cons y ys ih =>
  intro k out q a hd hk hlen hq
  obtain ⟨hk', hy, hd'⟩ := WI hd
  simp only [BH] at hq
  cases hc : c a y with
  | none => rw [hc] at hq; simp at hq
  | some b =>
   rw [hc] at hq
   simp only [jb] at hq
   cases hq2 : BH c y ys with
   | none => rw [hq2] at hq; simp at hq
   | some q2 =>
    rw [hq2] at hq
    simp only [jb, jc] at hq
    have hlc : ja (y :: ys) = ja ys + 1 := rfl
    have hs : Hz c () out l ((ja l : Nat) : Int) (k : Int) a = some (.inl (((), cond b out (jf out [y]), l, ((ja l : Nat) : Int), ((k + 1 : Nat) : Int), ()), (y, ()))) := by
     unfold Hz Qae
     rw [Ba (show (k : Int) < ((ja l : Nat) : Int) by omega), Zb hk', hy]
     simp only [cond_true, jb, hc]
     rw [Ze (by omega)]
     cases b with
     | true => rfl
     | false =>
      rw [show jx (ja out + ja ([y] : List (Int × ((T .o) × Unit)))) Ya = true from ji (by simp only [jw, j7]; omega)]
      rfl
    unfold Wr
    rw [Ve hs]
    simp only [jb, qj]
    have := ih (k + 1) (cond b out (jf out [y])) q2 y hd' hk' (by cases b with
     | true => simp only [cond_true]; omega
     | false => simp only [cond_false, List.append_eq, qe, jw, j7]; omega) hq2
    unfold Wr at this
    rw [this, ← hq]
    cases b with
    | true => rfl
    | false => simp
theorem Saf (c : T Ud → T Ud → Option Bool) : ∀ (a : T Ud) (l r : List (T Ud)), ja l ≤ Ya → BH c a l = some r → (fun x : T (.p Ud (.p (.sl Ud) .u)) => Y3 c x.1 x.2.1) (a, l, ()) = some (r, ()) := by
 intro a l r hl hq
 show Y3 c a l = _
 unfold Y3
 have := J6 c l hl l 0 [] r a rfl (Nat.zero_le _) (by simpa using hl) hq
 erw [this]
 rfl
theorem VT : ∀ {a b : List Int}, a.Pairwise (· < ·) → b.Pairwise (· < ·) → (∀ x, x ∈ a ↔ x ∈ b) → a = b
 | [], [], _, _, _ => rfl
 | [], y :: b, _, _, h => by have := (h y).2 (by simp); simp at this
 | x :: a, [], _, _, h => by have := (h x).1 (by simp); simp at this
 | x :: a, y :: b, ha, hb, h => by
  rw [List.pairwise_cons] at ha hb
  have hxy : x = y := by
   rcases jp.1 ((h x).1 (by simp)) with h1 | h1
   ·exact h1
   ·rcases jp.1 ((h y).2 (by simp)) with h2 | h2
    ·exact h2.symm
    ·have := hb.1 x h1; have := ha.1 y h2; omega
  subst hxy
  congr 1
  refine VT ha.2 hb.2 fun z => ⟨fun hz => ?_, fun hz => ?_⟩
  ·rcases jp.1 ((h z).1 (by simp [hz])) with h1 | h1
   ·have := ha.1 z hz; omega
   ·exact h1
  ·rcases jp.1 ((h z).2 (by simp [hz])) with h1 | h1
   ·have := hb.1 z hz; omega
   ·exact h1
def CI (o : List Int) (x : Int) : List Int := cond ((x != 0) && !o.any (fun y => y == x)) (jf o [x]) o
def ZV (k : Nat) (o l : List Int) : List Int := Gc (fun _ o x => CI o x) k o l
theorem Q6 : ∀ (l : List Int) (k : Nat) (o : List Int) (y : Int), y ∈ ZV k o l ↔ y ∈ o ∨ (y ∈ l ∧ y ≠ 0)
 | [], _, o, y => by simp [ZV, Gc]
 | x :: l, k, o, y => by
  have := Q6 l (k + 1) (CI o x) y
  simp only [ZV, Gc] at this ⊢
  rw [this]
  unfold CI
  by_cases h0 : x = 0
  ·subst h0
   simp only [bne_self_eq_false, qn, cond_false, jp]
   constructor
   ·rintro (h | ⟨h1, h2⟩)
    ·exact .inl h
    ·exact .inr ⟨.inr h1, h2⟩
   ·rintro (h | ⟨h1 | h1, h2⟩)
    ·exact .inl h
    ·exact absurd h1 h2
    ·exact .inr ⟨h1, h2⟩
  ·by_cases h1 : o.any (fun y => y == x) = true
   ·rw [h1]
    simp only [jg, Bool.and_false, cond_false, jp]
    have hx : x ∈ o := by
     obtain ⟨z, hz, e⟩ := List.any_eq_true.1 h1
     rw [beq_iff_eq] at e; rw [← e]; exact hz
    constructor
    ·rintro (h | ⟨h1, h2⟩)
     ·exact .inl h
     ·exact .inr ⟨.inr h1, h2⟩
    ·rintro (h | ⟨h1 | h1, h2⟩)
     ·exact .inl h
     ·exact .inl (h1 ▸ hx)
     ·exact .inr ⟨h1, h2⟩
   ·have e : ((x != 0) && !o.any (fun y => y == x)) = true := by
     simp only [qa] at h1
     rw [h1]; simp [h0]
    rw [e]
    simp only [cond_true, List.append_eq, jl, jp, List.not_mem_nil, or_false]
    constructor
    ·rintro ((h | h) | ⟨h1, h2⟩)
     ·exact .inl h
     ·exact .inr ⟨.inl h, by rw [h]; exact h0⟩
     ·exact .inr ⟨.inr h1, h2⟩
    ·rintro (h | ⟨h1 | h1, h2⟩)
     ·exact .inl (.inl h)
     ·exact .inl (.inr h1)
     ·exact .inr ⟨h1, h2⟩
theorem XS : ∀ (l : List Int) (k : Nat) (o : List Int), o.Pairwise (· < ·) → l.Pairwise (· ≤ ·) → (∀ y ∈ o, ∀ x ∈ l, y ≤ x) → (ZV k o l).Pairwise (· < ·)
 | [], _, o, ho, _, _ => by simpa [ZV, Gc] using ho
 | x :: l, k, o, ho, hl, h => by
  rw [List.pairwise_cons] at hl
  have key : (CI o x).Pairwise (· < ·) ∧ ∀ y ∈ CI o x, ∀ z ∈ l, y ≤ z := by
   unfold CI
   cases hc : (x != 0) && !o.any (fun y => y == x) with
   | false => exact ⟨ho, fun y hy z hz => h y hy z (by simp [hz])⟩
   | true =>
    simp only [jd, Bool.not_eq_true', List.any_eq_false, beq_iff_eq] at hc
    simp only [cond_true, List.append_eq]
    refine ⟨?_, ?_⟩
    ·rw [List.pairwise_append]
     refine ⟨ho, by simp, fun y hy z hz => ?_⟩
     simp only [jp, List.not_mem_nil, or_false] at hz
     subst hz
     have h1 := h y hy z (by simp)
     have h2 := hc.2 y hy
     omega
    ·intro y hy z hz
     rcases jl.1 hy with hy | hy
     ·exact h y hy z (by simp [hz])
     ·simp only [jp, List.not_mem_nil, or_false] at hy
      subst hy
      exact hl.1 z hz
  have := XS l (k + 1) (CI o x) key.1 hl.2 key.2
  simpa [ZV, Gc] using this
def Yh (l : List Ja) : Nat → List Int
 | 0 => []
 | n + 1 => cond (l.any fun h => h.2.1.2.1 == ((n + 1 : Nat) : Int)) (Yh l n ++ [((n + 1 : Nat) : Int)]) (Yh l n)
theorem Cv (l : List Ja) : ∀ (n : Nat) (x : Int), x ∈ Yh l n ↔ (1 ≤ x ∧ x ≤ (n : Int)) ∧ ∃ h ∈ l, h.2.1.2.1 = x
 | 0, x => by simp [Yh]; intro h1 h2; omega
 | n + 1, x => by
  simp only [Yh]
  cases hc : (l.any fun h => h.2.1.2.1 == ((n + 1 : Nat) : Int)) with
  | true =>
   simp only [cond_true, jl, Cv l n x, jp, List.not_mem_nil, or_false]
   obtain ⟨h, hh, e⟩ := List.any_eq_true.1 hc
   rw [beq_iff_eq] at e
   constructor
   ·rintro (⟨h1, h2⟩ | rfl)
    ·exact ⟨by omega, h2⟩
    ·exact ⟨by omega, h, hh, e⟩
   ·rintro ⟨h1, h2⟩
    by_cases hx : x = ((n + 1 : Nat) : Int)
    ·exact .inr hx
    ·exact .inl ⟨by omega, h2⟩
  | false =>
   simp only [cond_false, Cv l n x]
   rw [List.any_eq_false] at hc
   constructor
   ·rintro ⟨h1, h2⟩; exact ⟨by omega, h2⟩
   ·rintro ⟨h1, h, hh, e⟩
    refine ⟨?_, h, hh, e⟩
    have := hc h hh
    rw [beq_iff_eq] at this
    omega
theorem RB (l : List Ja) : ∀ n, (Yh l n).Pairwise (· < ·)
 | 0 => by simp [Yh]
 | n + 1 => by
  simp only [Yh]
  cases (l.any fun h => h.2.1.2.1 == ((n + 1 : Nat) : Int)) with
  | true =>
   simp only [cond_true]
   rw [List.pairwise_append]
   refine ⟨RB l n, by simp, fun y hy z hz => ?_⟩
   simp only [jp, List.not_mem_nil, or_false] at hz
   have := (Cv l n y).1 hy
   omega
  | false => exact RB l n
theorem DH (l : List Ja) : ∀ n, (Yh l n).length ≤ n
 | 0 => by simp [Yh]
 | n + 1 => by
  have := DH l n
  simp only [Yh]
  cases (l.any fun h => h.2.1.2.1 == ((n + 1 : Nat) : Int)) <;> simp <;> omega
def KV (l : List Ja) : Int := Gc (fun _ s (h : Ja) => cond (h.2.1.1 == 2 || h.2.1.1 == 8) (Nd .i64 s h.2.1.2.2.1) s) 0 0 l
def Tb (l : List Ja) : Aa := (KV l, Yh l 56, ())
theorem BA {a : La} (h : Ac a = true) : 0 ≤ a.2.1 ∧ a.2.1 ≤ 56 := by
 rw [Ib] at h
 unfold Ob at h
 omega
theorem VF (l : List Int) (x : Int) (hn : l.length ≤ Ya) : Kw l x = some (l.any (fun y => y == x), ()) := by
 have hlim := Bf
 have hl := Eh (step := fun y => At y.1.1 y.1.2.1 y.1.2.2.1 y.1.2.2.2.1) l (fun _ y => !(y == x)) (fun i => ((x, l, ((ja l : Nat) : Int), i, ()), ()))
  (.inl ((), ())) (.inr ((true, ()), ())) (by
   intro k hk
   simp only [At]
   rw [Ba (show (k : Int) < ((ja l : Nat) : Int) by omega), Zb hk]
   simp only [cond_true, jb]
   cases l[k] == x <;> rfl) (by
   simp only [At]
   rw [Ca (by omega)]; rfl) (by omega)
 unfold Kw Bu
 erw [hl]
 have : ∀ (l : List Int) (k : Nat), Jd (fun _ y => !(y == x)) k l = !l.any (fun y => y == x) := by
  intro l
  induction l with
  | nil => intro k; rfl
  | cons y l ih => intro k; simp only [Jd, List.any_cons, ih, Bool.not_or]
 rw [this]
 cases l.any (fun y => y == x) <;> rfl
theorem HE (l : List Ja) (hn : l.length ≤ Ga) (hx : ∀ h ∈ l, 0 ≤ h.2.1.2.1 ∧ h.2.1.2.1 ≤ 56) : Lp (l.map fun h => h.2.1.2.1) = some (Yh l 56, ()) := by
 have h20 : Ga = 1048576 := rfl
 have hlim := Bf
 generalize hcs : (l.map fun h => h.2.1.2.1) = cs
 have hcl : cs.length = l.length := by rw [← hcs]; simp
 unfold Lp
 rw [Jx _ (by omega)]
 simp only [jb, sort_Ints, srt]
 rw [show jx (ja cs) Ya = true from ji (by omega)]
 simp only [cond_true, jb]
 generalize hss : (List.mergeSort cs fun x y => decide (x ≤ y)) = ss
 have hsl : ss.length = cs.length := by rw [← hss]; exact List.length_mergeSort _
 have hsm : ∀ x, x ∈ ss ↔ x ∈ cs := fun x => by rw [← hss]; exact List.mem_mergeSort
 have hsp : ss.Pairwise (· ≤ ·) := by
  rw [← hss]
  have := List.pairwise_mergeSort (le := fun x y : Int => decide (x ≤ y)) (by intro a b c; simp; omega) (by intro a b; simp; omega) cs
  exact this.imp (by intro a b h; simpa using h)
 have hl := (Ae (step := fun x => Qq x.1.1 x.1.2.1 x.1.2.2.1 x.1.2.2.2.1) ss (fun _ o x => CI o x) (fun o i => ((o, ss, ((ja ss : Nat) : Int), i, ()), ())) (fun o => .inl ((o, ()), ())) (fun k o => o.length ≤ k) (by
  intro k hk o ho
  have hd : (CI o ss[k]).length ≤ k + 1 := by
   unfold CI
   cases (ss[k] != 0) && !o.any (fun y => y == ss[k]) <;> simp <;> omega
  refine ⟨?_, hd⟩
  simp only [Qq]
  rw [Ba (show (k : Int) < ((ja ss : Nat) : Int) by omega), show Lh (ja ss) (k : Int) = true by rw [Im]; exact Ba hk, jn, je hk]
  simp only [cond_true, jb]
  rw [VF _ _ (by omega), show jx (ja o + ja ([ss[k]] : List Int)) Ya = true from ji (by simp only [jw, j7]; omega)]
  simp only [jb, CI]
  cases ss[k] != 0 <;> cases o.any (fun y => y == ss[k]) <;> rfl)
  (by
   intro o _
   simp only [Qq]
   rw [Ca (by omega)]; rfl) (by omega) [] (jo _)).1
 unfold Es
 erw [hl]
 simp only [jb, qj]
 congr 2
 refine VT (XS ss 0 [] (by simp) hsp (by simp)) (RB l 56) fun x => ?_
 rw [show Gc (fun _ o x => CI o x) 0 [] ss = ZV 0 [] ss from rfl, Q6, Cv, hsm, ← hcs]
 simp only [List.not_mem_nil, false_or, qs]
 constructor
 ·rintro ⟨⟨h, hh, rfl⟩, h0⟩
  have := hx h hh
  exact ⟨by omega, h, hh, rfl⟩
 ·rintro ⟨h1, h, hh, rfl⟩
  exact ⟨⟨h, hh, rfl⟩, by omega⟩
theorem Pq (l : List Ja) (hn : l.length ≤ Ga) (hv : Vd l = true) : Yc l = some (Tb l, ()) := by
 have h20 : Ga = 1048576 := rfl
 have hlim := Bf
 have hh := Yk hv
 have hl := (Ae (step := fun x => Ko x.1.1 x.1.2.1 x.1.2.2.1 x.1.2.2.2.1 x.1.2.2.2.2.1 x.1.2.2.2.2.2.1 x.2.1 x.2.2.1) l
  (fun _ (s : Int × List Int) (h : Ja) => (cond (h.2.1.1 == 2 || h.2.1.1 == 8) (Nd .i64 s.1 h.2.1.2.2.1) s.1, jf s.2 [h.2.1.2.1])) (fun s i => (((), (), s.2, l, ((ja l : Nat) : Int), i, ()), (((0 : Int), ([] : List Int), ()), (s.1, ([] : List Int), ()), ())))
  (fun s => .inl (((), (), s.2, ()), (((0 : Int), ([] : List Int), ()), (s.1, ([] : List Int), ()), ()))) (fun k s => s.2.length = k) (by
   intro k hk s hs
   refine ⟨?_, by simp [hs]⟩
   simp only [Ko]
   rw [Ba (show (k : Int) < ((ja l : Nat) : Int) by omega), Zb hk]
   simp only [cond_true, jb]
   rw [show jx (ja s.2 + ja ([l[k].2.1.2.1] : List Int)) Ya = true from ji (by simp only [jw, j7]; omega)]
   cases l[k].2.1.1 == 2 <;> cases l[k].2.1.1 == 8 <;> rfl)
  (by
   intro s _
   simp only [Ko]
   rw [Ca (by omega)]; rfl) (by omega) (0, []) rfl).1
 have key : ∀ (l : List Ja) (k : Nat) (s : Int × List Int), Gc (fun _ (s : Int × List Int) (h : Ja) => (cond (h.2.1.1 == 2 || h.2.1.1 == 8) (Nd .i64 s.1 h.2.1.2.2.1) s.1, jf s.2 [h.2.1.2.1])) k s l =
  (Gc (fun _ s (h : Ja) => cond (h.2.1.1 == 2 || h.2.1.1 == 8) (Nd .i64 s h.2.1.2.2.1) s) k s.1 l, s.2 ++ l.map fun h => h.2.1.2.1) := by
  intro l
  induction l with
  | nil => intro k s; simp [Gc]
  | cons x l ih => intro k s; simp only [Gc]; rw [ih]; simp
 unfold Yc Oq
 rw [Dv _ hn, hv]
 simp only [jb, jg, cond_false]
 erw [hl]
 rw [key]
 simp only [jb, qj, List.nil_append]
 rw [HE l hn (fun h hm => BA (hh h hm).act)]
 rfl
theorem PO (l : List Ja) (hn : l.length ≤ Ga) (c : Nat) (hc : c ≤ 56) (m : Int) (o : List Int) (ho : o.length ≤ 56) :
 Ak ((l, (), (), (c : Int), (0 : Int), ()), (((0 : Int), ([] : List Int), ()), (m, o, ()), ())) =
  some (.inl ((l, (), (), (c : Int), ()), (((0 : Int), ([] : List Int), ()), (m, cond (l.any fun h => h.2.1.2.1 == (c : Int)) (jf o [(c : Int)]) o, ()), ()))) := by
 have h20 : Ga = 1048576 := rfl
 have hl := Eh (step := fun x => Dn x.1.1 x.1.2.1 x.1.2.2.1 x.1.2.2.2.1 x.1.2.2.2.2.1 x.2.1 x.2.2.1) l (fun _ (h : Ja) => !(h.2.1.2.1 == (c : Int))) (fun i => ((l, (), (), (c : Int), i, ()), (((0 : Int), ([] : List Int), ()), (m, o, ()), ())))
  (.inl ((l, (), (), (c : Int), ()), (((0 : Int), ([] : List Int), ()), (m, o, ()), ()))) (.inl ((l, (), (), (c : Int), ()), (((0 : Int), ([] : List Int), ()), (m, jf o [(c : Int)], ()), ()))) (by
   intro k hk
   simp only [Dn]
   rw [Ba (show (k : Int) < ((ja l : Nat) : Int) by omega), Zb hk]
   simp only [cond_true, jb]
   rw [show jx (ja o + ja ([(c : Int)] : List Int)) Ya = true from ji (by simp only [jw, j7, Bf]; omega)]
   cases l[k].2.1.2.1 == (c : Int) <;> rfl) (by
   simp only [Dn]
   rw [Ca (by omega)]; rfl) (by omega)
 have e : ∀ (l : List Ja) (k : Nat), Jd (fun _ (h : Ja) => !(h.2.1.2.1 == (c : Int))) k l = !l.any fun h => h.2.1.2.1 == (c : Int) := by
  intro l
  induction l with
  | nil => intro k; rfl
  | cons y l ih => intro k; simp only [Jd, List.any_cons, ih, Bool.not_or]
 unfold Ak
 erw [hl]
 rw [e]
 cases l.any fun h => h.2.1.2.1 == (c : Int) <;> rfl
theorem Br (l : List Ja) (hn : l.length ≤ Ga) (hv : Vd l = true) : Hd l = some (Tb l, ()) := by
 have h20 : Ga = 1048576 := rfl
 have h1 := (Ae (step := fun x => To x.1.1 x.1.2.1 x.1.2.2.1 x.1.2.2.2.1 x.2.1 x.2.2.1) l
  (fun _ s (h : Ja) => cond (h.2.1.1 == 2 || h.2.1.1 == 8) (Nd .i64 s h.2.1.2.2.1) s) (fun s i => ((l, (), (), i, ()), (((0 : Int), ([] : List Int), ()), (s, ([] : List Int), ()), ())))
  (fun s => .inl ((l, (), (), ()), (((0 : Int), ([] : List Int), ()), (s, ([] : List Int), ()), ()))) (fun _ _ => True) (by
   intro k hk s _
   refine ⟨?_, trivial⟩
   simp only [To]
   rw [Ba (show (k : Int) < ((ja l : Nat) : Int) by omega), Zb hk]
   simp only [cond_true, jb]
   cases l[k].2.1.1 == 2 <;> cases l[k].2.1.1 == 8 <;> rfl)
  (by
   intro s _
   simp only [To]
   rw [Ca (by omega)]; rfl) (by omega) 0 trivial).1
 have h2 := MT (step := fun x => Cn x.1.1 x.1.2.1 x.1.2.2.1 x.1.2.2.2.1 x.2.1 x.2.2.1) (fun k => ((l, (), (), ((k + 1 : Nat) : Int), ()), (((0 : Int), ([] : List Int), ()), (KV l, Yh l k, ()), ()))) 56
  (.inl (((), (), ()), (((0 : Int), ([] : List Int), ()), (KV l, Yh l 56, ()), ()))) (by
   intro k hk
   simp only [Cn]
   have hlen := DH l k
   rw [Ba (show ((k + 1 : Nat) : Int) ≤ 56 by omega), PO l hn (k + 1) (by omega) (KV l) (Yh l k) (by omega)]
   simp only [cond_true, jb, qj]
   rw [Ze (by omega)]
   rfl) (by
   simp only [Cn]
   rw [Ca (by decide)]; rfl)
 unfold Hd Ar Tp
 rw [Jv _ hn, hv]
 simp only [jb, jg, cond_false]
 erw [h1]
 simp only [jb, qj]
 erw [h2]
 rfl
def Ev (c : Int) : Bool := decide (1 ≤ c ∧ c ≤ 36) || ((c == 39) || (c == 42))
theorem HJ (c : Int) : Ts c = some (Ev c, ()) := by
 unfold Ts Ev
 by_cases h1 : c ≥ 1
 ·by_cases h2 : c ≤ 36
  ·rw [Ba h1, Ba h2, Ba (show 1 ≤ c ∧ c ≤ 36 by omega)]; rfl
  ·rw [Ba h1, Ca h2, Ca (show ¬ (1 ≤ c ∧ c ≤ 36) by omega)]
   cases c == 39 <;> rfl
 ·rw [Ca h1, Ca (show ¬ (1 ≤ c ∧ c ≤ 36) by omega)]
  cases c == 39 <;> rfl
theorem EK (c : Int) : Ht c = some (Ev c, ()) := by
 unfold Ht Ev
 rw [Be]
 cases decide (1 ≤ c ∧ c ≤ 36) <;> cases c == 39 <;> rfl
def Zv (f o : Int) (c : Bool) (a : La) : Int × Int × Bool × La :=
 cond (a.1 == 2) (cond (a.2.1 == 0) (f, o, c, a) (f, 0, c && Ev a.2.1, a.1, a.2.1, cond ((c && Ev a.2.1) && (decide (a.2.1 ≤ 26) && (Ui .i64 (Nd .i64 a.2.2.1 o) 2 == 0))) 2 (Nd .i64 a.2.2.1 o), a.2.2.2))
  (cond (a.1 == 4) (Bh .i64 f (Kd .i64 1 a.2.2.2.1), o, c, a) (cond (a.1 == 5) (Ui .i64 (Kd .i64 1 a.2.2.2.1) 1, o, c, a)
   (cond (a.1 == 8) (f, cond (Yf .i64 o a.2.2.1 == a.2.2.1) (Ui .i64 o a.2.2.1) (Nd .i64 o a.2.2.1), c, a) (cond (a.1 == 10) (f, o, !c, a) (f, o, c, a)))))
theorem Bz {a : La} (h : Ac a = true) : 0 ≤ a.2.2.2.1 := by
 rw [Ib] at h
 unfold Ob at h
 omega
theorem ZF (m : Ab) (M : List (List Kb)) (f o : Int) (h : List Ja) (c : Bool) (a : La) (ha : Ac a = true) :
 Tn (m, M, f, h, o, c, ()) a = some ((m, M, (Zv f o c a).1, h, (Zv f o c a).2.1, (Zv f o c a).2.2.1, ()), (Zv f o c a).2.2.2, ()) := by
 have hn := Bz ha
 unfold Tn Zv
 rw [Ba hn]
 cases a.1 == 2 with
 | true =>
  cases a.2.1 == 0 with
  | true => rfl
  | false =>
   simp only [cond_true, cond_false, HJ, jb]
   cases c with
   | false => rfl
   | true =>
    cases Ev a.2.1 with
    | false => rfl
    | true => cases decide (a.2.1 ≤ 26) <;> cases Ui .i64 (Nd .i64 a.2.2.1 o) 2 == 0 <;> rfl
 | false =>
  cases a.1 == 4 with
  | true => rfl
  | false =>
   cases a.1 == 5 with
   | true => rfl
   | false =>
    cases a.1 == 8 with
    | true => cases Yf .i64 o a.2.2.1 == a.2.2.1 <;> rfl
    | false => cases a.1 == 10 <;> rfl
theorem JG (m : Ab) (M : List (List Kb)) (f o : Int) (h : List Ja) (c : Bool) (a : La) (ha : Ac a = true) :
 Ik (m, M, f, h, o, c, ()) a = some ((m, M, (Zv f o c a).1, h, (Zv f o c a).2.1, (Zv f o c a).2.2.1, ()), (Zv f o c a).2.2.2, ()) := by
 have hn := Bz ha
 have hcode := BA ha
 unfold Ik Zv VH
 rw [Ba hn]
 cases a.1 == 2 with
 | true =>
  by_cases h0 : a.2.1 = 0
  ·rw [Ca (show ¬ a.2.1 > 0 by omega), show (a.2.1 == 0) = true by simp [h0]]; rfl
  ·rw [Ba (show a.2.1 > 0 by omega), show (a.2.1 == 0) = false by simp [h0]]
   simp only [cond_true, cond_false, EK, jb]
   cases Ev a.2.1 with
   | false => cases c <;> rfl
   | true =>
    cases c with
    | false => rfl
    | true => cases decide (a.2.1 ≤ 26) <;> cases Ui .i64 (Nd .i64 a.2.2.1 o) 2 == 0 <;> rfl
 | false =>
  cases a.1 == 4 with
  | true => rfl
  | false =>
   cases a.1 == 5 with
   | true => rfl
   | false =>
    cases a.1 == 8 with
    | true => cases Yf .i64 o a.2.2.1 == a.2.2.1 <;> rfl
    | false => cases a.1 == 10 <;> rfl
theorem Yaf : ∀ f : Fin 16, ∀ n : Fin 4, ∀ l : Fin 5, 1 ≤ n.val → n.val < l.val → f.val < 2 ^ l.val → f.val % 2 = 0 →
 0 ≤ Bh .i64 (f.val : Int) (Kd .i64 1 (n.val : Int)) ∧ Bh .i64 (f.val : Int) (Kd .i64 1 (n.val : Int)) < ((2 ^ l.val : Nat) : Int) ∧ (Bh .i64 (f.val : Int) (Kd .i64 1 (n.val : Int))).tmod 2 = 0 := by decide +kernel
theorem Dai : ∀ n : Fin 4, ∀ l : Fin 5, n.val < l.val →
 0 ≤ Ui .i64 (Kd .i64 1 (n.val : Int)) 1 ∧ Ui .i64 (Kd .i64 1 (n.val : Int)) 1 < ((2 ^ l.val : Nat) : Int) ∧ (Ui .i64 (Kd .i64 1 (n.val : Int)) 1).tmod 2 = 0 := by decide +kernel
theorem H1 : ∀ o m : Fin 16, (0 ≤ Ui .i64 (o.val : Int) (m.val : Int) ∧ Ui .i64 (o.val : Int) (m.val : Int) ≤ 15) ∧ (0 ≤ Nd .i64 (o.val : Int) (m.val : Int) ∧ Nd .i64 (o.val : Int) (m.val : Int) ≤ 15) := by decide +kernel
structure RM (nl : Nat) (f o : Int) : Prop where
 f0 : 0 ≤ f
 f1 : f < ((2 ^ nl : Nat) : Int)
 f2 : f.tmod 2 = 0
 o0 : 0 ≤ o
 o1 : o ≤ 15
structure QM (nl : Nat) (a : La) : Prop where
 act : Ac a = true
 n1 : a.1 ≠ 1
 n6 : a.1 ≠ 6
 n7 : a.1 ≠ 7
 n : a.1 ≠ 9 → a.2.2.2.1 < (nl : Int)
theorem Wal {a b : Int} (ha : 0 ≤ a ∧ a ≤ 15) (hb : 0 ≤ b ∧ b ≤ 15) : 0 ≤ Nd .i64 a b ∧ Nd .i64 a b ≤ 15 := by
 obtain ⟨n, rfl⟩ := jv ha.1
 obtain ⟨m, rfl⟩ := jv hb.1
 exact (H1 ⟨n, by omega⟩ ⟨m, by omega⟩).2
theorem Xaj {a b : Int} (ha : 0 ≤ a ∧ a ≤ 15) (hb : 0 ≤ b ∧ b ≤ 15) : 0 ≤ Ui .i64 a b ∧ Ui .i64 a b ≤ 15 := by
 obtain ⟨n, rfl⟩ := jv ha.1
 obtain ⟨m, rfl⟩ := jv hb.1
 exact (H1 ⟨n, by omega⟩ ⟨m, by omega⟩).1
theorem Xal {nl : Nat} (h : nl ≤ 4) : 2 ^ nl ≤ 16 := ql (n := 2) (by omega) h
theorem Zal {nl : Nat} (hnl : nl ≤ 4) {f o : Int} {c : Bool} {a : La} (hs : RM nl f o) (ha : QM nl a) :
 RM nl (Zv f o c a).1 (Zv f o c a).2.1 ∧ QM nl (Zv f o c a).2.2.2 := by
 have hP := ha.act
 rw [Ib] at hP
 unfold Ob at hP
 have h16 := Xal hnl
 obtain ⟨k, code, mods, n, u⟩ := a
 have hn1 := ha.n1; have hn6 := ha.n6; have hn7 := ha.n7; have hnn := ha.n
 simp only at hP hn1 hn6 hn7 hnn
 have hf1 := hs.f1
 unfold Zv
 simp only
 by_cases h2 : k = 2
 ·subst h2
  by_cases h0 : code = 0
  ·subst h0; exact ⟨hs, ha⟩
  ·rw [show ((2 : Int) == 2) = true from rfl, show (code == 0) = false by simp [h0]]
   simp only [cond_true, cond_false]
   refine ⟨⟨hs.f0, hs.f1, hs.f2, by decide, by decide⟩, ?_⟩
   have hm := Wal (a := mods) (b := o) (by omega) ⟨hs.o0, hs.o1⟩
   refine ⟨?_, hn1, hn6, hn7, hnn⟩
   have hn0 : n = 0 := by omega
   have hcd : 1 ≤ code ∧ code ≤ 56 := by omega
   rw [Ib]
   cases ((c && Ev code) && (decide (code ≤ 26) && (Ui .i64 (Nd .i64 mods o) 2 == 0))) with
   | true => exact .inr (.inl ⟨rfl, hn0, .inr hcd, .inr ⟨by show (1 : Int) ≤ 2; decide, by show (2 : Int) ≤ 15; decide⟩, .inl (by show code ≠ 0; omega)⟩)
   | false =>
    refine .inr (.inl ⟨rfl, hn0, .inr hcd, ?_, .inl (by show code ≠ 0; omega)⟩)
    show Nd .i64 mods o = 0 ∨ 1 ≤ Nd .i64 mods o ∧ Nd .i64 mods o ≤ 15
    omega
 ·rw [show (k == 2) = false by simp [h2]]
  simp only [cond_false]
  by_cases h4 : k = 4
  ·subst h4
   have hr : 1 ≤ n ∧ n ≤ 3 := by omega
   have hlt := hnn (by omega)
   obtain ⟨fn, hfn⟩ := jv hs.f0
   obtain ⟨nn, hnn'⟩ := jv (show 0 ≤ n by omega)
   have hf2 := hs.f2
   rw [hfn] at hf1 hf2
   have hfl : fn < 2 ^ nl := Int.ofNat_lt.1 hf1
   have := Yaf ⟨fn, by omega⟩ ⟨nn, by omega⟩ ⟨nl, by omega⟩ (by show 1 ≤ nn; omega) (by show nn < nl; omega) hfl (by
    rw [Int.tmod_eq_emod_of_nonneg (by omega)] at hf2; show fn % 2 = 0; omega)
   simp only [show ((4 : Int) == 4) = true from rfl, cond_true]
   rw [hfn, hnn']
   exact ⟨⟨this.1, this.2.1, this.2.2, hs.o0, hs.o1⟩, by rw [← hnn']; exact ha⟩
  ·rw [show (k == 4) = false by simp [h4]]
   simp only [cond_false]
   by_cases h5 : k = 5
   ·subst h5
    have hr : 0 ≤ n ∧ n ≤ 3 := by omega
    have hlt := hnn (by omega)
    obtain ⟨nn, hnn'⟩ := jv (show 0 ≤ n by omega)
    have := Dai ⟨nn, by omega⟩ ⟨nl, by omega⟩ (by show nn < nl; omega)
    simp only [show ((5 : Int) == 5) = true from rfl, cond_true]
    rw [hnn']
    exact ⟨⟨this.1, this.2.1, this.2.2, hs.o0, hs.o1⟩, by rw [← hnn']; exact ha⟩
   ·rw [show (k == 5) = false by simp [h5]]
    simp only [cond_false]
    by_cases h8 : k = 8
    ·subst h8
     have hm : 0 ≤ mods ∧ mods ≤ 15 := by omega
     simp only [show ((8 : Int) == 8) = true from rfl, cond_true]
     cases Yf .i64 o mods == mods with
     | true => have := Xaj ⟨hs.o0, hs.o1⟩ hm; exact ⟨⟨hs.f0, hs.f1, hs.f2, this.1, this.2⟩, ha⟩
     | false => have := Wal ⟨hs.o0, hs.o1⟩ hm; exact ⟨⟨hs.f0, hs.f1, hs.f2, this.1, this.2⟩, ha⟩
    ·rw [show (k == 8) = false by simp [h8]]
     simp only [cond_false]
     cases k == 10 <;> exact ⟨hs, ha⟩
theorem Q8 {m : Ab} (hm : Az m) (on : Int) {k : Nat} (hk : (k : Int) < m.1) : Cf m.2.1.length (Zg m on k) (Xh m.2.1 (Zg m on k) k) = true ∧ (Xh m.2.1 (Zg m on k) k).1 ≠ 1 := by
 have hl := NE hm on k
 have hrow := hm.row _ hl
 have hk' : k < m.2.1[Zg m on k].length := by omega
 have hact := hm.act _ hl k hk'
 rw [SM hl hk']
 refine ⟨hact, ?_⟩
 have key : ∀ n, Ye m.2.1 on k n = 0 ∨ (Xh m.2.1 (Ye m.2.1 on k n) k).1 ≠ 1 := by
  intro n
  induction n with
  | zero => exact .inl rfl
  | succ n ih =>
   simp only [Ye]
   cases hc : ((Kk on ((n + 1 : Nat) : Int) == 1) && ((Xh m.2.1 (n + 1) k).1 != 1)) with
   | true =>
    simp only [jd, bne_iff_ne] at hc
    exact .inr hc.2
   | false => exact ih
 rcases key (m.2.1.length - 1) with h0 | h1
 ·have h0' : Zg m on k = 0 := h0
  intro h1
  simp only [Cf, jd, Bool.not_eq_true', Bool.and_eq_false_iff, beq_eq_false_iff_ne] at hact
  rcases hact.1.2 with h2 | h2
  ·exact h2 (by rw [h0']; rfl)
  ·exact h2 h1
 ·have e : Xh m.2.1 (Ye m.2.1 on k (m.2.1.length - 1)) k = m.2.1[Zg m on k][k] := SM hl hk'
  rw [e] at h1
  exact h1
theorem Bai {nl i : Nat} {a : La} (h : Cf nl i a = true) (h1 : a.1 ≠ 1) : QM nl (LB a) := by
 have ha := WJ h
 have hP := ha
 rw [Ib] at hP
 unfold Ob at hP
 unfold LB Ge
 rw [ha]
 by_cases h67 : a.1 = 6 ∨ a.1 = 7
 ·have e : (true && ((a.1 == 6) || (a.1 == 7))) = true := by rcases h67 with h | h <;> rw [h] <;> rfl
  rw [e]
  simp only [cond_true]
  refine ⟨?_, by show (2 : Int) ≠ 1; decide, by show (2 : Int) ≠ 6; decide, by show (2 : Int) ≠ 7; decide, fun _ => ?_⟩
  ·rw [Ib]
   exact .inr (.inl ⟨rfl, rfl, .inr (by show 1 ≤ a.2.1 ∧ a.2.1 ≤ 56; omega), .inl rfl, .inl (by show a.2.1 ≠ 0; omega)⟩)
  ·show (0 : Int) < (nl : Int)
   have := HL h (by omega)
   omega
 ·have e : (true && ((a.1 == 6) || (a.1 == 7))) = false := by
   rw [jk, Bool.or_eq_false_iff, beq_eq_false_iff_ne, beq_eq_false_iff_ne]; omega
  rw [e]
  exact ⟨ha, h1, fun h => h67 (.inl h), fun h => h67 (.inr h), fun hk => HL h hk⟩
def BW (m : Ab) (f o : Int) (c : Bool) (h : List Ja) : Va := (m, [], f, h, o, c, ())
theorem C4 {m : Ab} (hv : Ad m = true) {f o : Int} (hs : RM m.2.1.length f o) (c : Bool) {h : List Ja} (hh : Vd h = true) (hi : ∀ x ∈ h, Fi m.1 m.2.1.length x = true) : Dh (BW m f o c h) = true := by
 have hk := Ig hv
 have e1 : Jd (fun _ x => Fi m.1 m.2.1.length x) 0 h = true := Vk.2 fun j hj => hi _ (qp hj)
 show (Ad m && (decide (([] : List (List Kb)).length ≤ 4) && (Vd h && (true && (Jd (fun _ x => Fi m.1 m.2.1.length x) 0 h &&
  (decide (0 ≤ f ∧ f < ((2 ^ m.2.1.length : Nat) : Int)) && ((Int.tmod f 2 == 0) && decide (0 ≤ o ∧ o ≤ 15)))))))) = true
 rw [hv, hh, e1, Ba (⟨hs.f0, hs.f1⟩ : 0 ≤ f ∧ f < ((2 ^ m.2.1.length : Nat) : Int)), Ba (⟨hs.o0, hs.o1⟩ : 0 ≤ o ∧ o ≤ 15), hs.f2]
 rfl
theorem Vaf (m : Ab) (f o : Int) (c : Bool) (h : List Ja) : Xb Ub (BW m f o c h) = Xb Qb m + h.length := by
 rw [Nl, Kl]
 have : Xb (.sl (.sl Xc)) (BW m f o c h).2.1 = 0 := rfl
 rw [this, js]; rfl
theorem E4 {nl : Nat} (h4 : nl ≤ 4) {f o : Int} (hs : RM nl f o) : 0 ≤ f ∧ f ≤ 15 := by
 have := Xal h4
 have h1 := hs.f1
 have h0 := hs.f0
 omega
theorem RR (e : Va) (k : Int) (hn : e.2.2.2.1.length ≤ Ga) : JA e k = some (Ec (fun h => h.1 == k) 0 e.2.2.2.1, ()) := by
 have h20 : Ga = 1048576 := rfl
 have hl := PA (step := fun x => Rs x.1.1 x.1.2.1 x.1.2.2.1 x.1.2.2.2.1) e.2.2.2.1 (fun h => h.1 == k) (fun i => ((k, e.2.2.2.1, ((ja e.2.2.2.1 : Nat) : Int), i, ()), ())) (.inl ((), ())) (fun i => .inr ((i, ()), ()))
  (by
   intro j hj
   simp only [Rs]
   rw [Ba (show (j : Int) < ((ja e.2.2.2.1 : Nat) : Int) by omega), Zb hj]
   simp only [cond_true, jb]
   cases e.2.2.2.1[j].1 == k <;> rfl) (by
   simp only [Rs]
   rw [Ca (by omega)]; rfl) (by omega)
 unfold JA Wt
 erw [hl]
 simp only [jb]
 by_cases hc : Ec (fun h : Ja => h.1 == k) 0 e.2.2.2.1 = -1
 ·rw [if_pos hc, hc]; rfl
 ·rw [if_neg hc]; rfl
theorem HG (e : Va) (k : Int) (hn : e.2.2.2.1.length ≤ Ga) : Ow e k = some (Ec (fun h => h.1 == k) 0 e.2.2.2.1, ()) := by
 have h20 : Ga = 1048576 := rfl
 have hl := PA (step := fun x => Ft x.1.1 x.1.2.1 x.1.2.2.1 x.2.1) e.2.2.2.1 (fun h => h.1 == k) (fun i => ((k, (), i, ()), (e, ()))) (.inl ((), ())) (fun i => .inr ((i, ()), ()))
  (by
   intro j hj
   simp only [Ft]
   rw [Ba (show (j : Int) < ((ja e.2.2.2.1 : Nat) : Int) by omega), Zb hj]
   simp only [cond_true, jb]
   cases e.2.2.2.1[j].1 == k <;> rfl) (by
   simp only [Ft]
   rw [Ca (by omega)]; rfl) (by omega)
 unfold Ow Nu
 erw [hl]
 simp only [jb]
 by_cases hc : Ec (fun h : Ja => h.1 == k) 0 e.2.2.2.1 = -1
 ·rw [if_pos hc, hc]; rfl
 ·rw [if_neg hc]; rfl
theorem GK (a b : Aa) (hn : a.2.1.length ≤ Ya) : It a b = some (Wi a b, ()) := by
 have hlim := Bf
 unfold It Wi
 simp only [bne]
 cases (show Int from a.1) == (show Int from b.1) with
 | false => rfl
 | true =>
  by_cases h : a.2.1.length = b.2.1.length
  ·have hl := Eh (step := fun x => Yl x.1.1 x.1.2.1 x.1.2.2.1 x.2.1 x.2.2.1) a.2.1 (fun k x => b.2.1.getD k 0 == x) (fun i => (((), (), i, ()), (a, b, ())))
    (.inl ((), ())) (.inr ((false, ()), ())) (by
     intro k hk
     simp only [Yl]
     rw [Ba (show (k : Int) < ((ja a.2.1 : Nat) : Int) by omega), Zb hk, Zb (show k < b.2.1.length by omega), qi, je (show k < b.2.1.length by omega)]
     simp only [cond_true, jb, Option.getD_some, bne]
     rw [show (a.2.1[k] == b.2.1[k]) = (b.2.1[k] == a.2.1[k]) by rw [qu, beq_iff_eq, beq_iff_eq]; exact eq_comm]
     cases b.2.1[k] == a.2.1[k] <;> rfl) (by
     simp only [Yl]
     rw [Ca (by omega)]; rfl) (by omega)
   have e : (((ja a.2.1 : Nat) : Int) == ((ja b.2.1 : Nat) : Int)) = true := by simp [h]
   rw [e]
   simp only [jg, cond_false, jk]
   unfold Xn
   erw [hl]
   rw [TW a.2.1 b.2.1 h, show (b.2.1 == a.2.1) = (a.2.1 == b.2.1) by rw [qu, beq_iff_eq, beq_iff_eq]; exact eq_comm]
   cases a.2.1 == b.2.1 <;> rfl
  ·have e : (((ja a.2.1 : Nat) : Int) == ((ja b.2.1 : Nat) : Int)) = false := by simp; omega
   have e2 : (a.2.1 == b.2.1) = false := by rw [beq_eq_false_iff_ne]; intro hh; exact h (by rw [hh])
   rw [e, e2]; rfl
def E6 (s : Aa × List Aa) (x : Aa) : Aa × List Aa := (x, cond (Wi s.1 x) s.2 (jf s.2 [x]))
theorem XV : ∀ (l : List Aa) (k : Nat) (a : Aa) (o : List Aa), (Gc (fun _ s x => E6 s x) k (a, o) l).2 = jf o (Iq Wi a l)
 | [], _, _, o => by simp [Gc, Iq]
 | x :: l, k, a, o => by
  have ih := XV l (k + 1) x (cond (Wi a x) o (jf o [x]))
  show (Gc (fun _ s x => E6 s x) (k + 1) (x, cond (Wi a x) o (jf o [x])) l).2 = _
  rw [ih]
  simp only [Iq]
  cases Wi a x <;> simp
theorem WE (a : Aa) (l : List Aa) (hn : l.length ≤ Ga) (ha : a.2.1.length ≤ Ga) (hx : ∀ x ∈ l, x.2.1.length ≤ Ga) : Qf a l = some (Iq Wi a l, ()) := by
 have h20 : Ga = 1048576 := rfl
 have hlim := Bf
 have hl := (Ae (step := fun x => Jn x.1.1 x.1.2.1 x.1.2.2.1 x.1.2.2.2.1 x.2.1) l (fun _ s x => E6 s x) (fun s i => ((l, (), s.2, i, ()), (s.1, ()))) (fun s => .inl ((s.2, ()), ())) (fun k s => s.2.length ≤ k ∧ s.1.2.1.length ≤ Ga) (by
  intro k hk s ⟨hs1, hs2⟩
  have hxk := hx _ (qp hk)
  refine ⟨?_, ?_, hxk⟩
  ·simp only [Jn]
   rw [Ba (show (k : Int) < ((ja l : Nat) : Int) by omega), Zb hk]
   simp only [cond_true, jb]
   rw [GK _ _ (by omega), LS _ hxk]
   simp only [jb, E6]
   rw [show jx (ja s.2 + ja ([l[k]] : List Aa)) Ya = true from ji (by simp only [jw, j7]; omega)]
   cases Wi s.1 l[k] <;> rfl
  ·unfold E6
   cases Wi s.1 l[k] with
   | true => show s.2.length ≤ k + 1; omega
   | false => show (jf s.2 [l[k]]).length ≤ k + 1; simp; omega)
  (by
   intro s _
   simp only [Jn]
   rw [Ca (by omega)]; rfl) (by omega) (a, []) ⟨jo _, ha⟩).1
 unfold Qf Wp
 erw [hl]
 have := XV l 0 a []
 simp only [jb, qj]
 rw [this]; simp
theorem EE (a : Aa) (l : List Aa) (hn : l.length ≤ Ga) (ha : a.2.1.length ≤ Ga) (hx : ∀ x ∈ l, x.2.1.length ≤ Ga) : Zd a l = some (Iq Wi a l, ()) := by
 have h20 : Ga = 1048576 := rfl
 have hlim := Bf
 unfold Zd X3
 have e : (jx (ja l) Ya && (MD a && l.all MD)) = true := by
  rw [jd, jd, List.all_eq_true]
  refine ⟨ji (by omega), ji (by show ja a.2.1 ≤ _; omega), fun x hm => ji ?_⟩
  have := hx x hm
  show ja x.2.1 ≤ _
  omega
 rw [e]; rfl
theorem WC : ∀ (l : List Aa) (a : Aa), (Iq Wi a l).length ≤ l.length
 | [], _ => by simp [Iq]
 | x :: l, a => by
  have := WC l x
  simp only [Iq]
  cases Wi a x <;> simp <;> omega
theorem Ky (l : List Ja) : (Tb l).2.1.length ≤ 56 := DH l 56
theorem Gz : ∀ (l : List Aa) (a x : Aa), x ∈ Iq Wi a l → x ∈ l
 | [], _, x, h => by simp [Iq] at h
 | y :: l, a, x, h => by
  simp only [Iq] at h
  cases hs : Wi a y with
  | true => rw [hs] at h; exact jr _ (Gz l y x h)
  | false =>
   rw [hs] at h
   rcases jp.1 h with h | h
   ·exact h ▸ qv ..
   ·exact jr _ (Gz l y x h)
noncomputable def Baw (m : Ab) (f : Int) (k : Nat) : La := LB (Xh m.2.1 (Zg m (Nd .i64 1 f) k) k)
noncomputable def stK (m : Ab) (f o : Int) (c : Bool) (k : Nat) : Int × Int × Bool × La := Zv f o c (Baw m f k)
noncomputable def hK (m : Ab) (f o : Int) (c : Bool) (k : Nat) : List Ja := [((k : Int), (stK m f o c k).2.2.2, ())]
structure Oae (m : Ab) : Prop where
 v : Ad m = true
 z : Xb Qb m ≤ Ga - 10
theorem z20 {m : Ab} (hM : Oae m) (f o : Int) (c : Bool) (h : List Ja) (hh : h.length ≤ 1) : Xb Ub (BW m f o c h) ≤ Ga := by
 have h20 : Ga = 1048576 := rfl
 have := hM.z
 rw [Vaf]; omega
theorem SE (l : List Ja) : (Tb l).2.1.length ≤ Ga := by
 have h20 : Ga = 1048576 := rfl
 have := Ky l
 omega
theorem Zap : Vd [] = true := rfl
theorem KQ {m : Ab} (hv : Ad m = true) : Oae m := by
 have hm := Ig hv
 refine ⟨hv, ?_⟩
 have h20 : Ga = 1048576 := rfl
 have h1 : Xb Qb m = 0 + (Xb (.sl (.sl Lc)) m.2.1 + 0) := rfl
 have h2 : Xb (.sl (.sl Lc)) m.2.1 ≤ (32 + 1) * ja m.2.1 := XH (e := .sl Lc) (c := 32) fun x hx => by
  obtain ⟨i, hi, rfl⟩ := qr hx
  rw [ZQ]
  have := hm.row i hi
  have := hm.k2
  omega
 have := hm.l2
 omega
abbrev St := (Int × Int × Bool) × List Aa
structure Uaz (m : Ab) (k : Nat) (s : St) : Prop where
 st : RM m.2.1.length s.1.1 s.1.2.1
 len : s.2.length ≤ 2 * k
 rep : ∀ x ∈ s.2, x.2.1.length ≤ 56
theorem FM {n i : Nat} {a : La} (h : RC (n : Int) a) : Cf n i a = true := by
 obtain ⟨h1, h2, h3⟩ := h
 unfold Cf
 rw [h1]
 have e1 : (a.1 == 1) = false := by simp; exact h2
 rw [e1]
 rcases h3 with h | h
 ·simp [h]
 ·simp; exact .inr h
theorem W4 {n i : Nat} (hi : 0 < i) (hn : 1 ≤ n) : Cf n i ((1 : Int), (0 : Int), (0 : Int), (0 : Int), ()) = true := by
 unfold Cf
 have : Ac ((1 : Int), (0 : Int), (0 : Int), (0 : Int), ()) = true := (Ib _).2 (by simp [Ob])
 rw [this]
 have hi' : ((i : Int) == 0) = false := by simp; omega
 rw [hi']
 simp; omega
theorem TS {α : Type} {p : Nat → α → Bool} {xs : List α} {x : α} (h : Jd p 0 xs = true) (hx : p xs.length x = true) : Jd p 0 (xs ++ [x]) = true := by
 rw [Vk] at h ⊢
 intro j hj
 rw [qe, List.length_singleton] at hj
 rw [List.getElem_append]
 split
 ·rename_i h1; exact h j h1
 ·have : j = xs.length := by omega
  subst this
  simpa using hx
theorem Uab {c : Ta} (hc : Ng c) {keys n i : Nat} (hk : keys ≤ 32) (hn : 1 ≤ n) (hn4 : n ≤ 4) (b4 b6 : Ab) :
 ∃ (c' : Ta) (row : List La), Wu (((), (keys : Int), (), (n : Int), (), (i : Int), ([] : List La), (0 : Int), ()), (c, b4, b6, ())) = some (.inl (((), (keys : Int), (), (n : Int), (), (i : Int), row, ()), (c', b4, b6, ()))) ∧
  Ng c' ∧ row.length = keys ∧ Jd (fun _ a => Cf n i a) 0 row = true := by
 have hlim : Ya = 1073741824 := rfl
 have := Cq (s := fun x : ((Unit × (Int × (Unit × (Int × (Unit × (Int × ((List La) × (Int × Unit)))))))) × (Ta × (Ab × (Ab × Unit)))) => Vy x.1.1 x.1.2.1 x.1.2.2.1 x.1.2.2.2.1 x.1.2.2.2.2.1 x.1.2.2.2.2.2.1 x.1.2.2.2.2.2.2.1 x.1.2.2.2.2.2.2.2.1 x.2.1 x.2.2.1 x.2.2.2.1)
  (fun m x => ∃ (c' : Ta) (row : List La) (k : Nat), x = (((), (keys : Int), (), (n : Int), (), (i : Int), row, (k : Int), ()), (c', b4, b6, ())) ∧ m + k = keys ∧ row.length = k ∧ Ng c' ∧ Jd (fun _ a => Cf n i a) 0 row = true)
  (fun r => ∃ (c' : Ta) (row : List La), r = .inl (((), (keys : Int), (), (n : Int), (), (i : Int), row, ()), (c', b4, b6, ())) ∧ Ng c' ∧ row.length = keys ∧ Jd (fun _ a => Cf n i a) 0 row = true) (by
  rintro m x ⟨c', row, k, rfl, hm, hl, hc', hr⟩
  simp only [Vy]
  by_cases h1 : (k : Int) < (keys : Int)
  ·rw [Ba h1]
   obtain ⟨c1, a, e1, hc1, ha⟩ := I7 hc' (n : Int) (by omega) (by omega)
   rw [e1]
   simp only [cond_true, jb]
   have room : ∀ z : La, jx (ja row + ja [z]) Ya = true := fun z => ji (by simp; omega)
   rw [Ze (by omega)]
   have Cg : ∀ (z : La) (c2 : Ta), Cf n i z = true → Ng c2 → ∃ c' row' k', (((), (keys : Int), (), (n : Int), (), (i : Int), jf row [z], ((k + 1 : Nat) : Int), ()), (c2, b4, b6, ())) = (((), (keys : Int), (), (n : Int), (), (i : Int), row', ((k' : Nat) : Int), ()), (c', b4, b6, ())) ∧ (m - 1) + k' = keys ∧ ja row' = k' ∧ Ng c' ∧ Jd (fun _ a => Cf n i a) 0 row' = true :=
    fun z c2 hz h2 => ⟨c2, _, k + 1, rfl, by omega, by simp [hl], h2, TS hr hz⟩
   by_cases h2 : (i : Int) > 0
   ·rw [Ba h2]
    obtain ⟨c2, b, e2, hc2⟩ := IL hc1 3 (by omega)
    rw [e2]
    simp only [cond_true, jb, room]
    cases b with
    | true => exact .inr ⟨_, m - 1, by omega, rfl, Cg _ _ (W4 (by omega) hn) hc2⟩
    | false => exact .inr ⟨_, m - 1, by omega, rfl, Cg _ _ (FM ha) hc2⟩
   ·rw [Ca h2]
    simp only [cond_true, cond_false, room]
    exact .inr ⟨_, m - 1, by omega, rfl, Cg _ _ (FM ha) hc1⟩
  ·rw [Ca h1]; exact .inl ⟨_, rfl, c', row, rfl, hc', by omega, hr⟩) keys (((), (keys : Int), (), (n : Int), (), (i : Int), ([] : List La), ((0 : Nat) : Int), ()), (c, b4, b6, ())) ⟨c, [], 0, rfl, rfl, rfl, hc, rfl⟩
 obtain ⟨r, e, c', row, rfl, h⟩ := this
 exact ⟨c', row, e, h⟩
theorem J7 {c : Ta} (hc : Ng c) {keys : Nat} (hk1 : 1 ≤ keys) (hk : keys ≤ 32) : ∃ (c' : Ta) (m : Ab), WA c (keys : Int) = some (c', (m, ())) ∧ Ng c' ∧ Ad m = true ∧ m.1 = (keys : Int) := by
 have hlim : Ya = 1073741824 := rfl
 obtain ⟨c1, x1, e1, hc1, b1⟩ := Kg hc 4 (by omega)
 obtain ⟨n0, rfl⟩ := jv b1.1
 obtain ⟨n, hn⟩ : ∃ n : Nat, n = n0 + 1 := ⟨_, rfl⟩
 have hw : j5 .i64 ((1 : Int) + (n0 : Int)) = (n : Int) := by rw [Hc (by omega) (by omega)]; omega
 unfold WA
 rw [e1]
 simp only [jb, hw]
 have := Cq (s := fun x : ((Unit × (Int × (Unit × (Int × (Unit × (Int × Unit)))))) × (Ta × (Ab × (Ab × Unit)))) => Uy x.1.1 x.1.2.1 x.1.2.2.1 x.1.2.2.2.1 x.1.2.2.2.2.1 x.1.2.2.2.2.2.1 x.2.1 x.2.2.1 x.2.2.2.1)
  (fun m x => ∃ (c' : Ta) (L : List (List La)) (k : Nat), x = (((), (keys : Int), (), (n : Int), (), (k : Int), ()), (c', ((0 : Int), ([] : List (List La)), ()), ((keys : Int), L, ()), ())) ∧ m + k = n ∧ L.length = k ∧ Ng c' ∧ Jd (fun i l => Pf (keys : Int) n i l) 0 L = true)
  (fun r => ∃ (c' : Ta) (L : List (List La)), r = .inl (((), (), (), ()), (c', ((0 : Int), ([] : List (List La)), ()), ((keys : Int), L, ()), ())) ∧ Ng c' ∧ L.length = n ∧ Jd (fun i l => Pf (keys : Int) n i l) 0 L = true) (by
  rintro m x ⟨c', L, k, rfl, hm, hl, hc', hr⟩
  simp only [Uy]
  by_cases h1 : (k : Int) < (n : Int)
  ·rw [Ba h1]
   obtain ⟨c2, row, e2, hc2, hrow, hall⟩ := Uab hc' (i := k) hk (show 1 ≤ n by omega) (show n ≤ 4 by omega) ((0 : Int), ([] : List (List La)), ()) ((keys : Int), L, ())
   erw [e2]
   simp only [cond_true, jb, qj]
   rw [show jx (ja L + ja [row]) Ya = true from ji (by simp; omega), Ze (by omega)]
   refine .inr ⟨_, m - 1, by omega, rfl, c2, _, k + 1, rfl, by omega, by simp [hl], hc2, ?_⟩
   refine TS hr ?_
   unfold Pf
   rw [hl, hall, hrow]
   simp
  ·rw [Ca h1]; exact .inl ⟨_, rfl, c', L, rfl, hc', by omega, hr⟩) n (((), (keys : Int), (), (n : Int), (), ((0 : Nat) : Int), ()), (c1, ((0 : Int), ([] : List (List La)), ()), ((keys : Int), ([] : List (List La)), ()), ())) ⟨c1, [], 0, rfl, rfl, rfl, hc1, rfl⟩
 obtain ⟨r, e, c', L, rfl, hc', hL, hall⟩ := this
 unfold Vu
 erw [e]
 refine ⟨c', ((keys : Int), L, ()), rfl, hc', ?_, rfl⟩
 unfold Ad
 simp only [jd, decide_eq_true_eq]
 refine ⟨⟨by omega, by omega⟩, ?_⟩
 show Jd (fun i l => Pf (keys : Int) L.length i l) 0 L = true
 rw [hL]; exact hall
theorem UV {α : Type} {p : Nat → α → Bool} {xs : List α} {i : Nat} {x : α} (h : Jd p 0 xs = true) (hx : p i x = true) : Jd p 0 (j6 xs i x) = true := by
 rw [Vk] at h ⊢
 intro j hj
 rw [j8] at hj
 rw [List.getElem_set]
 split
 ·rename_i e; subst e; simpa using hx
 ·exact h j hj
theorem UY {keys : Int} {n i : Nat} {l : List La} {k : Nat} {a : La} (h : Pf keys n i l = true) (ha : Cf n i a = true) : Pf keys n i (j6 l k a) = true := by
 unfold Pf at h ⊢
 rw [jd] at h ⊢
 exact ⟨by rw [j8]; exact h.1, UV h.2 ha⟩
theorem TY {keys : Int} {n i : Nat} {l : List La} (h : Pf keys n i l = true) : (l.length : Int) = keys := by
 unfold Pf at h
 rw [jd] at h
 simpa using h.1
def Vi (p : Int → Bool) : Nat → List Int
 | 0 => []
 | n + 1 => cond (p ((n + 1 : Nat) : Int)) (Vi p n ++ [((n + 1 : Nat) : Int)]) (Vi p n)
theorem ME (p : Int → Bool) : ∀ (n : Nat) (x : Int), x ∈ Vi p n ↔ (1 ≤ x ∧ x ≤ (n : Int)) ∧ p x = true
 | 0, x => by simp [Vi]; intro h1 h2; omega
 | n + 1, x => by
  simp only [Vi]
  cases hc : p ((n + 1 : Nat) : Int) with
  | true =>
   simp only [cond_true, jl, ME p n x, jp, List.not_mem_nil, or_false]
   constructor
   ·rintro (⟨h1, h2⟩ | rfl)
    ·exact ⟨by omega, h2⟩
    ·exact ⟨by omega, hc⟩
   ·rintro ⟨h1, h2⟩
    by_cases hx : x = ((n + 1 : Nat) : Int)
    ·exact .inr hx
    ·exact .inl ⟨by omega, h2⟩
  | false =>
   simp only [cond_false, ME p n x]
   constructor
   ·rintro ⟨h1, h2⟩; exact ⟨by omega, h2⟩
   ·rintro ⟨h1, h2⟩
    refine ⟨?_, h2⟩
    by_cases hx : x = ((n + 1 : Nat) : Int)
    ·rw [hx, hc] at h2; simp at h2
    ·omega
theorem PJ (p : Int → Bool) : ∀ n, (Vi p n).length ≤ n
 | 0 => by simp [Vi]
 | n + 1 => by
  have := PJ p n
  simp only [Vi]
  cases p ((n + 1 : Nat) : Int) <;> simp <;> omega
theorem YC (l : List Ja) : ∀ n, Yh l n = Vi (fun c => l.any fun h => h.2.1.2.1 == c) n
 | 0 => rfl
 | n + 1 => by simp only [Yh, Vi, YC l n]
theorem QN (cs : List Int) (hn : cs.length ≤ Ga) (hx : ∀ c ∈ cs, 0 ≤ c ∧ c ≤ 56) : Lp cs = some (Vi (fun c => cs.any (fun y => y == c)) 56, ()) := by
 have := HE (cs.map fun c => ((0, (0, c, 0, 0, ()), ()) : Ja)) (by simpa using hn) (fun h hh => by
  obtain ⟨c, hc, rfl⟩ := qs.1 hh
  exact hx c hc)
 rw [List.map_map] at this
 have e : List.map ((fun h : Ja => h.2.1.2.1) ∘ fun c => ((0, (0, c, 0, 0, ()), ()) : Ja)) cs = cs := by
  rw [show ((fun h : Ja => h.2.1.2.1) ∘ fun c => ((0, (0, c, 0, 0, ()), ()) : Ja)) = id from rfl, List.map_id]
 rw [e] at this
 rw [this, YC]
 congr 3
 funext c
 rw [List.any_map]
 rfl
def U4 (s : Int) (D : List Jb) : Int := Gc (fun _ s (p : Jb) => Nd .i64 s p.2.1) 0 s D
def Mv (b : Aa) (D : List Jb) : Aa := (U4 b.1 D, Vi (fun c => b.2.1.any (fun y => y == c) || D.any (fun p => p.1 == c)) 56, ())
theorem RL (b : Aa) (D : List Jb) (hb : b.2.1.length ≤ 56) (hD : D.length ≤ 1000) (hbx : ∀ c ∈ b.2.1, 0 ≤ c ∧ c ≤ 56) (hDx : ∀ p ∈ D, 0 ≤ p.1 ∧ p.1 ≤ 56) :
 Qe b D = some (Mv b D, ()) := by
 have h20 : Ga = 1048576 := rfl
 have hl := (Ae (step := fun x => Xm x.1.1 x.1.2.1 x.1.2.2.1 x.1.2.2.2.1 x.1.2.2.2.2.1 x.1.2.2.2.2.2.1 x.2.1 x.2.2.1) D
  (fun _ (s : Int × List Int) (p : Jb) => (Nd .i64 s.1 p.2.1, jf s.2 [p.1])) (fun s i => (((), (), s.2, D, ((ja D : Nat) : Int), i, ()), (((0 : Int), ([] : List Int), ()), (s.1, ([] : List Int), ()), ())))
  (fun s => .inl (((), (), s.2, ()), (((0 : Int), ([] : List Int), ()), (s.1, ([] : List Int), ()), ()))) (fun k s => s.2.length = b.2.1.length + k) (by
   intro k hk s hs
   refine ⟨?_, by simp [hs]; omega⟩
   simp only [Xm]
   rw [Ba (show (k : Int) < ((ja D : Nat) : Int) by omega), Zb hk]
   simp only [cond_true, jb]
   rw [show jx (ja s.2 + ja ([D[k].1] : List Int)) Ya = true from ji (by simp only [jw, j7, Bf]; omega)]
   rfl)
  (by
   intro s _
   simp only [Xm]
   rw [Ca (by omega)]; rfl) (by omega) (b.1, b.2.1) (by simp)).1
 have key : ∀ (D : List Jb) (k : Nat) (s : Int × List Int), Gc (fun _ (s : Int × List Int) (p : Jb) => (Nd .i64 s.1 p.2.1, jf s.2 [p.1])) k s D =
  (Gc (fun _ s (p : Jb) => Nd .i64 s p.2.1) k s.1 D, s.2 ++ D.map fun p => p.1) := by
  intro D
  induction D with
  | nil => intro k s; simp [Gc]
  | cons x D ih => intro k s; simp only [Gc]; rw [ih]; simp
 unfold Qe Pp
 rw [Jx _ (by omega)]
 simp only [jb]
 erw [hl]
 rw [key]
 simp only [jb, qj]
 rw [QN _ (by simp; omega) (fun c hc => by
  rcases jl.1 hc with h | h
  ·exact hbx c h
  ·obtain ⟨p, hp, rfl⟩ := qs.1 h
   exact hDx p hp)]
 simp only [jb, Mv, U4]
 congr 4
 apply congrArg (fun p => Vi p 56)
 funext c
 rw [List.any_append, List.any_map]
 rfl
abbrev zR : Aa := ((0 : Int), ([] : List Int), ())
theorem ZI {α : Type} (p : α → Bool) : ∀ (l : List α) (k : Nat) (b : Bool), Gc (fun _ b x => cond b true (p x)) k b l = (b || l.any p)
 | [], _, b => by simp [Gc]
 | x :: l, k, b => by
  simp only [Gc, List.any_cons]
  rw [ZI p l (k + 1)]
  cases b <;> cases p x <;> rfl
theorem FY (D : List Ja) (b : Aa) (K : List Int) (c : Int) (has : Bool) (hb : b.2.1.length ≤ Ga) :
 Bk ((D, (), (), K, c, has, (0 : Int), ()), (zR, b, ())) = some (.inl ((D, (), (), K, c, has || b.2.1.any (fun y => y == c), ()), (zR, b, ()))) := by
 have h20 : Ga = 1048576 := rfl
 have hl := (Ae (step := fun x => Gn x.1.1 x.1.2.1 x.1.2.2.1 x.1.2.2.2.1 x.1.2.2.2.2.1 x.1.2.2.2.2.2.1 x.1.2.2.2.2.2.2.1 x.2.1 x.2.2.1) b.2.1 (fun _ s y => cond s true (y == c)) (fun s i => ((D, (), (), K, c, s, i, ()), (zR, b, ())))
  (fun s => .inl ((D, (), (), K, c, s, ()), (zR, b, ()))) (fun _ _ => True) (by
   intro k hk s _
   refine ⟨?_, trivial⟩
   simp only [Gn]
   rw [Ba (show (k : Int) < ((ja b.2.1 : Nat) : Int) by omega), show Lh (ja b.2.1) (k : Int) = true by rw [Im]; exact Ba hk, jn, je hk]
   simp only [cond_true, jb]
   cases s <;> rfl)
  (by
   intro s _
   simp only [Gn]
   rw [Ca (by omega)]; rfl) (by omega) has trivial).1
 unfold Bk
 erw [hl]
 rw [ZI (fun y : Int => y == c)]
theorem EY (D : List Ja) (b : Aa) (K : List Int) (c : Int) (has : Bool) (hD : D.length ≤ Ga) :
 Ck ((D, (), (), K, c, has, (0 : Int), ()), (zR, b, ())) = some (.inl ((D, (), (), K, c, has || D.any (fun h => h.2.1.2.1 == c), ()), (zR, b, ()))) := by
 have h20 : Ga = 1048576 := rfl
 have hl := (Ae (step := fun x => Hn x.1.1 x.1.2.1 x.1.2.2.1 x.1.2.2.2.1 x.1.2.2.2.2.1 x.1.2.2.2.2.2.1 x.1.2.2.2.2.2.2.1 x.2.1 x.2.2.1) D (fun _ s (h : Ja) => cond s true (h.2.1.2.1 == c)) (fun s i => ((D, (), (), K, c, s, i, ()), (zR, b, ())))
  (fun s => .inl ((D, (), (), K, c, s, ()), (zR, b, ()))) (fun _ _ => True) (by
   intro k hk s _
   refine ⟨?_, trivial⟩
   simp only [Hn]
   rw [Ba (show (k : Int) < ((ja D : Nat) : Int) by omega), Zb hk]
   simp only [cond_true, jb]
   cases s <;> rfl)
  (by
   intro s _
   simp only [Hn]
   rw [Ca (by omega)]; rfl) (by omega) has trivial).1
 unfold Ck
 erw [hl]
 rw [ZI (fun h : Ja => h.2.1.2.1 == c)]
theorem Px (l D : List Ja) (hn : l.length ≤ Ga) (hv : Vd l = true) (hD : D.length ≤ 1000) : Ug l D = some (Mv (Tb l) (D.map Tc), ()) := by
 have h20 : Ga = 1048576 := rfl
 have h1 := (Ae (step := fun x => Uo x.1.1 x.1.2.1 x.1.2.2.1 x.1.2.2.2.1 x.2.1 x.2.2.1) D (fun _ s (h : Ja) => Nd .i64 s h.2.1.2.2.1) (fun s i => ((D, (), (), i, ()), (zR, ((s, (Tb l).2.1, ()) : Aa), ())))
  (fun s => .inl ((D, (), (), ()), (zR, ((s, (Tb l).2.1, ()) : Aa), ()))) (fun _ _ => True) (by
   intro k hk s _
   refine ⟨?_, trivial⟩
   simp only [Uo]
   rw [Ba (show (k : Int) < ((ja D : Nat) : Int) by omega), Zb hk]; rfl)
  (by
   intro s _
   simp only [Uo]
   rw [Ca (by omega)]; rfl) (by omega) (Tb l).1 trivial).1
 have hm : ∀ (D : List Ja) (k : Nat) (s : Int), Gc (fun _ s (h : Ja) => Nd .i64 s h.2.1.2.2.1) k s D = Gc (fun _ s (p : Jb) => Nd .i64 s p.2.1) k s (D.map Tc) := by
  intro D
  induction D with
  | nil => intro k s; rfl
  | cons x D ih => intro k s; simp only [Gc, List.map_cons]; exact ih _ _
 generalize hms : Gc (fun _ s (h : Ja) => Nd .i64 s h.2.1.2.2.1) 0 (Tb l).1 D = ms at h1
 have hms' : U4 (Tb l).1 (D.map Tc) = ms := by rw [← hms, hm]; rfl
 let pr : Int → Bool := fun c => (Tb l).2.1.any (fun y => y == c) || D.any (fun h => h.2.1.2.1 == c)
 have h2 := MT (step := fun x => Vo x.1.1 x.1.2.1 x.1.2.2.1 x.1.2.2.2.1 x.1.2.2.2.2.1 x.2.1 x.2.2.1) (fun k => ((D, (), (), Vi pr k, ((k + 1 : Nat) : Int), ()), (zR, ((ms, (Tb l).2.1, ()) : Aa), ()))) 56
  (.inl (((), (), Vi pr 56, ()), (zR, ((ms, (Tb l).2.1, ()) : Aa), ()))) (by
   intro k hk
   simp only [Vo]
   have hlen := PJ pr k
   rw [Ba (show ((k + 1 : Nat) : Int) ≤ 56 by omega), FY D _ _ _ _ (by have := Ky l; show (Tb l).2.1.length ≤ _; omega)]
   simp only [cond_true, jb, qj]
   rw [EY D _ _ _ _ (by omega)]
   simp only [jb, qj]
   rw [show jx (ja (Vi pr k) + ja ([((k + 1 : Nat) : Int)] : List Int)) Ya = true from ji (by simp only [jw, j7, Bf]; omega), Ze (by omega)]
   simp only [Vi, pr, Bool.false_or, cond_true]
   cases ((Tb l).2.1.any (fun y => y == ((k + 1 : Nat) : Int)) || D.any (fun h => h.2.1.2.1 == ((k + 1 : Nat) : Int))) <;> rfl) (by
   simp only [Vo]
   rw [Ca (by decide)]; rfl)
 unfold Ug Gr Hr
 rw [Br l hn hv]
 simp only [jb]
 erw [h1]
 simp only [jb, qj]
 erw [h2]
 simp only [jb, qj]
 unfold Mv
 rw [hms']
 congr 4
 apply congrArg (fun p => Vi p 56)
 funext c
 simp only [pr, List.any_map]
 rfl
noncomputable def rM (L : List Ja) (x : Kb) : Int := Ec (Ue x.2.1 x.2.2.1) 0 L
noncomputable def TE (b : Aa) (L : List Ja) (x : Kb) : List Aa :=
 cond (x.1 == 0) [Mv b ((jf L [Td x]).map Tc), Mv b (L.map Tc)] [Mv b ((Iu x L (rM L x)).map Tc)]
noncomputable def mG (b : Aa) (s : List Aa × List Ja) (x : Kb) : List Aa × List Ja := (jf s.1 (TE b s.2 x), Iu x s.2 (rM s.2 x))
noncomputable def ID (b : Aa) (l : List Kb) : List Aa := (Gc (fun _ s x => mG b s x) 0 ([], []) l).1
theorem YL {α : Type} (p : α → Bool) : ∀ (xs : List α) (k : Nat) (y : α), Ec p k xs = -1 → p y = true → Ec p k (xs ++ [y]) = ((k + xs.length : Nat) : Int)
 | [], k, y, _, hy => by simp only [List.nil_append, Ec, hy, cond_true]; simp
 | x :: xs, k, y, h, hy => by
  simp only [Ec] at h
  simp only [List.cons_append, Ec]
  cases hx : p x with
  | true => rw [hx] at h; simp only [cond_true] at h; omega
  | false =>
   rw [hx] at h
   simp only [cond_false] at h ⊢
   rw [YL p xs (k + 1) y h hy, jw]
   omega
structure CR (l : List Kb) (k : Nat) (s : List Aa × List Ja) : Prop where
 ok : ∃ L', Cc (fun _ L x => Di L x) k s.2 (l.drop k) = .inl L'
 len : s.2.length ≤ k
 out : s.1.length ≤ 2 * k
 cod : ∀ h ∈ s.2, 0 ≤ h.2.1.2.1 ∧ h.2.1.2.1 ≤ 56
theorem UW {l : List Kb} {k : Nat} (hk : k < l.length) {b : Aa} {s : List Aa × List Ja} (hi : CR l k s) : Ii l[k] (rM s.2 l[k]) = true ∧ CR l (k + 1) (mG b s l[k]) := by
 obtain ⟨L', hL⟩ := hi.ok
 rw [List.drop_eq_getElem_cons hk] at hL
 simp only [Cc] at hL
 unfold rM
 cases hc : Ii l[k] (Ec (Ue l[k].2.1 l[k].2.2.1) 0 s.2) with
 | false =>
  have : Di s.2 l[k] = .inr () := by unfold Di; rw [hc]; rfl
  rw [this] at hL; simp at hL
 | true =>
  have hm : Di s.2 l[k] = .inl (Iu l[k] s.2 (rM s.2 l[k])) := by unfold Di rM; rw [hc]; rfl
  rw [hm] at hL
  refine ⟨rfl, ⟨L', hL⟩, ?_, ?_, ?_⟩
  ·have := XR hm
   have := hi.len
   show (Iu l[k] s.2 (rM s.2 l[k])).length ≤ k + 1
   omega
  ·have := hi.out
   show (jf s.1 (TE b s.2 l[k])).length ≤ _
   unfold TE
   cases l[k].1 == 0 <;> simp <;> omega
  ·have hcode : 0 ≤ l[k].2.1 ∧ l[k].2.1 ≤ 56 := by
    simp only [Ii, jd] at hc
    exact BA hc.1
   intro h hh
   have hh' : h ∈ Iu l[k] s.2 (rM s.2 l[k]) := hh
   unfold Iu at hh'
   cases h1 : l[k].1 == 1 with
   | true =>
    rw [h1] at hh'
    rcases jl.1 (show h ∈ s.2 ++ [Td l[k]] from hh') with hh' | hh'
    ·exact hi.cod h hh'
    ·simp only [jp, List.not_mem_nil, or_false] at hh'
     rw [hh']; exact hcode
   | false =>
    rw [h1] at hh'
    cases h2 : l[k].1 == 2 with
    | true =>
     rw [h2] at hh'
     have hsub : h ∈ s.2 := by
      have hw : h ∈ Gg s.2 (rM s.2 l[k]).toNat := hh'
      unfold Gg Nb at hw
      rcases jl.1 (show h ∈ _ ++ _ from hw) with hw | hw
      ·exact List.mem_of_mem_take (qq hw)
      ·exact List.mem_of_mem_take (qq hw)
     exact hi.cod h hsub
    | false => rw [h2] at hh'; exact hi.cod h hh'
theorem MX {x : Kb} {r : Int} (h : Ii x r = true) : (x.1 = 0 ∧ r < 0) ∨ (x.1 = 1 ∧ r < 0) ∨ (x.1 = 2 ∧ r ≥ 0) := by
 simp only [Ii, jd, Bool.or_eq_true, beq_iff_eq, Bool.not_eq_true', decide_eq_false_iff_not, decide_eq_true_eq] at h
 omega
theorem Ea {n m : Nat} (h : n ≤ 1000) (hm : m ≤ 10) : jx (n + m) Ya = true := ji (by rw [Bf]; omega)
theorem JY (L : List Ja) (h : Ja) : Gg (jf L [h]) L.length = L := by
 simp [Gg, Nb]
theorem UH (a : List Ja) (l : List Kb) (hn : a.length ≤ Ga) (ha : Vd a = true) (hm : Zc l = true) : Hi a l = some (ID (Tb a) l, ()) := by
 have h20 : Ga = 1048576 := rfl
 have hm' := hm
 simp only [Zc, jd, decide_eq_true_eq, IF] at hm'
 have h0 : CR l 0 ([], []) := ⟨by
  rw [List.drop_zero]
  cases hf : Cc (fun _ L x => Di L x) 0 [] l with
  | inl L => exact ⟨L, rfl⟩
  | inr u => rw [hf] at hm'; simp at hm', jo _, jo _, by simp⟩
 have hl := (Ae (step := fun x => Zj x.1.1 x.1.2.1 x.1.2.2.1 x.1.2.2.2.1 x.1.2.2.2.2.1) l (fun _ s x => mG (Tb a) s x) (fun s i => ((a, l, s.1, s.2, i, ()), ())) (fun s => .inl ((s.1, ()), ())) (CR l) (by
  intro k hk s hi
  obtain ⟨hok, hi'⟩ := UW (b := Tb a) hk hi
  refine ⟨?_, hi'⟩
  have hlen := hi.len
  have hout := hi.out
  have hl8 := hm'.1
  simp only [Zj]
  rw [Ba (show (k : Int) < ((ja l : Nat) : Int) by omega), Zb hk]
  simp only [cond_true, jb, Lm]
  generalize hx : l[k] = x at *
  have e1 : jx (ja s.2 + ja ([((0 : Int), ((2 : Int), x.2.1, x.2.2.1, (0 : Int), ()), ())] : List Ja)) Ya = true := Ea (by omega) (by simp)
  have hR1 : Ug a (jf s.2 [Td x]) = some (Mv (Tb a) ((jf s.2 [Td x]).map Tc), ()) := Px a _ hn ha (by simp; omega)
  have hR0 : Ug a s.2 = some (Mv (Tb a) (s.2.map Tc), ()) := Px a _ hn ha (by omega)
  unfold mG TE Iu
  rcases MX hok with ⟨h0, hr⟩ | ⟨h1, hr⟩ | ⟨h2, hr⟩
  ·rw [h0, e1]
   simp only [show ((0 : Int) != 2) = true from rfl, show ((0 : Int) != 1) = true from rfl, show ((0 : Int) == 0) = true from rfl, show ((0 : Int) == 1) = false from rfl, show ((0 : Int) == 2) = false from rfl, cond_true, cond_false]
   show jz (Ug a (jf s.2 [Td x])) _ = _
   rw [hR1]
   simp only [jb]
   rw [show ∀ r : Aa, jx (ja s.1 + ja ([r] : List Aa)) Ya = true from fun r => Ea (by omega) (by simp)]
   simp only [cond_true]
   have hF : Cl (jf s.2 [Td x]) x = some (((s.2.length : Nat) : Int), ()) := by
    rw [Vz _ _ (by simp; omega)]
    have hm1 : Ec (Ue x.2.1 x.2.2.1) 0 s.2 = -1 := by
     rcases Bq (Ue x.2.1 x.2.2.1) s.2 0 with h | ⟨j, _, h⟩
     ·exact h
     ·unfold rM at hr; omega
    have := YL (Ue x.2.1 x.2.2.1) s.2 0 (Td x) hm1 (by simp [Ue, Td])
    rw [js] at this
    show some (Ec _ 0 (s.2 ++ [Td x]), ()) = _
    rw [this]
   have hW : Hf (jf s.2 [Td x]) ((s.2.length : Nat) : Int) = some (s.2, ()) := by
    rw [Dw _ (by simp) (by simp; omega), JY]
   show jz (Cl (jf s.2 [Td x]) x) _ = _
   rw [hF]
   simp only [jb]
   show jz (Hf (jf s.2 [Td x]) ((s.2.length : Nat) : Int)) _ = _
   rw [hW]
   simp only [jb]
   rw [hR0]
   simp only [jb]
   rw [show ∀ r r' : Aa, jx (ja (jf s.1 [r]) + ja ([r'] : List Aa)) Ya = true from fun r r' => Ea (by simp; omega) (by simp)]
   simp
  ·rw [h1, e1]
   simp only [show ((1 : Int) != 2) = true from rfl, show ((1 : Int) != 1) = false from rfl, show ((1 : Int) == 0) = false from rfl, show ((1 : Int) == 1) = true from rfl, cond_true, cond_false]
   show jz (Ug a (jf s.2 [Td x])) _ = _
   rw [hR1]
   simp only [jb]
   rw [show ∀ r : Aa, jx (ja s.1 + ja ([r] : List Aa)) Ya = true from fun r => Ea (by omega) (by simp)]
   rfl
  ·rw [h2]
   simp only [show ((2 : Int) != 2) = false from rfl, show ((2 : Int) != 1) = true from rfl, show ((2 : Int) == 0) = false from rfl, show ((2 : Int) == 1) = false from rfl, show ((2 : Int) == 2) = true from rfl, cond_true, cond_false]
   rcases Bq (Ue x.2.1 x.2.2.1) s.2 0 with h | ⟨j, hj, h⟩
   ·unfold rM at hr; omega
   ·rw [js] at h
    rw [Vz _ _ (by omega), h]
    simp only [jb]
    rw [Dw _ hj (by omega)]
    simp only [jb]
    rw [Px a _ hn ha (by rw [MM hj]; omega)]
    simp only [jb]
    rw [show ∀ r : Aa, jx (ja s.1 + ja ([r] : List Aa)) Ya = true from fun r => Ea (by omega) (by simp)]
    unfold rM
    rw [h, jn]
    rfl)
  (by
   intro s _
   simp only [Zj]
   rw [Ca (by omega)]; rfl) (by omega) ([], []) h0).1
 unfold Hi Ul
 rw [Jv _ hn, ha, YE _ (by omega), hm]
 simp only [jb, jg, cond_false]
 erw [hl]
 rfl
end KF
