/- An evaluator of Go functions on plain data, its soundness, and plain laws on what the functions compute, part 4 (conditions: as each lemma tells). -/
import Derived.Test.YtjpnmcdibgckiaaGreatDoorC
set_option linter.unusedSimpArgs false
set_option linter.unusedVariables false
namespace KF
open Go
open List renaming length → ja, getElem?_eq_getElem → je, append → jf, mem_append → jl, mem_cons → jp, mem_cons_of_mem → jr, length_cons → jw, set → j5, length_nil → j7, mem_singleton → qc, length_append → qd, getElem?_append_left → qf, getElem?_append_right → qg, getD_eq_getElem?_getD → qh, getElem_mem → qp, mem_of_mem_drop → qq, getElem_of_mem → qr, mem_map → qs, length_drop → qt, mem_cons_self → qv
open Option renaming bind_some → jb, bind → jz, map_some → qb, bind_eq_some_iff → qe
open Option.some renaming injEq → jc
open Bool renaming and_eq_true → jd, not_true → jg, true_and → jk, false_eq_true → jq, not_false → j8, not_eq_true → j9, false_and → qm, and_self → qn, eq_iff_iff → qu
open Prod.mk renaming injEq → jh
open Nat renaming ble_eq_true_of_le → ji, mul_le_mul_right → jm, le_refl → jo, zero_add → js, add_assoc → jt, eq_of_beq_eq_true → ju, ble → jx, le_trans → qa, lt_of_lt_of_le → qj, pow_le_pow_right → qk, testBit_two_pow → ql, xor_lt_two_pow → qo
open Int renaming toNat_natCast → jn, eq_ofNat_of_zero_le → jv, toNat → jy
open Go.IntKind renaming wrap → j4
open Sum renaming elim → j6, elim_inl → qi
open Result renaming andThen_ok → qw
open Sem renaming run_bind → qx
abbrev int : Ty := .i .i64
abbrev Ay : Ty := .i .u8
abbrev Af : Ty := (.p int (.p int .u))
abbrev Hb : Type := (Int × (Int × Unit))
abbrev Db : Ty := (.p int (.p (.sl int) .u))
abbrev Aa : Type := (Int × ((List Int) × Unit))
abbrev Kl : Ty := (.p int (.p int (.p .b .u)))
abbrev Ma : Type := (Int × (Int × (Bool × Unit)))
abbrev Ec : Ty := (.p int Af)
abbrev Vb : Type := (Int × Hb)
abbrev Fe : Type := ((List (List Int)) × ((List Int) × Unit))
abbrev Oag : Type := ((List Int) × Hb)
abbrev Nb : Ty := (.p int Ec)
abbrev Va : Type := (Int × Vb)
abbrev Pi : Type := (Bool × Vb)
abbrev Ag : Ty := (.p int (.p Db .u))
abbrev Ie : Type := (Int × (Aa × Unit))
abbrev Rj : Ty := (.p int (.p Nb .u))
abbrev Ia : Type := (Int × (Va × Unit))
abbrev MB : Type := (Int × (Int × (Int × (Int × Aa))))
abbrev Bb : Ty := (.p int (.p (.sl (.sl Nb)) .u))
abbrev Ka : Type := (Int × ((List (List Va)) × Unit))
abbrev Cm : Type := ((List Hb) × (Int × ((List Ma) × (Int × (Int × (Int × ((List Ma) × Unit)))))))
abbrev Mb : Ty := (.p Bb (.p (.sl (.sl Ec)) (.p int (.p (.sl Rj) (.p int (.p .b .u))))))
abbrev Ua : Type := (Ka × ((List (List Vb)) × (Int × ((List Ia) × (Int × (Bool × Unit))))))
abbrev Uc : Ty := (.p Mb (.p Ec (.p (.sl Kl) Nb)))
abbrev Eb : Type := (Ua × (Vb × ((List Ma) × Va)))
abbrev YT : Type := (Ma × (MB × (Cm × (Eb × Hb))))
abbrev AK : Type := Ma
abbrev Zy : Type := Vb
def DB : List UInt8 := [97, 32, 98, 32, 99, 32, 100, 32, 101, 32, 102, 32, 103, 32, 104, 32, 105, 32, 106, 32, 107, 32, 108, 32, 109, 32, 110, 32, 111, 32, 112, 32, 113, 32, 114, 32, 115, 32, 116, 32, 117, 32, 118, 32, 119, 32, 120, 32, 121, 32, 122, 32, 49, 32, 50, 32, 51, 32, 52, 32, 53, 32, 54, 32, 55, 32, 56, 32, 57, 32, 48, 32, 101, 110, 116, 101, 114, 32, 101, 115, 99, 32, 98, 97, 99, 107, 32, 116, 97, 98, 32, 115, 112, 97, 99, 101, 32, 109, 105, 110, 117, 115, 32, 101, 113, 117, 97, 108, 32, 108, 101, 102, 116, 32, 114, 105, 103, 104, 116, 32, 117, 112, 32, 100, 111, 119, 110, 32, 102, 49, 32, 102, 50, 32, 102, 51, 32, 102, 52, 32, 102, 53, 32, 102, 54, 32, 102, 55, 32, 102, 56, 32, 102, 57]
def Gi : List UInt8 := [115, 112, 97, 99, 101]
def Ei : List UInt8 := [109, 105, 110, 117, 115]
def Di : List UInt8 := [101, 113, 117, 97, 108]
def Fi : List UInt8 := [101, 110, 116, 101, 114]
def Ig : List UInt8 := [33, 64, 35, 36, 37, 94, 38, 42, 40, 41]
noncomputable section
open Option renaming bind → ob
open Go.IntKind renaming wrap → wr
open Int renaming toNat → tn
open List renaming length → ln, append → ap, set → ls
open Sum renaming elim → se
open Nat renaming ble → bl
abbrev Nf : Type := Int × Unit
abbrev Sd : Type := Bool × Unit
abbrev Fg : Type := Unit × Unit
abbrev Bg : Type := List Int
abbrev Vg : Type := List UInt8
abbrev Gh : Type := List Ma
abbrev Qt : Type := Ka × Unit
abbrev Bf : Type := List Aa
abbrev Jj : Type := List Va
abbrev NB : Type := List Hb
abbrev Zc : Type := List Ia
abbrev BK : Type := Unit × Hb
abbrev Ak : Type := Ua × Unit
abbrev Js : Type := Unit × Nf
abbrev BO : Type := Bg × Hb
abbrev Yu : Type := Sd × Unit
abbrev Nh : Type := Aa × Unit
abbrev Fn : Type := Aa × Nh
abbrev Ki : Type := List Ie
abbrev Xi : Type := List Jj
abbrev ET : Type := NB × Hb
abbrev CK : Type := Int × (Gh × Hb)
abbrev Bk : Type := List Vb
abbrev VF : Type := Bg × Unit
abbrev DK : Type := Ka × Qt
abbrev E1 : Type := (Zc × (Unit × (Unit × (Bg × (Int × (Bool × Nf)))))) × Fn
abbrev FT : Type := List Vg
abbrev XF : Type := Vg × Unit
abbrev EK : Type := Unit × Fg
abbrev HT : Type := Int × Sd
abbrev IT : Type := Unit × Js
abbrev Uz : Type := Fg ⊕ Yu
abbrev H1 : Type := Bg × Nf
abbrev JT : Type := Gh × Unit
abbrev ID : Type := Vb × Unit
abbrev Wab : Type := Unit × Vb
abbrev OB : Type := Hb × Unit
abbrev KT : Type := Int × (Int × (Jj × Hb))
abbrev Yx : Type := Va × Unit
abbrev KD : Type := Eb × Unit
abbrev PB : Type := Bf × Unit
abbrev CO : Type := Unit × (Ki × Unit)
abbrev LT : Type := (Vg × (Unit × (Gh × Nf))) × Qt
abbrev YF : Type := (Zc × IT) × Fn
abbrev MT : Type := Unit × IT
abbrev I1 : Type := Ua × Ak
abbrev Xab : Type := Unit × BO
abbrev Ks : Type := List Bk
abbrev LD : Type := Int × BO
abbrev NT : Type := (Jj × (Jj × Nf)) × Unit
abbrev OT : Type := (Xi × (Xi × Nf)) × Unit
abbrev Yab : Type := Ua × (Bf × Sd)
abbrev DO : Type := Unit × (Xi × Hb)
abbrev QB : Type := Zc × Hb
abbrev HD : Type := (Int × QB) × Unit
abbrev EO : Type := (PB × Unit) ⊕ Fg
abbrev J1 : Type := ((Unit × (Unit × VF)) × Fn) ⊕ Fg
abbrev K1 : Type := (Bf × (Unit × (Vg × Nf))) × Nh
abbrev L1 : Type := Int × Js
abbrev FK : Type := (Int × L1) × Qt
abbrev GK : Type := Bg × BO
abbrev PT : Type := Unit × H1
abbrev Zab : Type := E1 ⊕ (((Zc × (Unit × (Unit × (Bg × HT)))) × Fn) ⊕ Fg)
abbrev M1 : Type := (Unit × CO) × (Eb × KD)
abbrev QT : Type := NB × (Bk × Hb)
abbrev GO : Type := Gh × Sd
abbrev N1 : Type := (VF × Unit) ⊕ Fg
abbrev Aac : Type := (XF × Unit) ⊕ Fg
abbrev O1 : Type := FT × Unit
abbrev Qag : Type := Unit × EK
abbrev R3 : Type := Ki × Hb
abbrev S3 : Type := (Unit × (Ki × (Int × ((Bf × Int) × Nf)))) × KD
abbrev T3 : Type := (Unit × (Vg × (Unit × (Bf × (Int × LD))))) × Fn
abbrev VH : Type := Nf × Unit
abbrev DT : Type := VH ⊕ Fg
abbrev JD : Type := Fg ⊕ VH
abbrev We : Eb := (((0, [], ()), [], 0, [], 0, false, ()), (0, 0, 0, ()), [], 0, 0, 0, 0, ())
abbrev Qp : Ua := ((0, [], ()), [], 0, [], 0, false, ())
def Zb (a0 : Int) (a1 : Int) (a2 : Int) : Option Sd :=
 (cond (decide (a0 ≥ a1))
 (some ((decide (a0 ≤ a2)), ()))
 (some (false, ())))
def Rw (a0 : Aa) : Option Nh :=
 (cond (bl (ln ([] : List Int) + ln a0.2.1) Ab)
 (some ((a0.1, (ap [] a0.2.1), ()), ()))
 none)
def Vm (t0 : Ki) (t3 : Bf) (t4 : Int) : Option (((Ki × (Bf × Nf)) × Unit) ⊕ EO) :=
 (cond (decide (t4 < ((ln t0 : Nat) : Int)))
 (ob (Sb t0 t4) fun x5 =>
 (ob (Rw x5.2.1) fun r6 =>
 (cond (bl (ln t3 + ln ([r6.1] : List Aa)) Ab)
 (some (.inl ((t0, (ap t3 ([r6.1] : List Aa)), (wr .i64 (t4 + 1)), ()), ())))
 none)))
 (some (.inr (.inl ((t3, ()), ())))))
def Hp := Za fun x : ((Ki × (Bf × Nf)) × Unit) => Vm x.1.1 x.1.2.1 x.1.2.2.1
def Nv (a0 : Ki) : Option PB :=
 (ob (Hp ((a0, [], 0, ()), ())) (se (fun y7 => (some (y7.1.1, ()))) (fun z8 => none)))
def Xl (a0 : Bg) : Option VF :=
 (cond (bl (ln ([] : List Int) + ln a0) Ab)
 (some ((ap [] a0), ()))
 none)
def Ws (a0 : Aa) : Option Nh :=
 (ob (Xl a0.2.1) fun r1 =>
 (some ((a0.1, r1.1, ()), ())))
def Fm (t3 : Bf) (t6 : Ki) (t7 : Int) (t8 : Int) : Option (((Bf × R3) × Unit) ⊕ EO) :=
 (cond (decide (t8 < t7))
 (ob (Sb t6 t8) fun x7 =>
 (ob (Ws x7.2.1) fun r8 =>
 (cond (bl (ln t3 + ln ([r8.1] : List Aa)) Ab)
 (some (.inl (((ap t3 ([r8.1] : List Aa)), t6, t7, (wr .i64 (t8 + 1)), ()), ())))
 none)))
 (some (.inr (.inl ((t3, ()), ())))))
def Ro := Za fun x : ((Bf × R3) × Unit) => Fm x.1.1 x.1.2.1 x.1.2.2.1 x.1.2.2.2.1
def Bv (a0 : Ki) : Option PB :=
 (ob (Ro (([], a0, ((ln a0 : Nat) : Int), 0, ()), ())) (se (fun y9 => (some (y9.1.1, ()))) (fun z10 => none)))
def Zo (a0 : Jj) (a1 : Int) : Option Nf :=
 (cond (decide ((wr .i64 (a1 - ((ln a0 : Nat) : Int))) < 0))
 (some ((-1), ()))
 (some ((wr .i64 (a1 - ((ln a0 : Nat) : Int))), ())))
def RH (t0 : Xi) (t1 : Int) (t5 : Int) : Option (((Xi × Hb) × Unit) ⊕ (VH ⊕ VH)) :=
 (cond (decide (t5 < ((ln t0 : Nat) : Int)))
 (ob (Sb t0 t5) fun x5 =>
 (ob (Zo x5 t1) fun r6 =>
 (cond (decide (r6.1 < 0))
 (some (.inr (.inr (((-1), ()), ()))))
 (some (.inl ((t0, r6.1, (wr .i64 (t5 + 1)), ()), ()))))))
 (some (.inr (.inl ((t1, ()), ())))))
def Nw := Za fun x : ((Xi × Hb) × Unit) => RH x.1.1 x.1.2.1 x.1.2.2.1
def Ct (a0 : Xi) (a1 : Int) : Option Nf :=
 (cond (decide ((wr .i64 (a1 - ((ln a0 : Nat) : Int))) < 0))
 (some ((-1), ()))
 (ob (Nw ((a0, (wr .i64 (a1 - ((ln a0 : Nat) : Int))), 0, ()), ())) (se (fun y7 => (some (y7.1.1, ()))) (fun z8 => (some (z8.1.1, ()))))))
def Yw (a0 : Ka) (a1 : Int) : Option Nf :=
 (ob (Ct a0.2.1 a1) fun r1 =>
 (cond (decide (r1.1 < 0))
 (some ((-1), ()))
 (some (r1.1, ()))))
def Jr (a0 : Va) : Option Yx :=
 (some (a0, ()))
def XI (t0 : Jj) (t3 : Jj) (t4 : Int) : Option (NT ⊕ (((Jj × Unit) × Unit) ⊕ Fg)) :=
 (cond (decide (t4 < ((ln t0 : Nat) : Int)))
 (ob (Sb t0 t4) fun x7 =>
 (ob (Jr x7) fun r8 =>
 (cond (Ql (ln t3) t4)
 (ob t3[(tn t4)]? fun x9 =>
 (some (.inl ((t0, (ls t3 (tn t4) r8.1), (wr .i64 (t4 + 1)), ()), ()))))
 none)))
 (some (.inr (.inl ((t3, ()), ())))))
def Vx := Za fun x : NT => XI x.1.1 x.1.2.1 x.1.2.2.1
def Fv (a0 : Jj) : Option (Jj × Unit) :=
 (cond ((((ln a0 : Nat) : Int) == ((ln a0 : Nat) : Int)) && (decide (0 ≤ ((ln a0 : Nat) : Int)) && decide (((ln a0 : Nat) : Int) ≤ ((Ab : Nat) : Int))))
 (ob (Vx ((a0, (List.replicate (tn ((ln a0 : Nat) : Int)) (0, 0, 0, 0, ())), 0, ()), ())) (se (fun y10 => (some (y10.1.1, ()))) (fun z11 => none)))
 none)
def SH (t0 : Xi) (t3 : Xi) (t4 : Int) : Option (OT ⊕ (((Xi × Unit) × Unit) ⊕ Fg)) :=
 (cond (decide (t4 < ((ln t0 : Nat) : Int)))
 (ob (Sb t0 t4) fun x7 =>
 (ob (Fv x7) fun r8 =>
 (cond (Ql (ln t3) t4)
 (ob t3[(tn t4)]? fun x9 =>
 (some (.inl ((t0, (ls t3 (tn t4) r8.1), (wr .i64 (t4 + 1)), ()), ()))))
 none)))
 (some (.inr (.inl ((t3, ()), ())))))
def Ow := Za fun x : OT => SH x.1.1 x.1.2.1 x.1.2.2.1
def Ky (a0 : Xi) : Option (Xi × Unit) :=
 (cond ((((ln a0 : Nat) : Int) == ((ln a0 : Nat) : Int)) && (decide (0 ≤ ((ln a0 : Nat) : Int)) && decide (((ln a0 : Nat) : Int) ≤ ((Ab : Nat) : Int))))
 (ob (Ow ((a0, (List.replicate (tn ((ln a0 : Nat) : Int)) []), 0, ()), ())) (se (fun y10 => (some (y10.1.1, ()))) (fun z11 => none)))
 none)
def Zl (a0 : Ka) : Option Qt :=
 (ob (Ky a0.2.1) fun r1 =>
 (some ((a0.1, r1.1, ()), ())))
def Bi (a0 : Va) : Option Sd :=
 (ob (Zb a0.2.1 1 56) fun r1 =>
 (ob (Zb a0.2.2.1 1 15) fun r2 =>
 (ob (Zb a0.2.2.2.1 1 3) fun r3 =>
 (cond (a0.1 == 0)
 (cond (a0.2.1 == 0)
 (cond (a0.2.2.1 == 0)
 (some ((a0.2.2.2.1 == 0), ()))
 (some (false, ())))
 (some (false, ())))
 (cond (a0.1 == 1)
 (cond (a0.2.1 == 0)
 (cond (a0.2.2.1 == 0)
 (some ((a0.2.2.2.1 == 0), ()))
 (some (false, ())))
 (some (false, ())))
 (cond (a0.1 == 10)
 (cond (a0.2.1 == 0)
 (cond (a0.2.2.1 == 0)
 (some ((a0.2.2.2.1 == 0), ()))
 (some (false, ())))
 (some (false, ())))
 (cond (a0.1 == 2)
 (cond (a0.2.2.2.1 == 0)
 (cond r1.1
 (cond r2.1
 (some (true, ()))
 (some ((a0.2.2.1 == 0), ())))
 (cond (a0.2.1 == 0)
 (cond r2.1
 (cond r2.1
 (some (true, ()))
 (some ((a0.2.2.1 == 0), ())))
 (some (false, ())))
 (some (false, ()))))
 (some (false, ())))
 (cond (a0.1 == 3)
 (cond r3.1
 (cond (a0.2.1 == 0)
 (some ((a0.2.2.1 == 0), ()))
 (some (false, ())))
 (some (false, ())))
 (cond (a0.1 == 4)
 (cond r3.1
 (cond (a0.2.1 == 0)
 (some ((a0.2.2.1 == 0), ()))
 (some (false, ())))
 (some (false, ())))
 (cond (a0.1 == 5)
 (ob (Zb a0.2.2.2.1 0 3) fun r4 =>
 (cond r4.1
 (cond (a0.2.1 == 0)
 (some ((a0.2.2.1 == 0), ()))
 (some (false, ())))
 (some (false, ()))))
 (cond (a0.1 == 9)
 (ob (Zb a0.2.2.2.1 0 3) fun r5 =>
 (cond r5.1
 (cond (a0.2.1 == 0)
 (some ((a0.2.2.1 == 0), ()))
 (some (false, ())))
 (some (false, ()))))
 (cond (a0.1 == 6)
 (cond r1.1
 (cond r2.1
 (some ((a0.2.2.2.1 == 0), ()))
 (some (false, ())))
 (some (false, ())))
 (cond (a0.1 == 7)
 (cond r1.1
 (cond r3.1
 (some ((a0.2.2.1 == 0), ()))
 (some (false, ())))
 (some (false, ())))
 (cond (a0.1 == 8)
 (cond r2.1
 (cond (a0.2.1 == 0)
 (some ((a0.2.2.2.1 == 0), ()))
 (some (false, ())))
 (some (false, ())))
 (some (false, ()))))))))))))))))
def Bw (t1 : Unit) (t3 : Int) (t4 : Int) (b1 : Ka) : Option ((BK × Qt) ⊕ ((Js × Qt) ⊕ Yu)) :=
 (ob (Sb b1.2.1 t3) fun x40 =>
 (cond (decide (t4 < ((ln x40 : Nat) : Int)))
 (ob (Sb b1.2.1 t3) fun x41 =>
 (ob (Sb x41 t4) fun x42 =>
 (ob (Bi x42) fun r43 =>
 (cond (!r43.1)
 (some (.inr (.inr ((false, ()), ()))))
 (cond (x42.1 == 1)
 (cond (t3 == 0)
 (some (.inr (.inr ((false, ()), ()))))
 (cond (x42.1 != 9)
 (cond (decide (x42.2.2.2.1 ≥ ((ln b1.2.1 : Nat) : Int)))
 (some (.inr (.inr ((false, ()), ()))))
 (some (.inl (((), t3, (wr .i64 (t4 + 1)), ()), (b1, ())))))
 (some (.inl (((), t3, (wr .i64 (t4 + 1)), ()), (b1, ()))))))
 (cond (x42.1 != 9)
 (cond (decide (x42.2.2.2.1 ≥ ((ln b1.2.1 : Nat) : Int)))
 (some (.inr (.inr ((false, ()), ()))))
 (some (.inl (((), t3, (wr .i64 (t4 + 1)), ()), (b1, ())))))
 (some (.inl (((), t3, (wr .i64 (t4 + 1)), ()), (b1, ()))))))))))
 (some (.inr (.inl (((), t3, ()), (b1, ())))))))
def Lk := Za fun x : (BK × Qt) => Bw x.1.1 x.1.2.1 x.1.2.2.1 x.2.1
def Aw (t1 : Unit) (t3 : Int) (b1 : Ka) : Option ((Js × Qt) ⊕ ((Fg × Qt) ⊕ Yu)) :=
 (cond (decide (t3 < ((ln b1.2.1 : Nat) : Int)))
 (ob (Sb b1.2.1 t3) fun x31 =>
 (cond (((ln x31 : Nat) : Int) != b1.1)
 (some (.inr (.inr ((false, ()), ()))))
 (ob (Lk (((), t3, 0, ()), (b1, ()))) (se (fun y44 => (some (.inl (((), (wr .i64 (y44.1.2.1 + 1)), ()), (y44.2.1, ()))))) (fun z45 => (some (.inr (.inr ((z45.1.1, ()), ())))))))))
 (some (.inr (.inl (((), ()), (b1, ()))))))
def Kk := Za fun x : (Js × Qt) => Aw x.1.1 x.1.2.1 x.2.1
def Xj (a0 : Ka) : Option Sd :=
 (ob (Kk (((), 0, ()), (a0, ()))) (se (fun y46 => (ob (Zb y46.2.1.1 1 32) fun r48 =>
 (cond r48.1
 (ob (Zb ((ln y46.2.1.2.1 : Nat) : Int) 1 4) fun r49 =>
 (some (r49.1, ())))
 (some (false, ()))))) (fun z47 => (some (z47.1.1, ())))))
def Nk (a0 : Int) : Option Sd :=
 (cond (decide (a0 ≥ 1))
 (some ((decide (a0 ≤ 56)), ()))
 (some (false, ())))
def Mn (a0 : Int) : Option Sd :=
 (cond (decide (a0 ≥ 1))
 (some ((decide (a0 ≤ 15)), ()))
 (some (false, ())))
def Vo (a0 : Int) : Option Sd :=
 (cond (decide (a0 ≥ 1))
 (some ((decide (a0 ≤ 3)), ()))
 (some (false, ())))
def Zh (a0 : Va) : Option Sd :=
 (cond (a0.1 == 0)
 (cond (a0.2.1 == 0)
 (cond (a0.2.2.1 == 0)
 (some ((a0.2.2.2.1 == 0), ()))
 (some (false, ())))
 (some (false, ())))
 (cond (a0.1 == 1)
 (cond (a0.2.1 == 0)
 (cond (a0.2.2.1 == 0)
 (some ((a0.2.2.2.1 == 0), ()))
 (some (false, ())))
 (some (false, ())))
 (cond (a0.1 == 10)
 (cond (a0.2.1 == 0)
 (cond (a0.2.2.1 == 0)
 (some ((a0.2.2.2.1 == 0), ()))
 (some (false, ())))
 (some (false, ())))
 (cond (a0.1 == 2)
 (cond (a0.2.2.2.1 == 0)
 (cond (a0.2.1 == 0)
 (cond (a0.2.2.1 == 0)
 (cond (a0.2.1 != 0)
 (some (true, ()))
 (some ((a0.2.2.1 != 0), ())))
 (ob (Mn a0.2.2.1) fun r1 =>
 (cond r1.1
 (cond (a0.2.1 != 0)
 (some (true, ()))
 (some ((a0.2.2.1 != 0), ())))
 (some (false, ())))))
 (ob (Nk a0.2.1) fun r2 =>
 (cond r2.1
 (cond (a0.2.2.1 == 0)
 (cond (a0.2.1 != 0)
 (some (true, ()))
 (some ((a0.2.2.1 != 0), ())))
 (ob (Mn a0.2.2.1) fun r3 =>
 (cond r3.1
 (cond (a0.2.1 != 0)
 (some (true, ()))
 (some ((a0.2.2.1 != 0), ())))
 (some (false, ())))))
 (some (false, ())))))
 (some (false, ())))
 (cond (a0.1 == 3)
 (cond (a0.2.1 == 0)
 (cond (a0.2.2.1 == 0)
 (ob (Vo a0.2.2.2.1) fun r4 =>
 (some (r4.1, ())))
 (some (false, ())))
 (some (false, ())))
 (cond (a0.1 == 4)
 (cond (a0.2.1 == 0)
 (cond (a0.2.2.1 == 0)
 (ob (Vo a0.2.2.2.1) fun r5 =>
 (some (r5.1, ())))
 (some (false, ())))
 (some (false, ())))
 (cond (a0.1 == 5)
 (cond (a0.2.1 == 0)
 (cond (a0.2.2.1 == 0)
 (cond (decide (a0.2.2.2.1 ≥ 0))
 (some ((decide (a0.2.2.2.1 ≤ 3)), ()))
 (some (false, ())))
 (some (false, ())))
 (some (false, ())))
 (cond (a0.1 == 9)
 (cond (a0.2.1 == 0)
 (cond (a0.2.2.1 == 0)
 (cond (decide (a0.2.2.2.1 ≥ 0))
 (some ((decide (a0.2.2.2.1 ≤ 3)), ()))
 (some (false, ())))
 (some (false, ())))
 (some (false, ())))
 (cond (a0.1 == 6)
 (ob (Nk a0.2.1) fun r6 =>
 (cond r6.1
 (ob (Mn a0.2.2.1) fun r7 =>
 (cond r7.1
 (some ((a0.2.2.2.1 == 0), ()))
 (some (false, ()))))
 (some (false, ()))))
 (cond (a0.1 == 7)
 (ob (Nk a0.2.1) fun r8 =>
 (cond r8.1
 (cond (a0.2.2.1 == 0)
 (ob (Vo a0.2.2.2.1) fun r9 =>
 (some (r9.1, ())))
 (some (false, ())))
 (some (false, ()))))
 (cond (a0.1 == 8)
 (cond (a0.2.1 == 0)
 (ob (Mn a0.2.2.1) fun r10 =>
 (cond r10.1
 (some ((a0.2.2.2.1 == 0), ()))
 (some (false, ()))))
 (some (false, ())))
 (some (false, ())))))))))))))
def Uv (t1 : Unit) (t3 : Int) (t28 : Xi) (t29 : Int) (t30 : Int) (t40 : Jj) (t41 : Int) (t42 : Int) (b1 : Ka) : Option (((Unit × (Int × (Xi × KT))) × Qt) ⊕ ((DO × Qt) ⊕ Yu)) :=
 (cond (decide (t42 < t41))
 (ob (Sb t40 t42) fun x24 =>
 (ob (Zh x24) fun r25 =>
 (cond (!r25.1)
 (some (.inr (.inr ((false, ()), ()))))
 (cond (t3 == 0)
 (cond (x24.1 == 1)
 (some (.inr (.inr ((false, ()), ()))))
 (cond (x24.1 != 9)
 (cond (decide (x24.2.2.2.1 ≥ ((ln b1.2.1 : Nat) : Int)))
 (some (.inr (.inr ((false, ()), ()))))
 (some (.inl (((), t3, t28, t29, t30, t40, t41, (wr .i64 (t42 + 1)), ()), (b1, ())))))
 (some (.inl (((), t3, t28, t29, t30, t40, t41, (wr .i64 (t42 + 1)), ()), (b1, ()))))))
 (cond (x24.1 != 9)
 (cond (decide (x24.2.2.2.1 ≥ ((ln b1.2.1 : Nat) : Int)))
 (some (.inr (.inr ((false, ()), ()))))
 (some (.inl (((), t3, t28, t29, t30, t40, t41, (wr .i64 (t42 + 1)), ()), (b1, ())))))
 (some (.inl (((), t3, t28, t29, t30, t40, t41, (wr .i64 (t42 + 1)), ()), (b1, ())))))))))
 (some (.inr (.inl (((), t28, t29, t30, ()), (b1, ()))))))
def Fk := Za fun x : ((Unit × (Int × (Xi × KT))) × Qt) => Uv x.1.1 x.1.2.1 x.1.2.2.1 x.1.2.2.2.1 x.1.2.2.2.2.1 x.1.2.2.2.2.2.1 x.1.2.2.2.2.2.2.1 x.1.2.2.2.2.2.2.2.1 x.2.1
def Tv (t1 : Unit) (t28 : Xi) (t29 : Int) (t30 : Int) (b1 : Ka) : Option ((DO × Qt) ⊕ Uz) :=
 (cond (decide (t30 < t29))
 (ob (Sb t28 t30) fun x19 =>
 (cond (((ln x19 : Nat) : Int) != b1.1)
 (some (.inr (.inr ((false, ()), ()))))
 (ob (Fk (((), t30, t28, t29, t30, x19, ((ln x19 : Nat) : Int), 0, ()), (b1, ()))) (se (fun y26 => (some (.inl (((), y26.1.2.1, y26.1.2.2.1, (wr .i64 (y26.1.2.2.2.1 + 1)), ()), (y26.2.1, ()))))) (fun z27 => (some (.inr (.inr ((z27.1.1, ()), ())))))))))
 (some (.inr (.inl ((), ())))))
def Ek := Za fun x : (DO × Qt) => Tv x.1.1 x.1.2.1 x.1.2.2.1 x.1.2.2.2.1 x.2.1
def Wl (a0 : Ka) : Option Sd :=
 (cond (decide (a0.1 < 1))
 (some (false, ()))
 (cond (decide (a0.1 > 32))
 (some (false, ()))
 (cond (decide (((ln a0.2.1 : Nat) : Int) < 1))
 (some (false, ()))
 (cond (decide (((ln a0.2.1 : Nat) : Int) > 4))
 (some (false, ()))
 (ob (Ek (((), a0.2.1, ((ln a0.2.1 : Nat) : Int), 0, ()), (a0, ()))) (se (fun y28 => (some (true, ()))) (fun z29 => (some (z29.1.1, ())))))))))
def Ir (a0 : Va) (a1 : Va) : Option Sd :=
 (cond (a0.1 != a1.1)
 (some (false, ()))
 (cond (a0.2.1 != a1.2.1)
 (some (false, ()))
 (cond (a0.2.2.1 != a1.2.2.1)
 (some (false, ()))
 (cond (a0.2.2.2.1 != a1.2.2.2.1)
 (some (false, ()))
 (some (true, ()))))))
def WI (t0 : Jj) (t1 : Jj) (t5 : Int) : Option (NT ⊕ Uz) :=
 (cond (decide (t5 < ((ln t0 : Nat) : Int)))
 (ob (Sb t0 t5) fun x7 =>
 (ob (Sb t1 t5) fun x8 =>
 (ob (Ir x7 x8) fun r9 =>
 (cond (!r9.1)
 (some (.inr (.inr ((false, ()), ()))))
 (some (.inl ((t0, t1, (wr .i64 (t5 + 1)), ()), ())))))))
 (some (.inr (.inl ((), ())))))
def Ux := Za fun x : NT => WI x.1.1 x.1.2.1 x.1.2.2.1
def Yo (a0 : Jj) (a1 : Jj) : Option Sd :=
 (cond (((ln a0 : Nat) : Int) != ((ln a1 : Nat) : Int))
 (some (false, ()))
 (ob (Ux ((a0, a1, 0, ()), ())) (se (fun y10 => (some (true, ()))) (fun z11 => (some (z11.1.1, ()))))))
def QH (t0 : Xi) (t1 : Xi) (t5 : Int) : Option (OT ⊕ Uz) :=
 (cond (decide (t5 < ((ln t0 : Nat) : Int)))
 (ob (Sb t0 t5) fun x7 =>
 (ob (Sb t1 t5) fun x8 =>
 (ob (Yo x7 x8) fun r9 =>
 (cond (!r9.1)
 (some (.inr (.inr ((false, ()), ()))))
 (some (.inl ((t0, t1, (wr .i64 (t5 + 1)), ()), ())))))))
 (some (.inr (.inl ((), ())))))
def Mw := Za fun x : OT => QH x.1.1 x.1.2.1 x.1.2.2.1
def Bt (a0 : Xi) (a1 : Xi) : Option Sd :=
 (cond (((ln a0 : Nat) : Int) != ((ln a1 : Nat) : Int))
 (some (false, ()))
 (ob (Mw ((a0, a1, 0, ()), ())) (se (fun y10 => (some (true, ()))) (fun z11 => (some (z11.1.1, ()))))))
def Xw (a0 : Ka) (a1 : Ka) : Option Sd :=
 (cond (a0.1 != a1.1)
 (some (false, ()))
 (ob (Bt a0.2.1 a1.2.1) fun r1 =>
 (cond (!r1.1)
 (some (false, ()))
 (some (true, ())))))
def QJ (t0 : Vg) (t1 : Int) (t5 : FT) (t6 : Int) (t7 : Int) : Option (((Vg × (Int × (FT × Hb))) × Unit) ⊕ ((O1 × Unit) ⊕ Fg)) :=
 (cond (decide (t7 ≤ ((ln t0 : Nat) : Int)))
 (cond (t7 == ((ln t0 : Nat) : Int))
 (cond (Jd (ln t0) t6 t7)
 (cond (bl (ln t5 + ln ([(Kb t0 (tn t6) (tn t7))] : List Vg)) Ab)
 (some (.inl ((t0, t1, (ap t5 ([(Kb t0 (tn t6) (tn t7))] : List Vg)), (wr .i64 (t7 + 1)), (wr .i64 (t7 + 1)), ()), ())))
 none)
 none)
 (ob (Sb t0 t7) fun c3 =>
 (cond (((UInt8.toNat c3 : Nat) : Int) == t1)
 (cond (Jd (ln t0) t6 t7)
 (cond (bl (ln t5 + ln ([(Kb t0 (tn t6) (tn t7))] : List Vg)) Ab)
 (some (.inl ((t0, t1, (ap t5 ([(Kb t0 (tn t6) (tn t7))] : List Vg)), (wr .i64 (t7 + 1)), (wr .i64 (t7 + 1)), ()), ())))
 none)
 none)
 (some (.inl ((t0, t1, t5, t6, (wr .i64 (t7 + 1)), ()), ()))))))
 (some (.inr (.inl ((t5, ()), ())))))
def Ip := Za fun x : ((Vg × (Int × (FT × Hb))) × Unit) => QJ x.1.1 x.1.2.1 x.1.2.2.1 x.1.2.2.2.1 x.1.2.2.2.2.1
def Pz (a0 : Vg) (a1 : Int) : Option O1 :=
 (ob (Ip ((a0, a1, [], 0, 0, ()), ())) (se (fun y4 => (some (y4.1.1, ()))) (fun z5 => none)))
def Vy : Option O1 :=
 (ob (Pz DB 32) fun r1 =>
 (some (r1.1, ())))
def Wj (a0 : Int) : Option XF :=
 (ob (Zb a0 1 56) fun r1 =>
 (cond (!r1.1)
 (some ([], ()))
 (ob Vy fun r2 =>
 (cond (Ql (ln r2.1) (wr .i64 (a0 - 1)))
 (ob r2.1[(tn (wr .i64 (a0 - 1)))]? fun x3 =>
 (some (x3, ())))
 none))))
def Jh (a0 : Int) (a1 : Int) : Option XF :=
 (ob (Zb a0 1 56) fun r1 =>
 (cond (!r1.1)
 (some ([], ()))
 (ob (Zb a1 0 15) fun r2 =>
 (cond (!r2.1)
 (some ([], ()))
 (cond ((Eh .i64 a1 2) != 0)
 (some ([], ()))
 (cond (decide (a0 ≤ 26))
 (cond (decide ((Pf .i64 a1 2) > 0))
 (some ((Fh ([(wr .u8 (wr .i64 (64 + a0)))] : List Int)), ()))
 (cond (decide (a0 ≤ 36))
 (cond (decide ((Pf .i64 a1 2) > 0))
 (cond (Jd (ln Ig) (wr .i64 (a0 - 27)) (wr .i64 (a0 - 26)))
 (some ((Kb Ig (tn (wr .i64 (a0 - 27))) (tn (wr .i64 (a0 - 26)))), ()))
 none)
 (cond (decide (a0 ≤ 36))
 (ob (Wj a0) fun r3 =>
 (some (r3.1, ())))
 (cond (a0 == 37)
 (some (([10] : List UInt8), ()))
 (cond (a0 == 40)
 (some (([9] : List UInt8), ()))
 (cond (a0 == 41)
 (some (([32] : List UInt8), ()))
 (cond (a0 == 42)
 (cond (decide ((Pf .i64 a1 2) > 0))
 (some (([95] : List UInt8), ()))
 (cond (a0 == 42)
 (some (([45] : List UInt8), ()))
 (cond (a0 == 43)
 (cond (decide ((Pf .i64 a1 2) > 0))
 (some (([43] : List UInt8), ()))
 (cond (a0 == 43)
 (some (([61] : List UInt8), ()))
 (some ([], ()))))
 (cond (a0 == 43)
 (some (([61] : List UInt8), ()))
 (some ([], ()))))))
 (cond (a0 == 42)
 (some (([45] : List UInt8), ()))
 (cond (a0 == 43)
 (cond (decide ((Pf .i64 a1 2) > 0))
 (some (([43] : List UInt8), ()))
 (cond (a0 == 43)
 (some (([61] : List UInt8), ()))
 (some ([], ()))))
 (cond (a0 == 43)
 (some (([61] : List UInt8), ()))
 (some ([], ())))))))))))
 (cond (decide (a0 ≤ 36))
 (ob (Wj a0) fun r4 =>
 (some (r4.1, ())))
 (cond (a0 == 37)
 (some (([10] : List UInt8), ()))
 (cond (a0 == 40)
 (some (([9] : List UInt8), ()))
 (cond (a0 == 41)
 (some (([32] : List UInt8), ()))
 (cond (a0 == 42)
 (cond (decide ((Pf .i64 a1 2) > 0))
 (some (([95] : List UInt8), ()))
 (cond (a0 == 42)
 (some (([45] : List UInt8), ()))
 (cond (a0 == 43)
 (cond (decide ((Pf .i64 a1 2) > 0))
 (some (([43] : List UInt8), ()))
 (cond (a0 == 43)
 (some (([61] : List UInt8), ()))
 (some ([], ()))))
 (cond (a0 == 43)
 (some (([61] : List UInt8), ()))
 (some ([], ()))))))
 (cond (a0 == 42)
 (some (([45] : List UInt8), ()))
 (cond (a0 == 43)
 (cond (decide ((Pf .i64 a1 2) > 0))
 (some (([43] : List UInt8), ()))
 (cond (a0 == 43)
 (some (([61] : List UInt8), ()))
 (some ([], ()))))
 (cond (a0 == 43)
 (some (([61] : List UInt8), ()))
 (some ([], ()))))))))))))
 (cond (decide (a0 ≤ 36))
 (cond (decide ((Pf .i64 a1 2) > 0))
 (cond (Jd (ln Ig) (wr .i64 (a0 - 27)) (wr .i64 (a0 - 26)))
 (some ((Kb Ig (tn (wr .i64 (a0 - 27))) (tn (wr .i64 (a0 - 26)))), ()))
 none)
 (cond (decide (a0 ≤ 36))
 (ob (Wj a0) fun r5 =>
 (some (r5.1, ())))
 (cond (a0 == 37)
 (some (([10] : List UInt8), ()))
 (cond (a0 == 40)
 (some (([9] : List UInt8), ()))
 (cond (a0 == 41)
 (some (([32] : List UInt8), ()))
 (cond (a0 == 42)
 (cond (decide ((Pf .i64 a1 2) > 0))
 (some (([95] : List UInt8), ()))
 (cond (a0 == 42)
 (some (([45] : List UInt8), ()))
 (cond (a0 == 43)
 (cond (decide ((Pf .i64 a1 2) > 0))
 (some (([43] : List UInt8), ()))
 (cond (a0 == 43)
 (some (([61] : List UInt8), ()))
 (some ([], ()))))
 (cond (a0 == 43)
 (some (([61] : List UInt8), ()))
 (some ([], ()))))))
 (cond (a0 == 42)
 (some (([45] : List UInt8), ()))
 (cond (a0 == 43)
 (cond (decide ((Pf .i64 a1 2) > 0))
 (some (([43] : List UInt8), ()))
 (cond (a0 == 43)
 (some (([61] : List UInt8), ()))
 (some ([], ()))))
 (cond (a0 == 43)
 (some (([61] : List UInt8), ()))
 (some ([], ())))))))))))
 (cond (decide (a0 ≤ 36))
 (ob (Wj a0) fun r6 =>
 (some (r6.1, ())))
 (cond (a0 == 37)
 (some (([10] : List UInt8), ()))
 (cond (a0 == 40)
 (some (([9] : List UInt8), ()))
 (cond (a0 == 41)
 (some (([32] : List UInt8), ()))
 (cond (a0 == 42)
 (cond (decide ((Pf .i64 a1 2) > 0))
 (some (([95] : List UInt8), ()))
 (cond (a0 == 42)
 (some (([45] : List UInt8), ()))
 (cond (a0 == 43)
 (cond (decide ((Pf .i64 a1 2) > 0))
 (some (([43] : List UInt8), ()))
 (cond (a0 == 43)
 (some (([61] : List UInt8), ()))
 (some ([], ()))))
 (cond (a0 == 43)
 (some (([61] : List UInt8), ()))
 (some ([], ()))))))
 (cond (a0 == 42)
 (some (([45] : List UInt8), ()))
 (cond (a0 == 43)
 (cond (decide ((Pf .i64 a1 2) > 0))
 (some (([43] : List UInt8), ()))
 (cond (a0 == 43)
 (some (([61] : List UInt8), ()))
 (some ([], ()))))
 (cond (a0 == 43)
 (some (([61] : List UInt8), ()))
 (some ([], ())))))))))))))))))
def Vi (t0 : Int) (t4 : Int) (t5 : Int) : Option (((Int × Hb) × Unit) ⊕ (((Int × Nf) × Unit) ⊕ OB)) :=
 (cond (decide (t5 ≤ 56))
 (ob (Jh t5 t4) fun r13 =>
 (cond (r13.1 == (Fh ([t0] : List Int)))
 (some (.inr (.inr ((t5, t4, ()), ()))))
 (some (.inl ((t0, t4, (wr .i64 (t5 + 1)), ()), ())))))
 (some (.inr (.inl ((t0, t4, ()), ())))))
def Re := Za fun x : ((Int × Hb) × Unit) => Vi x.1.1 x.1.2.1 x.1.2.2.1
def Jf (t0 : Int) (t4 : Int) : Option (((Int × Nf) × Unit) ⊕ (Fg ⊕ OB)) :=
 (cond (decide (t4 ≤ 2))
 (ob (Re ((t0, t4, 1, ()), ())) (se (fun y14 => (some (.inl ((y14.1.1, (wr .i64 (y14.1.2.1 + 2)), ()), ())))) (fun z15 => (some (.inr (.inr (z15.1, ())))))))
 (some (.inr (.inl ((), ())))))
def Cw := Za fun x : ((Int × Nf) × Unit) => Jf x.1.1 x.1.2.1
def WB (a0 : Int) : Option Hb :=
 (ob (Cw ((a0, 0, ()), ())) (se (fun y16 => (some (0, 0, ()))) (fun z17 => (some z17.1))))
def Ui (a0 : Va) : Option Sd :=
 (ob (Bi a0) fun r1 =>
 (cond r1.1
 (cond (a0.1 == 6)
 (some (true, ()))
 (some ((a0.1 == 7), ())))
 (some (false, ()))))
def Sy (a0 : Va) : Option Yx :=
 (ob (Ui a0) fun r1 =>
 (cond (!r1.1)
 (some (a0, ()))
 (some ((2, a0.2.1, 0, 0, ()), ()))))
def Sm (t1 : Int) (t2 : Int) (t3 : Unit) (t7 : Int) (b3 : Ka) : Option (FK ⊕ JD) :=
 (cond (decide (t7 < b3.1))
 (ob (Xj b3) fun r11 =>
 (cond r11.1
 (ob (Zb t1 0 56) fun r12 =>
 (cond r12.1
 (ob (Sb b3.2.1 0) fun x13 =>
 (ob (Sb x13 t7) fun x14 =>
 (cond (decide (t1 > 0))
 (ob (Sy x14) fun r15 =>
 (cond (r15.1.1 == 2)
 (cond (r15.1.2.1 == t1)
 (cond (r15.1.2.2.1 == t2)
 (some (.inr (.inr ((t7, ()), ()))))
 (some (.inl ((t1, t2, (), (wr .i64 (t7 + 1)), ()), (b3, ())))))
 (some (.inl ((t1, t2, (), (wr .i64 (t7 + 1)), ()), (b3, ())))))
 (some (.inl ((t1, t2, (), (wr .i64 (t7 + 1)), ()), (b3, ()))))))
 (cond (x14.1 == 2)
 (cond (x14.2.1 == t1)
 (cond (x14.2.2.1 == t2)
 (some (.inr (.inr ((t7, ()), ()))))
 (some (.inl ((t1, t2, (), (wr .i64 (t7 + 1)), ()), (b3, ())))))
 (some (.inl ((t1, t2, (), (wr .i64 (t7 + 1)), ()), (b3, ())))))
 (some (.inl ((t1, t2, (), (wr .i64 (t7 + 1)), ()), (b3, ()))))))))
 (some (.inr (.inl ((), ()))))))
 (some (.inr (.inl ((), ()))))))
 (some (.inr (.inl ((), ())))))
def Gj := Za fun x : FK => Sm x.1.1 x.1.2.1 x.1.2.2.1 x.1.2.2.2.1 x.2.1
def Wr (a0 : Ka) (a1 : Int) (a2 : Int) : Option Nf :=
 (ob (Gj ((a1, a2, (), 0, ()), (a0, ()))) (se (fun y16 => (some ((-1), ()))) (fun z17 => (some (z17.1.1, ())))))
def Uy (a0 : Ka) (a1 : Int) (a2 : Int) : Option JT :=
 (ob (WB a1) fun r1 =>
 (cond (r1.1 == 0)
 (some ([], ()))
 (ob (Wr a0 r1.1 r1.2.1) fun r2 =>
 (cond (decide (r2.1 ≥ 0))
 (some (([(a2, r2.1, true, ()), (a2, r2.1, false, ())] : List Ma), ()))
 (ob (Wr a0 r1.1 0) fun r3 =>
 (ob (Wr a0 0 r1.2.1) fun r4 =>
 (cond (decide (r3.1 < 0))
 (some ([], ()))
 (cond (decide (r4.1 < 0))
 (some ([], ()))
 (cond (r1.2.1 == 0)
 (some ([], ()))
 (some (([(a2, r4.1, true, ()), (a2, r3.1, true, ()), (a2, r3.1, false, ()), (a2, r4.1, false, ())] : List Ma), ())))))))))))
def strings_Split (a b : List UInt8) : Option (List Vg × Unit) := KW a b
def Gc (a0 : Int) : Option XF :=
 (cond (decide (a0 < 1))
 (some ([], ()))
 (cond (decide (a0 > 56))
 (some ([], ()))
 (ob (strings_Split DB ([32] : List UInt8)) fun r1 =>
 (cond (Ql (ln r1.1) (wr .i64 (a0 - 1)))
 (ob r1.1[(tn (wr .i64 (a0 - 1)))]? fun x2 =>
 (some (x2, ())))
 none))))
def Ih (a0 : Int) (a1 : Int) : Option XF :=
 (ob (Nk a0) fun r1 =>
 (cond (!r1.1)
 (some ([], ()))
 (cond (a1 != 0)
 (cond (a1 != 2)
 (some ([], ()))
 (cond (decide (a0 ≤ 26))
 (cond (a1 == 2)
 (some ((Fh ([(wr .u8 (wr .i64 ((wr .i64 (65 + a0)) - 1)))] : List Int)), ()))
 (cond (decide (a0 ≤ 26))
 (ob (Gc a0) fun r2 =>
 (some (r2.1, ())))
 (cond (decide (a0 ≤ 36))
 (cond (a1 == 2)
 (cond (Jd (ln Ig) (wr .i64 (a0 - 27)) (wr .i64 (a0 - 26)))
 (some ((Kb Ig (tn (wr .i64 (a0 - 27))) (tn (wr .i64 (a0 - 26)))), ()))
 none)
 (cond (decide (a0 ≤ 36))
 (ob (Gc a0) fun r3 =>
 (some (r3.1, ())))
 (ob (Gc a0) fun r4 =>
 (cond (r4.1 == Fi)
 (some (([10] : List UInt8), ()))
 (cond (r4.1 == ([116, 97, 98] : List UInt8))
 (some (([9] : List UInt8), ()))
 (cond (r4.1 == Gi)
 (some (([32] : List UInt8), ()))
 (cond (r4.1 == Ei)
 (cond (a1 == 2)
 (some (([95] : List UInt8), ()))
 (some (([45] : List UInt8), ())))
 (cond (r4.1 == Di)
 (cond (a1 == 2)
 (some (([43] : List UInt8), ()))
 (some (([61] : List UInt8), ())))
 (some ([], ()))))))))))
 (cond (decide (a0 ≤ 36))
 (ob (Gc a0) fun r5 =>
 (some (r5.1, ())))
 (ob (Gc a0) fun r6 =>
 (cond (r6.1 == Fi)
 (some (([10] : List UInt8), ()))
 (cond (r6.1 == ([116, 97, 98] : List UInt8))
 (some (([9] : List UInt8), ()))
 (cond (r6.1 == Gi)
 (some (([32] : List UInt8), ()))
 (cond (r6.1 == Ei)
 (cond (a1 == 2)
 (some (([95] : List UInt8), ()))
 (some (([45] : List UInt8), ())))
 (cond (r6.1 == Di)
 (cond (a1 == 2)
 (some (([43] : List UInt8), ()))
 (some (([61] : List UInt8), ())))
 (some ([], ()))))))))))))
 (cond (decide (a0 ≤ 26))
 (ob (Gc a0) fun r7 =>
 (some (r7.1, ())))
 (cond (decide (a0 ≤ 36))
 (cond (a1 == 2)
 (cond (Jd (ln Ig) (wr .i64 (a0 - 27)) (wr .i64 (a0 - 26)))
 (some ((Kb Ig (tn (wr .i64 (a0 - 27))) (tn (wr .i64 (a0 - 26)))), ()))
 none)
 (cond (decide (a0 ≤ 36))
 (ob (Gc a0) fun r8 =>
 (some (r8.1, ())))
 (ob (Gc a0) fun r9 =>
 (cond (r9.1 == Fi)
 (some (([10] : List UInt8), ()))
 (cond (r9.1 == ([116, 97, 98] : List UInt8))
 (some (([9] : List UInt8), ()))
 (cond (r9.1 == Gi)
 (some (([32] : List UInt8), ()))
 (cond (r9.1 == Ei)
 (cond (a1 == 2)
 (some (([95] : List UInt8), ()))
 (some (([45] : List UInt8), ())))
 (cond (r9.1 == Di)
 (cond (a1 == 2)
 (some (([43] : List UInt8), ()))
 (some (([61] : List UInt8), ())))
 (some ([], ()))))))))))
 (cond (decide (a0 ≤ 36))
 (ob (Gc a0) fun r10 =>
 (some (r10.1, ())))
 (ob (Gc a0) fun r11 =>
 (cond (r11.1 == Fi)
 (some (([10] : List UInt8), ()))
 (cond (r11.1 == ([116, 97, 98] : List UInt8))
 (some (([9] : List UInt8), ()))
 (cond (r11.1 == Gi)
 (some (([32] : List UInt8), ()))
 (cond (r11.1 == Ei)
 (cond (a1 == 2)
 (some (([95] : List UInt8), ()))
 (some (([45] : List UInt8), ())))
 (cond (r11.1 == Di)
 (cond (a1 == 2)
 (some (([43] : List UInt8), ()))
 (some (([61] : List UInt8), ())))
 (some ([], ())))))))))))))
 (cond (decide (a0 ≤ 26))
 (cond (a1 == 2)
 (some ((Fh ([(wr .u8 (wr .i64 ((wr .i64 (65 + a0)) - 1)))] : List Int)), ()))
 (cond (decide (a0 ≤ 26))
 (ob (Gc a0) fun r12 =>
 (some (r12.1, ())))
 (cond (decide (a0 ≤ 36))
 (cond (a1 == 2)
 (cond (Jd (ln Ig) (wr .i64 (a0 - 27)) (wr .i64 (a0 - 26)))
 (some ((Kb Ig (tn (wr .i64 (a0 - 27))) (tn (wr .i64 (a0 - 26)))), ()))
 none)
 (cond (decide (a0 ≤ 36))
 (ob (Gc a0) fun r13 =>
 (some (r13.1, ())))
 (ob (Gc a0) fun r14 =>
 (cond (r14.1 == Fi)
 (some (([10] : List UInt8), ()))
 (cond (r14.1 == ([116, 97, 98] : List UInt8))
 (some (([9] : List UInt8), ()))
 (cond (r14.1 == Gi)
 (some (([32] : List UInt8), ()))
 (cond (r14.1 == Ei)
 (cond (a1 == 2)
 (some (([95] : List UInt8), ()))
 (some (([45] : List UInt8), ())))
 (cond (r14.1 == Di)
 (cond (a1 == 2)
 (some (([43] : List UInt8), ()))
 (some (([61] : List UInt8), ())))
 (some ([], ()))))))))))
 (cond (decide (a0 ≤ 36))
 (ob (Gc a0) fun r15 =>
 (some (r15.1, ())))
 (ob (Gc a0) fun r16 =>
 (cond (r16.1 == Fi)
 (some (([10] : List UInt8), ()))
 (cond (r16.1 == ([116, 97, 98] : List UInt8))
 (some (([9] : List UInt8), ()))
 (cond (r16.1 == Gi)
 (some (([32] : List UInt8), ()))
 (cond (r16.1 == Ei)
 (cond (a1 == 2)
 (some (([95] : List UInt8), ()))
 (some (([45] : List UInt8), ())))
 (cond (r16.1 == Di)
 (cond (a1 == 2)
 (some (([43] : List UInt8), ()))
 (some (([61] : List UInt8), ())))
 (some ([], ()))))))))))))
 (cond (decide (a0 ≤ 26))
 (ob (Gc a0) fun r17 =>
 (some (r17.1, ())))
 (cond (decide (a0 ≤ 36))
 (cond (a1 == 2)
 (cond (Jd (ln Ig) (wr .i64 (a0 - 27)) (wr .i64 (a0 - 26)))
 (some ((Kb Ig (tn (wr .i64 (a0 - 27))) (tn (wr .i64 (a0 - 26)))), ()))
 none)
 (cond (decide (a0 ≤ 36))
 (ob (Gc a0) fun r18 =>
 (some (r18.1, ())))
 (ob (Gc a0) fun r19 =>
 (cond (r19.1 == Fi)
 (some (([10] : List UInt8), ()))
 (cond (r19.1 == ([116, 97, 98] : List UInt8))
 (some (([9] : List UInt8), ()))
 (cond (r19.1 == Gi)
 (some (([32] : List UInt8), ()))
 (cond (r19.1 == Ei)
 (cond (a1 == 2)
 (some (([95] : List UInt8), ()))
 (some (([45] : List UInt8), ())))
 (cond (r19.1 == Di)
 (cond (a1 == 2)
 (some (([43] : List UInt8), ()))
 (some (([61] : List UInt8), ())))
 (some ([], ()))))))))))
 (cond (decide (a0 ≤ 36))
 (ob (Gc a0) fun r20 =>
 (some (r20.1, ())))
 (ob (Gc a0) fun r21 =>
 (cond (r21.1 == Fi)
 (some (([10] : List UInt8), ()))
 (cond (r21.1 == ([116, 97, 98] : List UInt8))
 (some (([9] : List UInt8), ()))
 (cond (r21.1 == Gi)
 (some (([32] : List UInt8), ()))
 (cond (r21.1 == Ei)
 (cond (a1 == 2)
 (some (([95] : List UInt8), ()))
 (some (([45] : List UInt8), ())))
 (cond (r21.1 == Di)
 (cond (a1 == 2)
 (some (([43] : List UInt8), ()))
 (some (([61] : List UInt8), ())))
 (some ([], ())))))))))))))))
def Ri (t0 : Int) (t5 : Int) (t6 : Int) (t7 : Bg) (t8 : Int) (t9 : Int) : Option (((Int × (Int × LD)) × Unit) ⊕ ((LD × Unit) ⊕ OB)) :=
 (cond (decide (t6 ≤ 56))
 (ob (Ih t6 t5) fun r16 =>
 (cond (r16.1 == (Fh ([t0] : List Int)))
 (some (.inr (.inr ((t6, t5, ()), ()))))
 (some (.inl ((t0, t5, (wr .i64 (t6 + 1)), t7, t8, t9, ()), ())))))
 (some (.inr (.inl ((t0, t7, t8, t9, ()), ())))))
def Qe := Za fun x : ((Int × (Int × LD)) × Unit) => Ri x.1.1 x.1.2.1 x.1.2.2.1 x.1.2.2.2.1 x.1.2.2.2.2.1 x.1.2.2.2.2.2.1
def Hf (t0 : Int) (t7 : Bg) (t8 : Int) (t9 : Int) : Option ((LD × Unit) ⊕ (Fg ⊕ OB)) :=
 (cond (decide (t9 < t8))
 (cond (Ql (ln t7) t9)
 (ob t7[(tn t9)]? fun x13 =>
 (ob (Qe ((t0, x13, 1, t7, t8, t9, ()), ())) (se (fun y17 => (some (.inl ((y17.1.1, y17.1.2.1, y17.1.2.2.1, (wr .i64 (y17.1.2.2.2.1 + 1)), ()), ())))) (fun z18 => (some (.inr (.inr (z18.1, ()))))))))
 none)
 (some (.inr (.inl ((), ())))))
def Wv := Za fun x : (LD × Unit) => Hf x.1.1 x.1.2.1 x.1.2.2.1 x.1.2.2.2.1
def SB (a0 : Int) : Option Hb :=
 (ob (Wv ((a0, ([0, 2] : List Int), ((ln ([0, 2] : List Int) : Nat) : Int), 0, ()), ())) (se (fun y19 => (some (0, 0, ()))) (fun z20 => (some z20.1))))
def Qk (a0 : Va) : Option Sd :=
 (ob (Zh a0) fun r1 =>
 (cond r1.1
 (cond (a0.1 == 6)
 (some (true, ()))
 (some ((a0.1 == 7), ())))
 (some (false, ()))))
def Jy (a0 : Va) : Option Yx :=
 (ob (Qk a0) fun r1 =>
 (cond (!r1.1)
 (some (a0, ()))
 (some ((2, a0.2.1, 0, 0, ()), ()))))
def Zs (t1 : Int) (t2 : Int) (t12 : Jj) (t13 : Int) (t14 : Int) : Option ((KT × Unit) ⊕ JD) :=
 (cond (decide (t14 < t13))
 (ob (Sb t12 t14) fun x6 =>
 (cond (t1 != 0)
 (ob (Jy x6) fun r7 =>
 (cond (r7.1.1 == 2)
 (cond (r7.1.2.1 == t1)
 (cond (r7.1.2.2.1 == t2)
 (some (.inr (.inr ((t14, ()), ()))))
 (some (.inl ((t1, t2, t12, t13, (wr .i64 (t14 + 1)), ()), ()))))
 (some (.inl ((t1, t2, t12, t13, (wr .i64 (t14 + 1)), ()), ()))))
 (some (.inl ((t1, t2, t12, t13, (wr .i64 (t14 + 1)), ()), ())))))
 (cond (x6.1 == 2)
 (cond (x6.2.1 == t1)
 (cond (x6.2.2.1 == t2)
 (some (.inr (.inr ((t14, ()), ()))))
 (some (.inl ((t1, t2, t12, t13, (wr .i64 (t14 + 1)), ()), ()))))
 (some (.inl ((t1, t2, t12, t13, (wr .i64 (t14 + 1)), ()), ()))))
 (some (.inl ((t1, t2, t12, t13, (wr .i64 (t14 + 1)), ()), ()))))))
 (some (.inr (.inl ((), ())))))
def Mm := Za fun x : (KT × Unit) => Zs x.1.1 x.1.2.1 x.1.2.2.1 x.1.2.2.2.1 x.1.2.2.2.2.1
def Sr (a0 : Ka) (a1 : Int) (a2 : Int) : Option Nf :=
 (ob (Sb a0.2.1 0) fun x1 =>
 (ob (Mm ((a1, a2, x1, ((ln x1 : Nat) : Int), 0, ()), ())) (se (fun y8 => (some ((-1), ()))) (fun z9 => (some (z9.1.1, ()))))))
def Dv (a0 : Ka) (a1 : Int) (a2 : Int) : Option GO :=
 (ob (SB a1) fun r1 =>
 (cond (r1.1 == 0)
 (some ([], false, ()))
 (ob (Sr a0 r1.1 r1.2.1) fun r2 =>
 (cond (decide (r2.1 ≥ 0))
 (some (([(a2, r2.1, true, ()), (a2, r2.1, false, ())] : List Ma), true, ()))
 (ob (Sr a0 r1.1 0) fun r3 =>
 (ob (Sr a0 0 r1.2.1) fun r4 =>
 (cond (r1.2.1 == 0)
 (some ([], false, ()))
 (cond (decide (r3.1 < 0))
 (some ([], false, ()))
 (cond (decide (r4.1 < 0))
 (some ([], false, ()))
 (some (([(a2, r4.1, true, ()), (a2, r3.1, true, ()), (a2, r3.1, false, ()), (a2, r4.1, false, ())] : List Ma), true, ())))))))))))
def Dm (t1 : Vg) (t2 : Unit) (t6 : Gh) (t7 : Int) (b2 : Ka) : Option (LT ⊕ ((JT × Unit) ⊕ (GO × Unit))) :=
 (cond (decide (t7 < ((ln t1 : Nat) : Int)))
 (ob (Sb t1 t7) fun c8 =>
 (ob (Dv b2 ((UInt8.toNat c8 : Nat) : Int) t7) fun r9 =>
 (cond (!r9.2.1)
 (some (.inr (.inr (([], false, ()), ()))))
 (cond (bl (ln t6 + ln r9.1) Ab)
 (some (.inl ((t1, (), (ap t6 r9.1), (wr .i64 (t7 + 1)), ()), (b2, ()))))
 none))))
 (some (.inr (.inl ((t6, ()), ())))))
def Po := Za fun x : LT => Dm x.1.1 x.1.2.1 x.1.2.2.1 x.1.2.2.2.1 x.2.1
def Zu (a0 : Ka) (a1 : Vg) : Option GO :=
 (ob (Wl a0) fun r1 =>
 (cond (!r1.1)
 (some ([], false, ()))
 (cond (decide (((ln a1 : Nat) : Int) > 60))
 (some ([], false, ()))
 (ob (Po ((a1, (), [], 0, ()), (a0, ()))) (se (fun y10 => (cond (decide (((ln y10.1.1 : Nat) : Int) > 64))
 (some ([], false, ()))
 (some (y10.1.1, true, ())))) (fun z11 => (some z11.1)))))))
def Ml (t2 : Unit) (t3 : Unit) (t10 : Xi) (t11 : Int) (t12 : Int) (b2 : Ka) (b3 : Ka) : Option (((Unit × DO) × DK) ⊕ ((EK × DK) ⊕ Fg)) :=
 (cond (decide (t12 < t11))
 (ob (Sb t10 t12) fun x4 =>
 (cond (bl (ln ([] : List Va) + ln x4) Ab)
 (cond (bl (ln b3.2.1 + ln ([(ap [] x4)] : List Jj)) Ab)
 (some (.inl (((), (), t10, t11, (wr .i64 (t12 + 1)), ()), (b2, (b3.1, (ap b3.2.1 ([(ap [] x4)] : List Jj)), ()), ()))))
 none)
 none))
 (some (.inr (.inl (((), (), ()), (b2, b3, ()))))))
def Kn := Za fun x : ((Unit × DO) × DK) => Ml x.1.1 x.1.2.1 x.1.2.2.1 x.1.2.2.2.1 x.1.2.2.2.2.1 x.2.1 x.2.2.1
def Km (a0 : Ka) : Option Qt :=
 (ob (Kn (((), (), a0.2.1, ((ln a0.2.1 : Nat) : Int), 0, ()), ((0, [], ()), (a0.1, [], ()), ()))) (se (fun y5 => (some (y5.2.2.1, ()))) (fun z6 => none)))
def Nl (t3 : Ks) (t6 : Ks) (t7 : Int) (t8 : Int) : Option (((Ks × (Ks × Hb)) × Unit) ⊕ (((Ks × Unit) × Unit) ⊕ Fg)) :=
 (cond (decide (t8 < t7))
 (ob (Sb t6 t8) fun x4 =>
 (cond (bl (ln ([] : List Vb) + ln x4) Ab)
 (cond (bl (ln t3 + ln ([(ap [] x4)] : List Bk)) Ab)
 (some (.inl (((ap t3 ([(ap [] x4)] : List Bk)), t6, t7, (wr .i64 (t8 + 1)), ()), ())))
 none)
 none))
 (some (.inr (.inl ((t3, ()), ())))))
def Ln := Za fun x : ((Ks × (Ks × Hb)) × Unit) => Nl x.1.1 x.1.2.1 x.1.2.2.1 x.1.2.2.2.1
def Lm (a0 : Ks) : Option (Ks × Unit) :=
 (ob (Ln (([], a0, ((ln a0 : Nat) : Int), 0, ()), ())) (se (fun y5 => (some (y5.1.1, ()))) (fun z6 => none)))
def Gq (a0 : Int) (a1 : Int) : Option Nf :=
 (cond (decide (0 ≤ a1))
 (some ((Pf .i64 (Xv .i64 a0 a1) 1), ()))
 none)
def Ss (t3 : Int) (t6 : Zc) (t7 : Int) (t8 : Int) : Option (HD ⊕ Uz) :=
 (cond (decide (t8 < t7))
 (ob (Sb t6 t8) fun x7 =>
 (cond (decide (x7.1 < 0))
 (some (.inr (.inr ((false, ()), ()))))
 (cond (decide (x7.1 > 31))
 (some (.inr (.inr ((false, ()), ()))))
 (ob (Gq t3 x7.1) fun r8 =>
 (cond (r8.1 == 1)
 (some (.inr (.inr ((false, ()), ()))))
 (ob (Zh x7.2.1) fun r9 =>
 (cond (!r9.1)
 (some (.inr (.inr ((false, ()), ()))))
 (cond (x7.2.1.1 == 1)
 (some (.inr (.inr ((false, ()), ()))))
 (cond (x7.2.1.1 == 6)
 (some (.inr (.inr ((false, ()), ()))))
 (cond (x7.2.1.1 == 7)
 (some (.inr (.inr ((false, ()), ()))))
 (cond (decide (0 ≤ x7.1))
 (some (.inl (((Fd .i64 t3 (De .i64 1 x7.1)), t6, t7, (wr .i64 (t8 + 1)), ()), ())))
 none)))))))))))
 (some (.inr (.inl ((), ())))))
def Au := Za fun x : HD => Ss x.1.1 x.1.2.1 x.1.2.2.1 x.1.2.2.2.1
def Aj (a0 : Zc) : Option Sd :=
 (ob (Au ((0, a0, ((ln a0 : Nat) : Int), 0, ()), ())) (se (fun y10 => (some (true, ()))) (fun z11 => (some (z11.1.1, ())))))
def At (t3 : Unit) (t7 : NB) (t8 : Int) (t9 : Int) (b3 : Hb) : Option (((Unit × ET) × OB) ⊕ JD) :=
 (cond (decide (t9 < t8))
 (ob (Sb t7 t9) fun x3 =>
 (cond (Ns Af x3 b3)
 (some (.inr (.inr ((t9, ()), ()))))
 (some (.inl (((), t7, t8, (wr .i64 (t9 + 1)), ()), (b3, ()))))))
 (some (.inr (.inl ((), ())))))
def Hu := Za fun x : ((Unit × ET) × OB) => At x.1.1 x.1.2.1 x.1.2.2.1 x.1.2.2.2.1 x.2.1
def Kw (a0 : NB) (a1 : Hb) : Option Nf :=
 (ob (Hu (((), a0, ((ln a0 : Nat) : Int), 0, ()), (a1, ()))) (se (fun y4 => (some ((-1), ()))) (fun z5 => (some (z5.1.1, ())))))
def Zk (t3 : NB) (t11 : Bk) (t12 : Int) (t13 : Int) : Option ((QT × Unit) ⊕ (((NB × Unit) × Unit) ⊕ Yu)) :=
 (cond (decide (t13 < t12))
 (ob (Sb t11 t13) fun x10 =>
 (ob (Kw t3 x10.2) fun r11 =>
 (ob (Zh (2, x10.2.1, x10.2.2.1, 0, ())) fun r12 =>
 (cond (!r12.1)
 (some (.inr (.inr ((false, ()), ()))))
 (cond (x10.1 == 0)
 (cond (decide (r11.1 ≥ 0))
 (some (.inr (.inr ((false, ()), ()))))
 (cond (x10.1 == 1)
 (cond (bl (ln t3 + ln ([x10.2] : List Hb)) Ab)
 (some (.inl (((ap t3 ([x10.2] : List Hb)), t11, t12, (wr .i64 (t13 + 1)), ()), ())))
 none)
 (some (.inl ((t3, t11, t12, (wr .i64 (t13 + 1)), ()), ())))))
 (cond (x10.1 == 1)
 (cond (decide (r11.1 ≥ 0))
 (some (.inr (.inr ((false, ()), ()))))
 (cond (x10.1 == 1)
 (cond (bl (ln t3 + ln ([x10.2] : List Hb)) Ab)
 (some (.inl (((ap t3 ([x10.2] : List Hb)), t11, t12, (wr .i64 (t13 + 1)), ()), ())))
 none)
 (some (.inl ((t3, t11, t12, (wr .i64 (t13 + 1)), ()), ())))))
 (cond (x10.1 == 2)
 (cond (decide (r11.1 < 0))
 (some (.inr (.inr ((false, ()), ()))))
 (cond (Jd (ln t3) 0 r11.1)
 (cond (Jd (ln t3) (wr .i64 (r11.1 + 1)) ((ln t3 : Nat) : Int))
 (cond (bl (ln (Kb t3 (tn 0) (tn r11.1)) + ln (Kb t3 (tn (wr .i64 (r11.1 + 1))) (tn ((ln t3 : Nat) : Int)))) Ab)
 (some (.inl (((ap (Kb t3 (tn 0) (tn r11.1)) (Kb t3 (tn (wr .i64 (r11.1 + 1))) (tn ((ln t3 : Nat) : Int)))), t11, t12, (wr .i64 (t13 + 1)), ()), ())))
 none)
 none)
 none))
 (some (.inr (.inr ((false, ()), ())))))))))))
 (some (.inr (.inl ((t3, ()), ())))))
def Bs := Za fun x : (QT × Unit) => Zk x.1.1 x.1.2.1 x.1.2.2.1 x.1.2.2.2.1
def Bu (a0 : Bk) : Option Sd :=
 (cond (decide (((ln a0 : Nat) : Int) > 8))
 (some (false, ()))
 (ob (Bs (([], a0, ((ln a0 : Nat) : Int), 0, ()), ())) (se (fun y13 => (some ((((ln y13.1.1 : Nat) : Int) == 0), ()))) (fun z14 => (some (z14.1.1, ()))))))
def Vn (t1 : Unit) (t35 : Ks) (t36 : Int) (t37 : Int) (b1 : Ua) : Option (((Unit × (Ks × Hb)) × Ak) ⊕ ((Fg × Ak) ⊕ Yu)) :=
 (cond (decide (t37 < t36))
 (ob (Sb t35 t37) fun x7 =>
 (ob (Bu x7) fun r8 =>
 (cond (!r8.1)
 (some (.inr (.inr ((false, ()), ()))))
 (some (.inl (((), t35, t36, (wr .i64 (t37 + 1)), ()), (b1, ())))))))
 (some (.inr (.inl (((), ()), (b1, ()))))))
def Dk := Za fun x : ((Unit × (Ks × Hb)) × Ak) => Vn x.1.1 x.1.2.1 x.1.2.2.1 x.1.2.2.2.1 x.2.1
def Em (t1 : Unit) (t5 : Int) (t50 : Zc) (t51 : Int) (t52 : Int) (b1 : Ua) : Option (((Unit × (Int × QB)) × Ak) ⊕ ((Js × Ak) ⊕ Yu)) :=
 (cond (decide (t52 < t51))
 (ob (Sb t50 t52) fun x13 =>
 (cond (decide (x13.1 ≥ b1.1.1))
 (some (.inr (.inr ((false, ()), ()))))
 (cond (x13.2.1.1 != 9)
 (cond (decide (x13.2.1.2.2.2.1 ≥ t5))
 (some (.inr (.inr ((false, ()), ()))))
 (some (.inl (((), t5, t50, t51, (wr .i64 (t52 + 1)), ()), (b1, ())))))
 (some (.inl (((), t5, t50, t51, (wr .i64 (t52 + 1)), ()), (b1, ())))))))
 (some (.inr (.inl (((), t5, ()), (b1, ()))))))
def Lj := Za fun x : ((Unit × (Int × QB)) × Ak) => Em x.1.1 x.1.2.1 x.1.2.2.1 x.1.2.2.2.1 x.1.2.2.2.2.1 x.2.1
def Sj (a0 : Ua) : Option Sd :=
 (ob (Wl a0.1) fun r1 =>
 (cond (!r1.1)
 (some (false, ()))
 (cond (decide (((ln a0.2.1 : Nat) : Int) > 4))
 (some (false, ()))
 (ob (Aj a0.2.2.2.1) fun r2 =>
 (cond (!r2.1)
 (some (false, ()))
 (cond (decide (a0.2.2.2.2.1 < 0))
 (some (false, ()))
 (cond (decide (a0.2.2.2.2.1 > 15))
 (some (false, ()))
 (ob (Dk (((), a0.2.1, ((ln a0.2.1 : Nat) : Int), 0, ()), (a0, ()))) (se (fun y9 => (ob (Lj (((), ((ln y9.2.1.1.2.1 : Nat) : Int), y9.2.1.2.2.2.1, ((ln y9.2.1.2.2.2.1 : Nat) : Int), 0, ()), (y9.2.1, ()))) (se (fun y14 => (cond (decide (y14.2.1.2.2.1 ≥ 0))
 (cond ((2 : Int) == 0)
 none
 (cond ((Int.tmod y14.2.1.2.2.1 2) == 0)
 (cond (decide (0 ≤ y14.1.2.1))
 (some ((decide (y14.2.1.2.2.1 < (De .i64 1 y14.1.2.1))), ()))
 none)
 (some (false, ()))))
 (some (false, ())))) (fun z15 => (some (z15.1.1, ())))))) (fun z10 => (some (z10.1.1, ()))))))))))))
def Rk (a0 : Ka) (a1 : Ks) : Option (Ua × Sd) :=
 (ob (Km a0) fun r1 =>
 (ob (Lm a1) fun r2 =>
 (ob (Sj (r1.1, r2.1, 0, [], 0, false, ())) fun r3 =>
 (cond (!r3.1)
 (some (Qp, false, ()))
 (some ((r1.1, r2.1, 0, [], 0, false, ()), true, ()))))))
def Qh (a0 : Ua) : Option Ak :=
 (ob (Km a0.1) fun r1 =>
 (ob (Lm a0.2.1) fun r2 =>
 (cond (bl (ln ([] : List Ia) + ln a0.2.2.2.1) Ab)
 (some ((r1.1, r2.1, a0.2.2.1, (ap [] a0.2.2.2.1), a0.2.2.2.2), ()))
 none)))
def Er (a0 : Vb) : Option Sd :=
 (cond (decide (a0.1 ≥ 1))
 (cond (decide (a0.1 ≤ 1000))
 (cond (decide (a0.2.1 ≥ 0))
 (cond (decide (a0.2.1 ≤ 1000))
 (cond (decide (a0.2.2.1 ≥ 0))
 (some ((decide (a0.2.2.1 ≤ 2)), ()))
 (some (false, ())))
 (some (false, ())))
 (some (false, ())))
 (some (false, ())))
 (some (false, ())))
def Zn (t3 : Int) (t6 : Zc) (t7 : Int) (t8 : Int) : Option (HD ⊕ DT) :=
 (cond (decide (t8 < t7))
 (ob (Sb t6 t8) fun x3 =>
 (cond (decide (0 ≤ x3.1))
 (some (.inl (((Fd .i64 t3 (De .i64 1 x3.1)), t6, t7, (wr .i64 (t8 + 1)), ()), ())))
 none))
 (some (.inr (.inl ((t3, ()), ())))))
def Iq := Za fun x : HD => Zn x.1.1 x.1.2.1 x.1.2.2.1 x.1.2.2.2.1
def Yl (a0 : Zc) : Option Nf :=
 (ob (Iq ((0, a0, ((ln a0 : Nat) : Int), 0, ()), ())) (se (fun y4 => (some (y4.1.1, ()))) (fun z5 => none)))
def Zt (a0 : Ma) : Option Sd :=
 (cond (decide (a0.1 ≥ 0))
 (cond (decide (a0.1 ≤ 1000000))
 (cond (decide (a0.2.1 ≥ 0))
 (some ((decide (a0.2.1 ≤ 31)), ()))
 (some (false, ())))
 (some (false, ())))
 (some (false, ())))
def Xs (t0 : Gh) (t1 : Int) (t11 : Gh) (t12 : Int) (t13 : Int) : Option (((Gh × CK) × Unit) ⊕ (VH ⊕ (HT × Unit))) :=
 (cond (decide (t13 < t12))
 (ob (Sb t11 t13) fun x11 =>
 (ob (Zt x11) fun r12 =>
 (cond (!r12.1)
 (some (.inr (.inr ((0, false, ()), ()))))
 (cond (decide (t13 > 0))
 (ob (Sb t0 (wr .i64 (t13 - 1))) fun x13 =>
 (cond (decide (x13.1 > x11.1))
 (some (.inr (.inr ((0, false, ()), ()))))
 (ob (Gq t1 x11.2.1) fun r14 =>
 (cond (x11.2.2.1 == (r14.1 == 1))
 (some (.inr (.inr ((0, false, ()), ()))))
 (cond (decide (0 ≤ x11.2.1))
 (some (.inl ((t0, (Yv .i64 t1 (De .i64 1 x11.2.1)), t11, t12, (wr .i64 (t13 + 1)), ()), ())))
 none)))))
 (ob (Gq t1 x11.2.1) fun r15 =>
 (cond (x11.2.2.1 == (r15.1 == 1))
 (some (.inr (.inr ((0, false, ()), ()))))
 (cond (decide (0 ≤ x11.2.1))
 (some (.inl ((t0, (Yv .i64 t1 (De .i64 1 x11.2.1)), t11, t12, (wr .i64 (t13 + 1)), ()), ())))
 none)))))))
 (some (.inr (.inl ((t1, ()), ())))))
def Eu := Za fun x : ((Gh × CK) × Unit) => Xs x.1.1 x.1.2.1 x.1.2.2.1 x.1.2.2.2.1 x.1.2.2.2.2.1
def DA (a0 : Gh) (a1 : Int) : Option HT :=
 (cond (decide (((ln a0 : Nat) : Int) > 64))
 (some (0, false, ()))
 (ob (Eu ((a0, a1, a0, ((ln a0 : Nat) : Int), 0, ()), ())) (se (fun y16 => (some (y16.1.1, true, ()))) (fun z17 => (some z17.1)))))
def Nm (t0 : Gh) (t1 : Int) (t2 : Int) (t11 : Gh) (t12 : Int) (t13 : Int) : Option (((Gh × (Int × CK)) × Unit) ⊕ (((Gh × Nf) × Unit) ⊕ Yu)) :=
 (cond (decide (t13 < t12))
 (ob (Sb t11 t13) fun x3 =>
 (cond (decide (x3.2.1 ≥ t2))
 (some (.inr (.inr ((false, ()), ()))))
 (some (.inl ((t0, t1, t2, t11, t12, (wr .i64 (t13 + 1)), ()), ())))))
 (some (.inr (.inl ((t0, t1, ()), ())))))
def Wo := Za fun x : ((Gh × (Int × CK)) × Unit) => Nm x.1.1 x.1.2.1 x.1.2.2.1 x.1.2.2.2.1 x.1.2.2.2.2.1 x.1.2.2.2.2.2.1
def Tk (a0 : Gh) (a1 : Int) (a2 : Int) : Option Sd :=
 (ob (Wo ((a0, a1, a2, a0, ((ln a0 : Nat) : Int), 0, ()), ())) (se (fun y4 => (ob (DA y4.1.1 y4.1.2.1) fun r6 =>
 (some (r6.2.1, ())))) (fun z5 => (some (z5.1.1, ())))))
def Sk (a0 : Gh) (a1 : Int) : Option Sd :=
 (cond (((ln a0 : Nat) : Int) == 0)
 (some (true, ()))
 (ob (Sb a0 (wr .i64 (((ln a0 : Nat) : Int) - 1))) fun x1 =>
 (some ((decide (x1.1 ≤ a1)), ()))))
def Qo (a0 : Eb) : Option Sd :=
 (ob (Sj a0.1) fun r1 =>
 (cond (!r1.1)
 (some (false, ()))
 (ob (Er a0.2.1) fun r2 =>
 (cond (!r2.1)
 (some (false, ()))
 (cond (decide (a0.2.2.2.1 < 0))
 (some (false, ()))
 (cond (decide (a0.2.2.2.1 > 1000000))
 (some (false, ()))
 (cond (decide (a0.2.2.2.2.1 < 0))
 (some (false, ()))
 (cond (decide (a0.2.2.2.2.1 > a0.2.2.2.1))
 (some (false, ()))
 (ob (Yl a0.1.2.2.2.1) fun r3 =>
 (ob (Tk a0.2.2.1 r3.1 a0.1.1.1) fun r4 =>
 (cond (!r4.1)
 (some (false, ()))
 (ob (Sk a0.2.2.1 a0.2.2.2.1) fun r5 =>
 (cond (!r5.1)
 (some (false, ()))
 (cond (decide (a0.2.2.2.2.2.1 ≥ 0))
 (cond (decide (a0.2.2.2.2.2.1 ≤ a0.1.1.1))
 (cond (decide (a0.2.2.2.2.2.2.1 ≥ 0))
 (some ((decide (a0.2.2.2.2.2.2.1 ≤ a0.2.2.2.1)), ()))
 (some (false, ())))
 (some (false, ())))
 (some (false, ()))))))))))))))))
def Us (a0 : Ua) (a1 : Vb) : Option (Eb × Sd) :=
 (ob (Qh a0) fun r1 =>
 (ob (Qo (r1.1, a1, [], 0, 0, 0, 0, ())) fun r2 =>
 (cond (!r2.1)
 (some (We, false, ()))
 (some ((r1.1, a1, [], 0, 0, 0, 0, ()), true, ())))))
def Bl (a0 : Eb) : Option KD :=
 (ob (Qh a0.1) fun r1 =>
 (cond (bl (ln ([] : List Ma) + ln a0.2.2.1) Ab)
 (some ((r1.1, a0.2.1, (ap [] a0.2.2.1), a0.2.2.2), ()))
 none))
def Rs (t1 : Int) (t8 : Zc) (t9 : Int) (t10 : Int) : Option (HD ⊕ JD) :=
 (cond (decide (t10 < t9))
 (ob (Sb t8 t10) fun x3 =>
 (cond (x3.1 == t1)
 (some (.inr (.inr ((t10, ()), ()))))
 (some (.inl ((t1, t8, t9, (wr .i64 (t10 + 1)), ()), ())))))
 (some (.inr (.inl ((), ())))))
def Yt := Za fun x : HD => Rs x.1.1 x.1.2.1 x.1.2.2.1 x.1.2.2.2.1
def AA (a0 : Ua) (a1 : Int) : Option Nf :=
 (ob (Yt ((a1, a0.2.2.2.1, ((ln a0.2.2.2.1 : Nat) : Int), 0, ()), ())) (se (fun y4 => (some ((-1), ()))) (fun z5 => (some (z5.1.1, ())))))
def sort_Ints (x0 : Bg) : Option VF := srt x0
def Ys (t1 : Int) (t7 : Bg) (t8 : Int) (t9 : Int) : Option ((LD × Unit) ⊕ Uz) :=
 (cond (decide (t9 < t8))
 (ob (Sb t7 t9) fun x3 =>
 (cond (x3 == t1)
 (some (.inr (.inr ((true, ()), ()))))
 (some (.inl ((t1, t7, t8, (wr .i64 (t9 + 1)), ()), ())))))
 (some (.inr (.inl ((), ())))))
def Fu := Za fun x : (LD × Unit) => Ys x.1.1 x.1.2.1 x.1.2.2.1 x.1.2.2.2.1
def Jw (a0 : Bg) (a1 : Int) : Option Sd :=
 (ob (Fu ((a1, a0, ((ln a0 : Nat) : Int), 0, ()), ())) (se (fun y4 => (some (false, ()))) (fun z5 => (some (z5.1.1, ())))))
def Hq (t4 : Bg) (t11 : Bg) (t12 : Int) (t13 : Int) : Option ((GK × Unit) ⊕ N1) :=
 (cond (decide (t13 < t12))
 (cond (Ql (ln t11) t13)
 (ob t11[(tn t13)]? fun x9 =>
 (cond (x9 != 0)
 (ob (Jw t4 x9) fun r10 =>
 (cond (!r10.1)
 (cond (bl (ln t4 + ln ([x9] : List Int)) Ab)
 (some (.inl (((ap t4 ([x9] : List Int)), t11, t12, (wr .i64 (t13 + 1)), ()), ())))
 none)
 (some (.inl ((t4, t11, t12, (wr .i64 (t13 + 1)), ()), ())))))
 (some (.inl ((t4, t11, t12, (wr .i64 (t13 + 1)), ()), ())))))
 none)
 (some (.inr (.inl ((t4, ()), ())))))
def Ds := Za fun x : (GK × Unit) => Hq x.1.1 x.1.2.1 x.1.2.2.1 x.1.2.2.2.1
def Uo (a0 : Bg) : Option VF :=
 (ob (Xl a0) fun r1 =>
 (ob (sort_Ints r1.1) fun r2 =>
 (ob (Ds (([], r2.1, ((ln r2.1 : Nat) : Int), 0, ()), ())) (se (fun y11 => (some (y11.1.1, ()))) (fun z12 => none)))))
def Yn (t2 : Unit) (t3 : Unit) (t4 : Bg) (t11 : Zc) (t12 : Int) (t13 : Int) (b2 : Aa) (b3 : Aa) : Option (((Unit × (Unit × (Bg × QB))) × Fn) ⊕ J1) :=
 (cond (decide (t13 < t12))
 (ob (Sb t11 t13) fun x5 =>
 (cond (x5.2.1.1 == 2)
 (cond (bl (ln t4 + ln ([x5.2.1.2.1] : List Int)) Ab)
 (some (.inl (((), (), (ap t4 ([x5.2.1.2.1] : List Int)), t11, t12, (wr .i64 (t13 + 1)), ()), (b2, ((Fd .i64 b3.1 x5.2.1.2.2.1), b3.2.1, ()), ()))))
 none)
 (cond (x5.2.1.1 == 8)
 (cond (bl (ln t4 + ln ([x5.2.1.2.1] : List Int)) Ab)
 (some (.inl (((), (), (ap t4 ([x5.2.1.2.1] : List Int)), t11, t12, (wr .i64 (t13 + 1)), ()), (b2, ((Fd .i64 b3.1 x5.2.1.2.2.1), b3.2.1, ()), ()))))
 none)
 (cond (bl (ln t4 + ln ([x5.2.1.2.1] : List Int)) Ab)
 (some (.inl (((), (), (ap t4 ([x5.2.1.2.1] : List Int)), t11, t12, (wr .i64 (t13 + 1)), ()), (b2, b3, ()))))
 none))))
 (some (.inr (.inl (((), (), t4, ()), (b2, b3, ()))))))
def Dq := Za fun x : ((Unit × (Unit × (Bg × QB))) × Fn) => Yn x.1.1 x.1.2.1 x.1.2.2.1 x.1.2.2.2.1 x.1.2.2.2.2.1 x.1.2.2.2.2.2.1 x.2.1 x.2.2.1
def Xc (a0 : Zc) : Option Nh :=
 (ob (Aj a0) fun r1 =>
 (cond (!r1.1)
 (some ((0, [], ()), ()))
 (ob (Dq (((), (), [], a0, ((ln a0 : Nat) : Int), 0, ()), ((0, [], ()), (0, [], ()), ()))) (se (fun y6 => (ob (Uo y6.1.2.2.1) fun r8 =>
 (some ((y6.2.2.1.1, r8.1, ()), ())))) (fun z7 => none)))))
def Ao (t0 : Bg) (t1 : Bg) (t12 : Int) (t13 : Int) : Option ((GK × Unit) ⊕ Uz) :=
 (cond (decide (t13 < t12))
 (ob (Sb t0 t13) fun x5 =>
 (ob (Sb t1 t13) fun x6 =>
 (cond (x5 != x6)
 (some (.inr (.inr ((false, ()), ()))))
 (some (.inl ((t0, t1, t12, (wr .i64 (t13 + 1)), ()), ()))))))
 (some (.inr (.inl ((), ())))))
def Jq := Za fun x : (GK × Unit) => Ao x.1.1 x.1.2.1 x.1.2.2.1 x.1.2.2.2.1
def Vw (a0 : Bg) (a1 : Bg) : Option Sd :=
 (cond (((ln a0 : Nat) : Int) != ((ln a1 : Nat) : Int))
 (some (false, ()))
 (ob (Jq ((a0, a1, ((ln a0 : Nat) : Int), 0, ()), ())) (se (fun y7 => (some (true, ()))) (fun z8 => (some (z8.1.1, ()))))))
def Gm (a0 : Aa) (a1 : Aa) : Option Sd :=
 (cond (a0.1 == a1.1)
 (ob (Vw a0.2.1 a1.2.1) fun r1 =>
 (some (r1.1, ())))
 (some (false, ())))
def Li (a b : Aa) : Bool := (a.1 == b.1) && (a.2.1 == b.2.1)
def Vab (c : T Ld → T Ld → Option Bool) (a b : T Ld) : Option Sd := ob (c a b) fun x => some (x, ())
def Hz (c : T Ld → T Ld → Option Bool) (t2 : Unit) (t5 : (List (Int × ((T .o) × Unit)))) (t8 : (List (Int × ((T .o) × Unit)))) (t9 : Int) (t10 : Int) (b2 : (Int × ((T .o) × Unit))) : Option (((Unit × ((List (Int × ((T .o) × Unit))) × ((List (Int × ((T .o) × Unit))) × Hb))) × ((Int × ((T .o) × Unit)) × Unit)) ⊕ ((((List (Int × ((T .o) × Unit))) × Unit) × Unit) ⊕ Fg)) :=
 (cond (decide (t10 < t9))
 (ob (Sb t8 t10) fun x7 =>
 (ob (Vab c b2 x7) fun r8 =>
 (cond (!r8.1)
 (cond (bl (ln t5 + ln ([x7] : List (Int × ((T .o) × Unit)))) Ab)
 (some (.inl (((), (ap t5 ([x7] : List (Int × ((T .o) × Unit)))), t8, t9, (wr .i64 (t10 + 1)), ()), (x7, ()))))
 none)
 (some (.inl (((), t5, t8, t9, (wr .i64 (t10 + 1)), ()), (x7, ())))))))
 (some (.inr (.inl ((t5, ()), ())))))
def Rr (c : T Ld → T Ld → Option Bool) (x : ((Unit × ((List (Int × ((T .o) × Unit))) × ((List (Int × ((T .o) × Unit))) × Hb))) × ((Int × ((T .o) × Unit)) × Unit))) : Option ((((List (Int × ((T .o) × Unit))) × Unit) × Unit) ⊕ Fg) := Za (fun x : ((Unit × ((List (Int × ((T .o) × Unit))) × ((List (Int × ((T .o) × Unit))) × Hb))) × ((Int × ((T .o) × Unit)) × Unit)) => Hz c x.1.1 x.1.2.1 x.1.2.2.1 x.1.2.2.2.1 x.1.2.2.2.2.1 x.2.1) x
def Y1 (c : T Ld → T Ld → Option Bool) (a0 : (Int × ((T .o) × Unit))) (a1 : (List (Int × ((T .o) × Unit)))) : Option ((List (Int × ((T .o) × Unit))) × Unit) :=
 (ob (Rr c (((), ([] : List (Int × ((T .o) × Unit))), a1, ((ln a1 : Nat) : Int), 0, ()), (a0, ()))) (se (fun y9 => (some (y9.1.1, ()))) (fun z10 => none)))
def Nd (a0 : Aa) (a1 : List Aa) : Option PB := X1 Li a0 a1
def Iu (a0 : Ua) (a1 : Int) : Option (Ua × PB) :=
 (ob (Qh a0) fun r1 =>
 (ob (AA a0 a1) fun r2 =>
 (cond (Jd (ln r1.1.2.2.2.1) 0 r2.1)
 (cond (Jd (ln r1.1.2.2.2.1) (wr .i64 (r2.1 + 1)) ((ln r1.1.2.2.2.1 : Nat) : Int))
 (cond (bl (ln (Kb r1.1.2.2.2.1 (tn 0) (tn r2.1)) + ln (Kb r1.1.2.2.2.1 (tn (wr .i64 (r2.1 + 1))) (tn ((ln r1.1.2.2.2.1 : Nat) : Int)))) Ab)
 (ob (Xc a0.2.2.2.1) fun r3 =>
 (ob (Xc (ap (Kb r1.1.2.2.2.1 (tn 0) (tn r2.1)) (Kb r1.1.2.2.2.1 (tn (wr .i64 (r2.1 + 1))) (tn ((ln r1.1.2.2.2.1 : Nat) : Int))))) fun r4 =>
 (ob (Nd r3.1 ([r4.1] : List Aa)) fun r5 =>
 (some ((r1.1.1, r1.1.2.1, r1.1.2.2.1, (ap (Kb r1.1.2.2.2.1 (tn 0) (tn r2.1)) (Kb r1.1.2.2.2.1 (tn (wr .i64 (r2.1 + 1))) (tn ((ln r1.1.2.2.2.1 : Nat) : Int)))), r1.1.2.2.2.2), r5.1, ())))))
 none)
 none)
 none)))
def Xn (t5 : Int) (t21 : Zc) (t22 : Int) (t23 : Int) : Option (HD ⊕ DT) :=
 (cond (decide (t23 < t22))
 (ob (Sb t21 t23) fun x16 =>
 (cond (x16.2.1.1 == 3)
 (cond (decide (0 ≤ x16.2.1.2.2.2.1))
 (some (.inl (((Fd .i64 t5 (De .i64 1 x16.2.1.2.2.2.1)), t21, t22, (wr .i64 (t23 + 1)), ()), ())))
 none)
 (some (.inl ((t5, t21, t22, (wr .i64 (t23 + 1)), ()), ())))))
 (some (.inr (.inl ((t5, ()), ())))))
def Ph := Za fun x : HD => Xn x.1.1 x.1.2.1 x.1.2.2.1 x.1.2.2.2.1
def Gr (a0 : Int) (a1 : Zc) : Option Nf :=
 (cond (decide (a0 ≥ 0))
 (cond (decide (a0 ≤ 15))
 (ob (Aj a1) fun r1 =>
 (cond (!r1.1)
 (some ((Fd .i64 1 a0), ()))
 (ob (Ph (((Fd .i64 1 a0), a1, ((ln a1 : Nat) : Int), 0, ()), ())) (se (fun y5 => (some (y5.1.1, ()))) (fun z6 => none)))))
 (ob (Aj a1) fun r7 =>
 (cond (!r7.1)
 (some (1, ()))
 (ob (Ph ((1, a1, ((ln a1 : Nat) : Int), 0, ()), ())) (se (fun y11 => (some (y11.1.1, ()))) (fun z12 => none))))))
 (ob (Aj a1) fun r13 =>
 (cond (!r13.1)
 (some (1, ()))
 (ob (Ph ((1, a1, ((ln a1 : Nat) : Int), 0, ()), ())) (se (fun y17 => (some (y17.1.1, ()))) (fun z18 => none))))))
def RC (t1 : Int) (t2 : Int) (t3 : Unit) (t7 : Int) (b3 : Ka) : Option (FK ⊕ JD) :=
 (cond (decide (t7 > 0))
 (ob (Gq t1 t7) fun r7 =>
 (cond (r7.1 == 1)
 (ob (Sb b3.2.1 t7) fun x8 =>
 (ob (Sb x8 t2) fun x9 =>
 (cond (x9.1 != 1)
 (some (.inr (.inr ((t7, ()), ()))))
 (some (.inl ((t1, t2, (), (wr .i64 (t7 - 1)), ()), (b3, ())))))))
 (some (.inl ((t1, t2, (), (wr .i64 (t7 - 1)), ()), (b3, ()))))))
 (some (.inr (.inl ((), ())))))
def Sg := Za fun x : FK => RC x.1.1 x.1.2.1 x.1.2.2.1 x.1.2.2.2.1 x.2.1
def Gu (a0 : Ka) (a1 : Int) (a2 : Int) : Option Nf :=
 (ob (Sg ((a1, a2, (), (wr .i64 (((ln a0.2.1 : Nat) : Int) - 1)), ()), (a0, ()))) (se (fun y10 => (some (0, ()))) (fun z11 => (some (z11.1.1, ())))))
def PC (a0 : Ka) (a1 : Int) (a2 : Int) : Option Nf :=
 (ob (Wl a0) fun r1 =>
 (cond (!r1.1)
 (some ((-1), ()))
 (cond (decide (a2 < 0))
 (some ((-1), ()))
 (cond (decide (a2 ≥ a0.1))
 (some ((-1), ()))
 (ob (Gu a0 a1 a2) fun r2 =>
 (some (r2.1, ())))))))
def Uw (a0 : Ka) (a1 : Int) (a2 : Int) : Option Yx :=
 (ob (PC a0 a1 a2) fun r1 =>
 (cond (decide (r1.1 < 0))
 (some ((0, 0, 0, 0, ()), ()))
 (ob (Sb a0.2.1 r1.1) fun x2 =>
 (ob (Sb x2 a2) fun x3 =>
 (some (x3, ()))))))
def Un (t1 : Int) (t2 : Int) (t4 : Int) (t5 : Unit) (t12 : Int) (t26 : Gh) (t27 : Int) (t28 : Int) (b5 : Vb) : Option (((Int × (Int × (Int × (Unit × CK)))) × ID) ⊕ (((Int × (Int × Fg)) × ID) ⊕ OB)) :=
 (cond (decide (t28 < t27))
 (ob (Sb t26 t28) fun x10 =>
 (ob (Zt x10) fun r11 =>
 (cond (!r11.1)
 (some (.inr (.inr ((0, 0, ()), ()))))
 (cond (decide (x10.1 ≥ (wr .i64 (t2 + b5.1))))
 (some (.inr (.inr ((2, (wr .i64 (t2 + b5.1)), ()), ()))))
 (cond (x10.2.1 == t1)
 (cond (!x10.2.2.1)
 (some (.inr (.inr ((1, x10.1, ()), ()))))
 (cond (x10.2.1 == t1)
 (some (.inl ((t1, t2, t4, (), t12, t26, t27, (wr .i64 (t28 + 1)), ()), (b5, ()))))
 (cond x10.2.2.1
 (cond (b5.2.2.1 == 1)
 (some (.inr (.inr ((2, x10.1, ()), ()))))
 (cond (decide (0 ≤ x10.2.1))
 (some (.inl ((t1, t2, t4, (), (Fd .i64 t12 (De .i64 1 x10.2.1)), t26, t27, (wr .i64 (t28 + 1)), ()), (b5, ()))))
 none))
 (cond (b5.2.2.1 == 2)
 (ob (Gq t12 x10.2.1) fun r12 =>
 (cond (r12.1 == 1)
 (some (.inr (.inr ((2, x10.1, ()), ()))))
 (some (.inl ((t1, t2, t4, (), t12, t26, t27, (wr .i64 (t28 + 1)), ()), (b5, ()))))))
 (some (.inl ((t1, t2, t4, (), t12, t26, t27, (wr .i64 (t28 + 1)), ()), (b5, ()))))))))
 (cond (x10.2.1 == t1)
 (some (.inl ((t1, t2, t4, (), t12, t26, t27, (wr .i64 (t28 + 1)), ()), (b5, ()))))
 (cond x10.2.2.1
 (cond (b5.2.2.1 == 1)
 (some (.inr (.inr ((2, x10.1, ()), ()))))
 (cond (decide (0 ≤ x10.2.1))
 (some (.inl ((t1, t2, t4, (), (Fd .i64 t12 (De .i64 1 x10.2.1)), t26, t27, (wr .i64 (t28 + 1)), ()), (b5, ()))))
 none))
 (cond (b5.2.2.1 == 2)
 (ob (Gq t12 x10.2.1) fun r13 =>
 (cond (r13.1 == 1)
 (some (.inr (.inr ((2, x10.1, ()), ()))))
 (some (.inl ((t1, t2, t4, (), t12, t26, t27, (wr .i64 (t28 + 1)), ()), (b5, ()))))))
 (some (.inl ((t1, t2, t4, (), t12, t26, t27, (wr .i64 (t28 + 1)), ()), (b5, ()))))))))))))
 (some (.inr (.inl ((t2, t4, (), ()), (b5, ()))))))
def Zp := Za fun x : ((Int × (Int × (Int × (Unit × CK)))) × ID) => Un x.1.1 x.1.2.1 x.1.2.2.1 x.1.2.2.2.1 x.1.2.2.2.2.1 x.1.2.2.2.2.2.1 x.1.2.2.2.2.2.2.1 x.1.2.2.2.2.2.2.2.1 x.2.1
def Cr (a0 : Vb) (a1 : Int) (a2 : Int) (a3 : Gh) (a4 : Int) : Option Hb :=
 (ob (Er a0) fun r1 =>
 (cond (!r1.1)
 (some (0, 0, ()))
 (cond (decide (a2 < 0))
 (some (0, 0, ()))
 (cond (decide (a2 > 1000000))
 (some (0, 0, ()))
 (ob (Zp ((a1, a2, a4, (), 0, a3, ((ln a3 : Nat) : Int), 0, ()), (a0, ()))) (se (fun y14 => (cond (decide (y14.1.2.1 ≥ (wr .i64 (y14.1.1 + y14.2.1.1))))
 (some (2, (wr .i64 (y14.1.1 + y14.2.1.1)), ()))
 (some (0, 0, ())))) (fun z15 => (some z15.1))))))))
def BA (a0 : Va) : Option Yx :=
 (ob (Qk a0) fun r1 =>
 (cond (!r1.1)
 (some (a0, ()))
 (cond (a0.1 == 6)
 (some ((2, 0, a0.2.2.1, 0, ()), ()))
 (some ((3, 0, 0, a0.2.2.2.1, ()), ())))))
def Ts (a0 : Int) : Option Sd :=
 (cond (decide (a0 ≥ 1))
 (cond (decide (a0 ≤ 36))
 (some (true, ()))
 (cond (a0 == 39)
 (some (true, ()))
 (some ((a0 == 42), ()))))
 (cond (a0 == 39)
 (some (true, ()))
 (some ((a0 == 42), ()))))
def Nn (a0 : Ua) (a1 : Va) : Option (Ua × Yx) :=
 (cond (a1.1 == 2)
 (cond (a1.2.1 == 0)
 (some (a0, (a1, ())))
 (cond a0.2.2.2.2.2.1
 (ob (Ts a1.2.1) fun r1 =>
 (cond r1.1
 (cond (decide (a1.2.1 ≤ 26))
 (cond ((Eh .i64 (Fd .i64 a1.2.2.1 a0.2.2.2.2.1) 2) == 0)
 (some ((a0.1, a0.2.1, a0.2.2.1, a0.2.2.2.1, 0, r1.1, a0.2.2.2.2.2.2), ((a1.1, a1.2.1, 2, a1.2.2.2), ())))
 (some ((a0.1, a0.2.1, a0.2.2.1, a0.2.2.2.1, 0, r1.1, a0.2.2.2.2.2.2), ((a1.1, a1.2.1, (Fd .i64 a1.2.2.1 a0.2.2.2.2.1), a1.2.2.2), ()))))
 (some ((a0.1, a0.2.1, a0.2.2.1, a0.2.2.2.1, 0, r1.1, a0.2.2.2.2.2.2), ((a1.1, a1.2.1, (Fd .i64 a1.2.2.1 a0.2.2.2.2.1), a1.2.2.2), ()))))
 (some ((a0.1, a0.2.1, a0.2.2.1, a0.2.2.2.1, 0, r1.1, a0.2.2.2.2.2.2), ((a1.1, a1.2.1, (Fd .i64 a1.2.2.1 a0.2.2.2.2.1), a1.2.2.2), ())))))
 (some ((a0.1, a0.2.1, a0.2.2.1, a0.2.2.2.1, 0, false, a0.2.2.2.2.2.2), ((a1.1, a1.2.1, (Fd .i64 a1.2.2.1 a0.2.2.2.2.1), a1.2.2.2), ())))))
 (cond (a1.1 == 4)
 (cond (decide (0 ≤ a1.2.2.2.1))
 (some ((a0.1, a0.2.1, (Yv .i64 a0.2.2.1 (De .i64 1 a1.2.2.2.1)), a0.2.2.2), (a1, ())))
 none)
 (cond (a1.1 == 5)
 (cond (decide (0 ≤ a1.2.2.2.1))
 (some ((a0.1, a0.2.1, (Eh .i64 (De .i64 1 a1.2.2.2.1) 1), a0.2.2.2), (a1, ())))
 none)
 (cond (a1.1 == 8)
 (cond ((Pf .i64 a0.2.2.2.2.1 a1.2.2.1) == a1.2.2.1)
 (some ((a0.1, a0.2.1, a0.2.2.1, a0.2.2.2.1, (Eh .i64 a0.2.2.2.2.1 a1.2.2.1), a0.2.2.2.2.2), (a1, ())))
 (some ((a0.1, a0.2.1, a0.2.2.1, a0.2.2.2.1, (Fd .i64 a0.2.2.2.2.1 a1.2.2.1), a0.2.2.2.2.2), (a1, ()))))
 (cond (a1.1 == 10)
 (some ((a0.1, a0.2.1, a0.2.2.1, a0.2.2.2.1, a0.2.2.2.2.1, (!a0.2.2.2.2.2.1), a0.2.2.2.2.2.2), (a1, ())))
 (some (a0, (a1, ()))))))))
def Om (t4 : Unit) (t5 : Unit) (t6 : Bg) (t15 : NB) (t16 : Int) (t17 : Int) (b4 : Aa) (b5 : Aa) : Option (((Unit × (Unit × (Bg × ET))) × Fn) ⊕ J1) :=
 (cond (decide (t17 < t16))
 (ob (Sb t15 t17) fun x4 =>
 (cond (bl (ln t6 + ln ([x4.1] : List Int)) Ab)
 (some (.inl (((), (), (ap t6 ([x4.1] : List Int)), t15, t16, (wr .i64 (t17 + 1)), ()), (b4, ((Fd .i64 b5.1 x4.2.1), b5.2.1, ()), ()))))
 none))
 (some (.inr (.inl (((), (), t6, ()), (b4, b5, ()))))))
def Xo := Za fun x : ((Unit × (Unit × (Bg × ET))) × Fn) => Om x.1.1 x.1.2.1 x.1.2.2.1 x.1.2.2.2.1 x.1.2.2.2.2.1 x.1.2.2.2.2.2.1 x.2.1 x.2.2.1
def Ce (a0 : Aa) (a1 : NB) : Option Nh :=
 (ob (Xl a0.2.1) fun r1 =>
 (ob (Xo (((), (), r1.1, a1, ((ln a1 : Nat) : Int), 0, ()), ((0, [], ()), (a0.1, [], ()), ()))) (se (fun y5 => (ob (Uo y5.1.2.2.1) fun r7 =>
 (some ((y5.2.2.1.1, r7.1, ()), ())))) (fun z6 => none))))
def Mj (t5 : Unit) (t6 : Bf) (t7 : NB) (t22 : Bk) (t23 : Int) (t24 : Int) (b5 : Aa) : Option (((Unit × (Bf × QT)) × Nh) ⊕ EO) :=
 (cond (decide (t24 < t23))
 (ob (Sb t22 t24) fun x25 =>
 (cond (x25.1 == 0)
 (cond (bl (ln ([] : List Hb) + ln t7) Ab)
 (cond (bl (ln (ap [] t7) + ln ([x25.2] : List Hb)) Ab)
 (ob (Ce b5 (ap (ap [] t7) ([x25.2] : List Hb))) fun r26 =>
 (cond (bl (ln t6 + ln ([r26.1] : List Aa)) Ab)
 (ob (Ce b5 t7) fun r27 =>
 (cond (bl (ln (ap t6 ([r26.1] : List Aa)) + ln ([r27.1] : List Aa)) Ab)
 (some (.inl (((), (ap (ap t6 ([r26.1] : List Aa)) ([r27.1] : List Aa)), t7, t22, t23, (wr .i64 (t24 + 1)), ()), (b5, ()))))
 none))
 none))
 none)
 none)
 (cond (x25.1 == 1)
 (cond (bl (ln t7 + ln ([x25.2] : List Hb)) Ab)
 (ob (Ce b5 (ap t7 ([x25.2] : List Hb))) fun r28 =>
 (cond (bl (ln t6 + ln ([r28.1] : List Aa)) Ab)
 (some (.inl (((), (ap t6 ([r28.1] : List Aa)), (ap t7 ([x25.2] : List Hb)), t22, t23, (wr .i64 (t24 + 1)), ()), (b5, ()))))
 none))
 none)
 (cond (x25.1 == 2)
 (ob (Kw t7 x25.2) fun r29 =>
 (cond (Jd (ln t7) 0 r29.1)
 (cond (Jd (ln t7) (wr .i64 (r29.1 + 1)) ((ln t7 : Nat) : Int))
 (cond (bl (ln (Kb t7 (tn 0) (tn r29.1)) + ln (Kb t7 (tn (wr .i64 (r29.1 + 1))) (tn ((ln t7 : Nat) : Int)))) Ab)
 (ob (Ce b5 (ap (Kb t7 (tn 0) (tn r29.1)) (Kb t7 (tn (wr .i64 (r29.1 + 1))) (tn ((ln t7 : Nat) : Int))))) fun r30 =>
 (cond (bl (ln t6 + ln ([r30.1] : List Aa)) Ab)
 (some (.inl (((), (ap t6 ([r30.1] : List Aa)), (ap (Kb t7 (tn 0) (tn r29.1)) (Kb t7 (tn (wr .i64 (r29.1 + 1))) (tn ((ln t7 : Nat) : Int)))), t22, t23, (wr .i64 (t24 + 1)), ()), (b5, ()))))
 none))
 none)
 none)
 none))
 (ob (Ce b5 t7) fun r31 =>
 (cond (bl (ln t6 + ln ([r31.1] : List Aa)) Ab)
 (some (.inl (((), (ap t6 ([r31.1] : List Aa)), t7, t22, t23, (wr .i64 (t24 + 1)), ()), (b5, ()))))
 none))))))
 (some (.inr (.inl ((t6, ()), ())))))
def Al := Za fun x : ((Unit × (Bf × QT)) × Nh) => Mj x.1.1 x.1.2.1 x.1.2.2.1 x.1.2.2.2.1 x.1.2.2.2.2.1 x.1.2.2.2.2.2.1 x.2.1
def Vh (a0 : Zc) (a1 : Bk) : Option PB :=
 (ob (Aj a0) fun r1 =>
 (cond (!r1.1)
 (some ([], ()))
 (ob (Bu a1) fun r2 =>
 (cond (!r2.1)
 (some ([], ()))
 (ob (Xc a0) fun r3 =>
 (ob (Al (((), [], [], a1, ((ln a1 : Nat) : Int), 0, ()), (r3.1, ()))) (se (fun y32 => (some (y32.1.1, ()))) (fun z33 => none))))))))
def Lg (a0 : Ua) (a1 : Int) (a2 : Bool) : Option (Ua × PB) :=
 (ob (Qh a0) fun r1 =>
 (ob (Gr a0.2.2.1 a0.2.2.2.1) fun r2 =>
 (ob (Gu a0.1 r2.1 a1) fun r3 =>
 (ob (Sb a0.1.2.1 r3.1) fun x4 =>
 (ob (Sb x4 a1) fun x5 =>
 (cond a2
 (ob (BA x5) fun r6 =>
 (ob (Nn r1.1 r6.1) fun r7 =>
 (cond (bl (ln r7.1.2.2.2.1 + ln ([(a1, r7.2.1, ())] : List Ia)) Ab)
 (cond (r7.2.1.1 == 9)
 (cond (decide (r7.2.1.2.2.2.1 < ((ln a0.2.1 : Nat) : Int)))
 (ob (Sb a0.2.1 r7.2.1.2.2.2.1) fun x8 =>
 (ob (Vh (ap r7.1.2.2.2.1 ([(a1, r7.2.1, ())] : List Ia)) x8) fun r9 =>
 (ob (Xc (ap r7.1.2.2.2.1 ([(a1, r7.2.1, ())] : List Ia))) fun r10 =>
 (cond (bl (ln r9.1 + ln ([r10.1] : List Aa)) Ab)
 (ob (Xc a0.2.2.2.1) fun r11 =>
 (ob (Nd r11.1 (ap r9.1 ([r10.1] : List Aa))) fun r12 =>
 (some ((r7.1.1, r7.1.2.1, r7.1.2.2.1, (ap r7.1.2.2.2.1 ([(a1, r7.2.1, ())] : List Ia)), r7.1.2.2.2.2), r12.1, ()))))
 none))))
 (ob (Xc (ap r7.1.2.2.2.1 ([(a1, r7.2.1, ())] : List Ia))) fun r13 =>
 (cond (bl (ln ([] : List Aa) + ln ([r13.1] : List Aa)) Ab)
 (ob (Xc a0.2.2.2.1) fun r14 =>
 (ob (Nd r14.1 (ap [] ([r13.1] : List Aa))) fun r15 =>
 (some ((r7.1.1, r7.1.2.1, r7.1.2.2.1, (ap r7.1.2.2.2.1 ([(a1, r7.2.1, ())] : List Ia)), r7.1.2.2.2.2), r15.1, ()))))
 none)))
 (ob (Xc (ap r7.1.2.2.2.1 ([(a1, r7.2.1, ())] : List Ia))) fun r16 =>
 (cond (bl (ln ([] : List Aa) + ln ([r16.1] : List Aa)) Ab)
 (ob (Xc a0.2.2.2.1) fun r17 =>
 (ob (Nd r17.1 (ap [] ([r16.1] : List Aa))) fun r18 =>
 (some ((r7.1.1, r7.1.2.1, r7.1.2.2.1, (ap r7.1.2.2.2.1 ([(a1, r7.2.1, ())] : List Ia)), r7.1.2.2.2.2), r18.1, ()))))
 none)))
 none)))
 (ob (Jy x5) fun r19 =>
 (ob (Nn r1.1 r19.1) fun r20 =>
 (cond (bl (ln r20.1.2.2.2.1 + ln ([(a1, r20.2.1, ())] : List Ia)) Ab)
 (cond (r20.2.1.1 == 9)
 (cond (decide (r20.2.1.2.2.2.1 < ((ln a0.2.1 : Nat) : Int)))
 (ob (Sb a0.2.1 r20.2.1.2.2.2.1) fun x21 =>
 (ob (Vh (ap r20.1.2.2.2.1 ([(a1, r20.2.1, ())] : List Ia)) x21) fun r22 =>
 (ob (Xc (ap r20.1.2.2.2.1 ([(a1, r20.2.1, ())] : List Ia))) fun r23 =>
 (cond (bl (ln r22.1 + ln ([r23.1] : List Aa)) Ab)
 (ob (Xc a0.2.2.2.1) fun r24 =>
 (ob (Nd r24.1 (ap r22.1 ([r23.1] : List Aa))) fun r25 =>
 (some ((r20.1.1, r20.1.2.1, r20.1.2.2.1, (ap r20.1.2.2.2.1 ([(a1, r20.2.1, ())] : List Ia)), r20.1.2.2.2.2), r25.1, ()))))
 none))))
 (ob (Xc (ap r20.1.2.2.2.1 ([(a1, r20.2.1, ())] : List Ia))) fun r26 =>
 (cond (bl (ln ([] : List Aa) + ln ([r26.1] : List Aa)) Ab)
 (ob (Xc a0.2.2.2.1) fun r27 =>
 (ob (Nd r27.1 (ap [] ([r26.1] : List Aa))) fun r28 =>
 (some ((r20.1.1, r20.1.2.1, r20.1.2.2.1, (ap r20.1.2.2.2.1 ([(a1, r20.2.1, ())] : List Ia)), r20.1.2.2.2.2), r28.1, ()))))
 none)))
 (ob (Xc (ap r20.1.2.2.2.1 ([(a1, r20.2.1, ())] : List Ia))) fun r29 =>
 (cond (bl (ln ([] : List Aa) + ln ([r29.1] : List Aa)) Ab)
 (ob (Xc a0.2.2.2.1) fun r30 =>
 (ob (Nd r30.1 (ap [] ([r29.1] : List Aa))) fun r31 =>
 (some ((r20.1.1, r20.1.2.1, r20.1.2.2.1, (ap r20.1.2.2.2.1 ([(a1, r20.2.1, ())] : List Ia)), r20.1.2.2.2.2), r31.1, ()))))
 none)))
 none)))))))))
def Kg (a0 : Eb) : Option (Eb × (Bf × Sd)) :=
 (cond (Ql (ln a0.2.2.1) 0)
 (ob a0.2.2.1[(tn 0)]? fun x1 =>
 (cond (Jd (ln a0.2.2.1) 1 ((ln a0.2.2.1 : Nat) : Int))
 (cond (!x1.2.2.1)
 (cond (a0.2.2.2.2.2.1 == (wr .i64 (x1.2.1 + 1)))
 (ob (Iu a0.1 x1.2.1) fun r2 =>
 (cond (bl (ln ([] : List Ma) + ln (Kb a0.2.2.1 (tn 1) (tn ((ln a0.2.2.1 : Nat) : Int)))) Ab)
 (some ((r2.1, a0.2.1, (ap [] (Kb a0.2.2.1 (tn 1) (tn ((ln a0.2.2.1 : Nat) : Int)))), a0.2.2.2.1, (max a0.2.2.2.2.1 x1.1), a0.2.2.2.2.2.1, x1.1, a0.2.2.2.2.2.2.2), (r2.2.1, true, ())))
 none))
 (ob (Iu a0.1 x1.2.1) fun r3 =>
 (cond (bl (ln ([] : List Ma) + ln (Kb a0.2.2.1 (tn 1) (tn ((ln a0.2.2.1 : Nat) : Int)))) Ab)
 (some ((r3.1, a0.2.1, (ap [] (Kb a0.2.2.1 (tn 1) (tn ((ln a0.2.2.1 : Nat) : Int)))), a0.2.2.2.1, (max a0.2.2.2.2.1 x1.1), a0.2.2.2.2.2), (r3.2.1, true, ())))
 none)))
 (ob (Gr a0.1.2.2.1 a0.1.2.2.2.1) fun r4 =>
 (ob (Uw a0.1.1 r4.1 x1.2.1) fun r5 =>
 (ob (Qk r5.1) fun r6 =>
 (cond r6.1
 (cond (a0.2.2.2.2.2.1 != (wr .i64 (x1.2.1 + 1)))
 (ob (Cr a0.2.1 x1.2.1 x1.1 (Kb a0.2.2.1 (tn 1) (tn ((ln a0.2.2.1 : Nat) : Int))) a0.2.2.2.1) fun r7 =>
 (cond (r7.1 == 0)
 (some (a0, ([], false, ())))
 (cond (r7.1 == 1)
 (ob (Lg a0.1 x1.2.1 false) fun r8 =>
 (cond (bl (ln ([] : List Ma) + ln (Kb a0.2.2.1 (tn 1) (tn ((ln a0.2.2.1 : Nat) : Int)))) Ab)
 (some ((r8.1, a0.2.1, (ap [] (Kb a0.2.2.1 (tn 1) (tn ((ln a0.2.2.1 : Nat) : Int)))), a0.2.2.2.1, (max (max a0.2.2.2.2.1 x1.1) r7.2.1), (wr .i64 (x1.2.1 + 1)), x1.1, a0.2.2.2.2.2.2.2), (r8.2.1, true, ())))
 none))
 (cond (r7.1 == 2)
 (ob (Lg a0.1 x1.2.1 true) fun r9 =>
 (cond (bl (ln ([] : List Ma) + ln (Kb a0.2.2.1 (tn 1) (tn ((ln a0.2.2.1 : Nat) : Int)))) Ab)
 (some ((r9.1, a0.2.1, (ap [] (Kb a0.2.2.1 (tn 1) (tn ((ln a0.2.2.1 : Nat) : Int)))), a0.2.2.2.1, (max (max a0.2.2.2.2.1 x1.1) r7.2.1), 0, a0.2.2.2.2.2.2), (r9.2.1, true, ())))
 none))
 (ob (Lg a0.1 x1.2.1 false) fun r10 =>
 (cond (bl (ln ([] : List Ma) + ln (Kb a0.2.2.1 (tn 1) (tn ((ln a0.2.2.1 : Nat) : Int)))) Ab)
 (some ((r10.1, a0.2.1, (ap [] (Kb a0.2.2.1 (tn 1) (tn ((ln a0.2.2.1 : Nat) : Int)))), a0.2.2.2.1, (max (max a0.2.2.2.2.1 x1.1) r7.2.1), a0.2.2.2.2.2), (r10.2.1, true, ())))
 none))))))
 (cond (decide ((wr .i64 (x1.1 - a0.2.2.2.2.2.2.1)) ≥ a0.2.1.2.1))
 (ob (Cr a0.2.1 x1.2.1 x1.1 (Kb a0.2.2.1 (tn 1) (tn ((ln a0.2.2.1 : Nat) : Int))) a0.2.2.2.1) fun r11 =>
 (cond (r11.1 == 0)
 (some (a0, ([], false, ())))
 (cond (r11.1 == 1)
 (ob (Lg a0.1 x1.2.1 false) fun r12 =>
 (cond (bl (ln ([] : List Ma) + ln (Kb a0.2.2.1 (tn 1) (tn ((ln a0.2.2.1 : Nat) : Int)))) Ab)
 (some ((r12.1, a0.2.1, (ap [] (Kb a0.2.2.1 (tn 1) (tn ((ln a0.2.2.1 : Nat) : Int)))), a0.2.2.2.1, (max (max a0.2.2.2.2.1 x1.1) r11.2.1), (wr .i64 (x1.2.1 + 1)), x1.1, a0.2.2.2.2.2.2.2), (r12.2.1, true, ())))
 none))
 (cond (r11.1 == 2)
 (ob (Lg a0.1 x1.2.1 true) fun r13 =>
 (cond (bl (ln ([] : List Ma) + ln (Kb a0.2.2.1 (tn 1) (tn ((ln a0.2.2.1 : Nat) : Int)))) Ab)
 (some ((r13.1, a0.2.1, (ap [] (Kb a0.2.2.1 (tn 1) (tn ((ln a0.2.2.1 : Nat) : Int)))), a0.2.2.2.1, (max (max a0.2.2.2.2.1 x1.1) r11.2.1), 0, a0.2.2.2.2.2.2), (r13.2.1, true, ())))
 none))
 (ob (Lg a0.1 x1.2.1 false) fun r14 =>
 (cond (bl (ln ([] : List Ma) + ln (Kb a0.2.2.1 (tn 1) (tn ((ln a0.2.2.1 : Nat) : Int)))) Ab)
 (some ((r14.1, a0.2.1, (ap [] (Kb a0.2.2.1 (tn 1) (tn ((ln a0.2.2.1 : Nat) : Int)))), a0.2.2.2.1, (max (max a0.2.2.2.2.1 x1.1) r11.2.1), a0.2.2.2.2.2), (r14.2.1, true, ())))
 none))))))
 (cond ((1 : Int) == 0)
 (some (a0, ([], false, ())))
 (cond ((1 : Int) == 1)
 (ob (Lg a0.1 x1.2.1 false) fun r15 =>
 (cond (bl (ln ([] : List Ma) + ln (Kb a0.2.2.1 (tn 1) (tn ((ln a0.2.2.1 : Nat) : Int)))) Ab)
 (some ((r15.1, a0.2.1, (ap [] (Kb a0.2.2.1 (tn 1) (tn ((ln a0.2.2.1 : Nat) : Int)))), a0.2.2.2.1, (max (max a0.2.2.2.2.1 x1.1) x1.1), (wr .i64 (x1.2.1 + 1)), x1.1, a0.2.2.2.2.2.2.2), (r15.2.1, true, ())))
 none))
 (cond ((1 : Int) == 2)
 (ob (Lg a0.1 x1.2.1 true) fun r16 =>
 (cond (bl (ln ([] : List Ma) + ln (Kb a0.2.2.1 (tn 1) (tn ((ln a0.2.2.1 : Nat) : Int)))) Ab)
 (some ((r16.1, a0.2.1, (ap [] (Kb a0.2.2.1 (tn 1) (tn ((ln a0.2.2.1 : Nat) : Int)))), a0.2.2.2.1, (max (max a0.2.2.2.2.1 x1.1) x1.1), 0, a0.2.2.2.2.2.2), (r16.2.1, true, ())))
 none))
 (ob (Lg a0.1 x1.2.1 false) fun r17 =>
 (cond (bl (ln ([] : List Ma) + ln (Kb a0.2.2.1 (tn 1) (tn ((ln a0.2.2.1 : Nat) : Int)))) Ab)
 (some ((r17.1, a0.2.1, (ap [] (Kb a0.2.2.1 (tn 1) (tn ((ln a0.2.2.1 : Nat) : Int)))), a0.2.2.2.1, (max (max a0.2.2.2.2.1 x1.1) x1.1), a0.2.2.2.2.2), (r17.2.1, true, ())))
 none)))))))
 (ob (Lg a0.1 x1.2.1 false) fun r18 =>
 (cond (bl (ln ([] : List Ma) + ln (Kb a0.2.2.1 (tn 1) (tn ((ln a0.2.2.1 : Nat) : Int)))) Ab)
 (some ((r18.1, a0.2.1, (ap [] (Kb a0.2.2.1 (tn 1) (tn ((ln a0.2.2.1 : Nat) : Int)))), a0.2.2.2.1, (max a0.2.2.2.2.1 x1.1), a0.2.2.2.2.2), (r18.2.1, true, ())))
 none)))))))
 none))
 none)
def Ww (t0 : Ki) (t1 : Int) (t9 : (Bf × Int)) (t10 : Int) (t11 : Int) : Option (((Ki × (Int × ((Bf × Int) × Hb))) × Unit) ⊕ (((Ki × Unit) × Unit) ⊕ Fg)) :=
 (cond (decide (t11 < t10))
 (cond (Ql (ln t9.1) t11)
 (cond (Nat.beq (tn t11) (tn t9.2))
 (ob t9.1[(tn t11)]? fun x4 =>
 (cond (bl (ln t0 + ln ([(t1, x4, ())] : List Ie)) Ab)
 (some (.inl (((ap t0 ([(t1, x4, ())] : List Ie)), t1, (t9.1, ((((tn t11) + 1) : Nat) : Int)), t10, (wr .i64 (t11 + 1)), ()), ())))
 none))
 none)
 none)
 (some (.inr (.inl ((t0, ()), ())))))
def Mx := Za fun x : ((Ki × (Int × ((Bf × Int) × Hb))) × Unit) => Ww x.1.1 x.1.2.1 x.1.2.2.1 x.1.2.2.2.1 x.1.2.2.2.2.1
def OA (a0 : Ki) (a1 : Int) (a2 : Bf) : Option (Ki × Unit) :=
 (ob (Mx ((a0, a1, (a2, 0), ((ln a2 : Nat) : Int), 0, ()), ())) (se (fun y5 => (some (y5.1.1, ()))) (fun z6 => none)))
def Yf (t6 : Unit) (t9 : Unit) (t10 : Ki) (b6 : Eb) (b9 : Eb) : Option (M1 ⊕ (M1 ⊕ Fg)) :=
 (cond (decide (((ln b9.2.2.1 : Nat) : Int) > 0))
 (ob (Kg b9) fun r25 =>
 (cond (!r25.2.2.1)
 (some (.inr (.inl (((), (), t10, ()), (b6, r25.1, ())))))
 (ob (OA t10 r25.1.2.2.2.2.1 r25.2.1) fun r26 =>
 (some (.inl (((), (), r26.1, ()), (b6, r25.1, ())))))))
 (some (.inr (.inl (((), (), t10, ()), (b6, b9, ()))))))
def Ye := Za fun x : M1 => Yf x.1.1 x.1.2.1 x.1.2.2.1 x.2.1 x.2.2.1
def Vs (a0 : Eb) (a1 : Gh) (a2 : Int) : Option (Eb × (Ki × Sd)) :=
 (ob (Qo a0) fun r1 =>
 (cond (!r1.1)
 (some (We, [], false, ()))
 (cond (decide (a2 < a0.2.2.2.1))
 (some (We, [], false, ()))
 (cond (decide (a2 > 1000000))
 (some (We, [], false, ()))
 (cond (decide (((ln a1 : Nat) : Int) > 0))
 (ob (Sb a1 0) fun x2 =>
 (cond (decide (x2.1 < a0.2.2.2.1))
 (some (We, [], false, ()))
 (ob (Sk a1 a2) fun r3 =>
 (cond (!r3.1)
 (some (We, [], false, ()))
 (ob (Bl a0) fun r4 =>
 (cond (bl (ln r4.1.2.2.1 + ln a1) Ab)
 (ob (Yl a0.1.2.2.2.1) fun r5 =>
 (ob (Tk (ap r4.1.2.2.1 a1) r5.1 a0.1.1.1) fun r6 =>
 (cond (!r6.1)
 (some (We, [], false, ()))
 (ob (Ye (((), (), [], ()), (We, (r4.1.1, r4.1.2.1, (ap r4.1.2.2.1 a1), a2, r4.1.2.2.2.2), ()))) (se (fun y15 => (some (y15.2.2.1, y15.1.2.2.1, true, ()))) (fun z16 => none))))))
 none))))))
 (ob (Sk a1 a2) fun r17 =>
 (cond (!r17.1)
 (some (We, [], false, ()))
 (ob (Bl a0) fun r18 =>
 (cond (bl (ln r18.1.2.2.1 + ln a1) Ab)
 (ob (Yl a0.1.2.2.2.1) fun r19 =>
 (ob (Tk (ap r18.1.2.2.1 a1) r19.1 a0.1.1.1) fun r20 =>
 (cond (!r20.1)
 (some (We, [], false, ()))
 (ob (Ye (((), (), [], ()), (We, (r18.1.1, r18.1.2.1, (ap r18.1.2.2.1 a1), a2, r18.1.2.2.2.2), ()))) (se (fun y27 => (some (y27.2.2.1, y27.1.2.2.1, true, ()))) (fun z28 => none))))))
 none)))))))))
def Wn (t1 : Unit) (t14 : Bg) (t15 : Int) (t16 : Int) (b1 : Aa) : Option ((Xab × Nh) ⊕ Uz) :=
 (cond (decide (t16 < t15))
 (ob (Sb t14 t16) fun x7 =>
 (ob (Nk x7) fun r8 =>
 (cond (!r8.1)
 (some (.inr (.inr ((false, ()), ()))))
 (cond (decide (t16 > 0))
 (ob (Sb b1.2.1 (wr .i64 (t16 - 1))) fun x9 =>
 (cond (decide (x9 ≥ x7))
 (some (.inr (.inr ((false, ()), ()))))
 (some (.inl (((), t14, t15, (wr .i64 (t16 + 1)), ()), (b1, ()))))))
 (some (.inl (((), t14, t15, (wr .i64 (t16 + 1)), ()), (b1, ()))))))))
 (some (.inr (.inl ((), ())))))
def Bq := Za fun x : (Xab × Nh) => Wn x.1.1 x.1.2.1 x.1.2.2.1 x.1.2.2.2.1 x.2.1
def Dr (a0 : Aa) : Option Sd :=
 (cond (decide (a0.1 < 0))
 (some (false, ()))
 (cond (decide (a0.1 > 15))
 (some (false, ()))
 (ob (Bq (((), a0.2.1, ((ln a0.2.1 : Nat) : Int), 0, ()), (a0, ()))) (se (fun y10 => (some (true, ()))) (fun z11 => (some (z11.1.1, ())))))))
def Cq (t2 : Unit) (t5 : Bg) (t17 : Bg) (t18 : Int) (t19 : Int) (b2 : Aa) : Option (((Unit × GK) × Nh) ⊕ N1) :=
 (cond (decide (t19 < t18))
 (ob (Sb t17 t19) fun x9 =>
 (ob (Jw b2.2.1 x9) fun r10 =>
 (cond (!r10.1)
 (cond (bl (ln t5 + ln ([x9] : List Int)) Ab)
 (some (.inl (((), (ap t5 ([x9] : List Int)), t17, t18, (wr .i64 (t19 + 1)), ()), (b2, ()))))
 none)
 (some (.inl (((), t5, t17, t18, (wr .i64 (t19 + 1)), ()), (b2, ())))))))
 (some (.inr (.inl ((t5, ()), ())))))
def Cs := Za fun x : ((Unit × GK) × Nh) => Cq x.1.1 x.1.2.1 x.1.2.2.1 x.1.2.2.2.1 x.1.2.2.2.2.1 x.2.1
def Iy (a0 : Aa) (a1 : Aa) : Option VF :=
 (ob (Dr a0) fun r1 =>
 (cond (!r1.1)
 (some ([], ()))
 (ob (Dr a1) fun r2 =>
 (cond (!r2.1)
 (some ([], ()))
 (ob (Cs (((), [], a1.2.1, ((ln a1.2.1 : Nat) : Int), 0, ()), (a0, ()))) (se (fun y11 => (some (y11.1.1, ()))) (fun z12 => none)))))))
def Im (t2 : Unit) (t5 : Vg) (t7 : Unit) (t10 : Bf) (t11 : Int) (t12 : Int) (t18 : Bg) (t19 : Int) (t20 : Int) (b2 : Aa) (b7 : Aa) : Option (T3 ⊕ (((Unit × (Vg × (Unit × (Bf × Hb)))) × Fn) ⊕ Fg)) :=
 (cond (decide (t20 < t19))
 (cond (Ql (ln t18) t20)
 (ob t18[(tn t20)]? fun x27 =>
 (ob (Ih x27 b7.1) fun r28 =>
 (cond (bl (ln t5 + ln r28.1) Ab)
 (some (.inl (((), (ap t5 r28.1), (), t10, t11, t12, t18, t19, (wr .i64 (t20 + 1)), ()), (b2, b7, ()))))
 none)))
 none)
 (some (.inr (.inl (((), t5, (), t10, t11, t12, ()), (b2, b7, ()))))))
def To := Za fun x : T3 => Im x.1.1 x.1.2.1 x.1.2.2.1 x.1.2.2.2.1 x.1.2.2.2.2.1 x.1.2.2.2.2.2.1 x.1.2.2.2.2.2.2.1 x.1.2.2.2.2.2.2.2.1 x.1.2.2.2.2.2.2.2.2.1 x.2.1 x.2.2.1
def Hm (t2 : Unit) (t5 : Vg) (t10 : Bf) (t11 : Int) (t12 : Int) (b2 : Aa) : Option (((Unit × (Vg × (Bf × Hb))) × Nh) ⊕ Aac) :=
 (cond (decide (t12 < t11))
 (ob (Sb t10 t12) fun x21 =>
 (ob (Iy b2 x21) fun r22 =>
 (ob (To (((), t5, (), t10, t11, t12, r22.1, ((ln r22.1 : Nat) : Int), 0, ()), (b2, x21, ()))) (se (fun y29 => (some (.inl (((), y29.1.2.1, y29.1.2.2.2.1, y29.1.2.2.2.2.1, (wr .i64 (y29.1.2.2.2.2.2.1 + 1)), ()), (y29.2.2.1, ()))))) (fun z30 => (some (.inr (.inr ((), ())))))))))
 (some (.inr (.inl ((t5, ()), ())))))
def So := Za fun x : ((Unit × (Vg × (Bf × Hb))) × Nh) => Hm x.1.1 x.1.2.1 x.1.2.2.1 x.1.2.2.2.1 x.1.2.2.2.2.1 x.2.1
def Cv (a0 : Aa) (a1 : Bf) : Option XF :=
 (ob (So (((), [], a1, ((ln a1 : Nat) : Int), 0, ()), (a0, ()))) (se (fun y31 => (some (y31.1.1, ()))) (fun z32 => none)))
def Hr (a0 : Ka) (a1 : Vb) (a2 : Vg) : Option (Vg × Sd) :=
 (ob (Zu a0 a2) fun r1 =>
 (ob (Rk a0 []) fun r2 =>
 (cond (!r1.2.1)
 (some ([], false, ()))
 (cond (!r2.2.1)
 (some ([], false, ()))
 (ob (Us r2.1 a1) fun r3 =>
 (cond (!r3.2.1)
 (some ([], false, ()))
 (ob (Vs r3.1 r1.1 ((ln a2 : Nat) : Int)) fun r4 =>
 (cond (!r4.2.2.1)
 (some ([], false, ()))
 (ob (Bv r4.2.1) fun r5 =>
 (ob (Cv (0, [], ()) r5.1) fun r6 =>
 (some (r6.1, true, ()))))))))))))
def HA (a0 : Va) : Option Yx :=
 (ob (Ui a0) fun r1 =>
 (cond (!r1.1)
 (some (a0, ()))
 (cond (a0.1 == 6)
 (some ((2, 0, a0.2.2.1, 0, ()), ()))
 (some ((3, 0, 0, a0.2.2.2.1, ()), ())))))
def ED (t1 : Int) (t2 : Int) (t3 : Unit) (t7 : Int) (b3 : Ka) : Option (FK ⊕ JD) :=
 (cond (decide (t7 > 0))
 (cond (decide (0 ≤ t7))
 (cond ((Pf .i64 (Xv .i64 t1 t7) 1) == 1)
 (ob (Sb b3.2.1 t7) fun x7 =>
 (ob (Sb x7 t2) fun x8 =>
 (cond (x8.1 != 1)
 (some (.inr (.inr ((t7, ()), ()))))
 (some (.inl ((t1, t2, (), (wr .i64 (t7 - 1)), ()), (b3, ())))))))
 (some (.inl ((t1, t2, (), (wr .i64 (t7 - 1)), ()), (b3, ())))))
 none)
 (some (.inr (.inl ((), ())))))
def Tg := Za fun x : FK => ED x.1.1 x.1.2.1 x.1.2.2.1 x.1.2.2.2.1 x.2.1
def Qy (a0 : Ka) (a1 : Int) (a2 : Int) : Option Nf :=
 (ob (Xj a0) fun r1 =>
 (cond (!r1.1)
 (some ((-1), ()))
 (ob (Zb a2 0 (wr .i64 (a0.1 - 1))) fun r2 =>
 (cond (!r2.1)
 (some ((-1), ()))
 (ob (Tg ((a1, a2, (), (wr .i64 (((ln a0.2.1 : Nat) : Int) - 1)), ()), (a0, ()))) (se (fun y9 => (some (0, ()))) (fun z10 => (some (z10.1.1, ())))))))))
def Lr (a0 : Ka) (a1 : Int) (a2 : Int) : Option Yx :=
 (ob (Qy a0 a1 a2) fun r1 =>
 (cond (decide (r1.1 < 0))
 (some ((0, 0, 0, 0, ()), ()))
 (ob (Sb a0.2.1 r1.1) fun x2 =>
 (ob (Sb x2 a2) fun x3 =>
 (some (x3, ()))))))
def Lt (t1 : Unit) (t2 : Unit) (t3 : Unit) (t4 : Int) (b1 : Ka) (b2 : Ka) (b3 : Ka) : Option ((MT × (Ka × DK)) ⊕ ((EK × DK) ⊕ Fg)) :=
 (cond (decide (t4 < ((ln b1.2.1 : Nat) : Int)))
 (ob (Sb b1.2.1 t4) fun x4 =>
 (cond (bl (ln ([] : List Va) + ln x4) Ab)
 (cond (bl (ln b3.2.1 + ln ([(ap [] x4)] : List Jj)) Ab)
 (some (.inl (((), (), (), (wr .i64 (t4 + 1)), ()), (b1, b2, (b3.1, (ap b3.2.1 ([(ap [] x4)] : List Jj)), ()), ()))))
 none)
 none))
 (some (.inr (.inl (((), (), ()), (b2, b3, ()))))))
def Su := Za fun x : (MT × (Ka × DK)) => Lt x.1.1 x.1.2.1 x.1.2.2.1 x.1.2.2.2.1 x.2.1 x.2.2.1 x.2.2.2.1
def JA (a0 : Ka) : Option Qt :=
 (ob (Su (((), (), (), 0, ()), (a0, (0, [], ()), (a0.1, [], ()), ()))) (se (fun y5 => (some (y5.2.2.1, ()))) (fun z6 => none)))
def Ft (t0 : Zc) (t3 : Int) (t4 : Int) : Option ((QB × Unit) ⊕ Uz) :=
 (cond (decide (t4 < ((ln t0 : Nat) : Int)))
 (ob (Sb t0 t4) fun x15 =>
 (ob (Sb t0 t4) fun x16 =>
 (ob (Zb x16.1 0 31) fun r17 =>
 (cond (!r17.1)
 (some (.inr (.inr ((false, ()), ()))))
 (ob (Sb t0 t4) fun x18 =>
 (cond (decide (0 ≤ x18.1))
 (cond ((Pf .i64 (Xv .i64 t3 x18.1) 1) == 1)
 (some (.inr (.inr ((false, ()), ()))))
 (ob (Bi x15.2.1) fun r19 =>
 (cond (!r19.1)
 (some (.inr (.inr ((false, ()), ()))))
 (cond (x15.2.1.1 == 1)
 (some (.inr (.inr ((false, ()), ()))))
 (ob (Ui x15.2.1) fun r20 =>
 (cond r20.1
 (some (.inr (.inr ((false, ()), ()))))
 (ob (Sb t0 t4) fun x21 =>
 (cond (decide (0 ≤ x21.1))
 (some (.inl ((t0, (Fd .i64 t3 (De .i64 1 x21.1)), (wr .i64 (t4 + 1)), ()), ())))
 none))))))))
 none))))))
 (some (.inr (.inl ((), ())))))
def Nu := Za fun x : (QB × Unit) => Ft x.1.1 x.1.2.1 x.1.2.2.1
def Pn (a0 : Zc) : Option Sd :=
 (ob (Nu ((a0, 0, 0, ()), ())) (se (fun y22 => (some (true, ()))) (fun z23 => (some (z23.1.1, ())))))
def Mt (t0 : Zc) (t3 : Unit) (t5 : Int) (b3 : Vb) : Option (((Zc × Js) × ID) ⊕ JD) :=
 (cond (decide (t5 < ((ln t0 : Nat) : Int)))
 (ob (Sb t0 t5) fun x5 =>
 (cond (x5.2.1.2.1 == b3.2.1)
 (ob (Sb t0 t5) fun x6 =>
 (cond (x6.2.1.2.2.1 == b3.2.2.1)
 (some (.inr (.inr ((t5, ()), ()))))
 (some (.inl ((t0, (), (wr .i64 (t5 + 1)), ()), (b3, ()))))))
 (some (.inl ((t0, (), (wr .i64 (t5 + 1)), ()), (b3, ()))))))
 (some (.inr (.inl ((), ())))))
def Tu := Za fun x : ((Zc × Js) × ID) => Mt x.1.1 x.1.2.1 x.1.2.2.1 x.2.1
def Pk (a0 : Zc) (a1 : Vb) : Option Nf :=
 (ob (Tu ((a0, (), 0, ()), (a1, ()))) (se (fun y7 => (some ((-1), ()))) (fun z8 => (some (z8.1.1, ())))))
def Bm (a0 : Vb) : Option Yx :=
 (some ((2, a0.2.1, a0.2.2.1, 0, ()), ()))
def Ve (a0 : Zc) (a1 : Int) : Option (Zc × Unit) :=
 (cond (Jd (ln a0) 0 a1)
 (cond (bl (ln ([] : List Ia) + ln (Kb a0 (tn 0) (tn a1))) Ab)
 (cond (Jd (ln a0) (wr .i64 (a1 + 1)) ((ln a0 : Nat) : Int))
 (cond (bl (ln (ap [] (Kb a0 (tn 0) (tn a1))) + ln (Kb a0 (tn (wr .i64 (a1 + 1))) (tn ((ln a0 : Nat) : Int)))) Ab)
 (some ((ap (ap [] (Kb a0 (tn 0) (tn a1))) (Kb a0 (tn (wr .i64 (a1 + 1))) (tn ((ln a0 : Nat) : Int)))), ()))
 none)
 none)
 none)
 none)
def Hl (t0 : Bk) (t3 : Zc) (t4 : Int) : Option (((Bk × (Zc × Nf)) × Unit) ⊕ (((Bk × (Zc × Unit)) × Unit) ⊕ Yu)) :=
 (cond (decide (t4 < ((ln t0 : Nat) : Int)))
 (ob (Sb t0 t4) fun x15 =>
 (ob (Pk t3 x15) fun r16 =>
 (ob (Zb x15.1 0 2) fun r17 =>
 (cond (!r17.1)
 (some (.inr (.inr ((false, ()), ()))))
 (ob (Bm x15) fun r18 =>
 (ob (Bi r18.1) fun r19 =>
 (cond (!r19.1)
 (some (.inr (.inr ((false, ()), ()))))
 (cond ((x15.1 == 2) != (decide (r16.1 ≥ 0)))
 (some (.inr (.inr ((false, ()), ()))))
 (cond (x15.1 == 1)
 (ob (Bm x15) fun r20 =>
 (cond (bl (ln t3 + ln ([(0, r20.1, ())] : List Ia)) Ab)
 (some (.inl ((t0, (ap t3 ([(0, r20.1, ())] : List Ia)), (wr .i64 (t4 + 1)), ()), ())))
 none))
 (cond (x15.1 == 2)
 (ob (Ve t3 r16.1) fun r21 =>
 (some (.inl ((t0, r21.1, (wr .i64 (t4 + 1)), ()), ()))))
 (some (.inl ((t0, t3, (wr .i64 (t4 + 1)), ()), ())))))))))))))
 (some (.inr (.inl ((t0, t3, ()), ())))))
def Es := Za fun x : ((Bk × (Zc × Nf)) × Unit) => Hl x.1.1 x.1.2.1 x.1.2.2.1
def Ou (a0 : Bk) : Option Sd :=
 (ob (Es ((a0, [], 0, ()), ())) (se (fun y22 => (cond (decide (((ln y22.1.1 : Nat) : Int) ≤ 8))
 (some ((((ln y22.1.2.1 : Nat) : Int) == 0), ()))
 (some (false, ())))) (fun z23 => (some (z23.1.1, ())))))
def Eo (t1 : Unit) (t3 : Int) (b1 : Ua) : Option ((Js × Ak) ⊕ ((Fg × Ak) ⊕ Yu)) :=
 (cond (decide (t3 < ((ln b1.2.1 : Nat) : Int)))
 (ob (Sb b1.2.1 t3) fun x7 =>
 (ob (Ou x7) fun r8 =>
 (cond (!r8.1)
 (some (.inr (.inr ((false, ()), ()))))
 (some (.inl (((), (wr .i64 (t3 + 1)), ()), (b1, ())))))))
 (some (.inr (.inl (((), ()), (b1, ()))))))
def Ik := Za fun x : (Js × Ak) => Eo x.1.1 x.1.2.1 x.2.1
def Fo (t1 : Unit) (t4 : Int) (b1 : Ua) : Option ((Js × Ak) ⊕ ((Fg × Ak) ⊕ Yu)) :=
 (cond (decide (t4 < ((ln b1.2.2.2.1 : Nat) : Int)))
 (ob (Sb b1.2.2.2.1 t4) fun x17 =>
 (cond (decide (x17.1 ≥ b1.1.1))
 (some (.inr (.inr ((false, ()), ()))))
 (ob (Sb b1.2.2.2.1 t4) fun x18 =>
 (cond (x18.2.1.1 != 9)
 (ob (Sb b1.2.2.2.1 t4) fun x19 =>
 (cond (decide (x19.2.1.2.2.2.1 ≥ ((ln b1.1.2.1 : Nat) : Int)))
 (some (.inr (.inr ((false, ()), ()))))
 (some (.inl (((), (wr .i64 (t4 + 1)), ()), (b1, ()))))))
 (some (.inl (((), (wr .i64 (t4 + 1)), ()), (b1, ()))))))))
 (some (.inr (.inl (((), ()), (b1, ()))))))
def Jk := Za fun x : (Js × Ak) => Fo x.1.1 x.1.2.1 x.2.1
def Ci (a0 : Ua) : Option Sd :=
 (ob (Xj a0.1) fun r1 =>
 (cond (!r1.1)
 (some (false, ()))
 (cond (decide (((ln a0.2.1 : Nat) : Int) > 4))
 (some (false, ()))
 (ob (Pn a0.2.2.2.1) fun r2 =>
 (cond (!r2.1)
 (some (false, ()))
 (ob (Ik (((), 0, ()), (a0, ()))) (se (fun y9 => (ob (Jk (((), 0, ()), (y9.2.1, ()))) (se (fun y20 => (cond (decide (0 ≤ ((ln y20.2.1.1.2.1 : Nat) : Int)))
 (ob (Zb y20.2.1.2.2.1 0 (wr .i64 ((De .i64 1 ((ln y20.2.1.1.2.1 : Nat) : Int)) - 1))) fun r22 =>
 (cond r22.1
 (cond ((2 : Int) == 0)
 none
 (cond ((Int.tmod y20.2.1.2.2.1 2) == 0)
 (ob (Zb y20.2.1.2.2.2.2.1 0 15) fun r23 =>
 (some (r23.1, ())))
 (some (false, ()))))
 (some (false, ()))))
 none)) (fun z21 => (some (z21.1.1, ())))))) (fun z10 => (some (z10.1.1, ()))))))))))
def Nt (t1 : Unit) (t2 : Unit) (t3 : Unit) (t4 : Int) (b1 : Ua) (b2 : Ua) (b3 : Ua) : Option ((MT × (Ua × I1)) ⊕ ((Qag × (Ua × I1)) ⊕ Fg)) :=
 (cond (decide (t4 < ((ln b1.2.1 : Nat) : Int)))
 (ob (Sb b1.2.1 t4) fun x4 =>
 (cond (bl (ln ([] : List Vb) + ln x4) Ab)
 (cond (bl (ln b3.2.1 + ln ([(ap [] x4)] : List Bk)) Ab)
 (some (.inl (((), (), (), (wr .i64 (t4 + 1)), ()), (b1, b2, (b3.1, (ap b3.2.1 ([(ap [] x4)] : List Bk)), b3.2.2), ()))))
 none)
 none))
 (some (.inr (.inl (((), (), (), ()), (b1, b2, b3, ()))))))
def Uu := Za fun x : (MT × (Ua × I1)) => Nt x.1.1 x.1.2.1 x.1.2.2.1 x.1.2.2.2.1 x.2.1 x.2.2.1 x.2.2.2.1
def Dj (a0 : Ua) : Option Ak :=
 (ob (JA a0.1) fun r1 =>
 (ob (Uu (((), (), (), 0, ()), (a0, Qp, (r1.1, [], a0.2.2), ()))) (se (fun y5 => (cond (bl (ln ([] : List Ia) + ln y5.2.1.2.2.2.1) Ab)
 (some ((y5.2.2.2.1.1, y5.2.2.2.1.2.1, y5.2.2.2.1.2.2.1, (ap [] y5.2.1.2.2.2.1), y5.2.2.2.1.2.2.2.2), ()))
 none)) (fun z6 => none))))
def Mv (a0 : Ka) (a1 : Ks) : Option (Ua × Sd) :=
 (ob (Ci (a0, a1, 0, [], 0, false, ())) fun r1 =>
 (cond (!r1.1)
 (some (Qp, false, ()))
 (ob (Dj (a0, a1, 0, [], 0, false, ())) fun r2 =>
 (some (r2.1, true, ())))))
def Et (t1 : Int) (t2 : Unit) (t5 : Int) (b2 : Ua) : Option ((L1 × Ak) ⊕ JD) :=
 (cond (decide (t5 < ((ln b2.2.2.2.1 : Nat) : Int)))
 (ob (Sb b2.2.2.2.1 t5) fun x3 =>
 (cond (x3.1 == t1)
 (some (.inr (.inr ((t5, ()), ()))))
 (some (.inl ((t1, (), (wr .i64 (t5 + 1)), ()), (b2, ()))))))
 (some (.inr (.inl ((), ())))))
def Lu := Za fun x : (L1 × Ak) => Et x.1.1 x.1.2.1 x.1.2.2.1 x.2.1
def Qw (a0 : Ua) (a1 : Int) : Option Nf :=
 (ob (Lu ((a1, (), 0, ()), (a0, ()))) (se (fun y4 => (some ((-1), ()))) (fun z5 => (some (z5.1.1, ())))))
def Jo (t1 : Zc) (t5 : Int) (t6 : Int) : Option ((QB × Unit) ⊕ DT) :=
 (cond (decide (t6 < ((ln t1 : Nat) : Int)))
 (ob (Pn t1) fun r19 =>
 (cond r19.1
 (ob (Sb t1 t6) fun x20 =>
 (cond (x20.2.1.1 == 3)
 (ob (Sb t1 t6) fun x21 =>
 (cond (decide (0 ≤ x21.2.1.2.2.2.1))
 (some (.inl ((t1, (Fd .i64 t5 (De .i64 1 x21.2.1.2.2.2.1)), (wr .i64 (t6 + 1)), ()), ())))
 none))
 (some (.inl ((t1, t5, (wr .i64 (t6 + 1)), ()), ())))))
 (some (.inr (.inl ((t5, ()), ()))))))
 (some (.inr (.inl ((t5, ()), ())))))
def Mk := Za fun x : (QB × Unit) => Jo x.1.1 x.1.2.1 x.1.2.2.1
def Pr (a0 : Int) (a1 : Zc) : Option Nf :=
 (ob (Zb a0 0 15) fun r1 =>
 (cond r1.1
 (ob (Mk ((a1, (Fd .i64 1 a0), 0, ()), ())) (se (fun y11 => (some (y11.1.1, ()))) (fun z12 => none)))
 (ob (Mk ((a1, 1, 0, ()), ())) (se (fun y22 => (some (y22.1.1, ()))) (fun z23 => none)))))
def Gt (a0 : Int) : Option Sd :=
 (ob (Zb a0 1 36) fun r1 =>
 (cond r1.1
 (some (true, ()))
 (cond (a0 == 39)
 (some (true, ()))
 (some ((a0 == 42), ())))))
def AH (a0 : Ua) (a1 : Va) : Option (Ua × Yx) :=
 (ob (Gt a1.2.1) fun r1 =>
 (cond (!r1.1)
 (some ((a0.1, a0.2.1, a0.2.2.1, a0.2.2.2.1, 0, false, a0.2.2.2.2.2.2), ((a1.1, a1.2.1, (Fd .i64 a1.2.2.1 a0.2.2.2.2.1), a1.2.2.2), ())))
 (cond a0.2.2.2.2.2.1
 (cond (decide (a1.2.1 ≤ 26))
 (cond ((Eh .i64 (Fd .i64 a1.2.2.1 a0.2.2.2.2.1) 2) == 0)
 (some ((a0.1, a0.2.1, a0.2.2.1, a0.2.2.2.1, 0, a0.2.2.2.2.2), ((a1.1, a1.2.1, 2, a1.2.2.2), ())))
 (some ((a0.1, a0.2.1, a0.2.2.1, a0.2.2.2.1, 0, a0.2.2.2.2.2), ((a1.1, a1.2.1, (Fd .i64 a1.2.2.1 a0.2.2.2.2.1), a1.2.2.2), ()))))
 (some ((a0.1, a0.2.1, a0.2.2.1, a0.2.2.2.1, 0, a0.2.2.2.2.2), ((a1.1, a1.2.1, (Fd .i64 a1.2.2.1 a0.2.2.2.2.1), a1.2.2.2), ()))))
 (some ((a0.1, a0.2.1, a0.2.2.1, a0.2.2.2.1, 0, a0.2.2.2.2.2), ((a1.1, a1.2.1, (Fd .i64 a1.2.2.1 a0.2.2.2.2.1), a1.2.2.2), ()))))))
def Yj (a0 : Ua) (a1 : Va) : Option (Ua × Yx) :=
 (cond (a1.1 == 2)
 (cond (decide (a1.2.1 > 0))
 (ob (AH a0 a1) fun r1 =>
 (some (r1.1, (r1.2.1, ()))))
 (some (a0, (a1, ()))))
 (cond (a1.1 == 4)
 (cond (decide (0 ≤ a1.2.2.2.1))
 (some ((a0.1, a0.2.1, (Yv .i64 a0.2.2.1 (De .i64 1 a1.2.2.2.1)), a0.2.2.2), (a1, ())))
 none)
 (cond (a1.1 == 5)
 (cond (decide (0 ≤ a1.2.2.2.1))
 (some ((a0.1, a0.2.1, (Eh .i64 (De .i64 1 a1.2.2.2.1) 1), a0.2.2.2), (a1, ())))
 none)
 (cond (a1.1 == 8)
 (cond ((Pf .i64 a0.2.2.2.2.1 a1.2.2.1) == a1.2.2.1)
 (some ((a0.1, a0.2.1, a0.2.2.1, a0.2.2.2.1, (Eh .i64 a0.2.2.2.2.1 a1.2.2.1), a0.2.2.2.2.2), (a1, ())))
 (some ((a0.1, a0.2.1, a0.2.2.1, a0.2.2.2.1, (Fd .i64 a0.2.2.2.2.1 a1.2.2.1), a0.2.2.2.2.2), (a1, ()))))
 (cond (a1.1 == 10)
 (some ((a0.1, a0.2.1, a0.2.2.1, a0.2.2.2.1, a0.2.2.2.2.1, (!a0.2.2.2.2.2.1), a0.2.2.2.2.2.2), (a1, ())))
 (some (a0, (a1, ()))))))))
def Ko (t0 : Zc) (t2 : Unit) (t3 : Unit) (t4 : Int) (b2 : Aa) (b3 : Aa) : Option (YF ⊕ (((Zc × EK) × Fn) ⊕ Fg)) :=
 (cond (decide (t4 < ((ln t0 : Nat) : Int)))
 (ob (Sb t0 t4) fun x10 =>
 (cond (x10.2.1.1 == 2)
 (ob (Sb t0 t4) fun x11 =>
 (some (.inl ((t0, (), (), (wr .i64 (t4 + 1)), ()), (b2, ((Fd .i64 b3.1 x11.2.1.2.2.1), b3.2.1, ()), ())))))
 (ob (Sb t0 t4) fun x12 =>
 (cond (x12.2.1.1 == 8)
 (ob (Sb t0 t4) fun x13 =>
 (some (.inl ((t0, (), (), (wr .i64 (t4 + 1)), ()), (b2, ((Fd .i64 b3.1 x13.2.1.2.2.1), b3.2.1, ()), ())))))
 (some (.inl ((t0, (), (), (wr .i64 (t4 + 1)), ()), (b2, b3, ()))))))))
 (some (.inr (.inl ((t0, (), (), ()), (b2, b3, ()))))))
def Sq := Za fun x : YF => Ko x.1.1 x.1.2.1 x.1.2.2.1 x.1.2.2.2.1 x.2.1 x.2.2.1
def Um (t0 : Zc) (t2 : Unit) (t3 : Unit) (t5 : Int) (t6 : Int) (b2 : Aa) (b3 : Aa) : Option (((Zc × (Unit × BK)) × Fn) ⊕ (YF ⊕ Fg)) :=
 (cond (decide (t6 < ((ln t0 : Nat) : Int)))
 (ob (Sb t0 t6) fun x28 =>
 (cond (x28.2.1.2.1 == t5)
 (cond (bl (ln b3.2.1 + ln ([t5] : List Int)) Ab)
 (some (.inr (.inl ((t0, (), (), t5, ()), (b2, (b3.1, (ap b3.2.1 ([t5] : List Int)), ()), ())))))
 none)
 (some (.inl ((t0, (), (), t5, (wr .i64 (t6 + 1)), ()), (b2, b3, ()))))))
 (some (.inr (.inl ((t0, (), (), t5, ()), (b2, b3, ()))))))
def Oj := Za fun x : ((Zc × (Unit × BK)) × Fn) => Um x.1.1 x.1.2.1 x.1.2.2.1 x.1.2.2.2.1 x.1.2.2.2.2.1 x.2.1 x.2.2.1
def Tm (t0 : Zc) (t2 : Unit) (t3 : Unit) (t5 : Int) (b2 : Aa) (b3 : Aa) : Option (YF ⊕ ((EK × Fn) ⊕ Fg)) :=
 (cond (decide (t5 ≤ 56))
 (ob (Oj ((t0, (), (), t5, 0, ()), (b2, b3, ()))) (se (fun y29 => (some (.inl ((y29.1.1, (), (), (wr .i64 (y29.1.2.2.2.1 + 1)), ()), y29.2)))) (fun z30 => (some (.inr (.inr ((), ())))))))
 (some (.inr (.inl (((), (), ()), (b2, b3, ()))))))
def Gp := Za fun x : YF => Tm x.1.1 x.1.2.1 x.1.2.2.1 x.1.2.2.2.1 x.2.1 x.2.2.1
def Dd (a0 : Zc) : Option Nh :=
 (ob (Pn a0) fun r1 =>
 (cond (!r1.1)
 (some ((0, [], ()), ()))
 (ob (Sq ((a0, (), (), 0, ()), ((0, [], ()), (0, [], ()), ()))) (se (fun y14 => (ob (Gp ((y14.1.1, (), (), 1, ()), y14.2)) (se (fun y31 => (some (y31.2.2.1, ()))) (fun z32 => none)))) (fun z15 => none)))))
def Lo (t1 : Zc) (t4 : Unit) (t5 : Unit) (t6 : Int) (b4 : Aa) (b5 : Aa) : Option (YF ⊕ (((Zc × EK) × Fn) ⊕ Fg)) :=
 (cond (decide (t6 < ((ln t1 : Nat) : Int)))
 (ob (Sb t1 t6) fun x4 =>
 (some (.inl ((t1, (), (), (wr .i64 (t6 + 1)), ()), (b4, ((Fd .i64 b5.1 x4.2.1.2.2.1), b5.2.1, ()), ())))))
 (some (.inr (.inl ((t1, (), (), ()), (b4, b5, ()))))))
def Wq := Za fun x : YF => Lo x.1.1 x.1.2.1 x.1.2.2.1 x.1.2.2.2.1 x.2.1 x.2.2.1
def Zm (t1 : Zc) (t4 : Unit) (t5 : Unit) (t7 : Bg) (t8 : Int) (t9 : Bool) (t10 : Int) (b4 : Aa) (b5 : Aa) : Option Zab :=
 (cond (decide (t10 < ((ln b5.2.1 : Nat) : Int)))
 (cond t9
 (some (.inl ((t1, (), (), t7, t8, true, (wr .i64 (t10 + 1)), ()), (b4, b5, ()))))
 (cond (Ql (ln b5.2.1) t10)
 (ob b5.2.1[(tn t10)]? fun x29 =>
 (some (.inl ((t1, (), (), t7, t8, (x29 == t8), (wr .i64 (t10 + 1)), ()), (b4, b5, ())))))
 none))
 (some (.inr (.inl ((t1, (), (), t7, t8, t9, ()), (b4, b5, ()))))))
def Pj := Za fun x : E1 => Zm x.1.1 x.1.2.1 x.1.2.2.1 x.1.2.2.2.1 x.1.2.2.2.2.1 x.1.2.2.2.2.2.1 x.1.2.2.2.2.2.2.1 x.2.1 x.2.2.1
def An (t1 : Zc) (t4 : Unit) (t5 : Unit) (t7 : Bg) (t8 : Int) (t9 : Bool) (t11 : Int) (b4 : Aa) (b5 : Aa) : Option Zab :=
 (cond (decide (t11 < ((ln t1 : Nat) : Int)))
 (cond t9
 (some (.inl ((t1, (), (), t7, t8, true, (wr .i64 (t11 + 1)), ()), (b4, b5, ()))))
 (ob (Sb t1 t11) fun x34 =>
 (some (.inl ((t1, (), (), t7, t8, (x34.2.1.2.1 == t8), (wr .i64 (t11 + 1)), ()), (b4, b5, ()))))))
 (some (.inr (.inl ((t1, (), (), t7, t8, t9, ()), (b4, b5, ()))))))
def Qj := Za fun x : E1 => An x.1.1 x.1.2.1 x.1.2.2.1 x.1.2.2.2.1 x.1.2.2.2.2.1 x.1.2.2.2.2.2.1 x.1.2.2.2.2.2.2.1 x.2.1 x.2.2.1
def Mo (t1 : Zc) (t4 : Unit) (t5 : Unit) (t7 : Bg) (t8 : Int) (b4 : Aa) (b5 : Aa) : Option (((Zc × (Unit × PT)) × Fn) ⊕ J1) :=
 (cond (decide (t8 ≤ 56))
 (ob (Pj ((t1, (), (), t7, t8, false, 0, ()), (b4, b5, ()))) (se (fun y30 => (ob (Qj ((y30.1.1, (), (), y30.1.2.2.2.1, y30.1.2.2.2.2.1, y30.1.2.2.2.2.2.1, 0, ()), y30.2)) (se (fun y35 => (cond y35.1.2.2.2.2.2.1
 (cond (bl (ln y35.1.2.2.2.1 + ln ([y35.1.2.2.2.2.1] : List Int)) Ab)
 (some (.inl ((y35.1.1, (), (), (ap y35.1.2.2.2.1 ([y35.1.2.2.2.2.1] : List Int)), (wr .i64 (y35.1.2.2.2.2.1 + 1)), ()), y35.2)))
 none)
 (some (.inl ((y35.1.1, (), (), y35.1.2.2.2.1, (wr .i64 (y35.1.2.2.2.2.1 + 1)), ()), y35.2))))) (fun z36 => (some (.inr (.inr ((), ())))))))) (fun z31 => (some (.inr (.inr ((), ())))))))
 (some (.inr (.inl (((), (), t7, ()), (b4, b5, ()))))))
def Xq := Za fun x : ((Zc × (Unit × PT)) × Fn) => Mo x.1.1 x.1.2.1 x.1.2.2.1 x.1.2.2.2.1 x.1.2.2.2.2.1 x.2.1 x.2.2.1
def Hg (a0 : Zc) (a1 : Zc) : Option Nh :=
 (ob (Dd a0) fun r1 =>
 (ob (Wq ((a1, (), (), 0, ()), ((0, [], ()), r1.1, ()))) (se (fun y5 => (ob (Xq ((y5.1.1, (), (), [], 1, ()), y5.2)) (se (fun y37 => (some ((y37.2.2.1.1, y37.1.2.2.1, ()), ()))) (fun z38 => none)))) (fun z6 => none))))
def Nj (t0 : Zc) (t1 : Bk) (t5 : Bf) (t6 : Zc) (t7 : Int) : Option (((Zc × (Bk × (Bf × (Zc × Nf)))) × Unit) ⊕ EO) :=
 (cond (decide (t7 < ((ln t1 : Nat) : Int)))
 (ob (Sb t1 t7) fun x21 =>
 (cond (x21.1 != 2)
 (ob (Bm x21) fun r22 =>
 (cond (bl (ln t6 + ln ([(0, r22.1, ())] : List Ia)) Ab)
 (ob (Hg t0 (ap t6 ([(0, r22.1, ())] : List Ia))) fun r23 =>
 (cond (bl (ln t5 + ln ([r23.1] : List Aa)) Ab)
 (cond (x21.1 != 1)
 (ob (Pk (ap t6 ([(0, r22.1, ())] : List Ia)) x21) fun r24 =>
 (ob (Ve (ap t6 ([(0, r22.1, ())] : List Ia)) r24.1) fun r25 =>
 (ob (Hg t0 r25.1) fun r26 =>
 (cond (bl (ln (ap t5 ([r23.1] : List Aa)) + ln ([r26.1] : List Aa)) Ab)
 (some (.inl ((t0, t1, (ap (ap t5 ([r23.1] : List Aa)) ([r26.1] : List Aa)), r25.1, (wr .i64 (t7 + 1)), ()), ())))
 none))))
 (some (.inl ((t0, t1, (ap t5 ([r23.1] : List Aa)), (ap t6 ([(0, r22.1, ())] : List Ia)), (wr .i64 (t7 + 1)), ()), ()))))
 none))
 none))
 (cond (x21.1 != 1)
 (ob (Pk t6 x21) fun r27 =>
 (ob (Ve t6 r27.1) fun r28 =>
 (ob (Hg t0 r28.1) fun r29 =>
 (cond (bl (ln t5 + ln ([r29.1] : List Aa)) Ab)
 (some (.inl ((t0, t1, (ap t5 ([r29.1] : List Aa)), r28.1, (wr .i64 (t7 + 1)), ()), ())))
 none))))
 (some (.inl ((t0, t1, t5, t6, (wr .i64 (t7 + 1)), ()), ()))))))
 (some (.inr (.inl ((t5, ()), ())))))
def Il := Za fun x : ((Zc × (Bk × (Bf × (Zc × Nf)))) × Unit) => Nj x.1.1 x.1.2.1 x.1.2.2.1 x.1.2.2.2.1 x.1.2.2.2.2.1
def Wh (a0 : Zc) (a1 : Bk) : Option PB :=
 (ob (Pn a0) fun r1 =>
 (cond (!r1.1)
 (some ([], ()))
 (ob (Ou a1) fun r2 =>
 (cond (!r2.1)
 (some ([], ()))
 (ob (Il ((a0, a1, [], [], 0, ()), ())) (se (fun y30 => (some (y30.1.1, ()))) (fun z31 => none)))))))
def Ol (t2 : Unit) (t3 : Unit) (t5 : Int) (b2 : Aa) (b3 : Aa) : Option ((IT × Fn) ⊕ Uz) :=
 (cond (decide (t5 < ((ln b2.2.1 : Nat) : Int)))
 (ob (Sb b2.2.1 t5) fun x5 =>
 (ob (Sb b3.2.1 t5) fun x6 =>
 (cond (x5 != x6)
 (some (.inr (.inr ((false, ()), ()))))
 (some (.inl (((), (), (wr .i64 (t5 + 1)), ()), (b2, b3, ())))))))
 (some (.inr (.inl ((), ())))))
def Qn := Za fun x : (IT × Fn) => Ol x.1.1 x.1.2.1 x.1.2.2.1 x.2.1 x.2.2.1
def Jt (a0 : Aa) (a1 : Aa) : Option Sd :=
 (cond (a0.1 != a1.1)
 (some (false, ()))
 (cond (((ln a0.2.1 : Nat) : Int) != ((ln a1.2.1 : Nat) : Int))
 (some (false, ()))
 (ob (Qn (((), (), 0, ()), (a0, a1, ()))) (se (fun y7 => (some (true, ()))) (fun z8 => (some (z8.1.1, ())))))))
def Bn (t1 : Bf) (t2 : Unit) (t5 : Bf) (t6 : Int) (b2 : Aa) : Option (((Bf × (Unit × (Bf × Nf))) × Nh) ⊕ EO) :=
 (cond (decide (t6 < ((ln t1 : Nat) : Int)))
 (ob (Sb t1 t6) fun x13 =>
 (ob (Jt b2 x13) fun r14 =>
 (cond (!r14.1)
 (ob (Sb t1 t6) fun x15 =>
 (ob (Rw x15) fun r16 =>
 (cond (bl (ln t5 + ln ([r16.1] : List Aa)) Ab)
 (ob (Sb t1 t6) fun x17 =>
 (some (.inl ((t1, (), (ap t5 ([r16.1] : List Aa)), (wr .i64 (t6 + 1)), ()), (x17, ())))))
 none)))
 (ob (Sb t1 t6) fun x18 =>
 (some (.inl ((t1, (), t5, (wr .i64 (t6 + 1)), ()), (x18, ()))))))))
 (some (.inr (.inl ((t5, ()), ())))))
def Mp := Za fun x : ((Bf × (Unit × (Bf × Nf))) × Nh) => Bn x.1.1 x.1.2.1 x.1.2.2.1 x.1.2.2.2.1 x.2.1
def Kf (a0 : Aa) (a1 : Bf) : Option PB :=
 (ob (Mp ((a1, (), [], 0, ()), (a0, ()))) (se (fun y19 => (some (y19.1.1, ()))) (fun z20 => none)))
def Cj (a0 : Ua) (a1 : Int) (a2 : Bool) : Option Yab :=
 (ob (Ci a0) fun r1 =>
 (cond (!r1.1)
 (some (Qp, [], false, ()))
 (ob (Zb a1 0 (wr .i64 (a0.1.1 - 1))) fun r2 =>
 (cond (!r2.1)
 (some (Qp, [], false, ()))
 (ob (Qw a0 a1) fun r3 =>
 (cond (decide (r3.1 ≥ 0))
 (some (Qp, [], false, ()))
 (ob (Dj a0) fun r4 =>
 (ob (Pr a0.2.2.1 a0.2.2.2.1) fun r5 =>
 (ob (Lr a0.1 r5.1 a1) fun r6 =>
 (cond a2
 (ob (HA r6.1) fun r7 =>
 (ob (Yj r4.1 r7.1) fun r8 =>
 (cond (bl (ln r8.1.2.2.2.1 + ln ([(a1, r8.2.1, ())] : List Ia)) Ab)
 (cond (r8.2.1.1 == 9)
 (cond (decide (r8.2.1.2.2.2.1 < ((ln a0.2.1 : Nat) : Int)))
 (ob (Sb a0.2.1 r8.2.1.2.2.2.1) fun x9 =>
 (ob (Wh (ap r8.1.2.2.2.1 ([(a1, r8.2.1, ())] : List Ia)) x9) fun r10 =>
 (ob (Dd (ap r8.1.2.2.2.1 ([(a1, r8.2.1, ())] : List Ia))) fun r11 =>
 (cond (bl (ln r10.1 + ln ([r11.1] : List Aa)) Ab)
 (ob (Dd a0.2.2.2.1) fun r12 =>
 (ob (Kf r12.1 (ap r10.1 ([r11.1] : List Aa))) fun r13 =>
 (some ((r8.1.1, r8.1.2.1, r8.1.2.2.1, (ap r8.1.2.2.2.1 ([(a1, r8.2.1, ())] : List Ia)), r8.1.2.2.2.2), r13.1, true, ()))))
 none))))
 (ob (Dd (ap r8.1.2.2.2.1 ([(a1, r8.2.1, ())] : List Ia))) fun r14 =>
 (cond (bl (ln ([] : List Aa) + ln ([r14.1] : List Aa)) Ab)
 (ob (Dd a0.2.2.2.1) fun r15 =>
 (ob (Kf r15.1 (ap [] ([r14.1] : List Aa))) fun r16 =>
 (some ((r8.1.1, r8.1.2.1, r8.1.2.2.1, (ap r8.1.2.2.2.1 ([(a1, r8.2.1, ())] : List Ia)), r8.1.2.2.2.2), r16.1, true, ()))))
 none)))
 (ob (Dd (ap r8.1.2.2.2.1 ([(a1, r8.2.1, ())] : List Ia))) fun r17 =>
 (cond (bl (ln ([] : List Aa) + ln ([r17.1] : List Aa)) Ab)
 (ob (Dd a0.2.2.2.1) fun r18 =>
 (ob (Kf r18.1 (ap [] ([r17.1] : List Aa))) fun r19 =>
 (some ((r8.1.1, r8.1.2.1, r8.1.2.2.1, (ap r8.1.2.2.2.1 ([(a1, r8.2.1, ())] : List Ia)), r8.1.2.2.2.2), r19.1, true, ()))))
 none)))
 none)))
 (ob (Sy r6.1) fun r20 =>
 (ob (Yj r4.1 r20.1) fun r21 =>
 (cond (bl (ln r21.1.2.2.2.1 + ln ([(a1, r21.2.1, ())] : List Ia)) Ab)
 (cond (r21.2.1.1 == 9)
 (cond (decide (r21.2.1.2.2.2.1 < ((ln a0.2.1 : Nat) : Int)))
 (ob (Sb a0.2.1 r21.2.1.2.2.2.1) fun x22 =>
 (ob (Wh (ap r21.1.2.2.2.1 ([(a1, r21.2.1, ())] : List Ia)) x22) fun r23 =>
 (ob (Dd (ap r21.1.2.2.2.1 ([(a1, r21.2.1, ())] : List Ia))) fun r24 =>
 (cond (bl (ln r23.1 + ln ([r24.1] : List Aa)) Ab)
 (ob (Dd a0.2.2.2.1) fun r25 =>
 (ob (Kf r25.1 (ap r23.1 ([r24.1] : List Aa))) fun r26 =>
 (some ((r21.1.1, r21.1.2.1, r21.1.2.2.1, (ap r21.1.2.2.2.1 ([(a1, r21.2.1, ())] : List Ia)), r21.1.2.2.2.2), r26.1, true, ()))))
 none))))
 (ob (Dd (ap r21.1.2.2.2.1 ([(a1, r21.2.1, ())] : List Ia))) fun r27 =>
 (cond (bl (ln ([] : List Aa) + ln ([r27.1] : List Aa)) Ab)
 (ob (Dd a0.2.2.2.1) fun r28 =>
 (ob (Kf r28.1 (ap [] ([r27.1] : List Aa))) fun r29 =>
 (some ((r21.1.1, r21.1.2.1, r21.1.2.2.1, (ap r21.1.2.2.2.1 ([(a1, r21.2.1, ())] : List Ia)), r21.1.2.2.2.2), r29.1, true, ()))))
 none)))
 (ob (Dd (ap r21.1.2.2.2.1 ([(a1, r21.2.1, ())] : List Ia))) fun r30 =>
 (cond (bl (ln ([] : List Aa) + ln ([r30.1] : List Aa)) Ab)
 (ob (Dd a0.2.2.2.1) fun r31 =>
 (ob (Kf r31.1 (ap [] ([r30.1] : List Aa))) fun r32 =>
 (some ((r21.1.1, r21.1.2.1, r21.1.2.2.1, (ap r21.1.2.2.2.1 ([(a1, r21.2.1, ())] : List Ia)), r21.1.2.2.2.2), r32.1, true, ()))))
 none)))
 none)))))))))))))
def Pu (a0 : Ua) (a1 : Int) : Option Yab :=
 (ob (Qw a0 a1) fun r1 =>
 (ob (Ci a0) fun r2 =>
 (cond (!r2.1)
 (some (Qp, [], false, ()))
 (cond (decide (r1.1 < 0))
 (some (Qp, [], false, ()))
 (ob (Dj a0) fun r3 =>
 (ob (Ve r3.1.2.2.2.1 r1.1) fun r4 =>
 (ob (Dd a0.2.2.2.1) fun r5 =>
 (ob (Dd r4.1) fun r6 =>
 (ob (Kf r5.1 ([r6.1] : List Aa)) fun r7 =>
 (some ((r3.1.1, r3.1.2.1, r3.1.2.2.1, r4.1, r3.1.2.2.2.2), r7.1, true, ())))))))))))
def Mu (a0 : Ma) : Option Sd :=
 (ob (Zb a0.1 0 1000000) fun r1 =>
 (cond r1.1
 (ob (Zb a0.2.1 0 31) fun r2 =>
 (some (r2.1, ())))
 (some (false, ()))))
def Pl (t0 : Gh) (t1 : Int) (t2 : Int) (t3 : Int) (t9 : Int) : Option (((Gh × Va) × Unit) ⊕ ((JT × Unit) ⊕ Yu)) :=
 (cond (decide (t9 < ((ln t0 : Nat) : Int)))
 (ob (Sb t0 t9) fun x17 =>
 (ob (Mu x17) fun r18 =>
 (cond (!r18.1)
 (some (.inr (.inr ((false, ()), ()))))
 (ob (Sb t0 t9) fun x19 =>
 (cond (decide (x19.2.1 ≥ t2))
 (some (.inr (.inr ((false, ()), ()))))
 (ob (Sb t0 t9) fun x20 =>
 (cond (decide (x20.1 < t3))
 (some (.inr (.inr ((false, ()), ()))))
 (ob (Sb t0 t9) fun x21 =>
 (ob (Sb t0 t9) fun x22 =>
 (cond (decide (0 ≤ x22.2.1))
 (cond (x21.2.2.1 == ((Pf .i64 (Xv .i64 t1 x22.2.1) 1) == 1))
 (some (.inr (.inr ((false, ()), ()))))
 (ob (Sb t0 t9) fun x23 =>
 (ob (Sb t0 t9) fun x24 =>
 (cond (decide (0 ≤ x24.2.1))
 (some (.inl ((t0, (Yv .i64 t1 (De .i64 1 x24.2.1)), t2, x23.1, (wr .i64 (t9 + 1)), ()), ())))
 none))))
 none))))))))))
 (some (.inr (.inl ((t0, ()), ())))))
def Rn := Za fun x : ((Gh × Va) × Unit) => Pl x.1.1 x.1.2.1 x.1.2.2.1 x.1.2.2.2.1 x.1.2.2.2.2.1
def Ym (a0 : Gh) (a1 : Int) (a2 : Int) (a3 : Int) : Option Sd :=
 (ob (Rn ((a0, a1, a2, a3, 0, ()), ())) (se (fun y25 => (some ((decide (((ln y25.1.1 : Nat) : Int) ≤ 64)), ()))) (fun z26 => (some (z26.1.1, ())))))
def Nr (a0 : Vb) : Option Sd :=
 (ob (Zb a0.1 1 1000) fun r1 =>
 (cond r1.1
 (ob (Zb a0.2.1 0 1000) fun r2 =>
 (cond r2.1
 (ob (Zb a0.2.2.1 0 2) fun r3 =>
 (some (r3.1, ())))
 (some (false, ()))))
 (some (false, ()))))
def TE (a0 : Int) : Option Nf :=
 (ob (Zb a0 0 31) fun r1 =>
 (cond (!r1.1)
 (some (0, ()))
 (cond (decide (0 ≤ a0))
 (some ((De .i64 1 a0), ()))
 none)))
def Uq (t1 : Unit) (t3 : Int) (t4 : Int) (b1 : Ua) : Option ((BK × Ak) ⊕ DT) :=
 (cond (decide (t4 < ((ln b1.2.2.2.1 : Nat) : Int)))
 (ob (Sb b1.2.2.2.1 t4) fun x5 =>
 (ob (TE x5.1) fun r6 =>
 (some (.inl (((), (Fd .i64 t3 r6.1), (wr .i64 (t4 + 1)), ()), (b1, ()))))))
 (some (.inr (.inl ((t3, ()), ())))))
def Is := Za fun x : (BK × Ak) => Uq x.1.1 x.1.2.1 x.1.2.2.1 x.2.1
def Qu (a0 : Ua) : Option Nf :=
 (ob (Is (((), 0, 0, ()), (a0, ()))) (se (fun y7 => (some (y7.1.1, ()))) (fun z8 => none)))
def Fp (a0 : Eb) : Option Sd :=
 (ob (Ci a0.1) fun r1 =>
 (cond (!r1.1)
 (some (false, ()))
 (ob (Nr a0.2.1) fun r2 =>
 (cond (!r2.1)
 (some (false, ()))
 (ob (Zb a0.2.2.2.1 0 1000000) fun r3 =>
 (cond (!r3.1)
 (some (false, ()))
 (ob (Zb a0.2.2.2.2.1 0 a0.2.2.2.1) fun r4 =>
 (cond (!r4.1)
 (some (false, ()))
 (ob (Qu a0.1) fun r5 =>
 (ob (Ym a0.2.2.1 r5.1 a0.1.1.1 0) fun r6 =>
 (cond (!r6.1)
 (some (false, ()))
 (cond (decide (((ln a0.2.2.1 : Nat) : Int) > 0))
 (ob (Sb a0.2.2.1 (wr .i64 (((ln a0.2.2.1 : Nat) : Int) - 1))) fun x7 =>
 (cond (decide (x7.1 > a0.2.2.2.1))
 (some (false, ()))
 (ob (Zb a0.2.2.2.2.2.1 0 a0.1.1.1) fun r8 =>
 (cond r8.1
 (ob (Zb a0.2.2.2.2.2.2.1 0 a0.2.2.2.1) fun r9 =>
 (some (r9.1, ())))
 (some (false, ()))))))
 (ob (Zb a0.2.2.2.2.2.1 0 a0.1.1.1) fun r10 =>
 (cond r10.1
 (ob (Zb a0.2.2.2.2.2.2.1 0 a0.2.2.2.1) fun r11 =>
 (some (r11.1, ())))
 (some (false, ()))))))))))))))))
def Ht (a0 : Ua) (a1 : Vb) : Option (Eb × Sd) :=
 (ob (Fp (a0, a1, [], 0, 0, 0, 0, ())) fun r1 =>
 (cond (!r1.1)
 (some (We, false, ()))
 (ob (Dj a0) fun r2 =>
 (some ((r2.1, a1, [], 0, 0, 0, 0, ()), true, ())))))
def Kr (a0 : Vb) : Option ID :=
 (some (a0, ()))
def Rm (t1 : Vg) (t2 : Unit) (t6 : Gh) (t7 : Int) (b2 : Ka) : Option (LT ⊕ ((JT × Unit) ⊕ (GO × Unit))) :=
 (cond (decide (t7 < ((ln t1 : Nat) : Int)))
 (ob (Sb t1 t7) fun c6 =>
 (ob (Uy b2 ((UInt8.toNat c6 : Nat) : Int) t7) fun r7 =>
 (cond (((ln r7.1 : Nat) : Int) == 0)
 (some (.inr (.inr (([], false, ()), ()))))
 (cond (bl (ln t6 + ln r7.1) Ab)
 (some (.inl ((t1, (), (ap t6 r7.1), (wr .i64 (t7 + 1)), ()), (b2, ()))))
 none))))
 (some (.inr (.inl ((t6, ()), ())))))
def Ep := Za fun x : LT => Rm x.1.1 x.1.2.1 x.1.2.2.1 x.1.2.2.2.1 x.2.1
def Kv (a0 : Ka) (a1 : Vg) : Option GO :=
 (ob (Xj a0) fun r1 =>
 (cond (!r1.1)
 (some ([], false, ()))
 (cond (decide (((ln a1 : Nat) : Int) > 60))
 (some ([], false, ()))
 (ob (Ep ((a1, (), [], 0, ()), (a0, ()))) (se (fun y8 => (cond (decide (((ln y8.1.1 : Nat) : Int) > 64))
 (some ([], false, ()))
 (some (y8.1.1, true, ())))) (fun z9 => (some z9.1)))))))
def Ho (t1 : Unit) (t3 : Int) (b1 : Aa) : Option ((Js × Nh) ⊕ ((Fg × Nh) ⊕ Yu)) :=
 (cond (decide (t3 < ((ln b1.2.1 : Nat) : Int)))
 (ob (Sb b1.2.1 t3) fun x9 =>
 (ob (Zb x9 1 56) fun r10 =>
 (cond (!r10.1)
 (some (.inr (.inr ((false, ()), ()))))
 (cond (decide (t3 > 0))
 (ob (Sb b1.2.1 (wr .i64 (t3 - 1))) fun x11 =>
 (ob (Sb b1.2.1 t3) fun x12 =>
 (cond (decide (x11 ≥ x12))
 (some (.inr (.inr ((false, ()), ()))))
 (some (.inl (((), (wr .i64 (t3 + 1)), ()), (b1, ())))))))
 (some (.inl (((), (wr .i64 (t3 + 1)), ()), (b1, ()))))))))
 (some (.inr (.inl (((), ()), (b1, ()))))))
def Qq := Za fun x : (Js × Nh) => Ho x.1.1 x.1.2.1 x.2.1
def Mr (a0 : Aa) : Option Sd :=
 (ob (Qq (((), 0, ()), (a0, ()))) (se (fun y13 => (ob (Zb y13.2.1.1 0 15) fun r15 =>
 (some (r15.1, ())))) (fun z14 => (some (z14.1.1, ())))))
def Co (t1 : Int) (t3 : Gh) (t4 : Int) (t5 : Unit) (t12 : Int) (t13 : Int) (t14 : Int) (b5 : Vb) : Option (((Int × (Gh × (Int × Wab))) × ID) ⊕ (OB ⊕ OB)) :=
 (cond (decide (t14 < ((ln t3 : Nat) : Int)))
 (ob (Sb t3 t14) fun x7 =>
 (ob (Mu x7) fun r8 =>
 (cond (!r8.1)
 (some (.inr (.inr ((0, 0, ()), ()))))
 (cond (decide (x7.1 ≥ t12))
 (some (.inr (.inr ((2, t12, ()), ()))))
 (cond (x7.2.1 == t1)
 (cond (!x7.2.2.1)
 (some (.inr (.inr ((1, x7.1, ()), ()))))
 (cond (x7.2.1 == t1)
 (some (.inl ((t1, t3, t4, (), t12, t13, (wr .i64 (t14 + 1)), ()), (b5, ()))))
 (cond x7.2.2.1
 (cond (b5.2.2.1 == 1)
 (some (.inr (.inr ((2, x7.1, ()), ()))))
 (cond x7.2.2.1
 (cond (decide (0 ≤ x7.2.1))
 (some (.inl ((t1, t3, t4, (), t12, (Fd .i64 t13 (De .i64 1 x7.2.1)), (wr .i64 (t14 + 1)), ()), (b5, ()))))
 none)
 (cond (b5.2.2.1 == 2)
 (cond (decide (0 ≤ x7.2.1))
 (cond ((Pf .i64 (Xv .i64 t13 x7.2.1) 1) == 1)
 (some (.inr (.inr ((2, x7.1, ()), ()))))
 (some (.inl ((t1, t3, t4, (), t12, t13, (wr .i64 (t14 + 1)), ()), (b5, ())))))
 none)
 (some (.inl ((t1, t3, t4, (), t12, t13, (wr .i64 (t14 + 1)), ()), (b5, ())))))))
 (cond x7.2.2.1
 (cond (decide (0 ≤ x7.2.1))
 (some (.inl ((t1, t3, t4, (), t12, (Fd .i64 t13 (De .i64 1 x7.2.1)), (wr .i64 (t14 + 1)), ()), (b5, ()))))
 none)
 (cond (b5.2.2.1 == 2)
 (cond (decide (0 ≤ x7.2.1))
 (cond ((Pf .i64 (Xv .i64 t13 x7.2.1) 1) == 1)
 (some (.inr (.inr ((2, x7.1, ()), ()))))
 (some (.inl ((t1, t3, t4, (), t12, t13, (wr .i64 (t14 + 1)), ()), (b5, ())))))
 none)
 (some (.inl ((t1, t3, t4, (), t12, t13, (wr .i64 (t14 + 1)), ()), (b5, ())))))))))
 (cond (x7.2.1 == t1)
 (some (.inl ((t1, t3, t4, (), t12, t13, (wr .i64 (t14 + 1)), ()), (b5, ()))))
 (cond x7.2.2.1
 (cond (b5.2.2.1 == 1)
 (some (.inr (.inr ((2, x7.1, ()), ()))))
 (cond x7.2.2.1
 (cond (decide (0 ≤ x7.2.1))
 (some (.inl ((t1, t3, t4, (), t12, (Fd .i64 t13 (De .i64 1 x7.2.1)), (wr .i64 (t14 + 1)), ()), (b5, ()))))
 none)
 (cond (b5.2.2.1 == 2)
 (cond (decide (0 ≤ x7.2.1))
 (cond ((Pf .i64 (Xv .i64 t13 x7.2.1) 1) == 1)
 (some (.inr (.inr ((2, x7.1, ()), ()))))
 (some (.inl ((t1, t3, t4, (), t12, t13, (wr .i64 (t14 + 1)), ()), (b5, ())))))
 none)
 (some (.inl ((t1, t3, t4, (), t12, t13, (wr .i64 (t14 + 1)), ()), (b5, ())))))))
 (cond x7.2.2.1
 (cond (decide (0 ≤ x7.2.1))
 (some (.inl ((t1, t3, t4, (), t12, (Fd .i64 t13 (De .i64 1 x7.2.1)), (wr .i64 (t14 + 1)), ()), (b5, ()))))
 none)
 (cond (b5.2.2.1 == 2)
 (cond (decide (0 ≤ x7.2.1))
 (cond ((Pf .i64 (Xv .i64 t13 x7.2.1) 1) == 1)
 (some (.inr (.inr ((2, x7.1, ()), ()))))
 (some (.inl ((t1, t3, t4, (), t12, t13, (wr .i64 (t14 + 1)), ()), (b5, ())))))
 none)
 (some (.inl ((t1, t3, t4, (), t12, t13, (wr .i64 (t14 + 1)), ()), (b5, ())))))))))))))
 (some (.inr (.inl ((t4, t12, ()), ())))))
def Nq := Za fun x : ((Int × (Gh × (Int × Wab))) × ID) => Co x.1.1 x.1.2.1 x.1.2.2.1 x.1.2.2.2.1 x.1.2.2.2.2.1 x.1.2.2.2.2.2.1 x.1.2.2.2.2.2.2.1 x.2.1
def Dx (a0 : Vb) (a1 : Int) (a2 : Int) (a3 : Gh) (a4 : Int) : Option Hb :=
 (ob (Nr a0) fun r1 =>
 (cond (!r1.1)
 (some (0, 0, ()))
 (ob (Zb a2 0 1000000) fun r2 =>
 (cond (!r2.1)
 (some (0, 0, ()))
 (ob (Nq ((a1, a3, a4, (), (wr .i64 (a2 + a0.1)), 0, 0, ()), (a0, ()))) (se (fun y9 => (cond (decide (y9.1.1 ≥ y9.1.2.1))
 (some (2, y9.1.2.1, ()))
 (some (0, 0, ())))) (fun z10 => (some z10.1))))))))
def Lp (a0 : Eb) (a1 : Ma) (a2 : Int) : Option (Eb × (Bf × HT)) :=
 (ob (Pr a0.1.2.2.1 a0.1.2.2.2.1) fun r1 =>
 (ob (Lr a0.1.1 r1.1 a1.2.1) fun r2 =>
 (ob (Ui r2.1) fun r3 =>
 (cond r3.1
 (cond (Jd (ln a0.2.2.1) 1 ((ln a0.2.2.1 : Nat) : Int))
 (ob (Dx a0.2.1 a1.2.1 a1.1 (Kb a0.2.2.1 (tn 1) (tn ((ln a0.2.2.1 : Nat) : Int))) a0.2.2.2.1) fun r4 =>
 (cond (a0.2.2.2.2.2.1 == (wr .i64 (a1.2.1 + 1)))
 (cond (decide ((wr .i64 (a1.1 - a0.2.2.2.2.2.2.1)) < a0.2.1.2.1))
 (cond ((1 : Int) == 0)
 (some (a0, ([], a2, false, ())))
 (cond (!((1 : Int) == 2))
 (ob (Cj a0.1 a1.2.1 ((1 : Int) == 2)) fun r5 =>
 (some ((r5.1, a0.2.1, a0.2.2.1, a0.2.2.2.1, a0.2.2.2.2.1, (wr .i64 (a1.2.1 + 1)), a1.1, a0.2.2.2.2.2.2.2), (r5.2.1, (max a2 a1.1), true, ()))))
 (ob (Cj a0.1 a1.2.1 ((1 : Int) == 2)) fun r6 =>
 (some ((r6.1, a0.2.1, a0.2.2.1, a0.2.2.2.1, a0.2.2.2.2.1, 0, a0.2.2.2.2.2.2), (r6.2.1, (max a2 a1.1), true, ()))))))
 (cond (r4.1 == 0)
 (some (a0, ([], a2, false, ())))
 (cond (!(r4.1 == 2))
 (ob (Cj a0.1 a1.2.1 (r4.1 == 2)) fun r7 =>
 (some ((r7.1, a0.2.1, a0.2.2.1, a0.2.2.2.1, a0.2.2.2.2.1, (wr .i64 (a1.2.1 + 1)), a1.1, a0.2.2.2.2.2.2.2), (r7.2.1, (max a2 r4.2.1), true, ()))))
 (ob (Cj a0.1 a1.2.1 (r4.1 == 2)) fun r8 =>
 (some ((r8.1, a0.2.1, a0.2.2.1, a0.2.2.2.1, a0.2.2.2.2.1, 0, a0.2.2.2.2.2.2), (r8.2.1, (max a2 r4.2.1), true, ())))))))
 (cond (r4.1 == 0)
 (some (a0, ([], a2, false, ())))
 (cond (!(r4.1 == 2))
 (ob (Cj a0.1 a1.2.1 (r4.1 == 2)) fun r9 =>
 (some ((r9.1, a0.2.1, a0.2.2.1, a0.2.2.2.1, a0.2.2.2.2.1, (wr .i64 (a1.2.1 + 1)), a1.1, a0.2.2.2.2.2.2.2), (r9.2.1, (max a2 r4.2.1), true, ()))))
 (ob (Cj a0.1 a1.2.1 (r4.1 == 2)) fun r10 =>
 (some ((r10.1, a0.2.1, a0.2.2.1, a0.2.2.2.1, a0.2.2.2.2.1, 0, a0.2.2.2.2.2.2), (r10.2.1, (max a2 r4.2.1), true, ()))))))))
 none)
 (ob (Cj a0.1 a1.2.1 false) fun r11 =>
 (some ((r11.1, a0.2), (r11.2.1, a2, true, ()))))))))
def Vq (t0 : Unit) (t3 : Ki) (t5 : Int) (t6 : (Bf × Int)) (t13 : Int) (b500000 : Eb) : Option (S3 ⊕ (((Unit × (Ki × Nf)) × KD) ⊕ Fg)) :=
 (cond (decide (t13 < ((ln t6.1 : Nat) : Int)))
 (cond (Ql (ln t6.1) t13)
 (cond (Nat.beq (tn t13) (tn t6.2))
 (ob t6.1[(tn t13)]? fun x53 =>
 (cond (bl (ln t3 + ln ([(t5, x53, ())] : List Ie)) Ab)
 (some (.inl (((), (ap t3 ([(t5, x53, ())] : List Ie)), t5, (t6.1, ((((tn t13) + 1) : Nat) : Int)), (wr .i64 (t13 + 1)), ()), (b500000, ()))))
 none))
 none)
 none)
 (some (.inr (.inl (((), t3, t5, ()), (b500000, ()))))))
def Ug := Za fun x : S3 => Vq x.1.1 x.1.2.1 x.1.2.2.1 x.1.2.2.2.1 x.1.2.2.2.2.1 x.2.1
def Rg (t0 : Unit) (t3 : Ki) (b500000 : Eb) : Option ((CO × KD) ⊕ ((CO × KD) ⊕ (CO × KD))) :=
 (cond (decide (((ln b500000.2.2.1 : Nat) : Int) > 0))
 (cond (Ql (ln b500000.2.2.1) 0)
 (ob b500000.2.2.1[(tn 0)]? fun x38 =>
 (cond x38.2.2.1
 (ob (Lp b500000 x38 (max b500000.2.2.2.2.1 x38.1)) fun r39 =>
 (cond (!r39.2.2.2.1)
 (some (.inr (.inr (((), t3, ()), (r39.1, ())))))
 (ob (Ug (((), t3, r39.2.2.1, (r39.2.1, 0), 0, ()), (r39.1, ()))) (se (fun y43 => (cond (Jd (ln y43.2.1.2.2.1) 1 ((ln y43.2.1.2.2.1 : Nat) : Int))
 (cond (bl (ln ([] : List Ma) + ln (Kb y43.2.1.2.2.1 (tn 1) (tn ((ln y43.2.1.2.2.1 : Nat) : Int)))) Ab)
 (some (.inl (((), y43.1.2.1, ()), ((y43.2.1.1, y43.2.1.2.1, (ap [] (Kb y43.2.1.2.2.1 (tn 1) (tn ((ln y43.2.1.2.2.1 : Nat) : Int)))), y43.2.1.2.2.2.1, y43.1.2.2.1, y43.2.1.2.2.2.2.2), ()))))
 none)
 none)) (fun z44 => none)))))
 (ob (Pu b500000.1 x38.2.1) fun r45 =>
 (cond (b500000.2.2.2.2.2.1 == (wr .i64 (x38.2.1 + 1)))
 (ob (Ug (((), t3, (max b500000.2.2.2.2.1 x38.1), (r45.2.1, 0), 0, ()), ((r45.1, b500000.2.1, b500000.2.2.1, b500000.2.2.2.1, b500000.2.2.2.2.1, b500000.2.2.2.2.2.1, x38.1, b500000.2.2.2.2.2.2.2), ()))) (se (fun y49 => (cond (Jd (ln y49.2.1.2.2.1) 1 ((ln y49.2.1.2.2.1 : Nat) : Int))
 (cond (bl (ln ([] : List Ma) + ln (Kb y49.2.1.2.2.1 (tn 1) (tn ((ln y49.2.1.2.2.1 : Nat) : Int)))) Ab)
 (some (.inl (((), y49.1.2.1, ()), ((y49.2.1.1, y49.2.1.2.1, (ap [] (Kb y49.2.1.2.2.1 (tn 1) (tn ((ln y49.2.1.2.2.1 : Nat) : Int)))), y49.2.1.2.2.2.1, y49.1.2.2.1, y49.2.1.2.2.2.2.2), ()))))
 none)
 none)) (fun z50 => none)))
 (ob (Ug (((), t3, (max b500000.2.2.2.2.1 x38.1), (r45.2.1, 0), 0, ()), ((r45.1, b500000.2), ()))) (se (fun y54 => (cond (Jd (ln y54.2.1.2.2.1) 1 ((ln y54.2.1.2.2.1 : Nat) : Int))
 (cond (bl (ln ([] : List Ma) + ln (Kb y54.2.1.2.2.1 (tn 1) (tn ((ln y54.2.1.2.2.1 : Nat) : Int)))) Ab)
 (some (.inl (((), y54.1.2.1, ()), ((y54.2.1.1, y54.2.1.2.1, (ap [] (Kb y54.2.1.2.2.1 (tn 1) (tn ((ln y54.2.1.2.2.1 : Nat) : Int)))), y54.2.1.2.2.2.1, y54.1.2.2.1, y54.2.1.2.2.2.2.2), ()))))
 none)
 none)) (fun z55 => none)))))))
 none)
 (some (.inr (.inl (((), t3, ()), (b500000, ()))))))
def Dh := Za fun x : (CO × KD) => Rg x.1.1 x.1.2.1 x.2.1
def Xr (a0 : Eb) : Option (Eb × (Ki × Unit)) :=
 (ob (Dh (((), [], ()), (a0, ()))) (se (fun y56 => (some (y56.2.1, (y56.1.2.1, ())))) (fun z57 => (some (z57.2.1, (z57.1.2.1, ()))))))
def It (a0 : Eb) (a1 : Gh) (a2 : Int) : Option (Eb × (Ki × Sd)) :=
 (cond (bl (ln ([] : List Ma) + ln a0.2.2.1) Ab)
 (cond (bl (ln (ap [] a0.2.2.1) + ln a1) Ab)
 (ob (Fp a0) fun r1 =>
 (cond (!r1.1)
 (some (We, [], false, ()))
 (ob (Zb a2 a0.2.2.2.1 1000000) fun r2 =>
 (cond (!r2.1)
 (some (We, [], false, ()))
 (ob (Qu a0.1) fun r3 =>
 (ob (Ym (ap (ap [] a0.2.2.1) a1) r3.1 a0.1.1.1 0) fun r4 =>
 (cond (!r4.1)
 (some (We, [], false, ()))
 (cond (decide (((ln a1 : Nat) : Int) > 0))
 (ob (Sb a1 0) fun x5 =>
 (cond (decide (x5.1 < a0.2.2.2.1))
 (some (We, [], false, ()))
 (ob (Sb a1 (wr .i64 (((ln a1 : Nat) : Int) - 1))) fun x6 =>
 (cond (decide (x6.1 > a2))
 (some (We, [], false, ()))
 (ob (Dj a0.1) fun r7 =>
 (ob (Xr (r7.1, a0.2.1, (ap (ap [] a0.2.2.1) a1), a2, a0.2.2.2.2)) fun r8 =>
 (some (r8.1, r8.2.1, true, ()))))))))
 (ob (Dj a0.1) fun r9 =>
 (ob (Xr (r9.1, a0.2.1, (ap (ap [] a0.2.2.1) a1), a2, a0.2.2.2.2)) fun r10 =>
 (some (r10.1, r10.2.1, true, ()))))))))))))
 none)
 none)
def Kt (t0 : Bg) (t1 : Int) (t5 : Int) : Option ((BO × Unit) ⊕ Uz) :=
 (cond (decide (t5 < ((ln t0 : Nat) : Int)))
 (ob (Sb t0 t5) fun x3 =>
 (cond (x3 == t1)
 (some (.inr (.inr ((true, ()), ()))))
 (some (.inl ((t0, t1, (wr .i64 (t5 + 1)), ()), ())))))
 (some (.inr (.inl ((), ())))))
def Ru := Za fun x : (BO × Unit) => Kt x.1.1 x.1.2.1 x.1.2.2.1
def IA (a0 : Bg) (a1 : Int) : Option Sd :=
 (ob (Ru ((a0, a1, 0, ()), ())) (se (fun y4 => (some (false, ()))) (fun z5 => (some (z5.1.1, ())))))
def Jl (t2 : Unit) (t3 : Unit) (t5 : Bg) (t6 : Int) (b2 : Aa) (b3 : Aa) : Option (((Unit × PT) × Fn) ⊕ N1) :=
 (cond (decide (t6 < ((ln b3.2.1 : Nat) : Int)))
 (ob (Mr b2) fun r11 =>
 (cond r11.1
 (ob (Mr b3) fun r12 =>
 (cond r12.1
 (ob (Sb b3.2.1 t6) fun x13 =>
 (ob (IA b2.2.1 x13) fun r14 =>
 (cond (!r14.1)
 (ob (Sb b3.2.1 t6) fun x15 =>
 (cond (bl (ln t5 + ln ([x15] : List Int)) Ab)
 (some (.inl (((), (), (ap t5 ([x15] : List Int)), (wr .i64 (t6 + 1)), ()), (b2, b3, ()))))
 none))
 (some (.inl (((), (), t5, (wr .i64 (t6 + 1)), ()), (b2, b3, ())))))))
 (some (.inr (.inl ((t5, ()), ()))))))
 (some (.inr (.inl ((t5, ()), ()))))))
 (some (.inr (.inl ((t5, ()), ())))))
def Hs := Za fun x : ((Unit × PT) × Fn) => Jl x.1.1 x.1.2.1 x.1.2.2.1 x.1.2.2.2.1 x.2.1 x.2.2.1
def Ry (a0 : Aa) (a1 : Aa) : Option VF :=
 (ob (Hs (((), (), [], 0, ()), (a0, a1, ()))) (se (fun y16 => (some (y16.1.1, ()))) (fun z17 => none)))
def Xm (t1 : Bf) (t2 : Unit) (t5 : Vg) (t6 : Int) (t7 : Bg) (t8 : Int) (b2 : Aa) : Option (((Bf × (Unit × (Vg × (Int × H1)))) × Nh) ⊕ (K1 ⊕ Fg)) :=
 (cond (decide (t8 < ((ln t7 : Nat) : Int)))
 (cond (Ql (ln t7) t8)
 (ob t7[(tn t8)]? fun x37 =>
 (ob (Sb t1 t6) fun x38 =>
 (ob (Jh x37 x38.1) fun r39 =>
 (cond (bl (ln t5 + ln r39.1) Ab)
 (some (.inl ((t1, (), (ap t5 r39.1), t6, t7, (wr .i64 (t8 + 1)), ()), (b2, ()))))
 none))))
 none)
 (some (.inr (.inl ((t1, (), t5, t6, ()), (b2, ()))))))
def Kp := Za fun x : ((Bf × (Unit × (Vg × (Int × H1)))) × Nh) => Xm x.1.1 x.1.2.1 x.1.2.2.1 x.1.2.2.2.1 x.1.2.2.2.2.1 x.1.2.2.2.2.2.1 x.2.1
def Wm (t1 : Bf) (t2 : Unit) (t5 : Vg) (t6 : Int) (b2 : Aa) : Option (K1 ⊕ Aac) :=
 (cond (decide (t6 < ((ln t1 : Nat) : Int)))
 (ob (Sb t1 t6) fun x29 =>
 (ob (Ry b2 x29) fun r30 =>
 (ob (Kp ((t1, (), t5, t6, r30.1, 0, ()), (b2, ()))) (se (fun y40 => (ob (Sb y40.1.1 y40.1.2.2.2.1) fun x42 =>
 (some (.inl ((y40.1.1, (), y40.1.2.2.1, (wr .i64 (y40.1.2.2.2.1 + 1)), ()), (x42, ())))))) (fun z41 => (some (.inr (.inr ((), ())))))))))
 (some (.inr (.inl ((t5, ()), ())))))
def Jp := Za fun x : K1 => Wm x.1.1 x.1.2.1 x.1.2.2.1 x.1.2.2.2.1 x.2.1
def Ov (a0 : Aa) (a1 : Bf) : Option XF :=
 (ob (Jp ((a1, (), [], 0, ()), (a0, ()))) (se (fun y43 => (some (y43.1.1, ()))) (fun z44 => none)))
def Qr (a0 : Ka) (a1 : Vb) (a2 : Vg) : Option (Vg × Sd) :=
 (ob (Kv a0 a2) fun r1 =>
 (ob (Mv a0 []) fun r2 =>
 (ob (Ht r2.1 a1) fun r3 =>
 (ob (It r3.1 r1.1 ((ln a2 : Nat) : Int)) fun r4 =>
 (cond (!r1.2.1)
 (some ([], false, ()))
 (cond (!r2.2.1)
 (some ([], false, ()))
 (cond (!r3.2.1)
 (some ([], false, ()))
 (cond (!r4.2.2.1)
 (some ([], false, ()))
 (ob (Nv r4.2.1) fun r5 =>
 (ob (Ov (0, [], ()) r5.1) fun r6 =>
 (some (r6.1, true, ()))))))))))))
def Gk (a0 : Ka) (a1 : Vb) (a2 : Vg) : Option Sd :=
 (cond (decide (((ln a2 : Nat) : Int) > 1048576))
 (some (true, ()))
 (ob (Yw a0 1048576) fun r1 =>
 (cond (decide (r1.1 < 0))
 (some (true, ()))
 (ob (Zl a0) fun r2 =>
 (ob (Kr a1) fun r3 =>
 (ob (Qr r2.1 r3.1 a2) fun r4 =>
 (ob (Zl a0) fun r5 =>
 (ob (Kr a1) fun r6 =>
 (ob (Hr r5.1 r6.1 a2) fun r7 =>
 (cond (r7.1 != r4.1)
 (some (false, ()))
 (cond (r7.2.1 != r4.2.1)
 (some (false, ()))
 (ob (Zl a0) fun r8 =>
 (ob (Xw r5.1 r8.1) fun r9 =>
 (cond (!r9.1)
 (some (false, ()))
 (some (true, ()))))))))))))))))
end
theorem LW (a : (List Va)) (hr : Ew (.sl Nb) a) (l : Nat) (hl : l ≤ Da) : Zo a (l : Int) = some (ES (Wa (.sl Nb) a) l, ()) := Kaw (e := Nb) (F := Zo) a hr l hl rfl rfl
theorem YS (a : (List (List Va))) (hr : Ew (.sl (.sl Nb)) a) (l : Nat) (hl : l ≤ Da) : Ct a (l : Int) = some (ES (Wa (.sl (.sl Nb)) a) l, ()) := szS (e := (.sl Nb)) (f := Zo) (F := Ct) a hr l hl LW rfl
theorem DX (a : Ka) (hr : Ew Bb a) (l : Nat) (hl : l ≤ Da) : Yw a (l : Int) = some (ES (Wa Bb a) l, ()) := by
 unfold Yw
 have hs : Wa Bb a = Wa (.sl (.sl Nb)) a.2.1 := by simp only [Wa, Nat.add_zero, js, jt]
 rw [YS a.2.1 hr.2.1 (l) (by omega)]
 simp only [jb]
 by_cases h0 : Wa (.sl (.sl Nb)) a.2.1 ≤ l
 case neg => rw [GD h0, GD (by omega)]; rfl
 rw [SF h0, Ca (by omega)]
 simp only [cond_false]
 rw [SF (by omega), hs]
 try simp only [Nat.sub_sub, jt]
theorem EX (a : Va) (hz : Wa Nb a ≤ Da) : Jr a = some (a, ()) := by
 unfold Jr
 rfl
theorem NW (a : (List Va)) (hz : Wa (.sl Nb) a ≤ Da) : Fv a = some (a, ()) := toS (e := Nb) _ _ (f := Jr) a hz EX rfl
theorem ZS (a : (List (List Va))) (hz : Wa (.sl (.sl Nb)) a ≤ Da) : Ky a = some (a, ()) := toS (e := (.sl Nb)) _ _ (f := Fv) a hz NW rfl
theorem FX (a : Ka) (hz : Wa Bb a ≤ Da) : Zl a = some (a, ()) := by
 unfold Zl
 have hs : Wa Bb a = Wa (.sl (.sl Nb)) a.2.1 := by simp only [Wa, Nat.add_zero, js, jt]
 rw [ZS a.2.1 (by omega)]
 simp only [jb]
theorem VW (a : Va) (hz : Wa Nb a ≤ Wz) : Ir a a = some (true, ()) := by
 unfold Ir
 have hs : Wa Nb a = 0 := by simp only [Wa, Nat.add_zero, js, jt]
 simp only [bne_self_eq_false', cond_false, jg, jb]
theorem NU (a : (List Va)) (hz : Wa (.sl Nb) a ≤ Wz) : Yo a a = some (true, ()) := eqS (e := Nb) (f := Ir) (F := Yo) a hz VW rfl
theorem IS (a : (List (List Va))) (hz : Wa (.sl (.sl Nb)) a ≤ Wz) : Bt a a = some (true, ()) := eqS (e := (.sl Nb)) (f := Yo) (F := Bt) a hz NU rfl
theorem WW (a : Ka) (hz : Wa Bb a ≤ Wz) : Xw a a = some (true, ()) := by
 unfold Xw
 have hs : Wa Bb a = Wa (.sl (.sl Nb)) a.2.1 := by simp only [Wa, Nat.add_zero, js, jt]
 simp only [bne_self_eq_false', cond_false, jg, jb, IS a.2.1 (by omega)]
theorem GX (a : Vb) (hz : Wa Ec a ≤ Da) : Kr a = some (a, ()) := by
 unfold Kr
 rfl
def Pc (k c m n : Int) : Prop :=
 ((k = 0 ∨ k = 1 ∨ k = 10) ∧ c = 0 ∧ m = 0 ∧ n = 0) ∨
 (k = 2 ∧ n = 0 ∧ (c = 0 ∨ 1 ≤ c ∧ c ≤ 56) ∧ (m = 0 ∨ 1 ≤ m ∧ m ≤ 15) ∧ (c ≠ 0 ∨ m ≠ 0)) ∨
 ((k = 3 ∨ k = 4) ∧ c = 0 ∧ m = 0 ∧ 1 ≤ n ∧ n ≤ 3) ∨
 ((k = 5 ∨ k = 9) ∧ c = 0 ∧ m = 0 ∧ 0 ≤ n ∧ n ≤ 3) ∨
 (k = 6 ∧ 1 ≤ c ∧ c ≤ 56 ∧ 1 ≤ m ∧ m ≤ 15 ∧ n = 0) ∨
 (k = 7 ∧ 1 ≤ c ∧ c ≤ 56 ∧ m = 0 ∧ 1 ≤ n ∧ n ≤ 3) ∨
 (k = 8 ∧ c = 0 ∧ 1 ≤ m ∧ m ≤ 15 ∧ n = 0)
noncomputable def Jc (a : Va) : Bool := open Classical in decide (Pc a.1 a.2.1 a.2.2.1 a.2.2.2.1)
theorem Ob (a : Va) : Jc a = true ↔ Pc a.1 a.2.1 a.2.2.1 a.2.2.2.1 := by simp [Jc]
theorem Si (c : Int) : Nk c = some (decide (1 ≤ c ∧ c ≤ 56), ()) := by
 simp only [Nk, Xh, Yh]
 apply Bc; simp only [Sc, decide_eq_true_eq, CG, DG, jq, and_false, false_and, or_false, false_or, and_true, true_and, not_true_eq_false, not_false_eq_true]; try omega
theorem DF (c : Int) : Mn c = some (decide (1 ≤ c ∧ c ≤ 15), ()) := by
 simp only [Mn, Xh, Yh]
 apply Bc; simp only [Sc, decide_eq_true_eq, CG, DG, jq, and_false, false_and, or_false, false_or, and_true, true_and, not_true_eq_false, not_false_eq_true]; try omega
theorem UD (c : Int) : Vo c = some (decide (1 ≤ c ∧ c ≤ 3), ()) := by
 simp only [Vo, Xh, Yh]
 apply Bc; simp only [Sc, decide_eq_true_eq, CG, DG, jq, and_false, false_and, or_false, false_or, and_true, true_and, not_true_eq_false, not_false_eq_true]; try omega
theorem Cc (c a b : Int) : Zb c a b = some (decide (a ≤ c ∧ c ≤ b), ()) := by
 simp only [Zb, Xh, Yh]
 apply Bc; simp only [Sc, decide_eq_true_eq, CG, DG, jq, and_false, false_and, or_false, false_or, and_true, true_and, not_true_eq_false, not_false_eq_true]; try omega
theorem Aq (a : Va) : Zh a = some (Jc a, ()) := by
 obtain ⟨k, c, m, n, u⟩ := a
 have key : ∀ k c m n : Int, Zh (k, c, m, n, u) = some (Jc (k, c, m, n, u), ()) := by
  intro k c m n
  simp only [Zh, Si, DF, UD, Cc, jb, Xh, Yh]
  by_cases h0 : k = 0
  ·subst h0; apply Bc; rw [Ob]; simp [Pc, Sc]; try omega
  by_cases h1 : k = 1
  ·subst h1; apply Bc; rw [Ob]; simp [Pc, Sc]; try omega
  by_cases h2 : k = 2
  ·subst h2; apply Bc; rw [Ob]; simp [Pc, Sc]; intro hn; (repeat' split) <;> omega
  by_cases h3 : k = 3
  ·subst h3; apply Bc; rw [Ob]; simp [Pc, Sc]; try omega
  by_cases h4 : k = 4
  ·subst h4; apply Bc; rw [Ob]; simp [Pc, Sc]; try omega
  by_cases h5 : k = 5
  ·subst h5; apply Bc; rw [Ob]; simp [Pc, Sc]; try omega
  by_cases h6 : k = 6
  ·subst h6; apply Bc; rw [Ob]; simp [Pc, Sc]; try omega
  by_cases h7 : k = 7
  ·subst h7; apply Bc; rw [Ob]; simp [Pc, Sc]; try omega
  by_cases h8 : k = 8
  ·subst h8; apply Bc; rw [Ob]; simp [Pc, Sc]; try omega
  by_cases h9 : k = 9
  ·subst h9; apply Bc; rw [Ob]; simp [Pc, Sc]; try omega
  by_cases h10 : k = 10
  ·subst h10; apply Bc; rw [Ob]; simp [Pc, Sc]; try omega
  have g : ∀ j : Int, (k == j) = decide (k = j) := fun j => by rw [qu]; simp
  apply Bc; rw [Ob]; simp [Pc, Sc, h0, h1, h2, h3, h4, h5, h6, h7, h8, h9, h10]
 exact key k c m n
theorem Oq (a : Va) : Bi a = some (Jc a, ()) := by
 obtain ⟨k, c, m, n, u⟩ := a
 have key : ∀ k c m n : Int, Bi (k, c, m, n, u) = some (Jc (k, c, m, n, u), ()) := by
  intro k c m n
  simp only [Bi, Si, DF, UD, Cc, jb, Xh, Yh]
  by_cases h0 : k = 0
  ·subst h0; apply Bc; rw [Ob]; simp [Pc, Sc]; try omega
  by_cases h1 : k = 1
  ·subst h1; apply Bc; rw [Ob]; simp [Pc, Sc]; try omega
  by_cases h2 : k = 2
  ·subst h2; apply Bc; rw [Ob]; simp [Pc, Sc]; intro hn; (repeat' split) <;> omega
  by_cases h3 : k = 3
  ·subst h3; apply Bc; rw [Ob]; simp [Pc, Sc]; try omega
  by_cases h4 : k = 4
  ·subst h4; apply Bc; rw [Ob]; simp [Pc, Sc]; try omega
  by_cases h5 : k = 5
  ·subst h5; apply Bc; rw [Ob]; simp [Pc, Sc]; try omega
  by_cases h6 : k = 6
  ·subst h6; apply Bc; rw [Ob]; simp [Pc, Sc]; try omega
  by_cases h7 : k = 7
  ·subst h7; apply Bc; rw [Ob]; simp [Pc, Sc]; try omega
  by_cases h8 : k = 8
  ·subst h8; apply Bc; rw [Ob]; simp [Pc, Sc]; try omega
  by_cases h9 : k = 9
  ·subst h9; apply Bc; rw [Ob]; simp [Pc, Sc]; try omega
  by_cases h10 : k = 10
  ·subst h10; apply Bc; rw [Ob]; simp [Pc, Sc]; try omega
  have g : ∀ j : Int, (k == j) = decide (k = j) := fun j => by rw [qu]; simp
  apply Bc; rw [Ob]; simp [Pc, Sc, h0, h1, h2, h3, h4, h5, h6, h7, h8, h9, h10]
 exact key k c m n
noncomputable def Oi (nl : Nat) (i : Nat) (a : Va) : Bool := Jc a && !(((i : Int) == 0) && (a.1 == 1)) && !((a.1 != 9) && decide (a.2.2.2.1 ≥ (nl : Int)))
noncomputable def Fl (keys : Int) (nl : Nat) (i : Nat) (l : List Va) : Bool := ((ja l : Int) == keys) && Pd (fun _ a => Oi nl i a) 0 l
noncomputable def Ac (m : Ka) : Bool :=
 decide (1 ≤ m.1 ∧ m.1 ≤ 32) && decide (1 ≤ m.2.1.length ∧ m.2.1.length ≤ 4) && Pd (fun i l => Fl m.1 m.2.1.length i l) 0 m.2.1
theorem ZM (m : Ka) (i : Nat) (l : List Va) (L : List (List Va)) (n : Int) (t : Int) (hl : l.length < 9223372036854775807) :
 Fk (((), (i : Int), L, n, t, l, (l.length : Int), (0 : Int), ()), (m, ())) =
  some (cond (Pd (fun _ a => Oi m.2.1.length i a) 0 l) (.inl (((), L, n, t, ()), (m, ()))) (.inr ((false, ()), ()))) := by
 unfold Fk
 refine Xf (step := _) l (fun _ a => Oi m.2.1.length i a) (fun j => (((), (i : Int), L, n, t, l, (l.length : Int), j, ()), (m, ()))) _ _ ?_ ?_ hl
 ·intro k hk
  simp only [Uv]
  rw [Ba (show (k : Int) < (l.length : Int) by omega), Qb hk]
  simp only [cond_true, jb, Oi, Aq]
  cases Jc l[k] <;> cases ((i : Int) == 0) <;> cases (l[k].1 == 1) <;> cases (l[k].1 != 9) <;> cases decide (l[k].2.2.2.1 ≥ (m.2.1.length : Int)) <;> rfl
 ·simp [Uv]
theorem Kx (m : Ka) (hz : Wa Bb m ≤ Da) : Wl m = some (Ac m, ()) := by
 have h20 : Da = 1048576 := rfl
 have hz' : m.2.1.length + (List.map (Wa (.sl Nb)) m.2.1).sum ≤ Da := by
  have : Wa Bb m = Wa (.sl (.sl Nb)) m.2.1 := by simp only [Wa, Nat.add_zero, js]
  rw [this] at hz; exact hz
 have hl : ∀ k (hk : k < m.2.1.length), m.2.1[k].length ≤ Da := by
  intro k hk
  have := Cn (f := Wa (.sl Nb)) hk
  have h2 : m.2.1[k].length ≤ Wa (.sl Nb) m.2.1[k] := Nat.le_add_right _ _
  omega
 have hloop : Ek (((), m.2.1, ((ja m.2.1 : Nat) : Int), (0 : Int), ()), (m, ())) =
  some (cond (Pd (fun i l => Fl m.1 m.2.1.length i l) 0 m.2.1) (.inl ((), ())) (.inr ((false, ()), ()))) := by
  unfold Ek
  refine Xf (step := _) m.2.1 (fun i l => Fl m.1 m.2.1.length i l) (fun j => (((), m.2.1, ((ja m.2.1 : Nat) : Int), j, ()), (m, ()))) _ _ ?_ ?_ (by omega)
  ·intro k hk
   have := hl k hk
   simp only [Tv]
   rw [Ba (show (k : Int) < (m.2.1.length : Int) by omega), Qb hk]
   simp only [cond_true, jb, Fl]
   rw [ZM m k _ _ _ _ (by omega)]
   show (cond (!((m.2.1[k].length : Int) == m.1)) _ _) = _
   cases ((m.2.1[k].length : Int) == m.1) <;> cases Pd (fun _ a => Oi m.2.1.length k a) 0 m.2.1[k] <;> rfl
  ·simp [Tv]
 unfold Wl
 rw [hloop]
 simp only [jb, LR, Xh, Yh]
 apply Bc
 simp only [Sc, Ac, jd, decide_eq_true_eq, jq, and_false, false_or, and_true, or_false]
 generalize Pd (fun i l => Fl m.1 m.2.1.length i l) 0 m.2.1 = b
 constructor
 ·rintro ⟨h1, h2, h3, h4, h5⟩; exact ⟨⟨by omega, by omega⟩, h5⟩
 ·rintro ⟨⟨h1, h2⟩, h5⟩; exact ⟨by omega, by omega, by omega, by omega, h5⟩
theorem RN (m : Ka) (i : Nat) (hi : i < m.2.1.length) (hl : m.2.1[i].length < 9223372036854775807) :
 Lk (((), (i : Int), (0 : Int), ()), (m, ())) =
  some (cond (Pd (fun _ a => Oi m.2.1.length i a) 0 m.2.1[i]) (.inl (((), (i : Int), ()), (m, ()))) (.inr ((false, ()), ()))) := by
 unfold Lk
 refine Xf (step := _) m.2.1[i] (fun _ a => Oi m.2.1.length i a) (fun j => (((), (i : Int), j, ()), (m, ()))) _ _ ?_ ?_ hl
 ·intro k hk
  simp only [Bw]
  rw [Qb hi]
  simp only [jb]
  rw [Ba (show (k : Int) < (m.2.1[i].length : Int) by omega), Qb hk]
  simp only [cond_true, jb, Oi, Oq]
  cases Jc m.2.1[i][k] <;> cases ((i : Int) == 0) <;> cases (m.2.1[i][k].1 == 1) <;> cases (m.2.1[i][k].1 != 9) <;> cases decide (m.2.1[i][k].2.2.2.1 ≥ (m.2.1.length : Int)) <;> rfl
 ·simp [Bw, Qb hi]
theorem Gl (m : Ka) (hz : Wa Bb m ≤ Da) : Xj m = some (Ac m, ()) := by
 have h20 : Da = 1048576 := rfl
 have hz' : m.2.1.length + (List.map (Wa (.sl Nb)) m.2.1).sum ≤ Da := by
  have : Wa Bb m = Wa (.sl (.sl Nb)) m.2.1 := by simp only [Wa, Nat.add_zero, js]
  rw [this] at hz; exact hz
 have hl : ∀ k (hk : k < m.2.1.length), m.2.1[k].length ≤ Da := by
  intro k hk
  have := Cn (f := Wa (.sl Nb)) hk
  have h2 : m.2.1[k].length ≤ Wa (.sl Nb) m.2.1[k] := Nat.le_add_right _ _
  omega
 have hloop : Kk (((), (0 : Int), ()), (m, ())) =
  some (cond (Pd (fun i l => Fl m.1 m.2.1.length i l) 0 m.2.1) (.inl (((), ()), (m, ()))) (.inr ((false, ()), ()))) := by
  unfold Kk
  refine Xf (step := _) m.2.1 (fun i l => Fl m.1 m.2.1.length i l) (fun j => (((), j, ()), (m, ()))) _ _ ?_ ?_ (by omega)
  ·intro k hk
   have := hl k hk
   simp only [Aw]
   rw [Ba (show (k : Int) < (m.2.1.length : Int) by omega), Qb hk]
   simp only [cond_true, jb, Fl]
   rw [RN m k hk (by omega)]
   show (cond (!((m.2.1[k].length : Int) == m.1)) _ _) = _
   cases ((m.2.1[k].length : Int) == m.1) <;> cases Pd (fun _ a => Oi m.2.1.length k a) 0 m.2.1[k] <;> rfl
  ·simp [Aw]
 unfold Xj
 rw [hloop]
 simp only [jb, LR, Xh, Yh, Cc]
 apply Bc
 simp only [Sc, Ac, jd, decide_eq_true_eq, jq, and_false, false_or, and_true, or_false]
 generalize Pd (fun i l => Fl m.1 m.2.1.length i l) 0 m.2.1 = b
 constructor
 ·rintro ⟨h1, h2, h3⟩; exact ⟨⟨by omega, by omega⟩, h1⟩
 ·rintro ⟨⟨h1, h2⟩, h5⟩; exact ⟨h5, by omega, by omega⟩
theorem NF {n : Nat} (h : n ≤ 62) : De .i64 1 (n : Int) = ((2 ^ n : Nat) : Int) := by
 unfold De
 have h1 : min (jy (n : Int)) (IntKind.bits .i64) = n := by
  show min (jy (n : Int)) 64 = n
  rw [jn]; omega
 rw [h1, Int.one_mul]
 have h2 : (2 : Int) ^ n = ((2 ^ n : Nat) : Int) := by simp
 have h3 : 2 ^ n ≤ 2 ^ 62 := qk (by omega) h
 rw [h2]
 clear h1 h2
 generalize 2 ^ n = z at h3
 rw [Uh (by omega) (by omega)]
structure Pt (m : Ka) : Prop where
 k1 : 1 ≤ m.1
 k2 : m.1 ≤ 32
 l1 : 1 ≤ m.2.1.length
 l2 : m.2.1.length ≤ 4
 row : ∀ i (h : i < m.2.1.length), (m.2.1[i].length : Int) = m.1
 act : ∀ i (h : i < m.2.1.length) k (hk : k < m.2.1[i].length), Oi m.2.1.length i m.2.1[i][k] = true
theorem Wf {m : Ka} (h : Ac m = true) : Pt m := by
 simp only [Ac, jd, decide_eq_true_eq] at h
 obtain ⟨⟨h1, h2⟩, h3⟩ := h
 rw [Rp] at h3
 refine ⟨h1.1, h1.2, h2.1, h2.2, fun i hi => ?_, fun i hi k hk => ?_⟩
 ·have := h3 i hi
  simp only [js, Fl, jd, beq_iff_eq] at this
  exact this.1
 ·have := h3 i hi
  simp only [js, Fl, jd, beq_iff_eq] at this
  have := Rp.1 this.2 k hk
  simpa using this
theorem EJ {nl i : Nat} {a : Va} (h : Oi nl i a = true) : Jc a = true := by
 simp only [Oi, jd] at h
 exact h.1.1
theorem RK {nl i : Nat} {a : Va} (h : Oi nl i a = true) (hk : a.1 ≠ 9) : a.2.2.2.1 < (nl : Int) := by
 simp only [Oi, jd, Bool.not_eq_true', Bool.and_eq_false_iff] at h
 rcases h.2 with h | h
 ·simp at h; exact absurd h hk
 ·simpa using h
def Gn (m k : Int) : Int := Pf .i64 (Xv .i64 m k) 1
theorem CA (m : Int) {k : Int} (h : 0 ≤ k) : Gq m k = some (Gn m k, ()) := by
 unfold Gq
 rw [Ba h]; rfl
def Oaw : Va := (0, 0, 0, 0, ())
def Yi (L : List (List Va)) (i k : Nat) : Va := (L.getD i []).getD k Oaw
theorem BM {L : List (List Va)} {i k : Nat} (hi : i < L.length) (hk : k < L[i].length) : Yi L i k = L[i][k] := by
 simp [Yi, qh, hi, hk]
theorem XU {α : Type} {L : List (List Va)} {i k : Nat} (hi : i < L.length) (hk : k < L[i].length) (K : Va → Option α) :
 (jz (Sb L (i : Int)) fun x => jz (Sb x (k : Int)) K) = K (Yi L i k) := by
 rw [Qb hi]
 simp only [jb]
 rw [Qb hk, BM hi hk]
 rfl
def Oe (L : List (List Va)) (on : Int) (k : Nat) : Nat → Nat
 | 0 => 0
 | n + 1 => cond ((Gn on ((n + 1 : Nat) : Int) == 1) && ((Yi L (n + 1) k).1 != 1)) (n + 1) (Oe L on k n)
theorem YI {L : List (List Va)} {on : Int} {k : Nat} : ∀ n, Oe L on k n ≤ n
 | 0 => jo _
 | n + 1 => by
  simp only [Oe]
  cases ((Gn on ((n + 1 : Nat) : Int) == 1) && ((Yi L (n + 1) k).1 != 1)) with
  | true => exact jo _
  | false => exact Nat.le_succ_of_le (YI n)
theorem WD {m : Ka} (hm : Pt m) (on : Int) {k : Nat} (hk : (k : Int) < m.1) : ∀ n : Nat, n < m.2.1.length →
 Sg ((on, (k : Int), (), (n : Int), ()), (m, ())) = some (cond (Oe m.2.1 on k n == 0) (.inl ((), ())) (.inr ((((Oe m.2.1 on k n : Nat) : Int), ()), ())))
 | 0, _ => by
  unfold Sg
  rw [Gv]
  rfl
 | n + 1, h => by
  have hrow := hm.row (n + 1) h
  unfold Sg
  rw [Gv]
  simp only [RC]
  rw [Ba (show (((n + 1 : Nat) : Int)) > 0 by omega), CA on (show (0 : Int) ≤ ((n + 1 : Nat) : Int) by omega)]
  simp only [cond_true, jb]
  rw [XU h (by omega), Uh (by have := hm.l2; omega) (by have := hm.l2; omega), show (((n + 1 : Nat) : Int) - 1) = (n : Int) by omega]
  have ih := WD hm on hk n (by omega)
  unfold Sg at ih
  simp only [Oe]
  cases h1 : (Gn on ((n + 1 : Nat) : Int) == 1) with
  | false =>
   simp only [qm, cond_false, jb, qi]
   exact ih
  | true =>
   cases h2 : ((Yi m.2.1 (n + 1) k).1 != 1) with
   | true => rfl
   | false =>
    simp only [Bool.and_false, cond_true, cond_false, jb, qi]
    exact ih
theorem VD {m : Ka} (hm : Pt m) (on : Int) {k : Nat} (hk : (k : Int) < m.1) :
 Gu m on (k : Int) = some (((Oe m.2.1 on k (m.2.1.length - 1) : Nat) : Int), ()) := by
 have h1 := hm.l1
 have h2 := hm.l2
 unfold Gu
 rw [Uh (by omega) (by omega), show ((m.2.1.length : Int) - 1) = ((m.2.1.length - 1 : Nat) : Int) by omega, WD hm on hk _ (by omega)]
 cases h : (Oe m.2.1 on k (m.2.1.length - 1) == 0) with
 | false => rfl
 | true =>
  have h' : Oe m.2.1 on k (m.2.1.length - 1) = 0 := by simpa using h
  rw [h']; rfl
theorem KE {m : Ka} (hm : Pt m) (on : Int) {k : Nat} (hk : (k : Int) < m.1) : ∀ n : Nat, n < m.2.1.length →
 Tg ((on, (k : Int), (), (n : Int), ()), (m, ())) = some (cond (Oe m.2.1 on k n == 0) (.inl ((), ())) (.inr ((((Oe m.2.1 on k n : Nat) : Int), ()), ())))
 | 0, _ => by
  unfold Tg
  rw [Gv]
  rfl
 | n + 1, h => by
  have hrow := hm.row (n + 1) h
  unfold Tg
  rw [Gv]
  simp only [ED]
  rw [Ba (show (((n + 1 : Nat) : Int)) > 0 by omega), Ba (show (0 : Int) ≤ ((n + 1 : Nat) : Int) by omega)]
  simp only [cond_true]
  rw [XU h (by omega), Uh (by have := hm.l2; omega) (by have := hm.l2; omega), show (((n + 1 : Nat) : Int) - 1) = (n : Int) by omega]
  have ih := KE hm on hk n (by omega)
  unfold Tg at ih
  simp only [Oe]
  show jz (cond (Gn on ((n + 1 : Nat) : Int) == 1) _ _) _ = _
  cases h1 : (Gn on ((n + 1 : Nat) : Int) == 1) with
  | false =>
   simp only [qm, cond_false, jb, qi]
   exact ih
  | true =>
   cases h2 : ((Yi m.2.1 (n + 1) k).1 != 1) with
   | true => rfl
   | false =>
    simp only [Bool.and_false, cond_true, cond_false, jb, qi]
    exact ih
def Ah (m : Ka) (on : Int) (k : Nat) : Nat := Oe m.2.1 on k (m.2.1.length - 1)
theorem YD {m : Ka} (hm : Pt m) (on : Int) (k : Nat) : Ah m on k < m.2.1.length := by
 have := YI (L := m.2.1) (on := on) (k := k) (m.2.1.length - 1)
 have := hm.l1
 unfold Ah
 omega
theorem QP {m : Ka} (hz : Wa Bb m ≤ Da) (hv : Ac m = true) (on : Int) {k : Nat} (hk : (k : Int) < m.1) :
 Qy m on (k : Int) = some (((Ah m on k : Nat) : Int), ()) := by
 have hm := Wf hv
 have h1 := hm.l1
 have h2 := hm.l2
 have h3 := hm.k2
 unfold Qy
 rw [Gl m hz, hv, Uh (n := m.1 - 1) (by omega) (by omega)]
 simp only [jb, jg, cond_false, Cc]
 rw [Ba (show (0 : Int) ≤ (k : Int) ∧ (k : Int) ≤ m.1 - 1 by omega), Uh (by omega) (by omega), show ((m.2.1.length : Int) - 1) = ((m.2.1.length - 1 : Nat) : Int) by omega, KE hm on hk _ (by omega)]
 simp only [jg, cond_false, jb]
 show _ = some (((Oe m.2.1 on k (m.2.1.length - 1) : Nat) : Int), ())
 cases h : (Oe m.2.1 on k (m.2.1.length - 1) == 0) with
 | false => rfl
 | true =>
  have h' : Oe m.2.1 on k (m.2.1.length - 1) = 0 := by simpa using h
  rw [h']; rfl
theorem CD {m : Ka} (hz : Wa Bb m ≤ Da) (hv : Ac m = true) (on : Int) {k : Nat} (hk : (k : Int) < m.1) :
 Lr m on (k : Int) = some (Yi m.2.1 (Ah m on k) k, ()) := by
 have hm := Wf hv
 have hl := YD hm on k
 have hrow := hm.row _ hl
 unfold Lr
 rw [QP hz hv on hk]
 simp only [jb]
 rw [Ca (by omega)]
 simp only [cond_false]
 rw [XU hl (by omega)]
noncomputable def Je (a : Va) : Bool := Jc a && ((a.1 == 6) || (a.1 == 7))
noncomputable def Hj (a : Va) : Va := cond (Je a) (2, a.2.1, 0, 0, ()) a
noncomputable def Kz (a : Va) : Va := cond (Je a) (cond (a.1 == 6) (2, 0, a.2.2.1, 0, ()) (3, 0, 0, a.2.2.2.1, ())) a
theorem Vv (a : Va) : Qk a = some (Je a, ()) := by
 unfold Qk Je
 rw [Aq]
 cases Jc a <;> cases (a.1 == 6) <;> rfl
theorem Io (a : Va) : Ui a = some (Je a, ()) := by
 unfold Ui Je
 rw [Oq]
 cases Jc a <;> cases (a.1 == 6) <;> rfl
theorem KH (a : Va) : Jy a = some (Hj a, ()) := by
 unfold Jy Hj
 rw [Vv]
 cases Je a <;> rfl
theorem MH (a : Va) : Sy a = some (Hj a, ()) := by
 unfold Sy Hj
 rw [Io]
 cases Je a <;> rfl
theorem ZQ (a : Va) : HA a = some (Kz a, ()) := by
 unfold HA Kz
 rw [Io]
 cases Je a <;> cases (a.1 == 6) <;> rfl
noncomputable def UI (c d : Int) (a : Va) : Bool :=
 (((cond (c != 0) (Hj a) a).1 == 2) && ((cond (c != 0) (Hj a) a).2.1 == c)) && ((cond (c != 0) (Hj a) a).2.2.1 == d)
def Dc {α : Type} (p : α → Bool) : Nat → List α → Int
 | _, [] => -1
 | k, x :: xs => cond (p x) (k : Int) (Dc p (k + 1) xs)
noncomputable def Ue (m : Ka) (c d : Int) : Int := Dc (UI c d) 0 (m.2.1.getD 0 [])
theorem Cah {α : Type} {xs : List α} (h : 0 < xs.length) (d : α) : Sb xs (0 : Int) = some (xs.getD 0 d) := by
 cases xs with
 | nil => simp at h
 | cons x xs => rfl
theorem QE {α : Type} (p : α → Bool) : ∀ (xs : List α) (k : Nat), (match Oc (fun k (_ : Unit) x => cond (p x) (.inr (k : Int)) (.inl ())) k () xs with | .inl _ => (-1 : Int) | .inr r => r) = Dc p k xs
 | [], _ => rfl
 | x :: xs, k => by
  simp only [Oc, Dc]
  cases p x with
  | true => rfl
  | false => exact QE p xs (k + 1)
theorem CN (c d : Int) (row : List Va) (hn : row.length < 9223372036854775807) :
 ∃ z, Mm ((c, d, row, (row.length : Int), (0 : Int), ()), ()) = some z ∧ (match z with | .inl _ => (-1 : Int) | .inr r => r.1.1) = Dc (UI c d) 0 row := by
 unfold Mm
 refine ⟨_, Tf (step := fun x : ((Int × (Int × ((List Va) × (Int × (Int × Unit))))) × Unit) => Zs x.1.1 x.1.2.1 x.1.2.2.1 x.1.2.2.2.1 x.1.2.2.2.2.1)
  row (fun k (_ : Unit) x => cond (UI c d x) (.inr (k : Int)) (.inl ())) (fun _ k => ((c, d, row, (row.length : Int), k, ()), ())) (fun _ => .inl ((), ())) (fun r => .inr ((r, ()), ())) (fun _ _ => True) ?_ ?_ hn () trivial, ?_⟩
 ·intro k hk s _
  refine ⟨?_, fun _ _ => trivial⟩
  simp only [Zs]
  rw [Ba (show (k : Int) < (row.length : Int) by omega), Qb hk]
  simp only [cond_true, jb, KH, UI]
  cases (c != 0) with
  | true =>
   simp only [cond_true]
   cases ((Hj row[k]).1 == 2) <;> cases ((Hj row[k]).2.1 == c) <;> cases ((Hj row[k]).2.2.1 == d) <;> rfl
  | false =>
   simp only [cond_false]
   cases (row[k].1 == 2) <;> cases (row[k].2.1 == c) <;> cases (row[k].2.2.1 == d) <;> rfl
 ·intro s _
  simp only [Zs]
  rw [Ca (by omega)]; rfl
 ·rw [← QE]
  cases Oc (fun k (_ : Unit) x => cond (UI c d x) (.inr (k : Int)) (.inl ())) 0 () row <;> rfl
theorem OQ {m : Ka} (hm : Pt m) (c d : Int) : Sr m c d = some (Ue m c d, ()) := by
 unfold Sr Ue
 have h1 := hm.l1
 have hk2 := hm.k2
 have hrow := hm.row 0 (by omega)
 have h0 : Sb m.2.1 (0 : Int) = some (m.2.1.getD 0 []) := Cah (by omega) []
 have hlen : (m.2.1.getD 0 []).length < 9223372036854775807 := by
  have : m.2.1.getD 0 [] = m.2.1[0] := by simp [qh, show 0 < m.2.1.length by omega]
  rw [this]; omega
 rw [h0]
 simp only [jb]
 obtain ⟨z, e, hz⟩ := CN c d _ hlen
 rw [e, ← hz]
 cases z <;> rfl
theorem AR (m : Ka) (c d : Int) (hz : Wa Bb m ≤ Da) : Wr m c d = some (cond (Ac m && decide (0 ≤ c ∧ c ≤ 56)) (Ue m c d) (-1), ()) := by
 unfold Wr
 have stop : (Ac m && decide (0 ≤ c ∧ c ≤ 56)) = false → Gj ((c, d, (), (0 : Int), ()), (m, ())) = some (.inl ((), ())) := by
  intro h
  unfold Gj
  rw [Gv]
  simp only [Sm, Gl m hz, Cc, jb]
  by_cases h0 : 0 < m.1
  ·rw [Ba h0]
   cases hv : Ac m with
   | false => rfl
   | true => rw [hv, jk] at h; rw [h]; rfl
  ·rw [Ca h0]; rfl
 cases hc : (Ac m && decide (0 ≤ c ∧ c ≤ 56)) with
 | false => rw [stop hc]; rfl
 | true =>
  simp only [jd] at hc
  obtain ⟨hv, hcc⟩ := hc
  have hm := Wf hv
  have h1 := hm.l1
  have hk2 := hm.k2
  have hrow := hm.row 0 (by omega)
  have hget : m.2.1.getD 0 [] = m.2.1[0] := by simp [qh, show 0 < m.2.1.length by omega]
  have hlen : (m.2.1.getD 0 []).length < 9223372036854775807 := by rw [hget]; omega
  have h0 : Sb m.2.1 (0 : Int) = some (m.2.1.getD 0 []) := Cah (by omega) []
  have hcp : (decide (c > 0)) = (c != 0) := by
   have : 0 ≤ c ∧ c ≤ 56 := by simpa using hcc
   rw [qu]; simp; omega
  have hl := Tf (step := fun x : ((Int × (Int × (Unit × (Int × Unit)))) × (Ka × Unit)) => Sm x.1.1 x.1.2.1 x.1.2.2.1 x.1.2.2.2.1 x.2.1)
   (m.2.1.getD 0 []) (fun k (_ : Unit) x => cond (UI c d x) (.inr (k : Int)) (.inl ())) (fun _ k => ((c, d, (), k, ()), (m, ()))) (fun _ => .inl ((), ())) (fun r => .inr ((r, ()), ())) (fun _ _ => True) (by
    intro k hk s _
    refine ⟨?_, fun _ _ => trivial⟩
    have hk' : (k : Int) < m.1 := by rw [hget] at hk; omega
    simp only [Sm]
    rw [Ba hk', Gl m hz, hv, h0]
    simp only [cond_true, jb, Cc, hcc, hcp]
    rw [Qb hk]
    simp only [jb, MH, UI]
    generalize (m.2.1.getD 0 [])[k] = a
    cases (c != 0) with
    | true =>
     simp only [cond_true]
     cases ((Hj a).1 == 2) <;> cases ((Hj a).2.1 == c) <;> cases ((Hj a).2.2.1 == d) <;> rfl
    | false =>
     simp only [cond_false]
     cases (a.1 == 2) <;> cases (a.2.1 == c) <;> cases (a.2.2.1 == d) <;> rfl) (by
    intro s _
    simp only [Sm]
    rw [Ca (by rw [hget]; omega)]; rfl) hlen () trivial
  unfold Gj
  erw [hl]
  simp only [cond_true, Ue]
  rw [← QE]
  cases Oc (fun k (_ : Unit) x => cond (UI c d x) (.inr (k : Int)) (.inl ())) 0 () (m.2.1.getD 0 []) <;> rfl
def Lw {α β : Type} : α ⊕ β → Bool
 | .inl _ => true
 | .inr _ => false
def X2 {X R : Type} (step : X → Option (X ⊕ R)) : Nat → X → Option R
 | 0, _ => none
 | n + 1, x => match step x with
  | some (.inl y) => X2 step n y
  | some (.inr r) => some r
  | none => none
theorem GZ {X R : Type} {step : X → Option (X ⊕ R)} : ∀ (n : Nat) {x : X} {r : R}, X2 step n x = some r → Za step x = some r
 | 0, _, _, h => by simp [X2] at h
 | n + 1, x, r, h => by
  unfold X2 at h
  cases hs : step x with
  | none => rw [hs] at h; simp at h
  | some z =>
   rw [hs] at h
   rw [Hc hs]
   cases z with
   | inl y => exact GZ n h
   | inr r' => exact h
def MD : List (List UInt8) := [[97], [98], [99], [100], [101], [102], [103], [104], [105], [106], [107], [108], [109], [110], [111], [112], [113], [114], [115], [116], [117], [118], [119], [120], [121], [122], [49], [50], [51], [52], [53], [54], [55], [56], [57], [48], [101, 110, 116, 101, 114], [101, 115, 99], [98, 97, 99, 107], [116, 97, 98], [115, 112, 97, 99, 101], [109, 105, 110, 117, 115], [101, 113, 117, 97, 108], [108, 101, 102, 116], [114, 105, 103, 104, 116], [117, 112], [100, 111, 119, 110], [102, 49], [102, 50], [102, 51], [102, 52], [102, 53], [102, 54], [102, 55], [102, 56], [102, 57]]
def J3 : List (List UInt8) := [[], [97], [98], [99], [100], [101], [102], [103], [104], [105], [106], [107], [108], [109], [110], [111], [112], [113], [114], [115], [116], [117], [118], [119], [120], [121], [122], [49], [50], [51], [52], [53], [54], [55], [56], [57], [48], [10], [], [], [9], [32], [45], [61], [], [], [], [], [], [], [], [], [], [], [], [], []]
def K3 : List (List UInt8) := [[], [65], [66], [67], [68], [69], [70], [71], [72], [73], [74], [75], [76], [77], [78], [79], [80], [81], [82], [83], [84], [85], [86], [87], [88], [89], [90], [33], [64], [35], [36], [37], [94], [38], [42], [40], [41], [10], [], [], [9], [32], [95], [43], [], [], [], [], [], [], [], [], [], [], [], [], []]
theorem G3 : Vy = some (MD, ()) := by
 unfold Vy Pz Ip
 erw [GZ 400 (r := .inl ((MD, ()), ())) (by kernel_rfl)]
 rfl
theorem L2 : strings_Split DB [32] = some (MD, ()) := by kernel_rfl
def RG (c : Int) : List UInt8 := cond (decide (1 ≤ c ∧ c ≤ 56)) (MD.getD (c - 1).toNat []) []
theorem I4 : MD.length = 56 := by decide +kernel
theorem ZY {c : Int} (h : 1 ≤ c ∧ c ≤ 56) : MD[(c - 1).toNat]? = some (RG c) ∧ Ql MD.length (c - 1) = true := by
 have hl : (c - 1).toNat < MD.length := by rw [I4]; omega
 constructor
 ·unfold RG
  rw [Ba h, cond_true, qh, je hl]; rfl
 ·have : c - 1 = (((c - 1).toNat : Nat) : Int) := by omega
  rw [this, Tr]; exact Ba hl
theorem NC (c : Int) : Gc c = some (RG c, ()) := by
 unfold Gc
 by_cases h1 : c < 1
 ·rw [Ba h1]; unfold RG; rw [Ca (show ¬ (1 ≤ c ∧ c ≤ 56) by omega)]; rfl
 rw [Ca h1]
 by_cases h2 : c > 56
 ·rw [Ba h2]; unfold RG; rw [Ca (show ¬ (1 ≤ c ∧ c ≤ 56) by omega)]; rfl
 rw [Ca h2, L2]
 obtain ⟨e1, e2⟩ := ZY (c := c) (by omega)
 simp only [cond_false, jb]
 rw [Uh (by omega) (by omega), e1, e2]
 rfl
theorem DD (c : Int) : Wj c = some (RG c, ()) := by
 unfold Wj
 rw [Cc]
 by_cases h : 1 ≤ c ∧ c ≤ 56
 ·rw [Ba h, G3]
  obtain ⟨e1, e2⟩ := ZY h
  simp only [jg, cond_false, jb]
  rw [Uh (by omega) (by omega), e1, e2]
  rfl
 ·rw [Ca h]; unfold RG; rw [Ca h]; rfl
def Ck (c m : Int) : List UInt8 := cond (m == 0) (J3.getD c.toNat []) (cond (m == 2) (K3.getD c.toNat []) [])
theorem KU {c : Int} (h : ¬ (1 ≤ c ∧ c ≤ 56)) (m : Int) : Ck c m = [] := by
 have h0 : J3.getD c.toNat [] = [] ∧ K3.getD c.toNat [] = [] := by
  by_cases hc : c < 1
  ·rw [show c.toNat = 0 by omega]; exact ⟨rfl, rfl⟩
  ·have l0 : J3.length = 57 := by decide +kernel
   have l2 : K3.length = 57 := by decide +kernel
   rw [qh, qh, List.getElem?_eq_none (by omega), List.getElem?_eq_none (by omega)]
   exact ⟨rfl, rfl⟩
 unfold Ck
 rw [h0.1, h0.2]
 cases m == 0 <;> cases m == 2 <;> rfl
theorem J2 : ∀ c : Fin 57, Ih (c.val : Int) 0 = some (Ck c.val 0, ()) := by
 intro c
 simp only [Ih, Si, NC, jb]
 revert c
 decide +kernel
theorem K2 : ∀ c : Fin 57, Ih (c.val : Int) 2 = some (Ck c.val 2, ()) := by
 intro c
 simp only [Ih, Si, NC, jb]
 revert c
 decide +kernel
theorem D3 : ∀ c : Fin 57, Jh (c.val : Int) 0 = some (Ck c.val 0, ()) := by
 intro c
 simp only [Jh, Cc, DD, jb]
 revert c
 decide +kernel
theorem E3 : ∀ c : Fin 57, Jh (c.val : Int) 2 = some (Ck c.val 2, ()) := by
 intro c
 simp only [Jh, Cc, DD, jb]
 revert c
 decide +kernel
theorem Lz (c m : Int) : Ih c m = some (Ck c m, ()) := by
 by_cases hc : 1 ≤ c ∧ c ≤ 56
 ·by_cases h0 : m = 0
  ·subst h0
   have := J2 ⟨c.toNat, by omega⟩
   rwa [show ((⟨c.toNat, by omega⟩ : Fin 57).val : Int) = c by show ((c.toNat : Nat) : Int) = c; omega] at this
  ·by_cases h2 : m = 2
   ·subst h2
    have := K2 ⟨c.toNat, by omega⟩
    rwa [show ((⟨c.toNat, by omega⟩ : Fin 57).val : Int) = c by show ((c.toNat : Nat) : Int) = c; omega] at this
   ·have e : Ck c m = [] := by
     unfold Ck
     rw [show (m == 0) = false by simpa using h0, show (m == 2) = false by simpa using h2]; rfl
    rw [e]
    unfold Ih
    rw [Si, Ba hc, show (m != 0) = true by simpa using h0, show (m != 2) = true by simpa using h2]
    rfl
 ·rw [KU hc]
  unfold Ih
  rw [Si, Ca hc]
  rfl
theorem N9 : ∀ m : Fin 16, m.val ≠ 0 → m.val ≠ 2 → (Eh .i64 (m.val : Int) 2 != 0) = true := by decide +kernel
theorem Oz (c m : Int) : Jh c m = some (Ck c m, ()) := by
 by_cases hc : 1 ≤ c ∧ c ≤ 56
 ·by_cases h0 : m = 0
  ·subst h0
   have := D3 ⟨c.toNat, by omega⟩
   rwa [show ((⟨c.toNat, by omega⟩ : Fin 57).val : Int) = c by show ((c.toNat : Nat) : Int) = c; omega] at this
  ·by_cases h2 : m = 2
   ·subst h2
    have := E3 ⟨c.toNat, by omega⟩
    rwa [show ((⟨c.toNat, by omega⟩ : Fin 57).val : Int) = c by show ((c.toNat : Nat) : Int) = c; omega] at this
   ·have e : Ck c m = [] := by
     unfold Ck
     rw [show (m == 0) = false by simpa using h0, show (m == 2) = false by simpa using h2]; rfl
    rw [e]
    unfold Jh
    rw [Cc, Ba hc, Cc]
    by_cases hm : 0 ≤ m ∧ m ≤ 15
    ·have := N9 ⟨m.toNat, by omega⟩ (by show m.toNat ≠ 0; omega) (by show m.toNat ≠ 2; omega)
     rw [show ((⟨m.toNat, by omega⟩ : Fin 16).val : Int) = m by show ((m.toNat : Nat) : Int) = m; omega] at this
     rw [Ba hm, this]
     rfl
    ·rw [Ca hm]; rfl
 ·rw [KU hc]
  unfold Jh
  rw [Cc, Ca hc]
  rfl
def Ll (s : List UInt8) (m : Int) : Nat → Nat → Option Nat
 | 0, _ => none
 | n + 1, c => cond (Ck (c : Int) m == s) (some c) (Ll s m n (c + 1))
def Wc (ch : Int) : Hb :=
 match Ll (Fh [ch]) 0 56 1 with
 | some k => ((k : Int), 0, ())
 | none => match Ll (Fh [ch]) 2 56 1 with
  | some k => ((k : Int), 2, ())
  | none => (0, 0, ())
theorem CB (ch m : Int) : ∀ (n c : Nat), c + n = 57 → Re ((ch, m, (c : Int), ()), ()) = some (match Ll (Fh [ch]) m n c with | some k => .inr (((k : Int), m, ()), ()) | none => .inl ((ch, m, ()), ()))
 | 0, c, h => by
  have hs : Vi ch m (c : Int) = some (.inr (.inl ((ch, m, ()), ()))) := by
   unfold Vi
   rw [Ca (by omega)]; rfl
  unfold Re
  rw [Hc hs]
  rfl
 | n + 1, c, h => by
  cases hb : (Ck (c : Int) m == Fh [ch]) with
  | true =>
   have hs : Vi ch m (c : Int) = some (.inr (.inr (((c : Int), m, ()), ()))) := by
    unfold Vi
    rw [Ba (by omega), Oz]
    simp only [cond_true, jb, hb]
   unfold Re
   rw [Hc hs]
   simp only [Ll, hb, cond_true]
   rfl
  | false =>
   have hs : Vi ch m (c : Int) = some (.inl ((ch, m, ((c + 1 : Nat) : Int), ()), ())) := by
    unfold Vi
    rw [Ba (by omega), Oz, Df (by omega)]
    simp only [cond_true, jb, hb]
    rfl
   have ih := CB ch m n (c + 1) (by omega)
   unfold Re at ih ⊢
   rw [Hc hs]
   simp only [Ll, hb, cond_false]
   exact ih
theorem AB (ch m : Int) (l : List Int) (u v : Int) : ∀ (n c : Nat), c + n = 57 → Qe ((ch, m, (c : Int), l, u, v, ()), ()) = some (match Ll (Fh [ch]) m n c with | some k => .inr (((k : Int), m, ()), ()) | none => .inl ((ch, l, u, v, ()), ()))
 | 0, c, h => by
  have hs : Ri ch m (c : Int) l u v = some (.inr (.inl ((ch, l, u, v, ()), ()))) := by
   unfold Ri
   rw [Ca (by omega)]; rfl
  unfold Qe
  rw [Hc hs]
  rfl
 | n + 1, c, h => by
  cases hb : (Ck (c : Int) m == Fh [ch]) with
  | true =>
   have hs : Ri ch m (c : Int) l u v = some (.inr (.inr (((c : Int), m, ()), ()))) := by
    unfold Ri
    rw [Ba (by omega), Lz]
    simp only [cond_true, jb, hb]
   unfold Qe
   rw [Hc hs]
   simp only [Ll, hb, cond_true]
   rfl
  | false =>
   have hs : Ri ch m (c : Int) l u v = some (.inl ((ch, m, ((c + 1 : Nat) : Int), l, u, v, ()), ())) := by
    unfold Ri
    rw [Ba (by omega), Lz, Df (by omega)]
    simp only [cond_true, jb, hb]
    rfl
   have ih := AB ch m l u v n (c + 1) (by omega)
   unfold Qe at ih ⊢
   rw [Hc hs]
   simp only [Ll, hb, cond_false]
   exact ih
theorem SS (ch : Int) : WB ch = some (Wc ch) := by
 have i0 := CB ch 0 56 1 rfl
 have i2 := CB ch 2 56 1 rfl
 unfold WB Wc
 unfold Cw
 cases h0 : Ll (Fh [ch]) 0 56 1 with
 | some k =>
  rw [h0] at i0
  have hs : Jf ch 0 = some (.inr (.inr (((k : Int), 0, ()), ()))) := by
   unfold Jf
   rw [Ba (by omega), show Re ((ch, 0, (1 : Int), ()), ()) = _ from i0]; rfl
  rw [Hc hs]; rfl
 | none =>
  rw [h0] at i0
  have hs : Jf ch 0 = some (.inl ((ch, 2, ()), ())) := by
   unfold Jf
   rw [Ba (by omega), show Re ((ch, 0, (1 : Int), ()), ()) = _ from i0]; rfl
  rw [Hc hs]
  cases h2 : Ll (Fh [ch]) 2 56 1 with
  | some k =>
   rw [h2] at i2
   have hs2 : Jf ch 2 = some (.inr (.inr (((k : Int), 2, ()), ()))) := by
    unfold Jf
    rw [Ba (by omega), show Re ((ch, 2, (1 : Int), ()), ()) = _ from i2]; rfl
   show jz (Za _ ((ch, 2, ()), ())) _ = _
   rw [Hc hs2]; rfl
  | none =>
   rw [h2] at i2
   have hs2 : Jf ch 2 = some (.inl ((ch, 4, ()), ())) := by
    unfold Jf
    rw [Ba (by omega), show Re ((ch, 2, (1 : Int), ()), ()) = _ from i2]; rfl
   have hs4 : Jf ch 4 = some (.inr (.inl ((), ()))) := by
    unfold Jf
    rw [Ca (by omega)]; rfl
   show jz (Za _ ((ch, 2, ()), ())) _ = _
   rw [Hc hs2]
   show jz (Za _ ((ch, 4, ()), ())) _ = _
   rw [Hc hs4]; rfl
theorem KS (ch : Int) : SB ch = some (Wc ch) := by
 have i0 := AB ch 0 [0, 2] 2 0 56 1 rfl
 have i2 := AB ch 2 [0, 2] 2 1 56 1 rfl
 unfold SB Wc
 unfold Wv
 cases h0 : Ll (Fh [ch]) 0 56 1 with
 | some k =>
  rw [h0] at i0
  have hs : Hf ch [0, 2] 2 0 = some (.inr (.inr (((k : Int), 0, ()), ()))) := by
   unfold Hf
   show jz (Qe ((ch, 0, ((1 : Nat) : Int), [0, 2], 2, 0, ()), ())) _ = _
   rw [i0]; rfl
  show jz (Za _ ((ch, [0, 2], 2, 0, ()), ())) _ = _
  rw [Hc hs]; rfl
 | none =>
  rw [h0] at i0
  have hs : Hf ch [0, 2] 2 0 = some (.inl ((ch, [0, 2], 2, 1, ()), ())) := by
   unfold Hf
   show jz (Qe ((ch, 0, ((1 : Nat) : Int), [0, 2], 2, 0, ()), ())) _ = _
   rw [i0]; rfl
  show jz (Za _ ((ch, [0, 2], 2, 0, ()), ())) _ = _
  rw [Hc hs]
  cases h2 : Ll (Fh [ch]) 2 56 1 with
  | some k =>
   rw [h2] at i2
   have hs2 : Hf ch [0, 2] 2 1 = some (.inr (.inr (((k : Int), 2, ()), ()))) := by
    unfold Hf
    show jz (Qe ((ch, 2, ((1 : Nat) : Int), [0, 2], 2, 1, ()), ())) _ = _
    rw [i2]; rfl
   show jz (Za _ ((ch, [0, 2], 2, 1, ()), ())) _ = _
   rw [Hc hs2]; rfl
  | none =>
   rw [h2] at i2
   have hs2 : Hf ch [0, 2] 2 1 = some (.inl ((ch, [0, 2], 2, 2, ()), ())) := by
    unfold Hf
    show jz (Qe ((ch, 2, ((1 : Nat) : Int), [0, 2], 2, 1, ()), ())) _ = _
    rw [i2]; rfl
   have hs4 : Hf ch [0, 2] 2 2 = some (.inr (.inl ((), ()))) := by
    unfold Hf
    rfl
   show jz (Za _ ((ch, [0, 2], 2, 1, ()), ())) _ = _
   rw [Hc hs2]
   show jz (Za _ ((ch, [0, 2], 2, 2, ()), ())) _ = _
   rw [Hc hs4]; rfl
theorem SM {s : List UInt8} {m : Int} : ∀ {n c k : Nat}, Ll s m n c = some k → c ≤ k ∧ k < c + n
 | 0, _, _, h => by simp [Ll] at h
 | n + 1, c, k, h => by
  simp only [Ll] at h
  cases hb : (Ck (c : Int) m == s) with
  | true => rw [hb] at h; simp at h; omega
  | false =>
   rw [hb] at h
   have := SM (n := n) (c := c + 1) h
   omega
theorem L9 (ch : Int) : 0 ≤ (Wc ch).1 ∧ (Wc ch).1 ≤ 56 := by
 unfold Wc
 cases h0 : Ll (Fh [ch]) 0 56 1 with
 | some k => have := SM h0; exact ⟨by show (0 : Int) ≤ (k : Int); omega, by show (k : Int) ≤ 56; omega⟩
 | none =>
  cases h2 : Ll (Fh [ch]) 2 56 1 with
  | some k => have := SM h2; exact ⟨by show (0 : Int) ≤ (k : Int); omega, by show (k : Int) ≤ 56; omega⟩
  | none => exact ⟨by decide, by decide⟩
noncomputable def Hv (s : Int) (x : Ia) : Bool := decide (0 ≤ x.1 ∧ x.1 ≤ 31) && (!(Gn s x.1 == 1) && (Jc x.2.1 && (!(x.2.1.1 == 1) && (!(x.2.1.1 == 6) && !(x.2.1.1 == 7)))))
noncomputable def Qs (s : Int) (x : Ia) : Int ⊕ Unit := cond (Hv s x) (.inl (Fd .i64 s (De .i64 1 x.1))) (.inr ())
noncomputable def TT (l : List Ia) : Int ⊕ Unit := Oc (fun _ s x => Qs s x) 0 0 l
noncomputable def Md (l : List Ia) : Bool := Lw (TT l)
theorem Av (l : List Ia) (hn : l.length ≤ Da) : Aj l = some (Md l, ()) := by
 have h20 : Da = 1048576 := rfl
 have hl := Tf (step := fun x => Ss x.1.1 x.1.2.1 x.1.2.2.1 x.1.2.2.2.1) l (fun _ s x => Qs s x) (fun s i => ((s, l, ((ja l : Nat) : Int), i, ()), ()))
  (fun _ => .inl ((), ())) (fun _ => .inr ((false, ()), ())) (fun _ _ => True) (by
   intro k hk s _
   refine ⟨?_, fun _ _ => trivial⟩
   simp only [Ss]
   rw [Ba (show (k : Int) < (ja l : Int) by omega), Qb hk]
   simp only [cond_true, jb]
   generalize l[k] = x
   simp only [Qs, Hv, Aq, jb]
   by_cases h1 : 0 ≤ x.1
   ·rw [Ca (show ¬ x.1 < 0 by omega), CA s h1]
    by_cases h2 : x.1 ≤ 31
    ·rw [Ca (show ¬ x.1 > 31 by omega), Ba (show 0 ≤ x.1 ∧ x.1 ≤ 31 from ⟨h1, h2⟩), Ba h1]
     simp only [jb, cond_false]
     cases Gn s x.1 == 1 <;> cases Jc x.2.1 <;> cases x.2.1.1 == 1 <;> cases x.2.1.1 == 6 <;> cases x.2.1.1 == 7 <;> rfl
    ·rw [Ba (show x.1 > 31 by omega), Ca (show ¬ (0 ≤ x.1 ∧ x.1 ≤ 31) by omega)]; rfl
   ·rw [Ba (show x.1 < 0 by omega), Ca (show ¬ (0 ≤ x.1 ∧ x.1 ≤ 31) by omega)]; rfl)
  (by
   intro s _
   simp only [Ss]
   rw [Ca (by omega)]; rfl) (by omega) 0 trivial
 unfold Aj Au
 erw [hl]
 show jz (some _) _ = _
 simp only [jb, Md, TT]
 cases Oc (fun x s x => Qs s x) 0 0 l <;> rfl
theorem Lv (l : List Ia) (hn : l.length ≤ Da) : Pn l = some (Md l, ()) := by
 have h20 : Da = 1048576 := rfl
 have hl := Tf (step := fun x => Ft x.1.1 x.1.2.1 x.1.2.2.1) l (fun _ s x => Qs s x) (fun s i => ((l, s, i, ()), ()))
  (fun _ => .inl ((), ())) (fun _ => .inr ((false, ()), ())) (fun _ _ => True) (by
   intro k hk s _
   refine ⟨?_, fun _ _ => trivial⟩
   simp only [Ft]
   rw [Ba (show (k : Int) < (ja l : Int) by omega), Qb hk]
   simp only [cond_true, jb]
   generalize l[k] = x
   simp only [Qs, Hv, Oq, Io, Cc, jb, Je]
   by_cases h1 : 0 ≤ x.1 ∧ x.1 ≤ 31
   ·rw [Ba h1, Ba h1.1]
    simp only [Gn]
    cases Pf .i64 (Xv .i64 s x.1) 1 == 1 <;> cases Jc x.2.1 <;> cases x.2.1.1 == 1 <;> cases x.2.1.1 == 6 <;> cases x.2.1.1 == 7 <;> rfl
   ·rw [Ca h1]; rfl)
  (by
   intro s _
   simp only [Ft]
   rw [Ca (by omega)]; rfl) (by omega) 0 trivial
 unfold Pn Nu
 erw [hl]
 show jz (some _) _ = _
 simp only [jb, Md, TT]
 cases Oc (fun x s x => Qs s x) 0 0 l <;> rfl
structure Yq (x : Ia) : Prop where
 lo : 0 ≤ x.1
 hi : x.1 ≤ 31
 act : Jc x.2.1 = true
 n1 : x.2.1.1 ≠ 1
 n6 : x.2.1.1 ≠ 6
 n7 : x.2.1.1 ≠ 7
theorem T6 {s : Int} {x : Ia} (h : Hv s x = true) : Yq x ∧ Gn s x.1 ≠ 1 := by
 simp only [Hv, jd, decide_eq_true_eq, Bool.not_eq_true', beq_eq_false_iff_ne] at h
 exact ⟨⟨h.1.1, h.1.2, h.2.2.1, h.2.2.2.1, h.2.2.2.2.1, h.2.2.2.2.2⟩, h.2.1⟩
theorem WU : ∀ {l : List Ia} {k : Nat} {s : Int}, Lw (Oc (fun _ s x => Qs s x) k s l) = true → ∀ x ∈ l, Yq x
 | [], _, _, _, x, hx => by simp at hx
 | y :: l, k, s, h, x, hx => by
  simp only [Oc, Qs] at h
  cases hc : Hv s y with
  | false => rw [hc] at h; simp [Lw] at h
  | true =>
   rw [hc] at h
   simp only [cond_true] at h
   rcases jp.1 hx with rfl | hx
   ·exact (T6 hc).1
   ·exact WU h x hx
theorem Vp {l : List Ia} (h : Md l = true) : ∀ x ∈ l, Yq x := WU h
def Dt (l : List Ia) : Int := Tc (fun _ s (x : Ia) => Fd .i64 s (De .i64 1 x.1)) 0 0 l
theorem QC (l : List Ia) (hn : l.length ≤ Da) (hx : ∀ x ∈ l, Yq x) : Yl l = some (Dt l, ()) := by
 have h20 : Da = 1048576 := rfl
 have hl := (Qd (step := fun x => Zn x.1.1 x.1.2.1 x.1.2.2.1 x.1.2.2.2.1) l (fun _ s (x : Ia) => Fd .i64 s (De .i64 1 x.1)) (fun s i => ((s, l, ((ja l : Nat) : Int), i, ()), ()))
  (fun s => .inl ((s, ()), ())) (fun _ _ => True) (by
   intro k hk s _
   refine ⟨?_, trivial⟩
   simp only [Zn]
   rw [Ba (show (k : Int) < (ja l : Int) by omega), Qb hk]
   simp only [cond_true, jb]
   rw [Ba (hx _ (qp hk)).lo]; rfl)
  (by
   intro s _
   simp only [Zn]
   rw [Ca (by omega)]; rfl) (by omega) 0 trivial).1
 unfold Yl Iq
 erw [hl]
 rfl
theorem QO {α β : Type} (p : β → Bool) (f : α → β) : ∀ (xs : List α) (k : Nat), Dc p k (xs.map f) = Dc (fun x => p (f x)) k xs
 | [], _ => rfl
 | x :: xs, k => by simp only [List.map_cons, Dc, QO p f xs]
theorem Up {α : Type} (p : α → Bool) : ∀ (xs : List α) (k : Nat), Dc p k xs = -1 ∨ ∃ j : Nat, j < xs.length ∧ Dc p k xs = ((k + j : Nat) : Int)
 | [], _ => .inl rfl
 | x :: xs, k => by
  simp only [Dc]
  cases p x with
  | true => exact .inr ⟨0, by simp, by simp⟩
  | false =>
   rcases Up p xs (k + 1) with h | ⟨j, h1, h2⟩
   ·exact .inl h
   ·exact .inr ⟨j + 1, by simp; omega, by simp only [cond_false]; rw [h2]; omega⟩
theorem LI {α : Type} (p : α → Bool) : ∀ (xs : List α) (k : Nat), (Oc (fun k (_ : Unit) x => cond (p x) (.inr (k : Int)) (.inl ())) k () xs : Unit ⊕ Int) = if Dc p k xs = -1 then .inl () else .inr (Dc p k xs)
 | [], _ => rfl
 | x :: xs, k => by
  rcases Bool.eq_false_or_eq_true (p x) with hp | hp
  ·simp only [Oc, Dc, hp, cond_true]; rw [if_neg (by omega)]
  ·simp only [Oc, Dc, hp, cond_false]; exact LI p xs (k + 1)
theorem EA {X R α : Type} {step : X → Option (X ⊕ R)} (xs : List α) (p : α → Bool) (I : Int → X) (no : R) (yes : Int → R)
 (h : ∀ k (hk : k < xs.length), step (I (k : Int)) = some (cond (p xs[k]) (.inr (yes (k : Int))) (.inl (I (j4 .i64 ((k : Int) + 1))))))
 (he : step (I (xs.length : Int)) = some (.inr no)) (hn : xs.length < 9223372036854775807) :
 Za step (I 0) = some (if Dc p 0 xs = -1 then no else yes (Dc p 0 xs)) := by
 have := Tf (step := step) xs (fun k (_ : Unit) x => cond (p x) (.inr (k : Int)) (.inl ())) (fun _ i => I i) (fun _ => no) yes (fun _ _ => True) (fun k hk s _ => by
  refine ⟨?_, fun _ _ => trivial⟩
  rw [h k hk]
  cases p xs[k] <;> rfl) (fun _ _ => he) hn () trivial
 rw [this, LI]
 by_cases hc : Dc p 0 xs = -1
 ·rw [if_pos hc, if_pos hc]
 ·rw [if_neg hc, if_neg hc]
def Qc (h : Ia) : Hb := (h.2.1.2.1, h.2.1.2.2.1, ())
def Wg (c m : Int) (h : Ia) : Bool := (h.2.1.2.1 == c) && (h.2.1.2.2.1 == m)
theorem EF (l : List Hb) (c : Hb) (hn : l.length ≤ Da) : Kw l c = some (Dc (fun x => Ns Af x c) 0 l, ()) := by
 have h20 : Da = 1048576 := rfl
 have hl := EA (step := fun x => At x.1.1 x.1.2.1 x.1.2.2.1 x.1.2.2.2.1 x.2.1) l (fun x => Ns Af x c) (fun i => (((), l, ((ja l : Nat) : Int), i, ()), (c, ())))
  (.inl ((), ())) (fun i => .inr ((i, ()), ())) (by
   intro k hk
   simp only [At]
   rw [Ba (show (k : Int) < (ja l : Int) by omega), Qb hk]
   simp only [cond_true, jb]
   cases Ns Af l[k] c <;> rfl) (by
   simp only [At]
   rw [Ca (by omega)]; rfl) (by omega)
 unfold Kw Hu
 erw [hl]
 simp only [jb]
 by_cases hc : Dc (fun x => Ns Af x c) 0 l = -1
 ·rw [if_pos hc, hc]; rfl
 ·rw [if_neg hc]; rfl
theorem Qz (l : List Ia) (x : Vb) (hn : l.length ≤ Da) : Pk l x = some (Dc (Wg x.2.1 x.2.2.1) 0 l, ()) := by
 have h20 : Da = 1048576 := rfl
 have hl := EA (step := fun y => Mt y.1.1 y.1.2.1 y.1.2.2.1 y.2.1) l (Wg x.2.1 x.2.2.1) (fun i => ((l, (), i, ()), (x, ())))
  (.inl ((), ())) (fun i => .inr ((i, ()), ())) (by
   intro k hk
   simp only [Mt]
   rw [Ba (show (k : Int) < (ja l : Int) by omega), Qb hk]
   simp only [cond_true, jb, Wg]
   cases l[k].2.1.2.1 == x.2.1 <;> cases l[k].2.1.2.2.1 == x.2.2.1 <;> rfl) (by
   simp only [Mt]
   rw [Ca (by omega)]; rfl) (by omega)
 unfold Pk Tu
 erw [hl]
 simp only [jb]
 by_cases hc : Dc (Wg x.2.1 x.2.2.1) 0 l = -1
 ·rw [if_pos hc, hc]; rfl
 ·rw [if_neg hc]; rfl
theorem LP (L : List Ia) (c m : Int) : Dc (fun x => Ns Af x (c, m, ())) 0 (L.map Qc) = Dc (Wg c m) 0 L := by
 rw [QO]
 congr 1
 funext h
 simp only [Qc, Ns, Wg, Bool.and_true]
def Dg {α : Type} (l : List α) (r : Nat) : List α := jf (Kb l 0 r) (Kb l (r + 1) l.length)
theorem VL {α : Type} {l : List α} {r : Nat} (h : r < l.length) : (Dg l r).length = l.length - 1 := by
 simp [Dg, Kb]; omega
theorem XL {α β : Type} (f : α → β) (l : List α) (r : Nat) : Dg (l.map f) r = (Dg l r).map f := by
 simp [Dg, Kb, List.map_take, List.map_drop]
 rw [List.take_of_length_le (by simp)]
theorem FI {α : Type} {l : List α} {r : Nat} (h : r < l.length) : Jd (ja l) 0 (r : Int) = true ∧ Jd (ja l) ((r + 1 : Nat) : Int) ((ja l : Nat) : Int) = true := by
 simp only [Jd, jd, decide_eq_true_eq]
 omega
theorem Dw (l : List Ia) {r : Nat} (h : r < l.length) (hn : l.length ≤ Da) : Ve l (r : Int) = some (Dg l r, ()) := by
 have h20 : Da = 1048576 := rfl
 have hc := FI h
 unfold Ve
 rw [Df (by omega), hc.1, hc.2]
 have e1 : jx (ja ([] : List Ia) + ja (Kb l (jy 0) (jy (r : Int)))) Ab = true := ji (by simp [Kb]; rw [Td]; omega)
 have e2 : jx (ja (jf ([] : List Ia) (Kb l (jy 0) (jy (r : Int)))) + ja (Kb l (jy ((r + 1 : Nat) : Int)) (jy ((ja l : Nat) : Int)))) Ab = true :=
  ji (by simp [Kb]; rw [Td]; omega)
 rw [e1, e2]
 simp only [cond_true]
 rfl
noncomputable def Yr (x : Vb) (r : Int) : Bool := Jc (2, x.2.1, x.2.2.1, 0, ()) && (((x.1 == 0) && !decide (r ≥ 0)) || (((x.1 == 1) && !decide (r ≥ 0)) || ((x.1 == 2) && decide (r ≥ 0))))
def Ng (x : Vb) : Ia := (0, (2, x.2.1, x.2.2.1, 0, ()), ())
def BB (x : Vb) (L : List Ia) (r : Int) : List Ia := cond (x.1 == 1) (jf L [Ng x]) (cond (x.1 == 2) (Dg L r.toNat) L)
noncomputable def Ap (L : List Ia) (x : Vb) : List Ia ⊕ Unit := cond (Yr x (Dc (Wg x.2.1 x.2.2.1) 0 L)) (.inl (BB x L (Dc (Wg x.2.1 x.2.2.1) 0 L))) (.inr ())
theorem RQ {L L' : List Ia} {x : Vb} (h : Ap L x = .inl L') : L'.length ≤ L.length + 1 := by
 unfold Ap at h
 cases hc : Yr x (Dc (Wg x.2.1 x.2.2.1) 0 L) with
 | false => rw [hc] at h; simp at h
 | true =>
  rw [hc] at h
  simp only [cond_true, Sum.inl.injEq] at h
  rw [← h]
  unfold BB
  cases x.1 == 1 with
  | true => simp
  | false =>
   cases x.1 == 2 with
   | true => simp [Dg, Kb]; omega
   | false => simp
theorem WS (l : List Vb) (k : Nat) (hk : k < l.length) (L : List Ia) (hL : L.length ≤ k) (hn : l.length ≤ Da) :
 Hl l L (k : Int) = some (match Ap L l[k] with | .inl L' => .inl ((l, L', j4 .i64 ((k : Int) + 1), ()), ()) | .inr _ => .inr (.inr ((false, ()), ()))) := by
 have h20 : Da = 1048576 := rfl
 simp only [Hl]
 rw [Ba (show (k : Int) < (ja l : Int) by omega), Qb hk]
 simp only [cond_true, jb]
 rw [Qz L l[k] (by omega)]
 simp only [jb, Cc, Bm, Oq, Ap, Yr, BB, Ng]
 generalize hx : l[k] = x
 generalize hr : Dc (Wg x.2.1 x.2.2.1) 0 L = r
 have hble : jx (ja L + ja [Ng x]) Ab = true := ji (by simp [Td]; omega)
 have hble' : jx (ja L + ja ([((0 : Int), ((2 : Int), x.2.1, x.2.2.1, (0 : Int), ()), ())] : List Ia)) Ab = true := hble
 have hw : decide (r ≥ 0) = true → Ve L r = some (Dg L r.toNat, ()) := by
  intro h
  rcases Up (Wg x.2.1 x.2.2.1) L 0 with h1 | ⟨j, h1, h2⟩
  ·rw [hr] at h1; rw [h1] at h; simp at h
  ·rw [hr] at h2
   have : r = (j : Int) := by omega
   rw [this, Dw L h1 (by omega)]
   simp
 by_cases k0 : x.1 = 0
 ·simp only [k0]
  cases Jc ((2 : Int), x.2.1, x.2.2.1, (0 : Int), ()) <;> cases decide (r ≥ 0) <;> rfl
 by_cases k1 : x.1 = 1
 ·simp only [k1]
  rw [hble']
  cases Jc ((2 : Int), x.2.1, x.2.2.1, (0 : Int), ()) <;> cases decide (r ≥ 0) <;> rfl
 by_cases k2 : x.1 = 2
 ·simp only [k2]
  cases hd : decide (r ≥ 0) with
  | false => cases Jc ((2 : Int), x.2.1, x.2.2.1, (0 : Int), ()) <;> rfl
  | true =>
   rw [hw hd]
   cases Jc ((2 : Int), x.2.1, x.2.2.1, (0 : Int), ()) <;> rfl
 ·have e0 : (x.1 == 0) = false := by simpa using k0
  have e1 : (x.1 == 1) = false := by simpa using k1
  have e2 : (x.1 == 2) = false := by simpa using k2
  rw [Ca (show ¬ (0 ≤ x.1 ∧ x.1 ≤ 2) by omega), e0, e1, e2]
  cases Jc ((2 : Int), x.2.1, x.2.2.1, (0 : Int), ()) <;> rfl
theorem OS (l : List Vb) (k : Nat) (hk : k < l.length) (L : List Ia) (hL : L.length ≤ k) (hn : l.length ≤ Da) :
 Zk (L.map Qc) l ((ja l : Nat) : Int) (k : Int) =
  some (match Ap L l[k] with | .inl L' => .inl ((L'.map Qc, l, ((ja l : Nat) : Int), j4 .i64 ((k : Int) + 1), ()), ()) | .inr _ => .inr (.inr ((false, ()), ()))) := by
 have h20 : Da = 1048576 := rfl
 simp only [Zk]
 rw [Ba (show (k : Int) < (ja l : Int) by omega), Qb hk]
 simp only [cond_true, jb]
 rw [EF (L.map Qc) _ (by simp; omega), LP]
 simp only [jb, Aq, Ap, Yr, BB, Ng]
 generalize hx : l[k] = x
 generalize hr : Dc (Wg x.2.1 x.2.2.1) 0 L = r
 have hble : jx (ja (L.map Qc) + ja ([(x.2.1, x.2.2.1, ())] : List Hb)) Ab = true := ji (by simp [Td]; omega)
 have happ : jf (L.map Qc) ([(x.2.1, x.2.2.1, ())] : List Hb) = (jf L [((0 : Int), ((2 : Int), x.2.1, x.2.2.1, (0 : Int), ()), ())]).map Qc := by
  show _ ++ _ = List.map Qc (_ ++ _)
  rw [List.map_append]; rfl
 by_cases k0 : x.1 = 0
 ·simp only [k0]
  cases Jc ((2 : Int), x.2.1, x.2.2.1, (0 : Int), ()) <;> cases decide (r ≥ 0) <;> rfl
 by_cases k1 : x.1 = 1
 ·simp only [k1]
  rw [hble, happ]
  cases Jc ((2 : Int), x.2.1, x.2.2.1, (0 : Int), ()) <;> cases decide (r ≥ 0) <;> rfl
 by_cases k2 : x.1 = 2
 ·simp only [k2]
  rcases Up (Wg x.2.1 x.2.2.1) L 0 with h1 | ⟨j, h1, h2⟩
  ·rw [hr] at h1
   rw [h1]
   cases Jc ((2 : Int), x.2.1, x.2.2.1, (0 : Int), ()) <;> rfl
  ·rw [hr] at h2
   have hrj : r = (j : Int) := by omega
   rw [hrj]
   have hj : j < (L.map Qc).length := by simpa using h1
   have hc := FI hj
   rw [Df (k := j) (by omega), hc.1, hc.2, Ca (show ¬ (j : Int) < 0 by omega), Ba (show (j : Int) ≥ 0 by omega)]
   have e1 : jx (ja (Kb (L.map Qc) (jy 0) (jy (j : Int))) + ja (Kb (L.map Qc) (jy ((j + 1 : Nat) : Int)) (jy ((ja (L.map Qc) : Nat) : Int)))) Ab = true :=
    ji (by simp [Kb]; rw [Td]; omega)
   have e2 : jf (Kb (L.map Qc) (jy 0) (jy (j : Int))) (Kb (L.map Qc) (jy ((j + 1 : Nat) : Int)) (jy ((ja (L.map Qc) : Nat) : Int))) = (Dg L (jy (j : Int))).map Qc := by
    rw [← XL]
    simp [Dg]
   rw [e1, e2]
   cases Jc ((2 : Int), x.2.1, x.2.2.1, (0 : Int), ()) <;> rfl
 ·have e0 : (x.1 == 0) = false := by simpa using k0
  have e1 : (x.1 == 1) = false := by simpa using k1
  have e2 : (x.1 == 2) = false := by simpa using k2
  rw [e0, e1, e2]
  cases Jc ((2 : Int), x.2.1, x.2.2.1, (0 : Int), ()) <;> rfl
noncomputable def OV (l : List Vb) : List Ia ⊕ Unit := Oc (fun _ L x => Ap L x) 0 [] l
noncomputable def He (l : List Vb) : Bool := decide (l.length ≤ 8) && (match OV l with | .inl L => ((L.length : Int) == 0) | .inr _ => false)
theorem IE (l : List Vb) (hn : l.length ≤ Da) : Ou l = some (He l, ()) := by
 have h20 : Da = 1048576 := rfl
 have hl := Tf (step := fun x => Hl x.1.1 x.1.2.1 x.1.2.2.1) l (fun _ L x => Ap L x) (fun L i => ((l, L, i, ()), ()))
  (fun L => .inl ((l, L, ()), ())) (fun _ => .inr ((false, ()), ())) (fun k L => L.length ≤ k) (by
   intro k hk L hL
   refine ⟨?_, fun L' h => by have := RQ h; omega⟩
   rw [WS l k hk L hL hn]
   cases Ap L l[k] <;> rfl) (by
   intro s _
   simp only [Hl]
   rw [Ca (by omega)]; rfl) (by omega) [] (by simp)
 unfold Ou Es
 erw [hl]
 simp only [jb, He, OV]
 cases Oc (fun x L x => Ap L x) 0 [] l with
 | inl L =>
  simp only [qi]
  by_cases h : l.length ≤ 8
  ·rw [Ba (show ((ja l : Nat) : Int) ≤ 8 by omega), Ba h]; rfl
  ·rw [Ca (show ¬ ((ja l : Nat) : Int) ≤ 8 by omega), Ca h]; rfl
 | inr u => cases decide (l.length ≤ 8) <;> rfl
theorem RD (l : List Vb) (hn : l.length ≤ Da) : Bu l = some (He l, ()) := by
 have h20 : Da = 1048576 := rfl
 unfold Bu He
 by_cases h : l.length ≤ 8
 ·rw [Ca (show ¬ ((ja l : Nat) : Int) > 8 by omega), Ba h]
  have hl := Tf (step := fun x => Zk x.1.1 x.1.2.1 x.1.2.2.1 x.1.2.2.2.1) l (fun _ L x => Ap L x) (fun L i => ((L.map Qc, l, ((ja l : Nat) : Int), i, ()), ()))
   (fun L => .inl ((L.map Qc, ()), ())) (fun _ => .inr ((false, ()), ())) (fun k L => L.length ≤ k) (by
    intro k hk L hL
    refine ⟨?_, fun L' h => by have := RQ h; omega⟩
    rw [OS l k hk L hL hn]
    cases Ap L l[k] <;> rfl) (by
    intro s _
    simp only [Zk]
    rw [Ca (by omega)]; rfl) (by omega) [] (by simp)
  unfold Bs
  erw [hl]
  simp only [OV]
  cases Oc (fun x L x => Ap L x) 0 [] l with
  | inl L =>
   show some _ = some _
   simp only [List.length_map]
   rfl
  | inr u => rfl
 ·rw [Ba (show ((ja l : Nat) : Int) > 8 by omega), Ca h]; rfl
noncomputable def Qi (keys : Int) (nl : Nat) (x : Ia) : Bool := !decide (x.1 ≥ keys) && !((x.2.1.1 != 9) && decide (x.2.1.2.2.2.1 ≥ (nl : Int)))
noncomputable def Uf (e : Ua) : Bool :=
 Ac e.1 && (decide (e.2.1.length ≤ 4) && (Md e.2.2.2.1 && (Pd (fun _ m => He m) 0 e.2.1 && (Pd (fun _ x => Qi e.1.1 e.1.2.1.length x) 0 e.2.2.2.1 &&
  (decide (0 ≤ e.2.2.1 ∧ e.2.2.1 < ((2 ^ e.1.2.1.length : Nat) : Int)) && ((Int.tmod e.2.2.1 2 == 0) && decide (0 ≤ e.2.2.2.2.1 ∧ e.2.2.2.2.1 ≤ 15)))))))
theorem Yk (e : Ua) : Wa Mb e = Wa Bb e.1 + (Wa (.sl (.sl Ec)) e.2.1 + Wa (.sl Rj) e.2.2.2.1) := by
 simp only [Wa, Nat.add_zero, js]
theorem Vk (l : List Ia) : Wa (.sl Rj) l = l.length := Wu (e := Rj) rfl l
theorem GR (l : List Vb) : Wa (.sl Ec) l = l.length := Wu (e := Ec) rfl l
theorem NZ {e : Ty} (l : List (T e)) : ja l ≤ Wa (.sl e) l := Nat.le_add_right _ _
theorem E7 {e : Ty} {l : List (T e)} {k : Nat} (hk : k < ja l) : Wa e (List.get l ⟨k, hk⟩) ≤ Wa (.sl e) l :=
 qa (Cn (f := Wa e) hk) (Nat.le_add_left _ _)
theorem ZO (e : Ua) (hz : Wa Mb e ≤ Da) : Dk (((), e.2.1, ((ja e.2.1 : Nat) : Int), (0 : Int), ()), (e, ())) =
 some (cond (Pd (fun _ m => He m) 0 e.2.1) (.inl (((), ()), (e, ()))) (.inr ((false, ()), ()))) := by
 have h20 : Da = 1048576 := rfl
 rw [Yk] at hz
 have hl := NZ (e := .sl Ec) e.2.1
 unfold Dk
 refine Xf (step := fun x => Vn x.1.1 x.1.2.1 x.1.2.2.1 x.1.2.2.2.1 x.2.1) e.2.1 (fun _ m => He m) (fun i => (((), e.2.1, ((ja e.2.1 : Nat) : Int), i, ()), (e, ()))) _ _ ?_ ?_ (by omega)
 ·intro k hk
  simp only [Vn]
  have hk2 : (k : Int) < ((ja e.2.1 : Nat) : Int) := by omega
  rw [Ba hk2, Qb hk]
  simp only [cond_true, jb]
  have he := E7 (e := .sl Ec) hk
  rw [GR] at he
  rw [RD e.2.1[k] (by have : (List.get e.2.1 ⟨k, hk⟩) = e.2.1[k] := rfl; rw [this] at he; omega)]
  simp only [jb]
  cases He e.2.1[k] <;> rfl
 ·simp only [Vn]
  rw [Ca (by omega)]; rfl
theorem SP (e : Ua) (hz : Wa Mb e ≤ Da) : Ik (((), (0 : Int), ()), (e, ())) =
 some (cond (Pd (fun _ m => He m) 0 e.2.1) (.inl (((), ()), (e, ()))) (.inr ((false, ()), ()))) := by
 have h20 : Da = 1048576 := rfl
 rw [Yk] at hz
 have hl := NZ (e := .sl Ec) e.2.1
 unfold Ik
 refine Xf (step := fun x => Eo x.1.1 x.1.2.1 x.2.1) e.2.1 (fun _ m => He m) (fun i => (((), i, ()), (e, ()))) _ _ ?_ ?_ (by omega)
 ·intro k hk
  simp only [Eo]
  have hk2 : (k : Int) < ((ja e.2.1 : Nat) : Int) := by omega
  rw [Ba hk2, Qb hk]
  simp only [cond_true, jb]
  have he := E7 (e := .sl Ec) hk
  rw [GR] at he
  rw [IE e.2.1[k] (by have : (List.get e.2.1 ⟨k, hk⟩) = e.2.1[k] := rfl; rw [this] at he; omega)]
  simp only [jb]
  cases He e.2.1[k] <;> rfl
 ·simp only [Eo]
  rw [Ca (by omega)]; rfl
theorem NS (e : Ua) (hz : Wa Mb e ≤ Da) : Lj (((), ((ja e.1.2.1 : Nat) : Int), e.2.2.2.1, ((ja e.2.2.2.1 : Nat) : Int), (0 : Int), ()), (e, ())) =
 some (cond (Pd (fun _ x => Qi e.1.1 e.1.2.1.length x) 0 e.2.2.2.1) (.inl (((), ((ja e.1.2.1 : Nat) : Int), ()), (e, ()))) (.inr ((false, ()), ()))) := by
 have h20 : Da = 1048576 := rfl
 rw [Yk, Vk] at hz
 unfold Lj
 refine Xf (step := fun x => Em x.1.1 x.1.2.1 x.1.2.2.1 x.1.2.2.2.1 x.1.2.2.2.2.1 x.2.1) e.2.2.2.1 (fun _ x => Qi e.1.1 e.1.2.1.length x)
  (fun i => (((), ((ja e.1.2.1 : Nat) : Int), e.2.2.2.1, ((ja e.2.2.2.1 : Nat) : Int), i, ()), (e, ()))) _ _ ?_ ?_ (by omega)
 ·intro k hk
  simp only [Em]
  have hk2 : (k : Int) < ((ja e.2.2.2.1 : Nat) : Int) := by omega
  rw [Ba hk2, Qb hk]
  simp only [cond_true, jb, Qi]
  cases decide (e.2.2.2.1[k].1 ≥ e.1.1) <;> cases (e.2.2.2.1[k].2.1.1 != 9) <;> cases decide (e.2.2.2.1[k].2.1.2.2.2.1 ≥ ((ja e.1.2.1 : Nat) : Int)) <;> rfl
 ·simp only [Em]
  rw [Ca (by omega)]; rfl
theorem VS (e : Ua) (hz : Wa Mb e ≤ Da) : Jk (((), (0 : Int), ()), (e, ())) =
 some (cond (Pd (fun _ x => Qi e.1.1 e.1.2.1.length x) 0 e.2.2.2.1) (.inl (((), ()), (e, ()))) (.inr ((false, ()), ()))) := by
 have h20 : Da = 1048576 := rfl
 rw [Yk, Vk] at hz
 unfold Jk
 refine Xf (step := fun x => Fo x.1.1 x.1.2.1 x.2.1) e.2.2.2.1 (fun _ x => Qi e.1.1 e.1.2.1.length x) (fun i => (((), i, ()), (e, ()))) _ _ ?_ ?_ (by omega)
 ·intro k hk
  simp only [Fo]
  have hk2 : (k : Int) < ((ja e.2.2.2.1 : Nat) : Int) := by omega
  rw [Ba hk2, Qb hk]
  simp only [cond_true, jb, Qi]
  cases decide (e.2.2.2.1[k].1 ≥ e.1.1) <;> cases (e.2.2.2.1[k].2.1.1 != 9) <;> cases decide (e.2.2.2.1[k].2.1.2.2.2.1 ≥ ((ja e.1.2.1 : Nat) : Int)) <;> rfl
 ·simp only [Fo]
  rw [Ca (by omega)]; rfl
theorem Jx (e : Ua) (hz : Wa Mb e ≤ Da) : Sj e = some (Uf e, ()) := by
 have h20 : Da = 1048576 := rfl
 have hz' := hz
 rw [Yk, Vk] at hz'
 unfold Sj Uf
 rw [Kx e.1 (by omega)]
 cases hk : Ac e.1 with
 | false => rfl
 | true =>
  simp only [jb, jg, cond_false, jk]
  by_cases h4 : e.2.1.length ≤ 4
  ·rw [Ca (show ¬ ((ja e.2.1 : Nat) : Int) > 4 by omega), Ba h4, Av _ (by omega)]
   simp only [jb, cond_false, jk]
   cases hh : Md e.2.2.2.1 with
   | false => rfl
   | true =>
    simp only [jg, cond_false, jk]
    rw [ZO e hz]
    have hl := (Wf hk).l2
    by_cases ho : 0 ≤ e.2.2.2.2.1 ∧ e.2.2.2.2.1 ≤ 15
    ·rw [Ca (show ¬ e.2.2.2.2.1 < 0 by omega), Ca (show ¬ e.2.2.2.2.1 > 15 by omega), Ba ho]
     simp only [cond_false, jb, Bool.and_true]
     cases Pd (fun _ m => He m) 0 e.2.1 with
     | false => rfl
     | true =>
      simp only [cond_true, qi, jk]
      rw [NS e hz]
      cases Pd (fun _ x => Qi e.1.1 e.1.2.1.length x) 0 e.2.2.2.1 with
      | false => rfl
      | true =>
       simp only [cond_true, jb, qi, jk]
       rw [NF (by omega), Ba (show (0 : Int) ≤ ((ja e.1.2.1 : Nat) : Int) by omega)]
       have e2 : ((2 : Int) == 0) = false := rfl
       rw [e2]
       simp only [cond_false, cond_true]
       by_cases hf : 0 ≤ e.2.2.1
       ·rw [Ba (show e.2.2.1 ≥ 0 from hf)]
        by_cases hf2 : e.2.2.1 < ((2 ^ e.1.2.1.length : Nat) : Int)
        ·rw [Ba hf2, Ba (show 0 ≤ e.2.2.1 ∧ e.2.2.1 < ((2 ^ e.1.2.1.length : Nat) : Int) from ⟨hf, hf2⟩)]
         cases Int.tmod e.2.2.1 2 == 0 <;> rfl
        ·rw [Ca hf2, Ca (show ¬ (0 ≤ e.2.2.1 ∧ e.2.2.1 < ((2 ^ e.1.2.1.length : Nat) : Int)) from fun h => hf2 h.2)]
         cases Int.tmod e.2.2.1 2 == 0 <;> rfl
       ·rw [Ca (show ¬ e.2.2.1 ≥ 0 from hf), Ca (show ¬ (0 ≤ e.2.2.1 ∧ e.2.2.1 < ((2 ^ e.1.2.1.length : Nat) : Int)) from fun h => hf h.1)]
        rfl
    ·have hr : (Pd (fun _ m => He m) 0 e.2.1 && (Pd (fun _ x => Qi e.1.1 e.1.2.1.length x) 0 e.2.2.2.1 && (decide (0 ≤ e.2.2.1 ∧ e.2.2.1 < ((2 ^ e.1.2.1.length : Nat) : Int)) && ((Int.tmod e.2.2.1 2 == 0) && decide (0 ≤ e.2.2.2.2.1 ∧ e.2.2.2.2.1 ≤ 15))))) = false := by
      rw [Ca ho]; simp
     rw [hr]
     by_cases h1 : e.2.2.2.2.1 < 0
     ·rw [Ba h1]; rfl
     ·rw [Ca h1, Ba (show e.2.2.2.2.1 > 15 by omega)]; rfl
  ·rw [Ba (show ((ja e.2.1 : Nat) : Int) > 4 by omega), Ca h4]; rfl
theorem Pq (e : Ua) (hz : Wa Mb e ≤ Da) : Ci e = some (Uf e, ()) := by
 have h20 : Da = 1048576 := rfl
 have hz' := hz
 rw [Yk, Vk] at hz'
 unfold Ci Uf
 rw [Gl e.1 (by omega)]
 cases hk : Ac e.1 with
 | false => rfl
 | true =>
  simp only [jb, jg, cond_false, jk]
  by_cases h4 : e.2.1.length ≤ 4
  ·rw [Ca (show ¬ ((ja e.2.1 : Nat) : Int) > 4 by omega), Ba h4, Lv _ (by omega)]
   simp only [jb, cond_false, jk]
   cases hh : Md e.2.2.2.1 with
   | false => rfl
   | true =>
    simp only [jg, cond_false, jk]
    rw [SP e hz]
    have hl := (Wf hk).l2
    cases Pd (fun _ m => He m) 0 e.2.1 with
    | false => rfl
    | true =>
     simp only [cond_true, jb, qi, jk]
     rw [VS e hz]
     cases Pd (fun _ x => Qi e.1.1 e.1.2.1.length x) 0 e.2.2.2.1 with
     | false => rfl
     | true =>
      simp only [cond_true, jb, qi, jk, Cc]
      have hp : (2 ^ e.1.2.1.length : Nat) ≤ 16 := qk (n := 2) (by omega) hl
      rw [NF (by omega), Ba (show (0 : Int) ≤ ((ja e.1.2.1 : Nat) : Int) by omega)]
      generalize (2 ^ e.1.2.1.length : Nat) = P2 at hp ⊢
      rw [Uh (by omega) (by omega)]
      have e2 : ((2 : Int) == 0) = false := rfl
      rw [e2]
      simp only [cond_false, cond_true, jb]
      have e3 : decide (0 ≤ e.2.2.1 ∧ e.2.2.1 ≤ (P2 : Int) - 1) = decide (0 ≤ e.2.2.1 ∧ e.2.2.1 < (P2 : Int)) := by
       rw [decide_eq_decide]; omega
      rw [e3]
      cases decide (0 ≤ e.2.2.1 ∧ e.2.2.1 < (P2 : Int)) <;> cases Int.tmod e.2.2.1 2 == 0 <;> rfl
  ·rw [Ba (show ((ja e.2.1 : Nat) : Int) > 4 by omega), Ca h4]; rfl
def Rh (x : Ma) : Bool := decide (0 ≤ x.1 ∧ x.1 ≤ 1000000) && decide (0 ≤ x.2.1 ∧ x.2.1 ≤ 31)
theorem QD (x : Ma) : Zt x = some (Rh x, ()) := by
 unfold Zt Rh
 simp only [Xh, Yh]
 apply Bc
 simp only [Sc, decide_eq_true_eq, jq, and_false, or_false, jd]
 omega
theorem HE (x : Ma) : Mu x = some (Rh x, ()) := by
 unfold Mu Rh
 simp only [Cc, jb, Xh, Yh]
 apply Bc
 simp only [Sc, decide_eq_true_eq, jq, and_false, or_false, jd]
def Hy (s : Int × Int) (x : Ma) : Bool := Rh x && (!decide (s.1 > x.1) && !(x.2.2.1 == (Gn s.2 x.2.1 == 1)))
def Sv (s : Int × Int) (x : Ma) : (Int × Int) ⊕ Unit := cond (Hy s x) (.inl (x.1, Yv .i64 s.2 (De .i64 1 x.2.1))) (.inr ())
def H2 (l : List Ma) (d : Int) : (Int × Int) ⊕ Unit := Oc (fun _ s x => Sv s x) 0 (0, d) l
def Iz (l : List Ma) (d : Int) : Int × Bool := cond (decide (l.length ≤ 64)) (match H2 l d with | .inl s => (s.2, true) | .inr _ => (0, false)) (0, false)
theorem Sp {x : Ma} (h : Rh x = true) : 0 ≤ x.1 ∧ x.1 ≤ 1000000 ∧ 0 ≤ x.2.1 ∧ x.2.1 ≤ 31 := by
 simp only [Rh, jd, decide_eq_true_eq] at h
 omega
theorem NQ (l : List Ma) (d : Int) (hn : l.length ≤ Da) : DA l d = some ((Iz l d).1, (Iz l d).2, ()) := by
 have h20 : Da = 1048576 := rfl
 unfold DA Iz
 by_cases h64 : l.length ≤ 64
 ·rw [Ca (show ¬ ((ja l : Nat) : Int) > 64 by omega), Ba h64]
  have hl := Tf (step := fun x => Xs x.1.1 x.1.2.1 x.1.2.2.1 x.1.2.2.2.1 x.1.2.2.2.2.1) l (fun _ s x => Sv s x) (fun s i => ((l, s.2, l, ((ja l : Nat) : Int), i, ()), ()))
   (fun s => .inl ((s.2, ()), ())) (fun _ => .inr (((0 : Int), false, ()), ())) (fun k s => (k = 0 → s.1 = 0) ∧ ∀ hk : k - 1 < l.length, 0 < k → s.1 = l[k - 1].1) (by
    intro k hk s ⟨hs0, hs1⟩
    refine ⟨?_, ?_⟩
    ·simp only [Xs]
     rw [Ba (show (k : Int) < ((ja l : Nat) : Int) by omega), Qb hk]
     simp only [cond_true, jb, QD, Sv, Hy]
     generalize hx : l[k] = x
     cases hev : Rh x with
     | false => rfl
     | true =>
      have hkey := Sp hev
      simp only [jg, cond_false, jk]
      rw [CA s.2 hkey.2.2.1, Ba hkey.2.2.1]
      simp only [jb, cond_true]
      by_cases h0 : k = 0
      ·subst h0
       rw [Ca (show ¬ ((0 : Nat) : Int) > 0 by omega), Ca (show ¬ s.1 > x.1 by rw [hs0 rfl]; omega)]
       cases (x.2.2.1 == (Gn s.2 x.2.1 == 1)) <;> rfl
      ·rw [Ba (show (k : Int) > 0 by omega), Uh (by omega) (by omega), show (k : Int) - 1 = ((k - 1 : Nat) : Int) by omega, Qb (show k - 1 < l.length by omega)]
       rw [hs1 (by omega) (by omega)]
       simp only [jb, cond_true]
       cases decide (l[k - 1].1 > x.1) <;> cases (x.2.2.1 == (Gn s.2 x.2.1 == 1)) <;> rfl
    ·intro s' h
     unfold Sv at h
     cases hc : Hy s l[k] with
     | false => rw [hc] at h; simp at h
     | true =>
      rw [hc] at h
      simp only [cond_true, Sum.inl.injEq] at h
      refine ⟨by omega, fun _ _ => ?_⟩
      rw [← h]
      simp only [Nat.add_sub_cancel])
   (by
    intro s _
    simp only [Xs]
    rw [Ca (by omega)]; rfl) (by omega) (0, d) ⟨fun _ => rfl, fun _ h => absurd h (by omega)⟩
  unfold Eu
  erw [hl]
  simp only [cond_false, jb, H2, cond_true]
  cases Oc (fun x s x => Sv s x) 0 (0, d) l <;> rfl
 ·rw [Ba (show ((ja l : Nat) : Int) > 64 by omega), Ca h64]; rfl
def EP (keys : Int) (l : List Ma) : Bool := Pd (fun _ (x : Ma) => !decide (x.2.1 ≥ keys)) 0 l
def Wd (q : List Ma) (d keys : Int) : Bool := EP keys q && (Iz q d).2
theorem JB (q : List Ma) (d keys : Int) (hn : q.length ≤ Da) : Tk q d keys = some (Wd q d keys, ()) := by
 have h20 : Da = 1048576 := rfl
 have hl := Xf (step := fun x => Nm x.1.1 x.1.2.1 x.1.2.2.1 x.1.2.2.2.1 x.1.2.2.2.2.1 x.1.2.2.2.2.2.1) q (fun _ (x : Ma) => !decide (x.2.1 ≥ keys)) (fun i => ((q, d, keys, q, ((ja q : Nat) : Int), i, ()), ()))
  (.inl ((q, d, ()), ())) (.inr ((false, ()), ())) (by
   intro k hk
   simp only [Nm]
   rw [Ba (show (k : Int) < ((ja q : Nat) : Int) by omega), Qb hk]
   simp only [cond_true, jb]
   cases decide (q[k].2.1 ≥ keys) <;> rfl) (by
   simp only [Nm]
   rw [Ca (by omega)]; rfl) (by omega)
 unfold Tk Wo Wd EP
 erw [hl]
 simp only [jb]
 cases Pd (fun _ (x : Ma) => !decide (x.2.1 ≥ keys)) 0 q with
 | false => rfl
 | true => simp only [cond_true, qi, NQ q d hn, jb]; rfl
def MK (keys : Int) (s : Int × Int) (x : Ma) : (Int × Int) ⊕ Unit := cond (Hy s x && !decide (x.2.1 ≥ keys)) (.inl (x.1, Yv .i64 s.2 (De .i64 1 x.2.1))) (.inr ())
theorem JL (keys : Int) : ∀ (l : List Ma) (k : Nat) (s : Int × Int), Lw (Oc (fun _ s x => MK keys s x) k s l) = (Pd (fun _ (x : Ma) => !decide (x.2.1 ≥ keys)) k l && Lw (Oc (fun _ s x => Sv s x) k s l))
 | [], _, _ => rfl
 | x :: l, k, s => by
  simp only [Oc, Pd, MK, Sv]
  cases Hy s x with
  | false => simp [Lw]
  | true =>
   cases decide (x.2.1 ≥ keys) with
   | true => simp [Lw]
   | false => simp only [jk, j8, cond_true]; exact JL keys l (k + 1) _
theorem UA (q : List Ma) (d keys : Int) (hn : q.length ≤ Da) : Ym q d keys 0 = some (Wd q d keys, ()) := by
 have h20 : Da = 1048576 := rfl
 have hl := Tf (step := fun x => Pl x.1.1 x.1.2.1 x.1.2.2.1 x.1.2.2.2.1 x.1.2.2.2.2.1) q (fun _ s x => MK keys s x) (fun s i => ((q, s.2, keys, s.1, i, ()), ()))
  (fun s => .inl ((q, ()), ())) (fun _ => .inr ((false, ()), ())) (fun _ _ => True) (by
   intro k hk s _
   refine ⟨?_, fun _ _ => trivial⟩
   simp only [Pl]
   rw [Ba (show (k : Int) < ((ja q : Nat) : Int) by omega), Qb hk]
   simp only [cond_true, jb, HE, MK, Hy]
   generalize q[k] = x
   cases hev : Rh x with
   | false => rfl
   | true =>
    have hkey := Sp hev
    simp only [jg, cond_false, jk, Gn]
    rw [Ba hkey.2.2.1]
    simp only [gt_iff_lt]
    cases decide (x.2.1 ≥ keys) <;> cases decide (x.1 < s.1) <;> cases (x.2.2.1 == (Pf .i64 (Xv .i64 s.2 x.2.1) 1 == 1)) <;> rfl)
  (by
   intro s _
   simp only [Pl]
   rw [Ca (by omega)]; rfl) (by omega) (0, d) trivial
 unfold Ym Rn
 erw [hl]
 have hsp := JL keys q 0 (0, d)
 simp only [jb, Wd, EP, Iz, H2]
 by_cases h64 : q.length ≤ 64
 ·rw [Ba h64]
  cases h1 : Oc (fun _ s x => MK keys s x) 0 (0, d) q with
  | inl s =>
   rw [h1] at hsp
   simp only [Lw] at hsp
   cases h2 : Oc (fun _ s x => Sv s x) 0 (0, d) q with
   | inl s2 =>
    rw [h2] at hsp
    simp only [Lw, Bool.and_true] at hsp
    rw [← hsp]
    simp only [qi]
    rw [Ba (show ((ja q : Nat) : Int) ≤ 64 by omega)]; rfl
   | inr u => rw [h2] at hsp; simp [Lw] at hsp
  | inr u =>
   rw [h1] at hsp
   simp only [Lw] at hsp
   cases h2 : Oc (fun _ s x => Sv s x) 0 (0, d) q with
   | inl s2 =>
    rw [h2] at hsp
    simp only [Lw, Bool.and_true] at hsp
    rw [← hsp]; rfl
   | inr u => cases Pd (fun _ (x : Ma) => !decide (x.2.1 ≥ keys)) 0 q <;> rfl
 ·rw [Ca h64]
  cases h1 : Oc (fun _ s x => MK keys s x) 0 (0, d) q with
  | inl s => simp only [qi]; rw [Ca (show ¬ ((ja q : Nat) : Int) ≤ 64 by omega)]; cases Pd (fun _ (x : Ma) => !decide (x.2.1 ≥ keys)) 0 q <;> rfl
  | inr u => cases Pd (fun _ (x : Ma) => !decide (x.2.1 ≥ keys)) 0 q <;> rfl
def Fj (t : Zy) : Bool := decide (1 ≤ t.1 ∧ t.1 ≤ 1000) && (decide (0 ≤ t.2.1 ∧ t.2.1 ≤ 1000) && decide (0 ≤ t.2.2.1 ∧ t.2.2.1 ≤ 2))
theorem HB (t : Zy) : Er t = some (Fj t, ()) := by
 unfold Er Fj
 simp only [Xh, Yh]
 apply Bc
 simp only [Sc, decide_eq_true_eq, jq, and_false, or_false, jd]
 omega
theorem LB (t : Zy) : Nr t = some (Fj t, ()) := by
 unfold Nr Fj
 simp only [Cc, jb, Xh, Yh]
 apply Bc
 simp only [Sc, decide_eq_true_eq, jq, and_false, or_false, jd]
theorem JE (e : Ua) (hn : e.2.2.2.1.length ≤ Da) (hx : ∀ x ∈ e.2.2.2.1, Yq x) : Qu e = some (Dt e.2.2.2.1, ()) := by
 have h20 : Da = 1048576 := rfl
 have hl := (Qd (step := fun x => Uq x.1.1 x.1.2.1 x.1.2.2.1 x.2.1) e.2.2.2.1 (fun _ s (x : Ia) => Fd .i64 s (De .i64 1 x.1)) (fun s i => (((), s, i, ()), (e, ())))
  (fun s => .inl ((s, ()), ())) (fun _ _ => True) (by
   intro k hk s _
   refine ⟨?_, trivial⟩
   simp only [Uq]
   rw [Ba (show (k : Int) < ((ja e.2.2.2.1 : Nat) : Int) by omega), Qb hk]
   have hk' := hx _ (qp hk)
   simp only [cond_true, jb, TE, Cc]
   rw [Ba (show 0 ≤ e.2.2.2.1[k].1 ∧ e.2.2.2.1[k].1 ≤ 31 from ⟨hk'.lo, hk'.hi⟩), Ba hk'.lo]; rfl)
  (by
   intro s _
   simp only [Uq]
   rw [Ca (by omega)]; rfl) (by omega) 0 trivial).1
 unfold Qu Is
 erw [hl]
 rfl
def QK (l : List Ma) : Int := (l.getD (l.length - 1) (0, 0, false, ())).1
def Yg (l : List Ma) (t : Int) : Bool := ((l.length : Int) == 0) || decide (QK l ≤ t)
theorem WM {l : List Ma} (h : 0 < l.length) (hn : l.length ≤ Da) : ∃ x, Sb l (j4 .i64 (((ja l : Nat) : Int) - 1)) = some x ∧ x.1 = QK l := by
 have h20 : Da = 1048576 := rfl
 refine ⟨l[l.length - 1], ?_, ?_⟩
 ·rw [Uh (by omega) (by omega), show ((ja l : Nat) : Int) - 1 = ((l.length - 1 : Nat) : Int) by omega, Qb (by omega)]
 ·simp [QK, List.getD, je (show l.length - 1 < l.length by omega)]
theorem IB (l : List Ma) (t : Int) (hn : l.length ≤ Da) : Sk l t = some (Yg l t, ()) := by
 unfold Sk Yg
 by_cases h0 : l.length = 0
 ·simp [h0]
 ·obtain ⟨x, h1, h2⟩ := WM (l := l) (by omega) hn
  rw [h1, show (((l.length : Nat) : Int) == 0) = false by simp; intro h; rw [h] at h0; simp at h0]
  simp only [cond_false, jb, h2, Bool.false_or]
noncomputable def Zd (d : Eb) : Bool :=
 Uf d.1 && (Fj d.2.1 && (decide (0 ≤ d.2.2.2.1 ∧ d.2.2.2.1 ≤ 1000000) && (decide (0 ≤ d.2.2.2.2.1 ∧ d.2.2.2.2.1 ≤ d.2.2.2.1) && (Wd d.2.2.1 (Dt d.1.2.2.2.1) d.1.1.1 && (Yg d.2.2.1 d.2.2.2.1 &&
  (decide (0 ≤ d.2.2.2.2.2.1 ∧ d.2.2.2.2.2.1 ≤ d.1.1.1) && decide (0 ≤ d.2.2.2.2.2.2.1 ∧ d.2.2.2.2.2.2.1 ≤ d.2.2.2.1)))))))
theorem KC (d : Eb) : Wa Uc d = Wa Mb d.1 + Wa (.sl Kl) d.2.2.1 := by
 simp only [Wa, Nat.add_zero, js]
theorem Rx (l : List Ma) : Wa (.sl Kl) l = l.length := Wu (e := Kl) rfl l
theorem Yz {e : Ua} (h : Uf e = true) : Md e.2.2.2.1 = true := by
 simp only [Uf, jd] at h
 exact h.2.2.1
theorem GB (d : Eb) (hz : Wa Uc d ≤ Da) : Qo d = some (Zd d, ()) := by
 have hz' := hz
 rw [KC, Rx] at hz'
 have hz2 := hz'
 rw [Yk, Vk] at hz2
 unfold Qo Zd
 rw [Jx _ (by omega)]
 cases he : Uf d.1 with
 | false => rfl
 | true =>
  have hh := Vp (Yz he)
  simp only [jb, jg, cond_false, jk, HB]
  cases Fj d.2.1 with
  | false => rfl
  | true =>
   rw [QC _ (by omega) hh]
   simp only [jb, jg, cond_false, jk]
   rw [JB _ _ _ (by omega), IB _ _ (by omega)]
   simp only [jb]
   have key : ∀ a b c e f g h i j k : Bool, cond a (some (false, ())) (cond b (some (false, ())) (cond c (some (false, ())) (cond e (some (false, ())) (cond (!f) (some (false, ())) (cond (!g) (some (false, ())) (cond h (cond i (cond j (some (k, ())) (some (false, ()))) (some (false, ()))) (some (false, ())))))))) =
    some ((((!a && !b) && ((!c && !e) && (f && (g && ((h && i) && (j && k)))))), ()) : Bool × Unit) := by
    intro a b c e f g h i j k
    cases a <;> cases b <;> cases c <;> cases e <;> cases f <;> cases g <;> cases h <;> cases i <;> cases j <;> cases k <;> rfl
   erw [key]
   apply Bc
   simp only [jd, Bool.not_eq_true', decide_eq_true_eq, decide_eq_false_iff_not]
   constructor
   ·rintro ⟨⟨h1, h2⟩, ⟨h3, h4⟩, h5, h6, ⟨h7, h8⟩, h9, h10⟩
    exact ⟨⟨by omega, by omega⟩, ⟨by omega, by omega⟩, h5, h6, ⟨h7, h8⟩, h9, h10⟩
   ·rintro ⟨⟨h1, h2⟩, ⟨h3, h4⟩, h5, h6, ⟨h7, h8⟩, h9, h10⟩
    exact ⟨⟨by omega, by omega⟩, ⟨by omega, by omega⟩, h5, h6, ⟨h7, h8⟩, h9, h10⟩
theorem KB (d : Eb) (hz : Wa Uc d ≤ Da) : Fp d = some (Zd d, ()) := by
 have hz' := hz
 rw [KC, Rx] at hz'
 have hz2 := hz'
 rw [Yk, Vk] at hz2
 unfold Fp Zd
 rw [Pq _ (by omega)]
 cases he : Uf d.1 with
 | false => rfl
 | true =>
  have hh := Vp (Yz he)
  simp only [jb, jg, cond_false, jk, LB, Cc]
  cases Fj d.2.1 with
  | false => rfl
  | true =>
   rw [JE _ (by omega) hh]
   simp only [jb, jg, cond_false, jk]
   rw [UA _ _ _ (by omega)]
   simp only [jb, Yg]
   by_cases h0 : d.2.2.1.length = 0
   ·rw [Ca (show ¬ ((ja d.2.2.1 : Nat) : Int) > 0 by omega), show (((d.2.2.1.length : Nat) : Int) == 0) = true by simp [h0]]
    simp only [cond_false, Bool.true_or, jk]
    cases decide (0 ≤ d.2.2.2.1 ∧ d.2.2.2.1 ≤ 1000000) <;> cases decide (0 ≤ d.2.2.2.2.1 ∧ d.2.2.2.2.1 ≤ d.2.2.2.1) <;> cases Wd d.2.2.1 (Dt d.1.2.2.2.1) d.1.1.1 <;> cases decide (0 ≤ d.2.2.2.2.2.1 ∧ d.2.2.2.2.2.1 ≤ d.1.1.1) <;> rfl
   ·obtain ⟨x, h1, h2⟩ := WM (l := d.2.2.1) (by omega) (by omega)
    rw [Ba (show ((ja d.2.2.1 : Nat) : Int) > 0 by omega), h1, show (((d.2.2.1.length : Nat) : Int) == 0) = false by simp; intro h; rw [h] at h0; simp at h0]
    simp only [cond_true, jb, Bool.false_or, h2]
    have e1 : decide (QK d.2.2.1 > d.2.2.2.1) = !decide (QK d.2.2.1 ≤ d.2.2.2.1) := by
     rw [qu]; simp only [decide_eq_true_eq, Bool.not_eq_true', decide_eq_false_iff_not]; omega
    rw [e1]
    cases decide (0 ≤ d.2.2.2.1 ∧ d.2.2.2.1 ≤ 1000000) <;> cases decide (0 ≤ d.2.2.2.2.1 ∧ d.2.2.2.2.1 ≤ d.2.2.2.1) <;> cases Wd d.2.2.1 (Dt d.1.2.2.2.1) d.1.1.1 <;> cases decide (QK d.2.2.1 ≤ d.2.2.2.1) <;> cases decide (0 ≤ d.2.2.2.2.2.1 ∧ d.2.2.2.2.2.1 ≤ d.1.1.1) <;> rfl

def QQ {S : Type} (g : Nat → S → S) : Nat → S → S
 | 0, s => s
 | n + 1, s => g n (QQ g n s)
theorem EH {e : Ty} {c : Nat} : ∀ {w : List (T e)}, (∀ x ∈ w, Wa e x ≤ c) → Wa (.sl e) w ≤ (c + 1) * w.length
 | [], _ => by simp [Wa]
 | x :: r, h => by
  have h1 := h x (by simp)
  have h2 : Wa (.sl e) r ≤ (c + 1) * r.length := EH fun y hy => h y (by simp [hy])
  have h3 : Wa (.sl e) r = ja r + (List.map (Wa e) r).sum := rfl
  have h4 : Wa (.sl e) (x :: r) = (ja r + 1) + (Wa e x + (List.map (Wa e) r).sum) := by simp [Wa]
  rw [h4, jw, Nat.mul_add]
  omega
theorem Sh {n : Nat} (h : n ≤ 1073741824) : jx n Ab = true := ji h
theorem UO {α β : Type} (f : α → β) : ∀ (xs : List α) (k : Nat) (o : List β), Tc (fun _ o x => jf o [f x]) k o xs = o ++ xs.map f
 | [], _, o => by simp [Tc]
 | x :: r, k, o => by
  simp only [Tc]
  rw [UO f r]
  simp
theorem Wx {X R α β : Type} {step : X → Option (X ⊕ R)} (xs : List α) (f : α → β) (I : List β → Int → X) (out : List β → R) (hn : xs.length ≤ 1073741824)
 (h : ∀ k (hk : k < xs.length) (o : List β), ja o = k → step (I o (k : Int)) = some (.inl (I (jf o [f xs[k]]) (j4 .i64 ((k : Int) + 1)))))
 (he : ∀ o : List β, step (I o (xs.length : Int)) = some (.inr (out o))) : Za step (I [] 0) = some (out (xs.map f)) := by
 have := (Qd (step := step) xs (fun _ o x => jf o [f x]) I out (fun k o => ja o = k) (fun k hk o ho => ⟨h k hk o ho, by simp [ho]⟩) (fun o _ => he o) (by omega) [] rfl).1
 rw [this, UO]
 rfl
theorem Iaj (a : List Int) : Wa (.sl int) a = a.length := Wu (e := int) rfl a
theorem YP (a : List Va) : Wa (.sl Nb) a = a.length := Wu (e := Nb) rfl a
theorem MW (r : Aa) : Wa Db r = r.2.1.length := by
 show 0 + (Wa (.sl int) r.2.1 + 0) = _
 rw [Iaj]; omega
theorem QF (r : Aa) (h : r.2.1.length ≤ Da) : Rw r = some (r, ()) := by
 have h20 : Da = 1048576 := rfl
 unfold Rw
 rw [Sh (by simp; omega)]
 rfl
theorem Lx (l : List Int) (h : l.length ≤ Da) : Xl l = some (l, ()) := by
 have h20 : Da = 1048576 := rfl
 unfold Xl
 rw [Sh (by simp; omega)]
 rfl
theorem RI (r : Aa) (h : r.2.1.length ≤ Da) : Ws r = some (r, ()) := by
 unfold Ws
 rw [Lx _ h]
 rfl
theorem GW {a : List Ie} (hz : Wa (.sl Ag) a ≤ Da) {k : Nat} (hk : k < a.length) : a[k].2.1.2.1.length ≤ Da := by
 have h1 : Wa (.sl Ag) a = ja a + (List.map (Wa Ag) a).sum := rfl
 have h2 := Cn (f := Wa Ag) hk
 have h3 : Wa Ag a[k] = Wa Db a[k].2.1 := by
  show 0 + (Wa Db a[k].2.1 + 0) = _
  omega
 rw [MW] at h3
 omega
theorem ZK (a : List Ie) (hz : Wa (.sl Ag) a ≤ Da) : Bv a = some (a.map (fun x => x.2.1), ()) := by
 have h20 : Da = 1048576 := rfl
 have h1 : Wa (.sl Ag) a = ja a + (List.map (Wa Ag) a).sum := rfl
 have hl := Wx (step := fun x : (List Aa × List Ie × Int × Int × Unit) × Unit => Fm x.1.1 x.1.2.1 x.1.2.2.1 x.1.2.2.2.1) a (fun x => x.2.1)
  (fun o k => ((o, a, (a.length : Int), k, ()), ())) (fun o => .inl ((o, ()), ())) (by omega) (fun k hk o ho => by
   simp only [Fm]
   rw [Ba (by omega), Qb hk]
   simp only [cond_true, jb]
   rw [RI _ (GW hz hk)]
   simp only [jb]
   rw [Sh (by simp only [jw, j7]; omega)]
   rfl) (fun o => by
   simp only [Fm]
   rw [Ca (by omega)]
   rfl)
 unfold Bv Ro
 erw [hl]
 rfl
theorem DL (a : List Ie) (hz : Wa (.sl Ag) a ≤ Da) : Nv a = some (a.map (fun x => x.2.1), ()) := by
 have h20 : Da = 1048576 := rfl
 have h1 : Wa (.sl Ag) a = ja a + (List.map (Wa Ag) a).sum := rfl
 have hl := Wx (step := fun x : (List Ie × List Aa × Int × Unit) × Unit => Vm x.1.1 x.1.2.1 x.1.2.2.1) a (fun x => x.2.1)
  (fun o k => ((a, o, k, ()), ())) (fun o => .inl ((o, ()), ())) (by omega) (fun k hk o ho => by
   simp only [Vm]
   rw [Ba (by omega), Qb hk]
   simp only [cond_true, jb]
   rw [QF _ (GW hz hk)]
   simp only [jb]
   rw [Sh (by simp only [jw, j7]; omega)]
   rfl) (fun o => by
   simp only [Vm]
   rw [Ca (by omega)]
   rfl)
 unfold Nv Hp
 erw [hl]
 rfl
def Ny (l : List Int) (k : Nat) (x : Int) : Bool := decide (1 ≤ x ∧ x ≤ 56) && (decide (k = 0) || !decide (l.getD (k - 1) 0 ≥ x))
def Vf (r : Aa) : Bool := decide (0 ≤ r.1 ∧ r.1 ≤ 15) && Pd (fun k x => Ny r.2.1 k x) 0 r.2.1
theorem BW {l : List Int} {k : Nat} (h0 : 0 < k) (hk : k ≤ l.length) (hn : l.length ≤ Da) : Sb l (j4 .i64 ((k : Int) - 1)) = some (l.getD (k - 1) 0) := by
 have h20 : Da = 1048576 := rfl
 rw [Uh (by omega) (by omega), show (k : Int) - 1 = ((k - 1 : Nat) : Int) by omega, Qb (by omega)]
 simp [List.getD, je (show k - 1 < l.length by omega)]
theorem OC (r : Aa) (hn : r.2.1.length ≤ Da) : Dr r = some (Vf r, ()) := by
 have h20 : Da = 1048576 := rfl
 have hl := Xf (step := fun x => Wn x.1.1 x.1.2.1 x.1.2.2.1 x.1.2.2.2.1 x.2.1) r.2.1 (fun k x => Ny r.2.1 k x) (fun i => (((), r.2.1, ((ja r.2.1 : Nat) : Int), i, ()), (r, ())))
  (.inl ((), ())) (.inr ((false, ()), ())) (by
   intro k hk
   simp only [Wn]
   rw [Ba (show (k : Int) < ((ja r.2.1 : Nat) : Int) by omega), Qb hk]
   simp only [cond_true, jb, Si, Ny]
   by_cases h0 : k = 0
   ·subst h0
    rw [Ca (show ¬ ((0 : Nat) : Int) > 0 by omega)]
    simp only [cond_false]
    cases decide (1 ≤ r.2.1[0] ∧ r.2.1[0] ≤ 56) <;> rfl
   ·rw [Ba (show (k : Int) > 0 by omega), BW (by omega) (by omega) hn, Ca h0]
    simp only [cond_true, jb, Bool.false_or]
    cases decide (1 ≤ r.2.1[k] ∧ r.2.1[k] ≤ 56) <;> cases decide (r.2.1.getD (k - 1) 0 ≥ r.2.1[k]) <;> rfl) (by
   simp only [Wn]
   rw [Ca (by omega)]; rfl) (by omega)
 unfold Dr Bq Vf
 by_cases h1 : 0 ≤ r.1 ∧ r.1 ≤ 15
 ·rw [Ca (show ¬ r.1 < 0 by omega), Ca (show ¬ r.1 > 15 by omega), Ba h1]
  simp only [cond_false, jk]
  erw [hl]
  cases Pd (fun k x => Ny r.2.1 k x) 0 r.2.1 <;> rfl
 ·rw [Ca h1]
  by_cases h2 : r.1 < 0
  ·rw [Ba h2]; rfl
  ·rw [Ca h2, Ba (show r.1 > 15 by omega)]; rfl
theorem Rq (r : Aa) (hn : r.2.1.length ≤ Da) : Mr r = some (Vf r, ()) := by
 have h20 : Da = 1048576 := rfl
 have hl := Xf (step := fun x => Ho x.1.1 x.1.2.1 x.2.1) r.2.1 (fun k x => Ny r.2.1 k x) (fun i => (((), i, ()), (r, ())))
  (.inl (((), ()), (r, ()))) (.inr ((false, ()), ())) (by
   intro k hk
   simp only [Ho]
   rw [Ba (show (k : Int) < ((ja r.2.1 : Nat) : Int) by omega), Qb hk]
   simp only [cond_true, jb, Cc, Ny]
   by_cases h0 : k = 0
   ·subst h0
    rw [Ca (show ¬ ((0 : Nat) : Int) > 0 by omega)]
    simp only [cond_false]
    cases decide (1 ≤ r.2.1[0] ∧ r.2.1[0] ≤ 56) <;> rfl
   ·rw [Ba (show (k : Int) > 0 by omega), BW (by omega) (by omega) hn, Ca h0]
    simp only [cond_true, jb, Bool.false_or]
    cases decide (1 ≤ r.2.1[k] ∧ r.2.1[k] ≤ 56) <;> cases decide (r.2.1.getD (k - 1) 0 ≥ r.2.1[k]) <;> rfl) (by
   simp only [Ho]
   rw [Ca (by omega)]; rfl) (by omega)
 unfold Mr Qq Vf
 erw [hl]
 cases Pd (fun k x => Ny r.2.1 k x) 0 r.2.1 with
 | true => simp only [cond_true, jb, qi, Cc, Bool.and_true]
 | false => cases decide (0 ≤ r.1 ∧ r.1 ≤ 15) <;> rfl

theorem S4 {r : Aa} (h : Vf r = true) : r.2.1.length ≤ 56 := by
 unfold Vf at h
 simp only [jd] at h
 have h2 := Rp.1 h.2
 have key : ∀ j (hj : j < r.2.1.length), (j : Int) + 1 ≤ r.2.1[j] ∧ r.2.1[j] ≤ 56 := by
  intro j
  induction j with
  | zero =>
   intro hj
   have := h2 0 hj
   simp only [Ny, jd, decide_eq_true_eq] at this
   omega
  | succ j ih =>
   intro hj
   have h3 := ih (by omega)
   have := h2 (j + 1) hj
   simp only [Ny, jd, Bool.or_eq_true, Bool.not_eq_true', decide_eq_true_eq, decide_eq_false_iff_not] at this
   have e : r.2.1.getD (0 + (j + 1) - 1) 0 = r.2.1[j] := by
    rw [show 0 + (j + 1) - 1 = j by omega, qh, je (by omega)]; rfl
   rw [e] at this
   omega
 apply Classical.byContradiction
 intro hn
 have := key 56 (by omega)
 omega
theorem p63 : (2 : Nat) ^ 63 = 9223372036854775808 := rfl
theorem XE {a : Nat} (ha : a < 2 ^ 63) : (BitVec.ofInt 64 (a : Int)).toNat = a := by
 rw [BitVec.ofInt_natCast, BitVec.toNat_ofNat, Nat.mod_eq_of_lt (by omega)]
theorem B9 {a b : Nat} (ha : a < 2 ^ 63) (hb : b < 2 ^ 63) : Pf .i64 (a : Int) (b : Int) = ((a &&& b : Nat) : Int) := by
 have h : (BitVec.ofInt (IntKind.bits .i64) (a : Int) &&& BitVec.ofInt (IntKind.bits .i64) (b : Int)).toNat = a &&& b := by
  rw [BitVec.toNat_and]; erw [XE ha, XE hb]
 unfold Pf
 rw [h]
 have h2 : a &&& b ≤ a := Nat.and_le_left
 have h3 := p63
 exact Uh (by omega) (by omega)
theorem TX {a b : Nat} (ha : a < 2 ^ 63) (hb : b < 2 ^ 63) : Fd .i64 (a : Int) (b : Int) = ((a ||| b : Nat) : Int) := by
 have h : (BitVec.ofInt (IntKind.bits .i64) (a : Int) ||| BitVec.ofInt (IntKind.bits .i64) (b : Int)).toNat = a ||| b := by
  rw [BitVec.toNat_or]; erw [XE ha, XE hb]
 unfold Fd
 rw [h]
 have h2 : a ||| b < 2 ^ 63 := Nat.or_lt_two_pow ha hb
 have h3 := p63
 exact Uh (by omega) (by omega)
theorem G9 {a b : Nat} (ha : a < 2 ^ 63) (hb : b < 2 ^ 63) : Yv .i64 (a : Int) (b : Int) = ((a ^^^ b : Nat) : Int) := by
 have h : (BitVec.ofInt (IntKind.bits .i64) (a : Int) ^^^ BitVec.ofInt (IntKind.bits .i64) (b : Int)).toNat = a ^^^ b := by
  rw [BitVec.toNat_xor]; erw [XE ha, XE hb]
 unfold Yv
 rw [h]
 have h2 : a ^^^ b < 2 ^ 63 := qo ha hb
 have h3 := p63
 exact Uh (by omega) (by omega)
theorem F9 (a : Nat) {k : Nat} (hk : k ≤ 64) : Xv .i64 (a : Int) (k : Int) = ((a >>> k : Nat) : Int) := by
 unfold Xv
 have h1 : min (jy (k : Int)) (IntKind.bits .i64) = k := by
  show min (jy (k : Int)) 64 = k
  rw [jn]; omega
 rw [h1, Nat.shiftRight_eq_div_pow]
 have h2 : (2 : Int) ^ k = ((2 ^ k : Nat) : Int) := by simp
 rw [h2]
 exact (Int.fdiv_eq_ediv_of_nonneg _ (Int.natCast_nonneg _)).trans (by simp)
theorem EM {a k : Nat} (ha : a < 2 ^ 63) (hk : k ≤ 64) : (Gn (a : Int) (k : Int) == 1) = a.testBit k := by
 unfold Gn
 have h1 : a >>> k ≤ a := by rw [Nat.shiftRight_eq_div_pow]; exact Nat.div_le_self _ _
 have h3 := p63
 rw [F9 a hk]
 show (Pf .i64 ((a >>> k : Nat) : Int) ((1 : Nat) : Int) == 1) = _
 rw [B9 (by omega) (by omega), Nat.and_one_is_mod, Nat.testBit_eq_decide_div_mod_eq, Nat.shiftRight_eq_div_pow]
 have : a / 2 ^ k % 2 = 0 ∨ a / 2 ^ k % 2 = 1 := by omega
 rcases this with h | h <;> rw [h] <;> rfl
theorem WC {k : Nat} (hk : k ≤ 62) : (2 : Nat) ^ k < 2 ^ 63 := Nat.pow_lt_pow_right (by omega) (by omega)
def cnt : Nat → Nat → Nat
 | 0, _ => 0
 | k + 1, n => n % 2 + cnt k (n / 2)
def u1 (a : Nat) : Nat := ((a / 2) &&& 85) + (a &&& 85)
def u2 (a : Nat) : Nat := ((a / 4) &&& 51) + (a &&& 51)
theorem m3 : ∀ a : Fin 64, ∀ c : Fin 4, (a.val &&& 51) = (a.val + 64 * c.val) &&& 51 := by decide +kernel
def M5 : Nat := 6148914691236517205
def M3 : Nat := 3689348814741910323
def MF : Nat := 1085102592571150095
def s1 (n : Nat) : Nat := (n / 2 &&& M5) + (n &&& M5)
def s2 (n : Nat) : Nat := (n / 4 &&& M3) + (n &&& M3)
def s3 (n : Nat) : Nat := (n / 16 + n) &&& MF
def TI (m : AK) : Bool := decide (1 ≤ m.1 ∧ m.1 ≤ 4 ∧ 1 ≤ m.2.1 ∧ m.2.1 ≤ 6)
def XD (m : AK) : Int := cond (TI m) (m.1 * m.2.1) 0
def ZB (k x : Int) : Bool := decide (0 ≤ x ∧ x < ((2 ^ k.toNat : Nat) : Int))
def PK (m : AK) (x : Int) : Bool := TI m && ZB (XD m) x
def Ram (l : List Int) : Bool := Pd (fun _ x => decide ((0 : Int) ≤ x ∧ x ≤ 99)) 0 l
def SI (d : MB) : Bool :=
 decide (0 ≤ d.1 ∧ d.1 ≤ 2) && (decide (1 ≤ d.2.1 ∧ d.2.1 ≤ 20) && (decide (1 ≤ d.2.2.1 ∧ d.2.2.1 ≤ 24) && ((((ja d.2.2.2.2.2.1 : Nat) : Int) == d.2.2.1) && (ZB d.2.2.1 d.2.2.2.1 && (ZB d.2.2.1 d.2.2.2.2.1 && Ram d.2.2.2.2.2.1)))))
def T8 (L : List Hb) (i : Nat) (x : Hb) : Bool :=
 decide (0 ≤ x.1 ∧ x.1 ≤ 16777215) && (decide (24 ≤ x.2.1 ∧ x.2.1 ≤ 31) && (decide (2 ≤ ((cnt 32 x.1.toNat : Nat) : Int) ∧ ((cnt 32 x.1.toNat : Nat) : Int) ≤ 4) && Pd (fun _ (y : Hb) => !(y.1 == x.1) && !(y.2.1 == x.2.1)) 0 (L.take i)))
def NX (L : List Hb) : Bool := decide (L.length ≤ 8) && Pd (fun i x => T8 L i x) 0 L
def Raj : Hb := (0, 0, ())
def J4 (L : List Hb) (o : Int) : Option Hb := L.find? (fun c => c.2.1 == o)
def okA (K : Int) (x : Ma) : Bool := !decide (x.2.1 ≤ 0) && (!(Eh .i64 x.2.1 K != 0) && !(x.2.2.1 != (x.2.1 == K)))
def Mat (L : List Hb) (o : Int) : Int := ((J4 L o).getD Raj).1
def okF (L : List Hb) (x : Ma) : Bool := (J4 L x.1).isSome && okA (Mat L x.1) x
def Xai (pre : List Ma) (x : Ma) : Bool := Pd (fun _ (y : Ma) => !(y.1 == x.1)) 0 pre
def W3 (L : List Hb) : List Ma → List Ma → Bool
 | _, [] => true
 | pre, x :: r => (okF L x && Xai pre x) && W3 L (pre ++ [x]) r
def Rac (c : Cm) : Bool := W3 c.1 [] c.2.2.2.2.2.2.1
def swG (s : Int) (x : Ma) : Int ⊕ Unit := cond (Pf .i64 s x.2.1 != 0) (.inr ()) (.inl (Fd .i64 s x.2.1))
def swB (c : Cm) : Bool := Lw (Oc (fun _ s x => swG s x) 0 c.2.2.2.2.2.1 c.2.2.2.2.2.2.1)
def orK (k : Nat) (s : Int) (l : List Ma) : Int := Tc (fun _ s (x : Ma) => Fd .i64 s x.2.1) k s l
def Dac (c : Cm) : Int := orK 0 c.2.2.2.2.2.1 c.2.2.2.2.2.2.1
def NL (c : Cm) : Bool :=
 NX c.1 && (decide (1 ≤ c.2.1 ∧ c.2.1 ≤ 200) && (decide (0 ≤ c.2.2.2.1 ∧ c.2.2.2.1 ≤ 1000000) && (decide (0 ≤ c.2.2.2.2.1 ∧ c.2.2.2.2.1 ≤ c.2.2.2.1) && ((decide (0 ≤ c.2.2.2.2.2.1 ∧ c.2.2.2.2.2.1 ≤ 16777215) && (Rac c && swB c)) &&
  (Wd c.2.2.1 (Dac c) 24 && Yg c.2.2.1 c.2.2.2.1)))))
structure SZ (c : Cm) : Prop where
 a : c.1.length ≤ Da
 q : c.2.2.1.length ≤ Da
 e : c.2.2.2.2.2.2.1.length ≤ Da
 r : ∀ x ∈ c.2.2.2.2.2.2.1, x.2.1 ≤ 9223372036854775807
def tgG (s : Int) (x : Ma) : Int := Yv .i64 s (De .i64 1 x.2.1)
def tgI (d : Int) (q : List Ma) : Int := Tc (fun _ s x => tgG s x) 0 d q
theorem Z8 {q : List Ma} {d keys : Int} (h : Wd q d keys = true) : Lw (Oc (fun _ s x => Sv s x) 0 (0, d) q) = true := by
 simp only [Wd, Iz, H2, jd] at h
 have h2 := h.2
 cases hf : Oc (fun _ s x => Sv s x) 0 (0, d) q with
 | inl s => rfl
 | inr u => rw [hf] at h2; cases hd : decide (q.length ≤ 64) <;> rw [hd] at h2 <;> simp at h2
structure Rax (x : Ma) : Prop where
 lo : 0 ≤ x.1
 hi : x.1 ≤ 31
 left : 0 ≤ x.2.1
def gvG (s : Int) (x : Ma) : Int := cond x.2.2.1 (Fd .i64 s (De .i64 1 x.1)) s
def gvI (c : Cm) : Int := Tc (fun _ s x => gvG s x) 0 c.2.2.2.2.2.1 c.2.2.2.2.2.2.1
def C9 (m : AK) (keys : Int) (L : List Hb) : Bool := Pd (fun _ (x : Hb) => PK m x.1 && !decide (x.2.1 ≥ keys)) 0 L
noncomputable def E9 (b : YT) : Bool :=
 TI b.1 && (SI b.2.1 && (NL b.2.2.1 && (Zd b.2.2.2.1 && ((b.2.1.2.2.1 == XD b.1) && (!decide (b.2.2.2.1.1.1.1 < XD b.1) && (PK b.1 b.2.2.2.2.1 &&
  (C9 b.1 b.2.2.2.1.1.1.1 b.2.2.1.1 && (decide (0 ≤ b.2.2.2.2.2.1 ∧ b.2.2.2.2.2.1 ≤ 1000000) && (!decide (b.2.2.1.2.2.2.1 > b.2.2.2.2.2.1) && (!decide (b.2.2.2.1.2.2.2.1 > b.2.2.2.2.2.1) &&
  ((tgI (Dac b.2.2.1) b.2.2.1.2.2.1 == b.2.1.2.2.2.1) && (tgI (Dt b.2.2.2.1.1.2.2.2.1) b.2.2.2.1.2.2.1 == gvI b.2.2.1))))))))))))
structure Qaw (b : YT) : Prop where
 d : b.2.1.2.2.2.2.2.1.length ≤ Da
 c : SZ b.2.2.1
 x : Wa Uc b.2.2.2.1 ≤ Da
theorem GV {m : Ka} (hz : Wa Bb m ≤ Da) : ja m.2.1 ≤ Da ∧ ∀ k (hk : k < m.2.1.length), m.2.1[k].length ≤ Da := by
 have h0 : Wa Bb m = 0 + (Wa (.sl (.sl Nb)) m.2.1 + 0) := rfl
 have h1 : Wa (.sl (.sl Nb)) m.2.1 = ja m.2.1 + (List.map (Wa (.sl Nb)) m.2.1).sum := rfl
 refine ⟨by omega, fun k hk => ?_⟩
 have h2 := Cn (f := Wa (.sl Nb)) hk
 rw [YP] at h2
 omega
theorem Cu (m : Ka) (hz : Wa Bb m ≤ Da) : Km m = some (m, ()) := by
 have h20 : Da = 1048576 := rfl
 obtain ⟨h1, h2⟩ := GV hz
 have hl := Wx (step := fun x : (Unit × Unit × List (List Va) × Int × Int × Unit) × Ka × Ka × Unit => Ml x.1.1 x.1.2.1 x.1.2.2.1 x.1.2.2.2.1 x.1.2.2.2.2.1 x.2.1 x.2.2.1) m.2.1 (fun x => x)
  (fun o k => (((), (), m.2.1, (m.2.1.length : Int), k, ()), ((0, [], ()), (m.1, o, ()), ()))) (fun o => .inl (((), (), ()), ((0, [], ()), (m.1, o, ()), ()))) (by omega) (fun k hk o ho => by
   have := h2 k hk
   simp only [Ml]
   rw [Ba (by omega), Qb hk]
   simp only [cond_true, jb]
   rw [Sh (by simp; omega), Sh (by simp only [jw, j7]; omega)]
   rfl) (fun o => by
   simp only [Ml]
   rw [Ca (by omega)]
   rfl)
 unfold Km Kn
 erw [hl]
 rw [List.map_id']
 rfl
theorem DR (m : Ka) (hz : Wa Bb m ≤ Da) : JA m = some (m, ()) := by
 have h20 : Da = 1048576 := rfl
 obtain ⟨h1, h2⟩ := GV hz
 have hl := Wx (step := fun x : (Unit × Unit × Unit × Int × Unit) × Ka × Ka × Ka × Unit => Lt x.1.1 x.1.2.1 x.1.2.2.1 x.1.2.2.2.1 x.2.1 x.2.2.1 x.2.2.2.1) m.2.1 (fun x => x)
  (fun o k => (((), (), (), k, ()), (m, (0, [], ()), (m.1, o, ()), ()))) (fun o => .inl (((), (), ()), ((0, [], ()), (m.1, o, ()), ()))) (by omega) (fun k hk o ho => by
   have := h2 k hk
   simp only [Lt]
   rw [Ba (by omega), Qb hk]
   simp only [cond_true, jb]
   rw [Sh (by simp; omega), Sh (by simp only [jw, j7]; omega)]
   rfl) (fun o => by
   simp only [Lt]
   rw [Ca (by omega)]
   rfl)
 unfold JA Su
 erw [hl]
 rw [List.map_id']
 rfl
theorem CS {L : List (List Vb)} (hz : Wa (.sl (.sl Ec)) L ≤ Da) : ja L ≤ Da ∧ ∀ k (hk : k < L.length), L[k].length ≤ Da := by
 have h1 : Wa (.sl (.sl Ec)) L = ja L + (List.map (Wa (.sl Ec)) L).sum := rfl
 refine ⟨by omega, fun k hk => ?_⟩
 have h2 := Cn (f := Wa (.sl Ec)) hk
 rw [GR] at h2
 omega
theorem Du (L : List (List Vb)) (hz : Wa (.sl (.sl Ec)) L ≤ Da) : Lm L = some (L, ()) := by
 have h20 : Da = 1048576 := rfl
 obtain ⟨h1, h2⟩ := CS hz
 have hl := Wx (step := fun x => Nl x.1.1 x.1.2.1 x.1.2.2.1 x.1.2.2.2.1) L (fun x => x)
  (fun o k => ((o, L, ((ja L : Nat) : Int), k, ()), ())) (fun o => .inl ((o, ()), ())) (by omega) (fun k hk o ho => by
   have := h2 k hk
   simp only [Nl]
   rw [Ba (by omega), Qb hk]
   simp only [cond_true, jb]
   rw [Sh (by simp; omega), Sh (by simp only [jw, j7]; omega)]
   rfl) (fun o => by
   simp only [Nl]
   rw [Ca (by omega)]
   rfl)
 unfold Lm Ln
 erw [hl]
 rw [List.map_id']
 rfl
theorem Jm (e : Ua) (hz : Wa Mb e ≤ Da) : Qh e = some (e, ()) := by
 have h20 : Da = 1048576 := rfl
 rw [Yk, Vk] at hz
 unfold Qh
 rw [Cu _ (by omega), Du _ (by omega), Sh (by simp; omega)]
 rfl
theorem PH (d : Eb) (hz : Wa Uc d ≤ Da) : Bl d = some (d, ()) := by
 have h20 : Da = 1048576 := rfl
 rw [KC, Rx] at hz
 unfold Bl
 rw [Jm _ (by omega), Sh (by simp; omega)]
 rfl
theorem Np (e : Ua) (hz : Wa Mb e ≤ Da) : Dj e = some (e, ()) := by
 have h20 : Da = 1048576 := rfl
 rw [Yk, Vk] at hz
 obtain ⟨h1, h2⟩ := CS (L := e.2.1) (by omega)
 have hl := Wx (step := fun x => Nt x.1.1 x.1.2.1 x.1.2.2.1 x.1.2.2.2.1 x.2.1 x.2.2.1 x.2.2.2.1) e.2.1 (fun x => x)
  (fun o k => (((), (), (), k, ()), (e, (((0 : Int), ([] : List (List Va)), ()), ([] : List (List Vb)), (0 : Int), ([] : List Ia), (0 : Int), false, ()), (e.1, o, e.2.2), ())))
  (fun o => .inl (((), (), (), ()), (e, (((0 : Int), ([] : List (List Va)), ()), ([] : List (List Vb)), (0 : Int), ([] : List Ia), (0 : Int), false, ()), (e.1, o, e.2.2), ()))) (by omega) (fun k hk o ho => by
   have := h2 k hk
   simp only [Nt]
   rw [Ba (by omega), Qb hk]
   simp only [cond_true, jb]
   rw [Sh (by simp; omega), Sh (by simp only [jw, j7]; omega)]
   rfl) (fun o => by
   simp only [Nt]
   rw [Ca (by omega)]
   rfl)
 unfold Dj Uu
 rw [DR _ (by omega)]
 simp only [jb]
 erw [hl]
 rw [List.map_id']
 simp only [jb, qi]
 rw [Sh (by simp; omega)]
 rfl
theorem CV : ∀ (a b : List Int), a.length = b.length → Pd (fun k x => b.getD k 0 == x) 0 a = (b == a)
 | a, b, h => by
  rw [qu, Rp, beq_iff_eq]
  constructor
  ·intro hj
   apply List.ext_getElem h.symm
   intro i h1 h2
   have := hj i h2
   rw [js, beq_iff_eq, qh, je h1] at this
   exact this
  ·rintro rfl i hi
   rw [js, beq_iff_eq, qh, je hi]; rfl
theorem EN (a b : List Int) (hn : a.length ≤ Ab) : Vw a b = some (a == b, ()) := by
 have hlim := Td
 unfold Vw
 by_cases h : a.length = b.length
 ·have hl := Xf (step := fun x => Ao x.1.1 x.1.2.1 x.1.2.2.1 x.1.2.2.2.1) a (fun k x => b.getD k 0 == x) (fun i => ((a, b, ((ja a : Nat) : Int), i, ()), ()))
   (.inl ((), ())) (.inr ((false, ()), ())) (by
    intro k hk
    simp only [Ao]
    rw [Ba (show (k : Int) < ((ja a : Nat) : Int) by omega), Qb hk, Qb (show k < b.length by omega), qh, je (show k < b.length by omega)]
    simp only [cond_true, jb, Option.getD_some, bne]
    rw [show (a[k] == b[k]) = (b[k] == a[k]) by rw [qu, beq_iff_eq, beq_iff_eq]; exact eq_comm]
    cases b[k] == a[k] <;> rfl) (by
    simp only [Ao]
    rw [Ca (by omega)]; rfl) (by omega)
  have e : (((ja a : Nat) : Int) != ((ja b : Nat) : Int)) = false := by simp [h]
  rw [e]
  simp only [cond_false]
  unfold Jq
  erw [hl]
  rw [CV a b h, show (b == a) = (a == b) by rw [qu, beq_iff_eq, beq_iff_eq]; exact eq_comm]
  cases a == b <;> rfl
 ·have e : (((ja a : Nat) : Int) != ((ja b : Nat) : Int)) = true := by simp; omega
  have e2 : (a == b) = false := by rw [beq_eq_false_iff_ne]; intro hh; exact h (by rw [hh])
  rw [e, e2]; rfl
theorem Faa (a b : T Ze) (h1 : ja a.2.1 ≤ Ab) (_ : ja b.2.1 ≤ Ab) : (fun x : T (.p Ze (.p Ze .u)) => Gm x.1 x.2.1) (a, b, ()) = some (Li a b, ()) := by
 show Gm a b = _
 unfold Gm
 rw [EN _ _ h1]
 simp only [jb, Li]
 cases (show Int from a.1) == (show Int from b.1) <;> rfl
theorem H4 (c : T Ld → T Ld → Option Bool) (l : List (T Ld)) (hl : ja l ≤ Ab) : ∀ (ys : List (T Ld)) (k : Nat) (out q : List (T Ld)) (a : T Ld), l.drop k = ys → k ≤ ja l → ja out + ja ys ≤ Ab →
 HG c a ys = some q → Rr c (((), out, l, ((ja l : Nat) : Int), (k : Int), ()), (a, ())) = some (.inl ((jf out q, ()), ())) := by
 have hlim := Td
 intro ys
 induction ys with
 | nil =>
  intro k out q a hd hk _ hq
  have := MM hd hk
  subst this
  simp only [HG, jc] at hq
  subst hq
  have hs : Hz c () out l ((ja l : Nat) : Int) ((ja l : Nat) : Int) a = some (.inr (.inl ((out, ()), ()))) := by
   unfold Hz
   rw [Ca (by omega)]; rfl
  unfold Rr
  rw [Hc hs]
  simp
 | cons y ys ih =>
  intro k out q a hd hk hlen hq
  obtain ⟨hk', hy, hd'⟩ := GI hd
  simp only [HG] at hq
  cases hc : c a y with
  | none => rw [hc] at hq; simp at hq
  | some b =>
   rw [hc] at hq
   simp only [jb] at hq
   cases hq2 : HG c y ys with
   | none => rw [hq2] at hq; simp at hq
   | some q2 =>
    rw [hq2] at hq
    simp only [jb, jc] at hq
    have hlc : ja (y :: ys) = ja ys + 1 := rfl
    have hs : Hz c () out l ((ja l : Nat) : Int) (k : Int) a = some (.inl (((), cond b out (jf out [y]), l, ((ja l : Nat) : Int), ((k + 1 : Nat) : Int), ()), (y, ()))) := by
     unfold Hz Vab
     rw [Ba (show (k : Int) < ((ja l : Nat) : Int) by omega), Qb hk', hy]
     simp only [cond_true, jb, hc]
     rw [Df (by omega)]
     cases b with
     | true => rfl
     | false =>
      rw [show jx (ja out + ja ([y] : List (Int × ((T .o) × Unit)))) Ab = true from ji (by simp only [jw, j7]; omega)]
      rfl
    unfold Rr
    rw [Hc hs]
    simp only [jb, qi]
    have := ih (k + 1) (cond b out (jf out [y])) q2 y hd' hk' (by cases b with
     | true => simp only [cond_true]; omega
     | false => simp only [cond_false, List.append_eq, qd, jw, j7]; omega) hq2
    unfold Rr at this
    rw [this, ← hq]
    cases b with
    | true => rfl
    | false => simp
theorem Tac (c : T Ld → T Ld → Option Bool) : ∀ (a : T Ld) (l r : List (T Ld)), ja l ≤ Ab → HG c a l = some r → (fun x : T (.p Ld (.p (.sl Ld) .u)) => Y1 c x.1 x.2.1) (a, l, ()) = some (r, ()) := by
 intro a l r hl hq
 show Y1 c a l = _
 unfold Y1
 have := H4 c l hl l 0 [] r a rfl (Nat.zero_le _) (by simpa using hl) hq
 erw [this]
 rfl
theorem DS : ∀ {a b : List Int}, a.Pairwise (· < ·) → b.Pairwise (· < ·) → (∀ x, x ∈ a ↔ x ∈ b) → a = b
 | [], [], _, _, _ => rfl
 | [], y :: b, _, _, h => by have := (h y).2 (by simp); simp at this
 | x :: a, [], _, _, h => by have := (h x).1 (by simp); simp at this
 | x :: a, y :: b, ha, hb, h => by
  rw [List.pairwise_cons] at ha hb
  have hxy : x = y := by
   rcases jp.1 ((h x).1 (by simp)) with h1 | h1
   ·exact h1
   ·rcases jp.1 ((h y).2 (by simp)) with h2 | h2
    ·exact h2.symm
    ·have := hb.1 x h1; have := ha.1 y h2; omega
  subst hxy
  congr 1
  refine DS ha.2 hb.2 fun z => ⟨fun hz => ?_, fun hz => ?_⟩
  ·rcases jp.1 ((h z).1 (by simp [hz])) with h1 | h1
   ·have := ha.1 z hz; omega
   ·exact h1
  ·rcases jp.1 ((h z).2 (by simp [hz])) with h1 | h1
   ·have := hb.1 z hz; omega
   ·exact h1
def JH (o : List Int) (x : Int) : List Int := cond ((x != 0) && !o.any (fun y => y == x)) (jf o [x]) o
def MU (k : Nat) (o l : List Int) : List Int := Tc (fun _ o x => JH o x) k o l
theorem N4 : ∀ (l : List Int) (k : Nat) (o : List Int) (y : Int), y ∈ MU k o l ↔ y ∈ o ∨ (y ∈ l ∧ y ≠ 0)
 | [], _, o, y => by simp [MU, Tc]
 | x :: l, k, o, y => by
  have := N4 l (k + 1) (JH o x) y
  simp only [MU, Tc] at this ⊢
  rw [this]
  unfold JH
  by_cases h0 : x = 0
  ·subst h0
   simp only [bne_self_eq_false, qm, cond_false, jp]
   constructor
   ·rintro (h | ⟨h1, h2⟩)
    ·exact .inl h
    ·exact .inr ⟨.inr h1, h2⟩
   ·rintro (h | ⟨h1 | h1, h2⟩)
    ·exact .inl h
    ·exact absurd h1 h2
    ·exact .inr ⟨h1, h2⟩
  ·by_cases h1 : o.any (fun y => y == x) = true
   ·rw [h1]
    simp only [jg, Bool.and_false, cond_false, jp]
    have hx : x ∈ o := by
     obtain ⟨z, hz, e⟩ := List.any_eq_true.1 h1
     rw [beq_iff_eq] at e; rw [← e]; exact hz
    constructor
    ·rintro (h | ⟨h1, h2⟩)
     ·exact .inl h
     ·exact .inr ⟨.inr h1, h2⟩
    ·rintro (h | ⟨h1 | h1, h2⟩)
     ·exact .inl h
     ·exact .inl (h1 ▸ hx)
     ·exact .inr ⟨h1, h2⟩
   ·have e : ((x != 0) && !o.any (fun y => y == x)) = true := by
     simp only [j9] at h1
     rw [h1]; simp [h0]
    rw [e]
    simp only [cond_true, List.append_eq, jl, jp, List.not_mem_nil, or_false]
    constructor
    ·rintro ((h | h) | ⟨h1, h2⟩)
     ·exact .inl h
     ·exact .inr ⟨.inl h, by rw [h]; exact h0⟩
     ·exact .inr ⟨.inr h1, h2⟩
    ·rintro (h | ⟨h1 | h1, h2⟩)
     ·exact .inl (.inl h)
     ·exact .inl (.inr h1)
     ·exact .inr ⟨h1, h2⟩
theorem KR : ∀ (l : List Int) (k : Nat) (o : List Int), o.Pairwise (· < ·) → l.Pairwise (· ≤ ·) → (∀ y ∈ o, ∀ x ∈ l, y ≤ x) → (MU k o l).Pairwise (· < ·)
 | [], _, o, ho, _, _ => by simpa [MU, Tc] using ho
 | x :: l, k, o, ho, hl, h => by
  rw [List.pairwise_cons] at hl
  have key : (JH o x).Pairwise (· < ·) ∧ ∀ y ∈ JH o x, ∀ z ∈ l, y ≤ z := by
   unfold JH
   cases hc : (x != 0) && !o.any (fun y => y == x) with
   | false => exact ⟨ho, fun y hy z hz => h y hy z (by simp [hz])⟩
   | true =>
    simp only [jd, Bool.not_eq_true', List.any_eq_false, beq_iff_eq] at hc
    simp only [cond_true, List.append_eq]
    refine ⟨?_, ?_⟩
    ·rw [List.pairwise_append]
     refine ⟨ho, by simp, fun y hy z hz => ?_⟩
     simp only [jp, List.not_mem_nil, or_false] at hz
     subst hz
     have h1 := h y hy z (by simp)
     have h2 := hc.2 y hy
     omega
    ·intro y hy z hz
     rcases jl.1 hy with hy | hy
     ·exact h y hy z (by simp [hz])
     ·simp only [jp, List.not_mem_nil, or_false] at hy
      subst hy
      exact hl.1 z hz
  have := KR l (k + 1) (JH o x) key.1 hl.2 key.2
  simpa [MU, Tc] using this
def Mi (l : List Ia) : Nat → List Int
 | 0 => []
 | n + 1 => cond (l.any fun h => h.2.1.2.1 == ((n + 1 : Nat) : Int)) (Mi l n ++ [((n + 1 : Nat) : Int)]) (Mi l n)
theorem Ey (l : List Ia) : ∀ (n : Nat) (x : Int), x ∈ Mi l n ↔ (1 ≤ x ∧ x ≤ (n : Int)) ∧ ∃ h ∈ l, h.2.1.2.1 = x
 | 0, x => by simp [Mi]; intro h1 h2; omega
 | n + 1, x => by
  simp only [Mi]
  cases hc : (l.any fun h => h.2.1.2.1 == ((n + 1 : Nat) : Int)) with
  | true =>
   simp only [cond_true, jl, Ey l n x, jp, List.not_mem_nil, or_false]
   obtain ⟨h, hh, e⟩ := List.any_eq_true.1 hc
   rw [beq_iff_eq] at e
   constructor
   ·rintro (⟨h1, h2⟩ | rfl)
    ·exact ⟨by omega, h2⟩
    ·exact ⟨by omega, h, hh, e⟩
   ·rintro ⟨h1, h2⟩
    by_cases hx : x = ((n + 1 : Nat) : Int)
    ·exact .inr hx
    ·exact .inl ⟨by omega, h2⟩
  | false =>
   simp only [cond_false, Ey l n x]
   rw [List.any_eq_false] at hc
   constructor
   ·rintro ⟨h1, h2⟩; exact ⟨by omega, h2⟩
   ·rintro ⟨h1, h, hh, e⟩
    refine ⟨?_, h, hh, e⟩
    have := hc h hh
    rw [beq_iff_eq] at this
    omega
theorem ZA (l : List Ia) : ∀ n, (Mi l n).Pairwise (· < ·)
 | 0 => by simp [Mi]
 | n + 1 => by
  simp only [Mi]
  cases (l.any fun h => h.2.1.2.1 == ((n + 1 : Nat) : Int)) with
  | true =>
   simp only [cond_true]
   rw [List.pairwise_append]
   refine ⟨ZA l n, by simp, fun y hy z hz => ?_⟩
   simp only [jp, List.not_mem_nil, or_false] at hz
   have := (Ey l n y).1 hy
   omega
  | false => exact ZA l n
theorem IG (l : List Ia) : ∀ n, (Mi l n).length ≤ n
 | 0 => by simp [Mi]
 | n + 1 => by
  have := IG l n
  simp only [Mi]
  cases (l.any fun h => h.2.1.2.1 == ((n + 1 : Nat) : Int)) <;> simp <;> omega
def UT (l : List Ia) : Int := Tc (fun _ s (h : Ia) => cond (h.2.1.1 == 2 || h.2.1.1 == 8) (Fd .i64 s h.2.1.2.2.1) s) 0 0 l
def Yb (l : List Ia) : Aa := (UT l, Mi l 56, ())
theorem Vz {a : Va} (h : Jc a = true) : 0 ≤ a.2.1 ∧ a.2.1 ≤ 56 := by
 rw [Ob] at h
 unfold Pc at h
 omega
theorem CF (l : List Int) (x : Int) (hn : l.length ≤ Ab) : Jw l x = some (l.any (fun y => y == x), ()) := by
 have hlim := Td
 have hl := Xf (step := fun y => Ys y.1.1 y.1.2.1 y.1.2.2.1 y.1.2.2.2.1) l (fun _ y => !(y == x)) (fun i => ((x, l, ((ja l : Nat) : Int), i, ()), ()))
  (.inl ((), ())) (.inr ((true, ()), ())) (by
   intro k hk
   simp only [Ys]
   rw [Ba (show (k : Int) < ((ja l : Nat) : Int) by omega), Qb hk]
   simp only [cond_true, jb]
   cases l[k] == x <;> rfl) (by
   simp only [Ys]
   rw [Ca (by omega)]; rfl) (by omega)
 unfold Jw Fu
 erw [hl]
 have : ∀ (l : List Int) (k : Nat), Pd (fun _ y => !(y == x)) k l = !l.any (fun y => y == x) := by
  intro l
  induction l with
  | nil => intro k; rfl
  | cons y l ih => intro k; simp only [Pd, List.any_cons, ih, Bool.not_or]
 rw [this]
 cases l.any (fun y => y == x) <;> rfl
theorem SD (l : List Ia) (hn : l.length ≤ Da) (hx : ∀ h ∈ l, 0 ≤ h.2.1.2.1 ∧ h.2.1.2.1 ≤ 56) : Uo (l.map fun h => h.2.1.2.1) = some (Mi l 56, ()) := by
 have h20 : Da = 1048576 := rfl
 have hlim := Td
 generalize hcs : (l.map fun h => h.2.1.2.1) = cs
 have hcl : cs.length = l.length := by rw [← hcs]; simp
 unfold Uo
 rw [Lx _ (by omega)]
 simp only [jb, sort_Ints, srt]
 rw [show jx (ja cs) Ab = true from ji (by omega)]
 simp only [cond_true, jb]
 generalize hss : (List.mergeSort cs fun x y => decide (x ≤ y)) = ss
 have hsl : ss.length = cs.length := by rw [← hss]; exact List.length_mergeSort _
 have hsm : ∀ x, x ∈ ss ↔ x ∈ cs := fun x => by rw [← hss]; exact List.mem_mergeSort
 have hsp : ss.Pairwise (· ≤ ·) := by
  rw [← hss]
  have := List.pairwise_mergeSort (le := fun x y : Int => decide (x ≤ y)) (by intro a b c; simp; omega) (by intro a b; simp; omega) cs
  exact this.imp (by intro a b h; simpa using h)
 have hl := (Qd (step := fun x => Hq x.1.1 x.1.2.1 x.1.2.2.1 x.1.2.2.2.1) ss (fun _ o x => JH o x) (fun o i => ((o, ss, ((ja ss : Nat) : Int), i, ()), ())) (fun o => .inl ((o, ()), ())) (fun k o => o.length ≤ k) (by
  intro k hk o ho
  have hd : (JH o ss[k]).length ≤ k + 1 := by
   unfold JH
   cases (ss[k] != 0) && !o.any (fun y => y == ss[k]) <;> simp <;> omega
  refine ⟨?_, hd⟩
  simp only [Hq]
  rw [Ba (show (k : Int) < ((ja ss : Nat) : Int) by omega), show Ql (ja ss) (k : Int) = true by rw [Tr]; exact Ba hk, jn, je hk]
  simp only [cond_true, jb]
  rw [CF _ _ (by omega), show jx (ja o + ja ([ss[k]] : List Int)) Ab = true from ji (by simp only [jw, j7]; omega)]
  simp only [jb, JH]
  cases ss[k] != 0 <;> cases o.any (fun y => y == ss[k]) <;> rfl)
  (by
   intro o _
   simp only [Hq]
   rw [Ca (by omega)]; rfl) (by omega) [] (jo _)).1
 unfold Ds
 erw [hl]
 simp only [jb, qi]
 congr 2
 refine DS (KR ss 0 [] (by simp) hsp (by simp)) (ZA l 56) fun x => ?_
 rw [show Tc (fun _ o x => JH o x) 0 [] ss = MU 0 [] ss from rfl, N4, Ey, hsm, ← hcs]
 simp only [List.not_mem_nil, false_or, qs]
 constructor
 ·rintro ⟨⟨h, hh, rfl⟩, h0⟩
  have := hx h hh
  exact ⟨by omega, h, hh, rfl⟩
 ·rintro ⟨h1, h, hh, rfl⟩
  exact ⟨⟨h, hh, rfl⟩, by omega⟩
theorem Fq (l : List Ia) (hn : l.length ≤ Da) (hv : Md l = true) : Xc l = some (Yb l, ()) := by
 have h20 : Da = 1048576 := rfl
 have hlim := Td
 have hh := Vp hv
 have hl := (Qd (step := fun x => Yn x.1.1 x.1.2.1 x.1.2.2.1 x.1.2.2.2.1 x.1.2.2.2.2.1 x.1.2.2.2.2.2.1 x.2.1 x.2.2.1) l
  (fun _ (s : Int × List Int) (h : Ia) => (cond (h.2.1.1 == 2 || h.2.1.1 == 8) (Fd .i64 s.1 h.2.1.2.2.1) s.1, jf s.2 [h.2.1.2.1])) (fun s i => (((), (), s.2, l, ((ja l : Nat) : Int), i, ()), (((0 : Int), ([] : List Int), ()), (s.1, ([] : List Int), ()), ())))
  (fun s => .inl (((), (), s.2, ()), (((0 : Int), ([] : List Int), ()), (s.1, ([] : List Int), ()), ()))) (fun k s => s.2.length = k) (by
   intro k hk s hs
   refine ⟨?_, by simp [hs]⟩
   simp only [Yn]
   rw [Ba (show (k : Int) < ((ja l : Nat) : Int) by omega), Qb hk]
   simp only [cond_true, jb]
   rw [show jx (ja s.2 + ja ([l[k].2.1.2.1] : List Int)) Ab = true from ji (by simp only [jw, j7]; omega)]
   cases l[k].2.1.1 == 2 <;> cases l[k].2.1.1 == 8 <;> rfl)
  (by
   intro s _
   simp only [Yn]
   rw [Ca (by omega)]; rfl) (by omega) (0, []) rfl).1
 have key : ∀ (l : List Ia) (k : Nat) (s : Int × List Int), Tc (fun _ (s : Int × List Int) (h : Ia) => (cond (h.2.1.1 == 2 || h.2.1.1 == 8) (Fd .i64 s.1 h.2.1.2.2.1) s.1, jf s.2 [h.2.1.2.1])) k s l =
  (Tc (fun _ s (h : Ia) => cond (h.2.1.1 == 2 || h.2.1.1 == 8) (Fd .i64 s h.2.1.2.2.1) s) k s.1 l, s.2 ++ l.map fun h => h.2.1.2.1) := by
  intro l
  induction l with
  | nil => intro k s; simp [Tc]
  | cons x l ih => intro k s; simp only [Tc]; rw [ih]; simp
 unfold Xc Dq
 rw [Av _ hn, hv]
 simp only [jb, jg, cond_false]
 erw [hl]
 rw [key]
 simp only [jb, qi, List.nil_append]
 rw [SD l hn (fun h hm => Vz (hh h hm).act)]
 rfl
theorem SN (l : List Ia) (hn : l.length ≤ Da) (c : Nat) (hc : c ≤ 56) (m : Int) (o : List Int) (ho : o.length ≤ 56) :
 Oj ((l, (), (), (c : Int), (0 : Int), ()), (((0 : Int), ([] : List Int), ()), (m, o, ()), ())) =
  some (.inl ((l, (), (), (c : Int), ()), (((0 : Int), ([] : List Int), ()), (m, cond (l.any fun h => h.2.1.2.1 == (c : Int)) (jf o [(c : Int)]) o, ()), ()))) := by
 have h20 : Da = 1048576 := rfl
 have hl := Xf (step := fun x => Um x.1.1 x.1.2.1 x.1.2.2.1 x.1.2.2.2.1 x.1.2.2.2.2.1 x.2.1 x.2.2.1) l (fun _ (h : Ia) => !(h.2.1.2.1 == (c : Int))) (fun i => ((l, (), (), (c : Int), i, ()), (((0 : Int), ([] : List Int), ()), (m, o, ()), ())))
  (.inl ((l, (), (), (c : Int), ()), (((0 : Int), ([] : List Int), ()), (m, o, ()), ()))) (.inl ((l, (), (), (c : Int), ()), (((0 : Int), ([] : List Int), ()), (m, jf o [(c : Int)], ()), ()))) (by
   intro k hk
   simp only [Um]
   rw [Ba (show (k : Int) < ((ja l : Nat) : Int) by omega), Qb hk]
   simp only [cond_true, jb]
   rw [show jx (ja o + ja ([(c : Int)] : List Int)) Ab = true from ji (by simp only [jw, j7, Td]; omega)]
   cases l[k].2.1.2.1 == (c : Int) <;> rfl) (by
   simp only [Um]
   rw [Ca (by omega)]; rfl) (by omega)
 have e : ∀ (l : List Ia) (k : Nat), Pd (fun _ (h : Ia) => !(h.2.1.2.1 == (c : Int))) k l = !l.any fun h => h.2.1.2.1 == (c : Int) := by
  intro l
  induction l with
  | nil => intro k; rfl
  | cons y l ih => intro k; simp only [Pd, List.any_cons, ih, Bool.not_or]
 unfold Oj
 erw [hl]
 rw [e]
 cases l.any fun h => h.2.1.2.1 == (c : Int) <;> rfl
theorem Tq (l : List Ia) (hn : l.length ≤ Da) (hv : Md l = true) : Dd l = some (Yb l, ()) := by
 have h20 : Da = 1048576 := rfl
 have h1 := (Qd (step := fun x => Ko x.1.1 x.1.2.1 x.1.2.2.1 x.1.2.2.2.1 x.2.1 x.2.2.1) l
  (fun _ s (h : Ia) => cond (h.2.1.1 == 2 || h.2.1.1 == 8) (Fd .i64 s h.2.1.2.2.1) s) (fun s i => ((l, (), (), i, ()), (((0 : Int), ([] : List Int), ()), (s, ([] : List Int), ()), ())))
  (fun s => .inl ((l, (), (), ()), (((0 : Int), ([] : List Int), ()), (s, ([] : List Int), ()), ()))) (fun _ _ => True) (by
   intro k hk s _
   refine ⟨?_, trivial⟩
   simp only [Ko]
   rw [Ba (show (k : Int) < ((ja l : Nat) : Int) by omega), Qb hk]
   simp only [cond_true, jb]
   cases l[k].2.1.1 == 2 <;> cases l[k].2.1.1 == 8 <;> rfl)
  (by
   intro s _
   simp only [Ko]
   rw [Ca (by omega)]; rfl) (by omega) 0 trivial).1
 have h2 := BE (step := fun x => Tm x.1.1 x.1.2.1 x.1.2.2.1 x.1.2.2.2.1 x.2.1 x.2.2.1) (fun k => ((l, (), (), ((k + 1 : Nat) : Int), ()), (((0 : Int), ([] : List Int), ()), (UT l, Mi l k, ()), ()))) 56
  (.inl (((), (), ()), (((0 : Int), ([] : List Int), ()), (UT l, Mi l 56, ()), ()))) (by
   intro k hk
   simp only [Tm]
   have hlen := IG l k
   rw [Ba (show ((k + 1 : Nat) : Int) ≤ 56 by omega), SN l hn (k + 1) (by omega) (UT l) (Mi l k) (by omega)]
   simp only [cond_true, jb, qi]
   rw [Df (by omega)]
   rfl) (by
   simp only [Tm]
   rw [Ca (by decide)]; rfl)
 unfold Dd Sq Gp
 rw [Lv _ hn, hv]
 simp only [jb, jg, cond_false]
 erw [h1]
 simp only [jb, qi]
 erw [h2]
 rfl
theorem CR (l : List Int) (x : Int) (hn : l.length ≤ Ab) : IA l x = some (l.any (fun y => y == x), ()) := by
 have hlim := Td
 have hl := Xf (step := fun y : (List Int × Int × Int × Unit) × Unit => Kt y.1.1 y.1.2.1 y.1.2.2.1) l (fun _ y => !(y == x)) (fun i => ((l, x, i, ()), ()))
  (.inl ((), ())) (.inr ((true, ()), ())) (by
   intro k hk
   simp only [Kt]
   rw [Ba (by omega), Qb hk]
   simp only [cond_true, jb]
   cases l[k] == x <;> rfl) (by
   simp only [Kt]
   rw [Ca (by omega)]
   rfl) (by omega)
 unfold IA Ru
 erw [hl]
 have e : Pd (fun _ y => !(y == x)) 0 l = !l.any (fun y => y == x) := by
  apply KX
  rw [Rp]
  simp only [Bool.not_eq_true', List.any_eq_false]
  constructor
  ·intro h y hy
   obtain ⟨k, hk, rfl⟩ := qr hy
   have := h k hk
   simpa using this
  ·intro h j hj
   have := h l[j] (qp hj)
   simpa using this
 rw [e]
 cases l.any (fun y => y == x) <;> rfl
def Nx (a : Aa) (o : List Int) (x : Int) : List Int := cond (!a.2.1.any (fun y => y == x)) (jf o [x]) o
def UC (a b : Aa) : List Int := cond (Vf a && Vf b) (Tc (fun _ o x => Nx a o x) 0 [] b.2.1) []
theorem RV (a : Aa) : ∀ (l : List Int) (k : Nat) (o : List Int), (Tc (fun _ o x => Nx a o x) k o l).length ≤ o.length + l.length
 | [], _, o => by simp [Tc]
 | x :: r, k, o => by
  simp only [Tc]
  have := RV a r (k + 1) (Nx a o x)
  have h2 : (Nx a o x).length ≤ o.length + 1 := by unfold Nx; cases !a.2.1.any (fun y => y == x) <;> simp
  simp only [jw]
  omega
theorem FN (a b : Aa) : (UC a b).length ≤ 56 := by
 unfold UC
 cases ha : Vf a with
 | false => simp
 | true =>
  cases hb : Vf b with
  | false => simp
  | true =>
   have := RV a b.2.1 0 []
   have := S4 hb
   simp only [qn, cond_true]
   simp at *
   omega
theorem YO (a b : Aa) (ha : a.2.1.length ≤ Da) (hb : b.2.1.length ≤ Da) : Iy a b = some (UC a b, ()) := by
 have h20 : Da = 1048576 := rfl
 have hlim := Td
 unfold Iy UC
 rw [OC a ha]
 cases Vf a with
 | false => rfl
 | true =>
  simp only [jb, jg, cond_false, jk]
  rw [OC b hb]
  cases Vf b with
  | false => rfl
  | true =>
   simp only [jb, jg, cond_false, cond_true]
   have hl := (Qd (step := fun x : (Unit × List Int × List Int × Int × Int × Unit) × Aa × Unit => Cq x.1.1 x.1.2.1 x.1.2.2.1 x.1.2.2.2.1 x.1.2.2.2.2.1 x.2.1) b.2.1 (fun _ o x => Nx a o x)
    (fun o k => (((), o, b.2.1, (b.2.1.length : Int), k, ()), (a, ()))) (fun o => .inl ((o, ()), ())) (fun k o => o.length ≤ k) (fun k hk o ho => by
     have hg : (Nx a o b.2.1[k]).length ≤ k + 1 := by
      have : (Nx a o b.2.1[k]).length ≤ o.length + 1 := by unfold Nx; cases !a.2.1.any (fun y => y == b.2.1[k]) <;> simp
      omega
     refine ⟨?_, hg⟩
     simp only [Cq]
     rw [Ba (by omega), Qb hk]
     simp only [cond_true, jb]
     rw [CF _ _ (by omega)]
     simp only [jb, Nx]
     cases !a.2.1.any (fun y => y == b.2.1[k]) with
     | false => rfl
     | true =>
      simp only [cond_true]
      rw [Sh (by simp only [jw, j7]; omega)]
      rfl) (fun o ho => by
     simp only [Cq]
     rw [Ca (by omega)]
     rfl) (by omega) [] (by simp)).1
   unfold Cs
   erw [hl]
   rfl
theorem RP (a b : Aa) (ha : a.2.1.length ≤ Da) (hb : b.2.1.length ≤ Da) : Ry a b = some (UC a b, ()) := by
 have h20 : Da = 1048576 := rfl
 have hlim := Td
 unfold Ry UC Hs
 cases hv : Vf a && Vf b with
 | false =>
  rw [Hc (z := some (.inr (.inl (([], ()), ())))) (by
   simp only [Jl]
   rw [Rq a ha, Rq b hb]
   cases decide ((0 : Int) < ((ja b.2.1 : Nat) : Int)) with
   | false => rfl
   | true =>
    cases h1 : Vf a with
    | false => rfl
    | true =>
     cases h2 : Vf b with
     | false => rfl
     | true => rw [h1, h2] at hv; simp at hv)]
  rfl
 | true =>
  simp only [jd] at hv
  have hl := (Qd (step := fun x : (Unit × Unit × List Int × Int × Unit) × Aa × Aa × Unit => Jl x.1.1 x.1.2.1 x.1.2.2.1 x.1.2.2.2.1 x.2.1 x.2.2.1) b.2.1 (fun _ o x => Nx a o x)
   (fun o k => (((), (), o, k, ()), (a, b, ()))) (fun o => .inl ((o, ()), ())) (fun k o => o.length ≤ k) (fun k hk o ho => by
    have hg : (Nx a o b.2.1[k]).length ≤ k + 1 := by
     have : (Nx a o b.2.1[k]).length ≤ o.length + 1 := by unfold Nx; cases !a.2.1.any (fun y => y == b.2.1[k]) <;> simp
     omega
    refine ⟨?_, hg⟩
    simp only [Jl]
    rw [Ba (by omega), Qb hk, Rq a ha, Rq b hb, hv.1, hv.2]
    simp only [cond_true, jb]
    rw [CR _ _ (by omega)]
    simp only [jb, Nx]
    cases !a.2.1.any (fun y => y == b.2.1[k]) with
    | false => rfl
    | true =>
     simp only [cond_true]
     rw [Sh (by simp only [jw, j7]; omega)]
     rfl) (fun o ho => by
    simp only [Jl]
    rw [Ca (by omega)]
    rfl) (by omega) [] (by simp)).1
  erw [hl]
  rfl
theorem JI (c m : Int) : (Ck c m).length ≤ 1 := by
 have h0 : ∀ x ∈ J3, x.length ≤ 1 := by decide +kernel
 have h2 : ∀ x ∈ K3, x.length ≤ 1 := by decide +kernel
 have hg : ∀ (l : List (List UInt8)) (i : Nat), (∀ x ∈ l, x.length ≤ 1) → (l.getD i []).length ≤ 1 := by
  intro l i h
  rw [qh]
  cases hc : l[i]? with
  | none => simp
  | some y => exact h y (List.mem_of_getElem? hc)
 unfold Ck
 cases m == 0 with
 | true => exact hg _ _ h0
 | false =>
  cases m == 2 with
  | true => exact hg _ _ h2
  | false => simp
def ZP (m : Int) (o : List UInt8) (k : Int) : List UInt8 := jf o (Ck k m)
def H7 (m : Int) (o : List UInt8) (l : List Int) : List UInt8 := Tc (fun _ o k => ZP m o k) 0 o l
theorem LX (m : Int) : ∀ (l : List Int) (k : Nat) (o : List UInt8), (Tc (fun _ o k => ZP m o k) k o l).length ≤ o.length + l.length
 | [], _, o => by simp [Tc]
 | x :: r, k, o => by
  simp only [Tc]
  have := LX m r (k + 1) (ZP m o x)
  have h2 : (ZP m o x).length ≤ o.length + 1 := by
   have := JI x m
   simp [ZP]; omega
  simp only [jw]
  omega
def L3 (s : Aa × List UInt8) (r : Aa) : Aa × List UInt8 := (r, H7 r.1 s.2 (UC s.1 r))
def Naa (a : Aa) (l : List Aa) : List UInt8 := (Tc (fun _ s r => L3 s r) 0 (a, []) l).2
structure P1 (k : Nat) (s : Aa × List UInt8) : Prop where
 r : s.1.2.1.length ≤ Da
 t : s.2.length ≤ 56 * k
theorem OW {k : Nat} {s : Aa × List UInt8} (h : P1 k s) {r : Aa} (hr : r.2.1.length ≤ Da) : P1 (k + 1) (L3 s r) := by
 refine ⟨hr, ?_⟩
 have h1 := LX r.1 (UC s.1 r) 0 s.2
 have h2 := FN s.1 r
 have h3 := h.t
 show (H7 r.1 s.2 (UC s.1 r)).length ≤ _
 unfold H7
 omega
theorem LS (a r : Aa) (L : List Aa) (n i : Int) (l : List Int) (hl : l.length ≤ 56) (o : List UInt8) (ho : o.length ≤ 100000000) :
 To (((), o, (), L, n, i, l, ((ja l : Nat) : Int), (0 : Int), ()), (a, r, ())) = some (.inl (((), H7 r.1 o l, (), L, n, i, ()), (a, r, ()))) := by
 have h := (Qd (step := fun x : (Unit × List UInt8 × Unit × List Aa × Int × Int × List Int × Int × Int × Unit) × Aa × Aa × Unit => Im x.1.1 x.1.2.1 x.1.2.2.1 x.1.2.2.2.1 x.1.2.2.2.2.1 x.1.2.2.2.2.2.1 x.1.2.2.2.2.2.2.1 x.1.2.2.2.2.2.2.2.1 x.1.2.2.2.2.2.2.2.2.1 x.2.1 x.2.2.1) l (fun _ o k => ZP r.1 o k)
  (fun o k => (((), o, (), L, n, i, l, (l.length : Int), k, ()), (a, r, ()))) (fun o => .inl (((), o, (), L, n, i, ()), (a, r, ()))) (fun k o' => o'.length ≤ o.length + k) (fun k hk o' ho' => by
   have hc := JI l[k] r.1
   refine ⟨?_, by simp only [ZP, List.append_eq, qd]; omega⟩
   simp only [Im]
   rw [Ba (by omega), Tr, Ba hk]
   simp only [cond_true, jn]
   rw [je hk]
   simp only [jb]
   rw [Lz]
   simp only [jb]
   rw [Sh (by omega)]
   rfl) (fun o' ho' => by
   simp only [Im]
   rw [Ca (by omega)]
   rfl) (by omega) o (by omega)).1
 exact h
noncomputable def Br (m : Ka) (ch t : Int) : List Ma :=
 cond ((Wc ch).1 == 0) []
  (cond (decide (Ue m (Wc ch).1 (Wc ch).2.1 ≥ 0)) [(t, Ue m (Wc ch).1 (Wc ch).2.1, true, ()), (t, Ue m (Wc ch).1 (Wc ch).2.1, false, ())]
   (cond ((Wc ch).2.1 == 0 || decide (Ue m (Wc ch).1 0 < 0) || decide (Ue m 0 (Wc ch).2.1 < 0)) []
    [(t, Ue m 0 (Wc ch).2.1, true, ()), (t, Ue m (Wc ch).1 0, true, ()), (t, Ue m (Wc ch).1 0, false, ()), (t, Ue m 0 (Wc ch).2.1, false, ())]))
noncomputable def MA (m : Ka) (ch : Int) : Bool :=
 cond ((Wc ch).1 == 0) false
  (cond (decide (Ue m (Wc ch).1 (Wc ch).2.1 ≥ 0)) true
   (cond ((Wc ch).2.1 == 0 || decide (Ue m (Wc ch).1 0 < 0) || decide (Ue m 0 (Wc ch).2.1 < 0)) false true))
theorem RB (m : Ka) (ch t : Int) : (Br m ch t).length ≤ 4 ∧ (((ja (Br m ch t) : Nat) : Int) == 0) = !MA m ch := by
 unfold Br MA
 cases (Wc ch).1 == 0 with
 | true => exact ⟨by simp, by simp⟩
 | false =>
  cases decide (Ue m (Wc ch).1 (Wc ch).2.1 ≥ 0) with
  | true => exact ⟨by simp, by simp⟩
  | false =>
   cases ((Wc ch).2.1 == 0 || decide (Ue m (Wc ch).1 0 < 0) || decide (Ue m 0 (Wc ch).2.1 < 0)) with
   | true => exact ⟨by simp, by simp⟩
   | false => exact ⟨by simp, by simp⟩
theorem AL {m : Ka} (hm : Pt m) (ch t : Int) : Dv m ch t = some (Br m ch t, MA m ch, ()) := by
 unfold Dv Br MA
 rw [KS]
 simp only [jb, OQ hm]
 cases (Wc ch).1 == 0 with
 | true => rfl
 | false =>
  cases decide (Ue m (Wc ch).1 (Wc ch).2.1 ≥ 0) with
  | true => rfl
  | false => cases (Wc ch).2.1 == 0 <;> cases decide (Ue m (Wc ch).1 0 < 0) <;> cases decide (Ue m 0 (Wc ch).2.1 < 0) <;> rfl
theorem TP {m : Ka} (hz : Wa Bb m ≤ Da) (hv : Ac m = true) (ch t : Int) : Uy m ch t = some (Br m ch t, ()) := by
 have hb := L9 ch
 unfold Uy Br
 rw [SS]
 simp only [jb, AR _ _ _ hz, hv, Ba hb, Ba (show (0 : Int) ≤ 0 ∧ (0 : Int) ≤ 56 by omega), qn, cond_true]
 cases (Wc ch).1 == 0 with
 | true => rfl
 | false =>
  cases decide (Ue m (Wc ch).1 (Wc ch).2.1 ≥ 0) with
  | true => rfl
  | false => cases (Wc ch).2.1 == 0 <;> cases decide (Ue m (Wc ch).1 0 < 0) <;> cases decide (Ue m 0 (Wc ch).2.1 < 0) <;> rfl
noncomputable def PE (m : Ka) (k : Nat) (l : List Ma) (c : UInt8) : List Ma ⊕ Unit :=
 cond (MA m ((c.toNat : Nat) : Int)) (.inl (jf l (Br m ((c.toNat : Nat) : Int) (k : Int)))) (.inr ())
noncomputable def Hx (m : Ka) (s : List UInt8) : List Ma × (Bool × Unit) :=
 cond (!Ac m || decide (((ja s : Nat) : Int) > 60)) ([], false, ())
  (match Oc (PE m) 0 [] s with
   | .inl l => cond (decide (((ja l : Nat) : Int) > 64)) ([], false, ()) (l, true, ())
   | .inr _ => ([], false, ()))
theorem HU {m : Ka} {k : Nat} {l l' : List Ma} {c : UInt8} (h : PE m k l c = .inl l') (hl : l.length ≤ 4 * k) : l'.length ≤ 4 * (k + 1) := by
 unfold PE at h
 cases hc : MA m ((c.toNat : Nat) : Int) with
 | false => rw [hc] at h; simp at h
 | true =>
  rw [hc] at h
  simp only [cond_true, Sum.inl.injEq] at h
  subst h
  have := (RB m ((c.toNat : Nat) : Int) (k : Int)).1
  have e : (jf l (Br m ((c.toNat : Nat) : Int) (k : Int))).length = l.length + (Br m ((c.toNat : Nat) : Int) (k : Int)).length := by simp
  omega
theorem YK (m : Ka) (s : List UInt8) (hz : Wa Bb m ≤ Da) : Zu m s = some (Hx m s) := by
 unfold Zu Hx
 rw [Kx m hz]
 cases hv : Ac m with
 | false => rfl
 | true =>
  have hm := Wf hv
  by_cases h60 : ((ja s : Nat) : Int) > 60
  ·rw [Ba h60]; rfl
  have hl := Tf (step := fun x : (((List UInt8) × (Unit × ((List Ma) × (Int × Unit)))) × (Ka × Unit)) => Dm x.1.1 x.1.2.1 x.1.2.2.1 x.1.2.2.2.1 x.2.1)
   s (PE m) (fun l k => ((s, (), l, k, ()), (m, ()))) (fun l => .inl ((l, ()), ())) (fun _ => .inr (([], false, ()), ())) (fun k l => l.length ≤ 4 * k) (by
    intro k hk l hi
    refine ⟨?_, fun l' h => HU h hi⟩
    simp only [Dm]
    rw [Ba (show (k : Int) < ((ja s : Nat) : Int) by omega), Qb hk]
    simp only [cond_true, jb, AL hm, PE]
    cases MA m ((s[k].toNat : Nat) : Int) with
    | false => rfl
    | true =>
     have := (RB m ((s[k].toNat : Nat) : Int) (k : Int)).1
     simp only [jg, cond_false, cond_true]
     rw [show jx (ja l + ja (Br m ((s[k].toNat : Nat) : Int) (k : Int))) Ab = true from ji (by rw [Td]; omega)]
     rfl) (by
    intro l _
    simp only [Dm]
    rw [Ca (by omega)]; rfl) (by omega) [] (by simp)
  rw [Ca h60]
  unfold Po
  simp only [jb, jg, cond_false]
  erw [hl]
  cases Oc (PE m) 0 [] s with
  | inr _ => rfl
  | inl l =>
   simp only [jb, qi]
   show (cond (decide (((ja l : Nat) : Int) > 64)) _ _) = some (cond (decide (((ja l : Nat) : Int) > 64)) _ _)
   cases decide (((ja l : Nat) : Int) > 64) <;> rfl
theorem CL (m : Ka) (s : List UInt8) (hz : Wa Bb m ≤ Da) : Kv m s = some (Hx m s) := by
 unfold Kv Hx
 rw [Gl m hz]
 cases hv : Ac m with
 | false => rfl
 | true =>
  by_cases h60 : ((ja s : Nat) : Int) > 60
  ·rw [Ba h60]; rfl
  have hl := Tf (step := fun x : (((List UInt8) × (Unit × ((List Ma) × (Int × Unit)))) × (Ka × Unit)) => Rm x.1.1 x.1.2.1 x.1.2.2.1 x.1.2.2.2.1 x.2.1)
   s (PE m) (fun l k => ((s, (), l, k, ()), (m, ()))) (fun l => .inl ((l, ()), ())) (fun _ => .inr (([], false, ()), ())) (fun k l => l.length ≤ 4 * k) (by
    intro k hk l hi
    refine ⟨?_, fun l' h => HU h hi⟩
    simp only [Rm]
    rw [Ba (show (k : Int) < ((ja s : Nat) : Int) by omega), Qb hk]
    simp only [cond_true, jb, TP hz hv, PE, (RB m _ _).2]
    cases MA m ((s[k].toNat : Nat) : Int) with
    | false => rfl
    | true =>
     have := (RB m ((s[k].toNat : Nat) : Int) (k : Int)).1
     simp only [jg, cond_false, cond_true]
     rw [show jx (ja l + ja (Br m ((s[k].toNat : Nat) : Int) (k : Int))) Ab = true from ji (by rw [Td]; omega)]
     rfl) (by
    intro l _
    simp only [Rm]
    rw [Ca (by omega)]; rfl) (by omega) [] (by simp)
  rw [Ca h60]
  unfold Ep
  simp only [jb, jg, cond_false]
  erw [hl]
  cases Oc (PE m) 0 [] s with
  | inr _ => rfl
  | inl l =>
   simp only [jb, qi]
   show (cond (decide (((ja l : Nat) : Int) > 64)) _ _) = some (cond (decide (((ja l : Nat) : Int) > 64)) _ _)
   cases decide (((ja l : Nat) : Int) > 64) <;> rfl
theorem IU (m : Ka) (s : List UInt8) : (Hx m s).1.length ≤ 64 := by
 unfold Hx
 cases (!Ac m || decide (((ja s : Nat) : Int) > 60)) with
 | true => simp
 | false =>
  simp only [cond_false]
  cases Oc (PE m) 0 [] s with
  | inr _ => simp
  | inl l =>
   by_cases h : ((ja l : Nat) : Int) > 64
   ·simp only [Ba h, cond_true]; simp
   ·simp only [Ca h, cond_false]; omega
def Ev (c : Int) : Bool := decide (1 ≤ c ∧ c ≤ 36) || ((c == 39) || (c == 42))
theorem OI (c : Int) : Ts c = some (Ev c, ()) := by
 unfold Ts Ev
 by_cases h1 : c ≥ 1
 ·by_cases h2 : c ≤ 36
  ·rw [Ba h1, Ba h2, Ba (show 1 ≤ c ∧ c ≤ 36 by omega)]; rfl
  ·rw [Ba h1, Ca h2, Ca (show ¬ (1 ≤ c ∧ c ≤ 36) by omega)]
   cases c == 39 <;> rfl
 ·rw [Ca h1, Ca (show ¬ (1 ≤ c ∧ c ≤ 36) by omega)]
  cases c == 39 <;> rfl
theorem MJ (c : Int) : Gt c = some (Ev c, ()) := by
 unfold Gt Ev
 rw [Cc]
 cases decide (1 ≤ c ∧ c ≤ 36) <;> cases c == 39 <;> rfl
def Zv (f o : Int) (c : Bool) (a : Va) : Int × Int × Bool × Va :=
 cond (a.1 == 2) (cond (a.2.1 == 0) (f, o, c, a) (f, 0, c && Ev a.2.1, a.1, a.2.1, cond ((c && Ev a.2.1) && (decide (a.2.1 ≤ 26) && (Eh .i64 (Fd .i64 a.2.2.1 o) 2 == 0))) 2 (Fd .i64 a.2.2.1 o), a.2.2.2))
  (cond (a.1 == 4) (Yv .i64 f (De .i64 1 a.2.2.2.1), o, c, a) (cond (a.1 == 5) (Eh .i64 (De .i64 1 a.2.2.2.1) 1, o, c, a)
   (cond (a.1 == 8) (f, cond (Pf .i64 o a.2.2.1 == a.2.2.1) (Eh .i64 o a.2.2.1) (Fd .i64 o a.2.2.1), c, a) (cond (a.1 == 10) (f, o, !c, a) (f, o, c, a)))))
theorem Az {a : Va} (h : Jc a = true) : 0 ≤ a.2.2.2.1 := by
 rw [Ob] at h
 unfold Pc at h
 omega
theorem FF (m : Ka) (M : List (List Vb)) (f o : Int) (h : List Ia) (c : Bool) (a : Va) (ha : Jc a = true) :
 Nn (m, M, f, h, o, c, ()) a = some ((m, M, (Zv f o c a).1, h, (Zv f o c a).2.1, (Zv f o c a).2.2.1, ()), (Zv f o c a).2.2.2, ()) := by
 have hn := Az ha
 unfold Nn Zv
 rw [Ba hn]
 cases a.1 == 2 with
 | true =>
  cases a.2.1 == 0 with
  | true => rfl
  | false =>
   simp only [cond_true, cond_false, OI, jb]
   cases c with
   | false => rfl
   | true =>
    cases Ev a.2.1 with
    | false => rfl
    | true => cases decide (a.2.1 ≤ 26) <;> cases Eh .i64 (Fd .i64 a.2.2.1 o) 2 == 0 <;> rfl
 | false =>
  cases a.1 == 4 with
  | true => rfl
  | false =>
   cases a.1 == 5 with
   | true => rfl
   | false =>
    cases a.1 == 8 with
    | true => cases Pf .i64 o a.2.2.1 == a.2.2.1 <;> rfl
    | false => cases a.1 == 10 <;> rfl
theorem RF (m : Ka) (M : List (List Vb)) (f o : Int) (h : List Ia) (c : Bool) (a : Va) (ha : Jc a = true) :
 Yj (m, M, f, h, o, c, ()) a = some ((m, M, (Zv f o c a).1, h, (Zv f o c a).2.1, (Zv f o c a).2.2.1, ()), (Zv f o c a).2.2.2, ()) := by
 have hn := Az ha
 have hcode := Vz ha
 unfold Yj Zv AH
 rw [Ba hn]
 cases a.1 == 2 with
 | true =>
  by_cases h0 : a.2.1 = 0
  ·rw [Ca (show ¬ a.2.1 > 0 by omega), show (a.2.1 == 0) = true by simp [h0]]; rfl
  ·rw [Ba (show a.2.1 > 0 by omega), show (a.2.1 == 0) = false by simp [h0]]
   simp only [cond_true, cond_false, MJ, jb]
   cases Ev a.2.1 with
   | false => cases c <;> rfl
   | true =>
    cases c with
    | false => rfl
    | true => cases decide (a.2.1 ≤ 26) <;> cases Eh .i64 (Fd .i64 a.2.2.1 o) 2 == 0 <;> rfl
 | false =>
  cases a.1 == 4 with
  | true => rfl
  | false =>
   cases a.1 == 5 with
   | true => rfl
   | false =>
    cases a.1 == 8 with
    | true => cases Pf .i64 o a.2.2.1 == a.2.2.1 <;> rfl
    | false => cases a.1 == 10 <;> rfl
theorem Xac : ∀ f : Fin 16, ∀ n : Fin 4, ∀ l : Fin 5, 1 ≤ n.val → n.val < l.val → f.val < 2 ^ l.val → f.val % 2 = 0 →
 0 ≤ Yv .i64 (f.val : Int) (De .i64 1 (n.val : Int)) ∧ Yv .i64 (f.val : Int) (De .i64 1 (n.val : Int)) < ((2 ^ l.val : Nat) : Int) ∧ (Yv .i64 (f.val : Int) (De .i64 1 (n.val : Int))).tmod 2 = 0 := by decide +kernel
theorem Vae : ∀ n : Fin 4, ∀ l : Fin 5, n.val < l.val →
 0 ≤ Eh .i64 (De .i64 1 (n.val : Int)) 1 ∧ Eh .i64 (De .i64 1 (n.val : Int)) 1 < ((2 ^ l.val : Nat) : Int) ∧ (Eh .i64 (De .i64 1 (n.val : Int)) 1).tmod 2 = 0 := by decide +kernel
theorem BZ : ∀ o m : Fin 16, (0 ≤ Eh .i64 (o.val : Int) (m.val : Int) ∧ Eh .i64 (o.val : Int) (m.val : Int) ≤ 15) ∧ (0 ≤ Fd .i64 (o.val : Int) (m.val : Int) ∧ Fd .i64 (o.val : Int) (m.val : Int) ≤ 15) := by decide +kernel
structure AM (nl : Nat) (f o : Int) : Prop where
 f0 : 0 ≤ f
 f1 : f < ((2 ^ nl : Nat) : Int)
 f2 : f.tmod 2 = 0
 o0 : 0 ≤ o
 o1 : o ≤ 15
structure ZL (nl : Nat) (a : Va) : Prop where
 act : Jc a = true
 n1 : a.1 ≠ 1
 n6 : a.1 ≠ 6
 n7 : a.1 ≠ 7
 n : a.1 ≠ 9 → a.2.2.2.1 < (nl : Int)
theorem Daj {a b : Int} (ha : 0 ≤ a ∧ a ≤ 15) (hb : 0 ≤ b ∧ b ≤ 15) : 0 ≤ Fd .i64 a b ∧ Fd .i64 a b ≤ 15 := by
 obtain ⟨n, rfl⟩ := jv ha.1
 obtain ⟨m, rfl⟩ := jv hb.1
 exact (BZ ⟨n, by omega⟩ ⟨m, by omega⟩).2
theorem Tag {a b : Int} (ha : 0 ≤ a ∧ a ≤ 15) (hb : 0 ≤ b ∧ b ≤ 15) : 0 ≤ Eh .i64 a b ∧ Eh .i64 a b ≤ 15 := by
 obtain ⟨n, rfl⟩ := jv ha.1
 obtain ⟨m, rfl⟩ := jv hb.1
 exact (BZ ⟨n, by omega⟩ ⟨m, by omega⟩).1
theorem Eaj {nl : Nat} (h : nl ≤ 4) : 2 ^ nl ≤ 16 := qk (n := 2) (by omega) h
theorem Gaj {nl : Nat} (hnl : nl ≤ 4) {f o : Int} {c : Bool} {a : Va} (hs : AM nl f o) (ha : ZL nl a) :
 AM nl (Zv f o c a).1 (Zv f o c a).2.1 ∧ ZL nl (Zv f o c a).2.2.2 := by
 have hP := ha.act
 rw [Ob] at hP
 unfold Pc at hP
 have h16 := Eaj hnl
 obtain ⟨k, code, mods, n, u⟩ := a
 have hn1 := ha.n1; have hn6 := ha.n6; have hn7 := ha.n7; have hnn := ha.n
 simp only at hP hn1 hn6 hn7 hnn
 have hf1 := hs.f1
 unfold Zv
 simp only
 by_cases h2 : k = 2
 ·subst h2
  by_cases h0 : code = 0
  ·subst h0; exact ⟨hs, ha⟩
  ·rw [show ((2 : Int) == 2) = true from rfl, show (code == 0) = false by simp [h0]]
   simp only [cond_true, cond_false]
   refine ⟨⟨hs.f0, hs.f1, hs.f2, by decide, by decide⟩, ?_⟩
   have hm := Daj (a := mods) (b := o) (by omega) ⟨hs.o0, hs.o1⟩
   refine ⟨?_, hn1, hn6, hn7, hnn⟩
   have hn0 : n = 0 := by omega
   have hcd : 1 ≤ code ∧ code ≤ 56 := by omega
   rw [Ob]
   cases ((c && Ev code) && (decide (code ≤ 26) && (Eh .i64 (Fd .i64 mods o) 2 == 0))) with
   | true => exact .inr (.inl ⟨rfl, hn0, .inr hcd, .inr ⟨by show (1 : Int) ≤ 2; decide, by show (2 : Int) ≤ 15; decide⟩, .inl (by show code ≠ 0; omega)⟩)
   | false =>
    refine .inr (.inl ⟨rfl, hn0, .inr hcd, ?_, .inl (by show code ≠ 0; omega)⟩)
    show Fd .i64 mods o = 0 ∨ 1 ≤ Fd .i64 mods o ∧ Fd .i64 mods o ≤ 15
    omega
 ·rw [show (k == 2) = false by simp [h2]]
  simp only [cond_false]
  by_cases h4 : k = 4
  ·subst h4
   have hr : 1 ≤ n ∧ n ≤ 3 := by omega
   have hlt := hnn (by omega)
   obtain ⟨fn, hfn⟩ := jv hs.f0
   obtain ⟨nn, hnn'⟩ := jv (show 0 ≤ n by omega)
   have hf2 := hs.f2
   rw [hfn] at hf1 hf2
   have hfl : fn < 2 ^ nl := Int.ofNat_lt.1 hf1
   have := Xac ⟨fn, by omega⟩ ⟨nn, by omega⟩ ⟨nl, by omega⟩ (by show 1 ≤ nn; omega) (by show nn < nl; omega) hfl (by
    rw [Int.tmod_eq_emod_of_nonneg (by omega)] at hf2; show fn % 2 = 0; omega)
   simp only [show ((4 : Int) == 4) = true from rfl, cond_true]
   rw [hfn, hnn']
   exact ⟨⟨this.1, this.2.1, this.2.2, hs.o0, hs.o1⟩, by rw [← hnn']; exact ha⟩
  ·rw [show (k == 4) = false by simp [h4]]
   simp only [cond_false]
   by_cases h5 : k = 5
   ·subst h5
    have hr : 0 ≤ n ∧ n ≤ 3 := by omega
    have hlt := hnn (by omega)
    obtain ⟨nn, hnn'⟩ := jv (show 0 ≤ n by omega)
    have := Vae ⟨nn, by omega⟩ ⟨nl, by omega⟩ (by show nn < nl; omega)
    simp only [show ((5 : Int) == 5) = true from rfl, cond_true]
    rw [hnn']
    exact ⟨⟨this.1, this.2.1, this.2.2, hs.o0, hs.o1⟩, by rw [← hnn']; exact ha⟩
   ·rw [show (k == 5) = false by simp [h5]]
    simp only [cond_false]
    by_cases h8 : k = 8
    ·subst h8
     have hm : 0 ≤ mods ∧ mods ≤ 15 := by omega
     simp only [show ((8 : Int) == 8) = true from rfl, cond_true]
     cases Pf .i64 o mods == mods with
     | true => have := Tag ⟨hs.o0, hs.o1⟩ hm; exact ⟨⟨hs.f0, hs.f1, hs.f2, this.1, this.2⟩, ha⟩
     | false => have := Daj ⟨hs.o0, hs.o1⟩ hm; exact ⟨⟨hs.f0, hs.f1, hs.f2, this.1, this.2⟩, ha⟩
    ·rw [show (k == 8) = false by simp [h8]]
     simp only [cond_false]
     cases k == 10 <;> exact ⟨hs, ha⟩
theorem R6 {m : Ka} (hm : Pt m) (on : Int) {k : Nat} (hk : (k : Int) < m.1) : Oi m.2.1.length (Ah m on k) (Yi m.2.1 (Ah m on k) k) = true ∧ (Yi m.2.1 (Ah m on k) k).1 ≠ 1 := by
 have hl := YD hm on k
 have hrow := hm.row _ hl
 have hk' : k < m.2.1[Ah m on k].length := by omega
 have hact := hm.act _ hl k hk'
 rw [BM hl hk']
 refine ⟨hact, ?_⟩
 have key : ∀ n, Oe m.2.1 on k n = 0 ∨ (Yi m.2.1 (Oe m.2.1 on k n) k).1 ≠ 1 := by
  intro n
  induction n with
  | zero => exact .inl rfl
  | succ n ih =>
   simp only [Oe]
   cases hc : ((Gn on ((n + 1 : Nat) : Int) == 1) && ((Yi m.2.1 (n + 1) k).1 != 1)) with
   | true =>
    simp only [jd, bne_iff_ne] at hc
    exact .inr hc.2
   | false => exact ih
 rcases key (m.2.1.length - 1) with h0 | h1
 ·have h0' : Ah m on k = 0 := h0
  intro h1
  simp only [Oi, jd, Bool.not_eq_true', Bool.and_eq_false_iff, beq_eq_false_iff_ne] at hact
  rcases hact.1.2 with h2 | h2
  ·exact h2 (by rw [h0']; rfl)
  ·exact h2 h1
 ·have e : Yi m.2.1 (Oe m.2.1 on k (m.2.1.length - 1)) k = m.2.1[Ah m on k][k] := BM hl hk'
  rw [e] at h1
  exact h1
theorem Uae {nl i : Nat} {a : Va} (h : Oi nl i a = true) (h1 : a.1 ≠ 1) : ZL nl (Hj a) := by
 have ha := EJ h
 have hP := ha
 rw [Ob] at hP
 unfold Pc at hP
 unfold Hj Je
 rw [ha]
 by_cases h67 : a.1 = 6 ∨ a.1 = 7
 ·have e : (true && ((a.1 == 6) || (a.1 == 7))) = true := by rcases h67 with h | h <;> rw [h] <;> rfl
  rw [e]
  simp only [cond_true]
  refine ⟨?_, by show (2 : Int) ≠ 1; decide, by show (2 : Int) ≠ 6; decide, by show (2 : Int) ≠ 7; decide, fun _ => ?_⟩
  ·rw [Ob]
   exact .inr (.inl ⟨rfl, rfl, .inr (by show 1 ≤ a.2.1 ∧ a.2.1 ≤ 56; omega), .inl rfl, .inl (by show a.2.1 ≠ 0; omega)⟩)
  ·show (0 : Int) < (nl : Int)
   have := RK h (by omega)
   omega
 ·have e : (true && ((a.1 == 6) || (a.1 == 7))) = false := by
   rw [jk, Bool.or_eq_false_iff, beq_eq_false_iff_ne, beq_eq_false_iff_ne]; omega
  rw [e]
  exact ⟨ha, h1, fun h => h67 (.inl h), fun h => h67 (.inr h), fun hk => RK h hk⟩
def Rv (m : Ka) (f o : Int) (c : Bool) (h : List Ia) : Ua := (m, [], f, h, o, c, ())
theorem C2 {m : Ka} (hv : Ac m = true) {f o : Int} (hs : AM m.2.1.length f o) (c : Bool) {h : List Ia} (hh : Md h = true) (hi : ∀ x ∈ h, Qi m.1 m.2.1.length x = true) : Uf (Rv m f o c h) = true := by
 have hk := Wf hv
 have e1 : Pd (fun _ x => Qi m.1 m.2.1.length x) 0 h = true := Rp.2 fun j hj => hi _ (qp hj)
 show (Ac m && (decide (([] : List (List Vb)).length ≤ 4) && (Md h && (true && (Pd (fun _ x => Qi m.1 m.2.1.length x) 0 h &&
  (decide (0 ≤ f ∧ f < ((2 ^ m.2.1.length : Nat) : Int)) && ((Int.tmod f 2 == 0) && decide (0 ≤ o ∧ o ≤ 15)))))))) = true
 rw [hv, hh, e1, Ba (⟨hs.f0, hs.f1⟩ : 0 ≤ f ∧ f < ((2 ^ m.2.1.length : Nat) : Int)), Ba (⟨hs.o0, hs.o1⟩ : 0 ≤ o ∧ o ≤ 15), hs.f2]
 rfl
theorem KK (m : Ka) (f o : Int) (c : Bool) (h : List Ia) : Wa Mb (Rv m f o c h) = Wa Bb m + h.length := by
 rw [Yk, Vk]
 have : Wa (.sl (.sl Ec)) (Rv m f o c h).2.1 = 0 := rfl
 rw [this, js]; rfl
theorem E2 {nl : Nat} (h4 : nl ≤ 4) {f o : Int} (hs : AM nl f o) : 0 ≤ f ∧ f ≤ 15 := by
 have := Eaj h4
 have h1 := hs.f1
 have h0 := hs.f0
 omega
theorem LQ (e : Ua) (k : Int) (hn : e.2.2.2.1.length ≤ Da) : AA e k = some (Dc (fun h => h.1 == k) 0 e.2.2.2.1, ()) := by
 have h20 : Da = 1048576 := rfl
 have hl := EA (step := fun x => Rs x.1.1 x.1.2.1 x.1.2.2.1 x.1.2.2.2.1) e.2.2.2.1 (fun h => h.1 == k) (fun i => ((k, e.2.2.2.1, ((ja e.2.2.2.1 : Nat) : Int), i, ()), ())) (.inl ((), ())) (fun i => .inr ((i, ()), ()))
  (by
   intro j hj
   simp only [Rs]
   rw [Ba (show (j : Int) < ((ja e.2.2.2.1 : Nat) : Int) by omega), Qb hj]
   simp only [cond_true, jb]
   cases e.2.2.2.1[j].1 == k <;> rfl) (by
   simp only [Rs]
   rw [Ca (by omega)]; rfl) (by omega)
 unfold AA Yt
 erw [hl]
 simp only [jb]
 by_cases hc : Dc (fun h : Ia => h.1 == k) 0 e.2.2.2.1 = -1
 ·rw [if_pos hc, hc]; rfl
 ·rw [if_neg hc]; rfl
theorem OF (e : Ua) (k : Int) (hn : e.2.2.2.1.length ≤ Da) : Qw e k = some (Dc (fun h => h.1 == k) 0 e.2.2.2.1, ()) := by
 have h20 : Da = 1048576 := rfl
 have hl := EA (step := fun x => Et x.1.1 x.1.2.1 x.1.2.2.1 x.2.1) e.2.2.2.1 (fun h => h.1 == k) (fun i => ((k, (), i, ()), (e, ()))) (.inl ((), ())) (fun i => .inr ((i, ()), ()))
  (by
   intro j hj
   simp only [Et]
   rw [Ba (show (j : Int) < ((ja e.2.2.2.1 : Nat) : Int) by omega), Qb hj]
   simp only [cond_true, jb]
   cases e.2.2.2.1[j].1 == k <;> rfl) (by
   simp only [Et]
   rw [Ca (by omega)]; rfl) (by omega)
 unfold Qw Lu
 erw [hl]
 simp only [jb]
 by_cases hc : Dc (fun h : Ia => h.1 == k) 0 e.2.2.2.1 = -1
 ·rw [if_pos hc, hc]; rfl
 ·rw [if_neg hc]; rfl
theorem PJ (a b : Aa) (hn : a.2.1.length ≤ Ab) : Jt a b = some (Li a b, ()) := by
 have hlim := Td
 unfold Jt Li
 simp only [bne]
 cases (show Int from a.1) == (show Int from b.1) with
 | false => rfl
 | true =>
  by_cases h : a.2.1.length = b.2.1.length
  ·have hl := Xf (step := fun x => Ol x.1.1 x.1.2.1 x.1.2.2.1 x.2.1 x.2.2.1) a.2.1 (fun k x => b.2.1.getD k 0 == x) (fun i => (((), (), i, ()), (a, b, ())))
    (.inl ((), ())) (.inr ((false, ()), ())) (by
     intro k hk
     simp only [Ol]
     rw [Ba (show (k : Int) < ((ja a.2.1 : Nat) : Int) by omega), Qb hk, Qb (show k < b.2.1.length by omega), qh, je (show k < b.2.1.length by omega)]
     simp only [cond_true, jb, Option.getD_some, bne]
     rw [show (a.2.1[k] == b.2.1[k]) = (b.2.1[k] == a.2.1[k]) by rw [qu, beq_iff_eq, beq_iff_eq]; exact eq_comm]
     cases b.2.1[k] == a.2.1[k] <;> rfl) (by
     simp only [Ol]
     rw [Ca (by omega)]; rfl) (by omega)
   have e : (((ja a.2.1 : Nat) : Int) == ((ja b.2.1 : Nat) : Int)) = true := by simp [h]
   rw [e]
   simp only [jg, cond_false, jk]
   unfold Qn
   erw [hl]
   rw [CV a.2.1 b.2.1 h, show (b.2.1 == a.2.1) = (a.2.1 == b.2.1) by rw [qu, beq_iff_eq, beq_iff_eq]; exact eq_comm]
   cases a.2.1 == b.2.1 <;> rfl
  ·have e : (((ja a.2.1 : Nat) : Int) == ((ja b.2.1 : Nat) : Int)) = false := by simp; omega
   have e2 : (a.2.1 == b.2.1) = false := by rw [beq_eq_false_iff_ne]; intro hh; exact h (by rw [hh])
   rw [e, e2]; rfl
def C4 (s : Aa × List Aa) (x : Aa) : Aa × List Aa := (x, cond (Li s.1 x) s.2 (jf s.2 [x]))
theorem JU : ∀ (l : List Aa) (k : Nat) (a : Aa) (o : List Aa), (Tc (fun _ s x => C4 s x) k (a, o) l).2 = jf o (Yp Li a l)
 | [], _, _, o => by simp [Tc, Yp]
 | x :: l, k, a, o => by
  have ih := JU l (k + 1) x (cond (Li a x) o (jf o [x]))
  show (Tc (fun _ s x => C4 s x) (k + 1) (x, cond (Li a x) o (jf o [x])) l).2 = _
  rw [ih]
  simp only [Yp]
  cases Li a x <;> simp
theorem GE (a : Aa) (l : List Aa) (hn : l.length ≤ Da) (ha : a.2.1.length ≤ Da) (hx : ∀ x ∈ l, x.2.1.length ≤ Da) : Kf a l = some (Yp Li a l, ()) := by
 have h20 : Da = 1048576 := rfl
 have hlim := Td
 have hl := (Qd (step := fun x => Bn x.1.1 x.1.2.1 x.1.2.2.1 x.1.2.2.2.1 x.2.1) l (fun _ s x => C4 s x) (fun s i => ((l, (), s.2, i, ()), (s.1, ()))) (fun s => .inl ((s.2, ()), ())) (fun k s => s.2.length ≤ k ∧ s.1.2.1.length ≤ Da) (by
  intro k hk s ⟨hs1, hs2⟩
  have hxk := hx _ (qp hk)
  refine ⟨?_, ?_, hxk⟩
  ·simp only [Bn]
   rw [Ba (show (k : Int) < ((ja l : Nat) : Int) by omega), Qb hk]
   simp only [cond_true, jb]
   rw [PJ _ _ (by omega), QF _ hxk]
   simp only [jb, C4]
   rw [show jx (ja s.2 + ja ([l[k]] : List Aa)) Ab = true from ji (by simp only [jw, j7]; omega)]
   cases Li s.1 l[k] <;> rfl
  ·unfold C4
   cases Li s.1 l[k] with
   | true => show s.2.length ≤ k + 1; omega
   | false => show (jf s.2 [l[k]]).length ≤ k + 1; simp; omega)
  (by
   intro s _
   simp only [Bn]
   rw [Ca (by omega)]; rfl) (by omega) (a, []) ⟨jo _, ha⟩).1
 unfold Kf Mp
 erw [hl]
 have := JU l 0 a []
 simp only [jb, qi]
 rw [this]; simp
theorem PD (a : Aa) (l : List Aa) (hn : l.length ≤ Da) (ha : a.2.1.length ≤ Da) (hx : ∀ x ∈ l, x.2.1.length ≤ Da) : Nd a l = some (Yp Li a l, ()) := by
 have h20 : Da = 1048576 := rfl
 have hlim := Td
 unfold Nd X1
 have e : (jx (ja l) Ab && (BD a && l.all BD)) = true := by
  rw [jd, jd, List.all_eq_true]
  refine ⟨ji (by omega), ji (by show ja a.2.1 ≤ _; omega), fun x hm => ji ?_⟩
  have := hx x hm
  show ja x.2.1 ≤ _
  omega
 rw [e]; rfl
theorem HM : ∀ (l : List Aa) (a : Aa), (Yp Li a l).length ≤ l.length
 | [], _ => by simp [Yp]
 | x :: l, a => by
  have := HM l x
  simp only [Yp]
  cases Li a x <;> simp <;> omega
theorem Py (l : List Ia) : (Yb l).2.1.length ≤ 56 := IG l 56
theorem GG : ∀ (l : List Aa) (a x : Aa), x ∈ Yp Li a l → x ∈ l
 | [], _, x, h => by simp [Yp] at h
 | y :: l, a, x, h => by
  simp only [Yp] at h
  cases hs : Li a y with
  | true => rw [hs] at h; exact jr _ (GG l y x h)
  | false =>
   rw [hs] at h
   rcases jp.1 h with h | h
   ·exact h ▸ qv ..
   ·exact jr _ (GG l y x h)
noncomputable def Hat (m : Ka) (f : Int) (k : Nat) : Va := Hj (Yi m.2.1 (Ah m (Fd .i64 1 f) k) k)
noncomputable def stK (m : Ka) (f o : Int) (c : Bool) (k : Nat) : Int × Int × Bool × Va := Zv f o c (Hat m f k)
noncomputable def hK (m : Ka) (f o : Int) (c : Bool) (k : Nat) : List Ia := [((k : Int), (stK m f o c k).2.2.2, ())]
structure Tab (m : Ka) : Prop where
 v : Ac m = true
 z : Wa Bb m ≤ Da - 10
theorem z20 {m : Ka} (hM : Tab m) (f o : Int) (c : Bool) (h : List Ia) (hh : h.length ≤ 1) : Wa Mb (Rv m f o c h) ≤ Da := by
 have h20 : Da = 1048576 := rfl
 have := hM.z
 rw [KK]; omega
theorem DE (l : List Ia) : (Yb l).2.1.length ≤ Da := by
 have h20 : Da = 1048576 := rfl
 have := Py l
 omega
theorem Tam : Md [] = true := rfl
theorem BJ {m : Ka} (hv : Ac m = true) : Tab m := by
 have hm := Wf hv
 refine ⟨hv, ?_⟩
 have h20 : Da = 1048576 := rfl
 have h1 : Wa Bb m = 0 + (Wa (.sl (.sl Nb)) m.2.1 + 0) := rfl
 have h2 : Wa (.sl (.sl Nb)) m.2.1 ≤ (32 + 1) * ja m.2.1 := EH (e := .sl Nb) (c := 32) fun x hx => by
  obtain ⟨i, hi, rfl⟩ := qr hx
  rw [YP]
  have := hm.row i hi
  have := hm.k2
  omega
 have := hm.l2
 omega
abbrev St := (Int × Int × Bool) × List Aa
structure Yax (m : Ka) (k : Nat) (s : St) : Prop where
 st : AM m.2.1.length s.1.1 s.1.2.1
 len : s.2.length ≤ 2 * k
 rep : ∀ x ∈ s.2, x.2.1.length ≤ 56
end KF
