/- An evaluator of Go functions on plain data, its soundness, and plain laws on what the functions compute, part 4 (conditions: as each lemma tells). -/
import Derived.Test.YthipacpeljffpaaGreatC
set_option linter.unusedSimpArgs false
set_option linter.unusedVariables false
namespace KF
open Go
open List renaming length → ja, getElem?_eq_getElem → je, append → jf, mem_append → jl, mem_cons → jp, mem_cons_of_mem → jr, length_cons → jw, set → qa, length_nil → qb, length_set → qc, mem_singleton → qh, length_append → qi, getElem?_append_left → qk, getElem?_append_right → ql, getD_eq_getElem?_getD → qm, getElem_mem → qv, mem_of_mem_drop → qw, getElem_of_mem → qx, mem_map → qy, length_drop → qz, length_take → q0, mem_cons_self → q8, length_replicate → yb
open Option renaming bind_some → jb, bind → jz, map_some → qg, bind_eq_some_iff → qj
open Option.some renaming injEq → jc
open Bool renaming and_eq_true → jd, not_true → jg, true_and → jk, false_eq_true → jq, not_false → qd, not_eq_true → qe, false_and → qs, and_self → qt, eq_iff_iff → q7
open Prod.mk renaming injEq → jh
open Nat renaming ble_eq_true_of_le → ji, mul_le_mul_right → jm, le_refl → jo, zero_add → js, add_assoc → jt, eq_of_beq_eq_true → ju, ble → jx, le_trans → qf, lt_of_lt_of_le → qo, pow_le_pow_right → qp, testBit_xor → qq, testBit_two_pow → qr, xor_lt_two_pow → qu
open Int renaming toNat_natCast → jn, eq_ofNat_of_zero_le → jv, toNat → jy
open Go.IntKind renaming wrap → j8, wrap → j9
open Sum renaming elim_inl → qn
open Result renaming andThen_ok → q9
open Sem renaming run_bind → ya
abbrev int : Ty := .i .i64
abbrev DJ : Ty := .i .u8
abbrev Vc : Ty := (.p int (.p int .u))
abbrev Ja : Type := (Int × (Int × Unit))
abbrev Qg : Ty := (.p int (.p (.sl int) .u))
abbrev La : Type := (Int × ((List Int) × Unit))
abbrev Nc : Ty := (.p int (.p int (.p .b .u)))
abbrev Ba : Type := (Int × (Int × (Bool × Unit)))
abbrev Td : Ty := (.p int Vc)
abbrev Xb : Type := (Int × Ja)
abbrev Dg : Type := ((List (List Int)) × ((List Int) × Unit))
abbrev Vg : Ty := (.p (.sl DJ) Vc)
abbrev Ab : Type := ((List Int) × Ja)
abbrev Sc : Ty := (.p int Td)
abbrev Pa : Type := (Int × Xb)
abbrev Zk : Type := (Bool × Xb)
abbrev IC : Ty := (.p int (.p Qg .u))
abbrev Yc : Type := (Int × (La × Unit))
abbrev Ev : Ty := (.p int (.p Sc .u))
abbrev Va : Type := (Int × (Pa × Unit))
abbrev Zc : Ty := (.p int (.p int (.p int (.p int Qg))))
abbrev Ib : Type := (Int × (Int × (Int × (Int × La))))
abbrev Ec : Ty := (.p int (.p (.sl (.sl Sc)) .u))
abbrev Hb : Type := (Int × ((List (List Pa)) × Unit))
abbrev Yd : Ty := (.p (.sl Vc) (.p int (.p (.sl Nc) (.p int (.p int (.p int (.p (.sl Nc) .u)))))))
abbrev Da : Type := ((List Ja) × (Int × ((List Ba) × (Int × (Int × (Int × ((List Ba) × Unit)))))))
abbrev Pc : Ty := (.p Ec (.p (.sl (.sl Td)) (.p int (.p (.sl Ev) (.p int (.p .b .u))))))
abbrev Jb : Type := (Hb × ((List (List Xb)) × (Int × ((List Va) × (Int × (Bool × Unit))))))
abbrev Be : Ty := (.p Pc (.p Td (.p (.sl Nc) Sc)))
abbrev Xa : Type := (Jb × (Xb × ((List Ba) × Pa)))
abbrev Ze : Ty := (.p Nc (.p Zc (.p Yd (.p Be Vc))))
abbrev Mb : Type := (Ba × (Ib × (Da × (Xa × Ja))))
abbrev Md : Type := Ba
abbrev Mp : Type := Xb
def HC : List UInt8 := [0, 1, 1, 2, 1, 2, 2, 3, 1, 2, 2, 3, 2, 3, 3, 4, 1, 2, 2, 3, 2, 3, 3, 4, 2, 3, 3, 4, 3, 4, 4, 5, 1, 2, 2, 3, 2, 3, 3, 4, 2, 3, 3, 4, 3, 4, 4, 5, 2, 3, 3, 4, 3, 4, 4, 5, 3, 4, 4, 5, 4, 5, 5, 6, 1, 2, 2, 3, 2, 3, 3, 4, 2, 3, 3, 4, 3, 4, 4, 5, 2, 3, 3, 4, 3, 4, 4, 5, 3, 4, 4, 5, 4, 5, 5, 6, 2, 3, 3, 4, 3, 4, 4, 5, 3, 4, 4, 5, 4, 5, 5, 6, 3, 4, 4, 5, 4, 5, 5, 6, 4, 5, 5, 6, 5, 6, 6, 7, 1, 2, 2, 3, 2, 3, 3, 4, 2, 3, 3, 4, 3, 4, 4, 5, 2, 3, 3, 4, 3, 4, 4, 5, 3, 4, 4, 5, 4, 5, 5, 6, 2, 3, 3, 4, 3, 4, 4, 5, 3, 4, 4, 5, 4, 5, 5, 6, 3, 4, 4, 5, 4, 5, 5, 6, 4, 5, 5, 6, 5, 6, 6, 7, 2, 3, 3, 4, 3, 4, 4, 5, 3, 4, 4, 5, 4, 5, 5, 6, 3, 4, 4, 5, 4, 5, 5, 6, 4, 5, 5, 6, 5, 6, 6, 7, 3, 4, 4, 5, 4, 5, 5, 6, 4, 5, 5, 6, 5, 6, 6, 7, 4, 5, 5, 6, 5, 6, 6, 7, 5, 6, 6, 7, 6, 7, 7, 8]
noncomputable section
open Option renaming bind → ob
open Go.IntKind renaming wrap → wr
open Int renaming toNat → tn
open List renaming length → ln, append → ap, set → ls
open Sum renaming elim → se
open Nat renaming ble → bl
abbrev Jd : Type := Bool × Unit
abbrev Rg : Type := Int × Unit
abbrev Xg : Type := Unit × Unit
abbrev Cf : Type := List Int
abbrev Sg : Type := List Ba
abbrev MA : Type := Hb × Unit
abbrev UN : Type := List La
abbrev Nf : Type := List Ja
abbrev Jh : Type := List Va
abbrev Vm : Type := List Yc
abbrev Zj : Type := Jb × Unit
abbrev Wm : Type := Ba × Unit
abbrev RF : Type := Unit × Ja
abbrev SF : Type := Da × Unit
abbrev Uw : Type := Unit × Rg
abbrev IK : Type := Cf × Ja
abbrev Kl : Type := Jd × Unit
abbrev RX : Type := La × Unit
abbrev W6 : Type := La × RX
abbrev Vk : Type := List Xb
abbrev TF : Type := (Rg × Unit) ⊕ Xg
abbrev Hr : Type := List Pa
abbrev Vw : Type := Int × (Sg × Ja)
abbrev Qz : Type := Cf × Unit
abbrev Am : Type := Nf × Ja
abbrev SB : Type := Hb × MA
abbrev WS : Type := Sg × Unit
abbrev Ww : Type := Mb × Unit
abbrev Yaf : Type := Xa × Unit
abbrev SX : Type := Unit × Xg
abbrev RN : Type := Unit × Uw
abbrev Rz : Type := Xg ⊕ Kl
abbrev EI : Type := Int × Jd
abbrev UaH : Type := Cf × Rg
abbrev Sat : Type := Unit × Xb
abbrev Tat : Type := Int × ((List Hr) × (Int × (Int × (Hr × Ja))))
abbrev KK : Type := Ja × Unit
abbrev TX : Type := Xg ⊕ (Rg × Unit)
abbrev FI : Type := Xb × Unit
abbrev UX : Type := Int × Uw
abbrev Uat : Type := Unit × (Vm × Unit)
abbrev VX : Type := (List Hr) × Ja
abbrev XS : Type := Int × IK
abbrev Ir : Type := List Vk
abbrev LK : Type := Ab × Unit
abbrev YS : Type := Pa × Unit
abbrev WX : Type := UN × Unit
abbrev Vat : Type := Unit × WS
abbrev C6 : Type := Unit × RN
abbrev Zaf : Type := Jb × Zj
abbrev ZS : Type := Unit × IK
abbrev D6 : Type := Unit × (Cf × IK)
abbrev XX : Type := Ab × SB
abbrev Wat : Type := (Int × UX) × MA
abbrev Xat : Type := (Nf × (Int × (Int × (Unit × (Int × (Int × (Int × (Bool × (Sg × Ja))))))))) × Wm
abbrev SN : Type := Jh × Ja
abbrev JK : Type := (Int × SN) × Unit
abbrev Yat : Type := Vm × Ja
abbrev E6 : Type := Sg × Jd
abbrev VaH : Type := (WX × Unit) ⊕ Xg
abbrev Zat : Type := ((Unit × (Unit × Qz)) × W6) ⊕ Xg
abbrev TN : Type := RF × SF
abbrev Aau : Type := (Unit × (Int × (Unit × (Int × (Unit × (Int × (Hr × Rg))))))) × XX
abbrev F6 : Type := Vm × Jd
abbrev Aag : Type := Unit × SX
abbrev Bag : Type := (Unit × Vat) × (Da × SF)
abbrev Cag : Type := (Unit × Uat) × (Xa × Yaf)
abbrev G6 : Type := Nf × (Vk × Ja)
abbrev Dag : Type := (Unit × (Cf × Pa)) × Wm
abbrev WaH : Type := (Qz × Unit) ⊕ Xg
abbrev XaH : Type := (WS × Unit) ⊕ (E6 × Unit)
abbrev V6 : Type := Mb × Ww
abbrev TaA : Type := Ab × Yaf
abbrev Vai : Type := Unit × Pa
abbrev KQ : Type := Ib × Unit
abbrev DI : Type := Ib × KQ
abbrev QX : Type := (Cf × IK) × Unit
abbrev Wai : Type := (Unit × (Int × (Unit × (Ir × Rg)))) × (Ab × Zj)
abbrev Xai : Type := Unit × (Unit × ZS)
abbrev Yai : Type := (Nf × (Unit × (Nf × (Int × (Int × Am))))) × KK
abbrev Zai : Type := (Unit × (Cf × (Int × (Int × (Int × Pa))))) × Wm
abbrev ZI : Type := Sg × Rg
abbrev UaA : Type := Vat × SF
abbrev Aaj : Type := Unit × (Int × RN)
abbrev Jm : Mb := ((0, 0, false, ()), (0, 0, 0, 0, 0, [], ()), ([], 0, [], 0, 0, 0, [], ()), (((0, [], ()), [], 0, [], 0, false, ()), (0, 0, 0, ()), [], 0, 0, 0, 0, ()), 0, 0, ())
abbrev Oi : Xa := (((0, [], ()), [], 0, [], 0, false, ()), (0, 0, 0, ()), [], 0, 0, 0, 0, ())
abbrev LQ : Jb := ((0, [], ()), [], 0, [], 0, false, ())
abbrev Fj : Da := ([], 0, [], 0, 0, 0, [], ())
def Ic (a0 : Int) (a1 : Int) (a2 : Int) : Option Jd :=
 (cond (decide (a0 ≥ a1))
 (some ((decide (a0 ≤ a2)), ()))
 (some (false, ())))
def Lm (a0 : Cf) : Option Qz :=
 (cond (bl (ln ([] : List Int) + ln a0) Bb)
 (some ((ap [] a0), ()))
 none)
def Qk (a0 : Pa) : Option Jd :=
 (ob (Ic a0.2.1 1 56) fun r1 =>
 (ob (Ic a0.2.2.1 1 15) fun r2 =>
 (ob (Ic a0.2.2.2.1 1 3) fun r3 =>
 (cond (a0.1 == 0)
 (cond (a0.2.1 == 0)
 (cond (a0.2.2.1 == 0)
 (some ((a0.2.2.2.1 == 0), ()))
 (some (false, ())))
 (some (false, ())))
 (cond (a0.1 == 1)
 (cond (a0.2.1 == 0)
 (cond (a0.2.2.1 == 0)
 (some ((a0.2.2.2.1 == 0), ()))
 (some (false, ())))
 (some (false, ())))
 (cond (a0.1 == 10)
 (cond (a0.2.1 == 0)
 (cond (a0.2.2.1 == 0)
 (some ((a0.2.2.2.1 == 0), ()))
 (some (false, ())))
 (some (false, ())))
 (cond (a0.1 == 2)
 (cond (a0.2.2.2.1 == 0)
 (cond r1.1
 (cond r2.1
 (some (true, ()))
 (some ((a0.2.2.1 == 0), ())))
 (cond (a0.2.1 == 0)
 (cond r2.1
 (cond r2.1
 (some (true, ()))
 (some ((a0.2.2.1 == 0), ())))
 (some (false, ())))
 (some (false, ()))))
 (some (false, ())))
 (cond (a0.1 == 3)
 (cond r3.1
 (cond (a0.2.1 == 0)
 (some ((a0.2.2.1 == 0), ()))
 (some (false, ())))
 (some (false, ())))
 (cond (a0.1 == 4)
 (cond r3.1
 (cond (a0.2.1 == 0)
 (some ((a0.2.2.1 == 0), ()))
 (some (false, ())))
 (some (false, ())))
 (cond (a0.1 == 5)
 (ob (Ic a0.2.2.2.1 0 3) fun r4 =>
 (cond r4.1
 (cond (a0.2.1 == 0)
 (some ((a0.2.2.1 == 0), ()))
 (some (false, ())))
 (some (false, ()))))
 (cond (a0.1 == 9)
 (ob (Ic a0.2.2.2.1 0 3) fun r5 =>
 (cond r5.1
 (cond (a0.2.1 == 0)
 (some ((a0.2.2.1 == 0), ()))
 (some (false, ())))
 (some (false, ()))))
 (cond (a0.1 == 6)
 (cond r1.1
 (cond r2.1
 (some ((a0.2.2.2.1 == 0), ()))
 (some (false, ())))
 (some (false, ())))
 (cond (a0.1 == 7)
 (cond r1.1
 (cond r3.1
 (some ((a0.2.2.1 == 0), ()))
 (some (false, ())))
 (some (false, ())))
 (cond (a0.1 == 8)
 (cond r2.1
 (cond (a0.2.1 == 0)
 (some ((a0.2.2.2.1 == 0), ()))
 (some (false, ())))
 (some (false, ())))
 (some (false, ()))))))))))))))))
def YA (t1 : Unit) (t3 : Int) (t4 : Int) (b1 : Hb) : Option ((RF × MA) ⊕ ((Uw × MA) ⊕ Kl)) :=
 (ob (Cc b1.2.1 t3) fun x40 =>
 (cond (decide (t4 < ((ln x40 : Nat) : Int)))
 (ob (Cc b1.2.1 t3) fun x41 =>
 (ob (Cc x41 t4) fun x42 =>
 (ob (Qk x42) fun r43 =>
 (cond (!r43.1)
 (some (.inr (.inr ((false, ()), ()))))
 (cond (x42.1 == 1)
 (cond (t3 == 0)
 (some (.inr (.inr ((false, ()), ()))))
 (cond (x42.1 != 9)
 (cond (decide (x42.2.2.2.1 ≥ ((ln b1.2.1 : Nat) : Int)))
 (some (.inr (.inr ((false, ()), ()))))
 (some (.inl (((), t3, (wr .i64 (t4 + 1)), ()), (b1, ())))))
 (some (.inl (((), t3, (wr .i64 (t4 + 1)), ()), (b1, ()))))))
 (cond (x42.1 != 9)
 (cond (decide (x42.2.2.2.1 ≥ ((ln b1.2.1 : Nat) : Int)))
 (some (.inr (.inr ((false, ()), ()))))
 (some (.inl (((), t3, (wr .i64 (t4 + 1)), ()), (b1, ())))))
 (some (.inl (((), t3, (wr .i64 (t4 + 1)), ()), (b1, ()))))))))))
 (some (.inr (.inl (((), t3, ()), (b1, ())))))))
def Sn := Nb fun x : (RF × MA) => YA x.1.1 x.1.2.1 x.1.2.2.1 x.2.1
def XA (t1 : Unit) (t3 : Int) (b1 : Hb) : Option ((Uw × MA) ⊕ ((Xg × MA) ⊕ Kl)) :=
 (cond (decide (t3 < ((ln b1.2.1 : Nat) : Int)))
 (ob (Cc b1.2.1 t3) fun x31 =>
 (cond (((ln x31 : Nat) : Int) != b1.1)
 (some (.inr (.inr ((false, ()), ()))))
 (ob (Sn (((), t3, 0, ()), (b1, ()))) (se (fun y44 => (some (.inl (((), (wr .i64 (y44.1.2.1 + 1)), ()), (y44.2.1, ()))))) (fun z45 => (some (.inr (.inr ((z45.1.1, ()), ())))))))))
 (some (.inr (.inl (((), ()), (b1, ()))))))
def Rn := Nb fun x : (Uw × MA) => XA x.1.1 x.1.2.1 x.2.1
def DC (a0 : Hb) : Option Jd :=
 (ob (Rn (((), 0, ()), (a0, ()))) (se (fun y46 => (ob (Ic y46.2.1.1 1 32) fun r48 =>
 (cond r48.1
 (ob (Ic ((ln y46.2.1.2.1 : Nat) : Int) 1 4) fun r49 =>
 (some (r49.1, ())))
 (some (false, ()))))) (fun z47 => (some (z47.1.1, ())))))
def Bw (a0 : Int) : Option Jd :=
 (cond (decide (a0 ≥ 1))
 (some ((decide (a0 ≤ 56)), ()))
 (some (false, ())))
def Sq (a0 : Int) : Option Jd :=
 (cond (decide (a0 ≥ 1))
 (some ((decide (a0 ≤ 15)), ()))
 (some (false, ())))
def Us (a0 : Int) : Option Jd :=
 (cond (decide (a0 ≥ 1))
 (some ((decide (a0 ≤ 3)), ()))
 (some (false, ())))
def Mk (a0 : Pa) : Option Jd :=
 (cond (a0.1 == 0)
 (cond (a0.2.1 == 0)
 (cond (a0.2.2.1 == 0)
 (some ((a0.2.2.2.1 == 0), ()))
 (some (false, ())))
 (some (false, ())))
 (cond (a0.1 == 1)
 (cond (a0.2.1 == 0)
 (cond (a0.2.2.1 == 0)
 (some ((a0.2.2.2.1 == 0), ()))
 (some (false, ())))
 (some (false, ())))
 (cond (a0.1 == 10)
 (cond (a0.2.1 == 0)
 (cond (a0.2.2.1 == 0)
 (some ((a0.2.2.2.1 == 0), ()))
 (some (false, ())))
 (some (false, ())))
 (cond (a0.1 == 2)
 (cond (a0.2.2.2.1 == 0)
 (cond (a0.2.1 == 0)
 (cond (a0.2.2.1 == 0)
 (cond (a0.2.1 != 0)
 (some (true, ()))
 (some ((a0.2.2.1 != 0), ())))
 (ob (Sq a0.2.2.1) fun r1 =>
 (cond r1.1
 (cond (a0.2.1 != 0)
 (some (true, ()))
 (some ((a0.2.2.1 != 0), ())))
 (some (false, ())))))
 (ob (Bw a0.2.1) fun r2 =>
 (cond r2.1
 (cond (a0.2.2.1 == 0)
 (cond (a0.2.1 != 0)
 (some (true, ()))
 (some ((a0.2.2.1 != 0), ())))
 (ob (Sq a0.2.2.1) fun r3 =>
 (cond r3.1
 (cond (a0.2.1 != 0)
 (some (true, ()))
 (some ((a0.2.2.1 != 0), ())))
 (some (false, ())))))
 (some (false, ())))))
 (some (false, ())))
 (cond (a0.1 == 3)
 (cond (a0.2.1 == 0)
 (cond (a0.2.2.1 == 0)
 (ob (Us a0.2.2.2.1) fun r4 =>
 (some (r4.1, ())))
 (some (false, ())))
 (some (false, ())))
 (cond (a0.1 == 4)
 (cond (a0.2.1 == 0)
 (cond (a0.2.2.1 == 0)
 (ob (Us a0.2.2.2.1) fun r5 =>
 (some (r5.1, ())))
 (some (false, ())))
 (some (false, ())))
 (cond (a0.1 == 5)
 (cond (a0.2.1 == 0)
 (cond (a0.2.2.1 == 0)
 (cond (decide (a0.2.2.2.1 ≥ 0))
 (some ((decide (a0.2.2.2.1 ≤ 3)), ()))
 (some (false, ())))
 (some (false, ())))
 (some (false, ())))
 (cond (a0.1 == 9)
 (cond (a0.2.1 == 0)
 (cond (a0.2.2.1 == 0)
 (cond (decide (a0.2.2.2.1 ≥ 0))
 (some ((decide (a0.2.2.2.1 ≤ 3)), ()))
 (some (false, ())))
 (some (false, ())))
 (some (false, ())))
 (cond (a0.1 == 6)
 (ob (Bw a0.2.1) fun r6 =>
 (cond r6.1
 (ob (Sq a0.2.2.1) fun r7 =>
 (cond r7.1
 (some ((a0.2.2.2.1 == 0), ()))
 (some (false, ()))))
 (some (false, ()))))
 (cond (a0.1 == 7)
 (ob (Bw a0.2.1) fun r8 =>
 (cond r8.1
 (cond (a0.2.2.1 == 0)
 (ob (Us a0.2.2.2.1) fun r9 =>
 (some (r9.1, ())))
 (some (false, ())))
 (some (false, ()))))
 (cond (a0.1 == 8)
 (cond (a0.2.1 == 0)
 (ob (Sq a0.2.2.1) fun r10 =>
 (cond r10.1
 (some ((a0.2.2.2.1 == 0), ()))
 (some (false, ()))))
 (some (false, ())))
 (some (false, ())))))))))))))
def PA (t1 : Unit) (t3 : Int) (t28 : (List Hr)) (t29 : Int) (t30 : Int) (t40 : Hr) (t41 : Int) (t42 : Int) (b1 : Hb) : Option (((Unit × Tat) × MA) ⊕ (((Unit × VX) × MA) ⊕ Kl)) :=
 (cond (decide (t42 < t41))
 (ob (Cc t40 t42) fun x24 =>
 (ob (Mk x24) fun r25 =>
 (cond (!r25.1)
 (some (.inr (.inr ((false, ()), ()))))
 (cond (t3 == 0)
 (cond (x24.1 == 1)
 (some (.inr (.inr ((false, ()), ()))))
 (cond (x24.1 != 9)
 (cond (decide (x24.2.2.2.1 ≥ ((ln b1.2.1 : Nat) : Int)))
 (some (.inr (.inr ((false, ()), ()))))
 (some (.inl (((), t3, t28, t29, t30, t40, t41, (wr .i64 (t42 + 1)), ()), (b1, ())))))
 (some (.inl (((), t3, t28, t29, t30, t40, t41, (wr .i64 (t42 + 1)), ()), (b1, ()))))))
 (cond (x24.1 != 9)
 (cond (decide (x24.2.2.2.1 ≥ ((ln b1.2.1 : Nat) : Int)))
 (some (.inr (.inr ((false, ()), ()))))
 (some (.inl (((), t3, t28, t29, t30, t40, t41, (wr .i64 (t42 + 1)), ()), (b1, ())))))
 (some (.inl (((), t3, t28, t29, t30, t40, t41, (wr .i64 (t42 + 1)), ()), (b1, ())))))))))
 (some (.inr (.inl (((), t28, t29, t30, ()), (b1, ()))))))
def Kn := Nb fun x : ((Unit × Tat) × MA) => PA x.1.1 x.1.2.1 x.1.2.2.1 x.1.2.2.2.1 x.1.2.2.2.2.1 x.1.2.2.2.2.2.1 x.1.2.2.2.2.2.2.1 x.1.2.2.2.2.2.2.2.1 x.2.1
def OA (t1 : Unit) (t28 : (List Hr)) (t29 : Int) (t30 : Int) (b1 : Hb) : Option (((Unit × VX) × MA) ⊕ Rz) :=
 (cond (decide (t30 < t29))
 (ob (Cc t28 t30) fun x19 =>
 (cond (((ln x19 : Nat) : Int) != b1.1)
 (some (.inr (.inr ((false, ()), ()))))
 (ob (Kn (((), t30, t28, t29, t30, x19, ((ln x19 : Nat) : Int), 0, ()), (b1, ()))) (se (fun y26 => (some (.inl (((), y26.1.2.1, y26.1.2.2.1, (wr .i64 (y26.1.2.2.2.1 + 1)), ()), (y26.2.1, ()))))) (fun z27 => (some (.inr (.inr ((z27.1.1, ()), ())))))))))
 (some (.inr (.inl ((), ())))))
def Jn := Nb fun x : ((Unit × VX) × MA) => OA x.1.1 x.1.2.1 x.1.2.2.1 x.1.2.2.2.1 x.2.1
def Pv (a0 : Hb) : Option Jd :=
 (cond (decide (a0.1 < 1))
 (some (false, ()))
 (cond (decide (a0.1 > 32))
 (some (false, ()))
 (cond (decide (((ln a0.2.1 : Nat) : Int) < 1))
 (some (false, ()))
 (cond (decide (((ln a0.2.1 : Nat) : Int) > 4))
 (some (false, ()))
 (ob (Jn (((), a0.2.1, ((ln a0.2.1 : Nat) : Int), 0, ()), (a0, ()))) (se (fun y28 => (some (true, ()))) (fun z29 => (some (z29.1.1, ())))))))))
def Vv (a0 : Ba) : Option Jd :=
 (ob (Ic a0.1 1 4) fun r1 =>
 (cond r1.1
 (ob (Ic a0.2.1 1 6) fun r2 =>
 (some (r2.1, ())))
 (some (false, ()))))
def Tp (a0 : Ba) : Option Rg :=
 (ob (Vv a0) fun r1 =>
 (cond (!r1.1)
 (some (0, ()))
 (some ((wr .i64 (a0.1 * a0.2.1)), ()))))
def OB (a0 : Ba) (a1 : Int) : Option Jd :=
 (ob (Vv a0) fun r1 =>
 (cond r1.1
 (ob (Tp a0) fun r2 =>
 (cond (decide (0 ≤ r2.1))
 (ob (Ic a1 0 (wr .i64 ((Ra .i64 1 r2.1) - 1))) fun r3 =>
 (some (r3.1, ())))
 none))
 (some (false, ()))))
def Pp (a0 : Ba) : Option Jd :=
 (cond (decide (a0.1 ≥ 1))
 (cond (decide (a0.1 ≤ 4))
 (cond (decide (a0.2.1 ≥ 1))
 (some ((decide (a0.2.1 ≤ 6)), ()))
 (some (false, ())))
 (some (false, ())))
 (some (false, ())))
def Nk (a0 : Ba) : Option Rg :=
 (ob (Pp a0) fun r1 =>
 (cond (!r1.1)
 (some (0, ()))
 (some ((wr .i64 (a0.1 * a0.2.1)), ()))))
def Uj (a0 : Ba) (a1 : Int) : Option Jd :=
 (ob (Pp a0) fun r1 =>
 (cond r1.1
 (cond (decide (a1 ≥ 0))
 (ob (Nk a0) fun r2 =>
 (cond (decide (0 ≤ r2.1))
 (some ((decide (a1 < (Ra .i64 1 r2.1))), ()))
 none))
 (some (false, ())))
 (some (false, ()))))
def XB (t1 : Int) (t2 : Unit) (t5 : Cf) (t15 : Int) (t16 : Int) (b2 : Ba) : Option (((Int × ZS) × Wm) ⊕ (((Unit × Qz) × Wm) ⊕ Xg)) :=
 (cond (decide (t16 < t15))
 (cond (decide (0 ≤ (wr .i64 (t16 * b2.2.1))))
 (cond (decide (0 ≤ b2.2.1))
 (cond (Nat.beq 4 (ln t5))
 (cond (Ei (ln t5) t16)
 (ob t5[(tn t16)]? fun x3 =>
 (some (.inl ((t1, (), (ls t5 (tn t16) (Ya .i64 (Hc .i64 t1 (wr .i64 (t16 * b2.2.1))) (wr .i64 ((Ra .i64 1 b2.2.1) - 1)))), t15, (wr .i64 (t16 + 1)), ()), (b2, ())))))
 none)
 none)
 none)
 none)
 (some (.inr (.inl (((), t5, ()), (b2, ()))))))
def TC := Nb fun x : ((Int × ZS) × Wm) => XB x.1.1 x.1.2.1 x.1.2.2.1 x.1.2.2.2.1 x.1.2.2.2.2.1 x.2.1
def AA (t2 : Unit) (t5 : Cf) (t7 : Int) (t34 : Int) (t35 : Int) (t38 : Int) (t39 : Int) (t43 : Int) (t44 : Int) (b2 : Ba) : Option (Zai ⊕ (Dag ⊕ Xg)) :=
 (cond (decide (t44 < t43))
 (cond (Nat.beq 4 (ln t5))
 (cond (Ei (ln t5) t7)
 (ob t5[(tn t7)]? fun x156 =>
 (cond (Nat.beq 4 (ln t5))
 (cond (Ei (ln t5) t44)
 (ob t5[(tn t44)]? fun x157 =>
 (cond ((Ya .i64 x156 x157) != 0)
 (cond (Nat.beq 4 (ln t5))
 (cond (Ei (ln t5) t7)
 (ob t5[(tn t7)]? fun x158 =>
 (cond (Nat.beq 4 (ln t5))
 (cond (Ei (ln t5) t44)
 (ob t5[(tn t44)]? fun x159 =>
 (cond (Nat.beq 4 (ln t5))
 (cond (Ei (ln t5) t7)
 (ob t5[(tn t7)]? fun x160 =>
 (some (.inl (((), (ls t5 (tn t7) (Tc .i64 x158 x159)), t7, t34, t35, t38, t39, t43, (wr .i64 (t44 + 1)), ()), (b2, ())))))
 none)
 none))
 none)
 none))
 none)
 none)
 (some (.inl (((), t5, t7, t34, t35, t38, t39, t43, (wr .i64 (t44 + 1)), ()), (b2, ()))))))
 none)
 none))
 none)
 none)
 (some (.inr (.inl (((), t5, t34, t35, t38, t39, ()), (b2, ()))))))
def UA := Nb fun x : Zai => AA x.1.1 x.1.2.1 x.1.2.2.1 x.1.2.2.2.1 x.1.2.2.2.2.1 x.1.2.2.2.2.2.1 x.1.2.2.2.2.2.2.1 x.1.2.2.2.2.2.2.2.1 x.1.2.2.2.2.2.2.2.2.1 x.2.1
def Zz (t2 : Unit) (t5 : Cf) (t34 : Int) (t35 : Int) (t38 : Int) (t39 : Int) (b2 : Ba) : Option (Dag ⊕ ((ZS × Wm) ⊕ Xg)) :=
 (cond (decide (t39 < t38))
 (ob (UA (((), t5, t39, t34, t35, t38, t39, b2.1, 0, ()), (b2, ()))) (se (fun y161 => (some (.inl (((), y161.1.2.1, y161.1.2.2.1, y161.1.2.2.2.1, y161.1.2.2.2.2.1, (wr .i64 (y161.1.2.2.2.2.2.1 + 1)), ()), (y161.2.1, ()))))) (fun z162 => (some (.inr (.inr ((), ())))))))
 (some (.inr (.inl (((), t5, t34, t35, ()), (b2, ()))))))
def TA := Nb fun x : Dag => Zz x.1.1 x.1.2.1 x.1.2.2.1 x.1.2.2.2.1 x.1.2.2.2.2.1 x.1.2.2.2.2.2.1 x.2.1
def Yz (t2 : Unit) (t5 : Cf) (t34 : Int) (t35 : Int) (b2 : Ba) : Option ((ZS × Wm) ⊕ (((Unit × Qz) × Wm) ⊕ Xg)) :=
 (cond (decide (t35 < t34))
 (ob (TA (((), t5, t34, t35, b2.1, 0, ()), (b2, ()))) (se (fun y163 => (some (.inl (((), y163.1.2.1, y163.1.2.2.1, (wr .i64 (y163.1.2.2.2.1 + 1)), ()), (y163.2.1, ()))))) (fun z164 => (some (.inr (.inr ((), ())))))))
 (some (.inr (.inl (((), t5, ()), (b2, ()))))))
def SA := Nb fun x : (ZS × Wm) => Yz x.1.1 x.1.2.1 x.1.2.2.1 x.1.2.2.2.1 x.2.1
def BA (t2 : Unit) (t5 : Cf) (t9 : Int) (t67 : Int) (t68 : Int) (b2 : Ba) : Option (((Unit × (Cf × Xb)) × Wm) ⊕ TF) :=
 (cond (decide (t68 < t67))
 (cond (Nat.beq 4 (ln t5))
 (cond (Ei (ln t5) t68)
 (ob t5[(tn t68)]? fun x169 =>
 (cond (decide (0 ≤ (wr .i64 (t68 * b2.2.1))))
 (some (.inl (((), t5, (Tc .i64 t9 (Ra .i64 x169 (wr .i64 (t68 * b2.2.1)))), t67, (wr .i64 (t68 + 1)), ()), (b2, ()))))
 none))
 none)
 none)
 (some (.inr (.inl ((t9, ()), ())))))
def VA := Nb fun x : ((Unit × (Cf × Xb)) × Wm) => BA x.1.1 x.1.2.1 x.1.2.2.1 x.1.2.2.2.1 x.1.2.2.2.2.1 x.2.1
def Ot (a0 : Ba) (a1 : Int) : Option Rg :=
 (cond a0.2.2.1
 (some (a1, ()))
 (ob (TC ((a1, (), (List.replicate 4 0), a0.1, 0, ()), (a0, ()))) (se (fun y4 => (ob (SA (((), y4.1.2.1, y4.2.1.1, 0, ()), (y4.2.1, ()))) (se (fun y165 => (ob (VA (((), y165.1.2.1, 0, y165.2.1.1, 0, ()), (y165.2.1, ()))) (se (fun y170 => (some (y170.1.1, ()))) (fun z171 => none)))) (fun z166 => none)))) (fun z5 => none))))
def Dx (a0 : Ba) (a1 : Int) : Option EI :=
 (ob (Uj a0 a1) fun r1 =>
 (cond (!r1.1)
 (some (0, false, ()))
 (ob (Ot a0 a1) fun r2 =>
 (some (r2.1, true, ())))))
def Xn (a0 : Ba) (a1 : Int) : Option Jd :=
 (ob (Uj a0 a1) fun r1 =>
 (cond r1.1
 (ob (Ot a0 a1) fun r2 =>
 (some ((r2.1 == a1), ())))
 (some (false, ()))))
def Yt (a0 : Ba) (a1 : Int) (a2 : Int) : Option EI :=
 (ob (Xn a0 a1) fun r1 =>
 (cond (!r1.1)
 (some (0, false, ()))
 (cond (decide (a2 < 0))
 (some (0, false, ()))
 (ob (Nk a0) fun r2 =>
 (cond (decide (a2 ≥ r2.1))
 (some (0, false, ()))
 (cond (decide (0 ≤ a2))
 (cond ((Ya .i64 (Hc .i64 a1 a2) 1) == 0)
 (some (0, false, ()))
 (cond (decide (0 ≤ a2))
 (ob (Ot a0 (Gc .i64 a1 (Ra .i64 1 a2))) fun r3 =>
 (cond (r3.1 != a1)
 (some (0, false, ()))
 (some ((Gc .i64 a1 (Ra .i64 1 a2)), true, ()))))
 none))
 none))))))
def Xp (t1 : Int) (t2 : Unit) (t5 : Int) (t14 : Int) (t15 : Int) (b2 : Ba) : Option (((Int × Sat) × Wm) ⊕ TF) :=
 (cond (decide (t15 < t14))
 (cond (decide (0 ≤ t15))
 (cond ((Ya .i64 (Hc .i64 t1 t15) 1) == 1)
 (ob (Yt b2 t1 t15) fun r5 =>
 (cond (!r5.2.1)
 (cond (decide (0 ≤ t15))
 (some (.inl ((t1, (), (Tc .i64 t5 (Ra .i64 1 t15)), t14, (wr .i64 (t15 + 1)), ()), (b2, ()))))
 none)
 (some (.inl ((t1, (), t5, t14, (wr .i64 (t15 + 1)), ()), (b2, ()))))))
 (some (.inl ((t1, (), t5, t14, (wr .i64 (t15 + 1)), ()), (b2, ())))))
 none)
 (some (.inr (.inl ((t5, ()), ())))))
def Qs := Nb fun x : ((Int × Sat) × Wm) => Xp x.1.1 x.1.2.1 x.1.2.2.1 x.1.2.2.2.1 x.1.2.2.2.2.1 x.2.1
def Vz (a0 : Ba) (a1 : Int) : Option Rg :=
 (ob (Xn a0 a1) fun r1 =>
 (cond (!r1.1)
 (some (0, ()))
 (ob (Nk a0) fun r2 =>
 (ob (Qs ((a1, (), 0, r2.1, 0, ()), (a0, ()))) (se (fun y6 => (some (y6.1.1, ()))) (fun z7 => none))))))
def Vl (a0 : Ba) (a1 : Int) (a2 : Int) : Option EI :=
 (ob (Uj a0 a1) fun r1 =>
 (cond (!r1.1)
 (some (0, false, ()))
 (ob (Xn a0 a2) fun r2 =>
 (cond (!r2.1)
 (some (0, false, ()))
 (ob (Vz a0 a2) fun r3 =>
 (some ((Ya .i64 a2 (Tc .i64 a1 r3.1)), true, ())))))))
def Bn (t1 : Int) (t3 : Unit) (t8 : Cf) (t19 : Cf) (t20 : Int) (t21 : Int) (b3 : Ba) : Option (((Int × D6) × Wm) ⊕ ((Qz × Unit) ⊕ ((Cf × Jd) × Unit))) :=
 (cond (decide (t21 < t20))
 (ob (Cc t19 t21) fun x11 =>
 (ob (Dx b3 x11) fun r12 =>
 (ob (Vl b3 t1 r12.1) fun r13 =>
 (cond (!r12.2.1)
 (some (.inr (.inr (([], false, ()), ()))))
 (cond (!r13.2.1)
 (some (.inr (.inr (([], false, ()), ()))))
 (cond (bl (ln t8 + ln ([r13.1] : List Int)) Bb)
 (some (.inl ((r13.1, (), (ap t8 ([r13.1] : List Int)), t19, t20, (wr .i64 (t21 + 1)), ()), (b3, ()))))
 none))))))
 (some (.inr (.inl ((t8, ()), ())))))
def Hp := Nb fun x : ((Int × D6) × Wm) => Bn x.1.1 x.1.2.1 x.1.2.2.1 x.1.2.2.2.1 x.1.2.2.2.2.1 x.1.2.2.2.2.2.1 x.2.1
def Eo (a0 : Ba) (a1 : Int) (a2 : Cf) : Option (Cf × Jd) :=
 (ob (Uj a0 a1) fun r1 =>
 (cond (!r1.1)
 (some ([], false, ()))
 (ob (Hp ((a1, (), [], a2, ((ln a2 : Nat) : Int), 0, ()), (a0, ()))) (se (fun y14 => (some (y14.1.1, true, ()))) (fun z15 => (some z15.1))))))
def CF (a0 : Cf) : Option Jd :=
 (some ((decide (((ln a0 : Nat) : Int) > 1048576)), ()))
def HF (t0 : Cf) (t3 : Int) (t4 : Int) : Option (LK ⊕ ((UaH × Unit) ⊕ Xg)) :=
 (cond (decide (t4 < ((ln t0 : Nat) : Int)))
 (cond (decide (t4 < 4000))
 (ob (Cc t0 t4) fun x3 =>
 (some (.inl ((t0, (Ya .i64 (wr .i64 ((wr .i64 ((wr .i64 (t3 * 131)) + (wr .i64 x3))) + 7)) 1073741823), (wr .i64 (t4 + 1)), ()), ()))))
 (some (.inr (.inl ((t0, t3, ()), ())))))
 (some (.inr (.inl ((t0, t3, ()), ())))))
def ZA := Nb fun x : LK => HF x.1.1 x.1.2.1 x.1.2.2.1
def PI (a0 : Cf) : Option Ab :=
 (ob (ZA ((a0, (wr .i64 (10729 + ((ln a0 : Nat) : Int))), 0, ()), ())) (se (fun y4 => (some (y4.1.1, 0, y4.1.2.1, ()))) (fun z5 => none)))
def KG (a0 : Cf) (a1 : Int) : Option Ab :=
 (ob (PI a0) fun r1 =>
 (some (r1.1, r1.2.1, (wr .i64 (r1.2.2.1 + (wr .i64 (7919 * a1)))), r1.2.2.2)))
def Wn (a0 : Ab) : Option (Ab × Rg) :=
 (cond (decide ((0 : Int) ≤ 33))
 (cond (decide ((0 : Int) ≤ 45))
 (cond (decide (a0.2.1 < ((ln a0.1 : Nat) : Int)))
 (ob (Cc a0.1 a0.2.1) fun x1 =>
 (some ((a0.1, (wr .i64 (a0.2.1 + 1)), (wr .i64 ((wr .i64 (a0.2.2.1 * 6364136223846793005)) + 1442695040888963407)), a0.2.2.2), ((Ya .i64 (wr .i64 ((Ya .i64 (Kf .i64 (Hc .i64 (wr .i64 ((wr .i64 (a0.2.2.1 * 6364136223846793005)) + 1442695040888963407)) 33) (Hc .i64 (wr .i64 ((wr .i64 (a0.2.2.1 * 6364136223846793005)) + 1442695040888963407)) 45)) 255) + (wr .i64 x1))) 255), ()))))
 (some ((a0.1, a0.2.1, (wr .i64 ((wr .i64 (a0.2.2.1 * 6364136223846793005)) + 1442695040888963407)), a0.2.2.2), ((Ya .i64 (Kf .i64 (Hc .i64 (wr .i64 ((wr .i64 (a0.2.2.1 * 6364136223846793005)) + 1442695040888963407)) 33) (Hc .i64 (wr .i64 ((wr .i64 (a0.2.2.1 * 6364136223846793005)) + 1442695040888963407)) 45)) 255), ()))))
 none)
 none)
def Cb (a0 : Ab) (a1 : Int) : Option (Ab × Rg) :=
 (cond (decide (a1 ≤ 0))
 (some (a0, (0, ())))
 (cond (decide (a1 ≤ 256))
 (ob (Wn a0) fun r1 =>
 (cond (a1 == 0)
 none
 (some (r1.1, ((Int.tmod r1.2.1 a1), ())))))
 (ob (Wn a0) fun r2 =>
 (ob (Wn r2.1) fun r3 =>
 (ob (Wn r3.1) fun r4 =>
 (ob (Wn r4.1) fun r5 =>
 (cond (a1 == 0)
 none
 (some (r5.1, ((Int.tmod (wr .i64 ((wr .i64 ((wr .i64 ((wr .i64 (r2.2.1 * 16777216)) + (wr .i64 (r3.2.1 * 65536)))) + (wr .i64 (r4.2.1 * 256)))) + r5.2.1)) a1), ()))))))))))
def HA (a0 : Pa) : Option Jd :=
 (ob (Qk a0) fun r1 =>
 (cond r1.1
 (cond (a0.1 == 6)
 (some (true, ()))
 (some ((a0.1 == 7), ())))
 (some (false, ()))))
def Bh (a0 : Ab) (a1 : Int) : Option (Ab × Jd) :=
 (ob (Cb a0 a1) fun r1 =>
 (some (r1.1, ((r1.2.1 == 0), ()))))
def Ht (a0 : Ab) (a1 : Cf) : Option (Ab × Rg) :=
 (ob (Cb a0 ((ln a1 : Nat) : Int)) fun r1 =>
 (cond (Ei (ln a1) r1.2.1)
 (ob a1[(tn r1.2.1)]? fun x2 =>
 (some (r1.1, (x2, ()))))
 none))
def GF (a0 : Ab) : Option (Ab × FI) :=
 (ob (Cb a0 9) fun r1 =>
 (ob (Ht r1.1 ([0, 0, 3, 6] : List Int)) fun r2 =>
 (ob (Cb r2.1 3) fun r3 =>
 (some (r3.1, (((wr .i64 (1 + r1.2.1)), r2.2.1, r3.2.1, ()), ()))))))
def Yn (a0 : Pa) : Option Jd :=
 (ob (Mk a0) fun r1 =>
 (cond r1.1
 (cond (a0.1 == 6)
 (some (true, ()))
 (some ((a0.1 == 7), ())))
 (some (false, ()))))
def HI (a0 : Pa) : Option YS :=
 (ob (Yn a0) fun r1 =>
 (cond (!r1.1)
 (some (a0, ()))
 (some ((2, a0.2.1, 0, 0, ()), ()))))
def So (t2 : Unit) (t3 : Unit) (t10 : (List Hr)) (t11 : Int) (t12 : Int) (b2 : Hb) (b3 : Hb) : Option (((Unit × (Unit × VX)) × SB) ⊕ ((SX × SB) ⊕ Xg)) :=
 (cond (decide (t12 < t11))
 (ob (Cc t10 t12) fun x4 =>
 (cond (bl (ln ([] : List Pa) + ln x4) Bb)
 (cond (bl (ln b3.2.1 + ln ([(ap [] x4)] : List Hr)) Bb)
 (some (.inl (((), (), t10, t11, (wr .i64 (t12 + 1)), ()), (b2, (b3.1, (ap b3.2.1 ([(ap [] x4)] : List Hr)), ()), ()))))
 none)
 none))
 (some (.inr (.inl (((), (), ()), (b2, b3, ()))))))
def Qq := Nb fun x : ((Unit × (Unit × VX)) × SB) => So x.1.1 x.1.2.1 x.1.2.2.1 x.1.2.2.2.1 x.1.2.2.2.2.1 x.2.1 x.2.2.1
def Hx (a0 : Hb) : Option MA :=
 (ob (Qq (((), (), a0.2.1, ((ln a0.2.1 : Nat) : Int), 0, ()), ((0, [], ()), (a0.1, [], ()), ()))) (se (fun y5 => (some (y5.2.2.1, ()))) (fun z6 => none)))
def To (t3 : Ir) (t6 : Ir) (t7 : Int) (t8 : Int) : Option (((Ir × (Ir × Ja)) × Unit) ⊕ (((Ir × Unit) × Unit) ⊕ Xg)) :=
 (cond (decide (t8 < t7))
 (ob (Cc t6 t8) fun x4 =>
 (cond (bl (ln ([] : List Xb) + ln x4) Bb)
 (cond (bl (ln t3 + ln ([(ap [] x4)] : List Vk)) Bb)
 (some (.inl (((ap t3 ([(ap [] x4)] : List Vk)), t6, t7, (wr .i64 (t8 + 1)), ()), ())))
 none)
 none))
 (some (.inr (.inl ((t3, ()), ())))))
def Rq := Nb fun x : ((Ir × (Ir × Ja)) × Unit) => To x.1.1 x.1.2.1 x.1.2.2.1 x.1.2.2.2.1
def Ix (a0 : Ir) : Option (Ir × Unit) :=
 (ob (Rq (([], a0, ((ln a0 : Nat) : Int), 0, ()), ())) (se (fun y5 => (some (y5.1.1, ()))) (fun z6 => none)))
def He (a0 : Int) (a1 : Int) : Option Rg :=
 (cond (decide (0 ≤ a1))
 (some ((Ya .i64 (Hc .i64 a0 a1) 1), ()))
 none)
def Zw (t3 : Int) (t6 : Jh) (t7 : Int) (t8 : Int) : Option (JK ⊕ Rz) :=
 (cond (decide (t8 < t7))
 (ob (Cc t6 t8) fun x7 =>
 (cond (decide (x7.1 < 0))
 (some (.inr (.inr ((false, ()), ()))))
 (cond (decide (x7.1 > 31))
 (some (.inr (.inr ((false, ()), ()))))
 (ob (He t3 x7.1) fun r8 =>
 (cond (r8.1 == 1)
 (some (.inr (.inr ((false, ()), ()))))
 (ob (Mk x7.2.1) fun r9 =>
 (cond (!r9.1)
 (some (.inr (.inr ((false, ()), ()))))
 (cond (x7.2.1.1 == 1)
 (some (.inr (.inr ((false, ()), ()))))
 (cond (x7.2.1.1 == 6)
 (some (.inr (.inr ((false, ()), ()))))
 (cond (x7.2.1.1 == 7)
 (some (.inr (.inr ((false, ()), ()))))
 (cond (decide (0 ≤ x7.1))
 (some (.inl (((Tc .i64 t3 (Ra .i64 1 x7.1)), t6, t7, (wr .i64 (t8 + 1)), ()), ())))
 none)))))))))))
 (some (.inr (.inl ((), ())))))
def Jy := Nb fun x : JK => Zw x.1.1 x.1.2.1 x.1.2.2.1 x.1.2.2.2.1
def Ml (a0 : Jh) : Option Jd :=
 (ob (Jy ((0, a0, ((ln a0 : Nat) : Int), 0, ()), ())) (se (fun y10 => (some (true, ()))) (fun z11 => (some (z11.1.1, ())))))
def Lx (t3 : Unit) (t7 : Nf) (t8 : Int) (t9 : Int) (b3 : Ja) : Option (((Unit × Am) × KK) ⊕ TX) :=
 (cond (decide (t9 < t8))
 (ob (Cc t7 t9) fun x3 =>
 (cond (Jl Vc x3 b3)
 (some (.inr (.inr ((t9, ()), ()))))
 (some (.inl (((), t7, t8, (wr .i64 (t9 + 1)), ()), (b3, ()))))))
 (some (.inr (.inl ((), ())))))
def Py := Nb fun x : ((Unit × Am) × KK) => Lx x.1.1 x.1.2.1 x.1.2.2.1 x.1.2.2.2.1 x.2.1
def KB (a0 : Nf) (a1 : Ja) : Option Rg :=
 (ob (Py (((), a0, ((ln a0 : Nat) : Int), 0, ()), (a1, ()))) (se (fun y4 => (some ((-1), ()))) (fun z5 => (some (z5.1.1, ())))))
def Jo (t3 : Nf) (t11 : Vk) (t12 : Int) (t13 : Int) : Option ((G6 × Unit) ⊕ (((Nf × Unit) × Unit) ⊕ Kl)) :=
 (cond (decide (t13 < t12))
 (ob (Cc t11 t13) fun x10 =>
 (ob (KB t3 x10.2) fun r11 =>
 (ob (Mk (2, x10.2.1, x10.2.2.1, 0, ())) fun r12 =>
 (cond (!r12.1)
 (some (.inr (.inr ((false, ()), ()))))
 (cond (x10.1 == 0)
 (cond (decide (r11.1 ≥ 0))
 (some (.inr (.inr ((false, ()), ()))))
 (cond (x10.1 == 1)
 (cond (bl (ln t3 + ln ([x10.2] : List Ja)) Bb)
 (some (.inl (((ap t3 ([x10.2] : List Ja)), t11, t12, (wr .i64 (t13 + 1)), ()), ())))
 none)
 (some (.inl ((t3, t11, t12, (wr .i64 (t13 + 1)), ()), ())))))
 (cond (x10.1 == 1)
 (cond (decide (r11.1 ≥ 0))
 (some (.inr (.inr ((false, ()), ()))))
 (cond (x10.1 == 1)
 (cond (bl (ln t3 + ln ([x10.2] : List Ja)) Bb)
 (some (.inl (((ap t3 ([x10.2] : List Ja)), t11, t12, (wr .i64 (t13 + 1)), ()), ())))
 none)
 (some (.inl ((t3, t11, t12, (wr .i64 (t13 + 1)), ()), ())))))
 (cond (x10.1 == 2)
 (cond (decide (r11.1 < 0))
 (some (.inr (.inr ((false, ()), ()))))
 (cond (Af (ln t3) 0 r11.1)
 (cond (Af (ln t3) (wr .i64 (r11.1 + 1)) ((ln t3 : Nat) : Int))
 (cond (bl (ln (Qb t3 (tn 0) (tn r11.1)) + ln (Qb t3 (tn (wr .i64 (r11.1 + 1))) (tn ((ln t3 : Nat) : Int)))) Bb)
 (some (.inl (((ap (Qb t3 (tn 0) (tn r11.1)) (Qb t3 (tn (wr .i64 (r11.1 + 1))) (tn ((ln t3 : Nat) : Int)))), t11, t12, (wr .i64 (t13 + 1)), ()), ())))
 none)
 none)
 none))
 (some (.inr (.inr ((false, ()), ())))))))))))
 (some (.inr (.inl ((t3, ()), ())))))
def Lw := Nb fun x : (G6 × Unit) => Jo x.1.1 x.1.2.1 x.1.2.2.1 x.1.2.2.2.1
def Ky (a0 : Vk) : Option Jd :=
 (cond (decide (((ln a0 : Nat) : Int) > 8))
 (some (false, ()))
 (ob (Lw (([], a0, ((ln a0 : Nat) : Int), 0, ()), ())) (se (fun y13 => (some ((((ln y13.1.1 : Nat) : Int) == 0), ()))) (fun z14 => (some (z14.1.1, ()))))))
def Qr (t1 : Unit) (t35 : Ir) (t36 : Int) (t37 : Int) (b1 : Jb) : Option (((Unit × (Ir × Ja)) × Zj) ⊕ ((Xg × Zj) ⊕ Kl)) :=
 (cond (decide (t37 < t36))
 (ob (Cc t35 t37) fun x7 =>
 (ob (Ky x7) fun r8 =>
 (cond (!r8.1)
 (some (.inr (.inr ((false, ()), ()))))
 (some (.inl (((), t35, t36, (wr .i64 (t37 + 1)), ()), (b1, ())))))))
 (some (.inr (.inl (((), ()), (b1, ()))))))
def Hn := Nb fun x : ((Unit × (Ir × Ja)) × Zj) => Qr x.1.1 x.1.2.1 x.1.2.2.1 x.1.2.2.2.1 x.2.1
def Aq (t1 : Unit) (t5 : Int) (t50 : Jh) (t51 : Int) (t52 : Int) (b1 : Jb) : Option (((Unit × (Int × SN)) × Zj) ⊕ ((Uw × Zj) ⊕ Kl)) :=
 (cond (decide (t52 < t51))
 (ob (Cc t50 t52) fun x13 =>
 (cond (decide (x13.1 ≥ b1.1.1))
 (some (.inr (.inr ((false, ()), ()))))
 (cond (x13.2.1.1 != 9)
 (cond (decide (x13.2.1.2.2.2.1 ≥ t5))
 (some (.inr (.inr ((false, ()), ()))))
 (some (.inl (((), t5, t50, t51, (wr .i64 (t52 + 1)), ()), (b1, ())))))
 (some (.inl (((), t5, t50, t51, (wr .i64 (t52 + 1)), ()), (b1, ())))))))
 (some (.inr (.inl (((), t5, ()), (b1, ()))))))
def Cm := Nb fun x : ((Unit × (Int × SN)) × Zj) => Aq x.1.1 x.1.2.1 x.1.2.2.1 x.1.2.2.2.1 x.1.2.2.2.2.1 x.2.1
def WB (a0 : Jb) : Option Jd :=
 (ob (Pv a0.1) fun r1 =>
 (cond (!r1.1)
 (some (false, ()))
 (cond (decide (((ln a0.2.1 : Nat) : Int) > 4))
 (some (false, ()))
 (ob (Ml a0.2.2.2.1) fun r2 =>
 (cond (!r2.1)
 (some (false, ()))
 (cond (decide (a0.2.2.2.2.1 < 0))
 (some (false, ()))
 (cond (decide (a0.2.2.2.2.1 > 15))
 (some (false, ()))
 (ob (Hn (((), a0.2.1, ((ln a0.2.1 : Nat) : Int), 0, ()), (a0, ()))) (se (fun y9 => (ob (Cm (((), ((ln y9.2.1.1.2.1 : Nat) : Int), y9.2.1.2.2.2.1, ((ln y9.2.1.2.2.2.1 : Nat) : Int), 0, ()), (y9.2.1, ()))) (se (fun y14 => (cond (decide (y14.2.1.2.2.1 ≥ 0))
 (cond ((2 : Int) == 0)
 none
 (cond ((Int.tmod y14.2.1.2.2.1 2) == 0)
 (cond (decide (0 ≤ y14.1.2.1))
 (some ((decide (y14.2.1.2.2.1 < (Ra .i64 1 y14.1.2.1))), ()))
 none)
 (some (false, ()))))
 (some (false, ())))) (fun z15 => (some (z15.1.1, ())))))) (fun z10 => (some (z10.1.1, ()))))))))))))
def Bk (a0 : Jb) : Option Zj :=
 (ob (Hx a0.1) fun r1 =>
 (ob (Ix a0.2.1) fun r2 =>
 (cond (bl (ln ([] : List Va) + ln a0.2.2.2.1) Bb)
 (some ((r1.1, r2.1, a0.2.2.1, (ap [] a0.2.2.2.1), a0.2.2.2.2), ()))
 none)))
def Qv (a0 : Xb) : Option Jd :=
 (cond (decide (a0.1 ≥ 1))
 (cond (decide (a0.1 ≤ 1000))
 (cond (decide (a0.2.1 ≥ 0))
 (cond (decide (a0.2.1 ≤ 1000))
 (cond (decide (a0.2.2.1 ≥ 0))
 (some ((decide (a0.2.2.1 ≤ 2)), ()))
 (some (false, ())))
 (some (false, ())))
 (some (false, ())))
 (some (false, ())))
 (some (false, ())))
def Ur (t3 : Int) (t6 : Jh) (t7 : Int) (t8 : Int) : Option (JK ⊕ TF) :=
 (cond (decide (t8 < t7))
 (ob (Cc t6 t8) fun x3 =>
 (cond (decide (0 ≤ x3.1))
 (some (.inl (((Tc .i64 t3 (Ra .i64 1 x3.1)), t6, t7, (wr .i64 (t8 + 1)), ()), ())))
 none))
 (some (.inr (.inl ((t3, ()), ())))))
def Mu := Nb fun x : JK => Ur x.1.1 x.1.2.1 x.1.2.2.1 x.1.2.2.2.1
def Mm (a0 : Jh) : Option Rg :=
 (ob (Mu ((0, a0, ((ln a0 : Nat) : Int), 0, ()), ())) (se (fun y4 => (some (y4.1.1, ()))) (fun z5 => none)))
def Ss (a0 : Ba) : Option Jd :=
 (cond (decide (a0.1 ≥ 0))
 (cond (decide (a0.1 ≤ 1000000))
 (cond (decide (a0.2.1 ≥ 0))
 (some ((decide (a0.2.1 ≤ 31)), ()))
 (some (false, ())))
 (some (false, ())))
 (some (false, ())))
def Jx (t0 : Sg) (t1 : Int) (t11 : Sg) (t12 : Int) (t13 : Int) : Option (((Sg × Vw) × Unit) ⊕ ((Rg × Unit) ⊕ (EI × Unit))) :=
 (cond (decide (t13 < t12))
 (ob (Cc t11 t13) fun x11 =>
 (ob (Ss x11) fun r12 =>
 (cond (!r12.1)
 (some (.inr (.inr ((0, false, ()), ()))))
 (cond (decide (t13 > 0))
 (ob (Cc t0 (wr .i64 (t13 - 1))) fun x13 =>
 (cond (decide (x13.1 > x11.1))
 (some (.inr (.inr ((0, false, ()), ()))))
 (ob (He t1 x11.2.1) fun r14 =>
 (cond (x11.2.2.1 == (r14.1 == 1))
 (some (.inr (.inr ((0, false, ()), ()))))
 (cond (decide (0 ≤ x11.2.1))
 (some (.inl ((t0, (Kf .i64 t1 (Ra .i64 1 x11.2.1)), t11, t12, (wr .i64 (t13 + 1)), ()), ())))
 none)))))
 (ob (He t1 x11.2.1) fun r15 =>
 (cond (x11.2.2.1 == (r15.1 == 1))
 (some (.inr (.inr ((0, false, ()), ()))))
 (cond (decide (0 ≤ x11.2.1))
 (some (.inl ((t0, (Kf .i64 t1 (Ra .i64 1 x11.2.1)), t11, t12, (wr .i64 (t13 + 1)), ()), ())))
 none)))))))
 (some (.inr (.inl ((t1, ()), ())))))
def My := Nb fun x : ((Sg × Vw) × Unit) => Jx x.1.1 x.1.2.1 x.1.2.2.1 x.1.2.2.2.1 x.1.2.2.2.2.1
def BG (a0 : Sg) (a1 : Int) : Option EI :=
 (cond (decide (((ln a0 : Nat) : Int) > 64))
 (some (0, false, ()))
 (ob (My ((a0, a1, a0, ((ln a0 : Nat) : Int), 0, ()), ())) (se (fun y16 => (some (y16.1.1, true, ()))) (fun z17 => (some z17.1)))))
def Cq (t0 : Sg) (t1 : Int) (t2 : Int) (t11 : Sg) (t12 : Int) (t13 : Int) : Option (((Sg × (Int × Vw)) × Unit) ⊕ ((ZI × Unit) ⊕ Kl)) :=
 (cond (decide (t13 < t12))
 (ob (Cc t11 t13) fun x3 =>
 (cond (decide (x3.2.1 ≥ t2))
 (some (.inr (.inr ((false, ()), ()))))
 (some (.inl ((t0, t1, t2, t11, t12, (wr .i64 (t13 + 1)), ()), ())))))
 (some (.inr (.inl ((t0, t1, ()), ())))))
def Xs := Nb fun x : ((Sg × (Int × Vw)) × Unit) => Cq x.1.1 x.1.2.1 x.1.2.2.1 x.1.2.2.2.1 x.1.2.2.2.2.1 x.1.2.2.2.2.2.1
def Ui (a0 : Sg) (a1 : Int) (a2 : Int) : Option Jd :=
 (ob (Xs ((a0, a1, a2, a0, ((ln a0 : Nat) : Int), 0, ()), ())) (se (fun y4 => (ob (BG y4.1.1 y4.1.2.1) fun r6 =>
 (some (r6.2.1, ())))) (fun z5 => (some (z5.1.1, ())))))
def Si (a0 : Sg) (a1 : Int) : Option Jd :=
 (cond (((ln a0 : Nat) : Int) == 0)
 (some (true, ()))
 (ob (Cc a0 (wr .i64 (((ln a0 : Nat) : Int) - 1))) fun x1 =>
 (some ((decide (x1.1 ≤ a1)), ()))))
def Dl (a0 : Xa) : Option Jd :=
 (ob (WB a0.1) fun r1 =>
 (cond (!r1.1)
 (some (false, ()))
 (ob (Qv a0.2.1) fun r2 =>
 (cond (!r2.1)
 (some (false, ()))
 (cond (decide (a0.2.2.2.1 < 0))
 (some (false, ()))
 (cond (decide (a0.2.2.2.1 > 1000000))
 (some (false, ()))
 (cond (decide (a0.2.2.2.2.1 < 0))
 (some (false, ()))
 (cond (decide (a0.2.2.2.2.1 > a0.2.2.2.1))
 (some (false, ()))
 (ob (Mm a0.1.2.2.2.1) fun r3 =>
 (ob (Ui a0.2.2.1 r3.1 a0.1.1.1) fun r4 =>
 (cond (!r4.1)
 (some (false, ()))
 (ob (Si a0.2.2.1 a0.2.2.2.1) fun r5 =>
 (cond (!r5.1)
 (some (false, ()))
 (cond (decide (a0.2.2.2.2.2.1 ≥ 0))
 (cond (decide (a0.2.2.2.2.2.1 ≤ a0.1.1.1))
 (cond (decide (a0.2.2.2.2.2.2.1 ≥ 0))
 (some ((decide (a0.2.2.2.2.2.2.1 ≤ a0.2.2.2.1)), ()))
 (some (false, ())))
 (some (false, ())))
 (some (false, ()))))))))))))))))
def Cx (a0 : Jb) (a1 : Xb) : Option (Xa × Jd) :=
 (ob (Bk a0) fun r1 =>
 (ob (Dl (r1.1, a1, [], 0, 0, 0, 0, ())) fun r2 =>
 (cond (!r2.1)
 (some (Oi, false, ()))
 (some ((r1.1, a1, [], 0, 0, 0, 0, ()), true, ())))))
def Gl (a0 : Xa) : Option Yaf :=
 (ob (Bk a0.1) fun r1 =>
 (cond (bl (ln ([] : List Ba) + ln a0.2.2.1) Bb)
 (some ((r1.1, a0.2.1, (ap [] a0.2.2.1), a0.2.2.2), ()))
 none))
def Yw (t1 : Int) (t8 : Jh) (t9 : Int) (t10 : Int) : Option (JK ⊕ TX) :=
 (cond (decide (t10 < t9))
 (ob (Cc t8 t10) fun x3 =>
 (cond (x3.1 == t1)
 (some (.inr (.inr ((t10, ()), ()))))
 (some (.inl ((t1, t8, t9, (wr .i64 (t10 + 1)), ()), ())))))
 (some (.inr (.inl ((), ())))))
def Hy := Nb fun x : JK => Yw x.1.1 x.1.2.1 x.1.2.2.1 x.1.2.2.2.1
def ZF (a0 : Jb) (a1 : Int) : Option Rg :=
 (ob (Hy ((a1, a0.2.2.2.1, ((ln a0.2.2.2.1 : Nat) : Int), 0, ()), ())) (se (fun y4 => (some ((-1), ()))) (fun z5 => (some (z5.1.1, ())))))
def sort_Ints (x0 : Cf) : Option Qz := srt x0
def Kx (t1 : Int) (t7 : Cf) (t8 : Int) (t9 : Int) : Option ((XS × Unit) ⊕ Rz) :=
 (cond (decide (t9 < t8))
 (ob (Cc t7 t9) fun x3 =>
 (cond (x3 == t1)
 (some (.inr (.inr ((true, ()), ()))))
 (some (.inl ((t1, t7, t8, (wr .i64 (t9 + 1)), ()), ())))))
 (some (.inr (.inl ((), ())))))
def Ny := Nb fun x : (XS × Unit) => Kx x.1.1 x.1.2.1 x.1.2.2.1 x.1.2.2.2.1
def CG (a0 : Cf) (a1 : Int) : Option Jd :=
 (ob (Ny ((a1, a0, ((ln a0 : Nat) : Int), 0, ()), ())) (se (fun y4 => (some (false, ()))) (fun z5 => (some (z5.1.1, ())))))
def Ju (t4 : Cf) (t11 : Cf) (t12 : Int) (t13 : Int) : Option (QX ⊕ WaH) :=
 (cond (decide (t13 < t12))
 (cond (Ei (ln t11) t13)
 (ob t11[(tn t13)]? fun x9 =>
 (cond (x9 != 0)
 (ob (CG t4 x9) fun r10 =>
 (cond (!r10.1)
 (cond (bl (ln t4 + ln ([x9] : List Int)) Bb)
 (some (.inl (((ap t4 ([x9] : List Int)), t11, t12, (wr .i64 (t13 + 1)), ()), ())))
 none)
 (some (.inl ((t4, t11, t12, (wr .i64 (t13 + 1)), ()), ())))))
 (some (.inl ((t4, t11, t12, (wr .i64 (t13 + 1)), ()), ())))))
 none)
 (some (.inr (.inl ((t4, ()), ())))))
def Mw := Nb fun x : QX => Ju x.1.1 x.1.2.1 x.1.2.2.1 x.1.2.2.2.1
def Ts (a0 : Cf) : Option Qz :=
 (ob (Lm a0) fun r1 =>
 (ob (sort_Ints r1.1) fun r2 =>
 (ob (Mw (([], r2.1, ((ln r2.1 : Nat) : Int), 0, ()), ())) (se (fun y11 => (some (y11.1.1, ()))) (fun z12 => none)))))
def Sr (t2 : Unit) (t3 : Unit) (t4 : Cf) (t11 : Jh) (t12 : Int) (t13 : Int) (b2 : La) (b3 : La) : Option (((Unit × (Unit × (Cf × SN))) × W6) ⊕ Zat) :=
 (cond (decide (t13 < t12))
 (ob (Cc t11 t13) fun x5 =>
 (cond (x5.2.1.1 == 2)
 (cond (bl (ln t4 + ln ([x5.2.1.2.1] : List Int)) Bb)
 (some (.inl (((), (), (ap t4 ([x5.2.1.2.1] : List Int)), t11, t12, (wr .i64 (t13 + 1)), ()), (b2, ((Tc .i64 b3.1 x5.2.1.2.2.1), b3.2.1, ()), ()))))
 none)
 (cond (x5.2.1.1 == 8)
 (cond (bl (ln t4 + ln ([x5.2.1.2.1] : List Int)) Bb)
 (some (.inl (((), (), (ap t4 ([x5.2.1.2.1] : List Int)), t11, t12, (wr .i64 (t13 + 1)), ()), (b2, ((Tc .i64 b3.1 x5.2.1.2.2.1), b3.2.1, ()), ()))))
 none)
 (cond (bl (ln t4 + ln ([x5.2.1.2.1] : List Int)) Bb)
 (some (.inl (((), (), (ap t4 ([x5.2.1.2.1] : List Int)), t11, t12, (wr .i64 (t13 + 1)), ()), (b2, b3, ()))))
 none))))
 (some (.inr (.inl (((), (), t4, ()), (b2, b3, ()))))))
def Gu := Nb fun x : ((Unit × (Unit × (Cf × SN))) × W6) => Sr x.1.1 x.1.2.1 x.1.2.2.1 x.1.2.2.2.1 x.1.2.2.2.2.1 x.1.2.2.2.2.2.1 x.2.1 x.2.2.1
def Ud (a0 : Jh) : Option RX :=
 (ob (Ml a0) fun r1 =>
 (cond (!r1.1)
 (some ((0, [], ()), ()))
 (ob (Gu (((), (), [], a0, ((ln a0 : Nat) : Int), 0, ()), ((0, [], ()), (0, [], ()), ()))) (se (fun y6 => (ob (Ts y6.1.2.2.1) fun r8 =>
 (some ((y6.2.2.1.1, r8.1, ()), ())))) (fun z7 => none)))))
def Xr (t0 : Cf) (t1 : Cf) (t12 : Int) (t13 : Int) : Option (QX ⊕ Rz) :=
 (cond (decide (t13 < t12))
 (ob (Cc t0 t13) fun x5 =>
 (ob (Cc t1 t13) fun x6 =>
 (cond (x5 != x6)
 (some (.inr (.inr ((false, ()), ()))))
 (some (.inl ((t0, t1, t12, (wr .i64 (t13 + 1)), ()), ()))))))
 (some (.inr (.inl ((), ())))))
def Nu := Nb fun x : QX => Xr x.1.1 x.1.2.1 x.1.2.2.1 x.1.2.2.2.1
def YB (a0 : Cf) (a1 : Cf) : Option Jd :=
 (cond (((ln a0 : Nat) : Int) != ((ln a1 : Nat) : Int))
 (some (false, ()))
 (ob (Nu ((a0, a1, ((ln a0 : Nat) : Int), 0, ()), ())) (se (fun y7 => (some (true, ()))) (fun z8 => (some (z8.1.1, ()))))))
def Bi (a0 : La) (a1 : La) : Option Jd :=
 (cond (a0.1 == a1.1)
 (ob (YB a0.2.1 a1.2.1) fun r1 =>
 (some (r1.1, ())))
 (some (false, ())))
def Zo (a b : La) : Bool := (a.1 == b.1) && (a.2.1 == b.2.1)
def Rat (c : T Te → T Te → Option Bool) (a b : T Te) : Option Jd := ob (c a b) fun x => some (x, ())
def VE (c : T Te → T Te → Option Bool) (t2 : Unit) (t5 : (List (Int × ((T .o) × Unit)))) (t8 : (List (Int × ((T .o) × Unit)))) (t9 : Int) (t10 : Int) (b2 : (Int × ((T .o) × Unit))) : Option (((Unit × ((List (Int × ((T .o) × Unit))) × ((List (Int × ((T .o) × Unit))) × Ja))) × ((Int × ((T .o) × Unit)) × Unit)) ⊕ ((((List (Int × ((T .o) × Unit))) × Unit) × Unit) ⊕ Xg)) :=
 (cond (decide (t10 < t9))
 (ob (Cc t8 t10) fun x7 =>
 (ob (Rat c b2 x7) fun r8 =>
 (cond (!r8.1)
 (cond (bl (ln t5 + ln ([x7] : List (Int × ((T .o) × Unit)))) Bb)
 (some (.inl (((), (ap t5 ([x7] : List (Int × ((T .o) × Unit)))), t8, t9, (wr .i64 (t10 + 1)), ()), (x7, ()))))
 none)
 (some (.inl (((), t5, t8, t9, (wr .i64 (t10 + 1)), ()), (x7, ())))))))
 (some (.inr (.inl ((t5, ()), ())))))
def Zv (c : T Te → T Te → Option Bool) (x : ((Unit × ((List (Int × ((T .o) × Unit))) × ((List (Int × ((T .o) × Unit))) × Ja))) × ((Int × ((T .o) × Unit)) × Unit))) : Option ((((List (Int × ((T .o) × Unit))) × Unit) × Unit) ⊕ Xg) := Nb (fun x : ((Unit × ((List (Int × ((T .o) × Unit))) × ((List (Int × ((T .o) × Unit))) × Ja))) × ((Int × ((T .o) × Unit)) × Unit)) => VE c x.1.1 x.1.2.1 x.1.2.2.1 x.1.2.2.2.1 x.1.2.2.2.2.1 x.2.1) x
def Rag (c : T Te → T Te → Option Bool) (a0 : (Int × ((T .o) × Unit))) (a1 : (List (Int × ((T .o) × Unit)))) : Option ((List (Int × ((T .o) × Unit))) × Unit) :=
 (ob (Zv c (((), ([] : List (Int × ((T .o) × Unit))), a1, ((ln a1 : Nat) : Int), 0, ()), (a0, ()))) (se (fun y9 => (some (y9.1.1, ()))) (fun z10 => none)))
def Ye (a0 : La) (a1 : List La) : Option WX := Qag Zo a0 a1
def Qy (a0 : Jb) (a1 : Int) : Option (Jb × WX) :=
 (ob (Bk a0) fun r1 =>
 (ob (ZF a0 a1) fun r2 =>
 (cond (Af (ln r1.1.2.2.2.1) 0 r2.1)
 (cond (Af (ln r1.1.2.2.2.1) (wr .i64 (r2.1 + 1)) ((ln r1.1.2.2.2.1 : Nat) : Int))
 (cond (bl (ln (Qb r1.1.2.2.2.1 (tn 0) (tn r2.1)) + ln (Qb r1.1.2.2.2.1 (tn (wr .i64 (r2.1 + 1))) (tn ((ln r1.1.2.2.2.1 : Nat) : Int)))) Bb)
 (ob (Ud a0.2.2.2.1) fun r3 =>
 (ob (Ud (ap (Qb r1.1.2.2.2.1 (tn 0) (tn r2.1)) (Qb r1.1.2.2.2.1 (tn (wr .i64 (r2.1 + 1))) (tn ((ln r1.1.2.2.2.1 : Nat) : Int))))) fun r4 =>
 (ob (Ye r3.1 ([r4.1] : List La)) fun r5 =>
 (some ((r1.1.1, r1.1.2.1, r1.1.2.2.1, (ap (Qb r1.1.2.2.2.1 (tn 0) (tn r2.1)) (Qb r1.1.2.2.2.1 (tn (wr .i64 (r2.1 + 1))) (tn ((ln r1.1.2.2.2.1 : Nat) : Int)))), r1.1.2.2.2.2), r5.1, ())))))
 none)
 none)
 none)))
def Rr (t5 : Int) (t21 : Jh) (t22 : Int) (t23 : Int) : Option (JK ⊕ TF) :=
 (cond (decide (t23 < t22))
 (ob (Cc t21 t23) fun x16 =>
 (cond (x16.2.1.1 == 3)
 (cond (decide (0 ≤ x16.2.1.2.2.2.1))
 (some (.inl (((Tc .i64 t5 (Ra .i64 1 x16.2.1.2.2.2.1)), t21, t22, (wr .i64 (t23 + 1)), ()), ())))
 none)
 (some (.inl ((t5, t21, t22, (wr .i64 (t23 + 1)), ()), ())))))
 (some (.inr (.inl ((t5, ()), ())))))
def Ak := Nb fun x : JK => Rr x.1.1 x.1.2.1 x.1.2.2.1 x.1.2.2.2.1
def Rv (a0 : Int) (a1 : Jh) : Option Rg :=
 (cond (decide (a0 ≥ 0))
 (cond (decide (a0 ≤ 15))
 (ob (Ml a1) fun r1 =>
 (cond (!r1.1)
 (some ((Tc .i64 1 a0), ()))
 (ob (Ak (((Tc .i64 1 a0), a1, ((ln a1 : Nat) : Int), 0, ()), ())) (se (fun y5 => (some (y5.1.1, ()))) (fun z6 => none)))))
 (ob (Ml a1) fun r7 =>
 (cond (!r7.1)
 (some (1, ()))
 (ob (Ak ((1, a1, ((ln a1 : Nat) : Int), 0, ()), ())) (se (fun y11 => (some (y11.1.1, ()))) (fun z12 => none))))))
 (ob (Ml a1) fun r13 =>
 (cond (!r13.1)
 (some (1, ()))
 (ob (Ak ((1, a1, ((ln a1 : Nat) : Int), 0, ()), ())) (se (fun y17 => (some (y17.1.1, ()))) (fun z18 => none))))))
def PJ (t1 : Int) (t2 : Int) (t3 : Unit) (t7 : Int) (b3 : Hb) : Option (Wat ⊕ TX) :=
 (cond (decide (t7 > 0))
 (ob (He t1 t7) fun r7 =>
 (cond (r7.1 == 1)
 (ob (Cc b3.2.1 t7) fun x8 =>
 (ob (Cc x8 t2) fun x9 =>
 (cond (x9.1 != 1)
 (some (.inr (.inr ((t7, ()), ()))))
 (some (.inl ((t1, t2, (), (wr .i64 (t7 - 1)), ()), (b3, ())))))))
 (some (.inl ((t1, t2, (), (wr .i64 (t7 - 1)), ()), (b3, ()))))))
 (some (.inr (.inl ((), ())))))
def Cj := Nb fun x : Wat => PJ x.1.1 x.1.2.1 x.1.2.2.1 x.1.2.2.2.1 x.2.1
def Oy (a0 : Hb) (a1 : Int) (a2 : Int) : Option Rg :=
 (ob (Cj ((a1, a2, (), (wr .i64 (((ln a0.2.1 : Nat) : Int) - 1)), ()), (a0, ()))) (se (fun y10 => (some (0, ()))) (fun z11 => (some (z11.1.1, ())))))
def OJ (a0 : Hb) (a1 : Int) (a2 : Int) : Option Rg :=
 (ob (Pv a0) fun r1 =>
 (cond (!r1.1)
 (some ((-1), ()))
 (cond (decide (a2 < 0))
 (some ((-1), ()))
 (cond (decide (a2 ≥ a0.1))
 (some ((-1), ()))
 (ob (Oy a0 a1 a2) fun r2 =>
 (some (r2.1, ())))))))
def VB (a0 : Hb) (a1 : Int) (a2 : Int) : Option YS :=
 (ob (OJ a0 a1 a2) fun r1 =>
 (cond (decide (r1.1 < 0))
 (some ((0, 0, 0, 0, ()), ()))
 (ob (Cc a0.2.1 r1.1) fun x2 =>
 (ob (Cc x2 a2) fun x3 =>
 (some (x3, ()))))))
def Kr (t1 : Int) (t2 : Int) (t4 : Int) (t5 : Unit) (t12 : Int) (t26 : Sg) (t27 : Int) (t28 : Int) (b5 : Xb) : Option (((Int × (Int × (Int × (Unit × Vw)))) × FI) ⊕ (((Int × (Int × Xg)) × FI) ⊕ KK)) :=
 (cond (decide (t28 < t27))
 (ob (Cc t26 t28) fun x10 =>
 (ob (Ss x10) fun r11 =>
 (cond (!r11.1)
 (some (.inr (.inr ((0, 0, ()), ()))))
 (cond (decide (x10.1 ≥ (wr .i64 (t2 + b5.1))))
 (some (.inr (.inr ((2, (wr .i64 (t2 + b5.1)), ()), ()))))
 (cond (x10.2.1 == t1)
 (cond (!x10.2.2.1)
 (some (.inr (.inr ((1, x10.1, ()), ()))))
 (cond (x10.2.1 == t1)
 (some (.inl ((t1, t2, t4, (), t12, t26, t27, (wr .i64 (t28 + 1)), ()), (b5, ()))))
 (cond x10.2.2.1
 (cond (b5.2.2.1 == 1)
 (some (.inr (.inr ((2, x10.1, ()), ()))))
 (cond (decide (0 ≤ x10.2.1))
 (some (.inl ((t1, t2, t4, (), (Tc .i64 t12 (Ra .i64 1 x10.2.1)), t26, t27, (wr .i64 (t28 + 1)), ()), (b5, ()))))
 none))
 (cond (b5.2.2.1 == 2)
 (ob (He t12 x10.2.1) fun r12 =>
 (cond (r12.1 == 1)
 (some (.inr (.inr ((2, x10.1, ()), ()))))
 (some (.inl ((t1, t2, t4, (), t12, t26, t27, (wr .i64 (t28 + 1)), ()), (b5, ()))))))
 (some (.inl ((t1, t2, t4, (), t12, t26, t27, (wr .i64 (t28 + 1)), ()), (b5, ()))))))))
 (cond (x10.2.1 == t1)
 (some (.inl ((t1, t2, t4, (), t12, t26, t27, (wr .i64 (t28 + 1)), ()), (b5, ()))))
 (cond x10.2.2.1
 (cond (b5.2.2.1 == 1)
 (some (.inr (.inr ((2, x10.1, ()), ()))))
 (cond (decide (0 ≤ x10.2.1))
 (some (.inl ((t1, t2, t4, (), (Tc .i64 t12 (Ra .i64 1 x10.2.1)), t26, t27, (wr .i64 (t28 + 1)), ()), (b5, ()))))
 none))
 (cond (b5.2.2.1 == 2)
 (ob (He t12 x10.2.1) fun r13 =>
 (cond (r13.1 == 1)
 (some (.inr (.inr ((2, x10.1, ()), ()))))
 (some (.inl ((t1, t2, t4, (), t12, t26, t27, (wr .i64 (t28 + 1)), ()), (b5, ()))))))
 (some (.inl ((t1, t2, t4, (), t12, t26, t27, (wr .i64 (t28 + 1)), ()), (b5, ()))))))))))))
 (some (.inr (.inl ((t2, t4, (), ()), (b5, ()))))))
def Au := Nb fun x : ((Int × (Int × (Int × (Unit × Vw)))) × FI) => Kr x.1.1 x.1.2.1 x.1.2.2.1 x.1.2.2.2.1 x.1.2.2.2.2.1 x.1.2.2.2.2.2.1 x.1.2.2.2.2.2.2.1 x.1.2.2.2.2.2.2.2.1 x.2.1
def Mv (a0 : Xb) (a1 : Int) (a2 : Int) (a3 : Sg) (a4 : Int) : Option Ja :=
 (ob (Qv a0) fun r1 =>
 (cond (!r1.1)
 (some (0, 0, ()))
 (cond (decide (a2 < 0))
 (some (0, 0, ()))
 (cond (decide (a2 > 1000000))
 (some (0, 0, ()))
 (ob (Au ((a1, a2, a4, (), 0, a3, ((ln a3 : Nat) : Int), 0, ()), (a0, ()))) (se (fun y14 => (cond (decide (y14.1.2.1 ≥ (wr .i64 (y14.1.1 + y14.2.1.1))))
 (some (2, (wr .i64 (y14.1.1 + y14.2.1.1)), ()))
 (some (0, 0, ())))) (fun z15 => (some z15.1))))))))
def AG (a0 : Pa) : Option YS :=
 (ob (Yn a0) fun r1 =>
 (cond (!r1.1)
 (some (a0, ()))
 (cond (a0.1 == 6)
 (some ((2, 0, a0.2.2.1, 0, ()), ()))
 (some ((3, 0, 0, a0.2.2.2.1, ()), ())))))
def Ax (a0 : Int) : Option Jd :=
 (cond (decide (a0 ≥ 1))
 (cond (decide (a0 ≤ 36))
 (some (true, ()))
 (cond (a0 == 39)
 (some (true, ()))
 (some ((a0 == 42), ()))))
 (cond (a0 == 39)
 (some (true, ()))
 (some ((a0 == 42), ()))))
def Tq (a0 : Jb) (a1 : Pa) : Option (Jb × YS) :=
 (cond (a1.1 == 2)
 (cond (a1.2.1 == 0)
 (some (a0, (a1, ())))
 (cond a0.2.2.2.2.2.1
 (ob (Ax a1.2.1) fun r1 =>
 (cond r1.1
 (cond (decide (a1.2.1 ≤ 26))
 (cond ((Gc .i64 (Tc .i64 a1.2.2.1 a0.2.2.2.2.1) 2) == 0)
 (some ((a0.1, a0.2.1, a0.2.2.1, a0.2.2.2.1, 0, r1.1, a0.2.2.2.2.2.2), ((a1.1, a1.2.1, 2, a1.2.2.2), ())))
 (some ((a0.1, a0.2.1, a0.2.2.1, a0.2.2.2.1, 0, r1.1, a0.2.2.2.2.2.2), ((a1.1, a1.2.1, (Tc .i64 a1.2.2.1 a0.2.2.2.2.1), a1.2.2.2), ()))))
 (some ((a0.1, a0.2.1, a0.2.2.1, a0.2.2.2.1, 0, r1.1, a0.2.2.2.2.2.2), ((a1.1, a1.2.1, (Tc .i64 a1.2.2.1 a0.2.2.2.2.1), a1.2.2.2), ()))))
 (some ((a0.1, a0.2.1, a0.2.2.1, a0.2.2.2.1, 0, r1.1, a0.2.2.2.2.2.2), ((a1.1, a1.2.1, (Tc .i64 a1.2.2.1 a0.2.2.2.2.1), a1.2.2.2), ())))))
 (some ((a0.1, a0.2.1, a0.2.2.1, a0.2.2.2.1, 0, false, a0.2.2.2.2.2.2), ((a1.1, a1.2.1, (Tc .i64 a1.2.2.1 a0.2.2.2.2.1), a1.2.2.2), ())))))
 (cond (a1.1 == 4)
 (cond (decide (0 ≤ a1.2.2.2.1))
 (some ((a0.1, a0.2.1, (Kf .i64 a0.2.2.1 (Ra .i64 1 a1.2.2.2.1)), a0.2.2.2), (a1, ())))
 none)
 (cond (a1.1 == 5)
 (cond (decide (0 ≤ a1.2.2.2.1))
 (some ((a0.1, a0.2.1, (Gc .i64 (Ra .i64 1 a1.2.2.2.1) 1), a0.2.2.2), (a1, ())))
 none)
 (cond (a1.1 == 8)
 (cond ((Ya .i64 a0.2.2.2.2.1 a1.2.2.1) == a1.2.2.1)
 (some ((a0.1, a0.2.1, a0.2.2.1, a0.2.2.2.1, (Gc .i64 a0.2.2.2.2.1 a1.2.2.1), a0.2.2.2.2.2), (a1, ())))
 (some ((a0.1, a0.2.1, a0.2.2.1, a0.2.2.2.1, (Tc .i64 a0.2.2.2.2.1 a1.2.2.1), a0.2.2.2.2.2), (a1, ()))))
 (cond (a1.1 == 10)
 (some ((a0.1, a0.2.1, a0.2.2.1, a0.2.2.2.1, a0.2.2.2.2.1, (!a0.2.2.2.2.2.1), a0.2.2.2.2.2.2), (a1, ())))
 (some (a0, (a1, ()))))))))
def Dq (t4 : Unit) (t5 : Unit) (t6 : Cf) (t15 : Nf) (t16 : Int) (t17 : Int) (b4 : La) (b5 : La) : Option (((Unit × (Unit × (Cf × Am))) × W6) ⊕ Zat) :=
 (cond (decide (t17 < t16))
 (ob (Cc t15 t17) fun x4 =>
 (cond (bl (ln t6 + ln ([x4.1] : List Int)) Bb)
 (some (.inl (((), (), (ap t6 ([x4.1] : List Int)), t15, t16, (wr .i64 (t17 + 1)), ()), (b4, ((Tc .i64 b5.1 x4.2.1), b5.2.1, ()), ()))))
 none))
 (some (.inr (.inl (((), (), t6, ()), (b4, b5, ()))))))
def Ys := Nb fun x : ((Unit × (Unit × (Cf × Am))) × W6) => Dq x.1.1 x.1.2.1 x.1.2.2.1 x.1.2.2.2.1 x.1.2.2.2.2.1 x.1.2.2.2.2.2.1 x.2.1 x.2.2.1
def Bg (a0 : La) (a1 : Nf) : Option RX :=
 (ob (Lm a0.2.1) fun r1 =>
 (ob (Ys (((), (), r1.1, a1, ((ln a1 : Nat) : Int), 0, ()), ((0, [], ()), (a0.1, [], ()), ()))) (se (fun y5 => (ob (Ts y5.1.2.2.1) fun r7 =>
 (some ((y5.2.2.1.1, r7.1, ()), ())))) (fun z6 => none))))
def Dm (t5 : Unit) (t6 : UN) (t7 : Nf) (t22 : Vk) (t23 : Int) (t24 : Int) (b5 : La) : Option (((Unit × (UN × G6)) × RX) ⊕ VaH) :=
 (cond (decide (t24 < t23))
 (ob (Cc t22 t24) fun x25 =>
 (cond (x25.1 == 0)
 (cond (bl (ln ([] : List Ja) + ln t7) Bb)
 (cond (bl (ln (ap [] t7) + ln ([x25.2] : List Ja)) Bb)
 (ob (Bg b5 (ap (ap [] t7) ([x25.2] : List Ja))) fun r26 =>
 (cond (bl (ln t6 + ln ([r26.1] : List La)) Bb)
 (ob (Bg b5 t7) fun r27 =>
 (cond (bl (ln (ap t6 ([r26.1] : List La)) + ln ([r27.1] : List La)) Bb)
 (some (.inl (((), (ap (ap t6 ([r26.1] : List La)) ([r27.1] : List La)), t7, t22, t23, (wr .i64 (t24 + 1)), ()), (b5, ()))))
 none))
 none))
 none)
 none)
 (cond (x25.1 == 1)
 (cond (bl (ln t7 + ln ([x25.2] : List Ja)) Bb)
 (ob (Bg b5 (ap t7 ([x25.2] : List Ja))) fun r28 =>
 (cond (bl (ln t6 + ln ([r28.1] : List La)) Bb)
 (some (.inl (((), (ap t6 ([r28.1] : List La)), (ap t7 ([x25.2] : List Ja)), t22, t23, (wr .i64 (t24 + 1)), ()), (b5, ()))))
 none))
 none)
 (cond (x25.1 == 2)
 (ob (KB t7 x25.2) fun r29 =>
 (cond (Af (ln t7) 0 r29.1)
 (cond (Af (ln t7) (wr .i64 (r29.1 + 1)) ((ln t7 : Nat) : Int))
 (cond (bl (ln (Qb t7 (tn 0) (tn r29.1)) + ln (Qb t7 (tn (wr .i64 (r29.1 + 1))) (tn ((ln t7 : Nat) : Int)))) Bb)
 (ob (Bg b5 (ap (Qb t7 (tn 0) (tn r29.1)) (Qb t7 (tn (wr .i64 (r29.1 + 1))) (tn ((ln t7 : Nat) : Int))))) fun r30 =>
 (cond (bl (ln t6 + ln ([r30.1] : List La)) Bb)
 (some (.inl (((), (ap t6 ([r30.1] : List La)), (ap (Qb t7 (tn 0) (tn r29.1)) (Qb t7 (tn (wr .i64 (r29.1 + 1))) (tn ((ln t7 : Nat) : Int)))), t22, t23, (wr .i64 (t24 + 1)), ()), (b5, ()))))
 none))
 none)
 none)
 none))
 (ob (Bg b5 t7) fun r31 =>
 (cond (bl (ln t6 + ln ([r31.1] : List La)) Bb)
 (some (.inl (((), (ap t6 ([r31.1] : List La)), t7, t22, t23, (wr .i64 (t24 + 1)), ()), (b5, ()))))
 none))))))
 (some (.inr (.inl ((t6, ()), ())))))
def Ko := Nb fun x : ((Unit × (UN × G6)) × RX) => Dm x.1.1 x.1.2.1 x.1.2.2.1 x.1.2.2.2.1 x.1.2.2.2.2.1 x.1.2.2.2.2.2.1 x.2.1
def Fk (a0 : Jh) (a1 : Vk) : Option WX :=
 (ob (Ml a0) fun r1 =>
 (cond (!r1.1)
 (some ([], ()))
 (ob (Ky a1) fun r2 =>
 (cond (!r2.1)
 (some ([], ()))
 (ob (Ud a0) fun r3 =>
 (ob (Ko (((), [], [], a1, ((ln a1 : Nat) : Int), 0, ()), (r3.1, ()))) (se (fun y32 => (some (y32.1.1, ()))) (fun z33 => none))))))))
def Ti (a0 : Jb) (a1 : Int) (a2 : Bool) : Option (Jb × WX) :=
 (ob (Bk a0) fun r1 =>
 (ob (Rv a0.2.2.1 a0.2.2.2.1) fun r2 =>
 (ob (Oy a0.1 r2.1 a1) fun r3 =>
 (ob (Cc a0.1.2.1 r3.1) fun x4 =>
 (ob (Cc x4 a1) fun x5 =>
 (cond a2
 (ob (AG x5) fun r6 =>
 (ob (Tq r1.1 r6.1) fun r7 =>
 (cond (bl (ln r7.1.2.2.2.1 + ln ([(a1, r7.2.1, ())] : List Va)) Bb)
 (cond (r7.2.1.1 == 9)
 (cond (decide (r7.2.1.2.2.2.1 < ((ln a0.2.1 : Nat) : Int)))
 (ob (Cc a0.2.1 r7.2.1.2.2.2.1) fun x8 =>
 (ob (Fk (ap r7.1.2.2.2.1 ([(a1, r7.2.1, ())] : List Va)) x8) fun r9 =>
 (ob (Ud (ap r7.1.2.2.2.1 ([(a1, r7.2.1, ())] : List Va))) fun r10 =>
 (cond (bl (ln r9.1 + ln ([r10.1] : List La)) Bb)
 (ob (Ud a0.2.2.2.1) fun r11 =>
 (ob (Ye r11.1 (ap r9.1 ([r10.1] : List La))) fun r12 =>
 (some ((r7.1.1, r7.1.2.1, r7.1.2.2.1, (ap r7.1.2.2.2.1 ([(a1, r7.2.1, ())] : List Va)), r7.1.2.2.2.2), r12.1, ()))))
 none))))
 (ob (Ud (ap r7.1.2.2.2.1 ([(a1, r7.2.1, ())] : List Va))) fun r13 =>
 (cond (bl (ln ([] : List La) + ln ([r13.1] : List La)) Bb)
 (ob (Ud a0.2.2.2.1) fun r14 =>
 (ob (Ye r14.1 (ap [] ([r13.1] : List La))) fun r15 =>
 (some ((r7.1.1, r7.1.2.1, r7.1.2.2.1, (ap r7.1.2.2.2.1 ([(a1, r7.2.1, ())] : List Va)), r7.1.2.2.2.2), r15.1, ()))))
 none)))
 (ob (Ud (ap r7.1.2.2.2.1 ([(a1, r7.2.1, ())] : List Va))) fun r16 =>
 (cond (bl (ln ([] : List La) + ln ([r16.1] : List La)) Bb)
 (ob (Ud a0.2.2.2.1) fun r17 =>
 (ob (Ye r17.1 (ap [] ([r16.1] : List La))) fun r18 =>
 (some ((r7.1.1, r7.1.2.1, r7.1.2.2.1, (ap r7.1.2.2.2.1 ([(a1, r7.2.1, ())] : List Va)), r7.1.2.2.2.2), r18.1, ()))))
 none)))
 none)))
 (ob (HI x5) fun r19 =>
 (ob (Tq r1.1 r19.1) fun r20 =>
 (cond (bl (ln r20.1.2.2.2.1 + ln ([(a1, r20.2.1, ())] : List Va)) Bb)
 (cond (r20.2.1.1 == 9)
 (cond (decide (r20.2.1.2.2.2.1 < ((ln a0.2.1 : Nat) : Int)))
 (ob (Cc a0.2.1 r20.2.1.2.2.2.1) fun x21 =>
 (ob (Fk (ap r20.1.2.2.2.1 ([(a1, r20.2.1, ())] : List Va)) x21) fun r22 =>
 (ob (Ud (ap r20.1.2.2.2.1 ([(a1, r20.2.1, ())] : List Va))) fun r23 =>
 (cond (bl (ln r22.1 + ln ([r23.1] : List La)) Bb)
 (ob (Ud a0.2.2.2.1) fun r24 =>
 (ob (Ye r24.1 (ap r22.1 ([r23.1] : List La))) fun r25 =>
 (some ((r20.1.1, r20.1.2.1, r20.1.2.2.1, (ap r20.1.2.2.2.1 ([(a1, r20.2.1, ())] : List Va)), r20.1.2.2.2.2), r25.1, ()))))
 none))))
 (ob (Ud (ap r20.1.2.2.2.1 ([(a1, r20.2.1, ())] : List Va))) fun r26 =>
 (cond (bl (ln ([] : List La) + ln ([r26.1] : List La)) Bb)
 (ob (Ud a0.2.2.2.1) fun r27 =>
 (ob (Ye r27.1 (ap [] ([r26.1] : List La))) fun r28 =>
 (some ((r20.1.1, r20.1.2.1, r20.1.2.2.1, (ap r20.1.2.2.2.1 ([(a1, r20.2.1, ())] : List Va)), r20.1.2.2.2.2), r28.1, ()))))
 none)))
 (ob (Ud (ap r20.1.2.2.2.1 ([(a1, r20.2.1, ())] : List Va))) fun r29 =>
 (cond (bl (ln ([] : List La) + ln ([r29.1] : List La)) Bb)
 (ob (Ud a0.2.2.2.1) fun r30 =>
 (ob (Ye r30.1 (ap [] ([r29.1] : List La))) fun r31 =>
 (some ((r20.1.1, r20.1.2.1, r20.1.2.2.1, (ap r20.1.2.2.2.1 ([(a1, r20.2.1, ())] : List Va)), r20.1.2.2.2.2), r31.1, ()))))
 none)))
 none)))))))))
def Ri (a0 : Xa) : Option (Xa × (UN × Jd)) :=
 (cond (Ei (ln a0.2.2.1) 0)
 (ob a0.2.2.1[(tn 0)]? fun x1 =>
 (cond (Af (ln a0.2.2.1) 1 ((ln a0.2.2.1 : Nat) : Int))
 (cond (!x1.2.2.1)
 (cond (a0.2.2.2.2.2.1 == (wr .i64 (x1.2.1 + 1)))
 (ob (Qy a0.1 x1.2.1) fun r2 =>
 (cond (bl (ln ([] : List Ba) + ln (Qb a0.2.2.1 (tn 1) (tn ((ln a0.2.2.1 : Nat) : Int)))) Bb)
 (some ((r2.1, a0.2.1, (ap [] (Qb a0.2.2.1 (tn 1) (tn ((ln a0.2.2.1 : Nat) : Int)))), a0.2.2.2.1, (max a0.2.2.2.2.1 x1.1), a0.2.2.2.2.2.1, x1.1, a0.2.2.2.2.2.2.2), (r2.2.1, true, ())))
 none))
 (ob (Qy a0.1 x1.2.1) fun r3 =>
 (cond (bl (ln ([] : List Ba) + ln (Qb a0.2.2.1 (tn 1) (tn ((ln a0.2.2.1 : Nat) : Int)))) Bb)
 (some ((r3.1, a0.2.1, (ap [] (Qb a0.2.2.1 (tn 1) (tn ((ln a0.2.2.1 : Nat) : Int)))), a0.2.2.2.1, (max a0.2.2.2.2.1 x1.1), a0.2.2.2.2.2), (r3.2.1, true, ())))
 none)))
 (ob (Rv a0.1.2.2.1 a0.1.2.2.2.1) fun r4 =>
 (ob (VB a0.1.1 r4.1 x1.2.1) fun r5 =>
 (ob (Yn r5.1) fun r6 =>
 (cond r6.1
 (cond (a0.2.2.2.2.2.1 != (wr .i64 (x1.2.1 + 1)))
 (ob (Mv a0.2.1 x1.2.1 x1.1 (Qb a0.2.2.1 (tn 1) (tn ((ln a0.2.2.1 : Nat) : Int))) a0.2.2.2.1) fun r7 =>
 (cond (r7.1 == 0)
 (some (a0, ([], false, ())))
 (cond (r7.1 == 1)
 (ob (Ti a0.1 x1.2.1 false) fun r8 =>
 (cond (bl (ln ([] : List Ba) + ln (Qb a0.2.2.1 (tn 1) (tn ((ln a0.2.2.1 : Nat) : Int)))) Bb)
 (some ((r8.1, a0.2.1, (ap [] (Qb a0.2.2.1 (tn 1) (tn ((ln a0.2.2.1 : Nat) : Int)))), a0.2.2.2.1, (max (max a0.2.2.2.2.1 x1.1) r7.2.1), (wr .i64 (x1.2.1 + 1)), x1.1, a0.2.2.2.2.2.2.2), (r8.2.1, true, ())))
 none))
 (cond (r7.1 == 2)
 (ob (Ti a0.1 x1.2.1 true) fun r9 =>
 (cond (bl (ln ([] : List Ba) + ln (Qb a0.2.2.1 (tn 1) (tn ((ln a0.2.2.1 : Nat) : Int)))) Bb)
 (some ((r9.1, a0.2.1, (ap [] (Qb a0.2.2.1 (tn 1) (tn ((ln a0.2.2.1 : Nat) : Int)))), a0.2.2.2.1, (max (max a0.2.2.2.2.1 x1.1) r7.2.1), 0, a0.2.2.2.2.2.2), (r9.2.1, true, ())))
 none))
 (ob (Ti a0.1 x1.2.1 false) fun r10 =>
 (cond (bl (ln ([] : List Ba) + ln (Qb a0.2.2.1 (tn 1) (tn ((ln a0.2.2.1 : Nat) : Int)))) Bb)
 (some ((r10.1, a0.2.1, (ap [] (Qb a0.2.2.1 (tn 1) (tn ((ln a0.2.2.1 : Nat) : Int)))), a0.2.2.2.1, (max (max a0.2.2.2.2.1 x1.1) r7.2.1), a0.2.2.2.2.2), (r10.2.1, true, ())))
 none))))))
 (cond (decide ((wr .i64 (x1.1 - a0.2.2.2.2.2.2.1)) ≥ a0.2.1.2.1))
 (ob (Mv a0.2.1 x1.2.1 x1.1 (Qb a0.2.2.1 (tn 1) (tn ((ln a0.2.2.1 : Nat) : Int))) a0.2.2.2.1) fun r11 =>
 (cond (r11.1 == 0)
 (some (a0, ([], false, ())))
 (cond (r11.1 == 1)
 (ob (Ti a0.1 x1.2.1 false) fun r12 =>
 (cond (bl (ln ([] : List Ba) + ln (Qb a0.2.2.1 (tn 1) (tn ((ln a0.2.2.1 : Nat) : Int)))) Bb)
 (some ((r12.1, a0.2.1, (ap [] (Qb a0.2.2.1 (tn 1) (tn ((ln a0.2.2.1 : Nat) : Int)))), a0.2.2.2.1, (max (max a0.2.2.2.2.1 x1.1) r11.2.1), (wr .i64 (x1.2.1 + 1)), x1.1, a0.2.2.2.2.2.2.2), (r12.2.1, true, ())))
 none))
 (cond (r11.1 == 2)
 (ob (Ti a0.1 x1.2.1 true) fun r13 =>
 (cond (bl (ln ([] : List Ba) + ln (Qb a0.2.2.1 (tn 1) (tn ((ln a0.2.2.1 : Nat) : Int)))) Bb)
 (some ((r13.1, a0.2.1, (ap [] (Qb a0.2.2.1 (tn 1) (tn ((ln a0.2.2.1 : Nat) : Int)))), a0.2.2.2.1, (max (max a0.2.2.2.2.1 x1.1) r11.2.1), 0, a0.2.2.2.2.2.2), (r13.2.1, true, ())))
 none))
 (ob (Ti a0.1 x1.2.1 false) fun r14 =>
 (cond (bl (ln ([] : List Ba) + ln (Qb a0.2.2.1 (tn 1) (tn ((ln a0.2.2.1 : Nat) : Int)))) Bb)
 (some ((r14.1, a0.2.1, (ap [] (Qb a0.2.2.1 (tn 1) (tn ((ln a0.2.2.1 : Nat) : Int)))), a0.2.2.2.1, (max (max a0.2.2.2.2.1 x1.1) r11.2.1), a0.2.2.2.2.2), (r14.2.1, true, ())))
 none))))))
 (cond ((1 : Int) == 0)
 (some (a0, ([], false, ())))
 (cond ((1 : Int) == 1)
 (ob (Ti a0.1 x1.2.1 false) fun r15 =>
 (cond (bl (ln ([] : List Ba) + ln (Qb a0.2.2.1 (tn 1) (tn ((ln a0.2.2.1 : Nat) : Int)))) Bb)
 (some ((r15.1, a0.2.1, (ap [] (Qb a0.2.2.1 (tn 1) (tn ((ln a0.2.2.1 : Nat) : Int)))), a0.2.2.2.1, (max (max a0.2.2.2.2.1 x1.1) x1.1), (wr .i64 (x1.2.1 + 1)), x1.1, a0.2.2.2.2.2.2.2), (r15.2.1, true, ())))
 none))
 (cond ((1 : Int) == 2)
 (ob (Ti a0.1 x1.2.1 true) fun r16 =>
 (cond (bl (ln ([] : List Ba) + ln (Qb a0.2.2.1 (tn 1) (tn ((ln a0.2.2.1 : Nat) : Int)))) Bb)
 (some ((r16.1, a0.2.1, (ap [] (Qb a0.2.2.1 (tn 1) (tn ((ln a0.2.2.1 : Nat) : Int)))), a0.2.2.2.1, (max (max a0.2.2.2.2.1 x1.1) x1.1), 0, a0.2.2.2.2.2.2), (r16.2.1, true, ())))
 none))
 (ob (Ti a0.1 x1.2.1 false) fun r17 =>
 (cond (bl (ln ([] : List Ba) + ln (Qb a0.2.2.1 (tn 1) (tn ((ln a0.2.2.1 : Nat) : Int)))) Bb)
 (some ((r17.1, a0.2.1, (ap [] (Qb a0.2.2.1 (tn 1) (tn ((ln a0.2.2.1 : Nat) : Int)))), a0.2.2.2.1, (max (max a0.2.2.2.2.1 x1.1) x1.1), a0.2.2.2.2.2), (r17.2.1, true, ())))
 none)))))))
 (ob (Ti a0.1 x1.2.1 false) fun r18 =>
 (cond (bl (ln ([] : List Ba) + ln (Qb a0.2.2.1 (tn 1) (tn ((ln a0.2.2.1 : Nat) : Int)))) Bb)
 (some ((r18.1, a0.2.1, (ap [] (Qb a0.2.2.1 (tn 1) (tn ((ln a0.2.2.1 : Nat) : Int)))), a0.2.2.2.1, (max a0.2.2.2.2.1 x1.1), a0.2.2.2.2.2), (r18.2.1, true, ())))
 none)))))))
 none))
 none)
def ZB (t0 : Vm) (t1 : Int) (t9 : (UN × Int)) (t10 : Int) (t11 : Int) : Option (((Vm × (Int × ((UN × Int) × Ja))) × Unit) ⊕ (((Vm × Unit) × Unit) ⊕ Xg)) :=
 (cond (decide (t11 < t10))
 (cond (Ei (ln t9.1) t11)
 (cond (Nat.beq (tn t11) (tn t9.2))
 (ob t9.1[(tn t11)]? fun x4 =>
 (cond (bl (ln t0 + ln ([(t1, x4, ())] : List Yc)) Bb)
 (some (.inl (((ap t0 ([(t1, x4, ())] : List Yc)), t1, (t9.1, ((((tn t11) + 1) : Nat) : Int)), t10, (wr .i64 (t11 + 1)), ()), ())))
 none))
 none)
 none)
 (some (.inr (.inl ((t0, ()), ())))))
def UC := Nb fun x : ((Vm × (Int × ((UN × Int) × Ja))) × Unit) => ZB x.1.1 x.1.2.1 x.1.2.2.1 x.1.2.2.2.1 x.1.2.2.2.2.1
def BH (a0 : Vm) (a1 : Int) (a2 : UN) : Option (Vm × Unit) :=
 (ob (UC ((a0, a1, (a2, 0), ((ln a2 : Nat) : Int), 0, ()), ())) (se (fun y5 => (some (y5.1.1, ()))) (fun z6 => none)))
def Zh (t6 : Unit) (t9 : Unit) (t10 : Vm) (b6 : Xa) (b9 : Xa) : Option (Cag ⊕ (Cag ⊕ Xg)) :=
 (cond (decide (((ln b9.2.2.1 : Nat) : Int) > 0))
 (ob (Ri b9) fun r25 =>
 (cond (!r25.2.2.1)
 (some (.inr (.inl (((), (), t10, ()), (b6, r25.1, ())))))
 (ob (BH t10 r25.1.2.2.2.2.1 r25.2.1) fun r26 =>
 (some (.inl (((), (), r26.1, ()), (b6, r25.1, ())))))))
 (some (.inr (.inl (((), (), t10, ()), (b6, b9, ()))))))
def Zg := Nb fun x : Cag => Zh x.1.1 x.1.2.1 x.1.2.2.1 x.2.1 x.2.2.1
def Em (a0 : Xa) (a1 : Sg) (a2 : Int) : Option (Xa × F6) :=
 (ob (Dl a0) fun r1 =>
 (cond (!r1.1)
 (some (Oi, [], false, ()))
 (cond (decide (a2 < a0.2.2.2.1))
 (some (Oi, [], false, ()))
 (cond (decide (a2 > 1000000))
 (some (Oi, [], false, ()))
 (cond (decide (((ln a1 : Nat) : Int) > 0))
 (ob (Cc a1 0) fun x2 =>
 (cond (decide (x2.1 < a0.2.2.2.1))
 (some (Oi, [], false, ()))
 (ob (Si a1 a2) fun r3 =>
 (cond (!r3.1)
 (some (Oi, [], false, ()))
 (ob (Gl a0) fun r4 =>
 (cond (bl (ln r4.1.2.2.1 + ln a1) Bb)
 (ob (Mm a0.1.2.2.2.1) fun r5 =>
 (ob (Ui (ap r4.1.2.2.1 a1) r5.1 a0.1.1.1) fun r6 =>
 (cond (!r6.1)
 (some (Oi, [], false, ()))
 (ob (Zg (((), (), [], ()), (Oi, (r4.1.1, r4.1.2.1, (ap r4.1.2.2.1 a1), a2, r4.1.2.2.2.2), ()))) (se (fun y15 => (some (y15.2.2.1, y15.1.2.2.1, true, ()))) (fun z16 => none))))))
 none))))))
 (ob (Si a1 a2) fun r17 =>
 (cond (!r17.1)
 (some (Oi, [], false, ()))
 (ob (Gl a0) fun r18 =>
 (cond (bl (ln r18.1.2.2.1 + ln a1) Bb)
 (ob (Mm a0.1.2.2.2.1) fun r19 =>
 (ob (Ui (ap r18.1.2.2.1 a1) r19.1 a0.1.1.1) fun r20 =>
 (cond (!r20.1)
 (some (Oi, [], false, ()))
 (ob (Zg (((), (), [], ()), (Oi, (r18.1.1, r18.1.2.1, (ap r18.1.2.2.1 a1), a2, r18.1.2.2.2.2), ()))) (se (fun y27 => (some (y27.2.2.1, y27.1.2.2.1, true, ()))) (fun z28 => none))))))
 none)))))))))
def LG (a0 : Ab) (a1 : Int) : Option (Ab × YS) :=
 (ob (Cb a0 56) fun r1 =>
 (ob (Cb r1.1 15) fun r2 =>
 (ob (Bh r2.1 2) fun r3 =>
 (cond r3.2.1
 (ob (Cb r3.1 (max 1 (wr .i64 (a1 - 1)))) fun r4 =>
 (ob (Cb r4.1 16) fun r5 =>
 (cond (r5.2.1 == 0)
 (some (r5.1, ((2, (wr .i64 (1 + r1.2.1)), 2, 0, ()), ())))
 (cond (r5.2.1 == 1)
 (some (r5.1, ((2, 0, 2, 0, ()), ())))
 (cond (r5.2.1 == 2)
 (some (r5.1, ((6, (wr .i64 (1 + r1.2.1)), 2, 0, ()), ())))
 (cond (r5.2.1 == 3)
 (some (r5.1, ((6, (wr .i64 (1 + r1.2.1)), 2, 0, ()), ())))
 (cond (r5.2.1 == 4)
 (some (r5.1, ((8, 0, 2, 0, ()), ())))
 (cond (r5.2.1 == 5)
 (ob (Cb r5.1 4) fun r6 =>
 (some (r6.1, ((9, 0, 0, r6.2.1, ()), ()))))
 (cond (r5.2.1 == 6)
 (some (r5.1, ((10, 0, 0, 0, ()), ())))
 (cond (r5.2.1 == 7)
 (ob (Cb r5.1 (max 1 a1)) fun r7 =>
 (some (r7.1, ((5, 0, 0, r7.2.1, ()), ()))))
 (cond (r5.2.1 == 8)
 (cond (decide (a1 > 1))
 (ob (Cb r5.1 3) fun r8 =>
 (cond (Ei (ln ([(3, 0, 0, (wr .i64 (1 + r4.2.1)), ()), (4, 0, 0, (wr .i64 (1 + r4.2.1)), ()), (7, (wr .i64 (1 + r1.2.1)), 0, (wr .i64 (1 + r4.2.1)), ())] : List Pa)) r8.2.1)
 (ob ([(3, 0, 0, (wr .i64 (1 + r4.2.1)), ()), (4, 0, 0, (wr .i64 (1 + r4.2.1)), ()), (7, (wr .i64 (1 + r1.2.1)), 0, (wr .i64 (1 + r4.2.1)), ())] : List Pa)[(tn r8.2.1)]? fun x9 =>
 (some (r8.1, (x9, ()))))
 none))
 (some (r5.1, ((2, (wr .i64 (1 + r1.2.1)), 0, 0, ()), ()))))
 (cond (r5.2.1 == 9)
 (cond (decide (a1 > 1))
 (ob (Cb r5.1 3) fun r10 =>
 (cond (Ei (ln ([(3, 0, 0, (wr .i64 (1 + r4.2.1)), ()), (4, 0, 0, (wr .i64 (1 + r4.2.1)), ()), (7, (wr .i64 (1 + r1.2.1)), 0, (wr .i64 (1 + r4.2.1)), ())] : List Pa)) r10.2.1)
 (ob ([(3, 0, 0, (wr .i64 (1 + r4.2.1)), ()), (4, 0, 0, (wr .i64 (1 + r4.2.1)), ()), (7, (wr .i64 (1 + r1.2.1)), 0, (wr .i64 (1 + r4.2.1)), ())] : List Pa)[(tn r10.2.1)]? fun x11 =>
 (some (r10.1, (x11, ()))))
 none))
 (some (r5.1, ((2, (wr .i64 (1 + r1.2.1)), 0, 0, ()), ()))))
 (cond (r5.2.1 == 10)
 (cond (decide (a1 > 1))
 (ob (Cb r5.1 3) fun r12 =>
 (cond (Ei (ln ([(3, 0, 0, (wr .i64 (1 + r4.2.1)), ()), (4, 0, 0, (wr .i64 (1 + r4.2.1)), ()), (7, (wr .i64 (1 + r1.2.1)), 0, (wr .i64 (1 + r4.2.1)), ())] : List Pa)) r12.2.1)
 (ob ([(3, 0, 0, (wr .i64 (1 + r4.2.1)), ()), (4, 0, 0, (wr .i64 (1 + r4.2.1)), ()), (7, (wr .i64 (1 + r1.2.1)), 0, (wr .i64 (1 + r4.2.1)), ())] : List Pa)[(tn r12.2.1)]? fun x13 =>
 (some (r12.1, (x13, ()))))
 none))
 (some (r5.1, ((2, (wr .i64 (1 + r1.2.1)), 0, 0, ()), ()))))
 (some (r5.1, ((2, (wr .i64 (1 + r1.2.1)), 0, 0, ()), ()))))))))))))))))
 (ob (Cb r3.1 (max 1 (wr .i64 (a1 - 1)))) fun r14 =>
 (ob (Cb r14.1 16) fun r15 =>
 (cond (r15.2.1 == 0)
 (some (r15.1, ((2, (wr .i64 (1 + r1.2.1)), (wr .i64 (1 + r2.2.1)), 0, ()), ())))
 (cond (r15.2.1 == 1)
 (some (r15.1, ((2, 0, (wr .i64 (1 + r2.2.1)), 0, ()), ())))
 (cond (r15.2.1 == 2)
 (some (r15.1, ((6, (wr .i64 (1 + r1.2.1)), (wr .i64 (1 + r2.2.1)), 0, ()), ())))
 (cond (r15.2.1 == 3)
 (some (r15.1, ((6, (wr .i64 (1 + r1.2.1)), (wr .i64 (1 + r2.2.1)), 0, ()), ())))
 (cond (r15.2.1 == 4)
 (some (r15.1, ((8, 0, (wr .i64 (1 + r2.2.1)), 0, ()), ())))
 (cond (r15.2.1 == 5)
 (ob (Cb r15.1 4) fun r16 =>
 (some (r16.1, ((9, 0, 0, r16.2.1, ()), ()))))
 (cond (r15.2.1 == 6)
 (some (r15.1, ((10, 0, 0, 0, ()), ())))
 (cond (r15.2.1 == 7)
 (ob (Cb r15.1 (max 1 a1)) fun r17 =>
 (some (r17.1, ((5, 0, 0, r17.2.1, ()), ()))))
 (cond (r15.2.1 == 8)
 (cond (decide (a1 > 1))
 (ob (Cb r15.1 3) fun r18 =>
 (cond (Ei (ln ([(3, 0, 0, (wr .i64 (1 + r14.2.1)), ()), (4, 0, 0, (wr .i64 (1 + r14.2.1)), ()), (7, (wr .i64 (1 + r1.2.1)), 0, (wr .i64 (1 + r14.2.1)), ())] : List Pa)) r18.2.1)
 (ob ([(3, 0, 0, (wr .i64 (1 + r14.2.1)), ()), (4, 0, 0, (wr .i64 (1 + r14.2.1)), ()), (7, (wr .i64 (1 + r1.2.1)), 0, (wr .i64 (1 + r14.2.1)), ())] : List Pa)[(tn r18.2.1)]? fun x19 =>
 (some (r18.1, (x19, ()))))
 none))
 (some (r15.1, ((2, (wr .i64 (1 + r1.2.1)), 0, 0, ()), ()))))
 (cond (r15.2.1 == 9)
 (cond (decide (a1 > 1))
 (ob (Cb r15.1 3) fun r20 =>
 (cond (Ei (ln ([(3, 0, 0, (wr .i64 (1 + r14.2.1)), ()), (4, 0, 0, (wr .i64 (1 + r14.2.1)), ()), (7, (wr .i64 (1 + r1.2.1)), 0, (wr .i64 (1 + r14.2.1)), ())] : List Pa)) r20.2.1)
 (ob ([(3, 0, 0, (wr .i64 (1 + r14.2.1)), ()), (4, 0, 0, (wr .i64 (1 + r14.2.1)), ()), (7, (wr .i64 (1 + r1.2.1)), 0, (wr .i64 (1 + r14.2.1)), ())] : List Pa)[(tn r20.2.1)]? fun x21 =>
 (some (r20.1, (x21, ()))))
 none))
 (some (r15.1, ((2, (wr .i64 (1 + r1.2.1)), 0, 0, ()), ()))))
 (cond (r15.2.1 == 10)
 (cond (decide (a1 > 1))
 (ob (Cb r15.1 3) fun r22 =>
 (cond (Ei (ln ([(3, 0, 0, (wr .i64 (1 + r14.2.1)), ()), (4, 0, 0, (wr .i64 (1 + r14.2.1)), ()), (7, (wr .i64 (1 + r1.2.1)), 0, (wr .i64 (1 + r14.2.1)), ())] : List Pa)) r22.2.1)
 (ob ([(3, 0, 0, (wr .i64 (1 + r14.2.1)), ()), (4, 0, 0, (wr .i64 (1 + r14.2.1)), ()), (7, (wr .i64 (1 + r1.2.1)), 0, (wr .i64 (1 + r14.2.1)), ())] : List Pa)[(tn r22.2.1)]? fun x23 =>
 (some (r22.1, (x23, ()))))
 none))
 (some (r15.1, ((2, (wr .i64 (1 + r1.2.1)), 0, 0, ()), ()))))
 (some (r15.1, ((2, (wr .i64 (1 + r1.2.1)), 0, 0, ()), ()))))))))))))))))))))
def JE (t0 : Unit) (t1 : Int) (t4 : Unit) (t5 : Int) (t6 : Unit) (t7 : Int) (t8 : Hr) (t9 : Int) (b500000 : Ab) (b4 : Hb) (b6 : Hb) : Option (Aau ⊕ (((Unit × (Int × (Unit × (Int × (Unit × (Int × (Hr × Unit))))))) × XX) ⊕ Xg)) :=
 (cond (decide (t9 < t1))
 (ob (LG b500000 t5) fun r30 =>
 (cond (decide (t7 > 0))
 (ob (Bh r30.1 3) fun r31 =>
 (cond r31.2.1
 (cond (bl (ln t8 + ln ([(1, 0, 0, 0, ())] : List Pa)) Bb)
 (some (.inl (((), t1, (), t5, (), t7, (ap t8 ([(1, 0, 0, 0, ())] : List Pa)), (wr .i64 (t9 + 1)), ()), (r31.1, b4, b6, ()))))
 none)
 (cond (bl (ln t8 + ln ([r30.2.1] : List Pa)) Bb)
 (some (.inl (((), t1, (), t5, (), t7, (ap t8 ([r30.2.1] : List Pa)), (wr .i64 (t9 + 1)), ()), (r31.1, b4, b6, ()))))
 none)))
 (cond (bl (ln t8 + ln ([r30.2.1] : List Pa)) Bb)
 (some (.inl (((), t1, (), t5, (), t7, (ap t8 ([r30.2.1] : List Pa)), (wr .i64 (t9 + 1)), ()), (r30.1, b4, b6, ()))))
 none)))
 (some (.inr (.inl (((), t1, (), t5, (), t7, t8, ()), (b500000, b4, b6, ()))))))
def Lz := Nb fun x : Aau => JE x.1.1 x.1.2.1 x.1.2.2.1 x.1.2.2.2.1 x.1.2.2.2.2.1 x.1.2.2.2.2.2.1 x.1.2.2.2.2.2.2.1 x.1.2.2.2.2.2.2.2.1 x.2.1 x.2.2.1 x.2.2.2.1
def IE (t0 : Unit) (t1 : Int) (t4 : Unit) (t5 : Int) (t6 : Unit) (t7 : Int) (b500000 : Ab) (b4 : Hb) (b6 : Hb) : Option (((Unit × (Int × (Unit × UX))) × XX) ⊕ ((Aag × XX) ⊕ Xg)) :=
 (cond (decide (t7 < t5))
 (ob (Lz (((), t1, (), t5, (), t7, [], 0, ()), (b500000, b4, b6, ()))) (se (fun y32 => (cond (bl (ln y32.2.2.2.1.2.1 + ln ([y32.1.2.2.2.2.2.2.1] : List Hr)) Bb)
 (some (.inl (((), y32.1.2.1, (), y32.1.2.2.2.1, (), (wr .i64 (y32.1.2.2.2.2.2.1 + 1)), ()), (y32.2.1, y32.2.2.1, (y32.2.2.2.1.1, (ap y32.2.2.2.1.2.1 ([y32.1.2.2.2.2.2.2.1] : List Hr)), ()), ()))))
 none)) (fun z33 => (some (.inr (.inr ((), ())))))))
 (some (.inr (.inl (((), (), (), ()), (b500000, b4, b6, ()))))))
def Kz := Nb fun x : ((Unit × (Int × (Unit × UX))) × XX) => IE x.1.1 x.1.2.1 x.1.2.2.1 x.1.2.2.2.1 x.1.2.2.2.2.1 x.1.2.2.2.2.2.1 x.2.1 x.2.2.1 x.2.2.2.1
def NG (a0 : Ab) (a1 : Int) : Option (Ab × MA) :=
 (ob (Cb a0 4) fun r1 =>
 (ob (Kz (((), a1, (), (wr .i64 (1 + r1.2.1)), (), 0, ()), (r1.1, (0, [], ()), (a1, [], ()), ()))) (se (fun y34 => (some (y34.2.1, (y34.2.2.2.1, ())))) (fun z35 => none))))
def Tx (t1 : Unit) (t2 : Unit) (t3 : Unit) (t4 : Int) (b1 : Hb) (b2 : Hb) (b3 : Hb) : Option ((C6 × (Hb × SB)) ⊕ ((SX × SB) ⊕ Xg)) :=
 (cond (decide (t4 < ((ln b1.2.1 : Nat) : Int)))
 (ob (Cc b1.2.1 t4) fun x4 =>
 (cond (bl (ln ([] : List Pa) + ln x4) Bb)
 (cond (bl (ln b3.2.1 + ln ([(ap [] x4)] : List Hr)) Bb)
 (some (.inl (((), (), (), (wr .i64 (t4 + 1)), ()), (b1, b2, (b3.1, (ap b3.2.1 ([(ap [] x4)] : List Hr)), ()), ()))))
 none)
 none))
 (some (.inr (.inl (((), (), ()), (b2, b3, ()))))))
def Jz := Nb fun x : (C6 × (Hb × SB)) => Tx x.1.1 x.1.2.1 x.1.2.2.1 x.1.2.2.2.1 x.2.1 x.2.2.1 x.2.2.2.1
def MG (a0 : Hb) : Option MA :=
 (ob (Jz (((), (), (), 0, ()), (a0, (0, [], ()), (a0.1, [], ()), ()))) (se (fun y5 => (some (y5.2.2.1, ()))) (fun z6 => none)))
def Rx (t0 : Jh) (t3 : Int) (t4 : Int) : Option ((SN × Unit) ⊕ Rz) :=
 (cond (decide (t4 < ((ln t0 : Nat) : Int)))
 (ob (Cc t0 t4) fun x15 =>
 (ob (Cc t0 t4) fun x16 =>
 (ob (Ic x16.1 0 31) fun r17 =>
 (cond (!r17.1)
 (some (.inr (.inr ((false, ()), ()))))
 (ob (Cc t0 t4) fun x18 =>
 (cond (decide (0 ≤ x18.1))
 (cond ((Ya .i64 (Hc .i64 t3 x18.1) 1) == 1)
 (some (.inr (.inr ((false, ()), ()))))
 (ob (Qk x15.2.1) fun r19 =>
 (cond (!r19.1)
 (some (.inr (.inr ((false, ()), ()))))
 (cond (x15.2.1.1 == 1)
 (some (.inr (.inr ((false, ()), ()))))
 (ob (HA x15.2.1) fun r20 =>
 (cond r20.1
 (some (.inr (.inr ((false, ()), ()))))
 (ob (Cc t0 t4) fun x21 =>
 (cond (decide (0 ≤ x21.1))
 (some (.inl ((t0, (Tc .i64 t3 (Ra .i64 1 x21.1)), (wr .i64 (t4 + 1)), ()), ())))
 none))))))))
 none))))))
 (some (.inr (.inl ((), ())))))
def Bz := Nb fun x : (SN × Unit) => Rx x.1.1 x.1.2.1 x.1.2.2.1
def HG (a0 : Jh) : Option Jd :=
 (ob (Bz ((a0, 0, 0, ()), ())) (se (fun y22 => (some (true, ()))) (fun z23 => (some (z23.1.1, ())))))
def Ux (t0 : Jh) (t3 : Unit) (t5 : Int) (b3 : Xb) : Option (((Jh × Uw) × FI) ⊕ TX) :=
 (cond (decide (t5 < ((ln t0 : Nat) : Int)))
 (ob (Cc t0 t5) fun x5 =>
 (cond (x5.2.1.2.1 == b3.2.1)
 (ob (Cc t0 t5) fun x6 =>
 (cond (x6.2.1.2.2.1 == b3.2.2.1)
 (some (.inr (.inr ((t5, ()), ()))))
 (some (.inl ((t0, (), (wr .i64 (t5 + 1)), ()), (b3, ()))))))
 (some (.inl ((t0, (), (wr .i64 (t5 + 1)), ()), (b3, ()))))))
 (some (.inr (.inl ((), ())))))
def Nz := Nb fun x : ((Jh × Uw) × FI) => Ux x.1.1 x.1.2.1 x.1.2.2.1 x.2.1
def PG (a0 : Jh) (a1 : Xb) : Option Rg :=
 (ob (Nz ((a0, (), 0, ()), (a1, ()))) (se (fun y7 => (some ((-1), ()))) (fun z8 => (some (z8.1.1, ())))))
def FC (a0 : Xb) : Option YS :=
 (some ((2, a0.2.1, a0.2.2.1, 0, ()), ()))
def Kt (a0 : Jh) (a1 : Int) : Option (Jh × Unit) :=
 (cond (Af (ln a0) 0 a1)
 (cond (bl (ln ([] : List Va) + ln (Qb a0 (tn 0) (tn a1))) Bb)
 (cond (Af (ln a0) (wr .i64 (a1 + 1)) ((ln a0 : Nat) : Int))
 (cond (bl (ln (ap [] (Qb a0 (tn 0) (tn a1))) + ln (Qb a0 (tn (wr .i64 (a1 + 1))) (tn ((ln a0 : Nat) : Int)))) Bb)
 (some ((ap (ap [] (Qb a0 (tn 0) (tn a1))) (Qb a0 (tn (wr .i64 (a1 + 1))) (tn ((ln a0 : Nat) : Int)))), ()))
 none)
 none)
 none)
 none)
def Po (t0 : Vk) (t3 : Jh) (t4 : Int) : Option (((Vk × (Jh × Rg)) × Unit) ⊕ (((Vk × (Jh × Unit)) × Unit) ⊕ Kl)) :=
 (cond (decide (t4 < ((ln t0 : Nat) : Int)))
 (ob (Cc t0 t4) fun x15 =>
 (ob (PG t3 x15) fun r16 =>
 (ob (Ic x15.1 0 2) fun r17 =>
 (cond (!r17.1)
 (some (.inr (.inr ((false, ()), ()))))
 (ob (FC x15) fun r18 =>
 (ob (Qk r18.1) fun r19 =>
 (cond (!r19.1)
 (some (.inr (.inr ((false, ()), ()))))
 (cond ((x15.1 == 2) != (decide (r16.1 ≥ 0)))
 (some (.inr (.inr ((false, ()), ()))))
 (cond (x15.1 == 1)
 (ob (FC x15) fun r20 =>
 (cond (bl (ln t3 + ln ([(0, r20.1, ())] : List Va)) Bb)
 (some (.inl ((t0, (ap t3 ([(0, r20.1, ())] : List Va)), (wr .i64 (t4 + 1)), ()), ())))
 none))
 (cond (x15.1 == 2)
 (ob (Kt t3 r16.1) fun r21 =>
 (some (.inl ((t0, r21.1, (wr .i64 (t4 + 1)), ()), ()))))
 (some (.inl ((t0, t3, (wr .i64 (t4 + 1)), ()), ())))))))))))))
 (some (.inr (.inl ((t0, t3, ()), ())))))
def Qw := Nb fun x : ((Vk × (Jh × Rg)) × Unit) => Po x.1.1 x.1.2.1 x.1.2.2.1
def DE (a0 : Vk) : Option Jd :=
 (ob (Qw ((a0, [], 0, ()), ())) (se (fun y22 => (cond (decide (((ln y22.1.1 : Nat) : Int) ≤ 8))
 (some ((((ln y22.1.2.1 : Nat) : Int) == 0), ()))
 (some (false, ())))) (fun z23 => (some (z23.1.1, ())))))
def Bs (t1 : Unit) (t3 : Int) (b1 : Jb) : Option ((Uw × Zj) ⊕ ((Xg × Zj) ⊕ Kl)) :=
 (cond (decide (t3 < ((ln b1.2.1 : Nat) : Int)))
 (ob (Cc b1.2.1 t3) fun x7 =>
 (ob (DE x7) fun r8 =>
 (cond (!r8.1)
 (some (.inr (.inr ((false, ()), ()))))
 (some (.inl (((), (wr .i64 (t3 + 1)), ()), (b1, ())))))))
 (some (.inr (.inl (((), ()), (b1, ()))))))
def Pn := Nb fun x : (Uw × Zj) => Bs x.1.1 x.1.2.1 x.2.1
def Cs (t1 : Unit) (t4 : Int) (b1 : Jb) : Option ((Uw × Zj) ⊕ ((Xg × Zj) ⊕ Kl)) :=
 (cond (decide (t4 < ((ln b1.2.2.2.1 : Nat) : Int)))
 (ob (Cc b1.2.2.2.1 t4) fun x17 =>
 (cond (decide (x17.1 ≥ b1.1.1))
 (some (.inr (.inr ((false, ()), ()))))
 (ob (Cc b1.2.2.2.1 t4) fun x18 =>
 (cond (x18.2.1.1 != 9)
 (ob (Cc b1.2.2.2.1 t4) fun x19 =>
 (cond (decide (x19.2.1.2.2.2.1 ≥ ((ln b1.1.2.1 : Nat) : Int)))
 (some (.inr (.inr ((false, ()), ()))))
 (some (.inl (((), (wr .i64 (t4 + 1)), ()), (b1, ()))))))
 (some (.inl (((), (wr .i64 (t4 + 1)), ()), (b1, ()))))))))
 (some (.inr (.inl (((), ()), (b1, ()))))))
def Qn := Nb fun x : (Uw × Zj) => Cs x.1.1 x.1.2.1 x.2.1
def Uv (a0 : Jb) : Option Jd :=
 (ob (DC a0.1) fun r1 =>
 (cond (!r1.1)
 (some (false, ()))
 (cond (decide (((ln a0.2.1 : Nat) : Int) > 4))
 (some (false, ()))
 (ob (HG a0.2.2.2.1) fun r2 =>
 (cond (!r2.1)
 (some (false, ()))
 (ob (Pn (((), 0, ()), (a0, ()))) (se (fun y9 => (ob (Qn (((), 0, ()), (y9.2.1, ()))) (se (fun y20 => (cond (decide (0 ≤ ((ln y20.2.1.1.2.1 : Nat) : Int)))
 (ob (Ic y20.2.1.2.2.1 0 (wr .i64 ((Ra .i64 1 ((ln y20.2.1.1.2.1 : Nat) : Int)) - 1))) fun r22 =>
 (cond r22.1
 (cond ((2 : Int) == 0)
 none
 (cond ((Int.tmod y20.2.1.2.2.1 2) == 0)
 (ob (Ic y20.2.1.2.2.2.2.1 0 15) fun r23 =>
 (some (r23.1, ())))
 (some (false, ()))))
 (some (false, ()))))
 none)) (fun z21 => (some (z21.1.1, ())))))) (fun z10 => (some (z10.1.1, ()))))))))))
def Vx (t1 : Unit) (t2 : Unit) (t3 : Unit) (t4 : Int) (b1 : Jb) (b2 : Jb) (b3 : Jb) : Option ((C6 × (Jb × Zaf)) ⊕ ((Aag × (Jb × Zaf)) ⊕ Xg)) :=
 (cond (decide (t4 < ((ln b1.2.1 : Nat) : Int)))
 (ob (Cc b1.2.1 t4) fun x4 =>
 (cond (bl (ln ([] : List Xb) + ln x4) Bb)
 (cond (bl (ln b3.2.1 + ln ([(ap [] x4)] : List Vk)) Bb)
 (some (.inl (((), (), (), (wr .i64 (t4 + 1)), ()), (b1, b2, (b3.1, (ap b3.2.1 ([(ap [] x4)] : List Vk)), b3.2.2), ()))))
 none)
 none))
 (some (.inr (.inl (((), (), (), ()), (b1, b2, b3, ()))))))
def Oz := Nb fun x : (C6 × (Jb × Zaf)) => Vx x.1.1 x.1.2.1 x.1.2.2.1 x.1.2.2.2.1 x.2.1 x.2.2.1 x.2.2.2.1
def Ew (a0 : Jb) : Option Zj :=
 (ob (MG a0.1) fun r1 =>
 (ob (Oz (((), (), (), 0, ()), (a0, LQ, (r1.1, [], a0.2.2), ()))) (se (fun y5 => (cond (bl (ln ([] : List Va) + ln y5.2.1.2.2.2.1) Bb)
 (some ((y5.2.2.2.1.1, y5.2.2.2.1.2.1, y5.2.2.2.1.2.2.1, (ap [] y5.2.1.2.2.2.1), y5.2.2.2.1.2.2.2.2), ()))
 none)) (fun z6 => none))))
def JA (a0 : Hb) (a1 : Ir) : Option (Jb × Jd) :=
 (ob (Uv (a0, a1, 0, [], 0, false, ())) fun r1 =>
 (cond (!r1.1)
 (some (LQ, false, ()))
 (ob (Ew (a0, a1, 0, [], 0, false, ())) fun r2 =>
 (some (r2.1, true, ())))))
def Su (t2 : Unit) (t3 : Unit) (t5 : Int) (t6 : Int) (b2 : Hb) (b3 : Hb) : Option (((Unit × RF) × SB) ⊕ ((RN × SB) ⊕ Kl)) :=
 (ob (Cc b2.2.1 t5) fun x51 =>
 (cond (decide (t6 < ((ln x51 : Nat) : Int)))
 (ob (Cc b2.2.1 t5) fun x52 =>
 (ob (Cc x52 t6) fun x53 =>
 (ob (Cc b3.2.1 t5) fun x54 =>
 (ob (Cc x54 t6) fun x55 =>
 (cond (!(Jl Sc x53 x55))
 (some (.inr (.inr ((false, ()), ()))))
 (some (.inl (((), (), t5, (wr .i64 (t6 + 1)), ()), (b2, b3, ())))))))))
 (some (.inr (.inl (((), (), t5, ()), (b2, b3, ())))))))
def Xo := Nb fun x : ((Unit × RF) × SB) => Su x.1.1 x.1.2.1 x.1.2.2.1 x.1.2.2.2.1 x.2.1 x.2.2.1
def Ru (t2 : Unit) (t3 : Unit) (t5 : Int) (b2 : Hb) (b3 : Hb) : Option ((RN × SB) ⊕ Rz) :=
 (cond (decide (t5 < ((ln b2.2.1 : Nat) : Int)))
 (ob (Cc b2.2.1 t5) fun x39 =>
 (ob (Cc b3.2.1 t5) fun x40 =>
 (cond (((ln x39 : Nat) : Int) != ((ln x40 : Nat) : Int))
 (some (.inr (.inr ((false, ()), ()))))
 (ob (Xo (((), (), t5, 0, ()), (b2, b3, ()))) (se (fun y56 => (some (.inl (((), (), (wr .i64 (y56.1.2.2.1 + 1)), ()), y56.2)))) (fun z57 => (some (.inr (.inr ((z57.1.1, ()), ()))))))))))
 (some (.inr (.inl ((), ())))))
def Ow := Nb fun x : (RN × SB) => Ru x.1.1 x.1.2.1 x.1.2.2.1 x.2.1 x.2.2.1
def XD (a0 : Hb) (a1 : Hb) : Option Jd :=
 (cond (a0.1 != a1.1)
 (some (false, ()))
 (cond (((ln a0.2.1 : Nat) : Int) != ((ln a1.2.1 : Nat) : Int))
 (some (false, ()))
 (ob (Ow (((), (), 0, ()), (a0, a1, ()))) (se (fun y58 => (some (true, ()))) (fun z59 => (some (z59.1.1, ())))))))
def On (t1 : Unit) (t3 : Int) (b1 : Ib) : Option ((Uw × KQ) ⊕ ((Xg × KQ) ⊕ Kl)) :=
 (cond (decide (t3 < ((ln b1.2.2.2.2.2.1 : Nat) : Int)))
 (ob (Cc b1.2.2.2.2.2.1 t3) fun x8 =>
 (ob (Ic x8 0 99) fun r9 =>
 (cond (!r9.1)
 (some (.inr (.inr ((false, ()), ()))))
 (some (.inl (((), (wr .i64 (t3 + 1)), ()), (b1, ())))))))
 (some (.inr (.inl (((), ()), (b1, ()))))))
def Lp := Nb fun x : (Uw × KQ) => On x.1.1 x.1.2.1 x.2.1
def Oo (a0 : Ib) : Option Jd :=
 (ob (Ic a0.1 0 2) fun r1 =>
 (cond (!r1.1)
 (some (false, ()))
 (ob (Ic a0.2.1 1 20) fun r2 =>
 (cond (!r2.1)
 (some (false, ()))
 (ob (Ic a0.2.2.1 1 24) fun r3 =>
 (cond (!r3.1)
 (some (false, ()))
 (cond (((ln a0.2.2.2.2.2.1 : Nat) : Int) != a0.2.2.1)
 (some (false, ()))
 (ob (Lp (((), 0, ()), (a0, ()))) (se (fun y10 => (cond (decide (0 ≤ y10.2.1.2.2.1))
 (ob (Ic y10.2.1.2.2.2.1 0 (wr .i64 ((Ra .i64 1 y10.2.1.2.2.1) - 1))) fun r12 =>
 (cond r12.1
 (cond (decide (0 ≤ y10.2.1.2.2.1))
 (ob (Ic y10.2.1.2.2.2.2.1 0 (wr .i64 ((Ra .i64 1 y10.2.1.2.2.1) - 1))) fun r13 =>
 (some (r13.1, ())))
 none)
 (some (false, ()))))
 none)) (fun z11 => (some (z11.1.1, ()))))))))))))
def Hm (t2 : Int) (t6 : Unit) (t8 : Unit) (t9 : Int) (b6 : Ib) (b8 : Ib) : Option (((Int × RN) × DI) ⊕ ((SX × DI) ⊕ Xg)) :=
 (cond (decide (t9 < t2))
 (cond (decide (t2 ≤ 24))
 (cond (bl (ln b8.2.2.2.2.2.1 + ln ([99] : List Int)) Bb)
 (some (.inl ((t2, (), (), (wr .i64 (t9 + 1)), ()), (b6, (b8.1, b8.2.1, b8.2.2.1, b8.2.2.2.1, b8.2.2.2.2.1, (ap b8.2.2.2.2.2.1 ([99] : List Int)), ()), ()))))
 none)
 (some (.inr (.inl (((), (), ()), (b6, b8, ()))))))
 (some (.inr (.inl (((), (), ()), (b6, b8, ()))))))
def Qo := Nb fun x : ((Int × RN) × DI) => Hm x.1.1 x.1.2.1 x.1.2.2.1 x.1.2.2.2.1 x.2.1 x.2.2.1
def Ds (a0 : Int) (a1 : Int) (a2 : Int) : Option (Ib × Jd) :=
 (ob (Qo ((a2, (), (), 0, ()), ((0, 0, 0, 0, 0, [], ()), (a0, a1, a2, 0, 0, [], ()), ()))) (se (fun y1 => (ob (Oo y1.2.2.1) fun r3 =>
 (cond (!r3.1)
 (some ((0, 0, 0, 0, 0, [], ()), false, ()))
 (some (y1.2.2.1, true, ()))))) (fun z2 => none)))
def Es (t0 : Int) (t3 : Int) (t4 : Int) : Option (FI ⊕ TF) :=
 (cond (decide (t4 ≤ 31))
 (cond (decide (0 ≤ t4))
 (some (.inl ((t0, (wr .i64 (t3 + (Ya .i64 (Hc .i64 t0 t4) 1))), (wr .i64 (t4 + 1)), ()), ())))
 none)
 (some (.inr (.inl ((t3, ()), ())))))
def Av := Nb fun x : FI => Es x.1.1 x.1.2.1 x.1.2.2.1
def Wv (a0 : Int) : Option Rg :=
 (ob (Av ((a0, 0, 0, ()), ())) (se (fun y1 => (some (y1.1.1, ()))) (fun z2 => none)))
def As (t0 : Nf) (t3 : Int) (t4 : Int) : Option ((Am × Unit) ⊕ (((Nf × Rg) × Unit) ⊕ Kl)) :=
 (cond (decide (t4 < t3))
 (ob (Cc t0 t4) fun x58 =>
 (ob (Cc t0 t3) fun x59 =>
 (cond (x58.1 == x59.1)
 (some (.inr (.inr ((false, ()), ()))))
 (ob (Cc t0 t4) fun x60 =>
 (ob (Cc t0 t3) fun x61 =>
 (cond (x60.2.1 == x61.2.1)
 (some (.inr (.inr ((false, ()), ()))))
 (some (.inl ((t0, t3, (wr .i64 (t4 + 1)), ()), ())))))))))
 (some (.inr (.inl ((t0, t3, ()), ())))))
def Yu := Nb fun x : (Am × Unit) => As x.1.1 x.1.2.1 x.1.2.2.1
def Zr (t0 : Nf) (t3 : Int) : Option (((Nf × Rg) × Unit) ⊕ (((Nf × Unit) × Unit) ⊕ Kl)) :=
 (cond (decide (t3 < ((ln t0 : Nat) : Int)))
 (ob (Cc t0 t3) fun x43 =>
 (ob (Ic x43.1 0 16777215) fun r44 =>
 (cond (!r44.1)
 (some (.inr (.inr ((false, ()), ()))))
 (ob (Cc t0 t3) fun x45 =>
 (ob (Wv x45.1) fun r46 =>
 (ob (Ic r46.1 2 4) fun r47 =>
 (cond (!r47.1)
 (some (.inr (.inr ((false, ()), ()))))
 (ob (Cc t0 t3) fun x48 =>
 (ob (Ic x48.2.1 24 31) fun r49 =>
 (cond (!r49.1)
 (some (.inr (.inr ((false, ()), ()))))
 (ob (Yu ((t0, t3, 0, ()), ())) (se (fun y62 => (some (.inl ((y62.1.1, (wr .i64 (y62.1.2.1 + 1)), ()), ())))) (fun z63 => (some (.inr (.inr ((z63.1.1, ()), ())))))))))))))))))
 (some (.inr (.inl ((t0, ()), ())))))
def Xu := Nb fun x : ((Nf × Rg) × Unit) => Zr x.1.1 x.1.2.1
def CC (a0 : Nf) : Option Jd :=
 (ob (Xu ((a0, 0, ()), ())) (se (fun y64 => (some ((decide (((ln y64.1.1 : Nat) : Int) ≤ 8)), ()))) (fun z65 => (some (z65.1.1, ())))))
def Cv (t0 : Nf) (t1 : Int) (t5 : Int) : Option ((Am × Unit) ⊕ TX) :=
 (cond (decide (t5 < ((ln t0 : Nat) : Int)))
 (ob (Cc t0 t5) fun x5 =>
 (cond (x5.2.1 == t1)
 (ob (Cc t0 t5) fun x6 =>
 (some (.inr (.inr ((x6.1, ()), ())))))
 (some (.inl ((t0, t1, (wr .i64 (t5 + 1)), ()), ())))))
 (some (.inr (.inl ((), ())))))
def Tw := Nb fun x : (Am × Unit) => Cv x.1.1 x.1.2.1 x.1.2.2.1
def FE (a0 : Nf) (a1 : Int) : Option Rg :=
 (ob (Tw ((a0, a1, 0, ()), ())) (se (fun y7 => (some (0, ()))) (fun z8 => (some (z8.1.1, ())))))
def Bp (t1 : Unit) (t3 : Int) (t4 : Int) (t5 : Unit) (t7 : Int) (b1 : Da) (b5 : Ba) : Option (((Unit × (Int × UX)) × (Da × Wm)) ⊕ (((Unit × (Int × (Int × Xg))) × (Da × Wm)) ⊕ Kl)) :=
 (cond (decide (t7 < t4))
 (ob (Cc b1.2.2.2.2.2.2.1 t7) fun x19 =>
 (cond (x19.1 == b5.1)
 (some (.inr (.inr ((false, ()), ()))))
 (some (.inl (((), t3, t4, (), (wr .i64 (t7 + 1)), ()), (b1, b5, ()))))))
 (some (.inr (.inl (((), t3, t4, (), ()), (b1, b5, ()))))))
def Ar := Nb fun x : ((Unit × (Int × UX)) × (Da × Wm)) => Bp x.1.1 x.1.2.1 x.1.2.2.1 x.1.2.2.2.1 x.1.2.2.2.2.1 x.2.1 x.2.2.1
def Jq (t1 : Unit) (t3 : Int) (t4 : Int) (b1 : Da) : Option (TN ⊕ ((Xg × SF) ⊕ Kl)) :=
 (cond (decide (t4 < ((ln b1.2.2.2.2.2.2.1 : Nat) : Int)))
 (ob (Cc b1.2.2.2.2.2.2.1 t4) fun x15 =>
 (ob (FE b1.1 x15.1) fun r16 =>
 (cond (decide (x15.2.1 ≤ 0))
 (some (.inr (.inr ((false, ()), ()))))
 (cond ((Gc .i64 x15.2.1 r16.1) != 0)
 (some (.inr (.inr ((false, ()), ()))))
 (cond (x15.2.2.1 != (x15.2.1 == r16.1))
 (some (.inr (.inr ((false, ()), ()))))
 (cond ((Ya .i64 x15.2.1 t3) != 0)
 (some (.inr (.inr ((false, ()), ()))))
 (ob (Ar (((), t3, t4, (), 0, ()), (b1, x15, ()))) (se (fun y20 => (some (.inl (((), (Tc .i64 y20.1.2.1 y20.2.2.1.2.1), (wr .i64 (y20.1.2.2.1 + 1)), ()), (y20.2.1, ()))))) (fun z21 => (some (.inr (.inr ((z21.1.1, ()), ())))))))))))))
 (some (.inr (.inl (((), ()), (b1, ()))))))
def Gt := Nb fun x : TN => Jq x.1.1 x.1.2.1 x.1.2.2.1 x.2.1
def KA (a0 : Da) : Option Jd :=
 (ob (Gt (((), a0.2.2.2.2.2.1, 0, ()), (a0, ()))) (se (fun y22 => (ob (Ic y22.2.1.2.2.2.2.2.1 0 16777215) fun r24 =>
 (some (r24.1, ())))) (fun z23 => (some (z23.1.1, ())))))
def Bv (t1 : Unit) (t3 : Int) (t4 : Int) (b1 : Da) : Option (TN ⊕ TF) :=
 (cond (decide (t4 < ((ln b1.2.2.2.2.2.2.1 : Nat) : Int)))
 (ob (Cc b1.2.2.2.2.2.2.1 t4) fun x3 =>
 (some (.inl (((), (Tc .i64 t3 x3.2.1), (wr .i64 (t4 + 1)), ()), (b1, ())))))
 (some (.inr (.inl ((t3, ()), ())))))
def Sw := Nb fun x : TN => Bv x.1.1 x.1.2.1 x.1.2.2.1 x.2.1
def Gz (a0 : Da) : Option Rg :=
 (ob (Sw (((), a0.2.2.2.2.2.1, 0, ()), (a0, ()))) (se (fun y4 => (some (y4.1.1, ()))) (fun z5 => none)))
def CE (a0 : Ba) : Option Jd :=
 (ob (Ic a0.1 0 1000000) fun r1 =>
 (cond r1.1
 (ob (Ic a0.2.1 0 31) fun r2 =>
 (some (r2.1, ())))
 (some (false, ()))))
def Ap (t0 : Sg) (t1 : Int) (t2 : Int) (t3 : Int) (t9 : Int) : Option (((Sg × Pa) × Unit) ⊕ ((WS × Unit) ⊕ Kl)) :=
 (cond (decide (t9 < ((ln t0 : Nat) : Int)))
 (ob (Cc t0 t9) fun x17 =>
 (ob (CE x17) fun r18 =>
 (cond (!r18.1)
 (some (.inr (.inr ((false, ()), ()))))
 (ob (Cc t0 t9) fun x19 =>
 (cond (decide (x19.2.1 ≥ t2))
 (some (.inr (.inr ((false, ()), ()))))
 (ob (Cc t0 t9) fun x20 =>
 (cond (decide (x20.1 < t3))
 (some (.inr (.inr ((false, ()), ()))))
 (ob (Cc t0 t9) fun x21 =>
 (ob (Cc t0 t9) fun x22 =>
 (cond (decide (0 ≤ x22.2.1))
 (cond (x21.2.2.1 == ((Ya .i64 (Hc .i64 t1 x22.2.1) 1) == 1))
 (some (.inr (.inr ((false, ()), ()))))
 (ob (Cc t0 t9) fun x23 =>
 (ob (Cc t0 t9) fun x24 =>
 (cond (decide (0 ≤ x24.2.1))
 (some (.inl ((t0, (Kf .i64 t1 (Ra .i64 1 x24.2.1)), t2, x23.1, (wr .i64 (t9 + 1)), ()), ())))
 none))))
 none))))))))))
 (some (.inr (.inl ((t0, ()), ())))))
def Zq := Nb fun x : ((Sg × Pa) × Unit) => Ap x.1.1 x.1.2.1 x.1.2.2.1 x.1.2.2.2.1 x.1.2.2.2.2.1
def Iq (a0 : Sg) (a1 : Int) (a2 : Int) (a3 : Int) : Option Jd :=
 (ob (Zq ((a0, a1, a2, a3, 0, ()), ())) (se (fun y25 => (some ((decide (((ln y25.1.1 : Nat) : Int) ≤ 64)), ()))) (fun z26 => (some (z26.1.1, ())))))
def Gq (a0 : Da) : Option Jd :=
 (ob (CC a0.1) fun r1 =>
 (cond (!r1.1)
 (some (false, ()))
 (ob (Ic a0.2.1 1 200) fun r2 =>
 (cond (!r2.1)
 (some (false, ()))
 (ob (Ic a0.2.2.2.1 0 1000000) fun r3 =>
 (cond (!r3.1)
 (some (false, ()))
 (ob (Ic a0.2.2.2.2.1 0 a0.2.2.2.1) fun r4 =>
 (cond (!r4.1)
 (some (false, ()))
 (ob (KA a0) fun r5 =>
 (cond (!r5.1)
 (some (false, ()))
 (ob (Gz a0) fun r6 =>
 (ob (Iq a0.2.2.1 r6.1 24 0) fun r7 =>
 (cond r7.1
 (cond (((ln a0.2.2.1 : Nat) : Int) == 0)
 (some (true, ()))
 (ob (Cc a0.2.2.1 (wr .i64 (((ln a0.2.2.1 : Nat) : Int) - 1))) fun x8 =>
 (some ((decide (x8.1 ≤ a0.2.2.2.1)), ()))))
 (some (false, ())))))))))))))))
def Ez (a0 : Da) : Option SF :=
 (cond (bl (ln ([] : List Ja) + ln a0.1) Bb)
 (cond (bl (ln ([] : List Ba) + ln a0.2.2.1) Bb)
 (cond (bl (ln ([] : List Ba) + ln a0.2.2.2.2.2.2.1) Bb)
 (some (((ap [] a0.1), a0.2.1, (ap [] a0.2.2.1), a0.2.2.2.1, a0.2.2.2.2.1, a0.2.2.2.2.2.1, (ap [] a0.2.2.2.2.2.2.1), a0.2.2.2.2.2.2.2), ()))
 none)
 none)
 none)
def Ah (a0 : Nf) (a1 : Int) : Option (Da × Jd) :=
 (ob (Gq (a0, a1, [], 0, 0, 0, [], ())) fun r1 =>
 (cond (!r1.1)
 (some (Fj, false, ()))
 (ob (Ez (a0, a1, [], 0, 0, 0, [], ())) fun r2 =>
 (some (r2.1, true, ())))))
def KE (t0 : Unit) (t3 : Vk) (t4 : Int) (b500000 : Ab) : Option (((Unit × (Vk × Rg)) × LK) ⊕ (((Unit × (Vk × Unit)) × LK) ⊕ Xg)) :=
 (cond (decide (t4 > 0))
 (ob (Cb b500000 56) fun r8 =>
 (ob (Ht r8.1 ([0, 0, 2, 1] : List Int)) fun r9 =>
 (ob (Bh r9.1 2) fun r10 =>
 (cond r10.2.1
 (cond (bl (ln t3 + ln ([(0, (wr .i64 (1 + r8.2.1)), r9.2.1, ())] : List Xb)) Bb)
 (some (.inl (((), (ap t3 ([(0, (wr .i64 (1 + r8.2.1)), r9.2.1, ())] : List Xb)), (wr .i64 (t4 - 1)), ()), (r10.1, ()))))
 none)
 (cond (bl (ln t3 + ln ([(1, (wr .i64 (1 + r8.2.1)), r9.2.1, ()), (0, (wr .i64 ((wr .i64 (60 - ((ln t3 : Nat) : Int))) - 10)), 8, ()), (2, (wr .i64 (1 + r8.2.1)), r9.2.1, ())] : List Xb)) Bb)
 (some (.inl (((), (ap t3 ([(1, (wr .i64 (1 + r8.2.1)), r9.2.1, ()), (0, (wr .i64 ((wr .i64 (60 - ((ln t3 : Nat) : Int))) - 10)), 8, ()), (2, (wr .i64 (1 + r8.2.1)), r9.2.1, ())] : List Xb)), (wr .i64 (t4 - 1)), ()), (r10.1, ()))))
 none)))))
 (some (.inr (.inl (((), t3, ()), (b500000, ()))))))
def Mz := Nb fun x : ((Unit × (Vk × Rg)) × LK) => KE x.1.1 x.1.2.1 x.1.2.2.1 x.2.1
def OG (a0 : Ab) : Option (Ab × (Vk × Unit)) :=
 (ob (Cb a0 3) fun r1 =>
 (ob (Mz (((), [], r1.2.1, ()), (r1.1, ()))) (se (fun y11 => (some (y11.2.1, (y11.1.2.1, ())))) (fun z12 => none))))
def JF (t0 : Unit) (t1 : Int) (t4 : Unit) (t5 : Ir) (t6 : Int) (b500000 : Ab) (b4 : Jb) : Option (Wai ⊕ (((Unit × (Int × (Unit × (Ir × Unit)))) × (Ab × Zj)) ⊕ Xg)) :=
 (cond (decide (t6 > 0))
 (ob (OG b500000) fun r4 =>
 (cond (bl (ln t5 + ln ([r4.2.1] : List Vk)) Bb)
 (some (.inl (((), t1, (), (ap t5 ([r4.2.1] : List Vk)), (wr .i64 (t6 - 1)), ()), (r4.1, b4, ()))))
 none))
 (some (.inr (.inl (((), t1, (), t5, ()), (b500000, b4, ()))))))
def AB := Nb fun x : Wai => JF x.1.1 x.1.2.1 x.1.2.2.1 x.1.2.2.2.1 x.1.2.2.2.2.1 x.2.1 x.2.2.1
def QI (a0 : Ab) (a1 : Int) : Option (Ab × Zj) :=
 (ob (Cb a0 4) fun r1 =>
 (ob (AB (((), a1, (), [], r1.2.1, ()), (r1.1, LQ, ()))) (se (fun y5 => (ob (NG y5.2.1 y5.1.2.1) fun r7 =>
 (ob (JA r7.2.1 y5.1.2.2.2.1) fun r8 =>
 (some (r7.1, (r8.1, ())))))) (fun z6 => none))))
def EC (a0 : Xb) : Option Jd :=
 (ob (Ic a0.1 1 1000) fun r1 =>
 (cond r1.1
 (ob (Ic a0.2.1 0 1000) fun r2 =>
 (cond r2.1
 (ob (Ic a0.2.2.1 0 2) fun r3 =>
 (some (r3.1, ())))
 (some (false, ()))))
 (some (false, ()))))
def Yq (a0 : Int) : Option Rg :=
 (ob (Ic a0 0 31) fun r1 =>
 (cond (!r1.1)
 (some (0, ()))
 (cond (decide (0 ≤ a0))
 (some ((Ra .i64 1 a0), ()))
 none)))
def Zu (t1 : Unit) (t3 : Int) (t4 : Int) (b1 : Jb) : Option ((RF × Zj) ⊕ TF) :=
 (cond (decide (t4 < ((ln b1.2.2.2.1 : Nat) : Int)))
 (ob (Cc b1.2.2.2.1 t4) fun x5 =>
 (ob (Yq x5.1) fun r6 =>
 (some (.inl (((), (Tc .i64 t3 r6.1), (wr .i64 (t4 + 1)), ()), (b1, ()))))))
 (some (.inr (.inl ((t3, ()), ())))))
def Rw := Nb fun x : (RF × Zj) => Zu x.1.1 x.1.2.1 x.1.2.2.1 x.2.1
def Cz (a0 : Jb) : Option Rg :=
 (ob (Rw (((), 0, 0, ()), (a0, ()))) (se (fun y7 => (some (y7.1.1, ()))) (fun z8 => none)))
def Ft (a0 : Xa) : Option Jd :=
 (ob (Uv a0.1) fun r1 =>
 (cond (!r1.1)
 (some (false, ()))
 (ob (EC a0.2.1) fun r2 =>
 (cond (!r2.1)
 (some (false, ()))
 (ob (Ic a0.2.2.2.1 0 1000000) fun r3 =>
 (cond (!r3.1)
 (some (false, ()))
 (ob (Ic a0.2.2.2.2.1 0 a0.2.2.2.1) fun r4 =>
 (cond (!r4.1)
 (some (false, ()))
 (ob (Cz a0.1) fun r5 =>
 (ob (Iq a0.2.2.1 r5.1 a0.1.1.1 0) fun r6 =>
 (cond (!r6.1)
 (some (false, ()))
 (cond (decide (((ln a0.2.2.1 : Nat) : Int) > 0))
 (ob (Cc a0.2.2.1 (wr .i64 (((ln a0.2.2.1 : Nat) : Int) - 1))) fun x7 =>
 (cond (decide (x7.1 > a0.2.2.2.1))
 (some (false, ()))
 (ob (Ic a0.2.2.2.2.2.1 0 a0.1.1.1) fun r8 =>
 (cond r8.1
 (ob (Ic a0.2.2.2.2.2.2.1 0 a0.2.2.2.1) fun r9 =>
 (some (r9.1, ())))
 (some (false, ()))))))
 (ob (Ic a0.2.2.2.2.2.1 0 a0.1.1.1) fun r10 =>
 (cond r10.1
 (ob (Ic a0.2.2.2.2.2.2.1 0 a0.2.2.2.1) fun r11 =>
 (some (r11.1, ())))
 (some (false, ()))))))))))))))))
def Hq (a0 : Jb) (a1 : Xb) : Option (Xa × Jd) :=
 (ob (Ft (a0, a1, [], 0, 0, 0, 0, ())) fun r1 =>
 (cond (!r1.1)
 (some (Oi, false, ()))
 (ob (Ew a0) fun r2 =>
 (some ((r2.1, a1, [], 0, 0, 0, 0, ()), true, ())))))
def EE (t0 : Unit) (t1 : Int) (t4 : Unit) (t5 : Unit) (t6 : Int) (b500000 : Ab) (b4 : Xa) (b5 : Jb) : Option ((Aaj × (Ab × (Xa × Zj))) ⊕ ((Aag × (Ab × (Xa × Zj))) ⊕ Xg)) :=
 (cond (decide (t6 < t1))
 (ob (Bh b500000 2) fun r12 =>
 (cond r12.2.1
 (cond (Ei (ln b5.1.2.1) 0)
 (ob b5.1.2.1[(tn 0)]? fun x13 =>
 (ob (Cb r12.1 40) fun r14 =>
 (ob (Cb r14.1 15) fun r15 =>
 (cond (Ei (ln x13) t6)
 (ob x13[(tn t6)]? fun x16 =>
 (some (.inl (((), t1, (), (), (wr .i64 (t6 + 1)), ()), (r15.1, b4, ((b5.1.1, (ls b5.1.2.1 (tn 0) (ls x13 (tn t6) (6, (wr .i64 (1 + r14.2.1)), (wr .i64 (1 + r15.2.1)), 0, ()))), ()), b5.2), ())))))
 none))))
 none)
 (some (.inl (((), t1, (), (), (wr .i64 (t6 + 1)), ()), (r12.1, b4, b5, ()))))))
 (some (.inr (.inl (((), (), (), ()), (b500000, b4, b5, ()))))))
def Dz := Nb fun x : (Aaj × (Ab × (Xa × Zj))) => EE x.1.1 x.1.2.1 x.1.2.2.1 x.1.2.2.2.1 x.1.2.2.2.2.1 x.2.1 x.2.2.1 x.2.2.2.1
def Rf (a0 : Ab) (a1 : Int) : Option TaA :=
 (ob (QI a0 a1) fun r1 =>
 (ob (Dz (((), a1, (), (), 0, ()), (r1.1, Oi, r1.2.1, ()))) (se (fun y17 => (ob (GF y17.2.1) fun r19 =>
 (ob (Hq y17.2.2.2.1 r19.2.1) fun r20 =>
 (some (r19.1, (r20.1, ())))))) (fun z18 => none))))
def Dp (t0 : Int) (t1 : Sg) (t5 : Int) : Option (((Int × ZI) × Unit) ⊕ TF) :=
 (cond (decide (t5 < ((ln t1 : Nat) : Int)))
 (ob (Cc t1 t5) fun x5 =>
 (ob (Yq x5.2.1) fun r6 =>
 (some (.inl (((Kf .i64 t0 r6.1), t1, (wr .i64 (t5 + 1)), ()), ())))))
 (some (.inr (.inl ((t0, ()), ())))))
def Br := Nb fun x : ((Int × ZI) × Unit) => Dp x.1.1 x.1.2.1 x.1.2.2.1
def Kq (a0 : Int) (a1 : Sg) : Option Rg :=
 (ob (Br ((a0, a1, 0, ()), ())) (se (fun y7 => (some (y7.1.1, ()))) (fun z8 => none)))
def Sx (t1 : Unit) (t3 : Int) (t4 : Int) (b1 : Da) : Option (TN ⊕ TF) :=
 (cond (decide (t4 < ((ln b1.2.2.2.2.2.2.1 : Nat) : Int)))
 (ob (Cc b1.2.2.2.2.2.2.1 t4) fun x7 =>
 (cond x7.2.2.1
 (ob (Cc b1.2.2.2.2.2.2.1 t4) fun x8 =>
 (ob (Yq x8.1) fun r9 =>
 (some (.inl (((), (Tc .i64 t3 r9.1), (wr .i64 (t4 + 1)), ()), (b1, ()))))))
 (some (.inl (((), t3, (wr .i64 (t4 + 1)), ()), (b1, ()))))))
 (some (.inr (.inl ((t3, ()), ())))))
def Hz := Nb fun x : TN => Sx x.1.1 x.1.2.1 x.1.2.2.1 x.2.1
def JG (a0 : Da) : Option Rg :=
 (ob (Hz (((), a0.2.2.2.2.2.1, 0, ()), (a0, ()))) (se (fun y10 => (some (y10.1.1, ()))) (fun z11 => none)))
def Wu (t1 : Unit) (t4 : Int) (t5 : Int) (b1 : Mb) : Option ((RF × Ww) ⊕ ((Xg × Ww) ⊕ Kl)) :=
 (cond (decide (t5 < ((ln b1.2.2.1.1 : Nat) : Int)))
 (ob (Cc b1.2.2.1.1 t5) fun x12 =>
 (ob (OB b1.1 x12.1) fun r13 =>
 (cond (!r13.1)
 (some (.inr (.inr ((false, ()), ()))))
 (ob (Cc b1.2.2.1.1 t5) fun x14 =>
 (cond (decide (x14.2.1 ≥ t4))
 (some (.inr (.inr ((false, ()), ()))))
 (some (.inl (((), t4, (wr .i64 (t5 + 1)), ()), (b1, ())))))))))
 (some (.inr (.inl (((), ()), (b1, ()))))))
def Pw := Nb fun x : (RF × Ww) => Wu x.1.1 x.1.2.1 x.1.2.2.1 x.2.1
def BE (a0 : Mb) : Option Jd :=
 (ob (Tp a0.1) fun r1 =>
 (cond (r1.1 == 0)
 (some (false, ()))
 (ob (Oo a0.2.1) fun r2 =>
 (cond (!r2.1)
 (some (false, ()))
 (cond (a0.2.1.2.2.1 != r1.1)
 (some (false, ()))
 (ob (OB a0.1 a0.2.2.2.2.1) fun r3 =>
 (cond (!r3.1)
 (some (false, ()))
 (ob (Gq a0.2.2.1) fun r4 =>
 (cond (!r4.1)
 (some (false, ()))
 (ob (Ft a0.2.2.2.1) fun r5 =>
 (cond (!r5.1)
 (some (false, ()))
 (cond (decide (a0.2.2.2.1.1.1.1 < r1.1))
 (some (false, ()))
 (ob (Pw (((), a0.2.2.2.1.1.1.1, 0, ()), (a0, ()))) (se (fun y15 => (ob (Ic y15.2.1.2.2.2.2.2.1 0 1000000) fun r17 =>
 (cond (!r17.1)
 (some (false, ()))
 (cond (decide (y15.2.1.2.2.1.2.2.2.1 > y15.2.1.2.2.2.2.2.1))
 (some (false, ()))
 (cond (decide (y15.2.1.2.2.2.1.2.2.2.1 > y15.2.1.2.2.2.2.2.1))
 (some (false, ()))
 (ob (Gz y15.2.1.2.2.1) fun r18 =>
 (ob (Kq r18.1 y15.2.1.2.2.1.2.2.1) fun r19 =>
 (cond (r19.1 == y15.2.1.2.1.2.2.2.1)
 (ob (Cz y15.2.1.2.2.2.1.1) fun r20 =>
 (ob (Kq r20.1 y15.2.1.2.2.2.1.2.2.1) fun r21 =>
 (ob (JG y15.2.1.2.2.1) fun r22 =>
 (some ((r21.1 == r22.1), ())))))
 (some (false, ())))))))))) (fun z16 => (some (z16.1.1, ())))))))))))))))))
def GE (a0 : Mb) : Option Ww :=
 (cond (bl (ln ([] : List Int) + ln a0.2.1.2.2.2.2.2.1) Bb)
 (ob (Ez a0.2.2.1) fun r1 =>
 (ob (Ew a0.2.2.2.1.1) fun r2 =>
 (cond (bl (ln ([] : List Ba) + ln a0.2.2.2.1.2.2.1) Bb)
 (some ((a0.1, (a0.2.1.1, a0.2.1.2.1, a0.2.1.2.2.1, a0.2.1.2.2.2.1, a0.2.1.2.2.2.2.1, (ap [] a0.2.1.2.2.2.2.2.1), a0.2.1.2.2.2.2.2.2), r1.1, (r2.1, a0.2.2.2.1.2.1, (ap [] a0.2.2.2.1.2.2.1), a0.2.2.2.1.2.2.2), a0.2.2.2.2), ()))
 none)))
 none)
def Je (a0 : Ba) (a1 : Ib) (a2 : Da) (a3 : Xa) : Option (Mb × Jd) :=
 (ob (BE (a0, a1, a2, a3, 0, 0, ())) fun r1 =>
 (cond (!r1.1)
 (some (Jm, false, ()))
 (ob (GE (a0, a1, a2, a3, 0, 0, ())) fun r2 =>
 (some (r2.1, true, ())))))
def IG (a0 : Ab) : Option (Ab × Ww) :=
 (ob (Cb a0 2) fun r1 =>
 (ob (Cb r1.1 2) fun r2 =>
 (ob (Bh r2.1 2) fun r3 =>
 (ob (Tp ((wr .i64 (1 + r1.2.1)), (wr .i64 (2 + r2.2.1)), r3.2.1, ())) fun r4 =>
 (ob (Cb r3.1 3) fun r5 =>
 (ob (Cb r5.1 3) fun r6 =>
 (ob (Ds r5.2.1 (wr .i64 (1 + r6.2.1)) r4.1) fun r7 =>
 (ob (Bh r6.1 2) fun r8 =>
 (cond r8.2.1
 (cond (bl (ln ([] : List Ja) + ln ([(3, 24, ())] : List Ja)) Bb)
 (cond (decide (r4.1 > 3))
 (ob (Bh r8.1 2) fun r9 =>
 (cond r9.2.1
 (cond (bl (ln (ap [] ([(3, 24, ())] : List Ja)) + ln ([(6, 25, ())] : List Ja)) Bb)
 (ob (Cb r9.1 4) fun r10 =>
 (ob (Ah (ap (ap [] ([(3, 24, ())] : List Ja)) ([(6, 25, ())] : List Ja)) (wr .i64 (1 + r10.2.1))) fun r11 =>
 (ob (Rf r10.1 (wr .i64 (r4.1 + 2))) fun r12 =>
 (cond (decide (((ln (ap (ap [] ([(3, 24, ())] : List Ja)) ([(6, 25, ())] : List Ja)) : Nat) : Int) > 0))
 (ob (Rf r12.1 26) fun r13 =>
 (ob (Je ((wr .i64 (1 + r1.2.1)), (wr .i64 (2 + r2.2.1)), r3.2.1, ()) r7.1 r11.1 r13.2.1) fun r14 =>
 (some (r13.1, (r14.1, ())))))
 (ob (Je ((wr .i64 (1 + r1.2.1)), (wr .i64 (2 + r2.2.1)), r3.2.1, ()) r7.1 r11.1 r12.2.1) fun r15 =>
 (some (r12.1, (r15.1, ()))))))))
 none)
 (ob (Cb r9.1 4) fun r16 =>
 (ob (Ah (ap [] ([(3, 24, ())] : List Ja)) (wr .i64 (1 + r16.2.1))) fun r17 =>
 (ob (Rf r16.1 (wr .i64 (r4.1 + 2))) fun r18 =>
 (cond (decide (((ln (ap [] ([(3, 24, ())] : List Ja)) : Nat) : Int) > 0))
 (ob (Rf r18.1 26) fun r19 =>
 (ob (Je ((wr .i64 (1 + r1.2.1)), (wr .i64 (2 + r2.2.1)), r3.2.1, ()) r7.1 r17.1 r19.2.1) fun r20 =>
 (some (r19.1, (r20.1, ())))))
 (ob (Je ((wr .i64 (1 + r1.2.1)), (wr .i64 (2 + r2.2.1)), r3.2.1, ()) r7.1 r17.1 r18.2.1) fun r21 =>
 (some (r18.1, (r21.1, ()))))))))))
 (ob (Cb r8.1 4) fun r22 =>
 (ob (Ah (ap [] ([(3, 24, ())] : List Ja)) (wr .i64 (1 + r22.2.1))) fun r23 =>
 (ob (Rf r22.1 (wr .i64 (r4.1 + 2))) fun r24 =>
 (cond (decide (((ln (ap [] ([(3, 24, ())] : List Ja)) : Nat) : Int) > 0))
 (ob (Rf r24.1 26) fun r25 =>
 (ob (Je ((wr .i64 (1 + r1.2.1)), (wr .i64 (2 + r2.2.1)), r3.2.1, ()) r7.1 r23.1 r25.2.1) fun r26 =>
 (some (r25.1, (r26.1, ())))))
 (ob (Je ((wr .i64 (1 + r1.2.1)), (wr .i64 (2 + r2.2.1)), r3.2.1, ()) r7.1 r23.1 r24.2.1) fun r27 =>
 (some (r24.1, (r27.1, ())))))))))
 none)
 (cond (decide (r4.1 > 3))
 (ob (Bh r8.1 2) fun r28 =>
 (cond r28.2.1
 (cond (bl (ln ([] : List Ja) + ln ([(6, 25, ())] : List Ja)) Bb)
 (ob (Cb r28.1 4) fun r29 =>
 (ob (Ah (ap [] ([(6, 25, ())] : List Ja)) (wr .i64 (1 + r29.2.1))) fun r30 =>
 (ob (Rf r29.1 (wr .i64 (r4.1 + 2))) fun r31 =>
 (cond (decide (((ln (ap [] ([(6, 25, ())] : List Ja)) : Nat) : Int) > 0))
 (ob (Rf r31.1 26) fun r32 =>
 (ob (Je ((wr .i64 (1 + r1.2.1)), (wr .i64 (2 + r2.2.1)), r3.2.1, ()) r7.1 r30.1 r32.2.1) fun r33 =>
 (some (r32.1, (r33.1, ())))))
 (ob (Je ((wr .i64 (1 + r1.2.1)), (wr .i64 (2 + r2.2.1)), r3.2.1, ()) r7.1 r30.1 r31.2.1) fun r34 =>
 (some (r31.1, (r34.1, ()))))))))
 none)
 (ob (Cb r28.1 4) fun r35 =>
 (ob (Ah [] (wr .i64 (1 + r35.2.1))) fun r36 =>
 (ob (Rf r35.1 (wr .i64 (r4.1 + 2))) fun r37 =>
 (cond (decide (((ln ([] : List Ja) : Nat) : Int) > 0))
 (ob (Rf r37.1 26) fun r38 =>
 (ob (Je ((wr .i64 (1 + r1.2.1)), (wr .i64 (2 + r2.2.1)), r3.2.1, ()) r7.1 r36.1 r38.2.1) fun r39 =>
 (some (r38.1, (r39.1, ())))))
 (ob (Je ((wr .i64 (1 + r1.2.1)), (wr .i64 (2 + r2.2.1)), r3.2.1, ()) r7.1 r36.1 r37.2.1) fun r40 =>
 (some (r37.1, (r40.1, ()))))))))))
 (ob (Cb r8.1 4) fun r41 =>
 (ob (Ah [] (wr .i64 (1 + r41.2.1))) fun r42 =>
 (ob (Rf r41.1 (wr .i64 (r4.1 + 2))) fun r43 =>
 (cond (decide (((ln ([] : List Ja) : Nat) : Int) > 0))
 (ob (Rf r43.1 26) fun r44 =>
 (ob (Je ((wr .i64 (1 + r1.2.1)), (wr .i64 (2 + r2.2.1)), r3.2.1, ()) r7.1 r42.1 r44.2.1) fun r45 =>
 (some (r44.1, (r45.1, ())))))
 (ob (Je ((wr .i64 (1 + r1.2.1)), (wr .i64 (2 + r2.2.1)), r3.2.1, ()) r7.1 r42.1 r43.2.1) fun r46 =>
 (some (r43.1, (r46.1, ()))))))))))))))))))
def Iz (t0 : Unit) (t1 : Int) (t7 : Cf) (t8 : Int) (t9 : Int) (b500000 : Ab) : Option (((Unit × XS) × LK) ⊕ (((Unit × Qz) × LK) ⊕ Xg)) :=
 (cond (decide (t9 > 0))
 (ob (Bh b500000 3) fun r14 =>
 (cond r14.2.1
 (ob (Cb r14.1 t1) fun r15 =>
 (cond (decide (0 ≤ r15.2.1))
 (ob (Bh r15.1 9) fun r16 =>
 (cond r16.2.1
 (ob (Cb r16.1 t1) fun r17 =>
 (cond (decide (0 ≤ r17.2.1))
 (cond (bl (ln t7 + ln ([(Kf .i64 (Kf .i64 t8 (Ra .i64 1 r15.2.1)) (Ra .i64 1 r17.2.1))] : List Int)) Bb)
 (some (.inl (((), t1, (ap t7 ([(Kf .i64 (Kf .i64 t8 (Ra .i64 1 r15.2.1)) (Ra .i64 1 r17.2.1))] : List Int)), (Kf .i64 (Kf .i64 t8 (Ra .i64 1 r15.2.1)) (Ra .i64 1 r17.2.1)), (wr .i64 (t9 - 1)), ()), (r17.1, ()))))
 none)
 none))
 (cond (bl (ln t7 + ln ([(Kf .i64 t8 (Ra .i64 1 r15.2.1))] : List Int)) Bb)
 (some (.inl (((), t1, (ap t7 ([(Kf .i64 t8 (Ra .i64 1 r15.2.1))] : List Int)), (Kf .i64 t8 (Ra .i64 1 r15.2.1)), (wr .i64 (t9 - 1)), ()), (r16.1, ()))))
 none)))
 none))
 (ob (Bh r14.1 9) fun r18 =>
 (cond r18.2.1
 (ob (Cb r18.1 t1) fun r19 =>
 (cond (decide (0 ≤ r19.2.1))
 (cond (bl (ln t7 + ln ([(Kf .i64 t8 (Ra .i64 1 r19.2.1))] : List Int)) Bb)
 (some (.inl (((), t1, (ap t7 ([(Kf .i64 t8 (Ra .i64 1 r19.2.1))] : List Int)), (Kf .i64 t8 (Ra .i64 1 r19.2.1)), (wr .i64 (t9 - 1)), ()), (r19.1, ()))))
 none)
 none))
 (cond (bl (ln t7 + ln ([t8] : List Int)) Bb)
 (some (.inl (((), t1, (ap t7 ([t8] : List Int)), t8, (wr .i64 (t9 - 1)), ()), (r18.1, ()))))
 none)))))
 (some (.inr (.inl (((), t7, ()), (b500000, ()))))))
def Jt := Nb fun x : ((Unit × XS) × LK) => Iz x.1.1 x.1.2.1 x.1.2.2.1 x.1.2.2.2.1 x.1.2.2.2.2.1 x.2.1
def It (a0 : Ab) (a1 : Int) (a2 : Int) : Option (Ab × Qz) :=
 (ob (Cb a0 (wr .i64 (a2 + 1))) fun r1 =>
 (ob (Jt (((), a1, [], 0, r1.2.1, ()), (r1.1, ()))) (se (fun y20 => (some (y20.2.1, (y20.1.2.1, ())))) (fun z21 => none))))
def HE (a0 : Ab) (a1 : Mb) (a2 : Int) : Option (Ab × Qz) :=
 (ob (It a0 (max 1 a1.2.1.2.2.1) a2) fun r1 =>
 (some (r1.1, (r1.2.1, ()))))
def IA (a0 : Cf) : Option (Mb × Qz) :=
 (ob (KG a0 14) fun r1 =>
 (ob (IG r1) fun r2 =>
 (ob (HE r2.1 r2.2.1 30) fun r3 =>
 (some (r2.2.1, r3.2.1, ())))))
def Gn (t66 : Cf) (t67 : Int) (t68 : Int) : Option ((IK × Unit) ⊕ Rz) :=
 (cond (decide (t68 < t67))
 (ob (Cc t66 t68) fun x3 =>
 (cond (decide (x3 < 0))
 (some (.inr (.inr ((false, ()), ()))))
 (cond (decide (x3 > 99))
 (some (.inr (.inr ((false, ()), ()))))
 (some (.inl ((t66, t67, (wr .i64 (t68 + 1)), ()), ()))))))
 (some (.inr (.inl ((), ())))))
def Kp := Nb fun x : (IK × Unit) => Gn x.1.1 x.1.2.1 x.1.2.2.1
def Cl (a0 : Ib) : Option Jd :=
 (cond (decide (a0.1 < 0))
 (some (false, ()))
 (cond (decide (a0.1 > 2))
 (some (false, ()))
 (cond (decide (a0.2.1 < 1))
 (some (false, ()))
 (cond (decide (a0.2.1 > 20))
 (some (false, ()))
 (cond (decide (a0.2.2.1 < 1))
 (some (false, ()))
 (cond (decide (a0.2.2.1 > 24))
 (some (false, ()))
 (cond (((ln a0.2.2.2.2.2.1 : Nat) : Int) != a0.2.2.1)
 (some (false, ()))
 (cond (decide (a0.2.2.2.1 < 0))
 (some (false, ()))
 (cond (decide (0 ≤ a0.2.2.1))
 (cond (decide (a0.2.2.2.1 ≥ (Ra .i64 1 a0.2.2.1)))
 (some (false, ()))
 (cond (decide (a0.2.2.2.2.1 < 0))
 (some (false, ()))
 (cond (decide (0 ≤ a0.2.2.1))
 (cond (decide (a0.2.2.2.2.1 ≥ (Ra .i64 1 a0.2.2.1)))
 (some (false, ()))
 (ob (Kp ((a0.2.2.2.2.2.1, ((ln a0.2.2.2.2.2.1 : Nat) : Int), 0, ()), ())) (se (fun y4 => (some (true, ()))) (fun z5 => (some (z5.1.1, ()))))))
 none)))
 none)))))))))
def PV (a0 : Int) : Option Rg :=
 (cond (decide ((0 : Int) ≤ 24))
 (ob (Cc HC (Hc .u32 a0 24)) fun c1 =>
 (cond (decide ((0 : Int) ≤ 16))
 (ob (Cc HC (Ya .u32 (Hc .u32 a0 16) 255)) fun c2 =>
 (cond (decide ((0 : Int) ≤ 8))
 (ob (Cc HC (Ya .u32 (Hc .u32 a0 8) 255)) fun c3 =>
 (ob (Cc HC (Ya .u32 a0 255)) fun c4 =>
 (some ((wr .i64 (wr .u8 ((wr .u8 ((wr .u8 (((UInt8.toNat c1 : Nat) : Int) + ((UInt8.toNat c2 : Nat) : Int))) + ((UInt8.toNat c3 : Nat) : Int))) + ((UInt8.toNat c4 : Nat) : Int)))), ()))))
 none))
 none))
 none)
def JC (a0 : Int) : Option Rg :=
 (cond (decide ((0 : Int) ≤ 1))
 (cond (decide ((0 : Int) ≤ 2))
 (cond (decide ((0 : Int) ≤ 4))
 (cond (decide ((0 : Int) ≤ 8))
 (cond (decide ((0 : Int) ≤ 16))
 (cond (decide ((0 : Int) ≤ 32))
 (some ((Ya .i64 (wr .i64 (wr .u64 ((wr .u64 ((wr .u64 ((Ya .u64 (wr .u64 ((Hc .u64 (wr .u64 ((Ya .u64 (Hc .u64 (wr .u64 ((Ya .u64 (Hc .u64 a0 1) 6148914691236517205) + (Ya .u64 a0 6148914691236517205))) 2) 3689348814741910323) + (Ya .u64 (wr .u64 ((Ya .u64 (Hc .u64 a0 1) 6148914691236517205) + (Ya .u64 a0 6148914691236517205))) 3689348814741910323))) 4) + (wr .u64 ((Ya .u64 (Hc .u64 (wr .u64 ((Ya .u64 (Hc .u64 a0 1) 6148914691236517205) + (Ya .u64 a0 6148914691236517205))) 2) 3689348814741910323) + (Ya .u64 (wr .u64 ((Ya .u64 (Hc .u64 a0 1) 6148914691236517205) + (Ya .u64 a0 6148914691236517205))) 3689348814741910323))))) 1085102592571150095) + (Hc .u64 (Ya .u64 (wr .u64 ((Hc .u64 (wr .u64 ((Ya .u64 (Hc .u64 (wr .u64 ((Ya .u64 (Hc .u64 a0 1) 6148914691236517205) + (Ya .u64 a0 6148914691236517205))) 2) 3689348814741910323) + (Ya .u64 (wr .u64 ((Ya .u64 (Hc .u64 a0 1) 6148914691236517205) + (Ya .u64 a0 6148914691236517205))) 3689348814741910323))) 4) + (wr .u64 ((Ya .u64 (Hc .u64 (wr .u64 ((Ya .u64 (Hc .u64 a0 1) 6148914691236517205) + (Ya .u64 a0 6148914691236517205))) 2) 3689348814741910323) + (Ya .u64 (wr .u64 ((Ya .u64 (Hc .u64 a0 1) 6148914691236517205) + (Ya .u64 a0 6148914691236517205))) 3689348814741910323))))) 1085102592571150095) 8))) + (Hc .u64 (wr .u64 ((Ya .u64 (wr .u64 ((Hc .u64 (wr .u64 ((Ya .u64 (Hc .u64 (wr .u64 ((Ya .u64 (Hc .u64 a0 1) 6148914691236517205) + (Ya .u64 a0 6148914691236517205))) 2) 3689348814741910323) + (Ya .u64 (wr .u64 ((Ya .u64 (Hc .u64 a0 1) 6148914691236517205) + (Ya .u64 a0 6148914691236517205))) 3689348814741910323))) 4) + (wr .u64 ((Ya .u64 (Hc .u64 (wr .u64 ((Ya .u64 (Hc .u64 a0 1) 6148914691236517205) + (Ya .u64 a0 6148914691236517205))) 2) 3689348814741910323) + (Ya .u64 (wr .u64 ((Ya .u64 (Hc .u64 a0 1) 6148914691236517205) + (Ya .u64 a0 6148914691236517205))) 3689348814741910323))))) 1085102592571150095) + (Hc .u64 (Ya .u64 (wr .u64 ((Hc .u64 (wr .u64 ((Ya .u64 (Hc .u64 (wr .u64 ((Ya .u64 (Hc .u64 a0 1) 6148914691236517205) + (Ya .u64 a0 6148914691236517205))) 2) 3689348814741910323) + (Ya .u64 (wr .u64 ((Ya .u64 (Hc .u64 a0 1) 6148914691236517205) + (Ya .u64 a0 6148914691236517205))) 3689348814741910323))) 4) + (wr .u64 ((Ya .u64 (Hc .u64 (wr .u64 ((Ya .u64 (Hc .u64 a0 1) 6148914691236517205) + (Ya .u64 a0 6148914691236517205))) 2) 3689348814741910323) + (Ya .u64 (wr .u64 ((Ya .u64 (Hc .u64 a0 1) 6148914691236517205) + (Ya .u64 a0 6148914691236517205))) 3689348814741910323))))) 1085102592571150095) 8))) 16))) + (Hc .u64 (wr .u64 ((wr .u64 ((Ya .u64 (wr .u64 ((Hc .u64 (wr .u64 ((Ya .u64 (Hc .u64 (wr .u64 ((Ya .u64 (Hc .u64 a0 1) 6148914691236517205) + (Ya .u64 a0 6148914691236517205))) 2) 3689348814741910323) + (Ya .u64 (wr .u64 ((Ya .u64 (Hc .u64 a0 1) 6148914691236517205) + (Ya .u64 a0 6148914691236517205))) 3689348814741910323))) 4) + (wr .u64 ((Ya .u64 (Hc .u64 (wr .u64 ((Ya .u64 (Hc .u64 a0 1) 6148914691236517205) + (Ya .u64 a0 6148914691236517205))) 2) 3689348814741910323) + (Ya .u64 (wr .u64 ((Ya .u64 (Hc .u64 a0 1) 6148914691236517205) + (Ya .u64 a0 6148914691236517205))) 3689348814741910323))))) 1085102592571150095) + (Hc .u64 (Ya .u64 (wr .u64 ((Hc .u64 (wr .u64 ((Ya .u64 (Hc .u64 (wr .u64 ((Ya .u64 (Hc .u64 a0 1) 6148914691236517205) + (Ya .u64 a0 6148914691236517205))) 2) 3689348814741910323) + (Ya .u64 (wr .u64 ((Ya .u64 (Hc .u64 a0 1) 6148914691236517205) + (Ya .u64 a0 6148914691236517205))) 3689348814741910323))) 4) + (wr .u64 ((Ya .u64 (Hc .u64 (wr .u64 ((Ya .u64 (Hc .u64 a0 1) 6148914691236517205) + (Ya .u64 a0 6148914691236517205))) 2) 3689348814741910323) + (Ya .u64 (wr .u64 ((Ya .u64 (Hc .u64 a0 1) 6148914691236517205) + (Ya .u64 a0 6148914691236517205))) 3689348814741910323))))) 1085102592571150095) 8))) + (Hc .u64 (wr .u64 ((Ya .u64 (wr .u64 ((Hc .u64 (wr .u64 ((Ya .u64 (Hc .u64 (wr .u64 ((Ya .u64 (Hc .u64 a0 1) 6148914691236517205) + (Ya .u64 a0 6148914691236517205))) 2) 3689348814741910323) + (Ya .u64 (wr .u64 ((Ya .u64 (Hc .u64 a0 1) 6148914691236517205) + (Ya .u64 a0 6148914691236517205))) 3689348814741910323))) 4) + (wr .u64 ((Ya .u64 (Hc .u64 (wr .u64 ((Ya .u64 (Hc .u64 a0 1) 6148914691236517205) + (Ya .u64 a0 6148914691236517205))) 2) 3689348814741910323) + (Ya .u64 (wr .u64 ((Ya .u64 (Hc .u64 a0 1) 6148914691236517205) + (Ya .u64 a0 6148914691236517205))) 3689348814741910323))))) 1085102592571150095) + (Hc .u64 (Ya .u64 (wr .u64 ((Hc .u64 (wr .u64 ((Ya .u64 (Hc .u64 (wr .u64 ((Ya .u64 (Hc .u64 a0 1) 6148914691236517205) + (Ya .u64 a0 6148914691236517205))) 2) 3689348814741910323) + (Ya .u64 (wr .u64 ((Ya .u64 (Hc .u64 a0 1) 6148914691236517205) + (Ya .u64 a0 6148914691236517205))) 3689348814741910323))) 4) + (wr .u64 ((Ya .u64 (Hc .u64 (wr .u64 ((Ya .u64 (Hc .u64 a0 1) 6148914691236517205) + (Ya .u64 a0 6148914691236517205))) 2) 3689348814741910323) + (Ya .u64 (wr .u64 ((Ya .u64 (Hc .u64 a0 1) 6148914691236517205) + (Ya .u64 a0 6148914691236517205))) 3689348814741910323))))) 1085102592571150095) 8))) 16))) 32)))) 127), ()))
 none)
 none)
 none)
 none)
 none)
 none)
def Sz (a0 : Int) : Option Rg :=
 (ob (JC a0) fun r1 =>
 (some (r1.1, ())))
def Zp (t0 : Nf) (t4 : Unit) (t11 : Nf) (t12 : Int) (t13 : Int) (t48 : Nf) (t49 : Int) (t50 : Int) (b4 : Ja) : Option (Yai ⊕ (((Nf × Am) × Unit) ⊕ Kl)) :=
 (cond (decide (t50 < t49))
 (ob (Cc t48 t50) fun x19 =>
 (cond (x19.1 == b4.1)
 (some (.inr (.inr ((false, ()), ()))))
 (cond (x19.2.1 == b4.2.1)
 (some (.inr (.inr ((false, ()), ()))))
 (some (.inl ((t0, (), t11, t12, t13, t48, t49, (wr .i64 (t50 + 1)), ()), (b4, ())))))))
 (some (.inr (.inl ((t0, t11, t12, t13, ()), ())))))
def Rs := Nb fun x : Yai => Zp x.1.1 x.1.2.1 x.1.2.2.1 x.1.2.2.2.1 x.1.2.2.2.2.1 x.1.2.2.2.2.2.1 x.1.2.2.2.2.2.2.1 x.1.2.2.2.2.2.2.2.1 x.2.1
def Nr (t0 : Nf) (t11 : Nf) (t12 : Int) (t13 : Int) : Option (((Nf × Am) × Unit) ⊕ Rz) :=
 (cond (decide (t13 < t12))
 (ob (Cc t11 t13) fun x15 =>
 (cond (decide (x15.1 < 0))
 (some (.inr (.inr ((false, ()), ()))))
 (cond (decide (x15.1 > 16777215))
 (some (.inr (.inr ((false, ()), ()))))
 (cond (decide (x15.2.1 < 24))
 (some (.inr (.inr ((false, ()), ()))))
 (cond (decide (x15.2.1 > 31))
 (some (.inr (.inr ((false, ()), ()))))
 (ob (Sz (wr .u64 x15.1)) fun r16 =>
 (cond (decide (r16.1 < 2))
 (some (.inr (.inr ((false, ()), ()))))
 (cond (decide (r16.1 > 4))
 (some (.inr (.inr ((false, ()), ()))))
 (cond (Af (ln t0) 0 t13)
 (ob (Rs ((t0, (), t11, t12, t13, (Qb t0 (tn 0) (tn t13)), ((ln (Qb t0 (tn 0) (tn t13)) : Nat) : Int), 0, ()), (x15, ()))) (se (fun y20 => (some (.inl ((y20.1.1, y20.1.2.1, y20.1.2.2.1, (wr .i64 (y20.1.2.2.2.1 + 1)), ()), ())))) (fun z21 => (some (.inr (.inr ((z21.1.1, ()), ())))))))
 none)))))))))
 (some (.inr (.inl ((), ())))))
def Eu := Nb fun x : ((Nf × Am) × Unit) => Nr x.1.1 x.1.2.1 x.1.2.2.1 x.1.2.2.2.1
def Ov (a0 : Nf) : Option Jd :=
 (cond (decide (((ln a0 : Nat) : Int) > 8))
 (some (false, ()))
 (ob (Eu ((a0, a0, ((ln a0 : Nat) : Int), 0, ()), ())) (se (fun y22 => (some (true, ()))) (fun z23 => (some (z23.1.1, ()))))))
def Ku (t1 : Int) (t4 : Unit) (t8 : Nf) (t9 : Int) (t10 : Int) (b4 : Ja) : Option (((Int × (Unit × Am)) × KK) ⊕ ((Xg × KK) ⊕ ((Unit × Jd) × KK))) :=
 (cond (decide (t10 < t9))
 (ob (Cc t8 t10) fun x3 =>
 (cond (x3.2.1 == t1)
 (some (.inr (.inr (((), true, ()), (x3, ())))))
 (some (.inl ((t1, (), t8, t9, (wr .i64 (t10 + 1)), ()), (b4, ()))))))
 (some (.inr (.inl (((), ()), (b4, ()))))))
def Nw := Nb fun x : ((Int × (Unit × Am)) × KK) => Ku x.1.1 x.1.2.1 x.1.2.2.1 x.1.2.2.2.1 x.1.2.2.2.2.1 x.2.1
def Ly (a0 : Nf) (a1 : Int) : Option (Ja × Jd) :=
 (ob (Nw ((a1, (), a0, ((ln a0 : Nat) : Int), 0, ()), ((0, 0, ()), ()))) (se (fun y4 => (some ((0, 0, ()), false, ()))) (fun z5 => (some (z5.2.1, z5.1.2.1, ())))))
def Ro (t1 : Unit) (t3 : Int) (t9 : Sg) (t10 : Int) (t11 : Int) (b1 : Da) : Option (((Unit × Vw) × SF) ⊕ Rz) :=
 (cond (decide (t11 < t10))
 (ob (Cc t9 t11) fun x7 =>
 (ob (Ly b1.1 x7.1) fun r8 =>
 (cond (!r8.2.1)
 (some (.inr (.inr ((false, ()), ()))))
 (ob (He t3 x7.1) fun r9 =>
 (cond (r9.1 == 1)
 (some (.inr (.inr ((false, ()), ()))))
 (cond (decide (x7.2.1 ≤ 0))
 (some (.inr (.inr ((false, ()), ()))))
 (cond ((Gc .i64 x7.2.1 r8.1.1) != 0)
 (some (.inr (.inr ((false, ()), ()))))
 (cond (x7.2.2.1 != (x7.2.1 == r8.1.1))
 (some (.inr (.inr ((false, ()), ()))))
 (cond (decide (0 ≤ x7.1))
 (some (.inl (((), (Tc .i64 t3 (Ra .i64 1 x7.1)), t9, t10, (wr .i64 (t11 + 1)), ()), (b1, ()))))
 none)))))))))
 (some (.inr (.inl ((), ())))))
def Pq := Nb fun x : ((Unit × Vw) × SF) => Ro x.1.1 x.1.2.1 x.1.2.2.1 x.1.2.2.2.1 x.1.2.2.2.2.1 x.2.1
def Gx (a0 : Da) : Option Jd :=
 (ob (Pq (((), 0, a0.2.2.2.2.2.2.1, ((ln a0.2.2.2.2.2.2.1 : Nat) : Int), 0, ()), (a0, ()))) (se (fun y10 => (some (true, ()))) (fun z11 => (some (z11.1.1, ())))))
def Fm (t4 : Int) (t10 : Sg) (t11 : Int) (t12 : Int) : Option ((Vw × Unit) ⊕ ((Rg × Unit) ⊕ (EI × Unit))) :=
 (cond (decide (t12 < t11))
 (ob (Cc t10 t12) fun x3 =>
 (cond ((Ya .i64 t4 x3.2.1) != 0)
 (some (.inr (.inr ((0, false, ()), ()))))
 (some (.inl (((Tc .i64 t4 x3.2.1), t10, t11, (wr .i64 (t12 + 1)), ()), ())))))
 (some (.inr (.inl ((t4, ()), ())))))
def Lo := Nb fun x : (Vw × Unit) => Fm x.1.1 x.1.2.1 x.1.2.2.1 x.1.2.2.2.1
def Vi (a0 : Da) : Option EI :=
 (ob (Lo ((a0.2.2.2.2.2.1, a0.2.2.2.2.2.2.1, ((ln a0.2.2.2.2.2.2.1 : Nat) : Int), 0, ()), ())) (se (fun y4 => (some (y4.1.1, true, ()))) (fun z5 => (some z5.1))))
def Yp (a0 : Da) : Option Jd :=
 (ob (Ov a0.1) fun r1 =>
 (cond (!r1.1)
 (some (false, ()))
 (cond (decide (a0.2.1 < 1))
 (some (false, ()))
 (cond (decide (a0.2.1 > 200))
 (some (false, ()))
 (cond (decide (a0.2.2.2.1 < 0))
 (some (false, ()))
 (cond (decide (a0.2.2.2.1 > 1000000))
 (some (false, ()))
 (cond (decide (a0.2.2.2.2.1 < 0))
 (some (false, ()))
 (cond (decide (a0.2.2.2.2.1 > a0.2.2.2.1))
 (some (false, ()))
 (cond (decide (a0.2.2.2.2.2.1 < 0))
 (some (false, ()))
 (cond (decide (a0.2.2.2.2.2.1 > 16777215))
 (some (false, ()))
 (ob (Gx a0) fun r2 =>
 (cond (!r2.1)
 (some (false, ()))
 (ob (Vi a0) fun r3 =>
 (cond r3.2.1
 (ob (Ui a0.2.2.1 r3.1 24) fun r4 =>
 (cond r4.1
 (ob (Si a0.2.2.1 a0.2.2.2.1) fun r5 =>
 (some (r5.1, ())))
 (some (false, ()))))
 (some (false, ()))))))))))))))))
def Bq (t0 : Int) (t7 : Sg) (t8 : Int) (t9 : Int) : Option ((Vw × Unit) ⊕ TF) :=
 (cond (decide (t9 < t8))
 (ob (Cc t7 t9) fun x3 =>
 (cond x3.2.2.1
 (cond (decide (0 ≤ x3.2.1))
 (some (.inl (((Tc .i64 t0 (Ra .i64 1 x3.2.1)), t7, t8, (wr .i64 (t9 + 1)), ()), ())))
 none)
 (cond (decide (0 ≤ x3.2.1))
 (some (.inl (((Gc .i64 t0 (Ra .i64 1 x3.2.1)), t7, t8, (wr .i64 (t9 + 1)), ()), ())))
 none)))
 (some (.inr (.inl ((t0, ()), ())))))
def Ws := Nb fun x : (Vw × Unit) => Bq x.1.1 x.1.2.1 x.1.2.2.1 x.1.2.2.2.1
def Vs (a0 : Int) (a1 : Sg) : Option Rg :=
 (ob (Ws ((a0, a1, ((ln a1 : Nat) : Int), 0, ()), ())) (se (fun y4 => (some (y4.1.1, ()))) (fun z5 => none)))
def Du (t1 : Unit) (t3 : Int) (t62 : Nf) (t63 : Int) (t64 : Int) (b1 : Mb) : Option (((Unit × (Int × Am)) × Ww) ⊕ ((Xg × Ww) ⊕ Kl)) :=
 (cond (decide (t64 < t63))
 (ob (Cc t62 t64) fun x12 =>
 (ob (Uj b1.1 x12.1) fun r13 =>
 (cond (!r13.1)
 (some (.inr (.inr ((false, ()), ()))))
 (cond (decide (x12.2.1 ≥ t3))
 (some (.inr (.inr ((false, ()), ()))))
 (some (.inl (((), t3, t62, t63, (wr .i64 (t64 + 1)), ()), (b1, ()))))))))
 (some (.inr (.inl (((), ()), (b1, ()))))))
def Jw := Nb fun x : ((Unit × (Int × Am)) × Ww) => Du x.1.1 x.1.2.1 x.1.2.2.1 x.1.2.2.2.1 x.1.2.2.2.2.1 x.2.1
def Mr (t1 : Unit) (t6 : Int) (t8 : Int) (t116 : Sg) (t117 : Int) (t118 : Int) (b1 : Mb) : Option (((Unit × (Int × Vw)) × Ww) ⊕ ((RF × Ww) ⊕ Xg)) :=
 (cond (decide (t118 < t117))
 (ob (Cc t116 t118) fun x19 =>
 (cond x19.2.2.1
 (cond (decide (0 ≤ x19.1))
 (some (.inl (((), t6, (Tc .i64 t8 (Ra .i64 1 x19.1)), t116, t117, (wr .i64 (t118 + 1)), ()), (b1, ()))))
 none)
 (some (.inl (((), t6, t8, t116, t117, (wr .i64 (t118 + 1)), ()), (b1, ()))))))
 (some (.inr (.inl (((), t6, t8, ()), (b1, ()))))))
def En := Nb fun x : ((Unit × (Int × Vw)) × Ww) => Mr x.1.1 x.1.2.1 x.1.2.2.1 x.1.2.2.2.1 x.1.2.2.2.2.1 x.1.2.2.2.2.2.1 x.2.1
def Iy (a0 : Mb) : Option Jd :=
 (ob (Pp a0.1) fun r1 =>
 (cond (!r1.1)
 (some (false, ()))
 (ob (Cl a0.2.1) fun r2 =>
 (cond (!r2.1)
 (some (false, ()))
 (ob (Yp a0.2.2.1) fun r3 =>
 (cond (!r3.1)
 (some (false, ()))
 (ob (Dl a0.2.2.2.1) fun r4 =>
 (cond (!r4.1)
 (some (false, ()))
 (ob (Nk a0.1) fun r5 =>
 (cond (a0.2.1.2.2.1 != r5.1)
 (some (false, ()))
 (ob (Nk a0.1) fun r6 =>
 (cond (decide (a0.2.2.2.1.1.1.1 < r6.1))
 (some (false, ()))
 (ob (Uj a0.1 a0.2.2.2.2.1) fun r7 =>
 (cond (!r7.1)
 (some (false, ()))
 (ob (Jw (((), a0.2.2.2.1.1.1.1, a0.2.2.1.1, ((ln a0.2.2.1.1 : Nat) : Int), 0, ()), (a0, ()))) (se (fun y14 => (cond (decide (y14.2.1.2.2.2.2.2.1 < 0))
 (some (false, ()))
 (cond (decide (y14.2.1.2.2.2.2.2.1 > 1000000))
 (some (false, ()))
 (cond (decide (y14.2.1.2.2.1.2.2.2.1 > y14.2.1.2.2.2.2.2.1))
 (some (false, ()))
 (cond (decide (y14.2.1.2.2.2.1.2.2.2.1 > y14.2.1.2.2.2.2.2.1))
 (some (false, ()))
 (ob (Vi y14.2.1.2.2.1) fun r16 =>
 (ob (En (((), r16.1, y14.2.1.2.2.1.2.2.2.2.2.1, y14.2.1.2.2.1.2.2.2.2.2.2.1, ((ln y14.2.1.2.2.1.2.2.2.2.2.2.1 : Nat) : Int), 0, ()), (y14.2.1, ()))) (se (fun y20 => (ob (Vs y20.1.2.1 y20.2.1.2.2.1.2.2.1) fun r22 =>
 (cond (r22.1 == y20.2.1.2.1.2.2.2.1)
 (ob (Mm y20.2.1.2.2.2.1.1.2.2.2.1) fun r23 =>
 (ob (Vs r23.1 y20.2.1.2.2.2.1.2.2.1) fun r24 =>
 (some ((r24.1 == y20.1.2.2.1), ()))))
 (some (false, ()))))) (fun z21 => none))))))))) (fun z15 => (some (z15.1.1, ())))))))))))))))))))
def Gk (a0 : Da) : Option SF :=
 (cond (bl (ln ([] : List Ja) + ln a0.1) Bb)
 (cond (bl (ln ([] : List Ba) + ln a0.2.2.1) Bb)
 (cond (bl (ln ([] : List Ba) + ln a0.2.2.2.2.2.2.1) Bb)
 (some (((ap [] a0.1), a0.2.1, (ap [] a0.2.2.1), a0.2.2.2.1, a0.2.2.2.2.1, a0.2.2.2.2.2.1, (ap [] a0.2.2.2.2.2.2.1), a0.2.2.2.2.2.2.2), ()))
 none)
 none)
 none)
def Xz (a0 : Mb) : Option Ww :=
 (ob (Lm a0.2.1.2.2.2.2.2.1) fun r1 =>
 (ob (Gk a0.2.2.1) fun r2 =>
 (ob (Gl a0.2.2.2.1) fun r3 =>
 (some ((a0.1, (a0.2.1.1, a0.2.1.2.1, a0.2.1.2.2.1, a0.2.1.2.2.2.1, a0.2.1.2.2.2.2.1, r1.1, a0.2.1.2.2.2.2.2.2), r2.1, r3.1, a0.2.2.2.2), ())))))
def Lj (t1 : Int) (t2 : Unit) (t4 : Unit) (t6 : Unit) (t27 : Cf) (t28 : Int) (t29 : Int) (b2 : Ib) (b4 : Ib) (b6 : Ib) : Option (((Int × Xai) × (Ib × DI)) ⊕ (((Int × SX) × DI) ⊕ Xg)) :=
 (cond (decide (t29 < t28))
 (ob (Cc t27 t29) fun x53 =>
 (cond (b2.1 == 0)
 (ob (He t1 t29) fun r54 =>
 (ob (He b2.2.2.2.2.1 t29) fun r55 =>
 (cond (r54.1 != r55.1)
 (cond (decide (1 ≥ b2.2.1))
 (ob (He t1 t29) fun r56 =>
 (ob (He b2.2.2.2.1 t29) fun r57 =>
 (cond (r56.1 != r57.1)
 (cond (decide (0 ≤ t29))
 (cond (b2.1 == 2)
 (cond (bl (ln b6.2.2.2.2.2.1 + ln ([0] : List Int)) Bb)
 (some (.inl ((t1, (), (), (), t27, t28, (wr .i64 (t29 + 1)), ()), (b2, b4, (b6.1, b6.2.1, b6.2.2.1, (Kf .i64 b6.2.2.2.1 (Ra .i64 1 t29)), b6.2.2.2.2.1, (ap b6.2.2.2.2.2.1 ([0] : List Int)), b6.2.2.2.2.2.2), ()))))
 none)
 (cond (bl (ln b6.2.2.2.2.2.1 + ln ([1] : List Int)) Bb)
 (some (.inl ((t1, (), (), (), t27, t28, (wr .i64 (t29 + 1)), ()), (b2, b4, (b6.1, b6.2.1, b6.2.2.1, (Kf .i64 b6.2.2.2.1 (Ra .i64 1 t29)), b6.2.2.2.2.1, (ap b6.2.2.2.2.2.1 ([1] : List Int)), b6.2.2.2.2.2.2), ()))))
 none))
 none)
 (cond (bl (ln b6.2.2.2.2.2.1 + ln ([1] : List Int)) Bb)
 (some (.inl ((t1, (), (), (), t27, t28, (wr .i64 (t29 + 1)), ()), (b2, b4, (b6.1, b6.2.1, b6.2.2.1, b6.2.2.2.1, b6.2.2.2.2.1, (ap b6.2.2.2.2.2.1 ([1] : List Int)), b6.2.2.2.2.2.2), ()))))
 none))))
 (cond (bl (ln b6.2.2.2.2.2.1 + ln ([1] : List Int)) Bb)
 (some (.inl ((t1, (), (), (), t27, t28, (wr .i64 (t29 + 1)), ()), (b2, b4, (b6.1, b6.2.1, b6.2.2.1, b6.2.2.2.1, b6.2.2.2.2.1, (ap b6.2.2.2.2.2.1 ([1] : List Int)), b6.2.2.2.2.2.2), ()))))
 none))
 (cond (b2.1 == 1)
 (cond (t1 != b2.2.2.2.2.1)
 (cond (decide (1 ≥ b2.2.1))
 (ob (He t1 t29) fun r58 =>
 (ob (He b2.2.2.2.1 t29) fun r59 =>
 (cond (r58.1 != r59.1)
 (cond (decide (0 ≤ t29))
 (cond (b2.1 == 2)
 (cond (bl (ln b6.2.2.2.2.2.1 + ln ([0] : List Int)) Bb)
 (some (.inl ((t1, (), (), (), t27, t28, (wr .i64 (t29 + 1)), ()), (b2, b4, (b6.1, b6.2.1, b6.2.2.1, (Kf .i64 b6.2.2.2.1 (Ra .i64 1 t29)), b6.2.2.2.2.1, (ap b6.2.2.2.2.2.1 ([0] : List Int)), b6.2.2.2.2.2.2), ()))))
 none)
 (cond (bl (ln b6.2.2.2.2.2.1 + ln ([1] : List Int)) Bb)
 (some (.inl ((t1, (), (), (), t27, t28, (wr .i64 (t29 + 1)), ()), (b2, b4, (b6.1, b6.2.1, b6.2.2.1, (Kf .i64 b6.2.2.2.1 (Ra .i64 1 t29)), b6.2.2.2.2.1, (ap b6.2.2.2.2.2.1 ([1] : List Int)), b6.2.2.2.2.2.2), ()))))
 none))
 none)
 (cond (bl (ln b6.2.2.2.2.2.1 + ln ([1] : List Int)) Bb)
 (some (.inl ((t1, (), (), (), t27, t28, (wr .i64 (t29 + 1)), ()), (b2, b4, (b6.1, b6.2.1, b6.2.2.1, b6.2.2.2.1, b6.2.2.2.2.1, (ap b6.2.2.2.2.2.1 ([1] : List Int)), b6.2.2.2.2.2.2), ()))))
 none))))
 (cond (bl (ln b6.2.2.2.2.2.1 + ln ([1] : List Int)) Bb)
 (some (.inl ((t1, (), (), (), t27, t28, (wr .i64 (t29 + 1)), ()), (b2, b4, (b6.1, b6.2.1, b6.2.2.1, b6.2.2.2.1, b6.2.2.2.2.1, (ap b6.2.2.2.2.2.1 ([1] : List Int)), b6.2.2.2.2.2.2), ()))))
 none))
 (cond (decide ((min (wr .i64 (x53 + 1)) 99) ≥ b2.2.1))
 (ob (He t1 t29) fun r60 =>
 (ob (He b2.2.2.2.1 t29) fun r61 =>
 (cond (r60.1 != r61.1)
 (cond (decide (0 ≤ t29))
 (cond (b2.1 == 2)
 (cond (bl (ln b6.2.2.2.2.2.1 + ln ([0] : List Int)) Bb)
 (some (.inl ((t1, (), (), (), t27, t28, (wr .i64 (t29 + 1)), ()), (b2, b4, (b6.1, b6.2.1, b6.2.2.1, (Kf .i64 b6.2.2.2.1 (Ra .i64 1 t29)), b6.2.2.2.2.1, (ap b6.2.2.2.2.2.1 ([0] : List Int)), b6.2.2.2.2.2.2), ()))))
 none)
 (cond (bl (ln b6.2.2.2.2.2.1 + ln ([(min (wr .i64 (x53 + 1)) 99)] : List Int)) Bb)
 (some (.inl ((t1, (), (), (), t27, t28, (wr .i64 (t29 + 1)), ()), (b2, b4, (b6.1, b6.2.1, b6.2.2.1, (Kf .i64 b6.2.2.2.1 (Ra .i64 1 t29)), b6.2.2.2.2.1, (ap b6.2.2.2.2.2.1 ([(min (wr .i64 (x53 + 1)) 99)] : List Int)), b6.2.2.2.2.2.2), ()))))
 none))
 none)
 (cond (bl (ln b6.2.2.2.2.2.1 + ln ([(min (wr .i64 (x53 + 1)) 99)] : List Int)) Bb)
 (some (.inl ((t1, (), (), (), t27, t28, (wr .i64 (t29 + 1)), ()), (b2, b4, (b6.1, b6.2.1, b6.2.2.1, b6.2.2.2.1, b6.2.2.2.2.1, (ap b6.2.2.2.2.2.1 ([(min (wr .i64 (x53 + 1)) 99)] : List Int)), b6.2.2.2.2.2.2), ()))))
 none))))
 (cond (bl (ln b6.2.2.2.2.2.1 + ln ([(min (wr .i64 (x53 + 1)) 99)] : List Int)) Bb)
 (some (.inl ((t1, (), (), (), t27, t28, (wr .i64 (t29 + 1)), ()), (b2, b4, (b6.1, b6.2.1, b6.2.2.1, b6.2.2.2.1, b6.2.2.2.2.1, (ap b6.2.2.2.2.2.1 ([(min (wr .i64 (x53 + 1)) 99)] : List Int)), b6.2.2.2.2.2.2), ()))))
 none)))
 (cond (decide ((min (wr .i64 (x53 + 1)) 99) ≥ b2.2.1))
 (ob (He t1 t29) fun r62 =>
 (ob (He b2.2.2.2.1 t29) fun r63 =>
 (cond (r62.1 != r63.1)
 (cond (decide (0 ≤ t29))
 (cond (b2.1 == 2)
 (cond (bl (ln b6.2.2.2.2.2.1 + ln ([0] : List Int)) Bb)
 (some (.inl ((t1, (), (), (), t27, t28, (wr .i64 (t29 + 1)), ()), (b2, b4, (b6.1, b6.2.1, b6.2.2.1, (Kf .i64 b6.2.2.2.1 (Ra .i64 1 t29)), b6.2.2.2.2.1, (ap b6.2.2.2.2.2.1 ([0] : List Int)), b6.2.2.2.2.2.2), ()))))
 none)
 (cond (bl (ln b6.2.2.2.2.2.1 + ln ([(min (wr .i64 (x53 + 1)) 99)] : List Int)) Bb)
 (some (.inl ((t1, (), (), (), t27, t28, (wr .i64 (t29 + 1)), ()), (b2, b4, (b6.1, b6.2.1, b6.2.2.1, (Kf .i64 b6.2.2.2.1 (Ra .i64 1 t29)), b6.2.2.2.2.1, (ap b6.2.2.2.2.2.1 ([(min (wr .i64 (x53 + 1)) 99)] : List Int)), b6.2.2.2.2.2.2), ()))))
 none))
 none)
 (cond (bl (ln b6.2.2.2.2.2.1 + ln ([(min (wr .i64 (x53 + 1)) 99)] : List Int)) Bb)
 (some (.inl ((t1, (), (), (), t27, t28, (wr .i64 (t29 + 1)), ()), (b2, b4, (b6.1, b6.2.1, b6.2.2.1, b6.2.2.2.1, b6.2.2.2.2.1, (ap b6.2.2.2.2.2.1 ([(min (wr .i64 (x53 + 1)) 99)] : List Int)), b6.2.2.2.2.2.2), ()))))
 none))))
 (cond (bl (ln b6.2.2.2.2.2.1 + ln ([(min (wr .i64 (x53 + 1)) 99)] : List Int)) Bb)
 (some (.inl ((t1, (), (), (), t27, t28, (wr .i64 (t29 + 1)), ()), (b2, b4, (b6.1, b6.2.1, b6.2.2.1, b6.2.2.2.1, b6.2.2.2.2.1, (ap b6.2.2.2.2.2.1 ([(min (wr .i64 (x53 + 1)) 99)] : List Int)), b6.2.2.2.2.2.2), ()))))
 none))))))
 (cond (b2.1 == 1)
 (cond (t1 != b2.2.2.2.2.1)
 (cond (decide (1 ≥ b2.2.1))
 (ob (He t1 t29) fun r64 =>
 (ob (He b2.2.2.2.1 t29) fun r65 =>
 (cond (r64.1 != r65.1)
 (cond (decide (0 ≤ t29))
 (cond (b2.1 == 2)
 (cond (bl (ln b6.2.2.2.2.2.1 + ln ([0] : List Int)) Bb)
 (some (.inl ((t1, (), (), (), t27, t28, (wr .i64 (t29 + 1)), ()), (b2, b4, (b6.1, b6.2.1, b6.2.2.1, (Kf .i64 b6.2.2.2.1 (Ra .i64 1 t29)), b6.2.2.2.2.1, (ap b6.2.2.2.2.2.1 ([0] : List Int)), b6.2.2.2.2.2.2), ()))))
 none)
 (cond (bl (ln b6.2.2.2.2.2.1 + ln ([1] : List Int)) Bb)
 (some (.inl ((t1, (), (), (), t27, t28, (wr .i64 (t29 + 1)), ()), (b2, b4, (b6.1, b6.2.1, b6.2.2.1, (Kf .i64 b6.2.2.2.1 (Ra .i64 1 t29)), b6.2.2.2.2.1, (ap b6.2.2.2.2.2.1 ([1] : List Int)), b6.2.2.2.2.2.2), ()))))
 none))
 none)
 (cond (bl (ln b6.2.2.2.2.2.1 + ln ([1] : List Int)) Bb)
 (some (.inl ((t1, (), (), (), t27, t28, (wr .i64 (t29 + 1)), ()), (b2, b4, (b6.1, b6.2.1, b6.2.2.1, b6.2.2.2.1, b6.2.2.2.2.1, (ap b6.2.2.2.2.2.1 ([1] : List Int)), b6.2.2.2.2.2.2), ()))))
 none))))
 (cond (bl (ln b6.2.2.2.2.2.1 + ln ([1] : List Int)) Bb)
 (some (.inl ((t1, (), (), (), t27, t28, (wr .i64 (t29 + 1)), ()), (b2, b4, (b6.1, b6.2.1, b6.2.2.1, b6.2.2.2.1, b6.2.2.2.2.1, (ap b6.2.2.2.2.2.1 ([1] : List Int)), b6.2.2.2.2.2.2), ()))))
 none))
 (cond (decide ((min (wr .i64 (x53 + 1)) 99) ≥ b2.2.1))
 (ob (He t1 t29) fun r66 =>
 (ob (He b2.2.2.2.1 t29) fun r67 =>
 (cond (r66.1 != r67.1)
 (cond (decide (0 ≤ t29))
 (cond (b2.1 == 2)
 (cond (bl (ln b6.2.2.2.2.2.1 + ln ([0] : List Int)) Bb)
 (some (.inl ((t1, (), (), (), t27, t28, (wr .i64 (t29 + 1)), ()), (b2, b4, (b6.1, b6.2.1, b6.2.2.1, (Kf .i64 b6.2.2.2.1 (Ra .i64 1 t29)), b6.2.2.2.2.1, (ap b6.2.2.2.2.2.1 ([0] : List Int)), b6.2.2.2.2.2.2), ()))))
 none)
 (cond (bl (ln b6.2.2.2.2.2.1 + ln ([(min (wr .i64 (x53 + 1)) 99)] : List Int)) Bb)
 (some (.inl ((t1, (), (), (), t27, t28, (wr .i64 (t29 + 1)), ()), (b2, b4, (b6.1, b6.2.1, b6.2.2.1, (Kf .i64 b6.2.2.2.1 (Ra .i64 1 t29)), b6.2.2.2.2.1, (ap b6.2.2.2.2.2.1 ([(min (wr .i64 (x53 + 1)) 99)] : List Int)), b6.2.2.2.2.2.2), ()))))
 none))
 none)
 (cond (bl (ln b6.2.2.2.2.2.1 + ln ([(min (wr .i64 (x53 + 1)) 99)] : List Int)) Bb)
 (some (.inl ((t1, (), (), (), t27, t28, (wr .i64 (t29 + 1)), ()), (b2, b4, (b6.1, b6.2.1, b6.2.2.1, b6.2.2.2.1, b6.2.2.2.2.1, (ap b6.2.2.2.2.2.1 ([(min (wr .i64 (x53 + 1)) 99)] : List Int)), b6.2.2.2.2.2.2), ()))))
 none))))
 (cond (bl (ln b6.2.2.2.2.2.1 + ln ([(min (wr .i64 (x53 + 1)) 99)] : List Int)) Bb)
 (some (.inl ((t1, (), (), (), t27, t28, (wr .i64 (t29 + 1)), ()), (b2, b4, (b6.1, b6.2.1, b6.2.2.1, b6.2.2.2.1, b6.2.2.2.2.1, (ap b6.2.2.2.2.2.1 ([(min (wr .i64 (x53 + 1)) 99)] : List Int)), b6.2.2.2.2.2.2), ()))))
 none)))
 (cond (decide ((min (wr .i64 (x53 + 1)) 99) ≥ b2.2.1))
 (ob (He t1 t29) fun r68 =>
 (ob (He b2.2.2.2.1 t29) fun r69 =>
 (cond (r68.1 != r69.1)
 (cond (decide (0 ≤ t29))
 (cond (b2.1 == 2)
 (cond (bl (ln b6.2.2.2.2.2.1 + ln ([0] : List Int)) Bb)
 (some (.inl ((t1, (), (), (), t27, t28, (wr .i64 (t29 + 1)), ()), (b2, b4, (b6.1, b6.2.1, b6.2.2.1, (Kf .i64 b6.2.2.2.1 (Ra .i64 1 t29)), b6.2.2.2.2.1, (ap b6.2.2.2.2.2.1 ([0] : List Int)), b6.2.2.2.2.2.2), ()))))
 none)
 (cond (bl (ln b6.2.2.2.2.2.1 + ln ([(min (wr .i64 (x53 + 1)) 99)] : List Int)) Bb)
 (some (.inl ((t1, (), (), (), t27, t28, (wr .i64 (t29 + 1)), ()), (b2, b4, (b6.1, b6.2.1, b6.2.2.1, (Kf .i64 b6.2.2.2.1 (Ra .i64 1 t29)), b6.2.2.2.2.1, (ap b6.2.2.2.2.2.1 ([(min (wr .i64 (x53 + 1)) 99)] : List Int)), b6.2.2.2.2.2.2), ()))))
 none))
 none)
 (cond (bl (ln b6.2.2.2.2.2.1 + ln ([(min (wr .i64 (x53 + 1)) 99)] : List Int)) Bb)
 (some (.inl ((t1, (), (), (), t27, t28, (wr .i64 (t29 + 1)), ()), (b2, b4, (b6.1, b6.2.1, b6.2.2.1, b6.2.2.2.1, b6.2.2.2.2.1, (ap b6.2.2.2.2.2.1 ([(min (wr .i64 (x53 + 1)) 99)] : List Int)), b6.2.2.2.2.2.2), ()))))
 none))))
 (cond (bl (ln b6.2.2.2.2.2.1 + ln ([(min (wr .i64 (x53 + 1)) 99)] : List Int)) Bb)
 (some (.inl ((t1, (), (), (), t27, t28, (wr .i64 (t29 + 1)), ()), (b2, b4, (b6.1, b6.2.1, b6.2.2.1, b6.2.2.2.1, b6.2.2.2.2.1, (ap b6.2.2.2.2.2.1 ([(min (wr .i64 (x53 + 1)) 99)] : List Int)), b6.2.2.2.2.2.2), ()))))
 none)))))
 (some (.inr (.inl ((t1, (), (), ()), (b4, b6, ()))))))
def Io := Nb fun x : ((Int × Xai) × (Ib × DI)) => Lj x.1.1 x.1.2.1 x.1.2.2.1 x.1.2.2.2.1 x.1.2.2.2.2.1 x.1.2.2.2.2.2.1 x.1.2.2.2.2.2.2.1 x.2.1 x.2.2.1 x.2.2.2.1
def Ek (a0 : Ib) (a1 : Int) : Option (Ib × Jd) :=
 (ob (Cl a0) fun r1 =>
 (cond (!r1.1)
 (some ((0, 0, 0, 0, 0, [], ()), false, ()))
 (cond (decide (a1 < 0))
 (some ((0, 0, 0, 0, 0, [], ()), false, ()))
 (cond (decide (0 ≤ a0.2.2.1))
 (cond (decide (a1 ≥ (Ra .i64 1 a0.2.2.1)))
 (some ((0, 0, 0, 0, 0, [], ()), false, ()))
 (ob (Io ((a1, (), (), (), a0.2.2.2.2.2.1, ((ln a0.2.2.2.2.2.1 : Nat) : Int), 0, ()), (a0, (0, 0, 0, 0, 0, [], ()), (a0.1, a0.2.1, a0.2.2.1, a0.2.2.2.1, a0.2.2.2.2.1, [], a0.2.2.2.2.2.2), ()))) (se (fun y70 => (some ((y70.2.2.1.1, y70.2.2.1.2.1, y70.2.2.1.2.2.1, y70.2.2.1.2.2.2.1, y70.1.1, y70.2.2.1.2.2.2.2.2), true, ()))) (fun z71 => none))))
 none))))
def Ol (t0 : Int) (t1 : Int) (t2 : Int) (t7 : Sg) (t8 : Int) : Option (((Int × (Int × (Int × ZI))) × Unit) ⊕ ((WS × Unit) ⊕ Xg)) :=
 (cond (decide (t8 ≤ 31))
 (ob (He t0 t8) fun r10 =>
 (ob (He t1 t8) fun r11 =>
 (cond (r10.1 != r11.1)
 (ob (He t1 t8) fun r12 =>
 (cond (bl (ln t7 + ln ([(t2, t8, (r12.1 == 1), ())] : List Ba)) Bb)
 (some (.inl ((t0, t1, t2, (ap t7 ([(t2, t8, (r12.1 == 1), ())] : List Ba)), (wr .i64 (t8 + 1)), ()), ())))
 none))
 (some (.inl ((t0, t1, t2, t7, (wr .i64 (t8 + 1)), ()), ()))))))
 (some (.inr (.inl ((t7, ()), ())))))
def Mn := Nb fun x : ((Int × (Int × (Int × ZI))) × Unit) => Ol x.1.1 x.1.2.1 x.1.2.2.1 x.1.2.2.2.1 x.1.2.2.2.2.1
def Xl (a0 : Int) (a1 : Int) (a2 : Int) : Option WS :=
 (ob (Mn ((a0, a1, a2, [], 0, ()), ())) (se (fun y13 => (some (y13.1.1, ()))) (fun z14 => none)))
def Cn (t0 : Unit) (t1 : Int) (t2 : Int) (t14 : Int) (t15 : Int) (b500000 : Da) : Option ((Vai × SF) ⊕ (TN ⊕ UaA)) :=
 (cond (decide (t15 < t14))
 (cond (Ei (ln b500000.2.2.2.2.2.2.1) t15)
 (ob b500000.2.2.2.2.2.2.1[(tn t15)]? fun x19 =>
 (ob (He x19.2.1 t1) fun r20 =>
 (cond (r20.1 == 0)
 (some (.inl (((), t1, t2, t14, (wr .i64 (t15 + 1)), ()), (b500000, ()))))
 (ob b500000.2.2.2.2.2.2.1[(tn t15)]? fun x21 =>
 (cond (decide (0 ≤ t1))
 (ob b500000.2.2.2.2.2.2.1[(tn t15)]? fun x22 =>
 (ob (ls b500000.2.2.2.2.2.2.1 (tn t15) (x22.1, (Gc .i64 x21.2.1 (Ra .i64 1 t1)), x22.2.2))[(tn t15)]? fun x23 =>
 (cond x23.2.2.1
 (ob (ls b500000.2.2.2.2.2.2.1 (tn t15) (x22.1, (Gc .i64 x21.2.1 (Ra .i64 1 t1)), x22.2.2))[(tn t15)]? fun x24 =>
 (ob (ls (ls b500000.2.2.2.2.2.2.1 (tn t15) (x22.1, (Gc .i64 x21.2.1 (Ra .i64 1 t1)), x22.2.2)) (tn t15) (x24.1, x24.2.1, false, x24.2.2.2))[(tn t15)]? fun x25 =>
 (ob (ls (ls b500000.2.2.2.2.2.2.1 (tn t15) (x22.1, (Gc .i64 x21.2.1 (Ra .i64 1 t1)), x22.2.2)) (tn t15) (x24.1, x24.2.1, false, x24.2.2.2))[(tn t15)]? fun x26 =>
 (cond (x26.2.1 == 0)
 (cond (Af (ln (ls (ls b500000.2.2.2.2.2.2.1 (tn t15) (x22.1, (Gc .i64 x21.2.1 (Ra .i64 1 t1)), x22.2.2)) (tn t15) (x24.1, x24.2.1, false, x24.2.2.2))) 0 t15)
 (cond (bl (ln ([] : List Ba) + ln (Qb (ls (ls b500000.2.2.2.2.2.2.1 (tn t15) (x22.1, (Gc .i64 x21.2.1 (Ra .i64 1 t1)), x22.2.2)) (tn t15) (x24.1, x24.2.1, false, x24.2.2.2)) (tn 0) (tn t15))) Bb)
 (cond (Af (ln (ls (ls b500000.2.2.2.2.2.2.1 (tn t15) (x22.1, (Gc .i64 x21.2.1 (Ra .i64 1 t1)), x22.2.2)) (tn t15) (x24.1, x24.2.1, false, x24.2.2.2))) (wr .i64 (t15 + 1)) ((ln (ls (ls b500000.2.2.2.2.2.2.1 (tn t15) (x22.1, (Gc .i64 x21.2.1 (Ra .i64 1 t1)), x22.2.2)) (tn t15) (x24.1, x24.2.1, false, x24.2.2.2)) : Nat) : Int))
 (cond (bl (ln (ap [] (Qb (ls (ls b500000.2.2.2.2.2.2.1 (tn t15) (x22.1, (Gc .i64 x21.2.1 (Ra .i64 1 t1)), x22.2.2)) (tn t15) (x24.1, x24.2.1, false, x24.2.2.2)) (tn 0) (tn t15))) + ln (Qb (ls (ls b500000.2.2.2.2.2.2.1 (tn t15) (x22.1, (Gc .i64 x21.2.1 (Ra .i64 1 t1)), x22.2.2)) (tn t15) (x24.1, x24.2.1, false, x24.2.2.2)) (tn (wr .i64 (t15 + 1))) (tn ((ln (ls (ls b500000.2.2.2.2.2.2.1 (tn t15) (x22.1, (Gc .i64 x21.2.1 (Ra .i64 1 t1)), x22.2.2)) (tn t15) (x24.1, x24.2.1, false, x24.2.2.2)) : Nat) : Int)))) Bb)
 (some (.inr (.inr (((), ([(t2, x25.1, false, ())] : List Ba), ()), ((b500000.1, b500000.2.1, b500000.2.2.1, b500000.2.2.2.1, b500000.2.2.2.2.1, b500000.2.2.2.2.2.1, (ap (ap [] (Qb (ls (ls b500000.2.2.2.2.2.2.1 (tn t15) (x22.1, (Gc .i64 x21.2.1 (Ra .i64 1 t1)), x22.2.2)) (tn t15) (x24.1, x24.2.1, false, x24.2.2.2)) (tn 0) (tn t15))) (Qb (ls (ls b500000.2.2.2.2.2.2.1 (tn t15) (x22.1, (Gc .i64 x21.2.1 (Ra .i64 1 t1)), x22.2.2)) (tn t15) (x24.1, x24.2.1, false, x24.2.2.2)) (tn (wr .i64 (t15 + 1))) (tn ((ln (ls (ls b500000.2.2.2.2.2.2.1 (tn t15) (x22.1, (Gc .i64 x21.2.1 (Ra .i64 1 t1)), x22.2.2)) (tn t15) (x24.1, x24.2.1, false, x24.2.2.2)) : Nat) : Int)))), ()), ())))))
 none)
 none)
 none)
 none)
 (some (.inr (.inr (((), ([(t2, x25.1, false, ())] : List Ba), ()), ((b500000.1, b500000.2.1, b500000.2.2.1, b500000.2.2.2.1, b500000.2.2.2.2.1, b500000.2.2.2.2.2.1, (ls (ls b500000.2.2.2.2.2.2.1 (tn t15) (x22.1, (Gc .i64 x21.2.1 (Ra .i64 1 t1)), x22.2.2)) (tn t15) (x24.1, x24.2.1, false, x24.2.2.2)), ()), ())))))))))
 (ob (ls b500000.2.2.2.2.2.2.1 (tn t15) (x22.1, (Gc .i64 x21.2.1 (Ra .i64 1 t1)), x22.2.2))[(tn t15)]? fun x27 =>
 (cond (x27.2.1 == 0)
 (cond (Af (ln (ls b500000.2.2.2.2.2.2.1 (tn t15) (x22.1, (Gc .i64 x21.2.1 (Ra .i64 1 t1)), x22.2.2))) 0 t15)
 (cond (bl (ln ([] : List Ba) + ln (Qb (ls b500000.2.2.2.2.2.2.1 (tn t15) (x22.1, (Gc .i64 x21.2.1 (Ra .i64 1 t1)), x22.2.2)) (tn 0) (tn t15))) Bb)
 (cond (Af (ln (ls b500000.2.2.2.2.2.2.1 (tn t15) (x22.1, (Gc .i64 x21.2.1 (Ra .i64 1 t1)), x22.2.2))) (wr .i64 (t15 + 1)) ((ln (ls b500000.2.2.2.2.2.2.1 (tn t15) (x22.1, (Gc .i64 x21.2.1 (Ra .i64 1 t1)), x22.2.2)) : Nat) : Int))
 (cond (bl (ln (ap [] (Qb (ls b500000.2.2.2.2.2.2.1 (tn t15) (x22.1, (Gc .i64 x21.2.1 (Ra .i64 1 t1)), x22.2.2)) (tn 0) (tn t15))) + ln (Qb (ls b500000.2.2.2.2.2.2.1 (tn t15) (x22.1, (Gc .i64 x21.2.1 (Ra .i64 1 t1)), x22.2.2)) (tn (wr .i64 (t15 + 1))) (tn ((ln (ls b500000.2.2.2.2.2.2.1 (tn t15) (x22.1, (Gc .i64 x21.2.1 (Ra .i64 1 t1)), x22.2.2)) : Nat) : Int)))) Bb)
 (some (.inr (.inr (((), [], ()), ((b500000.1, b500000.2.1, b500000.2.2.1, b500000.2.2.2.1, b500000.2.2.2.2.1, b500000.2.2.2.2.2.1, (ap (ap [] (Qb (ls b500000.2.2.2.2.2.2.1 (tn t15) (x22.1, (Gc .i64 x21.2.1 (Ra .i64 1 t1)), x22.2.2)) (tn 0) (tn t15))) (Qb (ls b500000.2.2.2.2.2.2.1 (tn t15) (x22.1, (Gc .i64 x21.2.1 (Ra .i64 1 t1)), x22.2.2)) (tn (wr .i64 (t15 + 1))) (tn ((ln (ls b500000.2.2.2.2.2.2.1 (tn t15) (x22.1, (Gc .i64 x21.2.1 (Ra .i64 1 t1)), x22.2.2)) : Nat) : Int)))), ()), ())))))
 none)
 none)
 none)
 none)
 (some (.inr (.inr (((), [], ()), ((b500000.1, b500000.2.1, b500000.2.2.1, b500000.2.2.2.1, b500000.2.2.2.2.1, b500000.2.2.2.2.2.1, (ls b500000.2.2.2.2.2.2.1 (tn t15) (x22.1, (Gc .i64 x21.2.1 (Ra .i64 1 t1)), x22.2.2)), ()), ()))))))))))
 none)))))
 none)
 (some (.inr (.inl (((), t1, t2, ()), (b500000, ()))))))
def Ip := Nb fun x : (Vai × SF) => Cn x.1.1 x.1.2.1 x.1.2.2.1 x.1.2.2.2.1 x.1.2.2.2.2.1 x.2.1
def Fo (a0 : Da) (a1 : Int) (a2 : Int) : Option (Da × WS) :=
 (ob (Ip (((), a1, a2, ((ln a0.2.2.2.2.2.2.1 : Nat) : Int), 0, ()), (a0, ()))) (se (fun y28 => (cond (decide (0 ≤ y28.1.2.1))
 (some ((y28.2.1.1, y28.2.1.2.1, y28.2.1.2.2.1, y28.2.1.2.2.2.1, y28.2.1.2.2.2.2.1, (Gc .i64 y28.2.1.2.2.2.2.2.1 (Ra .i64 1 y28.1.2.1)), y28.2.1.2.2.2.2.2.2.1, ()), (([(y28.1.2.2.1, y28.1.2.1, false, ())] : List Ba), ())))
 none)) (fun z29 => (some (z29.2.1, (z29.1.2.1, ()))))))
def Yl (a0 : Ba) : Option Jd :=
 (ob (Ss a0) fun r1 =>
 (cond r1.1
 (some ((decide (a0.2.1 < 24)), ()))
 (some (false, ()))))
def Mx (t1 : Int) (t7 : Nf) (t8 : Int) (t9 : Int) : Option (((Int × Am) × Unit) ⊕ Rz) :=
 (cond (decide (t9 < t8))
 (ob (Cc t7 t9) fun x3 =>
 (cond ((Gc .i64 t1 x3.1) == 0)
 (some (.inr (.inr ((true, ()), ()))))
 (some (.inl ((t1, t7, t8, (wr .i64 (t9 + 1)), ()), ())))))
 (some (.inr (.inl ((), ())))))
def Ry := Nb fun x : ((Int × Am) × Unit) => Mx x.1.1 x.1.2.1 x.1.2.2.1 x.1.2.2.2.1
def LB (a0 : Nf) (a1 : Int) : Option Jd :=
 (ob (Ry ((a1, a0, ((ln a0 : Nat) : Int), 0, ()), ())) (se (fun y4 => (some (false, ()))) (fun z5 => (some (z5.1.1, ())))))
def Uo (t1 : Int) (t6 : Int) (t7 : Bool) (t10 : Nf) (t11 : Int) (t12 : Int) : Option (((Int × (Int × (Bool × Am))) × Unit) ⊕ ((EI × Unit) ⊕ Xg)) :=
 (cond (decide (t12 < t11))
 (ob (Cc t10 t12) fun x3 =>
 (cond (x3.1 == t1)
 (some (.inl ((t1, x3.2.1, t7, t10, t11, (wr .i64 (t12 + 1)), ()), ())))
 (cond ((Gc .i64 t1 x3.1) == 0)
 (some (.inl ((t1, t6, true, t10, t11, (wr .i64 (t12 + 1)), ()), ())))
 (some (.inl ((t1, t6, t7, t10, t11, (wr .i64 (t12 + 1)), ()), ()))))))
 (some (.inr (.inl ((t6, t7, ()), ())))))
def Uq := Nb fun x : ((Int × (Int × (Bool × Am))) × Unit) => Uo x.1.1 x.1.2.1 x.1.2.2.1 x.1.2.2.2.1 x.1.2.2.2.2.1 x.1.2.2.2.2.2.1
def Gm (a0 : Nf) (a1 : Int) : Option EI :=
 (ob (Uq ((a1, (-1), false, a0, ((ln a0 : Nat) : Int), 0, ()), ())) (se (fun y4 => (some y4.1)) (fun z5 => none)))
def Ln (t0 : Nf) (t1 : Int) (t3 : Int) (t11 : Unit) (t12 : Int) (t13 : Int) (t14 : Int) (t15 : Bool) (t69 : Sg) (t70 : Int) (t71 : Int) (b11 : Ba) : Option (Xat ⊕ (((Nf × (Int × (Int × Ba))) × Unit) ⊕ FI)) :=
 (cond (decide (t71 < t70))
 (ob (Cc t69 t71) fun x15 =>
 (ob (Yl x15) fun r16 =>
 (cond (!r16.1)
 (some (.inr (.inr ((0, 0, (-1), ()), ()))))
 (cond (decide (x15.1 ≥ (wr .i64 (b11.1 + t1))))
 (some (.inr (.inl ((t0, t3, t12, (min t13 x15.1), t14, false, ()), ()))))
 (cond (!x15.2.2.1)
 (some (.inr (.inl ((t0, t3, t12, (min t13 x15.1), t14, false, ()), ()))))
 (cond (decide (0 ≤ x15.2.1))
 (ob (LB t0 (Tc .i64 t12 (Ra .i64 1 x15.2.1))) fun r17 =>
 (cond (!r17.1)
 (some (.inr (.inl ((t0, t3, t12, (min t13 x15.1), t14, false, ()), ()))))
 (cond (decide (0 ≤ x15.2.1))
 (ob (Gm t0 (Tc .i64 t12 (Ra .i64 1 x15.2.1))) fun r18 =>
 (cond (decide (r18.1 ≥ 0))
 (cond (!r18.2.1)
 (some (.inr (.inr (((wr .i64 (t14 + 1)), x15.1, r18.1, ()), ()))))
 (some (.inl ((t0, t1, t3, (), (Tc .i64 t12 (Ra .i64 1 x15.2.1)), t13, (wr .i64 (t14 + 1)), t15, t69, t70, (wr .i64 (t71 + 1)), ()), (b11, ())))))
 (some (.inl ((t0, t1, t3, (), (Tc .i64 t12 (Ra .i64 1 x15.2.1)), t13, (wr .i64 (t14 + 1)), t15, t69, t70, (wr .i64 (t71 + 1)), ()), (b11, ()))))))
 none)))
 none))))))
 (some (.inr (.inl ((t0, t3, t12, t13, t14, t15, ()), ())))))
def Xk := Nb fun x : Xat => Ln x.1.1 x.1.2.1 x.1.2.2.1 x.1.2.2.2.1 x.1.2.2.2.2.1 x.1.2.2.2.2.2.1 x.1.2.2.2.2.2.2.1 x.1.2.2.2.2.2.2.2.1 x.1.2.2.2.2.2.2.2.2.1 x.1.2.2.2.2.2.2.2.2.2.1 x.1.2.2.2.2.2.2.2.2.2.2.1 x.2.1
def Bx (a0 : Nf) (a1 : Int) (a2 : Sg) (a3 : Int) : Option Xb :=
 (ob (Ov a0) fun r1 =>
 (cond (!r1.1)
 (some (0, 0, (-1), ()))
 (cond (decide (a1 < 1))
 (some (0, 0, (-1), ()))
 (cond (decide (a1 > 200))
 (some (0, 0, (-1), ()))
 (cond (((ln a2 : Nat) : Int) == 0)
 (some (0, 0, (-1), ()))
 (ob (Cc a2 0) fun x2 =>
 (ob (Yl x2) fun r3 =>
 (cond (!r3.1)
 (some (0, 0, (-1), ()))
 (ob (Cc a2 0) fun x4 =>
 (cond (!x4.2.2.1)
 (some (0, 0, (-1), ()))
 (ob (Cc a2 0) fun x5 =>
 (cond (decide (0 ≤ x5.2.1))
 (ob (LB a0 (Ra .i64 1 x5.2.1)) fun r6 =>
 (cond (!r6.1)
 (some (1, x5.1, (-1), ()))
 (cond (Af (ln a2) 1 ((ln a2 : Nat) : Int))
 (ob (Xk ((a0, a1, a3, (), (Ra .i64 1 x5.2.1), (wr .i64 (x5.1 + a1)), 1, true, (Qb a2 (tn 1) (tn ((ln a2 : Nat) : Int))), ((ln (Qb a2 (tn 1) (tn ((ln a2 : Nat) : Int))) : Nat) : Int), 0, ()), (x5, ()))) (se (fun y19 => (cond y19.1.2.2.2.2.2.1
 (cond (decide (y19.1.2.1 < y19.1.2.2.2.1))
 (some (0, 0, (-1), ()))
 (ob (Gm y19.1.1 y19.1.2.2.1) fun r21 =>
 (cond (decide (r21.1 ≥ 0))
 (some (y19.1.2.2.2.2.1, y19.1.2.2.2.1, r21.1, ()))
 (some (1, y19.1.2.2.2.1, (-1), ())))))
 (ob (Gm y19.1.1 y19.1.2.2.1) fun r22 =>
 (cond (decide (r22.1 ≥ 0))
 (some (y19.1.2.2.2.2.1, y19.1.2.2.2.1, r22.1, ()))
 (some (1, y19.1.2.2.2.1, (-1), ())))))) (fun z20 => (some z20.1))))
 none)))
 none))))))))))))
def Di (a0 : Da) : Option (Da × E6) :=
 (cond (Ei (ln a0.2.2.1) 0)
 (ob a0.2.2.1[(tn 0)]? fun x1 =>
 (cond (!x1.2.2.1)
 (cond (Af (ln a0.2.2.1) 1 ((ln a0.2.2.1 : Nat) : Int))
 (cond (bl (ln ([] : List Ba) + ln (Qb a0.2.2.1 (tn 1) (tn ((ln a0.2.2.1 : Nat) : Int)))) Bb)
 (ob (Fo (a0.1, a0.2.1, (ap [] (Qb a0.2.2.1 (tn 1) (tn ((ln a0.2.2.1 : Nat) : Int)))), a0.2.2.2.1, (max a0.2.2.2.2.1 x1.1), a0.2.2.2.2.2) x1.2.1 (max a0.2.2.2.2.1 x1.1)) fun r2 =>
 (some (r2.1, (r2.2.1, true, ()))))
 none)
 none)
 (ob (Bx a0.1 a0.2.1 a0.2.2.1 a0.2.2.2.1) fun r3 =>
 (cond (r3.1 == 0)
 (some (a0, ([], false, ())))
 (cond (Af (ln a0.2.2.1) r3.1 ((ln a0.2.2.1 : Nat) : Int))
 (cond (bl (ln ([] : List Ba) + ln (Qb a0.2.2.1 (tn r3.1) (tn ((ln a0.2.2.1 : Nat) : Int)))) Bb)
 (cond (decide (r3.2.2.1 < 0))
 (cond (decide (0 ≤ x1.2.1))
 (some ((a0.1, a0.2.1, (ap [] (Qb a0.2.2.1 (tn r3.1) (tn ((ln a0.2.2.1 : Nat) : Int)))), a0.2.2.2.1, (max (max a0.2.2.2.2.1 x1.1) r3.2.1), (Tc .i64 a0.2.2.2.2.2.1 (Ra .i64 1 x1.2.1)), a0.2.2.2.2.2.2), (([((max (max a0.2.2.2.2.1 x1.1) r3.2.1), x1.2.1, true, ())] : List Ba), true, ())))
 none)
 (ob (Ly a0.1 r3.2.2.1) fun r4 =>
 (cond (bl (ln a0.2.2.2.2.2.2.1 + ln ([(r3.2.2.1, r4.1.1, true, ())] : List Ba)) Bb)
 (some ((a0.1, a0.2.1, (ap [] (Qb a0.2.2.1 (tn r3.1) (tn ((ln a0.2.2.1 : Nat) : Int)))), a0.2.2.2.1, (max (max a0.2.2.2.2.1 x1.1) r3.2.1), a0.2.2.2.2.2.1, (ap a0.2.2.2.2.2.2.1 ([(r3.2.2.1, r4.1.1, true, ())] : List Ba)), ()), (([((max (max a0.2.2.2.2.1 x1.1) r3.2.1), r3.2.2.1, true, ())] : List Ba), true, ())))
 none)))
 none)
 none)))))
 none)
def Pg (t6 : Unit) (t9 : Unit) (t12 : Sg) (b6 : Da) (b9 : Da) : Option (Bag ⊕ (Bag ⊕ Xg)) :=
 (cond (decide (((ln b9.2.2.1 : Nat) : Int) > 0))
 (ob (Di b9) fun r19 =>
 (cond (!r19.2.2.1)
 (some (.inr (.inl (((), (), t12, ()), (b6, r19.1, ())))))
 (cond (bl (ln t12 + ln r19.2.1) Bb)
 (some (.inl (((), (), (ap t12 r19.2.1), ()), (b6, r19.1, ()))))
 none)))
 (some (.inr (.inl (((), (), t12, ()), (b6, b9, ()))))))
def Tf := Nb fun x : Bag => Pg x.1.1 x.1.2.1 x.1.2.2.1 x.2.1 x.2.2.1
def Gi (a0 : Da) (a1 : Sg) (a2 : Int) : Option (Da × E6) :=
 (ob (Yp a0) fun r1 =>
 (cond (!r1.1)
 (some (Fj, [], false, ()))
 (cond (decide (a2 < a0.2.2.2.1))
 (some (Fj, [], false, ()))
 (cond (decide (a2 > 1000000))
 (some (Fj, [], false, ()))
 (cond (decide (((ln a1 : Nat) : Int) > 0))
 (ob (Cc a1 0) fun x2 =>
 (cond (decide (x2.1 < a0.2.2.2.1))
 (some (Fj, [], false, ()))
 (ob (Si a1 a2) fun r3 =>
 (cond (!r3.1)
 (some (Fj, [], false, ()))
 (ob (Gk a0) fun r4 =>
 (cond (bl (ln r4.1.2.2.1 + ln a1) Bb)
 (ob (Vi a0) fun r5 =>
 (ob (Ui (ap r4.1.2.2.1 a1) r5.1 24) fun r6 =>
 (cond (!r6.1)
 (some (Fj, [], false, ()))
 (ob (Tf (((), (), [], ()), (Fj, (r4.1.1, r4.1.2.1, (ap r4.1.2.2.1 a1), a2, r4.1.2.2.2.2), ()))) (se (fun y11 => (some (y11.2.2.1, y11.1.2.2.1, true, ()))) (fun z12 => none))))))
 none))))))
 (ob (Si a1 a2) fun r13 =>
 (cond (!r13.1)
 (some (Fj, [], false, ()))
 (ob (Gk a0) fun r14 =>
 (cond (bl (ln r14.1.2.2.1 + ln a1) Bb)
 (ob (Vi a0) fun r15 =>
 (ob (Ui (ap r14.1.2.2.1 a1) r15.1 24) fun r16 =>
 (cond (!r16.1)
 (some (Fj, [], false, ()))
 (ob (Tf (((), (), [], ()), (Fj, (r14.1.1, r14.1.2.1, (ap r14.1.2.2.1 a1), a2, r14.1.2.2.2.2), ()))) (se (fun y20 => (some (y20.2.2.1, y20.1.2.2.1, true, ()))) (fun z21 => none))))))
 none)))))))))
def Ps (a0 : Mb) (a1 : Int) : Option (Mb × F6) :=
 (ob (Iy a0) fun r1 =>
 (cond (!r1.1)
 (some (Jm, [], false, ()))
 (ob (Uj a0.1 a1) fun r2 =>
 (cond (!r2.1)
 (some (Jm, [], false, ()))
 (cond (decide (a0.2.2.2.2.2.1 ≥ 1000000))
 (some (Jm, [], false, ()))
 (ob (Ot a0.1 a1) fun r3 =>
 (ob (Vl a0.1 a0.2.2.2.2.1 r3.1) fun r4 =>
 (ob (Ek a0.2.1 r4.1) fun r5 =>
 (cond (!r4.2.1)
 (some (Jm, [], false, ()))
 (cond (!r5.2.1)
 (some (Jm, [], false, ()))
 (ob (Xl a0.2.1.2.2.2.1 r5.1.2.2.2.1 a0.2.2.2.2.2.1) fun r6 =>
 (ob (Gi a0.2.2.1 r6.1 a0.2.2.2.2.2.1) fun r7 =>
 (cond (!r7.2.2.1)
 (some (Jm, [], false, ()))
 (ob (Em a0.2.2.2.1 r7.2.1 a0.2.2.2.2.2.1) fun r8 =>
 (cond (!r8.2.2.1)
 (some (Jm, [], false, ()))
 (some ((a0.1, r5.1, r7.1, r8.1, r4.1, (wr .i64 (a0.2.2.2.2.2.1 + 1)), a0.2.2.2.2.2.2), r8.2.1, true, ())))))))))))))))))
def Jr (t4 : Unit) (t7 : Unit) (t8 : Vm) (t25 : Cf) (t26 : Int) (t27 : Int) (b4 : Mb) (b7 : Mb) : Option (((Unit × (Unit × (Vm × IK))) × V6) ⊕ (((Unit × Uat) × V6) ⊕ ((Unit × F6) × Ww))) :=
 (cond (decide (t27 < t26))
 (ob (Cc t25 t27) fun x9 =>
 (ob (Ps b7 x9) fun r10 =>
 (cond (!r10.2.2.1)
 (some (.inr (.inr (((), [], false, ()), (Jm, ())))))
 (cond (bl (ln t8 + ln r10.2.1) Bb)
 (some (.inl (((), (), (ap t8 r10.2.1), t25, t26, (wr .i64 (t27 + 1)), ()), (b4, r10.1, ()))))
 none))))
 (some (.inr (.inl (((), (), t8, ()), (b4, b7, ()))))))
def Zt := Nb fun x : ((Unit × (Unit × (Vm × IK))) × V6) => Jr x.1.1 x.1.2.1 x.1.2.2.1 x.1.2.2.2.1 x.1.2.2.2.2.1 x.1.2.2.2.2.2.1 x.2.1 x.2.2.1
def Lk (a0 : Mb) (a1 : Cf) : Option (Mb × F6) :=
 (ob (Iy a0) fun r1 =>
 (cond (!r1.1)
 (some (Jm, [], false, ()))
 (cond (decide (((ln a1 : Nat) : Int) > 200))
 (some (Jm, [], false, ()))
 (ob (Xz a0) fun r2 =>
 (ob (Zt (((), (), [], a1, ((ln a1 : Nat) : Int), 0, ()), (Jm, r2.1, ()))) (se (fun y11 => (some (y11.2.2.1, y11.1.2.2.1, true, ()))) (fun z12 => (some (z12.2.1, z12.1.2.1, z12.1.2.2.1, ())))))))))
def Dn (t2 : Unit) (t4 : Unit) (t7 : Cf) (t25 : Cf) (t26 : Int) (t27 : Int) (b2 : Ib) (b4 : Ib) : Option (((Unit × D6) × DI) ⊕ (((Unit × (Unit × Qz)) × DI) ⊕ ((Unit × (Cf × Jd)) × KQ))) :=
 (cond (decide (t27 < t26))
 (ob (Cc t25 t27) fun x9 =>
 (ob (Ek b2 x9) fun r10 =>
 (cond (!r10.2.1)
 (some (.inr (.inr (((), [], false, ()), ((0, 0, 0, 0, 0, [], ()), ())))))
 (cond (bl (ln t7 + ln ([r10.1.2.2.2.1] : List Int)) Bb)
 (some (.inl (((), (), (ap t7 ([r10.1.2.2.2.1] : List Int)), t25, t26, (wr .i64 (t27 + 1)), ()), (r10.1, b4, ()))))
 none))))
 (some (.inr (.inl (((), (), t7, ()), (b2, b4, ()))))))
def Jp := Nb fun x : ((Unit × D6) × DI) => Dn x.1.1 x.1.2.1 x.1.2.2.1 x.1.2.2.2.1 x.1.2.2.2.2.1 x.1.2.2.2.2.2.1 x.2.1 x.2.2.1
def Ho (a0 : Ib) (a1 : Cf) : Option (Ib × (Cf × Jd)) :=
 (ob (Cl a0) fun r1 =>
 (cond (!r1.1)
 (some ((0, 0, 0, 0, 0, [], ()), [], false, ()))
 (cond (decide (((ln a1 : Nat) : Int) > 200))
 (some ((0, 0, 0, 0, 0, [], ()), [], false, ()))
 (ob (Lm a0.2.2.2.2.2.1) fun r2 =>
 (ob (Jp (((), (), [], a1, ((ln a1 : Nat) : Int), 0, ()), ((a0.1, a0.2.1, a0.2.2.1, a0.2.2.2.1, a0.2.2.2.2.1, r2.1, a0.2.2.2.2.2.2), (0, 0, 0, 0, 0, [], ()), ()))) (se (fun y11 => (some (y11.2.1, y11.1.2.2.1, true, ()))) (fun z12 => (some (z12.2.1, z12.1.2.1, z12.1.2.2.1, ())))))))))
def Lr (t4 : Sg) (t5 : Int) (t11 : Cf) (t12 : Int) (t13 : Int) : Option (((Sg × XS) × Unit) ⊕ XaH) :=
 (cond (decide (t13 < t12))
 (ob (Cc t11 t13) fun x7 =>
 (cond (decide (x7 < 0))
 (some (.inr (.inr (([], false, ()), ()))))
 (cond (decide (x7 ≥ 4294967296))
 (some (.inr (.inr (([], false, ()), ()))))
 (ob (Xl t5 x7 t13) fun r8 =>
 (cond (bl (ln t4 + ln r8.1) Bb)
 (some (.inl (((ap t4 r8.1), x7, t11, t12, (wr .i64 (t13 + 1)), ()), ())))
 none)))))
 (some (.inr (.inl ((t4, ()), ())))))
def Bu := Nb fun x : ((Sg × XS) × Unit) => Lr x.1.1 x.1.2.1 x.1.2.2.1 x.1.2.2.2.1 x.1.2.2.2.2.1
def Nv (a0 : Cf) : Option E6 :=
 (cond (decide (((ln a0 : Nat) : Int) > 200))
 (some ([], false, ()))
 (ob (Bu (([], 0, a0, ((ln a0 : Nat) : Int), 0, ()), ())) (se (fun y9 => (cond (decide (((ln y9.1.1 : Nat) : Int) > 64))
 (some ([], false, ()))
 (some (y9.1.1, true, ())))) (fun z10 => (some z10.1)))))
def Tr (t0 : Vm) (t1 : Vm) (t12 : Int) (t13 : Int) : Option (((Vm × Yat) × Unit) ⊕ Rz) :=
 (cond (decide (t13 < t12))
 (ob (Cc t0 t13) fun x11 =>
 (ob (Cc t1 t13) fun x12 =>
 (cond (x11.1 != x12.1)
 (some (.inr (.inr ((false, ()), ()))))
 (ob (Cc t0 t13) fun x13 =>
 (ob (Cc t1 t13) fun x14 =>
 (ob (Bi x13.2.1 x14.2.1) fun r15 =>
 (cond (!r15.1)
 (some (.inr (.inr ((false, ()), ()))))
 (some (.inl ((t0, t1, t12, (wr .i64 (t13 + 1)), ()), ()))))))))))
 (some (.inr (.inl ((), ())))))
def Iu := Nb fun x : ((Vm × Yat) × Unit) => Tr x.1.1 x.1.2.1 x.1.2.2.1 x.1.2.2.2.1
def Sv (a0 : Vm) (a1 : Vm) : Option Jd :=
 (cond (((ln a0 : Nat) : Int) != ((ln a1 : Nat) : Int))
 (some (false, ()))
 (ob (Iu ((a0, a1, ((ln a0 : Nat) : Int), 0, ()), ())) (se (fun y16 => (some (true, ()))) (fun z17 => (some (z17.1.1, ()))))))
def Yr (t0 : Jh) (t1 : Jh) (t5 : Int) : Option (((Jh × (Jh × Rg)) × Unit) ⊕ Rz) :=
 (cond (decide (t5 < ((ln t0 : Nat) : Int)))
 (ob (Cc t0 t5) fun x5 =>
 (ob (Cc t1 t5) fun x6 =>
 (cond (!(Jl Ev x5 x6))
 (some (.inr (.inr ((false, ()), ()))))
 (some (.inl ((t0, t1, (wr .i64 (t5 + 1)), ()), ()))))))
 (some (.inr (.inl ((), ())))))
def Qu := Nb fun x : ((Jh × (Jh × Rg)) × Unit) => Yr x.1.1 x.1.2.1 x.1.2.2.1
def AC (a0 : Jh) (a1 : Jh) : Option Jd :=
 (cond (((ln a0 : Nat) : Int) != ((ln a1 : Nat) : Int))
 (some (false, ()))
 (ob (Qu ((a0, a1, 0, ()), ())) (se (fun y7 => (some (true, ()))) (fun z8 => (some (z8.1.1, ()))))))
def Nx (a0 : Jb) (a1 : Jb) : Option Jd :=
 (ob (XD a0.1 a1.1) fun r1 =>
 (cond r1.1
 (cond (((ln a0.2.1 : Nat) : Int) == ((ln a1.2.1 : Nat) : Int))
 (cond (a0.2.2.1 == a1.2.2.1)
 (cond (a0.2.2.2.2.1 == a1.2.2.2.2.1)
 (cond (a0.2.2.2.2.2.1 == a1.2.2.2.2.2.1)
 (ob (AC a0.2.2.2.1 a1.2.2.2.1) fun r2 =>
 (some (r2.1, ())))
 (some (false, ())))
 (some (false, ())))
 (some (false, ())))
 (some (false, ())))
 (some (false, ()))))
def Wo (t0 : Sg) (t1 : Sg) (t5 : Int) : Option (((Sg × ZI) × Unit) ⊕ Rz) :=
 (cond (decide (t5 < ((ln t0 : Nat) : Int)))
 (ob (Cc t0 t5) fun x5 =>
 (ob (Cc t1 t5) fun x6 =>
 (cond (!(Jl Nc x5 x6))
 (some (.inr (.inr ((false, ()), ()))))
 (some (.inl ((t0, t1, (wr .i64 (t5 + 1)), ()), ()))))))
 (some (.inr (.inl ((), ())))))
def Vq := Nb fun x : ((Sg × ZI) × Unit) => Wo x.1.1 x.1.2.1 x.1.2.2.1
def Ox (a0 : Sg) (a1 : Sg) : Option Jd :=
 (cond (((ln a0 : Nat) : Int) != ((ln a1 : Nat) : Int))
 (some (false, ()))
 (ob (Vq ((a0, a1, 0, ()), ())) (se (fun y7 => (some (true, ()))) (fun z8 => (some (z8.1.1, ()))))))
def No (a0 : Xa) (a1 : Xa) : Option Jd :=
 (ob (Nx a0.1 a1.1) fun r1 =>
 (cond r1.1
 (cond (Jl Td a0.2.1 a1.2.1)
 (ob (Ox a0.2.2.1 a1.2.2.1) fun r2 =>
 (cond r2.1
 (cond (a0.2.2.2.1 == a1.2.2.2.1)
 (cond (a0.2.2.2.2.1 == a1.2.2.2.2.1)
 (cond (a0.2.2.2.2.2.1 == a1.2.2.2.2.2.1)
 (some ((a0.2.2.2.2.2.2.1 == a1.2.2.2.2.2.2.1), ()))
 (some (false, ())))
 (some (false, ())))
 (some (false, ())))
 (some (false, ()))))
 (some (false, ())))
 (some (false, ()))))
def LI (a0 : Cf) : Option Jd :=
 (ob (CF a0) fun r1 =>
 (cond r1.1
 (some (true, ()))
 (ob (IA a0) fun r2 =>
 (ob (Lk r2.1 r2.2.1) fun r3 =>
 (ob (Eo r2.1.1 0 r2.2.1) fun r4 =>
 (ob (Ho r2.1.2.1 r4.1) fun r5 =>
 (ob (Nv r5.2.1) fun r6 =>
 (cond (!r3.2.2.1)
 (some (false, ()))
 (cond (!r4.2.1)
 (some (false, ()))
 (cond (!r5.2.2.1)
 (some (false, ()))
 (cond (!r6.2.1)
 (some (false, ()))
 (cond (((ln r5.2.1 : Nat) : Int) != ((ln r2.2.1 : Nat) : Int))
 (some (false, ()))
 (cond (((ln r2.2.1 : Nat) : Int) == 0)
 (some ((((ln r3.2.1 : Nat) : Int) == 0), ()))
 (ob (Gi r2.1.2.2.1 r6.1 (wr .i64 (((ln r2.2.1 : Nat) : Int) - 1))) fun r7 =>
 (ob (Em r2.1.2.2.2.1 r7.2.1 (wr .i64 (((ln r2.2.1 : Nat) : Int) - 1))) fun r8 =>
 (cond (!r7.2.2.1)
 (some (false, ()))
 (cond (!r8.2.2.1)
 (some (false, ()))
 (ob (Sv r3.2.1 r8.2.1) fun r9 =>
 (cond (!r9.1)
 (some (false, ()))
 (ob (No r8.1 r3.1.2.2.2.1) fun r10 =>
 (cond (!r10.1)
 (some (false, ()))
 (cond (Ei (ln r4.1) (wr .i64 (((ln r2.2.1 : Nat) : Int) - 1)))
 (ob r4.1[(tn (wr .i64 (((ln r2.2.1 : Nat) : Int) - 1)))]? fun x11 =>
 (cond (r3.1.2.2.2.2.1 != x11)
 (some (false, ()))
 (cond (r3.1.2.2.2.2.2.1 != ((ln r2.2.1 : Nat) : Int))
 (some (false, ()))
 (cond (((60 : Int) == 60) && (decide ((0 : Int) ≤ 60) && decide (60 ≤ ((Bb : Nat) : Int))))
 (ob (Lk r3.1 (List.replicate (tn 60) (0 : Int))) fun r12 =>
 (cond (bl (ln ([] : List Yc) + ln r3.2.1) Bb)
 (cond (bl (ln (ap [] r3.2.1) + ln r12.2.1) Bb)
 (cond (!r12.2.2.1)
 (some (false, ()))
 (cond (decide ((wr .i64 ((wr .i64 ((wr .i64 (((ln r12.1.2.2.2.1.2.2.1 : Nat) : Int) + ((ln r12.1.2.2.2.1.1.2.2.2.1 : Nat) : Int))) + ((ln r12.1.2.2.1.2.2.1 : Nat) : Int))) + ((ln r12.1.2.2.1.2.2.2.2.2.2.1 : Nat) : Int))) > 0))
 (some (false, ()))
 (cond (r12.1.2.2.1.2.2.2.2.2.1 != 0)
 (some (false, ()))
 (cond (r12.1.2.1.2.2.2.1 != 0)
 (some (false, ()))
 (cond (((ln (ap (ap [] r3.2.1) r12.2.1) : Nat) : Int) == 0)
 (some (true, ()))
 (cond (Ei (ln (ap (ap [] r3.2.1) r12.2.1)) (wr .i64 (((ln (ap (ap [] r3.2.1) r12.2.1) : Nat) : Int) - 1)))
 (ob (ap (ap [] r3.2.1) r12.2.1)[(tn (wr .i64 (((ln (ap (ap [] r3.2.1) r12.2.1) : Nat) : Int) - 1)))]? fun x13 =>
 (ob (Bi x13.2.1 (0, [], ())) fun r14 =>
 (some (r14.1, ()))))
 none))))))
 none)
 none))
 none))))
 none))))))))))))))))))))))
end

def Yb (k c m n : Int) : Prop :=
 ((k = 0 ∨ k = 1 ∨ k = 10) ∧ c = 0 ∧ m = 0 ∧ n = 0) ∨
 (k = 2 ∧ n = 0 ∧ (c = 0 ∨ 1 ≤ c ∧ c ≤ 56) ∧ (m = 0 ∨ 1 ≤ m ∧ m ≤ 15) ∧ (c ≠ 0 ∨ m ≠ 0)) ∨
 ((k = 3 ∨ k = 4) ∧ c = 0 ∧ m = 0 ∧ 1 ≤ n ∧ n ≤ 3) ∨
 ((k = 5 ∨ k = 9) ∧ c = 0 ∧ m = 0 ∧ 0 ≤ n ∧ n ≤ 3) ∨
 (k = 6 ∧ 1 ≤ c ∧ c ≤ 56 ∧ 1 ≤ m ∧ m ≤ 15 ∧ n = 0) ∨
 (k = 7 ∧ 1 ≤ c ∧ c ≤ 56 ∧ m = 0 ∧ 1 ≤ n ∧ n ≤ 3) ∨
 (k = 8 ∧ c = 0 ∧ 1 ≤ m ∧ m ≤ 15 ∧ n = 0)
noncomputable def Qc (a : Pa) : Bool := open Classical in decide (Yb a.1 a.2.1 a.2.2.1 a.2.2.2.1)
theorem Tb (a : Pa) : Qc a = true ↔ Yb a.1 a.2.1 a.2.2.1 a.2.2.2.1 := by simp [Qc]
theorem WM (c : Int) : Bw c = some (decide (1 ≤ c ∧ c ≤ 56), ()) := by
 simp only [Bw, Yi, Zi]
 apply Rc; simp only [Ld, decide_eq_true_eq, AO, BO, jq, and_false, false_and, or_false, false_or, and_true, true_and, not_true_eq_false, not_false_eq_true]; try omega
theorem XM (c : Int) : Sq c = some (decide (1 ≤ c ∧ c ≤ 15), ()) := by
 simp only [Sq, Yi, Zi]
 apply Rc; simp only [Ld, decide_eq_true_eq, AO, BO, jq, and_false, false_and, or_false, false_or, and_true, true_and, not_true_eq_false, not_false_eq_true]; try omega
theorem AL (c : Int) : Us c = some (decide (1 ≤ c ∧ c ≤ 3), ()) := by
 simp only [Us, Yi, Zi]
 apply Rc; simp only [Ld, decide_eq_true_eq, AO, BO, jq, and_false, false_and, or_false, false_or, and_true, true_and, not_true_eq_false, not_false_eq_true]; try omega
theorem Oe (c a b : Int) : Ic c a b = some (decide (a ≤ c ∧ c ≤ b), ()) := by
 simp only [Ic, Yi, Zi]
 apply Rc; simp only [Ld, decide_eq_true_eq, AO, BO, jq, and_false, false_and, or_false, false_or, and_true, true_and, not_true_eq_false, not_false_eq_true]; try omega
theorem Cu (a : Pa) : Mk a = some (Qc a, ()) := by
 obtain ⟨k, c, m, n, u⟩ := a
 have key : ∀ k c m n : Int, Mk (k, c, m, n, u) = some (Qc (k, c, m, n, u), ()) := by
  intro k c m n
  simp only [Mk, WM, XM, AL, Oe, jb, Yi, Zi]
  by_cases h0 : k = 0
  ·subst h0; apply Rc; rw [Tb]; simp [Yb, Ld]; try omega
  by_cases h1 : k = 1
  ·subst h1; apply Rc; rw [Tb]; simp [Yb, Ld]; try omega
  by_cases h2 : k = 2
  ·subst h2; apply Rc; rw [Tb]; simp [Yb, Ld]; intro hn; (repeat' split) <;> omega
  by_cases h3 : k = 3
  ·subst h3; apply Rc; rw [Tb]; simp [Yb, Ld]; try omega
  by_cases h4 : k = 4
  ·subst h4; apply Rc; rw [Tb]; simp [Yb, Ld]; try omega
  by_cases h5 : k = 5
  ·subst h5; apply Rc; rw [Tb]; simp [Yb, Ld]; try omega
  by_cases h6 : k = 6
  ·subst h6; apply Rc; rw [Tb]; simp [Yb, Ld]; try omega
  by_cases h7 : k = 7
  ·subst h7; apply Rc; rw [Tb]; simp [Yb, Ld]; try omega
  by_cases h8 : k = 8
  ·subst h8; apply Rc; rw [Tb]; simp [Yb, Ld]; try omega
  by_cases h9 : k = 9
  ·subst h9; apply Rc; rw [Tb]; simp [Yb, Ld]; try omega
  by_cases h10 : k = 10
  ·subst h10; apply Rc; rw [Tb]; simp [Yb, Ld]; try omega
  have g : ∀ j : Int, (k == j) = decide (k = j) := fun j => by rw [q7]; simp
  apply Rc; rw [Tb]; simp [Yb, Ld, h0, h1, h2, h3, h4, h5, h6, h7, h8, h9, h10]
 exact key k c m n
theorem Vu (a : Pa) : Qk a = some (Qc a, ()) := by
 obtain ⟨k, c, m, n, u⟩ := a
 have key : ∀ k c m n : Int, Qk (k, c, m, n, u) = some (Qc (k, c, m, n, u), ()) := by
  intro k c m n
  simp only [Qk, WM, XM, AL, Oe, jb, Yi, Zi]
  by_cases h0 : k = 0
  ·subst h0; apply Rc; rw [Tb]; simp [Yb, Ld]; try omega
  by_cases h1 : k = 1
  ·subst h1; apply Rc; rw [Tb]; simp [Yb, Ld]; try omega
  by_cases h2 : k = 2
  ·subst h2; apply Rc; rw [Tb]; simp [Yb, Ld]; intro hn; (repeat' split) <;> omega
  by_cases h3 : k = 3
  ·subst h3; apply Rc; rw [Tb]; simp [Yb, Ld]; try omega
  by_cases h4 : k = 4
  ·subst h4; apply Rc; rw [Tb]; simp [Yb, Ld]; try omega
  by_cases h5 : k = 5
  ·subst h5; apply Rc; rw [Tb]; simp [Yb, Ld]; try omega
  by_cases h6 : k = 6
  ·subst h6; apply Rc; rw [Tb]; simp [Yb, Ld]; try omega
  by_cases h7 : k = 7
  ·subst h7; apply Rc; rw [Tb]; simp [Yb, Ld]; try omega
  by_cases h8 : k = 8
  ·subst h8; apply Rc; rw [Tb]; simp [Yb, Ld]; try omega
  by_cases h9 : k = 9
  ·subst h9; apply Rc; rw [Tb]; simp [Yb, Ld]; try omega
  by_cases h10 : k = 10
  ·subst h10; apply Rc; rw [Tb]; simp [Yb, Ld]; try omega
  have g : ∀ j : Int, (k == j) = decide (k = j) := fun j => by rw [q7]; simp
  apply Rc; rw [Tb]; simp [Yb, Ld, h0, h1, h2, h3, h4, h5, h6, h7, h8, h9, h10]
 exact key k c m n
noncomputable def Lg (nl : Nat) (i : Nat) (a : Pa) : Bool := Qc a && !(((i : Int) == 0) && (a.1 == 1)) && !((a.1 != 9) && decide (a.2.2.2.1 ≥ (nl : Int)))
noncomputable def Ih (keys : Int) (nl : Nat) (i : Nat) (l : List Pa) : Bool := ((ja l : Int) == keys) && Ad (fun _ a => Lg nl i a) 0 l
noncomputable def Wd (m : Hb) : Bool :=
 decide (1 ≤ m.1 ∧ m.1 ≤ 32) && decide (1 ≤ m.2.1.length ∧ m.2.1.length ≤ 4) && Ad (fun i l => Ih m.1 m.2.1.length i l) 0 m.2.1
theorem KW (m : Hb) (i : Nat) (l : List Pa) (L : List (List Pa)) (n : Int) (t : Int) (hl : l.length < 9223372036854775807) :
 Kn (((), (i : Int), L, n, t, l, (l.length : Int), (0 : Int), ()), (m, ())) =
  some (cond (Ad (fun _ a => Lg m.2.1.length i a) 0 l) (.inl (((), L, n, t, ()), (m, ()))) (.inr ((false, ()), ()))) := by
 unfold Kn
 refine Le (step := _) l (fun _ a => Lg m.2.1.length i a) (fun j => (((), (i : Int), L, n, t, l, (l.length : Int), j, ()), (m, ()))) _ _ ?_ ?_ hl
 ·intro k hk
  simp only [PA]
  rw [Aa (show (k : Int) < (l.length : Int) by omega), Wb hk]
  simp only [cond_true, jb, Lg, Cu]
  cases Qc l[k] <;> cases ((i : Int) == 0) <;> cases (l[k].1 == 1) <;> cases (l[k].1 != 9) <;> cases decide (l[k].2.2.2.1 ≥ (m.2.1.length : Int)) <;> rfl
 ·simp [PA]
theorem NJ (m : Hb) (hz : Lc Ec m ≤ Ga) : Pv m = some (Wd m, ()) := by
 have h20 : Ga = 1048576 := rfl
 have hz' : m.2.1.length + (List.map (Lc (.sl Sc)) m.2.1).sum ≤ Ga := by
  have : Lc Ec m = Lc (.sl (.sl Sc)) m.2.1 := by simp only [Lc, Nat.add_zero, js]
  rw [this] at hz; exact hz
 have hl : ∀ k (hk : k < m.2.1.length), m.2.1[k].length ≤ Ga := by
  intro k hk
  have := LE (f := Lc (.sl Sc)) hk
  have h2 : m.2.1[k].length ≤ Lc (.sl Sc) m.2.1[k] := Nat.le_add_right _ _
  omega
 have hloop : Jn (((), m.2.1, ((ja m.2.1 : Nat) : Int), (0 : Int), ()), (m, ())) =
  some (cond (Ad (fun i l => Ih m.1 m.2.1.length i l) 0 m.2.1) (.inl ((), ())) (.inr ((false, ()), ()))) := by
  unfold Jn
  refine Le (step := _) m.2.1 (fun i l => Ih m.1 m.2.1.length i l) (fun j => (((), m.2.1, ((ja m.2.1 : Nat) : Int), j, ()), (m, ()))) _ _ ?_ ?_ (by omega)
  ·intro k hk
   have := hl k hk
   simp only [OA]
   rw [Aa (show (k : Int) < (m.2.1.length : Int) by omega), Wb hk]
   simp only [cond_true, jb, Ih]
   rw [KW m k _ _ _ _ (by omega)]
   show (cond (!((m.2.1[k].length : Int) == m.1)) _ _) = _
   cases ((m.2.1[k].length : Int) == m.1) <;> cases Ad (fun _ a => Lg m.2.1.length k a) 0 m.2.1[k] <;> rfl
  ·simp [OA]
 unfold Pv
 rw [hloop]
 simp only [jb, J3, Yi, Zi]
 apply Rc
 simp only [Ld, Wd, jd, decide_eq_true_eq, jq, and_false, false_or, and_true, or_false]
 generalize Ad (fun i l => Ih m.1 m.2.1.length i l) 0 m.2.1 = b
 constructor
 ·rintro ⟨h1, h2, h3, h4, h5⟩; exact ⟨⟨by omega, by omega⟩, h5⟩
 ·rintro ⟨⟨h1, h2⟩, h5⟩; exact ⟨by omega, by omega, by omega, by omega, h5⟩
theorem EX (m : Hb) (i : Nat) (hi : i < m.2.1.length) (hl : m.2.1[i].length < 9223372036854775807) :
 Sn (((), (i : Int), (0 : Int), ()), (m, ())) =
  some (cond (Ad (fun _ a => Lg m.2.1.length i a) 0 m.2.1[i]) (.inl (((), (i : Int), ()), (m, ()))) (.inr ((false, ()), ()))) := by
 unfold Sn
 refine Le (step := _) m.2.1[i] (fun _ a => Lg m.2.1.length i a) (fun j => (((), (i : Int), j, ()), (m, ()))) _ _ ?_ ?_ hl
 ·intro k hk
  simp only [YA]
  rw [Wb hi]
  simp only [jb]
  rw [Aa (show (k : Int) < (m.2.1[i].length : Int) by omega), Wb hk]
  simp only [cond_true, jb, Lg, Vu]
  cases Qc m.2.1[i][k] <;> cases ((i : Int) == 0) <;> cases (m.2.1[i][k].1 == 1) <;> cases (m.2.1[i][k].1 != 9) <;> cases decide (m.2.1[i][k].2.2.2.1 ≥ (m.2.1.length : Int)) <;> rfl
 ·simp [YA, Wb hi]
theorem FX (m : Hb) (hz : Lc Ec m ≤ Ga) : DC m = some (Wd m, ()) := by
 have h20 : Ga = 1048576 := rfl
 have hz' : m.2.1.length + (List.map (Lc (.sl Sc)) m.2.1).sum ≤ Ga := by
  have : Lc Ec m = Lc (.sl (.sl Sc)) m.2.1 := by simp only [Lc, Nat.add_zero, js]
  rw [this] at hz; exact hz
 have hl : ∀ k (hk : k < m.2.1.length), m.2.1[k].length ≤ Ga := by
  intro k hk
  have := LE (f := Lc (.sl Sc)) hk
  have h2 : m.2.1[k].length ≤ Lc (.sl Sc) m.2.1[k] := Nat.le_add_right _ _
  omega
 have hloop : Rn (((), (0 : Int), ()), (m, ())) =
  some (cond (Ad (fun i l => Ih m.1 m.2.1.length i l) 0 m.2.1) (.inl (((), ()), (m, ()))) (.inr ((false, ()), ()))) := by
  unfold Rn
  refine Le (step := _) m.2.1 (fun i l => Ih m.1 m.2.1.length i l) (fun j => (((), j, ()), (m, ()))) _ _ ?_ ?_ (by omega)
  ·intro k hk
   have := hl k hk
   simp only [XA]
   rw [Aa (show (k : Int) < (m.2.1.length : Int) by omega), Wb hk]
   simp only [cond_true, jb, Ih]
   rw [EX m k hk (by omega)]
   show (cond (!((m.2.1[k].length : Int) == m.1)) _ _) = _
   cases ((m.2.1[k].length : Int) == m.1) <;> cases Ad (fun _ a => Lg m.2.1.length k a) 0 m.2.1[k] <;> rfl
  ·simp [XA]
 unfold DC
 rw [hloop]
 simp only [jb, J3, Yi, Zi, Oe]
 apply Rc
 simp only [Ld, Wd, jd, decide_eq_true_eq, jq, and_false, false_or, and_true, or_false]
 generalize Ad (fun i l => Ih m.1 m.2.1.length i l) 0 m.2.1 = b
 constructor
 ·rintro ⟨h1, h2, h3⟩; exact ⟨⟨by omega, by omega⟩, h1⟩
 ·rintro ⟨⟨h1, h2⟩, h5⟩; exact ⟨h5, by omega, by omega⟩
theorem Qf {n : Nat} (h : n ≤ 62) : Ra .i64 1 (n : Int) = ((2 ^ n : Nat) : Int) := by
 unfold Ra
 have h1 : min (jy (n : Int)) (IntKind.bits .i64) = n := by
  show min (jy (n : Int)) 64 = n
  rw [jn]; omega
 rw [h1, Int.one_mul]
 have h2 : (2 : Int) ^ n = ((2 ^ n : Nat) : Int) := by simp
 have h3 : 2 ^ n ≤ 2 ^ 62 := qp (by omega) h
 rw [h2]
 clear h1 h2
 generalize 2 ^ n = z at h3
 rw [Xc (by omega) (by omega)]
structure XI (m : Hb) : Prop where
 k1 : 1 ≤ m.1
 k2 : m.1 ≤ 32
 l1 : 1 ≤ m.2.1.length
 l2 : m.2.1.length ≤ 4
 row : ∀ i (h : i < m.2.1.length), (m.2.1[i].length : Int) = m.1
 act : ∀ i (h : i < m.2.1.length) k (hk : k < m.2.1[i].length), Lg m.2.1.length i m.2.1[i][k] = true
theorem Nj {m : Hb} (h : Wd m = true) : XI m := by
 simp only [Wd, jd, decide_eq_true_eq] at h
 obtain ⟨⟨h1, h2⟩, h3⟩ := h
 rw [Kk] at h3
 refine ⟨h1.1, h1.2, h2.1, h2.2, fun i hi => ?_, fun i hi k hk => ?_⟩
 ·have := h3 i hi
  simp only [js, Ih, jd, beq_iff_eq] at this
  exact this.1
 ·have := h3 i hi
  simp only [js, Ih, jd, beq_iff_eq] at this
  have := Kk.1 this.2 k hk
  simpa using this
theorem CS {nl i : Nat} {a : Pa} (h : Lg nl i a = true) : Qc a = true := by
 simp only [Lg, jd] at h
 exact h.1.1
theorem UT {nl i : Nat} {a : Pa} (h : Lg nl i a = true) (hk : a.1 ≠ 9) : a.2.2.2.1 < (nl : Int) := by
 simp only [Lg, jd, Bool.not_eq_true', Bool.and_eq_false_iff] at h
 rcases h.2 with h | h
 ·simp at h; exact absurd h hk
 ·simpa using h
def Rd (m k : Int) : Int := Ya .i64 (Hc .i64 m k) 1
theorem Nl (m : Int) {k : Int} (h : 0 ≤ k) : He m k = some (Rd m k, ()) := by
 unfold He
 rw [Aa h]; rfl
def ZaS : Pa := (0, 0, 0, 0, ())
def Rj (L : List (List Pa)) (i k : Nat) : Pa := (L.getD i []).getD k ZaS
theorem KV {L : List (List Pa)} {i k : Nat} (hi : i < L.length) (hk : k < L[i].length) : Rj L i k = L[i][k] := by
 simp [Rj, qm, hi, hk]
theorem Haq {α : Type} {L : List (List Pa)} {i k : Nat} (hi : i < L.length) (hk : k < L[i].length) (K : Pa → Option α) :
 (jz (Cc L (i : Int)) fun x => jz (Cc x (k : Int)) K) = K (Rj L i k) := by
 rw [Wb hi]
 simp only [jb]
 rw [Wb hk, KV hi hk]
 rfl
def Aj (L : List (List Pa)) (on : Int) (k : Nat) : Nat → Nat
 | 0 => 0
 | n + 1 => cond ((Rd on ((n + 1 : Nat) : Int) == 1) && ((Rj L (n + 1) k).1 != 1)) (n + 1) (Aj L on k n)
theorem RR {L : List (List Pa)} {on : Int} {k : Nat} : ∀ n, Aj L on k n ≤ n
 | 0 => jo _
 | n + 1 => by
  simp only [Aj]
  cases ((Rd on ((n + 1 : Nat) : Int) == 1) && ((Rj L (n + 1) k).1 != 1)) with
  | true => exact jo _
  | false => exact Nat.le_succ_of_le (RR n)
theorem CL {m : Hb} (hm : XI m) (on : Int) {k : Nat} (hk : (k : Int) < m.1) : ∀ n : Nat, n < m.2.1.length →
 Cj ((on, (k : Int), (), (n : Int), ()), (m, ())) = some (cond (Aj m.2.1 on k n == 0) (.inl ((), ())) (.inr ((((Aj m.2.1 on k n : Nat) : Int), ()), ())))
 | 0, _ => by
  unfold Cj
  rw [BP]
  rfl
 | n + 1, h => by
  have hrow := hm.row (n + 1) h
  unfold Cj
  rw [BP]
  simp only [PJ]
  rw [Aa (show (((n + 1 : Nat) : Int)) > 0 by omega), Nl on (show (0 : Int) ≤ ((n + 1 : Nat) : Int) by omega)]
  simp only [cond_true, jb]
  rw [Haq h (by omega), Xc (by have := hm.l2; omega) (by have := hm.l2; omega), show (((n + 1 : Nat) : Int) - 1) = (n : Int) by omega]
  have ih := CL hm on hk n (by omega)
  unfold Cj at ih
  simp only [Aj]
  cases h1 : (Rd on ((n + 1 : Nat) : Int) == 1) with
  | false =>
   simp only [qs, cond_false, jb, qn]
   exact ih
  | true =>
   cases h2 : ((Rj m.2.1 (n + 1) k).1 != 1) with
   | true => rfl
   | false =>
    simp only [Bool.and_false, cond_true, cond_false, jb, qn]
    exact ih
theorem BL {m : Hb} (hm : XI m) (on : Int) {k : Nat} (hk : (k : Int) < m.1) :
 Oy m on (k : Int) = some (((Aj m.2.1 on k (m.2.1.length - 1) : Nat) : Int), ()) := by
 have h1 := hm.l1
 have h2 := hm.l2
 unfold Oy
 rw [Xc (by omega) (by omega), show ((m.2.1.length : Int) - 1) = ((m.2.1.length - 1 : Nat) : Int) by omega, CL hm on hk _ (by omega)]
 cases h : (Aj m.2.1 on k (m.2.1.length - 1) == 0) with
 | false => rfl
 | true =>
  have h' : Aj m.2.1 on k (m.2.1.length - 1) = 0 := by simpa using h
  rw [h']; rfl
def Ji (m : Hb) (on : Int) (k : Nat) : Nat := Aj m.2.1 on k (m.2.1.length - 1)
theorem TR {m : Hb} (hm : XI m) (on : Int) (k : Nat) : Ji m on k < m.2.1.length := by
 have := RR (L := m.2.1) (on := on) (k := k) (m.2.1.length - 1)
 have := hm.l1
 unfold Ji
 omega
noncomputable def Jf (a : Pa) : Bool := Qc a && ((a.1 == 6) || (a.1 == 7))
noncomputable def LN (a : Pa) : Pa := cond (Jf a) (2, a.2.1, 0, 0, ()) a
noncomputable def TM (a : Pa) : Pa := cond (Jf a) (cond (a.1 == 6) (2, 0, a.2.2.1, 0, ()) (3, 0, 0, a.2.2.2.1, ())) a
theorem RA (a : Pa) : Yn a = some (Jf a, ()) := by
 unfold Yn Jf
 rw [Cu]
 cases Qc a <;> cases (a.1 == 6) <;> rfl
theorem FU (a : Pa) : HA a = some (Jf a, ()) := by
 unfold HA Jf
 rw [Vu]
 cases Qc a <;> cases (a.1 == 6) <;> rfl
theorem E5 (a : Pa) : HI a = some (LN a, ()) := by
 unfold HI LN
 rw [RA]
 cases Jf a <;> rfl
def Cd {α : Type} (p : α → Bool) : Nat → List α → Int
 | _, [] => -1
 | k, x :: xs => cond (p x) (k : Int) (Cd p (k + 1) xs)
theorem Uy {X R : Type} {s : X → Option (X ⊕ R)} (I : Nat → X → Prop) (Q : R → Prop)
 (h : ∀ n x, I n x → (∃ r, s x = some (.inr r) ∧ Q r) ∨ (∃ y m, m < n ∧ s x = some (.inl y) ∧ I m y)) : ∀ n x, I n x → ∃ r, Nb s x = some r ∧ Q r := by
 intro n
 induction n using Nat.strongRecOn with
 | _ n ih =>
  intro x hi
  rcases h n x hi with ⟨r, h1, hq⟩ | ⟨y, m, hm, h1, hi'⟩
  ·exact ⟨r, by rw [Hh h1]; rfl, hq⟩
  ·obtain ⟨r, g1, hq⟩ := ih m hm y hi'
   exact ⟨r, by rw [Hh h1]; exact g1, hq⟩
def Ok {α β : Type} : α ⊕ β → Bool
 | .inl _ => true
 | .inr _ => false
noncomputable def CA (s : Int) (x : Va) : Bool := decide (0 ≤ x.1 ∧ x.1 ≤ 31) && (!(Rd s x.1 == 1) && (Qc x.2.1 && (!(x.2.1.1 == 1) && (!(x.2.1.1 == 6) && !(x.2.1.1 == 7)))))
noncomputable def Xw (s : Int) (x : Va) : Int ⊕ Unit := cond (CA s x) (.inl (Tc .i64 s (Ra .i64 1 x.1))) (.inr ())
noncomputable def K6 (l : List Va) : Int ⊕ Unit := Sa (fun _ s x => Xw s x) 0 0 l
noncomputable def Zf (l : List Va) : Bool := Ok (K6 l)
theorem Wz (l : List Va) (hn : l.length ≤ Ga) : Ml l = some (Zf l, ()) := by
 have h20 : Ga = 1048576 := rfl
 have hl := Ag (step := fun x => Zw x.1.1 x.1.2.1 x.1.2.2.1 x.1.2.2.2.1) l (fun _ s x => Xw s x) (fun s i => ((s, l, ((ja l : Nat) : Int), i, ()), ()))
  (fun _ => .inl ((), ())) (fun _ => .inr ((false, ()), ())) (fun _ _ => True) (by
   intro k hk s _
   refine ⟨?_, fun _ _ => trivial⟩
   simp only [Zw]
   rw [Aa (show (k : Int) < (ja l : Int) by omega), Wb hk]
   simp only [cond_true, jb]
   generalize l[k] = x
   simp only [Xw, CA, Cu, jb]
   by_cases h1 : 0 ≤ x.1
   ·rw [Ca (show ¬ x.1 < 0 by omega), Nl s h1]
    by_cases h2 : x.1 ≤ 31
    ·rw [Ca (show ¬ x.1 > 31 by omega), Aa (show 0 ≤ x.1 ∧ x.1 ≤ 31 from ⟨h1, h2⟩), Aa h1]
     simp only [jb, cond_false]
     cases Rd s x.1 == 1 <;> cases Qc x.2.1 <;> cases x.2.1.1 == 1 <;> cases x.2.1.1 == 6 <;> cases x.2.1.1 == 7 <;> rfl
    ·rw [Aa (show x.1 > 31 by omega), Ca (show ¬ (0 ≤ x.1 ∧ x.1 ≤ 31) by omega)]; rfl
   ·rw [Aa (show x.1 < 0 by omega), Ca (show ¬ (0 ≤ x.1 ∧ x.1 ≤ 31) by omega)]; rfl)
  (by
   intro s _
   simp only [Zw]
   rw [Ca (by omega)]; rfl) (by omega) 0 trivial
 unfold Ml Jy
 erw [hl]
 show jz (some _) _ = _
 simp only [jb, Zf, K6]
 cases Sa (fun x s x => Xw s x) 0 0 l <;> rfl
theorem J2 (l : List Va) (hn : l.length ≤ Ga) : HG l = some (Zf l, ()) := by
 have h20 : Ga = 1048576 := rfl
 have hl := Ag (step := fun x => Rx x.1.1 x.1.2.1 x.1.2.2.1) l (fun _ s x => Xw s x) (fun s i => ((l, s, i, ()), ()))
  (fun _ => .inl ((), ())) (fun _ => .inr ((false, ()), ())) (fun _ _ => True) (by
   intro k hk s _
   refine ⟨?_, fun _ _ => trivial⟩
   simp only [Rx]
   rw [Aa (show (k : Int) < (ja l : Int) by omega), Wb hk]
   simp only [cond_true, jb]
   generalize l[k] = x
   simp only [Xw, CA, Vu, FU, Oe, jb, Jf]
   by_cases h1 : 0 ≤ x.1 ∧ x.1 ≤ 31
   ·rw [Aa h1, Aa h1.1]
    simp only [Rd]
    cases Ya .i64 (Hc .i64 s x.1) 1 == 1 <;> cases Qc x.2.1 <;> cases x.2.1.1 == 1 <;> cases x.2.1.1 == 6 <;> cases x.2.1.1 == 7 <;> rfl
   ·rw [Ca h1]; rfl)
  (by
   intro s _
   simp only [Rx]
   rw [Ca (by omega)]; rfl) (by omega) 0 trivial
 unfold HG Bz
 erw [hl]
 show jz (some _) _ = _
 simp only [jb, Zf, K6]
 cases Sa (fun x s x => Xw s x) 0 0 l <;> rfl
structure Fv (x : Va) : Prop where
 lo : 0 ≤ x.1
 hi : x.1 ≤ 31
 act : Qc x.2.1 = true
 n1 : x.2.1.1 ≠ 1
 n6 : x.2.1.1 ≠ 6
 n7 : x.2.1.1 ≠ 7
theorem Qam {s : Int} {x : Va} (h : CA s x = true) : Fv x ∧ Rd s x.1 ≠ 1 := by
 simp only [CA, jd, decide_eq_true_eq, Bool.not_eq_true', beq_eq_false_iff_ne] at h
 exact ⟨⟨h.1.1, h.1.2, h.2.2.1, h.2.2.2.1, h.2.2.2.2.1, h.2.2.2.2.2⟩, h.2.1⟩
theorem K8 : ∀ {l : List Va} {k : Nat} {s : Int}, Ok (Sa (fun _ s x => Xw s x) k s l) = true → ∀ x ∈ l, Fv x
 | [], _, _, _, x, hx => by simp at hx
 | y :: l, k, s, h, x, hx => by
  simp only [Sa, Xw] at h
  cases hc : CA s y with
  | false => rw [hc] at h; simp [Ok] at h
  | true =>
   rw [hc] at h
   simp only [cond_true] at h
   rcases jp.1 hx with rfl | hx
   ·exact (Qam hc).1
   ·exact K8 h x hx
theorem Pt {l : List Va} (h : Zf l = true) : ∀ x ∈ l, Fv x := K8 h
def Yo (l : List Va) : Int := Dd (fun _ s (x : Va) => Tc .i64 s (Ra .i64 1 x.1)) 0 0 l
theorem SC (l : List Va) (hn : l.length ≤ Ga) (hx : ∀ x ∈ l, Fv x) : Mm l = some (Yo l, ()) := by
 have h20 : Ga = 1048576 := rfl
 have hl := (Qh (step := fun x => Ur x.1.1 x.1.2.1 x.1.2.2.1 x.1.2.2.2.1) l (fun _ s (x : Va) => Tc .i64 s (Ra .i64 1 x.1)) (fun s i => ((s, l, ((ja l : Nat) : Int), i, ()), ()))
  (fun s => .inl ((s, ()), ())) (fun _ _ => True) (by
   intro k hk s _
   refine ⟨?_, trivial⟩
   simp only [Ur]
   rw [Aa (show (k : Int) < (ja l : Int) by omega), Wb hk]
   simp only [cond_true, jb]
   rw [Aa (hx _ (qv hk)).lo]; rfl)
  (by
   intro s _
   simp only [Ur]
   rw [Ca (by omega)]; rfl) (by omega) 0 trivial).1
 unfold Mm Mu
 erw [hl]
 rfl
theorem TY {α β : Type} (p : β → Bool) (f : α → β) : ∀ (xs : List α) (k : Nat), Cd p k (xs.map f) = Cd (fun x => p (f x)) k xs
 | [], _ => rfl
 | x :: xs, k => by simp only [List.map_cons, Cd, TY p f xs]
theorem Dy {α : Type} (p : α → Bool) : ∀ (xs : List α) (k : Nat), Cd p k xs = -1 ∨ ∃ j : Nat, j < xs.length ∧ Cd p k xs = ((k + j : Nat) : Int)
 | [], _ => .inl rfl
 | x :: xs, k => by
  simp only [Cd]
  cases p x with
  | true => exact .inr ⟨0, by simp, by simp⟩
  | false =>
   rcases Dy p xs (k + 1) with h | ⟨j, h1, h2⟩
   ·exact .inl h
   ·exact .inr ⟨j + 1, by simp; omega, by simp only [cond_false]; rw [h2]; omega⟩
theorem HR {α : Type} (p : α → Bool) : ∀ (xs : List α) (k : Nat), (Sa (fun k (_ : Unit) x => cond (p x) (.inr (k : Int)) (.inl ())) k () xs : Unit ⊕ Int) = if Cd p k xs = -1 then .inl () else .inr (Cd p k xs)
 | [], _ => rfl
 | x :: xs, k => by
  rcases Bool.eq_false_or_eq_true (p x) with hp | hp
  ·simp only [Sa, Cd, hp, cond_true]; rw [if_neg (by omega)]
  ·simp only [Sa, Cd, hp, cond_false]; exact HR p xs (k + 1)
theorem EG {X R α : Type} {step : X → Option (X ⊕ R)} (xs : List α) (p : α → Bool) (I : Int → X) (no : R) (yes : Int → R)
 (h : ∀ k (hk : k < xs.length), step (I (k : Int)) = some (cond (p xs[k]) (.inr (yes (k : Int))) (.inl (I (j9 .i64 ((k : Int) + 1))))))
 (he : step (I (xs.length : Int)) = some (.inr no)) (hn : xs.length < 9223372036854775807) :
 Nb step (I 0) = some (if Cd p 0 xs = -1 then no else yes (Cd p 0 xs)) := by
 have := Ag (step := step) xs (fun k (_ : Unit) x => cond (p x) (.inr (k : Int)) (.inl ())) (fun _ i => I i) (fun _ => no) yes (fun _ _ => True) (fun k hk s _ => by
  refine ⟨?_, fun _ _ => trivial⟩
  rw [h k hk]
  cases p xs[k] <;> rfl) (fun _ _ => he) hn () trivial
 rw [this, HR]
 by_cases hc : Cd p 0 xs = -1
 ·rw [if_pos hc, if_pos hc]
 ·rw [if_neg hc, if_neg hc]
def Ge (h : Va) : Ja := (h.2.1.2.1, h.2.1.2.2.1, ())
def Oh (c m : Int) (h : Va) : Bool := (h.2.1.2.1 == c) && (h.2.1.2.2.1 == m)
theorem YM (l : List Ja) (c : Ja) (hn : l.length ≤ Ga) : KB l c = some (Cd (fun x => Jl Vc x c) 0 l, ()) := by
 have h20 : Ga = 1048576 := rfl
 have hl := EG (step := fun x => Lx x.1.1 x.1.2.1 x.1.2.2.1 x.1.2.2.2.1 x.2.1) l (fun x => Jl Vc x c) (fun i => (((), l, ((ja l : Nat) : Int), i, ()), (c, ())))
  (.inl ((), ())) (fun i => .inr ((i, ()), ())) (by
   intro k hk
   simp only [Lx]
   rw [Aa (show (k : Int) < (ja l : Int) by omega), Wb hk]
   simp only [cond_true, jb]
   cases Jl Vc l[k] c <;> rfl) (by
   simp only [Lx]
   rw [Ca (by omega)]; rfl) (by omega)
 unfold KB Py
 erw [hl]
 simp only [jb]
 by_cases hc : Cd (fun x => Jl Vc x c) 0 l = -1
 ·rw [if_pos hc, hc]; rfl
 ·rw [if_neg hc]; rfl
theorem T2 (l : List Va) (x : Xb) (hn : l.length ≤ Ga) : PG l x = some (Cd (Oh x.2.1 x.2.2.1) 0 l, ()) := by
 have h20 : Ga = 1048576 := rfl
 have hl := EG (step := fun y => Ux y.1.1 y.1.2.1 y.1.2.2.1 y.2.1) l (Oh x.2.1 x.2.2.1) (fun i => ((l, (), i, ()), (x, ())))
  (.inl ((), ())) (fun i => .inr ((i, ()), ())) (by
   intro k hk
   simp only [Ux]
   rw [Aa (show (k : Int) < (ja l : Int) by omega), Wb hk]
   simp only [cond_true, jb, Oh]
   cases l[k].2.1.2.1 == x.2.1 <;> cases l[k].2.1.2.2.1 == x.2.2.1 <;> rfl) (by
   simp only [Ux]
   rw [Ca (by omega)]; rfl) (by omega)
 unfold PG Nz
 erw [hl]
 simp only [jb]
 by_cases hc : Cd (Oh x.2.1 x.2.2.1) 0 l = -1
 ·rw [if_pos hc, hc]; rfl
 ·rw [if_neg hc]; rfl
theorem SZ (L : List Va) (c m : Int) : Cd (fun x => Jl Vc x (c, m, ())) 0 (L.map Ge) = Cd (Oh c m) 0 L := by
 rw [TY]
 congr 1
 funext h
 simp only [Ge, Jl, Oh, Bool.and_true]
def Ej {α : Type} (l : List α) (r : Nat) : List α := jf (Qb l 0 r) (Qb l (r + 1) l.length)
theorem Taa {α : Type} {l : List α} {r : Nat} (h : r < l.length) : (Ej l r).length = l.length - 1 := by
 simp [Ej, Qb]; omega
theorem DV {α β : Type} (f : α → β) (l : List α) (r : Nat) : Ej (l.map f) r = (Ej l r).map f := by
 simp [Ej, Qb, List.map_take, List.map_drop]
 rw [List.take_of_length_le (by simp)]
theorem AR {α : Type} {l : List α} {r : Nat} (h : r < l.length) : Af (ja l) 0 (r : Int) = true ∧ Af (ja l) ((r + 1 : Nat) : Int) ((ja l : Nat) : Int) = true := by
 simp only [Af, jd, decide_eq_true_eq]
 omega
theorem IU (l : List Va) {r : Nat} (h : r < l.length) (hn : l.length ≤ Ga) : Kt l (r : Int) = some (Ej l r, ()) := by
 have h20 : Ga = 1048576 := rfl
 have hc := AR h
 unfold Kt
 rw [Ig (by omega), hc.1, hc.2]
 have e1 : jx (ja ([] : List Va) + ja (Qb l (jy 0) (jy (r : Int)))) Bb = true := ji (by simp [Qb]; rw [Kg]; omega)
 have e2 : jx (ja (jf ([] : List Va) (Qb l (jy 0) (jy (r : Int)))) + ja (Qb l (jy ((r + 1 : Nat) : Int)) (jy ((ja l : Nat) : Int)))) Bb = true :=
  ji (by simp [Qb]; rw [Kg]; omega)
 rw [e1, e2]
 simp only [cond_true]
 rfl
noncomputable def Jk (x : Xb) (r : Int) : Bool := Qc (2, x.2.1, x.2.2.1, 0, ()) && (((x.1 == 0) && !decide (r ≥ 0)) || (((x.1 == 1) && !decide (r ≥ 0)) || ((x.1 == 2) && decide (r ≥ 0))))
def Gh (x : Xb) : Va := (0, (2, x.2.1, x.2.2.1, 0, ()), ())
def DF (x : Xb) (L : List Va) (r : Int) : List Va := cond (x.1 == 1) (jf L [Gh x]) (cond (x.1 == 2) (Ej L r.toNat) L)
noncomputable def Sk (L : List Va) (x : Xb) : List Va ⊕ Unit := cond (Jk x (Cd (Oh x.2.1 x.2.2.1) 0 L)) (.inl (DF x L (Cd (Oh x.2.1 x.2.2.1) 0 L))) (.inr ())
theorem W1 {L L' : List Va} {x : Xb} (h : Sk L x = .inl L') : L'.length ≤ L.length + 1 := by
 unfold Sk at h
 cases hc : Jk x (Cd (Oh x.2.1 x.2.2.1) 0 L) with
 | false => rw [hc] at h; simp at h
 | true =>
  rw [hc] at h
  simp only [cond_true, Sum.inl.injEq] at h
  rw [← h]
  unfold DF
  cases x.1 == 1 with
  | true => simp
  | false =>
   cases x.1 == 2 with
   | true => simp [Ej, Qb]; omega
   | false => simp
theorem P5 (l : List Xb) (k : Nat) (hk : k < l.length) (L : List Va) (hL : L.length ≤ k) (hn : l.length ≤ Ga) :
 Po l L (k : Int) = some (match Sk L l[k] with | .inl L' => .inl ((l, L', j9 .i64 ((k : Int) + 1), ()), ()) | .inr _ => .inr (.inr ((false, ()), ()))) := by
 have h20 : Ga = 1048576 := rfl
 simp only [Po]
 rw [Aa (show (k : Int) < (ja l : Int) by omega), Wb hk]
 simp only [cond_true, jb]
 rw [T2 L l[k] (by omega)]
 simp only [jb, Oe, FC, Vu, Sk, Jk, DF, Gh]
 generalize hx : l[k] = x
 generalize hr : Cd (Oh x.2.1 x.2.2.1) 0 L = r
 have hble : jx (ja L + ja [Gh x]) Bb = true := ji (by simp [Kg]; omega)
 have hble' : jx (ja L + ja ([((0 : Int), ((2 : Int), x.2.1, x.2.2.1, (0 : Int), ()), ())] : List Va)) Bb = true := hble
 have hw : decide (r ≥ 0) = true → Kt L r = some (Ej L r.toNat, ()) := by
  intro h
  rcases Dy (Oh x.2.1 x.2.2.1) L 0 with h1 | ⟨j, h1, h2⟩
  ·rw [hr] at h1; rw [h1] at h; simp at h
  ·rw [hr] at h2
   have : r = (j : Int) := by omega
   rw [this, IU L h1 (by omega)]
   simp
 by_cases k0 : x.1 = 0
 ·simp only [k0]
  cases Qc ((2 : Int), x.2.1, x.2.2.1, (0 : Int), ()) <;> cases decide (r ≥ 0) <;> rfl
 by_cases k1 : x.1 = 1
 ·simp only [k1]
  rw [hble']
  cases Qc ((2 : Int), x.2.1, x.2.2.1, (0 : Int), ()) <;> cases decide (r ≥ 0) <;> rfl
 by_cases k2 : x.1 = 2
 ·simp only [k2]
  cases hd : decide (r ≥ 0) with
  | false => cases Qc ((2 : Int), x.2.1, x.2.2.1, (0 : Int), ()) <;> rfl
  | true =>
   rw [hw hd]
   cases Qc ((2 : Int), x.2.1, x.2.2.1, (0 : Int), ()) <;> rfl
 ·have e0 : (x.1 == 0) = false := by simpa using k0
  have e1 : (x.1 == 1) = false := by simpa using k1
  have e2 : (x.1 == 2) = false := by simpa using k2
  rw [Ca (show ¬ (0 ≤ x.1 ∧ x.1 ≤ 2) by omega), e0, e1, e2]
  cases Qc ((2 : Int), x.2.1, x.2.2.1, (0 : Int), ()) <;> rfl
theorem H5 (l : List Xb) (k : Nat) (hk : k < l.length) (L : List Va) (hL : L.length ≤ k) (hn : l.length ≤ Ga) :
 Jo (L.map Ge) l ((ja l : Nat) : Int) (k : Int) =
  some (match Sk L l[k] with | .inl L' => .inl ((L'.map Ge, l, ((ja l : Nat) : Int), j9 .i64 ((k : Int) + 1), ()), ()) | .inr _ => .inr (.inr ((false, ()), ()))) := by
 have h20 : Ga = 1048576 := rfl
 simp only [Jo]
 rw [Aa (show (k : Int) < (ja l : Int) by omega), Wb hk]
 simp only [cond_true, jb]
 rw [YM (L.map Ge) _ (by simp; omega), SZ]
 simp only [jb, Cu, Sk, Jk, DF, Gh]
 generalize hx : l[k] = x
 generalize hr : Cd (Oh x.2.1 x.2.2.1) 0 L = r
 have hble : jx (ja (L.map Ge) + ja ([(x.2.1, x.2.2.1, ())] : List Ja)) Bb = true := ji (by simp [Kg]; omega)
 have happ : jf (L.map Ge) ([(x.2.1, x.2.2.1, ())] : List Ja) = (jf L [((0 : Int), ((2 : Int), x.2.1, x.2.2.1, (0 : Int), ()), ())]).map Ge := by
  show _ ++ _ = List.map Ge (_ ++ _)
  rw [List.map_append]; rfl
 by_cases k0 : x.1 = 0
 ·simp only [k0]
  cases Qc ((2 : Int), x.2.1, x.2.2.1, (0 : Int), ()) <;> cases decide (r ≥ 0) <;> rfl
 by_cases k1 : x.1 = 1
 ·simp only [k1]
  rw [hble, happ]
  cases Qc ((2 : Int), x.2.1, x.2.2.1, (0 : Int), ()) <;> cases decide (r ≥ 0) <;> rfl
 by_cases k2 : x.1 = 2
 ·simp only [k2]
  rcases Dy (Oh x.2.1 x.2.2.1) L 0 with h1 | ⟨j, h1, h2⟩
  ·rw [hr] at h1
   rw [h1]
   cases Qc ((2 : Int), x.2.1, x.2.2.1, (0 : Int), ()) <;> rfl
  ·rw [hr] at h2
   have hrj : r = (j : Int) := by omega
   rw [hrj]
   have hj : j < (L.map Ge).length := by simpa using h1
   have hc := AR hj
   rw [Ig (k := j) (by omega), hc.1, hc.2, Ca (show ¬ (j : Int) < 0 by omega), Aa (show (j : Int) ≥ 0 by omega)]
   have e1 : jx (ja (Qb (L.map Ge) (jy 0) (jy (j : Int))) + ja (Qb (L.map Ge) (jy ((j + 1 : Nat) : Int)) (jy ((ja (L.map Ge) : Nat) : Int)))) Bb = true :=
    ji (by simp [Qb]; rw [Kg]; omega)
   have e2 : jf (Qb (L.map Ge) (jy 0) (jy (j : Int))) (Qb (L.map Ge) (jy ((j + 1 : Nat) : Int)) (jy ((ja (L.map Ge) : Nat) : Int))) = (Ej L (jy (j : Int))).map Ge := by
    rw [← DV]
    simp [Ej]
   rw [e1, e2]
   cases Qc ((2 : Int), x.2.1, x.2.2.1, (0 : Int), ()) <;> rfl
 ·have e0 : (x.1 == 0) = false := by simpa using k0
  have e1 : (x.1 == 1) = false := by simpa using k1
  have e2 : (x.1 == 2) = false := by simpa using k2
  rw [e0, e1, e2]
  cases Qc ((2 : Int), x.2.1, x.2.2.1, (0 : Int), ()) <;> rfl
noncomputable def CP (l : List Xb) : List Va ⊕ Unit := Sa (fun _ L x => Sk L x) 0 [] l
noncomputable def Vd (l : List Xb) : Bool := decide (l.length ≤ 8) && (match CP l with | .inl L => ((L.length : Int) == 0) | .inr _ => false)
theorem E0 (l : List Xb) (hn : l.length ≤ Ga) : DE l = some (Vd l, ()) := by
 have h20 : Ga = 1048576 := rfl
 have hl := Ag (step := fun x => Po x.1.1 x.1.2.1 x.1.2.2.1) l (fun _ L x => Sk L x) (fun L i => ((l, L, i, ()), ()))
  (fun L => .inl ((l, L, ()), ())) (fun _ => .inr ((false, ()), ())) (fun k L => L.length ≤ k) (by
   intro k hk L hL
   refine ⟨?_, fun L' h => by have := W1 h; omega⟩
   rw [P5 l k hk L hL hn]
   cases Sk L l[k] <;> rfl) (by
   intro s _
   simp only [Po]
   rw [Ca (by omega)]; rfl) (by omega) [] (by simp)
 unfold DE Qw
 erw [hl]
 simp only [jb, Vd, CP]
 cases Sa (fun x L x => Sk L x) 0 [] l with
 | inl L =>
  simp only [qn]
  by_cases h : l.length ≤ 8
  ·rw [Aa (show ((ja l : Nat) : Int) ≤ 8 by omega), Aa h]; rfl
  ·rw [Ca (show ¬ ((ja l : Nat) : Int) ≤ 8 by omega), Ca h]; rfl
 | inr u => cases decide (l.length ≤ 8) <;> rfl
theorem WK (l : List Xb) (hn : l.length ≤ Ga) : Ky l = some (Vd l, ()) := by
 have h20 : Ga = 1048576 := rfl
 unfold Ky Vd
 by_cases h : l.length ≤ 8
 ·rw [Ca (show ¬ ((ja l : Nat) : Int) > 8 by omega), Aa h]
  have hl := Ag (step := fun x => Jo x.1.1 x.1.2.1 x.1.2.2.1 x.1.2.2.2.1) l (fun _ L x => Sk L x) (fun L i => ((L.map Ge, l, ((ja l : Nat) : Int), i, ()), ()))
   (fun L => .inl ((L.map Ge, ()), ())) (fun _ => .inr ((false, ()), ())) (fun k L => L.length ≤ k) (by
    intro k hk L hL
    refine ⟨?_, fun L' h => by have := W1 h; omega⟩
    rw [H5 l k hk L hL hn]
    cases Sk L l[k] <;> rfl) (by
    intro s _
    simp only [Jo]
    rw [Ca (by omega)]; rfl) (by omega) [] (by simp)
  unfold Lw
  erw [hl]
  simp only [CP]
  cases Sa (fun x L x => Sk L x) 0 [] l with
  | inl L =>
   show some _ = some _
   simp only [List.length_map]
   rfl
  | inr u => rfl
 ·rw [Aa (show ((ja l : Nat) : Int) > 8 by omega), Ca h]; rfl
noncomputable def Bl (keys : Int) (nl : Nat) (x : Va) : Bool := !decide (x.1 ≥ keys) && !((x.2.1.1 != 9) && decide (x.2.1.2.2.2.1 ≥ (nl : Int)))
noncomputable def Mj (e : Jb) : Bool :=
 Wd e.1 && (decide (e.2.1.length ≤ 4) && (Zf e.2.2.2.1 && (Ad (fun _ m => Vd m) 0 e.2.1 && (Ad (fun _ x => Bl e.1.1 e.1.2.1.length x) 0 e.2.2.2.1 &&
  (decide (0 ≤ e.2.2.1 ∧ e.2.2.1 < ((2 ^ e.1.2.1.length : Nat) : Int)) && ((Int.tmod e.2.2.1 2 == 0) && decide (0 ≤ e.2.2.2.2.1 ∧ e.2.2.2.2.1 ≤ 15)))))))
theorem Um (e : Jb) : Lc Pc e = Lc Ec e.1 + (Lc (.sl (.sl Td)) e.2.1 + Lc (.sl Ev) e.2.2.2.1) := by
 simp only [Lc, Nat.add_zero, js]
theorem Im (l : List Va) : Lc (.sl Ev) l = l.length := Cr (e := Ev) rfl l
theorem W2 (l : List Xb) : Lc (.sl Td) l = l.length := Cr (e := Td) rfl l
theorem Iae {e : Ty} (l : List (T e)) : ja l ≤ Lc (.sl e) l := Nat.le_add_right _ _
theorem Pan {e : Ty} {l : List (T e)} {k : Nat} (hk : k < ja l) : Lc e (List.get l ⟨k, hk⟩) ≤ Lc (.sl e) l :=
 qf (LE (f := Lc e) hk) (Nat.le_add_left _ _)
theorem CZ (e : Jb) (hz : Lc Pc e ≤ Ga) : Hn (((), e.2.1, ((ja e.2.1 : Nat) : Int), (0 : Int), ()), (e, ())) =
 some (cond (Ad (fun _ m => Vd m) 0 e.2.1) (.inl (((), ()), (e, ()))) (.inr ((false, ()), ()))) := by
 have h20 : Ga = 1048576 := rfl
 rw [Um] at hz
 have hl := Iae (e := .sl Td) e.2.1
 unfold Hn
 refine Le (step := fun x => Qr x.1.1 x.1.2.1 x.1.2.2.1 x.1.2.2.2.1 x.2.1) e.2.1 (fun _ m => Vd m) (fun i => (((), e.2.1, ((ja e.2.1 : Nat) : Int), i, ()), (e, ()))) _ _ ?_ ?_ (by omega)
 ·intro k hk
  simp only [Qr]
  have hk2 : (k : Int) < ((ja e.2.1 : Nat) : Int) := by omega
  rw [Aa hk2, Wb hk]
  simp only [cond_true, jb]
  have he := Pan (e := .sl Td) hk
  rw [W2] at he
  rw [WK e.2.1[k] (by have : (List.get e.2.1 ⟨k, hk⟩) = e.2.1[k] := rfl; rw [this] at he; omega)]
  simp only [jb]
  cases Vd e.2.1[k] <;> rfl
 ·simp only [Qr]
  rw [Ca (by omega)]; rfl
theorem G0 (e : Jb) (hz : Lc Pc e ≤ Ga) : Pn (((), (0 : Int), ()), (e, ())) =
 some (cond (Ad (fun _ m => Vd m) 0 e.2.1) (.inl (((), ()), (e, ()))) (.inr ((false, ()), ()))) := by
 have h20 : Ga = 1048576 := rfl
 rw [Um] at hz
 have hl := Iae (e := .sl Td) e.2.1
 unfold Pn
 refine Le (step := fun x => Bs x.1.1 x.1.2.1 x.2.1) e.2.1 (fun _ m => Vd m) (fun i => (((), i, ()), (e, ()))) _ _ ?_ ?_ (by omega)
 ·intro k hk
  simp only [Bs]
  have hk2 : (k : Int) < ((ja e.2.1 : Nat) : Int) := by omega
  rw [Aa hk2, Wb hk]
  simp only [cond_true, jb]
  have he := Pan (e := .sl Td) hk
  rw [W2] at he
  rw [E0 e.2.1[k] (by have : (List.get e.2.1 ⟨k, hk⟩) = e.2.1[k] := rfl; rw [this] at he; omega)]
  simp only [jb]
  cases Vd e.2.1[k] <;> rfl
 ·simp only [Bs]
  rw [Ca (by omega)]; rfl
theorem F5 (e : Jb) (hz : Lc Pc e ≤ Ga) : Cm (((), ((ja e.1.2.1 : Nat) : Int), e.2.2.2.1, ((ja e.2.2.2.1 : Nat) : Int), (0 : Int), ()), (e, ())) =
 some (cond (Ad (fun _ x => Bl e.1.1 e.1.2.1.length x) 0 e.2.2.2.1) (.inl (((), ((ja e.1.2.1 : Nat) : Int), ()), (e, ()))) (.inr ((false, ()), ()))) := by
 have h20 : Ga = 1048576 := rfl
 rw [Um, Im] at hz
 unfold Cm
 refine Le (step := fun x => Aq x.1.1 x.1.2.1 x.1.2.2.1 x.1.2.2.2.1 x.1.2.2.2.2.1 x.2.1) e.2.2.2.1 (fun _ x => Bl e.1.1 e.1.2.1.length x)
  (fun i => (((), ((ja e.1.2.1 : Nat) : Int), e.2.2.2.1, ((ja e.2.2.2.1 : Nat) : Int), i, ()), (e, ()))) _ _ ?_ ?_ (by omega)
 ·intro k hk
  simp only [Aq]
  have hk2 : (k : Int) < ((ja e.2.2.2.1 : Nat) : Int) := by omega
  rw [Aa hk2, Wb hk]
  simp only [cond_true, jb, Bl]
  cases decide (e.2.2.2.1[k].1 ≥ e.1.1) <;> cases (e.2.2.2.1[k].2.1.1 != 9) <;> cases decide (e.2.2.2.1[k].2.1.2.2.2.1 ≥ ((ja e.1.2.1 : Nat) : Int)) <;> rfl
 ·simp only [Aq]
  rw [Ca (by omega)]; rfl
theorem O5 (e : Jb) (hz : Lc Pc e ≤ Ga) : Qn (((), (0 : Int), ()), (e, ())) =
 some (cond (Ad (fun _ x => Bl e.1.1 e.1.2.1.length x) 0 e.2.2.2.1) (.inl (((), ()), (e, ()))) (.inr ((false, ()), ()))) := by
 have h20 : Ga = 1048576 := rfl
 rw [Um, Im] at hz
 unfold Qn
 refine Le (step := fun x => Cs x.1.1 x.1.2.1 x.2.1) e.2.2.2.1 (fun _ x => Bl e.1.1 e.1.2.1.length x) (fun i => (((), i, ()), (e, ()))) _ _ ?_ ?_ (by omega)
 ·intro k hk
  simp only [Cs]
  have hk2 : (k : Int) < ((ja e.2.2.2.1 : Nat) : Int) := by omega
  rw [Aa hk2, Wb hk]
  simp only [cond_true, jb, Bl]
  cases decide (e.2.2.2.1[k].1 ≥ e.1.1) <;> cases (e.2.2.2.1[k].2.1.1 != 9) <;> cases decide (e.2.2.2.1[k].2.1.2.2.2.1 ≥ ((ja e.1.2.1 : Nat) : Int)) <;> rfl
 ·simp only [Cs]
  rw [Ca (by omega)]; rfl
theorem JW (e : Jb) (hz : Lc Pc e ≤ Ga) : WB e = some (Mj e, ()) := by
 have h20 : Ga = 1048576 := rfl
 have hz' := hz
 rw [Um, Im] at hz'
 unfold WB Mj
 rw [NJ e.1 (by omega)]
 cases hk : Wd e.1 with
 | false => rfl
 | true =>
  simp only [jb, jg, cond_false, jk]
  by_cases h4 : e.2.1.length ≤ 4
  ·rw [Ca (show ¬ ((ja e.2.1 : Nat) : Int) > 4 by omega), Aa h4, Wz _ (by omega)]
   simp only [jb, cond_false, jk]
   cases hh : Zf e.2.2.2.1 with
   | false => rfl
   | true =>
    simp only [jg, cond_false, jk]
    rw [CZ e hz]
    have hl := (Nj hk).l2
    by_cases ho : 0 ≤ e.2.2.2.2.1 ∧ e.2.2.2.2.1 ≤ 15
    ·rw [Ca (show ¬ e.2.2.2.2.1 < 0 by omega), Ca (show ¬ e.2.2.2.2.1 > 15 by omega), Aa ho]
     simp only [cond_false, jb, Bool.and_true]
     cases Ad (fun _ m => Vd m) 0 e.2.1 with
     | false => rfl
     | true =>
      simp only [cond_true, qn, jk]
      rw [F5 e hz]
      cases Ad (fun _ x => Bl e.1.1 e.1.2.1.length x) 0 e.2.2.2.1 with
      | false => rfl
      | true =>
       simp only [cond_true, jb, qn, jk]
       rw [Qf (by omega), Aa (show (0 : Int) ≤ ((ja e.1.2.1 : Nat) : Int) by omega)]
       have e2 : ((2 : Int) == 0) = false := rfl
       rw [e2]
       simp only [cond_false, cond_true]
       by_cases hf : 0 ≤ e.2.2.1
       ·rw [Aa (show e.2.2.1 ≥ 0 from hf)]
        by_cases hf2 : e.2.2.1 < ((2 ^ e.1.2.1.length : Nat) : Int)
        ·rw [Aa hf2, Aa (show 0 ≤ e.2.2.1 ∧ e.2.2.1 < ((2 ^ e.1.2.1.length : Nat) : Int) from ⟨hf, hf2⟩)]
         cases Int.tmod e.2.2.1 2 == 0 <;> rfl
        ·rw [Ca hf2, Ca (show ¬ (0 ≤ e.2.2.1 ∧ e.2.2.1 < ((2 ^ e.1.2.1.length : Nat) : Int)) from fun h => hf2 h.2)]
         cases Int.tmod e.2.2.1 2 == 0 <;> rfl
       ·rw [Ca (show ¬ e.2.2.1 ≥ 0 from hf), Ca (show ¬ (0 ≤ e.2.2.1 ∧ e.2.2.1 < ((2 ^ e.1.2.1.length : Nat) : Int)) from fun h => hf h.1)]
        rfl
    ·have hr : (Ad (fun _ m => Vd m) 0 e.2.1 && (Ad (fun _ x => Bl e.1.1 e.1.2.1.length x) 0 e.2.2.2.1 && (decide (0 ≤ e.2.2.1 ∧ e.2.2.1 < ((2 ^ e.1.2.1.length : Nat) : Int)) && ((Int.tmod e.2.2.1 2 == 0) && decide (0 ≤ e.2.2.2.2.1 ∧ e.2.2.2.2.1 ≤ 15))))) = false := by
      rw [Ca ho]; simp
     rw [hr]
     by_cases h1 : e.2.2.2.2.1 < 0
     ·rw [Aa h1]; rfl
     ·rw [Ca h1, Aa (show e.2.2.2.2.1 > 15 by omega)]; rfl
  ·rw [Aa (show ((ja e.2.1 : Nat) : Int) > 4 by omega), Ca h4]; rfl
theorem AK (e : Jb) (hz : Lc Pc e ≤ Ga) : Uv e = some (Mj e, ()) := by
 have h20 : Ga = 1048576 := rfl
 have hz' := hz
 rw [Um, Im] at hz'
 unfold Uv Mj
 rw [FX e.1 (by omega)]
 cases hk : Wd e.1 with
 | false => rfl
 | true =>
  simp only [jb, jg, cond_false, jk]
  by_cases h4 : e.2.1.length ≤ 4
  ·rw [Ca (show ¬ ((ja e.2.1 : Nat) : Int) > 4 by omega), Aa h4, J2 _ (by omega)]
   simp only [jb, cond_false, jk]
   cases hh : Zf e.2.2.2.1 with
   | false => rfl
   | true =>
    simp only [jg, cond_false, jk]
    rw [G0 e hz]
    have hl := (Nj hk).l2
    cases Ad (fun _ m => Vd m) 0 e.2.1 with
    | false => rfl
    | true =>
     simp only [cond_true, jb, qn, jk]
     rw [O5 e hz]
     cases Ad (fun _ x => Bl e.1.1 e.1.2.1.length x) 0 e.2.2.2.1 with
     | false => rfl
     | true =>
      simp only [cond_true, jb, qn, jk, Oe]
      have hp : (2 ^ e.1.2.1.length : Nat) ≤ 16 := qp (n := 2) (by omega) hl
      rw [Qf (by omega), Aa (show (0 : Int) ≤ ((ja e.1.2.1 : Nat) : Int) by omega)]
      generalize (2 ^ e.1.2.1.length : Nat) = P2 at hp ⊢
      rw [Xc (by omega) (by omega)]
      have e2 : ((2 : Int) == 0) = false := rfl
      rw [e2]
      simp only [cond_false, cond_true, jb]
      have e3 : decide (0 ≤ e.2.2.1 ∧ e.2.2.1 ≤ (P2 : Int) - 1) = decide (0 ≤ e.2.2.1 ∧ e.2.2.1 < (P2 : Int)) := by
       rw [decide_eq_decide]; omega
      rw [e3]
      cases decide (0 ≤ e.2.2.1 ∧ e.2.2.1 < (P2 : Int)) <;> cases Int.tmod e.2.2.1 2 == 0 <;> rfl
  ·rw [Aa (show ((ja e.2.1 : Nat) : Int) > 4 by omega), Ca h4]; rfl
def Uf (x : Ba) : Bool := decide (0 ≤ x.1 ∧ x.1 ≤ 1000000) && decide (0 ≤ x.2.1 ∧ x.2.1 ≤ 31)
theorem UD (x : Ba) : Ss x = some (Uf x, ()) := by
 unfold Ss Uf
 simp only [Yi, Zi]
 apply Rc
 simp only [Ld, decide_eq_true_eq, jq, and_false, or_false, jd]
 omega
theorem C0 (x : Ba) : CE x = some (Uf x, ()) := by
 unfold CE Uf
 simp only [Oe, jb, Yi, Zi]
 apply Rc
 simp only [Ld, decide_eq_true_eq, jq, and_false, or_false, jd]
def Gj (s : Int × Int) (x : Ba) : Bool := Uf x && (!decide (s.1 > x.1) && !(x.2.2.1 == (Rd s.2 x.2.1 == 1)))
def Oq (s : Int × Int) (x : Ba) : (Int × Int) ⊕ Unit := cond (Gj s x) (.inl (x.1, Kf .i64 s.2 (Ra .i64 1 x.2.1))) (.inr ())
def G8 (l : List Ba) (d : Int) : (Int × Int) ⊕ Unit := Sa (fun _ s x => Oq s x) 0 (0, d) l
def ED (l : List Ba) (d : Int) : Int × Bool := cond (decide (l.length ≤ 64)) (match G8 l d with | .inl s => (s.2, true) | .inr _ => (0, false)) (0, false)
theorem Ul {x : Ba} (h : Uf x = true) : 0 ≤ x.1 ∧ x.1 ≤ 1000000 ∧ 0 ≤ x.2.1 ∧ x.2.1 ≤ 31 := by
 simp only [Uf, jd, decide_eq_true_eq] at h
 omega
theorem Q1 (l : List Ba) (d : Int) (hn : l.length ≤ Ga) : BG l d = some ((ED l d).1, (ED l d).2, ()) := by
 have h20 : Ga = 1048576 := rfl
 unfold BG ED
 by_cases h64 : l.length ≤ 64
 ·rw [Ca (show ¬ ((ja l : Nat) : Int) > 64 by omega), Aa h64]
  have hl := Ag (step := fun x => Jx x.1.1 x.1.2.1 x.1.2.2.1 x.1.2.2.2.1 x.1.2.2.2.2.1) l (fun _ s x => Oq s x) (fun s i => ((l, s.2, l, ((ja l : Nat) : Int), i, ()), ()))
   (fun s => .inl ((s.2, ()), ())) (fun _ => .inr (((0 : Int), false, ()), ())) (fun k s => (k = 0 → s.1 = 0) ∧ ∀ hk : k - 1 < l.length, 0 < k → s.1 = l[k - 1].1) (by
    intro k hk s ⟨hs0, hs1⟩
    refine ⟨?_, ?_⟩
    ·simp only [Jx]
     rw [Aa (show (k : Int) < ((ja l : Nat) : Int) by omega), Wb hk]
     simp only [cond_true, jb, UD, Oq, Gj]
     generalize hx : l[k] = x
     cases hev : Uf x with
     | false => rfl
     | true =>
      have hkey := Ul hev
      simp only [jg, cond_false, jk]
      rw [Nl s.2 hkey.2.2.1, Aa hkey.2.2.1]
      simp only [jb, cond_true]
      by_cases h0 : k = 0
      ·subst h0
       rw [Ca (show ¬ ((0 : Nat) : Int) > 0 by omega), Ca (show ¬ s.1 > x.1 by rw [hs0 rfl]; omega)]
       cases (x.2.2.1 == (Rd s.2 x.2.1 == 1)) <;> rfl
      ·rw [Aa (show (k : Int) > 0 by omega), Xc (by omega) (by omega), show (k : Int) - 1 = ((k - 1 : Nat) : Int) by omega, Wb (show k - 1 < l.length by omega)]
       rw [hs1 (by omega) (by omega)]
       simp only [jb, cond_true]
       cases decide (l[k - 1].1 > x.1) <;> cases (x.2.2.1 == (Rd s.2 x.2.1 == 1)) <;> rfl
    ·intro s' h
     unfold Oq at h
     cases hc : Gj s l[k] with
     | false => rw [hc] at h; simp at h
     | true =>
      rw [hc] at h
      simp only [cond_true, Sum.inl.injEq] at h
      refine ⟨by omega, fun _ _ => ?_⟩
      rw [← h]
      simp only [Nat.add_sub_cancel])
   (by
    intro s _
    simp only [Jx]
    rw [Ca (by omega)]; rfl) (by omega) (0, d) ⟨fun _ => rfl, fun _ h => absurd h (by omega)⟩
  unfold My
  erw [hl]
  simp only [cond_false, jb, G8, cond_true]
  cases Sa (fun x s x => Oq s x) 0 (0, d) l <;> rfl
 ·rw [Aa (show ((ja l : Nat) : Int) > 64 by omega), Ca h64]; rfl
def BN (keys : Int) (l : List Ba) : Bool := Ad (fun _ (x : Ba) => !decide (x.2.1 ≥ keys)) 0 l
def Jc (q : List Ba) (d keys : Int) : Bool := BN keys q && (ED q d).2
theorem Wr (q : List Ba) (d keys : Int) (hn : q.length ≤ Ga) : Ui q d keys = some (Jc q d keys, ()) := by
 have h20 : Ga = 1048576 := rfl
 have hl := Le (step := fun x => Cq x.1.1 x.1.2.1 x.1.2.2.1 x.1.2.2.2.1 x.1.2.2.2.2.1 x.1.2.2.2.2.2.1) q (fun _ (x : Ba) => !decide (x.2.1 ≥ keys)) (fun i => ((q, d, keys, q, ((ja q : Nat) : Int), i, ()), ()))
  (.inl ((q, d, ()), ())) (.inr ((false, ()), ())) (by
   intro k hk
   simp only [Cq]
   rw [Aa (show (k : Int) < ((ja q : Nat) : Int) by omega), Wb hk]
   simp only [cond_true, jb]
   cases decide (q[k].2.1 ≥ keys) <;> rfl) (by
   simp only [Cq]
   rw [Ca (by omega)]; rfl) (by omega)
 unfold Ui Xs Jc BN
 erw [hl]
 simp only [jb]
 cases Ad (fun _ (x : Ba) => !decide (x.2.1 ≥ keys)) 0 q with
 | false => rfl
 | true => simp only [cond_true, qn, Q1 q d hn, jb]; rfl
def Bm (keys : Int) (s : Int × Int) (x : Ba) : (Int × Int) ⊕ Unit := cond (Gj s x && !decide (x.2.1 ≥ keys)) (.inl (x.1, Kf .i64 s.2 (Ra .i64 1 x.2.1))) (.inr ())
theorem CM (keys : Int) : ∀ (l : List Ba) (k : Nat) (s : Int × Int), Ok (Sa (fun _ s x => Bm keys s x) k s l) = (Ad (fun _ (x : Ba) => !decide (x.2.1 ≥ keys)) k l && Ok (Sa (fun _ s x => Oq s x) k s l))
 | [], _, _ => rfl
 | x :: l, k, s => by
  simp only [Sa, Ad, Bm, Oq]
  cases Gj s x with
  | false => simp [Ok]
  | true =>
   cases decide (x.2.1 ≥ keys) with
   | true => simp [Ok]
   | false => simp only [jk, qd, cond_true]; exact CM keys l (k + 1) _
theorem MH (q : List Ba) (d keys : Int) (hn : q.length ≤ Ga) : Iq q d keys 0 = some (Jc q d keys, ()) := by
 have h20 : Ga = 1048576 := rfl
 have hl := Ag (step := fun x => Ap x.1.1 x.1.2.1 x.1.2.2.1 x.1.2.2.2.1 x.1.2.2.2.2.1) q (fun _ s x => Bm keys s x) (fun s i => ((q, s.2, keys, s.1, i, ()), ()))
  (fun s => .inl ((q, ()), ())) (fun _ => .inr ((false, ()), ())) (fun _ _ => True) (by
   intro k hk s _
   refine ⟨?_, fun _ _ => trivial⟩
   simp only [Ap]
   rw [Aa (show (k : Int) < ((ja q : Nat) : Int) by omega), Wb hk]
   simp only [cond_true, jb, C0, Bm, Gj]
   generalize q[k] = x
   cases hev : Uf x with
   | false => rfl
   | true =>
    have hkey := Ul hev
    simp only [jg, cond_false, jk, Rd]
    rw [Aa hkey.2.2.1]
    simp only [gt_iff_lt]
    cases decide (x.2.1 ≥ keys) <;> cases decide (x.1 < s.1) <;> cases (x.2.2.1 == (Ya .i64 (Hc .i64 s.2 x.2.1) 1 == 1)) <;> rfl)
  (by
   intro s _
   simp only [Ap]
   rw [Ca (by omega)]; rfl) (by omega) (0, d) trivial
 unfold Iq Zq
 erw [hl]
 have hsp := CM keys q 0 (0, d)
 simp only [jb, Jc, BN, ED, G8]
 by_cases h64 : q.length ≤ 64
 ·rw [Aa h64]
  cases h1 : Sa (fun _ s x => Bm keys s x) 0 (0, d) q with
  | inl s =>
   rw [h1] at hsp
   simp only [Ok] at hsp
   cases h2 : Sa (fun _ s x => Oq s x) 0 (0, d) q with
   | inl s2 =>
    rw [h2] at hsp
    simp only [Ok, Bool.and_true] at hsp
    rw [← hsp]
    simp only [qn]
    rw [Aa (show ((ja q : Nat) : Int) ≤ 64 by omega)]; rfl
   | inr u => rw [h2] at hsp; simp [Ok] at hsp
  | inr u =>
   rw [h1] at hsp
   simp only [Ok] at hsp
   cases h2 : Sa (fun _ s x => Oq s x) 0 (0, d) q with
   | inl s2 =>
    rw [h2] at hsp
    simp only [Ok, Bool.and_true] at hsp
    rw [← hsp]; rfl
   | inr u => cases Ad (fun _ (x : Ba) => !decide (x.2.1 ≥ keys)) 0 q <;> rfl
 ·rw [Ca h64]
  cases h1 : Sa (fun _ s x => Bm keys s x) 0 (0, d) q with
  | inl s => simp only [qn]; rw [Ca (show ¬ ((ja q : Nat) : Int) ≤ 64 by omega)]; cases Ad (fun _ (x : Ba) => !decide (x.2.1 ≥ keys)) 0 q <;> rfl
  | inr u => cases Ad (fun _ (x : Ba) => !decide (x.2.1 ≥ keys)) 0 q <;> rfl
def Se (t : Mp) : Bool := decide (1 ≤ t.1 ∧ t.1 ≤ 1000) && (decide (0 ≤ t.2.1 ∧ t.2.1 ≤ 1000) && decide (0 ≤ t.2.2.1 ∧ t.2.2.1 ≤ 2))
theorem AI (t : Mp) : Qv t = some (Se t, ()) := by
 unfold Qv Se
 simp only [Yi, Zi]
 apply Rc
 simp only [Ld, decide_eq_true_eq, jq, and_false, or_false, jd]
 omega
theorem GU (t : Mp) : EC t = some (Se t, ()) := by
 unfold EC Se
 simp only [Oe, jb, Yi, Zi]
 apply Rc
 simp only [Ld, decide_eq_true_eq, jq, and_false, or_false, jd]
theorem LL (e : Jb) (hn : e.2.2.2.1.length ≤ Ga) (hx : ∀ x ∈ e.2.2.2.1, Fv x) : Cz e = some (Yo e.2.2.2.1, ()) := by
 have h20 : Ga = 1048576 := rfl
 have hl := (Qh (step := fun x => Zu x.1.1 x.1.2.1 x.1.2.2.1 x.2.1) e.2.2.2.1 (fun _ s (x : Va) => Tc .i64 s (Ra .i64 1 x.1)) (fun s i => (((), s, i, ()), (e, ())))
  (fun s => .inl ((s, ()), ())) (fun _ _ => True) (by
   intro k hk s _
   refine ⟨?_, trivial⟩
   simp only [Zu]
   rw [Aa (show (k : Int) < ((ja e.2.2.2.1 : Nat) : Int) by omega), Wb hk]
   have hk' := hx _ (qv hk)
   simp only [cond_true, jb, Yq, Oe]
   rw [Aa (show 0 ≤ e.2.2.2.1[k].1 ∧ e.2.2.2.1[k].1 ≤ 31 from ⟨hk'.lo, hk'.hi⟩), Aa hk'.lo]; rfl)
  (by
   intro s _
   simp only [Zu]
   rw [Ca (by omega)]; rfl) (by omega) 0 trivial).1
 unfold Cz Rw
 erw [hl]
 rfl
def KI (l : List Ba) : Int := (l.getD (l.length - 1) (0, 0, false, ())).1
def Rh (l : List Ba) (t : Int) : Bool := ((l.length : Int) == 0) || decide (KI l ≤ t)
theorem FW {l : List Ba} (h : 0 < l.length) (hn : l.length ≤ Ga) : ∃ x, Cc l (j9 .i64 (((ja l : Nat) : Int) - 1)) = some x ∧ x.1 = KI l := by
 have h20 : Ga = 1048576 := rfl
 refine ⟨l[l.length - 1], ?_, ?_⟩
 ·rw [Xc (by omega) (by omega), show ((ja l : Nat) : Int) - 1 = ((l.length - 1 : Nat) : Int) by omega, Wb (by omega)]
 ·simp [KI, List.getD, je (show l.length - 1 < l.length by omega)]
theorem Vr (l : List Ba) (t : Int) (hn : l.length ≤ Ga) : Si l t = some (Rh l t, ()) := by
 unfold Si Rh
 by_cases h0 : l.length = 0
 ·simp [h0]
 ·obtain ⟨x, h1, h2⟩ := FW (l := l) (by omega) hn
  rw [h1, show (((l.length : Nat) : Int) == 0) = false by simp; intro h; rw [h] at h0; simp at h0]
  simp only [cond_false, jb, h2, Bool.false_or]
noncomputable def Sd (d : Xa) : Bool :=
 Mj d.1 && (Se d.2.1 && (decide (0 ≤ d.2.2.2.1 ∧ d.2.2.2.1 ≤ 1000000) && (decide (0 ≤ d.2.2.2.2.1 ∧ d.2.2.2.2.1 ≤ d.2.2.2.1) && (Jc d.2.2.1 (Yo d.1.2.2.2.1) d.1.1.1 && (Rh d.2.2.1 d.2.2.2.1 &&
  (decide (0 ≤ d.2.2.2.2.2.1 ∧ d.2.2.2.2.2.1 ≤ d.1.1.1) && decide (0 ≤ d.2.2.2.2.2.2.1 ∧ d.2.2.2.2.2.2.1 ≤ d.2.2.2.1)))))))
theorem Jv (d : Xa) : Lc Be d = Lc Pc d.1 + Lc (.sl Nc) d.2.2.1 := by
 simp only [Lc, Nat.add_zero, js]
theorem Qm (l : List Ba) : Lc (.sl Nc) l = l.length := Cr (e := Nc) rfl l
theorem FB {e : Jb} (h : Mj e = true) : Zf e.2.2.2.1 = true := by
 simp only [Mj, jd] at h
 exact h.2.2.1
theorem Pr (d : Xa) (hz : Lc Be d ≤ Ga) : Dl d = some (Sd d, ()) := by
 have hz' := hz
 rw [Jv, Qm] at hz'
 have hz2 := hz'
 rw [Um, Im] at hz2
 unfold Dl Sd
 rw [JW _ (by omega)]
 cases he : Mj d.1 with
 | false => rfl
 | true =>
  have hh := Pt (FB he)
  simp only [jb, jg, cond_false, jk, AI]
  cases Se d.2.1 with
  | false => rfl
  | true =>
   rw [SC _ (by omega) hh]
   simp only [jb, jg, cond_false, jk]
   rw [Wr _ _ _ (by omega), Vr _ _ (by omega)]
   simp only [jb]
   have key : ∀ a b c e f g h i j k : Bool, cond a (some (false, ())) (cond b (some (false, ())) (cond c (some (false, ())) (cond e (some (false, ())) (cond (!f) (some (false, ())) (cond (!g) (some (false, ())) (cond h (cond i (cond j (some (k, ())) (some (false, ()))) (some (false, ()))) (some (false, ())))))))) =
    some ((((!a && !b) && ((!c && !e) && (f && (g && ((h && i) && (j && k)))))), ()) : Bool × Unit) := by
    intro a b c e f g h i j k
    cases a <;> cases b <;> cases c <;> cases e <;> cases f <;> cases g <;> cases h <;> cases i <;> cases j <;> cases k <;> rfl
   erw [key]
   apply Rc
   simp only [jd, Bool.not_eq_true', decide_eq_true_eq, decide_eq_false_iff_not]
   constructor
   ·rintro ⟨⟨h1, h2⟩, ⟨h3, h4⟩, h5, h6, ⟨h7, h8⟩, h9, h10⟩
    exact ⟨⟨by omega, by omega⟩, ⟨by omega, by omega⟩, h5, h6, ⟨h7, h8⟩, h9, h10⟩
   ·rintro ⟨⟨h1, h2⟩, ⟨h3, h4⟩, h5, h6, ⟨h7, h8⟩, h9, h10⟩
    exact ⟨⟨by omega, by omega⟩, ⟨by omega, by omega⟩, h5, h6, ⟨h7, h8⟩, h9, h10⟩
theorem CI (d : Xa) (hz : Lc Be d ≤ Ga) : Ft d = some (Sd d, ()) := by
 have hz' := hz
 rw [Jv, Qm] at hz'
 have hz2 := hz'
 rw [Um, Im] at hz2
 unfold Ft Sd
 rw [AK _ (by omega)]
 cases he : Mj d.1 with
 | false => rfl
 | true =>
  have hh := Pt (FB he)
  simp only [jb, jg, cond_false, jk, GU, Oe]
  cases Se d.2.1 with
  | false => rfl
  | true =>
   rw [LL _ (by omega) hh]
   simp only [jb, jg, cond_false, jk]
   rw [MH _ _ _ (by omega)]
   simp only [jb, Rh]
   by_cases h0 : d.2.2.1.length = 0
   ·rw [Ca (show ¬ ((ja d.2.2.1 : Nat) : Int) > 0 by omega), show (((d.2.2.1.length : Nat) : Int) == 0) = true by simp [h0]]
    simp only [cond_false, Bool.true_or, jk]
    cases decide (0 ≤ d.2.2.2.1 ∧ d.2.2.2.1 ≤ 1000000) <;> cases decide (0 ≤ d.2.2.2.2.1 ∧ d.2.2.2.2.1 ≤ d.2.2.2.1) <;> cases Jc d.2.2.1 (Yo d.1.2.2.2.1) d.1.1.1 <;> cases decide (0 ≤ d.2.2.2.2.2.1 ∧ d.2.2.2.2.2.1 ≤ d.1.1.1) <;> rfl
   ·obtain ⟨x, h1, h2⟩ := FW (l := d.2.2.1) (by omega) (by omega)
    rw [Aa (show ((ja d.2.2.1 : Nat) : Int) > 0 by omega), h1, show (((d.2.2.1.length : Nat) : Int) == 0) = false by simp; intro h; rw [h] at h0; simp at h0]
    simp only [cond_true, jb, Bool.false_or, h2]
    have e1 : decide (KI d.2.2.1 > d.2.2.2.1) = !decide (KI d.2.2.1 ≤ d.2.2.2.1) := by
     rw [q7]; simp only [decide_eq_true_eq, Bool.not_eq_true', decide_eq_false_iff_not]; omega
    rw [e1]
    cases decide (0 ≤ d.2.2.2.1 ∧ d.2.2.2.1 ≤ 1000000) <;> cases decide (0 ≤ d.2.2.2.2.1 ∧ d.2.2.2.2.1 ≤ d.2.2.2.1) <;> cases Jc d.2.2.1 (Yo d.1.2.2.2.1) d.1.1.1 <;> cases decide (KI d.2.2.1 ≤ d.2.2.2.1) <;> cases decide (0 ≤ d.2.2.2.2.2.1 ∧ d.2.2.2.2.2.1 ≤ d.1.1.1) <;> rfl

def Zd {S : Type} (g : Nat → S → S) : Nat → S → S
 | 0, s => s
 | n + 1, s => g n (Zd g n s)
theorem Un {X R S : Type} {step : X → Option (X ⊕ R)} (n : Nat) (hn : n < 9223372036854775807) (g : Nat → S → S) (s0 : S) (I : S → Int → X) (out : S → R)
 (h : ∀ k, k < n → step (I (Zd g k s0) (k : Int)) = some (.inl (I (g k (Zd g k s0)) (j9 .i64 ((k : Int) + 1))))) (he : step (I (Zd g n s0) (n : Int)) = some (.inr (out (Zd g n s0)))) :
 Nb step (I s0 0) = some (out (Zd g n s0)) := by
 have := Y3 (step := step) (fun k => I (Zd g k s0) (k : Int)) n (out (Zd g n s0)) (fun k hk => by
  rw [h k hk, Ig (by omega)]; rfl) he
 exact this
theorem AU {e : Ty} {c : Nat} : ∀ {w : List (T e)}, (∀ x ∈ w, Lc e x ≤ c) → Lc (.sl e) w ≤ (c + 1) * w.length
 | [], _ => by simp [Lc]
 | x :: r, h => by
  have h1 := h x (by simp)
  have h2 : Lc (.sl e) r ≤ (c + 1) * r.length := AU fun y hy => h y (by simp [hy])
  have h3 : Lc (.sl e) r = ja r + (List.map (Lc e) r).sum := rfl
  have h4 : Lc (.sl e) (x :: r) = (ja r + 1) + (Lc e x + (List.map (Lc e) r).sum) := by simp [Lc]
  rw [h4, jw, Nat.mul_add]
  omega
theorem Gg {n : Nat} (h : n ≤ 1073741824) : jx n Bb = true := ji h
theorem XY {α β : Type} (f : α → β) : ∀ (xs : List α) (k : Nat) (o : List β), Dd (fun _ o x => jf o [f x]) k o xs = o ++ xs.map f
 | [], _, o => by simp [Dd]
 | x :: r, k, o => by
  simp only [Dd]
  rw [XY f r]
  simp
theorem FL {X R α β : Type} {step : X → Option (X ⊕ R)} (xs : List α) (f : α → β) (I : List β → Int → X) (out : List β → R) (hn : xs.length ≤ 1073741824)
 (h : ∀ k (hk : k < xs.length) (o : List β), ja o = k → step (I o (k : Int)) = some (.inl (I (jf o [f xs[k]]) (j9 .i64 ((k : Int) + 1)))))
 (he : ∀ o : List β, step (I o (xs.length : Int)) = some (.inr (out o))) : Nb step (I [] 0) = some (out (xs.map f)) := by
 have := (Qh (step := step) xs (fun _ o x => jf o [f x]) I out (fun k o => ja o = k) (fun k hk o ho => ⟨h k hk o ho, by simp [ho]⟩) (fun o _ => he o) (by omega) [] rfl).1
 rw [this, XY]
 rfl
theorem AaE (a : List Int) : Lc (.sl int) a = a.length := Cr (e := int) rfl a
theorem N0 (a : List Pa) : Lc (.sl Sc) a = a.length := Cr (e := Sc) rfl a
theorem Lu (l : List Int) (h : l.length ≤ Ga) : Lm l = some (l, ()) := by
 have h20 : Ga = 1048576 := rfl
 unfold Lm
 rw [Gg (by simp; omega)]
 rfl

theorem GH : (2 : Nat) ^ 63 = 9223372036854775808 := rfl
theorem OD {a : Nat} (ha : a < 2 ^ 63) : (BitVec.ofInt 64 (a : Int)).toNat = a := by
 rw [BitVec.ofInt_natCast, BitVec.toNat_ofNat, Nat.mod_eq_of_lt (by omega)]
theorem Gy {a b : Nat} (ha : a < 2 ^ 63) (hb : b < 2 ^ 63) : Ya .i64 (a : Int) (b : Int) = ((a &&& b : Nat) : Int) := by
 have h : (BitVec.ofInt (IntKind.bits .i64) (a : Int) &&& BitVec.ofInt (IntKind.bits .i64) (b : Int)).toNat = a &&& b := by
  rw [BitVec.toNat_and]; erw [OD ha, OD hb]
 unfold Ya
 rw [h]
 have h2 : a &&& b ≤ a := Nat.and_le_left
 have h3 := GH
 exact Xc (by omega) (by omega)
theorem Hk {a b : Nat} (ha : a < 2 ^ 63) (hb : b < 2 ^ 63) : Tc .i64 (a : Int) (b : Int) = ((a ||| b : Nat) : Int) := by
 have h : (BitVec.ofInt (IntKind.bits .i64) (a : Int) ||| BitVec.ofInt (IntKind.bits .i64) (b : Int)).toNat = a ||| b := by
  rw [BitVec.toNat_or]; erw [OD ha, OD hb]
 unfold Tc
 rw [h]
 have h2 : a ||| b < 2 ^ 63 := Nat.or_lt_two_pow ha hb
 have h3 := GH
 exact Xc (by omega) (by omega)
theorem Mo {a b : Nat} (ha : a < 2 ^ 63) (hb : b < 2 ^ 63) : Kf .i64 (a : Int) (b : Int) = ((a ^^^ b : Nat) : Int) := by
 have h : (BitVec.ofInt (IntKind.bits .i64) (a : Int) ^^^ BitVec.ofInt (IntKind.bits .i64) (b : Int)).toNat = a ^^^ b := by
  rw [BitVec.toNat_xor]; erw [OD ha, OD hb]
 unfold Kf
 rw [h]
 have h2 : a ^^^ b < 2 ^ 63 := qu ha hb
 have h3 := GH
 exact Xc (by omega) (by omega)
theorem Yau {w : Nat} (x y : BitVec w) : x &&& ~~~y = x ^^^ (x &&& y) := by
 ext i hi
 simp only [BitVec.getElem_and, BitVec.getElem_not, BitVec.getElem_xor]
 cases x[i] <;> cases y[i] <;> rfl
theorem Tn {a b : Nat} (ha : a < 2 ^ 63) (hb : b < 2 ^ 63) : Gc .i64 (a : Int) (b : Int) = ((a ^^^ (a &&& b) : Nat) : Int) := by
 have h : (BitVec.ofInt (IntKind.bits .i64) (a : Int) &&& ~~~ BitVec.ofInt (IntKind.bits .i64) (b : Int)).toNat = a ^^^ (a &&& b) := by
  rw [Yau, BitVec.toNat_xor, BitVec.toNat_and]; erw [OD ha, OD hb]
 unfold Gc
 rw [h]
 have h1 : a &&& b ≤ a := Nat.and_le_left
 have h2 : a ^^^ (a &&& b) < 2 ^ 63 := qu ha (by omega)
 have h3 := GH
 exact Xc (by omega) (by omega)
theorem UO (a : Nat) {k : Nat} (hk : k ≤ 64) : Hc .i64 (a : Int) (k : Int) = ((a >>> k : Nat) : Int) := by
 unfold Hc
 have h1 : min (jy (k : Int)) (IntKind.bits .i64) = k := by
  show min (jy (k : Int)) 64 = k
  rw [jn]; omega
 rw [h1, Nat.shiftRight_eq_div_pow]
 have h2 : (2 : Int) ^ k = ((2 ^ k : Nat) : Int) := by simp
 rw [h2]
 exact (Int.fdiv_eq_ediv_of_nonneg _ (Int.natCast_nonneg _)).trans (by simp)
theorem Maq {a k : Nat} (h : a * 2 ^ k < 2 ^ 63) (hk : k ≤ 64) : Ra .i64 (a : Int) (k : Int) = ((a <<< k : Nat) : Int) := by
 unfold Ra
 have h1 : min (jy (k : Int)) (IntKind.bits .i64) = k := by
  show min (jy (k : Int)) 64 = k
  rw [jn]; omega
 have h2 : (2 : Int) ^ k = ((2 ^ k : Nat) : Int) := by simp
 have h4 : (a : Int) * ((2 ^ k : Nat) : Int) = ((a * 2 ^ k : Nat) : Int) := by simp
 rw [h1, Nat.shiftLeft_eq, h2, h4]
 have h3 := GH
 generalize a * 2 ^ k = z at *
 exact Xc (by omega) (by omega)
theorem Kj {a k : Nat} (ha : a < 2 ^ 63) (hk : k ≤ 64) : (Rd (a : Int) (k : Int) == 1) = a.testBit k := by
 unfold Rd
 have h1 : a >>> k ≤ a := by rw [Nat.shiftRight_eq_div_pow]; exact Nat.div_le_self _ _
 have h3 := GH
 rw [UO a hk]
 show (Ya .i64 ((a >>> k : Nat) : Int) ((1 : Nat) : Int) == 1) = _
 rw [Gy (by omega) (by omega), Nat.and_one_is_mod, Nat.testBit_eq_decide_div_mod_eq, Nat.shiftRight_eq_div_pow]
 have : a / 2 ^ k % 2 = 0 ∨ a / 2 ^ k % 2 = 1 := by omega
 rcases this with h | h <;> rw [h] <;> rfl
theorem Gf {k : Nat} (hk : k ≤ 62) : (2 : Nat) ^ k < 2 ^ 63 := Nat.pow_lt_pow_right (by omega) (by omega)
theorem QaD {a k : Nat} (ha : a < 2 ^ 63) (hk : k ≤ 62) (h : (Rd (a : Int) (k : Int) == 1) = false) :
 Tc .i64 (a : Int) (Ra .i64 1 (k : Int)) = Kf .i64 (a : Int) (Ra .i64 1 (k : Int)) := by
 rw [Kj ha (by omega)] at h
 rw [Qf (by omega), Hk ha (Gf hk), Mo ha (Gf hk)]
 congr 1
 apply Nat.eq_of_testBit_eq
 intro i
 rw [Nat.testBit_or, qq, qr]
 by_cases hi : k = i
 ·subst hi; rw [h, Aa rfl]; rfl
 ·rw [Ca hi]; cases a.testBit i <;> rfl
theorem Iap {a k : Nat} (ha : a < 2 ^ 63) (hk : k ≤ 62) (h : (Rd (a : Int) (k : Int) == 1) = true) :
 Gc .i64 (a : Int) (Ra .i64 1 (k : Int)) = Kf .i64 (a : Int) (Ra .i64 1 (k : Int)) := by
 rw [Kj ha (by omega)] at h
 rw [Qf (by omega), Tn ha (Gf hk), Mo ha (Gf hk)]
 congr 1
 apply Nat.eq_of_testBit_eq
 intro i
 rw [qq, qq, Nat.testBit_and, qr]
 by_cases hi : k = i
 ·subst hi; rw [h, Aa rfl]; rfl
 ·rw [Ca hi]; cases a.testBit i <;> rfl
theorem Uaa {a k : Nat} (ha : a < 2 ^ 63) (hk : k ≤ 62) : ∃ b : Nat, Kf .i64 (a : Int) (Ra .i64 1 (k : Int)) = (b : Int) ∧ b < 2 ^ 63 := by
 rw [Qf (by omega), Mo ha (Gf hk)]
 exact ⟨_, rfl, qu ha (Gf hk)⟩
theorem BaB {a k n : Nat} (ha : a < 2 ^ 63) (hk : k ≤ 62) (hn : n ≤ 64) :
 (Rd (Tc .i64 (a : Int) (Ra .i64 1 (k : Int))) (n : Int) == 1) = ((Rd (a : Int) (n : Int) == 1) || decide (k = n)) := by
 rw [Qf (by omega), Hk ha (Gf hk), Kj (Nat.or_lt_two_pow ha (Gf hk)) hn, Kj ha hn, Nat.testBit_or, qr]
theorem Aab {a : Nat} (ha : a < 2 ^ 64) : (BitVec.ofInt 64 (a : Int)).toNat = a := by
 rw [BitVec.ofInt_natCast, BitVec.toNat_ofNat, Nat.mod_eq_of_lt (by omega)]
theorem TL {a : Nat} (h : a < 2 ^ 64) : j9 .u64 (a : Int) = (a : Int) := by
 have h2 : (2 : Nat) ^ 64 = 18446744073709551616 := by decide
 exact IntWalk.u64_in _ ⟨by omega, by omega⟩
theorem Mak {a b : Nat} (ha : a < 2 ^ 64) (hb : b < 2 ^ 64) : Ya .u64 (a : Int) (b : Int) = ((a &&& b : Nat) : Int) := by
 have h : (BitVec.ofInt (IntKind.bits .u64) (a : Int) &&& BitVec.ofInt (IntKind.bits .u64) (b : Int)).toNat = a &&& b := by
  rw [BitVec.toNat_and]; erw [Aab ha, Aab hb]
 unfold Ya
 rw [h]
 have h2 : a &&& b ≤ a := Nat.and_le_left
 exact TL (by omega)
theorem Rak (a : Nat) {k : Nat} (hk : k ≤ 64) : Hc .u64 (a : Int) (k : Int) = ((a / 2 ^ k : Nat) : Int) := by
 unfold Hc
 have h1 : min (jy (k : Int)) (IntKind.bits .u64) = k := by
  show min (jy (k : Int)) 64 = k
  rw [jn]; omega
 rw [h1]
 have h2 : (2 : Int) ^ k = ((2 ^ k : Nat) : Int) := by simp
 rw [h2]
 exact (Int.fdiv_eq_ediv_of_nonneg _ (Int.natCast_nonneg _)).trans (by simp)
def cnt : Nat → Nat → Nat
 | 0, _ => 0
 | k + 1, n => n % 2 + cnt k (n / 2)
theorem OY : ∀ k n, cnt k n ≤ k
 | 0, _ => jo _
 | k + 1, n => by have := OY k (n / 2); simp only [cnt]; omega
theorem IT : ∀ j k n, cnt (j + k) n = cnt j n + cnt k (n / 2 ^ j)
 | 0, k, n => by simp [cnt]
 | j + 1, k, n => by
  have h := IT j k (n / 2)
  rw [show j + 1 + k = (j + k) + 1 by omega]
  simp only [cnt, h, Nat.div_div_eq_div_mul, Nat.pow_succ, Nat.mul_comm]
  omega
theorem Z0 : ∀ j n, cnt j (n % 2 ^ j) = cnt j n
 | 0, _ => rfl
 | j + 1, n => by
  have h := Z0 j (n / 2)
  have e1 : n % 2 ^ (j + 1) % 2 = n % 2 := Nat.mod_mod_of_dvd _ (by rw [Nat.pow_succ]; exact ⟨2 ^ j, Nat.mul_comm _ _⟩)
  have e2 : n % 2 ^ (j + 1) / 2 = n / 2 % 2 ^ j := by
   rw [Nat.pow_succ, Nat.mul_comm, Nat.mod_mul_right_div_self]
  simp only [cnt, e1, e2, h]
theorem N7 : ∀ k, cnt k 0 = 0
 | 0 => rfl
 | k + 1 => by have := N7 k; simp [cnt, this]
def u1 (a : Nat) : Nat := ((a / 2) &&& 85) + (a &&& 85)
def u2 (a : Nat) : Nat := ((a / 4) &&& 51) + (a &&& 51)
theorem Pai : ∀ a : Fin 256, u1 a.val < 256 := by decide +kernel
theorem Qai : ∀ a : Fin 256, u2 (u1 a.val) % 16 ≤ 4 ∧ u2 (u1 a.val) / 16 ≤ 4 := by decide +kernel
theorem Rai : ∀ a : Fin 256, (u2 (u1 a.val) / 16 + u2 (u1 a.val)) % 16 = cnt 8 a.val := by decide +kernel
theorem m5 : ∀ a : Fin 128, (a.val &&& 85) = (a.val + 128 * 1) &&& 85 := by decide +kernel
theorem m3 : ∀ a : Fin 64, ∀ c : Fin 4, (a.val &&& 51) = (a.val + 64 * c.val) &&& 51 := by decide +kernel
theorem m5' {a c : Nat} (h : a < 128) (hc : c < 2) : (a + 128 * c) &&& 85 = a &&& 85 := by
 have : c = 0 ∨ c = 1 := by omega
 rcases this with rfl | rfl
 ·rfl
 ·exact (m5 ⟨a, h⟩).symm
theorem m3' {a c : Nat} (h : a < 64) (hc : c < 4) : (a + 64 * c) &&& 51 = a &&& 51 := (m3 ⟨a, h⟩ ⟨c, hc⟩).symm
theorem OQ {a b m p : Nat} (ha : a < 256) (hp : p < 256) : (a + 256 * b) &&& (p + 256 * m) = (a &&& p) + 256 * (b &&& m) := by
 have h1 : ((a + 256 * b) &&& (p + 256 * m)) % 2 ^ 8 = a &&& p := by
  rw [Nat.and_mod_two_pow]
  congr 1 <;> omega
 have h2 : ((a + 256 * b) &&& (p + 256 * m)) / 2 ^ 8 = b &&& m := by
  rw [← Nat.shiftRight_eq_div_pow, Nat.shiftRight_and_distrib, Nat.shiftRight_eq_div_pow, Nat.shiftRight_eq_div_pow]
  congr 1 <;> omega
 generalize (a + 256 * b) &&& (p + 256 * m) = z at *
 rw [← h1, ← h2]
 omega
theorem H7 {a b c M m : Nat} (ha : a < 256) (hb : b < 256) (hc : c < 256) (hm : m < 256) (hM : M = m + 256 * (m + 256 * (m + 256 * (M / 16777216)))) :
 (a + 256 * (b + 256 * c)) &&& M = (a &&& m) + 256 * ((b &&& m) + 256 * (c &&& m)) := by
 rw [hM, show c = c + 256 * 0 by omega, OQ ha hm, OQ hb hm, OQ hc hm]
 simp
def M5 : Nat := 6148914691236517205
def M3 : Nat := 3689348814741910323
def MF : Nat := 1085102592571150095
def s1 (n : Nat) : Nat := (n / 2 &&& M5) + (n &&& M5)
def s2 (n : Nat) : Nat := (n / 4 &&& M3) + (n &&& M3)
def s3 (n : Nat) : Nat := (n / 16 + n) &&& MF
theorem HaI {a b c : Nat} (ha : a < 256) (hb : b < 256) (hc : c < 256) : s1 (a + 256 * (b + 256 * c)) = u1 a + 256 * (u1 b + 256 * u1 c) := by
 unfold s1
 have h : (a + 256 * (b + 256 * c)) / 2 = (a / 2 + 128 * (b % 2)) + 256 * ((b / 2 + 128 * (c % 2)) + 256 * (c / 2 + 128 * 0)) := by omega
 rw [h, H7 (m := 85) (by omega) (by omega) (by omega) (by omega) rfl, H7 (m := 85) ha hb hc (by omega) rfl, m5' (by omega) (by omega), m5' (by omega) (by omega), m5' (by omega) (by omega)]
 unfold u1
 omega
theorem JaI {a b c : Nat} (ha : a < 256) (hb : b < 256) (hc : c < 256) : s2 (a + 256 * (b + 256 * c)) = u2 a + 256 * (u2 b + 256 * u2 c) := by
 unfold s2
 have h : (a + 256 * (b + 256 * c)) / 4 = (a / 4 + 64 * (b % 4)) + 256 * ((b / 4 + 64 * (c % 4)) + 256 * (c / 4 + 64 * 0)) := by omega
 rw [h, H7 (m := 51) (by omega) (by omega) (by omega) (by omega) rfl, H7 (m := 51) ha hb hc (by omega) rfl, m3' (by omega) (by omega), m3' (by omega) (by omega), m3' (by omega) (by omega)]
 unfold u2
 omega
theorem Iag (x : Nat) : x &&& 15 = x % 16 := by
 have := Nat.and_two_pow_sub_one_eq_mod x 4
 exact this
theorem LaI {a b c : Nat} (ha : a % 16 ≤ 4 ∧ a / 16 ≤ 4) (hb : b % 16 ≤ 4 ∧ b / 16 ≤ 4) (hc : c % 16 ≤ 4 ∧ c / 16 ≤ 4) :
 s3 (a + 256 * (b + 256 * c)) = (a / 16 + a) % 16 + 256 * ((b / 16 + b) % 16 + 256 * ((c / 16 + c) % 16)) := by
 unfold s3
 have h : (a + 256 * (b + 256 * c)) / 16 + (a + 256 * (b + 256 * c)) = (a / 16 + a + 16 * (b % 16)) + 256 * ((b / 16 + b + 16 * (c % 16)) + 256 * (c / 16 + c)) := by omega
 rw [h, H7 (m := 15) (by omega) (by omega) (by omega) (by omega) rfl, Iag, Iag, Iag]
 omega
def Gar (z : Nat) : Nat := (z + z / 256 + (z + z / 256) / 65536 + (z + z / 256 + (z + z / 256) / 65536) / 4294967296) % 128
theorem SaD {n : Nat} (h : n < 16777216) : Gar (s3 (s2 (s1 n))) = cnt 32 n := by
 have e : n = n % 256 + 256 * (n / 256 % 256 + 256 * (n / 65536)) := by omega
 have ha : n % 256 < 256 := by omega
 have hb : n / 256 % 256 < 256 := by omega
 have hc : n / 65536 < 256 := by omega
 have hcnt : cnt 32 n = cnt 8 (n % 256) + (cnt 8 (n / 256 % 256) + cnt 8 (n / 65536)) := by
  rw [show (32 : Nat) = 8 + (8 + (8 + 8)) from rfl, IT, IT, IT]
  have e1 := Z0 8 n
  have e2 := Z0 8 (n / 2 ^ 8)
  rw [← e1, ← e2]
  have e3 : n / 2 ^ 8 / 2 ^ 8 = n / 65536 := by omega
  have e4 : n / 65536 / 2 ^ 8 = 0 := by omega
  rw [e3, e4, N7]
  simp
 rw [hcnt]
 generalize n % 256 = a at *
 generalize n / 256 % 256 = b at *
 generalize n / 65536 = c at *
 rw [e, HaI ha hb hc, JaI (Pai ⟨a, ha⟩) (Pai ⟨b, hb⟩) (Pai ⟨c, hc⟩), LaI (Qai ⟨a, ha⟩) (Qai ⟨b, hb⟩) (Qai ⟨c, hc⟩), Rai ⟨a, ha⟩, Rai ⟨b, hb⟩, Rai ⟨c, hc⟩]
 have h1 := OY 8 a
 have h2 := OY 8 b
 have h3 := OY 8 c
 show Gar (cnt 8 a + 256 * (cnt 8 b + 256 * cnt 8 c)) = _
 unfold Gar
 generalize cnt 8 a = i at *
 generalize cnt 8 b = j at *
 generalize cnt 8 c = k at *
 have g1 : (i + 256 * (j + 256 * k)) / 256 = j + 256 * k := by omega
 rw [g1]
 have g2 : (i + 256 * (j + 256 * k) + (j + 256 * k)) / 65536 = k := by omega
 rw [g2]
 have g3 : (i + 256 * (j + 256 * k) + (j + 256 * k) + k) / 4294967296 = 0 := by omega
 rw [g3]
 omega
theorem GaI {n : Nat} (h : n < 16777216) : s1 n < 33554432 := by
 have h1 : n / 2 &&& M5 ≤ n / 2 := Nat.and_le_left
 have h2 : n &&& M5 ≤ n := Nat.and_le_left
 unfold s1; omega
theorem IaI {n : Nat} (h : n < 33554432) : s2 n < 67108864 := by
 have h1 : n / 4 &&& M3 ≤ n / 4 := Nat.and_le_left
 have h2 : n &&& M3 ≤ n := Nat.and_le_left
 unfold s2; omega
theorem KaI {n : Nat} (h : n < 67108864) : s3 n < 134217728 := by
 have h1 : (n / 16 + n) &&& MF ≤ n / 16 + n := Nat.and_le_left
 unfold s3; omega
theorem YaA (x : Nat) : x &&& 127 = x % 128 := by
 have := Nat.and_two_pow_sub_one_eq_mod x 7
 exact this
theorem T6 {n : Nat} (h : n < 16777216) : Sz (n : Int) = some (((cnt 32 n : Nat) : Int), ()) := by
 unfold Sz JC
 have p64 : (2 : Nat) ^ 64 = 18446744073709551616 := by decide
 have sh : ∀ (x : Nat) (k : Int) (j : Nat), k = (j : Int) → j ≤ 64 → Hc .u64 (x : Int) k = ((x / 2 ^ j : Nat) : Int) := fun x k j hk hj => by rw [hk]; exact Rak x hj
 have an : ∀ (x : Nat) (k : Int) (j : Nat), x < 2 ^ 64 → k = (j : Int) → j < 2 ^ 64 → Ya .u64 (x : Int) k = ((x &&& j : Nat) : Int) := fun x k j hx hk hj => by rw [hk]; exact Mak hx hj
 have ad : ∀ x y : Nat, (x : Int) + (y : Int) = ((x + y : Nat) : Int) := fun x y => (Int.natCast_add x y).symm
 have b1 := GaI h
 have b2 := IaI b1
 have b3 := KaI b2
 have h1 : j9 .u64 ((Ya .u64 (Hc .u64 (n : Int) 1) 6148914691236517205) + (Ya .u64 (n : Int) 6148914691236517205)) = ((s1 n : Nat) : Int) := by
  rw [sh n 1 1 rfl (by omega), an _ 6148914691236517205 M5 (by omega) rfl (by decide), an _ 6148914691236517205 M5 (by omega) rfl (by decide), ad]
  exact TL (a := s1 n) (by omega)
 rw [h1]
 have h2 : j9 .u64 ((Ya .u64 (Hc .u64 ((s1 n : Nat) : Int) 2) 3689348814741910323) + (Ya .u64 ((s1 n : Nat) : Int) 3689348814741910323)) = ((s2 (s1 n) : Nat) : Int) := by
  rw [sh _ 2 2 rfl (by omega), an _ 3689348814741910323 M3 (by omega) rfl (by decide), an _ 3689348814741910323 M3 (by omega) rfl (by decide), ad]
  exact TL (a := s2 (s1 n)) (by omega)
 rw [h2]
 have h3 : Ya .u64 (j9 .u64 ((Hc .u64 ((s2 (s1 n) : Nat) : Int) 4) + ((s2 (s1 n) : Nat) : Int))) 1085102592571150095 = ((s3 (s2 (s1 n)) : Nat) : Int) := by
  rw [sh _ 4 4 rfl (by omega), ad, TL (by omega), an _ 1085102592571150095 MF (by omega) rfl (by decide)]
  rfl
 rw [h3]
 have hp := SaD h
 generalize s3 (s2 (s1 n)) = z at *
 have g1 : j9 .u64 ((z : Int) + Hc .u64 (z : Int) 8) = ((z + z / 256 : Nat) : Int) := by
  rw [sh _ 8 8 rfl (by omega), ad, TL (by omega)]
 rw [g1]
 have g2 : j9 .u64 (((z + z / 256 : Nat) : Int) + Hc .u64 ((z + z / 256 : Nat) : Int) 16) = ((z + z / 256 + (z + z / 256) / 65536 : Nat) : Int) := by
  rw [sh _ 16 16 rfl (by omega), ad, TL (by omega)]
 rw [g2]
 have g3 : j9 .u64 (((z + z / 256 + (z + z / 256) / 65536 : Nat) : Int) + Hc .u64 ((z + z / 256 + (z + z / 256) / 65536 : Nat) : Int) 32) = ((z + z / 256 + (z + z / 256) / 65536 + (z + z / 256 + (z + z / 256) / 65536) / 4294967296 : Nat) : Int) := by
  rw [sh _ 32 32 rfl (by omega), ad, TL (by omega)]
 rw [g3, Xc (by omega) (by omega)]
 show jz (some (Ya .i64 _ ((127 : Nat) : Int), ())) _ = _
 rw [Gy (by rw [GH]; omega) (by decide), YaA]
 rw [← hp]
 rfl
theorem HX {n : Nat} (h : n < 16777216) : Wv (n : Int) = some (((cnt 32 n : Nat) : Int), ()) := by
 have hl := Un (step := fun x => Es x.1.1 x.1.2.1 x.1.2.2.1) 32 (by omega) (fun k s => j9 .i64 (s + Ya .i64 (Hc .i64 (n : Int) (k : Int)) 1)) 0 (fun s i => (((n : Int), s, i, ()), ())) (fun s => .inl ((s, ()), ()))
  (by
   intro k hk
   simp only [Es]
   rw [Aa (show (k : Int) ≤ 31 by omega), Aa (show (0 : Int) ≤ (k : Int) by omega)]; rfl)
  (by
   simp only [Es]
   rw [Ca (by decide)]; rfl)
 generalize hC : cnt 32 n = C
 have hi : ∀ k : Nat, k ≤ 32 → ∃ c : Nat, Zd (fun k s => j9 .i64 (s + Ya .i64 (Hc .i64 (n : Int) (k : Int)) 1)) k (0 : Int) = (c : Int) ∧ c ≤ k ∧ c + cnt (32 - k) (n / 2 ^ k) = C := by
  intro k
  induction k with
  | zero => intro _; exact ⟨0, rfl, jo _, by rw [← hC, Nat.sub_zero, Nat.pow_zero, Nat.div_one, js]⟩
  | succ k ih =>
   intro hk
   obtain ⟨c, h1, h2, h3⟩ := ih (by omega)
   refine ⟨c + n / 2 ^ k % 2, ?_, by omega, ?_⟩
   ·simp only [Zd, h1]
    rw [UO n (by omega), Nat.shiftRight_eq_div_pow]
    have hd : n / 2 ^ k ≤ n := Nat.div_le_self _ _
    have e : Ya .i64 ((n / 2 ^ k : Nat) : Int) 1 = ((n / 2 ^ k % 2 : Nat) : Int) := by
     show Ya .i64 ((n / 2 ^ k : Nat) : Int) ((1 : Nat) : Int) = _
     rw [Gy (by rw [GH]; omega) (by decide), Nat.and_one_is_mod]
    rw [e, ← Int.natCast_add, Xc (by omega) (by omega)]
   ·rw [show 32 - k = (32 - (k + 1)) + 1 by omega] at h3
    have h4 : cnt (32 - (k + 1) + 1) (n / 2 ^ k) = n / 2 ^ k % 2 + cnt (32 - (k + 1)) (n / 2 ^ k / 2) := rfl
    rw [h4] at h3
    rw [Nat.pow_succ, ← Nat.div_div_eq_div_mul]
    omega
 obtain ⟨c, h1, _, h3⟩ := hi 32 (jo _)
 have h4 : cnt (32 - 32) (n / 2 ^ 32) = 0 := rfl
 rw [h4, Nat.add_zero] at h3
 rw [h1] at hl
 unfold Wv Av
 erw [hl]
 rw [← h3]
 rfl
def Bf (m : Md) : Bool := decide (1 ≤ m.1 ∧ m.1 ≤ 4 ∧ 1 ≤ m.2.1 ∧ m.2.1 ≤ 6)
theorem RC (m : Md) : Pp m = some (Bf m, ()) := by
 unfold Pp Bf
 simp only [Yi, Zi]
 apply Rc
 simp only [Ld, decide_eq_true_eq, jq, and_false, or_false]
theorem BK (m : Md) : Vv m = some (Bf m, ()) := by
 unfold Vv Bf
 simp only [Oe, jb, Yi, Zi]
 apply Rc
 simp only [Ld, decide_eq_true_eq, jq, and_false, or_false]
 omega
def Mc (m : Md) : Int := cond (Bf m) (m.1 * m.2.1) 0
theorem YR {m : Md} (h : Bf m = true) : 1 ≤ m.1 * m.2.1 ∧ m.1 * m.2.1 ≤ 24 := by
 simp only [Bf, decide_eq_true_eq] at h
 obtain ⟨r, c, d, u⟩ := m
 obtain ⟨h1, h2, h3, h4⟩ := h
 simp only at h1 h2 h3 h4 ⊢
 have : r = 1 ∨ r = 2 ∨ r = 3 ∨ r = 4 := by omega
 rcases this with rfl | rfl | rfl | rfl <;> omega
theorem Fu (m : Md) : Nk m = some (Mc m, ()) := by
 unfold Nk Mc
 rw [RC]
 cases h : Bf m with
 | false => rfl
 | true => simp only [jb, jg, cond_false, cond_true]; rw [Xc (by have := YR h; omega) (by have := YR h; omega)]
theorem YC (m : Md) : Tp m = some (Mc m, ()) := by
 unfold Tp Mc
 rw [BK]
 cases h : Bf m with
 | false => rfl
 | true => simp only [jb, jg, cond_false, cond_true]; rw [Xc (by have := YR h; omega) (by have := YR h; omega)]
theorem Wt {α : Type} (x lo hi : Int) (X r : α) : cond (decide (x < lo)) X (cond (decide (x > hi)) X r) = cond (decide (lo ≤ x ∧ x ≤ hi)) r X := by
 by_cases h1 : x < lo
 ·rw [Aa h1, Ca (show ¬ (lo ≤ x ∧ x ≤ hi) by omega)]; rfl
 ·rw [Ca h1]
  by_cases h2 : x > hi
  ·rw [Aa h2, Ca (show ¬ (lo ≤ x ∧ x ≤ hi) by omega)]; rfl
  ·rw [Ca h2, Aa (show lo ≤ x ∧ x ≤ hi by omega)]; rfl
theorem Wp {α : Type} (b : Bool) (x y : α) : cond (!b) x y = cond b y x := by cases b <;> rfl
theorem Vaj (a b : Bool) : cond a (some (b, ())) (some (false, ())) = some ((a && b, ()) : Bool × Unit) := by cases a <;> rfl
theorem YT {k : Int} (h : 0 ≤ k ∧ k ≤ 62) : Ra .i64 1 k = ((2 ^ k.toNat : Nat) : Int) := by
 have : k = ((k.toNat : Nat) : Int) := by omega
 rw [this, Qf (by omega)]; rfl
theorem N9 {k : Nat} (h : k ≤ 62) : 1 ≤ 2 ^ k ∧ 2 ^ k ≤ 4611686018427387904 := by
 refine ⟨Nat.one_le_two_pow, ?_⟩
 have := qp (n := 2) (by omega) h
 exact this
def Ff (k x : Int) : Bool := decide (0 ≤ x ∧ x < ((2 ^ k.toNat : Nat) : Int))
def Pb (m : Md) (x : Int) : Bool := Bf m && Ff (Mc m) x
theorem L6 {m : Md} (h : Bf m = true) : 1 ≤ Mc m ∧ Mc m ≤ 24 := by
 unfold Mc; rw [h]; exact YR h
theorem Fl (m : Md) (x : Int) : Uj m x = some (Pb m x, ()) := by
 unfold Uj Pb
 rw [RC]
 cases h : Bf m with
 | false => rfl
 | true =>
  have := L6 h
  rw [Fu]
  simp only [jb, cond_true, jk]
  rw [Aa (show 0 ≤ Mc m by omega), YT (by omega)]
  simp only [cond_true, Vaj, Ff]
  apply Rc
  simp only [jd, decide_eq_true_eq]
theorem U1 (k x : Int) (h : 0 ≤ k ∧ k ≤ 62) : decide (0 ≤ x ∧ x ≤ j9 .i64 (Ra .i64 1 k - 1)) = Ff k x := by
 have hp := N9 (k := k.toNat) (by omega)
 rw [YT h]
 unfold Ff
 generalize 2 ^ k.toNat = z at hp
 rw [Xc (by omega) (by omega)]
 rw [decide_eq_decide]
 omega
theorem JN (m : Md) (x : Int) : OB m x = some (Pb m x, ()) := by
 unfold OB Pb
 rw [BK]
 cases h : Bf m with
 | false => rfl
 | true =>
  have := L6 h
  rw [YC]
  simp only [jb, cond_true, jk, Oe]
  rw [Aa (show 0 ≤ Mc m by omega), U1 _ _ (by omega)]
  rfl
def GI (l : List Int) : Bool := Ad (fun _ x => decide ((0 : Int) ≤ x ∧ x ≤ 99)) 0 l
def Bd (d : Ib) : Bool :=
 decide (0 ≤ d.1 ∧ d.1 ≤ 2) && (decide (1 ≤ d.2.1 ∧ d.2.1 ≤ 20) && (decide (1 ≤ d.2.2.1 ∧ d.2.2.1 ≤ 24) && ((((ja d.2.2.2.2.2.1 : Nat) : Int) == d.2.2.1) && (Ff d.2.2.1 d.2.2.2.1 && (Ff d.2.2.1 d.2.2.2.2.1 && GI d.2.2.2.2.2.1)))))
theorem Kw (d : Ib) (hn : d.2.2.2.2.2.1.length ≤ Ga) : Cl d = some (Bd d, ()) := by
 have h20 : Ga = 1048576 := rfl
 have hl := Le (step := fun x => Gn x.1.1 x.1.2.1 x.1.2.2.1) d.2.2.2.2.2.1 (fun _ x => decide ((0 : Int) ≤ x ∧ x ≤ 99)) (fun i => ((d.2.2.2.2.2.1, ((ja d.2.2.2.2.2.1 : Nat) : Int), i, ()), ()))
  (.inl ((), ())) (.inr ((false, ()), ())) (by
   intro k hk
   simp only [Gn]
   rw [Aa (show (k : Int) < ((ja d.2.2.2.2.2.1 : Nat) : Int) by omega), Wb hk]
   simp only [cond_true, jb, Wt]
   cases decide ((0 : Int) ≤ d.2.2.2.2.2.1[k] ∧ d.2.2.2.2.2.1[k] ≤ 99) <;> rfl) (by
   simp only [Gn]
   rw [Ca (by omega)]; rfl) (by omega)
 unfold Cl Kp Bd
 simp only [Wt]
 cases decide (0 ≤ d.1 ∧ d.1 ≤ 2) with
 | false => rfl
 | true =>
  cases decide (1 ≤ d.2.1 ∧ d.2.1 ≤ 20) with
  | false => rfl
  | true =>
   by_cases h3 : 1 ≤ d.2.2.1 ∧ d.2.2.1 ≤ 24
   ·have hp := N9 (k := d.2.2.1.toNat) (by omega)
    rw [Aa h3, Aa (show 0 ≤ d.2.2.1 by omega), YT (by omega)]
    simp only [cond_true, jk]
    simp only [bne, Wp]
    cases (((ja d.2.2.2.2.2.1 : Nat) : Int) == d.2.2.1) with
    | false => rfl
    | true =>
     simp only [cond_true, jk, Ff]
     have key : ∀ (s z : Int) (X r : Option (Bool × Unit)), cond (decide (s < 0)) X (cond (decide (s ≥ z)) X r) = cond (decide (0 ≤ s ∧ s < z)) r X := by
      intro s z X r
      by_cases h1 : s < 0
      ·rw [Aa h1, Ca (show ¬ (0 ≤ s ∧ s < z) by omega)]; rfl
      ·rw [Ca h1]
       by_cases h2 : s ≥ z
       ·rw [Aa h2, Ca (show ¬ (0 ≤ s ∧ s < z) by omega)]; rfl
       ·rw [Ca h2, Aa (show 0 ≤ s ∧ s < z by omega)]; rfl
     erw [key, key, hl]
     unfold GI
     cases Ad (fun _ x => decide ((0 : Int) ≤ x ∧ x ≤ 99)) 0 d.2.2.2.2.2.1 <;> cases decide (0 ≤ d.2.2.2.1 ∧ d.2.2.2.1 < ((2 ^ d.2.2.1.toNat : Nat) : Int)) <;> cases decide (0 ≤ d.2.2.2.2.1 ∧ d.2.2.2.2.1 < ((2 ^ d.2.2.1.toNat : Nat) : Int)) <;> rfl
   ·rw [Ca h3]; rfl
theorem OE (d : Ib) (hn : d.2.2.2.2.2.1.length ≤ Ga) : Oo d = some (Bd d, ()) := by
 have h20 : Ga = 1048576 := rfl
 have hl := Le (step := fun x => On x.1.1 x.1.2.1 x.2.1) d.2.2.2.2.2.1 (fun _ x => decide ((0 : Int) ≤ x ∧ x ≤ 99)) (fun i => (((), i, ()), (d, ())))
  (.inl (((), ()), (d, ()))) (.inr ((false, ()), ())) (by
   intro k hk
   simp only [On]
   rw [Aa (show (k : Int) < ((ja d.2.2.2.2.2.1 : Nat) : Int) by omega), Wb hk]
   simp only [cond_true, jb, Oe]
   cases decide ((0 : Int) ≤ d.2.2.2.2.2.1[k] ∧ d.2.2.2.2.2.1[k] ≤ 99) <;> rfl) (by
   simp only [On]
   rw [Ca (by omega)]; rfl) (by omega)
 unfold Oo Lp Bd
 simp only [Oe, jb, Wp]
 cases decide (0 ≤ d.1 ∧ d.1 ≤ 2) with
 | false => rfl
 | true =>
  cases decide (1 ≤ d.2.1 ∧ d.2.1 ≤ 20) with
  | false => rfl
  | true =>
   by_cases h3 : 1 ≤ d.2.2.1 ∧ d.2.2.1 ≤ 24
   ·rw [Aa h3]
    simp only [cond_true, jk]
    simp only [bne, Wp]
    cases (((ja d.2.2.2.2.2.1 : Nat) : Int) == d.2.2.1) with
    | false => rfl
    | true =>
     simp only [cond_true, jk]
     erw [hl]
     unfold GI
     cases Ad (fun _ x => decide ((0 : Int) ≤ x ∧ x ≤ 99)) 0 d.2.2.2.2.2.1 with
     | false => cases Ff d.2.2.1 d.2.2.2.1 <;> cases Ff d.2.2.1 d.2.2.2.2.1 <;> rfl
     | true =>
      simp only [cond_true, jb, qn]
      rw [Aa (show 0 ≤ d.2.2.1 by omega), U1 _ _ (by omega), U1 _ _ (by omega)]
      cases Ff d.2.2.1 d.2.2.2.1 <;> cases Ff d.2.2.1 d.2.2.2.2.1 <;> rfl
   ·rw [Ca h3]; rfl
def Vt (L : List Ja) (i : Nat) (x : Ja) : Bool :=
 decide (0 ≤ x.1 ∧ x.1 ≤ 16777215) && (decide (24 ≤ x.2.1 ∧ x.2.1 ≤ 31) && (decide (2 ≤ ((cnt 32 x.1.toNat : Nat) : Int) ∧ ((cnt 32 x.1.toNat : Nat) : Int) ≤ 4) && Ad (fun _ (y : Ja) => !(y.1 == x.1) && !(y.2.1 == x.2.1)) 0 (L.take i)))
def Ke (L : List Ja) : Bool := decide (L.length ≤ 8) && Ad (fun i x => Vt L i x) 0 L
theorem R4 {α : Type} {L : List α} {i k : Nat} (h : k < (L.take i).length) : (L.take i)[k] = L[k]'(by simp at h; omega) := by simp
theorem MJ (L : List Ja) (hn : L.length ≤ Ga) : Ov L = some (Ke L, ()) := by
 have h20 : Ga = 1048576 := rfl
 have hl := Le (step := fun x => Nr x.1.1 x.1.2.1 x.1.2.2.1 x.1.2.2.2.1) L (fun i x => Vt L i x) (fun i => ((L, L, ((ja L : Nat) : Int), i, ()), ()))
  (.inl ((), ())) (.inr ((false, ()), ())) (by
   intro k hk
   simp only [Nr]
   rw [Aa (show (k : Int) < ((ja L : Nat) : Int) by omega), Wb hk]
   simp only [cond_true, jb, Wt, Vt]
   generalize hx : L[k] = x
   by_cases h1 : 0 ≤ x.1 ∧ x.1 ≤ 16777215
   ·rw [Aa h1]
    cases decide (24 ≤ x.2.1 ∧ x.2.1 ≤ 31) with
    | false => rfl
    | true =>
     have e : j9 .u64 x.1 = ((x.1.toNat : Nat) : Int) := by
      have : x.1 = ((x.1.toNat : Nat) : Int) := by omega
      rw [this, TL (by
       have : (2 : Nat) ^ 64 = 18446744073709551616 := by decide
       omega)]
      simp
     rw [e, T6 (by omega)]
     simp only [cond_true, jb, jk, Wt]
     cases decide (2 ≤ ((cnt 32 x.1.toNat : Nat) : Int) ∧ ((cnt 32 x.1.toNat : Nat) : Int) ≤ 4) with
     | false => rfl
     | true =>
      have hcut : Af (ja L) 0 (k : Int) = true := Nt (lo := 0) (Nat.zero_le _) (by omega)
      rw [hcut]
      simp only [cond_true, jk]
      have hin := Le (step := fun y => Zp y.1.1 y.1.2.1 y.1.2.2.1 y.1.2.2.2.1 y.1.2.2.2.2.1 y.1.2.2.2.2.2.1 y.1.2.2.2.2.2.2.1 y.1.2.2.2.2.2.2.2.1 y.2.1) (L.take k) (fun _ (y : Ja) => !(y.1 == x.1) && !(y.2.1 == x.2.1)) (fun i => ((L, (), L, ((ja L : Nat) : Int), (k : Int), L.take k, ((ja (L.take k) : Nat) : Int), i, ()), (x, ())))
       (.inl ((L, L, ((ja L : Nat) : Int), (k : Int), ()), ())) (.inr ((false, ()), ())) (by
        intro j hj
        simp only [Zp]
        rw [Aa (show (j : Int) < ((ja (L.take k) : Nat) : Int) by omega), Wb hj]
        simp only [cond_true, jb]
        cases ((L.take k)[j].1 == x.1) <;> cases ((L.take k)[j].2.1 == x.2.1) <;> rfl) (by
        simp only [Zp]
        rw [Ca (by omega)]; rfl) (by simp; omega)
      have hc : Qb L (jy (0 : Int)) (jy (k : Int)) = L.take k := by simp [Qb]
      rw [hc]
      unfold Rs
      erw [hin]
      cases Ad (fun _ (y : Ja) => !(y.1 == x.1) && !(y.2.1 == x.2.1)) 0 (L.take k) <;> rfl
   ·rw [Ca h1]; rfl) (by
   simp only [Nr]
   rw [Ca (by omega)]; rfl) (by omega)
 unfold Ov Eu Ke
 by_cases h8 : L.length ≤ 8
 ·rw [Ca (show ¬ ((ja L : Nat) : Int) > 8 by omega), Aa h8]
  simp only [cond_false, jk]
  erw [hl]
  cases Ad (fun i x => Vt L i x) 0 L <;> rfl
 ·rw [Aa (show ((ja L : Nat) : Int) > 8 by omega), Ca h8]; rfl
theorem DX (L : List Ja) (hn : L.length ≤ Ga) : CC L = some (Ke L, ()) := by
 have h20 : Ga = 1048576 := rfl
 have hl := Le (step := fun x => Zr x.1.1 x.1.2.1) L (fun i x => Vt L i x) (fun i => ((L, i, ()), ()))
  (.inl ((L, ()), ())) (.inr ((false, ()), ())) (by
   intro k hk
   simp only [Zr]
   rw [Aa (show (k : Int) < ((ja L : Nat) : Int) by omega), Wb hk]
   simp only [cond_true, jb, Oe, Wp, Vt]
   generalize hx : L[k] = x
   by_cases h1 : 0 ≤ x.1 ∧ x.1 ≤ 16777215
   ·rw [Aa h1]
    have e : Wv x.1 = some (((cnt 32 x.1.toNat : Nat) : Int), ()) := by
     obtain ⟨n, hnn⟩ := jv h1.1
     rw [hnn, jn]
     exact HX (by omega)
    rw [e]
    simp only [cond_true, jb, jk]
    cases decide (2 ≤ ((cnt 32 x.1.toNat : Nat) : Int) ∧ ((cnt 32 x.1.toNat : Nat) : Int) ≤ 4) with
    | false => cases decide (24 ≤ x.2.1 ∧ x.2.1 ≤ 31) <;> rfl
    | true =>
     cases decide (24 ≤ x.2.1 ∧ x.2.1 ≤ 31) with
     | false => rfl
     | true =>
      simp only [cond_true, jk]
      have hin := Le (step := fun y => As y.1.1 y.1.2.1 y.1.2.2.1) (L.take k) (fun _ (y : Ja) => !(y.1 == x.1) && !(y.2.1 == x.2.1)) (fun i => ((L, (k : Int), i, ()), ()))
       (.inl ((L, (k : Int), ()), ())) (.inr ((false, ()), ())) (by
        intro j hj
        have hj2 : j < k := by simp at hj; omega
        simp only [As]
        rw [Aa (show (j : Int) < (k : Int) by omega), Wb (show j < L.length by omega), Wb hk, hx, R4 hj]
        simp only [cond_true, jb]
        cases (L[j].1 == x.1) <;> cases (L[j].2.1 == x.2.1) <;> rfl) (by
        have : ((ja (L.take k) : Nat) : Int) = (k : Int) := by simp; omega
        simp only [As]
        rw [Ca (by omega)]; rfl) (by simp; omega)
      unfold Yu
      erw [hin]
      cases Ad (fun _ (y : Ja) => !(y.1 == x.1) && !(y.2.1 == x.2.1)) 0 (L.take k) <;> rfl
   ·rw [Ca h1]; rfl) (by
   simp only [Zr]
   rw [Ca (by omega)]; rfl) (by omega)
 unfold CC Xu Ke
 erw [hl]
 cases Ad (fun i x => Vt L i x) 0 L with
 | true =>
  simp only [cond_true, jb, qn, Bool.and_true]
  apply Rc
  simp only [decide_eq_true_eq]; omega
 | false => cases decide (L.length ≤ 8) <;> rfl
def rowN (C m r : Nat) : Nat := (m >>> (r * C)) &&& (2 ^ C - 1)
theorem JD (C m r j : Nat) : (rowN C m r).testBit j = (decide (j < C) && m.testBit (r * C + j)) := by
 unfold rowN
 rw [Nat.testBit_and, Nat.testBit_two_pow_sub_one, Nat.testBit_shiftRight, Bool.and_comm]
theorem XJ (C m r : Nat) : rowN C m r < 2 ^ C := by
 unfold rowN
 rw [Nat.and_two_pow_sub_one_eq_mod]
 exact Nat.mod_lt _ (Nat.two_pow_pos C)
theorem S9 (C m a x r : Nat) (hx : x < 2 ^ C) : rowN C (m ||| x <<< (a * C)) r = if r = a then rowN C m a ||| x else rowN C m r := by
 apply Nat.eq_of_testBit_eq
 intro j
 rw [JD, Nat.testBit_or, Nat.testBit_shiftLeft]
 by_cases hj : j < C
 ·by_cases hr : r = a
  ·subst hr
   rw [if_pos rfl, Nat.testBit_or, JD, Aa hj, Aa (show r * C + j ≥ r * C by omega), show r * C + j - r * C = j by omega]
   simp
  ·rw [if_neg hr, JD, Aa hj]
   have : (decide (r * C + j ≥ a * C) && x.testBit (r * C + j - a * C)) = false := by
    by_cases h1 : r < a
    ·have h2 : (r + 1) * C ≤ a * C := jm C h1
     rw [Nat.add_mul, Nat.one_mul] at h2
     rw [Ca (show ¬ r * C + j ≥ a * C by omega)]; rfl
    ·have h2 : (a + 1) * C ≤ r * C := jm C (by omega)
     rw [Nat.add_mul, Nat.one_mul] at h2
     have h3 : x.testBit (r * C + j - a * C) = false := by
      apply Nat.testBit_lt_two_pow
      exact qo hx (qp (by omega) (by omega))
     rw [h3, Bool.and_false]
   rw [this, Bool.or_false]
 ·have h3 : x.testBit j = false := Nat.testBit_lt_two_pow (qo hx (qp (by omega) (by omega)))
  rw [Ca hj]
  by_cases hr : r = a
  ·rw [if_pos hr, Nat.testBit_or, JD, Ca hj, h3]; rfl
  ·rw [if_neg hr, JD, Ca hj]; rfl
theorem Y9 {C x a R : Nat} (hx : x < 2 ^ C) (ha : a < R) : x <<< (a * C) < 2 ^ (R * C) := by
 rw [Nat.shiftLeft_eq]
 have h1 : x * 2 ^ (a * C) < 2 ^ C * 2 ^ (a * C) := Nat.mul_lt_mul_of_pos_right hx (Nat.two_pow_pos _)
 rw [← Nat.pow_add] at h1
 have h2 : (a + 1) * C ≤ R * C := jm C ha
 rw [Nat.add_mul, Nat.one_mul] at h2
 exact qo h1 (qp (by omega) (by omega))
def Dv (C a b m : Nat) : Nat := cond (rowN C m a &&& rowN C m b != 0) (m ||| rowN C m b <<< (a * C)) m
theorem Gay {C a b m R : Nat} (hm : m < 2 ^ (R * C)) (ha : a < R) : Dv C a b m < 2 ^ (R * C) := by
 unfold Dv
 cases rowN C m a &&& rowN C m b != 0 with
 | false => exact hm
 | true => exact Nat.or_lt_two_pow hm (Y9 (XJ C m b) ha)
theorem DH {S : Type} {g : Nat → S → S} {p : S → Prop} {s0 : S} {n : Nat} (h0 : p s0) (hs : ∀ k s, k < n → p s → p (g k s)) : ∀ k, k ≤ n → p (Zd g k s0)
 | 0, _ => h0
 | k + 1, h => hs k _ (by omega) (DH h0 hs k (by omega))
def g3 (C a : Nat) : Nat → Nat → Nat := fun b m => Dv C a b m
def g2 (C R : Nat) : Nat → Nat → Nat := fun a m => Zd (g3 C a) R m
def g1 (C R : Nat) : Nat → Nat → Nat := fun _ m => Zd (g2 C R) R m
def Sh (C R m : Nat) : Nat := Zd (g1 C R) R m
theorem Fau {C R m a : Nat} (hm : m < 2 ^ (R * C)) (ha : a < R) (k : Nat) (hk : k ≤ R) : Zd (g3 C a) k m < 2 ^ (R * C) :=
 DH (p := fun m => m < 2 ^ (R * C)) (n := R) hm (fun b s _ hs => Gay hs ha) k hk
theorem Eau {C R m : Nat} (hm : m < 2 ^ (R * C)) (k : Nat) (hk : k ≤ R) : Zd (g2 C R) k m < 2 ^ (R * C) :=
 DH (p := fun m => m < 2 ^ (R * C)) (n := R) hm (fun a s ha hs => Fau hs ha R (jo _)) k hk
theorem Dau {C R m : Nat} (hm : m < 2 ^ (R * C)) (k : Nat) (hk : k ≤ R) : Zd (g1 C R) k m < 2 ^ (R * C) :=
 DH (p := fun m => m < 2 ^ (R * C)) (n := R) hm (fun _ s _ hs => Eau hs R (jo _)) k hk
structure RG (C R : Nat) : Prop where
 c1 : 1 ≤ C
 c2 : C ≤ 6
 r1 : 1 ≤ R
 r2 : R ≤ 4
theorem MM {C R r : Nat} (h : RG C R) (hr : r ≤ R) : r * C ≤ 24 := qf (Nat.mul_le_mul (qf hr h.r2) h.c2) (by decide)
theorem QD {C R m : Nat} (h : RG C R) (hm : m < 2 ^ (R * C)) : m < 2 ^ 63 := qo hm (qp (by omega) (by have := MM h (jo R); omega))
theorem WZ {C R m : Nat} (h : RG C R) (r : Nat) : rowN C m r < 2 ^ 63 := qo (XJ C m r) (qp (by omega) (by have := h.c2; omega))
theorem TT {C R r : Nat} (h : RG C R) (hr : r ≤ R) : j9 .i64 ((r : Int) * (C : Int)) = ((r * C : Nat) : Int) := by
 have := MM h hr
 rw [← Int.natCast_mul]
 generalize r * C = z at *
 exact Xc (by omega) (by omega)
theorem Cay {C R m r : Nat} (h : RG C R) (hm : m < 2 ^ 63) (hr : r ≤ R) :
 Ya .i64 (Hc .i64 (m : Int) (j9 .i64 ((r : Int) * (C : Int)))) (j9 .i64 (Ra .i64 1 (C : Int) - 1)) = ((rowN C m r : Nat) : Int) := by
 have h1 := MM h hr
 have h2 := h.c2
 have hp := N9 (k := C) (by omega)
 have hsh : m >>> (r * C) ≤ m := by rw [Nat.shiftRight_eq_div_pow]; exact Nat.div_le_self _ _
 have e : j9 .i64 (((2 ^ C : Nat) : Int) - 1) = ((2 ^ C - 1 : Nat) : Int) := by
  generalize 2 ^ C = z at hp
  rw [Xc (by omega) (by omega)]; omega
 rw [TT h hr, UO m (by omega), Qf (by omega), e, Gy (by omega) (by rw [GH]; generalize 2 ^ C = z at hp; omega)]
 rfl
theorem PaD {C R m a x : Nat} (h : RG C R) (hm : m < 2 ^ (R * C)) (ha : a < R) (hx : x < 2 ^ C) :
 Tc .i64 (m : Int) (Ra .i64 (x : Int) (j9 .i64 ((a : Int) * (C : Int)))) = ((m ||| x <<< (a * C) : Nat) : Int) := by
 have h1 := MM h (Nat.le_of_lt ha)
 have h2 := Y9 hx ha
 have h3 : x <<< (a * C) < 2 ^ 63 := QD h h2
 rw [TT h (Nat.le_of_lt ha), Maq (by rw [← Nat.shiftLeft_eq]; exact h3) (by omega), Hk (QD h hm) h3]
theorem ZaA (x y : Nat) (hx : x < 2 ^ 63) (hy : y < 2 ^ 63) : (Ya .i64 (x : Int) (y : Int) != 0) = (x &&& y != 0) := by
 rw [Gy hx hy, q7]
 simp
def Hj (C m : Nat) : List Int := [((rowN C m 0 : Nat) : Int), ((rowN C m 1 : Nat) : Int), ((rowN C m 2 : Nat) : Int), ((rowN C m 3 : Nat) : Int)]
theorem lt4 {r : Nat} (h : r < 4) : r = 0 ∨ r = 1 ∨ r = 2 ∨ r = 3 := by omega
theorem IS {C m r : Nat} (h : r < 4) : (Hj C m)[r]? = some ((rowN C m r : Nat) : Int) := by
 rcases lt4 h with rfl | rfl | rfl | rfl <;> rfl
theorem Can {C m a x : Nat} (ha : a < 4) (hx : x < 2 ^ C) : (Hj C m).set a (((rowN C m a ||| x : Nat)) : Int) = Hj C (m ||| x <<< (a * C)) := by
 unfold Hj
 simp only [S9 C m a x _ hx]
 rcases lt4 ha with rfl | rfl | rfl | rfl <;> simp
theorem Jaq {C m r : Nat} (h : r < 4) : Ei (ja (Hj C m)) (r : Int) = true := by
 rw [Qp]; exact Aa h
theorem Kah {C R m a : Nat} (h : RG C R) (d : Bool) (hm : m < 2 ^ (R * C)) (ha : a < R) (t1 t2 t3 t4 : Int) :
 UA (((), Hj C m, (a : Int), t1, t2, t3, t4, (R : Int), (0 : Int), ()), (((R : Int), (C : Int), d, ()), ())) = some (.inl (((), Hj C (g2 C R a m), t1, t2, t3, t4, ()), (((R : Int), (C : Int), d, ()), ()))) := by
 have hr2 := h.r2
 have := Un (step := fun x => AA x.1.1 x.1.2.1 x.1.2.2.1 x.1.2.2.2.1 x.1.2.2.2.2.1 x.1.2.2.2.2.2.1 x.1.2.2.2.2.2.2.1 x.1.2.2.2.2.2.2.2.1 x.1.2.2.2.2.2.2.2.2.1 x.2.1) R (by omega) (g3 C a) m
  (fun s i => (((), Hj C s, (a : Int), t1, t2, t3, t4, (R : Int), i, ()), (((R : Int), (C : Int), d, ()), ()))) (fun s => .inl (((), Hj C s, t1, t2, t3, t4, ()), (((R : Int), (C : Int), d, ()), ())))
  (by
   intro k hk
   have hs := Fau hm ha k (by omega)
   generalize Zd (g3 C a) k m = s at *
   simp only [AA]
   have hlen : Nat.beq 4 (ja (Hj C s)) = true := rfl
   rw [Aa (show (k : Int) < (R : Int) by omega), hlen, Jaq (show a < 4 by omega), Jaq (show k < 4 by omega)]
   simp only [jn, cond_true]
   rw [IS (show a < 4 by omega), IS (show k < 4 by omega)]
   simp only [jb]
   rw [ZaA _ _ (WZ h _) (WZ h _), Hk (WZ h _) (WZ h _), Can (show a < 4 by omega) (XJ C s k)]
   unfold g3 Dv
   cases (rowN C s a &&& rowN C s k != 0) <;> rfl)
  (by
   simp only [AA]
   rw [Ca (by omega)]; rfl)
 exact this
theorem Jah {C R m : Nat} (h : RG C R) (d : Bool) (hm : m < 2 ^ (R * C)) (t1 t2 : Int) :
 TA (((), Hj C m, t1, t2, (R : Int), (0 : Int), ()), (((R : Int), (C : Int), d, ()), ())) = some (.inl (((), Hj C (Zd (g2 C R) R m), t1, t2, ()), (((R : Int), (C : Int), d, ()), ()))) := by
 have hr2 := h.r2
 have := Un (step := fun x => Zz x.1.1 x.1.2.1 x.1.2.2.1 x.1.2.2.2.1 x.1.2.2.2.2.1 x.1.2.2.2.2.2.1 x.2.1) R (by omega) (g2 C R) m
  (fun s i => (((), Hj C s, t1, t2, (R : Int), i, ()), (((R : Int), (C : Int), d, ()), ()))) (fun s => .inl (((), Hj C s, t1, t2, ()), (((R : Int), (C : Int), d, ()), ())))
  (by
   intro k hk
   have hs := Eau hm k (by omega)
   generalize Zd (g2 C R) k m = s at *
   simp only [Zz]
   rw [Aa (show (k : Int) < (R : Int) by omega), Kah h d hs hk]; rfl)
  (by
   simp only [Zz]
   rw [Ca (by omega)]; rfl)
 exact this
theorem Iah {C R m : Nat} (h : RG C R) (d : Bool) (hm : m < 2 ^ (R * C)) :
 SA (((), Hj C m, (R : Int), (0 : Int), ()), (((R : Int), (C : Int), d, ()), ())) = some (.inl (((), Hj C (Sh C R m), ()), (((R : Int), (C : Int), d, ()), ()))) := by
 have hr2 := h.r2
 have := Un (step := fun x => Yz x.1.1 x.1.2.1 x.1.2.2.1 x.1.2.2.2.1 x.2.1) R (by omega) (g1 C R) m
  (fun s i => (((), Hj C s, (R : Int), i, ()), (((R : Int), (C : Int), d, ()), ()))) (fun s => .inl (((), Hj C s, ()), (((R : Int), (C : Int), d, ()), ())))
  (by
   intro k hk
   have hs := Dau hm k (by omega)
   generalize Zd (g1 C R) k m = s at *
   simp only [Yz]
   rw [Aa (show (k : Int) < (R : Int) by omega), Jah h d hs]; rfl)
  (by
   simp only [Yz]
   rw [Ca (by omega)]; rfl)
 exact this
def HB (C m k : Nat) : List Int := [0, 1, 2, 3].map fun r => if r < k then ((rowN C m r : Nat) : Int) else 0
theorem Par {C R m r : Nat} (hm : m < 2 ^ (R * C)) (hr : R ≤ r) : rowN C m r = 0 := by
 unfold rowN
 have : m >>> (r * C) = 0 := by
  rw [Nat.shiftRight_eq_div_pow]
  apply Nat.div_eq_of_lt
  exact qo hm (qp (by omega) (jm C hr))
 rw [this, Nat.zero_and]
theorem Cah {C R m : Nat} (hm : m < 2 ^ (R * C)) : HB C m R = Hj C m := by
 have key : ∀ r, (if r < R then ((rowN C m r : Nat) : Int) else 0) = ((rowN C m r : Nat) : Int) := by
  intro r
  by_cases h : r < R
  ·rw [if_pos h]
  ·rw [if_neg h, Par hm (by omega)]; rfl
 unfold HB Hj
 simp only [List.map_cons, List.map_nil, key]
theorem Dah {C m k : Nat} (hk : k < 4) : (HB C m k).set k ((rowN C m k : Nat) : Int) = HB C m (k + 1) := by
 rcases lt4 hk with rfl | rfl | rfl | rfl <;> simp [HB]
theorem Nak {C R m : Nat} (h : RG C R) (d : Bool) (hm : m < 2 ^ (R * C)) :
 TC (((m : Int), (), List.replicate 4 (0 : Int), (R : Int), (0 : Int), ()), (((R : Int), (C : Int), d, ()), ())) = some (.inl (((), Hj C m, ()), (((R : Int), (C : Int), d, ()), ()))) := by
 have hr2 := h.r2
 have := Y3 (step := fun x => XB x.1.1 x.1.2.1 x.1.2.2.1 x.1.2.2.2.1 x.1.2.2.2.2.1 x.2.1) (fun k => (((m : Int), (), HB C m k, (R : Int), (k : Int), ()), (((R : Int), (C : Int), d, ()), ()))) R (.inl (((), Hj C m, ()), (((R : Int), (C : Int), d, ()), ())))
  (by
   intro k hk
   simp only [XB]
   have hlen : Nat.beq 4 (ja (HB C m k)) = true := rfl
   have hin : Ei (ja (HB C m k)) (k : Int) = true := by rw [Qp]; exact Aa (show k < 4 by omega)
   have hget : ∃ y, (HB C m k)[k]? = some y := ⟨(HB C m k)[k]'(show k < 4 by omega), je _⟩
   obtain ⟨y, hy⟩ := hget
   rw [Aa (show (k : Int) < (R : Int) by omega), Cay h (QD h hm) (by omega), TT h (by omega), Aa (Int.natCast_nonneg _), Aa (Int.natCast_nonneg C), hlen, hin]
   simp only [jn, cond_true]
   rw [hy]
   simp only [jb]
   rw [Dah (by omega), Ig (by omega)])
  (by
   simp only [XB]
   rw [Ca (by omega), Cah hm]; rfl)
 exact this
theorem V8 {C m : Nat} : ∀ k, ∀ j, (Zd (fun i s => s ||| rowN C m i <<< (i * C)) k 0).testBit j = (decide (j < k * C) && m.testBit j)
 | 0, j => by simp [Zd]
 | k + 1, j => by
  simp only [Zd]
  rw [Nat.testBit_or, V8 k j, Nat.testBit_shiftLeft, JD, Nat.add_mul, Nat.one_mul]
  by_cases h1 : j < k * C
  ·rw [Aa h1, Ca (show ¬ j ≥ k * C by omega), Aa (show j < k * C + C by omega)]; simp
  ·rw [Ca h1, Aa (show j ≥ k * C by omega), show k * C + (j - k * C) = j by omega]
   by_cases h2 : j < k * C + C
   ·rw [Aa h2, Aa (show j - k * C < C by omega)]; simp
   ·rw [Ca h2, Ca (show ¬ j - k * C < C by omega)]; simp
theorem Naq {C R m : Nat} (hm : m < 2 ^ (R * C)) : Zd (fun i s => s ||| rowN C m i <<< (i * C)) R 0 = m := by
 apply Nat.eq_of_testBit_eq
 intro j
 rw [V8]
 by_cases h : j < R * C
 ·rw [Aa h]; rfl
 ·rw [Ca h, Nat.testBit_lt_two_pow (qo hm (qp (by omega) (by omega)))]; rfl
theorem Rav {C R m : Nat} (k : Nat) (hk : k ≤ R) : Zd (fun i s => s ||| rowN C m i <<< (i * C)) k 0 < 2 ^ (R * C) :=
 DH (p := fun s => s < 2 ^ (R * C)) (n := R) (Nat.two_pow_pos _) (fun i s hi hs => Nat.or_lt_two_pow hs (Y9 (XJ C m i) hi)) k hk
theorem Oak {C R m : Nat} (h : RG C R) (d : Bool) (hm : m < 2 ^ (R * C)) :
 VA (((), Hj C m, (0 : Int), (R : Int), (0 : Int), ()), (((R : Int), (C : Int), d, ()), ())) = some (.inl (((m : Int), ()), ())) := by
 have hr2 := h.r2
 have := Un (step := fun x => BA x.1.1 x.1.2.1 x.1.2.2.1 x.1.2.2.2.1 x.1.2.2.2.2.1 x.2.1) R (by omega) (fun i s => s ||| rowN C m i <<< (i * C)) 0
  (fun (s : Nat) i => (((), Hj C m, (s : Int), (R : Int), i, ()), (((R : Int), (C : Int), d, ()), ()))) (fun s => .inl (((s : Int), ()), ()))
  (by
   intro k hk
   have hs := Rav (C := C) (R := R) (m := m) k (by omega)
   generalize Zd (fun i s => s ||| rowN C m i <<< (i * C)) k 0 = s at *
   have hlen : Nat.beq 4 (ja (Hj C m)) = true := rfl
   simp only [BA]
   rw [Aa (show (k : Int) < (R : Int) by omega), hlen, Jaq (show k < 4 by omega)]
   simp only [jn, cond_true]
   rw [IS (show k < 4 by omega)]
   simp only [jb]
   rw [PaD h hs hk (XJ C m k), TT h (by omega), Aa (Int.natCast_nonneg _)]; rfl)
  (by
   simp only [BA]
   rw [Ca (by omega)]; rfl)
 rw [Naq hm] at this
 exact this
theorem VW {C R m : Nat} (hm : m < 2 ^ (R * C)) : Sh C R m < 2 ^ (R * C) := Dau hm R (jo _)
theorem P8 {C R m : Nat} (h : RG C R) (d : Bool) (hm : m < 2 ^ (R * C)) : Ot ((R : Int), (C : Int), d, ()) (m : Int) = some (((cond d m (Sh C R m) : Nat) : Int), ()) := by
 unfold Ot
 cases d with
 | true => rfl
 | false =>
  simp only [cond_false]
  rw [Nak h false hm]
  simp only [jb, qn]
  rw [Iah h false hm]
  simp only [jb, qn]
  rw [Oak h false (VW hm)]
  rfl
def Ki (M : Md) (x : Int) : Int := ((cond M.2.2.1 x.toNat (Sh M.2.1.toNat M.1.toNat x.toNat) : Nat) : Int)
theorem Wy {M : Md} {x : Int} (h : Pb M x = true) : ∃ C R m : Nat, ∃ d : Bool, M = ((R : Int), (C : Int), d, ()) ∧ x = (m : Int) ∧ RG C R ∧ m < 2 ^ (R * C) := by
 obtain ⟨r, c, d, u⟩ := M
 simp only [Pb, jd, Ff, decide_eq_true_eq] at h
 have hm := h.1
 simp only [Bf, decide_eq_true_eq] at hm
 obtain ⟨R, rfl⟩ := jv (show 0 ≤ r by omega)
 obtain ⟨C, rfl⟩ := jv (show 0 ≤ c by omega)
 obtain ⟨m, rfl⟩ := jv h.2.1
 refine ⟨C, R, m, d, rfl, rfl, ⟨by omega, by omega, by omega, by omega⟩, ?_⟩
 have hk : Mc ((R : Int), (C : Int), d, u) = ((R * C : Nat) : Int) := by
  unfold Mc; rw [h.1]; simp
 rw [hk, jn] at h
 exact Int.ofNat_lt.1 h.2.2
theorem PC {C R m : Nat} {d : Bool} (h : RG C R) (hm : m < 2 ^ (R * C)) : Pb ((R : Int), (C : Int), d, ()) (m : Int) = true := by
 have h1 := h.c1; have h2 := h.c2; have h3 := h.r1; have h4 := h.r2
 have hM : Bf ((R : Int), (C : Int), d, ()) = true := by simp only [Bf, decide_eq_true_eq]; omega
 have hk : Mc ((R : Int), (C : Int), d, ()) = ((R * C : Nat) : Int) := by
  unfold Mc; rw [hM]; simp
 simp only [Pb, hM, hk, Ff, jn, jk, decide_eq_true_eq]
 exact ⟨Int.natCast_nonneg _, Int.ofNat_lt.2 hm⟩
theorem JH {C R m : Nat} {d : Bool} : Ki ((R : Int), (C : Int), d, ()) (m : Int) = ((cond d m (Sh C R m) : Nat) : Int) := by
 unfold Ki
 simp only [jn]
theorem OT {M : Md} {x : Int} (h : Pb M x = true) : Ot M x = some (Ki M x, ()) := by
 obtain ⟨C, R, m, d, rfl, rfl, hd, hm⟩ := Wy h
 rw [P8 hd d hm, JH]
theorem Zam {M : Md} {x : Int} (h : Pb M x = true) : Pb M (Ki M x) = true := by
 obtain ⟨C, R, m, d, rfl, rfl, hd, hm⟩ := Wy h
 rw [JH]
 cases d with
 | true => exact PC hd hm
 | false => exact PC hd (VW hm)
def Rp (M : Md) (x : Int) : Bool := Pb M x && (Ki M x == x)
theorem QA (M : Md) (x : Int) : Xn M x = some (Rp M x, ()) := by
 unfold Xn Rp
 rw [Fl]
 cases h : Pb M x with
 | false => rfl
 | true => simp only [jb, cond_true, jk]; rw [OT h]; rfl
theorem LR (M : Md) (x : Int) : Dx M x = some (cond (Pb M x) (Ki M x) 0, Pb M x, ()) := by
 unfold Dx
 rw [Fl]
 cases h : Pb M x with
 | false => rfl
 | true => simp only [jb, jg, cond_false, cond_true]; rw [OT h]; rfl
theorem Eaj {M : Md} {x : Int} {k : Nat} (h : Pb M x = true) (hk : k ≤ 62) : Pb M (Gc .i64 x (Ra .i64 1 (k : Int))) = true := by
 obtain ⟨C, R, m, d, rfl, rfl, hd, hm⟩ := Wy h
 rw [Qf hk, Tn (QD hd hm) (Gf hk)]
 exact PC hd (qu hm (Nat.lt_of_le_of_lt Nat.and_le_left hm))
def MV (M : Md) (x : Int) (k : Nat) : Bool := (Rd x (k : Int) == 1) && (Ki M (Gc .i64 x (Ra .i64 1 (k : Int))) == x)
theorem Jaj {x : Nat} {k : Nat} (hx : x < 2 ^ 63) (hk : k ≤ 64) : Rd (x : Int) (k : Int) = 0 ∨ Rd (x : Int) (k : Int) = 1 := by
 unfold Rd
 have h1 : x >>> k ≤ x := by rw [Nat.shiftRight_eq_div_pow]; exact Nat.div_le_self _ _
 rw [UO x hk]
 show Ya .i64 ((x >>> k : Nat) : Int) ((1 : Nat) : Int) = _ ∨ Ya .i64 ((x >>> k : Nat) : Int) ((1 : Nat) : Int) = _
 rw [Gy (by omega) (by decide), Nat.and_one_is_mod]
 omega
theorem Lap {M : Md} {x : Int} {k : Nat} (h : Pb M x = true) (hk : k ≤ 64) : (Rd x (k : Int) == 0) = !(Rd x (k : Int) == 1) := by
 obtain ⟨C, R, m, d, rfl, rfl, hd, hm⟩ := Wy h
 rcases Jaj (QD hd hm) hk with h | h <;> rw [h] <;> rfl
theorem Zad {M : Md} {x : Int} (h : Rp M x = true) : Pb M x = true ∧ 1 ≤ Mc M ∧ Mc M ≤ 24 := by
 simp only [Rp, jd] at h
 have h2 := h.1
 simp only [Pb, jd] at h2
 exact ⟨h.1, L6 h2.1⟩
theorem CQ {M : Md} {x : Int} (h : Rp M x = true) {k : Nat} (hk : (k : Int) < Mc M) :
 ∃ y, Yt M x (k : Int) = some (y, MV M x k, ()) := by
 have hm := Zad h
 unfold Yt MV
 rw [QA, h, Fu]
 simp only [jb, jg, cond_false]
 rw [Ca (show ¬ (k : Int) < 0 by omega), Ca (show ¬ (k : Int) ≥ Mc M by omega), Aa (show 0 ≤ (k : Int) by omega)]
 simp only [cond_false, cond_true]
 have hb := Lap (k := k) hm.1 (by omega)
 unfold Rd at hb ⊢
 rw [hb]
 cases Ya .i64 (Hc .i64 x (k : Int)) 1 == 1 with
 | false => exact ⟨_, rfl⟩
 | true =>
  simp only [jg, cond_false, jk]
  rw [OT (Eaj hm.1 (by omega))]
  simp only [jb, bne]
  cases Ki M (Gc .i64 x (Ra .i64 1 (k : Int))) == x <;> exact ⟨_, rfl⟩
def LM (M : Md) (x : Int) (k : Nat) (s : Int) : Int := cond ((Rd x (k : Int) == 1) && !MV M x k) (Tc .i64 s (Ra .i64 1 (k : Int))) s
def WQ (M : Md) (x : Int) : Int := cond (Rp M x) (Zd (LM M x) (Mc M).toNat 0) 0
theorem CU (M : Md) (x : Int) : Vz M x = some (WQ M x, ()) := by
 unfold Vz WQ
 rw [QA]
 cases h : Rp M x with
 | false => rfl
 | true =>
  have hm := Zad h
  obtain ⟨n, hn⟩ := jv (show 0 ≤ Mc M by omega)
  have hl := Un (step := fun y => Xp y.1.1 y.1.2.1 y.1.2.2.1 y.1.2.2.2.1 y.1.2.2.2.2.1 y.2.1) n (by omega) (LM M x) 0 (fun s i => ((x, (), s, (n : Int), i, ()), (M, ()))) (fun s => .inl ((s, ()), ()))
   (by
    intro k hk
    generalize Zd (LM M x) k 0 = s
    obtain ⟨y, hy⟩ := CQ h (k := k) (by omega)
    simp only [Xp]
    rw [Aa (show (k : Int) < (n : Int) by omega), Aa (show 0 ≤ (k : Int) by omega), hy]
    simp only [cond_true, jb, LM, Rd]
    cases Ya .i64 (Hc .i64 x (k : Int)) 1 == 1 <;> cases MV M x k <;> rfl)
   (by
    simp only [Xp]
    rw [Ca (by omega)]; rfl)
  rw [Fu, hn]
  simp only [jb, jg, cond_false, cond_true, jn]
  unfold Qs
  erw [hl]
  rfl
def JV (M : Md) (old x : Int) : Int := Ya .i64 x (Tc .i64 old (WQ M x))
def RH (M : Md) (old x : Int) : Bool := Pb M old && Rp M x
theorem UM (M : Md) (old x : Int) : Vl M old x = some (cond (RH M old x) (JV M old x) 0, RH M old x, ()) := by
 unfold Vl RH
 rw [Fl, QA, CU]
 cases Pb M old <;> cases Rp M x <;> rfl
theorem Hap {M : Md} {x : Int} (h : Pb M x = true) (y : Int) : Pb M (Ya .i64 x y) = true := by
 obtain ⟨C, R, m, d, rfl, rfl, hd, hm⟩ := Wy h
 have hm63 := QD hd hm
 have e : Ya .i64 (m : Int) y = ((m &&& (BitVec.ofInt 64 y).toNat : Nat) : Int) := by
  have h2 : (BitVec.ofInt (IntKind.bits .i64) (m : Int) &&& BitVec.ofInt (IntKind.bits .i64) y).toNat = m &&& (BitVec.ofInt 64 y).toNat := by
   rw [BitVec.toNat_and]; erw [OD hm63]; rfl
  unfold Ya
  rw [h2]
  have h3 : m &&& (BitVec.ofInt 64 y).toNat ≤ m := Nat.and_le_left
  have h4 := GH
  exact Xc (by omega) (by omega)
 rw [e]
 exact PC hd (Nat.lt_of_le_of_lt Nat.and_le_left hm)
theorem Fap {M : Md} {old x : Int} (h : RH M old x = true) : Pb M (JV M old x) = true := by
 simp only [RH, Rp, jd] at h
 exact Hap h.2.1 _
def ZW (M : Md) (s : Int × List Int) (x : Int) : (Int × List Int) ⊕ Unit :=
 cond (Pb M x && RH M s.1 (Ki M x)) (.inl (JV M s.1 (Ki M x), jf s.2 [JV M s.1 (Ki M x)])) (.inr ())
structure Uh (c : Ab) : Prop where
 lo : 0 ≤ c.2.1
 hi : c.2.1 ≤ (c.1.length : Int)
 len : c.1.length ≤ Ga
theorem Daj (z : Int) : 0 ≤ Ya .i64 z 255 ∧ Ya .i64 z 255 ≤ 255 := by
 have h : (BitVec.ofInt 64 z &&& BitVec.ofInt 64 255).toNat ≤ 255 := by
  rw [BitVec.toNat_and]
  exact Nat.and_le_right
 show 0 ≤ j9 .i64 ((BitVec.ofInt 64 z &&& BitVec.ofInt 64 255).toNat : Int) ∧ j9 .i64 ((BitVec.ofInt 64 z &&& BitVec.ofInt 64 255).toNat : Int) ≤ 255
 rw [Xc (by omega) (by omega)]
 omega
theorem HT {c : Ab} (h : Uh c) : ∃ (c' : Ab) (x : Int), Wn c = some (c', (x, ())) ∧ Uh c' ∧ 0 ≤ x ∧ x ≤ 255 := by
 have h20 : Ga = 1048576 := rfl
 have h1 := h.lo
 have h2 := h.len
 unfold Wn
 by_cases hi : c.2.1 < ((ja c.1 : Nat) : Int)
 ·obtain ⟨k, hk⟩ := jv h1
  rw [Aa hi, hk, Wb (show k < c.1.length by omega)]
  refine ⟨_, _, rfl, ⟨?_, ?_, h2⟩, Daj _⟩
  ·show 0 ≤ j9 .i64 ((k : Int) + 1)
   rw [Ig (by omega)]; omega
  ·show j9 .i64 ((k : Int) + 1) ≤ _
   rw [Ig (by omega)]; show _ ≤ ((ja c.1 : Nat) : Int); omega
 ·rw [Ca hi]
  exact ⟨_, _, rfl, ⟨h1, h.hi, h2⟩, Daj _⟩
theorem Eh {c : Ab} (h : Uh c) (n : Int) (hn : 0 < n) : ∃ (c' : Ab) (x : Int), Cb c n = some (c', (x, ())) ∧ Uh c' ∧ 0 ≤ x ∧ x < n := by
 obtain ⟨c1, x1, e1, h1, b1⟩ := HT h
 unfold Cb
 rw [Ca (show ¬ n ≤ 0 by omega), e1, show (n == 0) = false by simp; omega]
 simp only [cond_false, jb]
 by_cases h256 : n ≤ 256
 ·rw [Aa h256]
  exact ⟨_, _, rfl, h1, Int.tmod_nonneg _ (by omega), Int.tmod_lt_of_pos _ hn⟩
 ·obtain ⟨c2, x2, e2, h2, b2⟩ := HT h1
  obtain ⟨c3, x3, e3, h3, b3⟩ := HT h2
  obtain ⟨c4, x4, e4, h4, b4⟩ := HT h3
  rw [Ca h256, e2]
  simp only [cond_false, jb]
  rw [e3]
  simp only [jb]
  rw [e4]
  simp only [jb]
  rw [Xc (n := x1 * 16777216) (by omega) (by omega), Xc (n := x2 * 65536) (by omega) (by omega), Xc (n := x3 * 256) (by omega) (by omega), Xc (n := x1 * 16777216 + x2 * 65536) (by omega) (by omega), Xc (n := x1 * 16777216 + x2 * 65536 + x3 * 256) (by omega) (by omega), Xc (n := x1 * 16777216 + x2 * 65536 + x3 * 256 + x4) (by omega) (by omega)]
  exact ⟨_, _, rfl, h4, Int.tmod_nonneg _ (by omega), Int.tmod_lt_of_pos _ hn⟩
theorem Ct {c : Ab} (h : Uh c) (n : Int) (hn : 0 < n) : ∃ (c' : Ab) (b : Bool), Bh c n = some (c', (b, ())) ∧ Uh c' := by
 obtain ⟨c1, x1, e1, h1, b1⟩ := Eh h n hn
 unfold Bh
 rw [e1]
 exact ⟨_, _, rfl, h1⟩
theorem Xad {c : Ab} (h : Uh c) (l : List Int) (hl : 0 < l.length) (h2 : l.length ≤ 1000) : ∃ (c' : Ab) (x : Int), Ht c l = some (c', (x, ())) ∧ Uh c' ∧ x ∈ l := by
 obtain ⟨c1, x1, e1, h1, b1⟩ := Eh h ((ja l : Nat) : Int) (by omega)
 unfold Ht
 rw [e1]
 obtain ⟨k, rfl⟩ := jv b1.1
 have hk : k < l.length := by omega
 simp only [jb]
 rw [Qp, Aa hk, jn, je hk]
 exact ⟨_, _, rfl, h1, qv hk⟩
theorem IaD (a : List Int) (hn : a.length ≤ Ga) : ∃ h : Int, PI a = some (a, (0, (h, ()))) := by
 have h20 : Ga = 1048576 := rfl
 have := Uy (s := fun x : (List Int × (Int × (Int × Unit))) × Unit => HF x.1.1 x.1.2.1 x.1.2.2.1) (fun n x => ∃ (h : Int) (k : Nat), x = ((a, h, (k : Int), ()), ()) ∧ n + k = a.length) (fun r => ∃ h : Int, r = .inl ((a, h, ()), ())) (by
  rintro n x ⟨h, k, rfl, hk⟩
  simp only [HF]
  by_cases h1 : (k : Int) < ((ja a : Nat) : Int)
  ·rw [Aa h1]
   by_cases h2 : (k : Int) < 4000
   ·rw [Aa h2, Wb (show k < a.length by omega), Ig (by omega)]
    exact .inr ⟨_, n - 1, by omega, rfl, _, k + 1, rfl, by omega⟩
   ·rw [Ca h2]; exact .inl ⟨_, rfl, _, rfl⟩
  ·rw [Ca h1]; exact .inl ⟨_, rfl, _, rfl⟩) a.length ((a, j9 .i64 (10729 + ((ja a : Nat) : Int)), ((0 : Nat) : Int), ()), ()) ⟨_, 0, rfl, rfl⟩
 obtain ⟨r, h1, h, rfl⟩ := this
 refine ⟨h, ?_⟩
 unfold PI ZA
 erw [h1]
 rfl
theorem Taq (a : List Int) (n : Int) (hn : a.length ≤ Ga) : ∃ c : Ab, KG a n = some c ∧ Uh c := by
 obtain ⟨h, e⟩ := IaD a hn
 unfold KG
 rw [e]
 exact ⟨_, rfl, ⟨Int.le_refl _, by show (0 : Int) ≤ _; omega, hn⟩⟩
end KF
