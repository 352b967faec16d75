/- An evaluator of Go functions on plain data, its soundness, and plain laws on what the functions compute, part 4 (conditions: as each lemma tells). -/
import Derived.Test.YthipacpeljffpaaGreatC
set_option linter.unusedSimpArgs false
set_option linter.unusedVariables false
namespace KF
open Go
open List renaming length → ja, getElem?_eq_getElem → je, append → jf, mem_append → jl, mem_cons → jp, mem_cons_of_mem → jr, length_cons → jw, set → qa, length_nil → qb, mem_singleton → qg, length_append → qh, getD_eq_getElem?_getD → qj, getElem_mem → qt, getElem_of_mem → qu, mem_map → qv, length_drop → qw, ext_getElem? → q0, drop_drop → q7, toArray → q8, getD → q9, getElem?_eq_none → ya, mem_append_left → yb, mem_append_right → yc, any_eq_true → yf, append_assoc → yh, eq_nil_of_length_eq_zero → yj, getElem?_eq_some_iff → yk, drop → yo, replicate → yp, cons_append → yu, map_cons → yw, nodup_cons → yy, nodup_append → yz, flatten_cons → y0, mem_map_of_mem → ze, map_append → zf, all_eq_true → zg, range → zi, append_eq → zv, not_mem_nil → zw, pairwise_append → zx
open Option renaming bind_some → jb, bind → jz, map_some → qf, bind_eq_some_iff → qi, getD_some → yg, map_eq_some_iff → zh
open Option.some renaming injEq → jc
open Bool renaming and_eq_true → jd, not_true → jg, true_and → jk, false_eq_true → jq, not_false → qc, not_eq_true → qd, false_and → qr, eq_iff_iff → qx, or_eq_true → ye, not_eq_true' → yx, or_eq_false_iff → zb, false_or → zd
open Prod.mk renaming injEq → jh
open Nat renaming ble_eq_true_of_le → ji, mul_le_mul_right → jm, le_refl → jo, zero_add → js, add_assoc → jt, eq_of_beq_eq_true → ju, ble → jx, le_trans → qe, shiftLeft_eq → ql, lt_of_lt_of_le → qn, pow_le_pow_right → qo, testBit_xor → qp, testBit_two_pow → qq, xor_lt_two_pow → qs, beq → yd, le_of_ble_eq_true → yi, add_zero → yl, blt → ym, blt_eq → yq, add_mul → yr, one_mul → yt, succ_mul → y3, zero_le → zj, and_le_left → zm, or_lt_two_pow → zn, shiftRight_eq_div_pow → zo, eq_of_testBit_eq → zp, testBit_or → zq, testBit_and → zr, two_pow_pos → zt, testBit_lt_two_pow → zu, testBit → zy
open Int renaming toNat_natCast → jn, eq_ofNat_of_zero_le → jv, toNat → jy, tmod → yn, le_refl → za
open Go.IntKind renaming wrap → j8, wrap → j9
open Sum renaming elim_inl → qm
open Result renaming andThen_ok → qy
open Sem renaming run_bind → qz
open List.cons renaming injEq → yv
open Sum.inl renaming injEq → zk
open Sum.inr renaming injEq → zl
abbrev int : Ty := .i .i64
abbrev Cx : Ty := .i .u8
abbrev Nc : Ty := (.p int (.p int .u))
abbrev Na : Type := (Int × (Int × Unit))
abbrev Zg : Ty := (.p int (.p (.sl int) .u))
abbrev Ra : Type := (Int × ((List Int) × Unit))
abbrev Bc : Ty := (.p int (.p int (.p .b .u)))
abbrev Ca : Type := (Int × (Int × (Bool × Unit)))
abbrev Ad : Ty := (.p int Nc)
abbrev Cc : Type := (Int × Na)
abbrev Bh : Ty := (.p (.sl Cx) Nc)
abbrev Ab : Type := ((List Int) × Na)
abbrev Mc : Ty := (.p int Ad)
abbrev Pa : Type := (Int × Cc)
abbrev Dh : Ty := (.p (.sl Cx) Ad)
abbrev Sc : Type := ((List Int) × Cc)
abbrev Dz : Ty := (.p int (.p Zg .u))
abbrev Sd : Type := (Int × (Ra × Unit))
abbrev Xn : Ty := (.p int (.p Mc .u))
abbrev Va : Type := (Int × (Pa × Unit))
abbrev Je : Ty := (.p int (.p int (.p int (.p int Zg))))
abbrev Rb : Type := (Int × (Int × (Int × (Int × Ra))))
abbrev Oc : Ty := (.p int (.p (.sl (.sl Mc)) .u))
abbrev Db : Type := (Int × ((List (List Pa)) × Unit))
abbrev De : Ty := (.p (.sl Nc) (.p int (.p (.sl Bc) (.p int (.p int (.p int (.p (.sl Bc) .u)))))))
abbrev Ea : Type := ((List Na) × (Int × ((List Ca) × (Int × (Int × (Int × ((List Ca) × Unit)))))))
abbrev Xc : Ty := (.p Oc (.p (.sl (.sl Ad)) (.p int (.p (.sl Xn) (.p int (.p .b .u))))))
abbrev Jb : Type := (Db × ((List (List Cc)) × (Int × ((List Va) × (Int × (Bool × Unit))))))
abbrev Ge : Ty := (.p Xc (.p Ad (.p (.sl Bc) Mc)))
abbrev Eb : Type := (Jb × (Cc × ((List Ca) × Pa)))
abbrev Af : Ty := (.p Bc (.p Je (.p De (.p Ge Nc))))
abbrev Vb : Type := (Ca × (Rb × (Ea × (Eb × Na))))
abbrev Df : Ty := (.p Af (.p Dh (.p int .u)))
abbrev Ob : Type := (Vb × (Sc × (Int × Unit)))
abbrev Qd : Type := Ca
abbrev Dt : Type := Cc
def WD : List UInt8 := [0, 1, 1, 2, 1, 2, 2, 3, 1, 2, 2, 3, 2, 3, 3, 4, 1, 2, 2, 3, 2, 3, 3, 4, 2, 3, 3, 4, 3, 4, 4, 5, 1, 2, 2, 3, 2, 3, 3, 4, 2, 3, 3, 4, 3, 4, 4, 5, 2, 3, 3, 4, 3, 4, 4, 5, 3, 4, 4, 5, 4, 5, 5, 6, 1, 2, 2, 3, 2, 3, 3, 4, 2, 3, 3, 4, 3, 4, 4, 5, 2, 3, 3, 4, 3, 4, 4, 5, 3, 4, 4, 5, 4, 5, 5, 6, 2, 3, 3, 4, 3, 4, 4, 5, 3, 4, 4, 5, 4, 5, 5, 6, 3, 4, 4, 5, 4, 5, 5, 6, 4, 5, 5, 6, 5, 6, 6, 7, 1, 2, 2, 3, 2, 3, 3, 4, 2, 3, 3, 4, 3, 4, 4, 5, 2, 3, 3, 4, 3, 4, 4, 5, 3, 4, 4, 5, 4, 5, 5, 6, 2, 3, 3, 4, 3, 4, 4, 5, 3, 4, 4, 5, 4, 5, 5, 6, 3, 4, 4, 5, 4, 5, 5, 6, 4, 5, 5, 6, 5, 6, 6, 7, 2, 3, 3, 4, 3, 4, 4, 5, 3, 4, 4, 5, 4, 5, 5, 6, 3, 4, 4, 5, 4, 5, 5, 6, 4, 5, 5, 6, 5, 6, 6, 7, 3, 4, 4, 5, 4, 5, 5, 6, 4, 5, 5, 6, 5, 6, 6, 7, 4, 5, 5, 6, 5, 6, 6, 7, 5, 6, 6, 7, 6, 7, 7, 8]
noncomputable section
open Option renaming bind → ob
open Go.IntKind renaming wrap → wr
open Int renaming toNat → tn
open List renaming length → ln, append → ap, set → ls
open Sum renaming elim → se
open Nat renaming ble → bl
abbrev Eg : Type := Int × Unit
abbrev Vc : Type := List Int
abbrev Kd : Type := Bool × Unit
abbrev Gg : Type := Unit × Unit
abbrev Eh : Type := List Ca
abbrev UB : Type := Db × Unit
abbrev KQ : Type := List Ra
abbrev Qf : Type := List Na
abbrev Jh : Type := List Va
abbrev Em : Type := List Sd
abbrev Gk : Type := Jb × Unit
abbrev Fq : Type := Ca × Unit
abbrev OH : Type := Unit × Na
abbrev Ux : Type := Unit × Eg
abbrev FQ : Type := Vc × Na
abbrev Nl : Type := Kd × Unit
abbrev BF : Type := Vc × Unit
abbrev CF : Type := (Eg × Unit) ⊕ Gg
abbrev YZ : Type := Ra × Unit
abbrev X8 : Type := Ra × YZ
abbrev PH : Type := Ea × Unit
abbrev Zk : Type := List Cc
abbrev As : Type := List Pa
abbrev Vx : Type := Int × (Eh × Na)
abbrev Fm : Type := Qf × Na
abbrev MV : Type := List Vc
abbrev BD : Type := Db × UB
abbrev ZZ : Type := Vc × Eg
abbrev UJ : Type := Ob × Unit
abbrev A0 : Type := Eh × Unit
abbrev ZA : Type := Vb × Unit
abbrev Xai : Type := Eb × Unit
abbrev B0 : Type := Unit × Gg
abbrev GQ : Type := Unit × Ux
abbrev AB : Type := Gg ⊕ Nl
abbrev KM : Type := Int × Kd
abbrev Yai : Type := Sc × Unit
abbrev Kax : Type := Unit × Cc
abbrev Lax : Type := Int × ((List As) × (Int × (Int × (As × Na))))
abbrev LM : Type := Na × Unit
abbrev MM : Type := Ab × Unit
abbrev C0 : Type := Gg ⊕ (Eg × Unit)
abbrev Zai : Type := Unit × (Em × Unit)
abbrev VJ : Type := Cc × Unit
abbrev E0 : Type := Int × Ux
abbrev HQ : Type := Em × Kd
abbrev G0 : Type := (List As) × Na
abbrev H8 : Type := Int × FQ
abbrev Bs : Type := List Zk
abbrev NV : Type := Pa × Unit
abbrev H0 : Type := KQ × Unit
abbrev Max : Type := Unit × A0
abbrev I8 : Type := Unit × GQ
abbrev Aaj : Type := Em × Na
abbrev Baj : Type := Jb × Gk
abbrev J0 : Type := Ob × UJ
abbrev Nax : Type := (BF × Unit) ⊕ Gg
abbrev OV : Type := Unit × FQ
abbrev K0 : Type := Ab × BD
abbrev Oax : Type := (Int × E0) × UB
abbrev Pax : Type := (Qf × (Int × (Int × (Unit × (Int × (Int × (Int × (Bool × (Eh × Na))))))))) × Fq
abbrev L0 : Type := Unit × BF
abbrev IQ : Type := Jh × Na
abbrev JM : Type := (Int × IQ) × Unit
abbrev Qax : Type := Eh × Kd
abbrev FaM : Type := (H0 × Unit) ⊕ Gg
abbrev JQ : Type := OH × PH
abbrev Caj : Type := Sc × Yai
abbrev Rax : Type := (Unit × (Int × (Unit × (Int × (Unit × (Int × (As × Eg))))))) × K0
abbrev Daj : Type := Unit × B0
abbrev Eaj : Type := (Unit × Max) × (Ea × PH)
abbrev Faj : Type := (Unit × Zai) × (Eb × Xai)
abbrev J8 : Type := Qf × (Zk × Na)
abbrev Gaj : Type := (Unit × (Vc × Pa)) × Fq
abbrev W8 : Type := Vb × ZA
abbrev UaE : Type := Ab × Xai
abbrev Ual : Type := Unit × Pa
abbrev Val : Type := ((Unit × L0) × X8) ⊕ Gg
abbrev VZ : Type := Rb × Unit
abbrev LV : Type := Rb × VZ
abbrev Wal : Type := (Vc × (Vc × (MV × (Unit × (Unit × Aaj))))) × J0
abbrev WZ : Type := (Vc × FQ) × Unit
abbrev Xal : Type := (Unit × (Int × (Unit × (Bs × Eg)))) × (Ab × Gk)
abbrev Yal : Type := Unit × (Unit × OV)
abbrev Zal : Type := (Qf × (Unit × (Qf × (Int × (Int × Fm))))) × LM
abbrev Aam : Type := (Int × (Unit × (Vc × (Vc × (MV × Eg))))) × UJ
abbrev Bam : Type := (Unit × (Vc × (Int × (Int × (Int × Pa))))) × Fq
abbrev XZ : Type := Vc × Ab
abbrev PK : Type := Eh × Eg
abbrev VaE : Type := Max × PH
abbrev Cam : Type := Unit × (Int × GQ)
abbrev Gi : Ob := (((0, 0, false, ()), (0, 0, 0, 0, 0, [], ()), ([], 0, [], 0, 0, 0, [], ()), (((0, [], ()), [], 0, [], 0, false, ()), (0, 0, 0, ()), [], 0, 0, 0, 0, ()), 0, 0, ()), ([], 0, 0, 0, ()), 0, ())
abbrev Rm : Vb := ((0, 0, false, ()), (0, 0, 0, 0, 0, [], ()), ([], 0, [], 0, 0, 0, [], ()), (((0, [], ()), [], 0, [], 0, false, ()), (0, 0, 0, ()), [], 0, 0, 0, 0, ()), 0, 0, ())
abbrev Qi : Eb := (((0, [], ()), [], 0, [], 0, false, ()), (0, 0, 0, ()), [], 0, 0, 0, 0, ())
abbrev YS : Jb := ((0, [], ()), [], 0, [], 0, false, ())
abbrev Ij : Ea := ([], 0, [], 0, 0, 0, [], ())
def Ec (a0 : Int) (a1 : Int) (a2 : Int) : Option Kd :=
 (cond (decide (a0 ≥ a1))
 (some ((decide (a0 ≤ a2)), ()))
 (some (false, ())))
def Zp (a0 : Vc) : Option BF :=
 (cond (bl (ln ([] : List Int) + ln a0) Xa)
 (some ((ap [] a0), ()))
 none)
def Tk (a0 : Pa) : Option Kd :=
 (ob (Ec a0.2.1 1 56) fun r1 =>
 (ob (Ec a0.2.2.1 1 15) fun r2 =>
 (ob (Ec a0.2.2.2.1 1 3) fun r3 =>
 (cond (a0.1 == 0)
 (cond (a0.2.1 == 0)
 (cond (a0.2.2.1 == 0)
 (some ((a0.2.2.2.1 == 0), ()))
 (some (false, ())))
 (some (false, ())))
 (cond (a0.1 == 1)
 (cond (a0.2.1 == 0)
 (cond (a0.2.2.1 == 0)
 (some ((a0.2.2.2.1 == 0), ()))
 (some (false, ())))
 (some (false, ())))
 (cond (a0.1 == 10)
 (cond (a0.2.1 == 0)
 (cond (a0.2.2.1 == 0)
 (some ((a0.2.2.2.1 == 0), ()))
 (some (false, ())))
 (some (false, ())))
 (cond (a0.1 == 2)
 (cond (a0.2.2.2.1 == 0)
 (cond r1.1
 (cond r2.1
 (some (true, ()))
 (some ((a0.2.2.1 == 0), ())))
 (cond (a0.2.1 == 0)
 (cond r2.1
 (cond r2.1
 (some (true, ()))
 (some ((a0.2.2.1 == 0), ())))
 (some (false, ())))
 (some (false, ()))))
 (some (false, ())))
 (cond (a0.1 == 3)
 (cond r3.1
 (cond (a0.2.1 == 0)
 (some ((a0.2.2.1 == 0), ()))
 (some (false, ())))
 (some (false, ())))
 (cond (a0.1 == 4)
 (cond r3.1
 (cond (a0.2.1 == 0)
 (some ((a0.2.2.1 == 0), ()))
 (some (false, ())))
 (some (false, ())))
 (cond (a0.1 == 5)
 (ob (Ec a0.2.2.2.1 0 3) fun r4 =>
 (cond r4.1
 (cond (a0.2.1 == 0)
 (some ((a0.2.2.1 == 0), ()))
 (some (false, ())))
 (some (false, ()))))
 (cond (a0.1 == 9)
 (ob (Ec a0.2.2.2.1 0 3) fun r5 =>
 (cond r5.1
 (cond (a0.2.1 == 0)
 (some ((a0.2.2.1 == 0), ()))
 (some (false, ())))
 (some (false, ()))))
 (cond (a0.1 == 6)
 (cond r1.1
 (cond r2.1
 (some ((a0.2.2.2.1 == 0), ()))
 (some (false, ())))
 (some (false, ())))
 (cond (a0.1 == 7)
 (cond r1.1
 (cond r3.1
 (some ((a0.2.2.1 == 0), ()))
 (some (false, ())))
 (some (false, ())))
 (cond (a0.1 == 8)
 (cond r2.1
 (cond (a0.2.1 == 0)
 (some ((a0.2.2.2.1 == 0), ()))
 (some (false, ())))
 (some (false, ())))
 (some (false, ()))))))))))))))))
def HC (t1 : Unit) (t3 : Int) (t4 : Int) (b1 : Db) : Option ((OH × UB) ⊕ ((Ux × UB) ⊕ Nl)) :=
 (ob (Wb b1.2.1 t3) fun x40 =>
 (cond (decide (t4 < ((ln x40 : Nat) : Int)))
 (ob (Wb b1.2.1 t3) fun x41 =>
 (ob (Wb x41 t4) fun x42 =>
 (ob (Tk x42) fun r43 =>
 (cond (!r43.1)
 (some (.inr (.inr ((false, ()), ()))))
 (cond (x42.1 == 1)
 (cond (t3 == 0)
 (some (.inr (.inr ((false, ()), ()))))
 (cond (x42.1 != 9)
 (cond (decide (x42.2.2.2.1 ≥ ((ln b1.2.1 : Nat) : Int)))
 (some (.inr (.inr ((false, ()), ()))))
 (some (.inl (((), t3, (wr .i64 (t4 + 1)), ()), (b1, ())))))
 (some (.inl (((), t3, (wr .i64 (t4 + 1)), ()), (b1, ()))))))
 (cond (x42.1 != 9)
 (cond (decide (x42.2.2.2.1 ≥ ((ln b1.2.1 : Nat) : Int)))
 (some (.inr (.inr ((false, ()), ()))))
 (some (.inl (((), t3, (wr .i64 (t4 + 1)), ()), (b1, ())))))
 (some (.inl (((), t3, (wr .i64 (t4 + 1)), ()), (b1, ()))))))))))
 (some (.inr (.inl (((), t3, ()), (b1, ())))))))
def Wn := Ib fun x : (OH × UB) => HC x.1.1 x.1.2.1 x.1.2.2.1 x.2.1
def GC (t1 : Unit) (t3 : Int) (b1 : Db) : Option ((Ux × UB) ⊕ ((Gg × UB) ⊕ Nl)) :=
 (cond (decide (t3 < ((ln b1.2.1 : Nat) : Int)))
 (ob (Wb b1.2.1 t3) fun x31 =>
 (cond (((ln x31 : Nat) : Int) != b1.1)
 (some (.inr (.inr ((false, ()), ()))))
 (ob (Wn (((), t3, 0, ()), (b1, ()))) (se (fun y44 => (some (.inl (((), (wr .i64 (y44.1.2.1 + 1)), ()), (y44.2.1, ()))))) (fun z45 => (some (.inr (.inr ((z45.1.1, ()), ())))))))))
 (some (.inr (.inl (((), ()), (b1, ()))))))
def Vn := Ib fun x : (Ux × UB) => GC x.1.1 x.1.2.1 x.2.1
def RD (a0 : Db) : Option Kd :=
 (ob (Vn (((), 0, ()), (a0, ()))) (se (fun y46 => (ob (Ec y46.2.1.1 1 32) fun r48 =>
 (cond r48.1
 (ob (Ec ((ln y46.2.1.2.1 : Nat) : Int) 1 4) fun r49 =>
 (some (r49.1, ())))
 (some (false, ()))))) (fun z47 => (some (z47.1.1, ())))))
def Ww (a0 : Int) : Option Kd :=
 (cond (decide (a0 ≥ 1))
 (some ((decide (a0 ≤ 56)), ()))
 (some (false, ())))
def Kr (a0 : Int) : Option Kd :=
 (cond (decide (a0 ≥ 1))
 (some ((decide (a0 ≤ 15)), ()))
 (some (false, ())))
def Rt (a0 : Int) : Option Kd :=
 (cond (decide (a0 ≥ 1))
 (some ((decide (a0 ≤ 3)), ()))
 (some (false, ())))
def Qk (a0 : Pa) : Option Kd :=
 (cond (a0.1 == 0)
 (cond (a0.2.1 == 0)
 (cond (a0.2.2.1 == 0)
 (some ((a0.2.2.2.1 == 0), ()))
 (some (false, ())))
 (some (false, ())))
 (cond (a0.1 == 1)
 (cond (a0.2.1 == 0)
 (cond (a0.2.2.1 == 0)
 (some ((a0.2.2.2.1 == 0), ()))
 (some (false, ())))
 (some (false, ())))
 (cond (a0.1 == 10)
 (cond (a0.2.1 == 0)
 (cond (a0.2.2.1 == 0)
 (some ((a0.2.2.2.1 == 0), ()))
 (some (false, ())))
 (some (false, ())))
 (cond (a0.1 == 2)
 (cond (a0.2.2.2.1 == 0)
 (cond (a0.2.1 == 0)
 (cond (a0.2.2.1 == 0)
 (cond (a0.2.1 != 0)
 (some (true, ()))
 (some ((a0.2.2.1 != 0), ())))
 (ob (Kr a0.2.2.1) fun r1 =>
 (cond r1.1
 (cond (a0.2.1 != 0)
 (some (true, ()))
 (some ((a0.2.2.1 != 0), ())))
 (some (false, ())))))
 (ob (Ww a0.2.1) fun r2 =>
 (cond r2.1
 (cond (a0.2.2.1 == 0)
 (cond (a0.2.1 != 0)
 (some (true, ()))
 (some ((a0.2.2.1 != 0), ())))
 (ob (Kr a0.2.2.1) fun r3 =>
 (cond r3.1
 (cond (a0.2.1 != 0)
 (some (true, ()))
 (some ((a0.2.2.1 != 0), ())))
 (some (false, ())))))
 (some (false, ())))))
 (some (false, ())))
 (cond (a0.1 == 3)
 (cond (a0.2.1 == 0)
 (cond (a0.2.2.1 == 0)
 (ob (Rt a0.2.2.2.1) fun r4 =>
 (some (r4.1, ())))
 (some (false, ())))
 (some (false, ())))
 (cond (a0.1 == 4)
 (cond (a0.2.1 == 0)
 (cond (a0.2.2.1 == 0)
 (ob (Rt a0.2.2.2.1) fun r5 =>
 (some (r5.1, ())))
 (some (false, ())))
 (some (false, ())))
 (cond (a0.1 == 5)
 (cond (a0.2.1 == 0)
 (cond (a0.2.2.1 == 0)
 (cond (decide (a0.2.2.2.1 ≥ 0))
 (some ((decide (a0.2.2.2.1 ≤ 3)), ()))
 (some (false, ())))
 (some (false, ())))
 (some (false, ())))
 (cond (a0.1 == 9)
 (cond (a0.2.1 == 0)
 (cond (a0.2.2.1 == 0)
 (cond (decide (a0.2.2.2.1 ≥ 0))
 (some ((decide (a0.2.2.2.1 ≤ 3)), ()))
 (some (false, ())))
 (some (false, ())))
 (some (false, ())))
 (cond (a0.1 == 6)
 (ob (Ww a0.2.1) fun r6 =>
 (cond r6.1
 (ob (Kr a0.2.2.1) fun r7 =>
 (cond r7.1
 (some ((a0.2.2.2.1 == 0), ()))
 (some (false, ()))))
 (some (false, ()))))
 (cond (a0.1 == 7)
 (ob (Ww a0.2.1) fun r8 =>
 (cond r8.1
 (cond (a0.2.2.1 == 0)
 (ob (Rt a0.2.2.2.1) fun r9 =>
 (some (r9.1, ())))
 (some (false, ())))
 (some (false, ()))))
 (cond (a0.1 == 8)
 (cond (a0.2.1 == 0)
 (ob (Kr a0.2.2.1) fun r10 =>
 (cond r10.1
 (some ((a0.2.2.2.1 == 0), ()))
 (some (false, ()))))
 (some (false, ())))
 (some (false, ())))))))))))))
def XB (t1 : Unit) (t3 : Int) (t28 : (List As)) (t29 : Int) (t30 : Int) (t40 : As) (t41 : Int) (t42 : Int) (b1 : Db) : Option (((Unit × Lax) × UB) ⊕ (((Unit × G0) × UB) ⊕ Nl)) :=
 (cond (decide (t42 < t41))
 (ob (Wb t40 t42) fun x24 =>
 (ob (Qk x24) fun r25 =>
 (cond (!r25.1)
 (some (.inr (.inr ((false, ()), ()))))
 (cond (t3 == 0)
 (cond (x24.1 == 1)
 (some (.inr (.inr ((false, ()), ()))))
 (cond (x24.1 != 9)
 (cond (decide (x24.2.2.2.1 ≥ ((ln b1.2.1 : Nat) : Int)))
 (some (.inr (.inr ((false, ()), ()))))
 (some (.inl (((), t3, t28, t29, t30, t40, t41, (wr .i64 (t42 + 1)), ()), (b1, ())))))
 (some (.inl (((), t3, t28, t29, t30, t40, t41, (wr .i64 (t42 + 1)), ()), (b1, ()))))))
 (cond (x24.1 != 9)
 (cond (decide (x24.2.2.2.1 ≥ ((ln b1.2.1 : Nat) : Int)))
 (some (.inr (.inr ((false, ()), ()))))
 (some (.inl (((), t3, t28, t29, t30, t40, t41, (wr .i64 (t42 + 1)), ()), (b1, ())))))
 (some (.inl (((), t3, t28, t29, t30, t40, t41, (wr .i64 (t42 + 1)), ()), (b1, ())))))))))
 (some (.inr (.inl (((), t28, t29, t30, ()), (b1, ()))))))
def Nn := Ib fun x : ((Unit × Lax) × UB) => XB x.1.1 x.1.2.1 x.1.2.2.1 x.1.2.2.2.1 x.1.2.2.2.2.1 x.1.2.2.2.2.2.1 x.1.2.2.2.2.2.2.1 x.1.2.2.2.2.2.2.2.1 x.2.1
def WB (t1 : Unit) (t28 : (List As)) (t29 : Int) (t30 : Int) (b1 : Db) : Option (((Unit × G0) × UB) ⊕ AB) :=
 (cond (decide (t30 < t29))
 (ob (Wb t28 t30) fun x19 =>
 (cond (((ln x19 : Nat) : Int) != b1.1)
 (some (.inr (.inr ((false, ()), ()))))
 (ob (Nn (((), t30, t28, t29, t30, x19, ((ln x19 : Nat) : Int), 0, ()), (b1, ()))) (se (fun y26 => (some (.inl (((), y26.1.2.1, y26.1.2.2.1, (wr .i64 (y26.1.2.2.2.1 + 1)), ()), (y26.2.1, ()))))) (fun z27 => (some (.inr (.inr ((z27.1.1, ()), ())))))))))
 (some (.inr (.inl ((), ())))))
def Mn := Ib fun x : ((Unit × G0) × UB) => WB x.1.1 x.1.2.1 x.1.2.2.1 x.1.2.2.2.1 x.2.1
def Jw (a0 : Db) : Option Kd :=
 (cond (decide (a0.1 < 1))
 (some (false, ()))
 (cond (decide (a0.1 > 32))
 (some (false, ()))
 (cond (decide (((ln a0.2.1 : Nat) : Int) < 1))
 (some (false, ()))
 (cond (decide (((ln a0.2.1 : Nat) : Int) > 4))
 (some (false, ()))
 (ob (Mn (((), a0.2.1, ((ln a0.2.1 : Nat) : Int), 0, ()), (a0, ()))) (se (fun y28 => (some (true, ()))) (fun z29 => (some (z29.1.1, ())))))))))
def Sw (a0 : Ca) : Option Kd :=
 (ob (Ec a0.1 1 4) fun r1 =>
 (cond r1.1
 (ob (Ec a0.2.1 1 6) fun r2 =>
 (some (r2.1, ())))
 (some (false, ()))))
def Zm (a0 : Ca) : Option Eg :=
 (ob (Sw a0) fun r1 =>
 (cond (!r1.1)
 (some (0, ()))
 (some ((wr .i64 (a0.1 * a0.2.1)), ()))))
def XC (a0 : Ca) (a1 : Int) : Option Kd :=
 (ob (Sw a0) fun r1 =>
 (cond r1.1
 (ob (Zm a0) fun r2 =>
 (cond (decide (0 ≤ r2.1))
 (ob (Ec a1 0 (wr .i64 ((Ma .i64 1 r2.1) - 1))) fun r3 =>
 (some (r3.1, ())))
 none))
 (some (false, ()))))
def Yp (a0 : Ca) : Option Kd :=
 (cond (decide (a0.1 ≥ 1))
 (cond (decide (a0.1 ≤ 4))
 (cond (decide (a0.2.1 ≥ 1))
 (some ((decide (a0.2.1 ≤ 6)), ()))
 (some (false, ())))
 (some (false, ())))
 (some (false, ())))
def Lj (a0 : Ca) : Option Eg :=
 (ob (Yp a0) fun r1 =>
 (cond (!r1.1)
 (some (0, ()))
 (some ((wr .i64 (a0.1 * a0.2.1)), ()))))
def Zn (a0 : Ca) (a1 : Int) : Option Kd :=
 (ob (Yp a0) fun r1 =>
 (cond r1.1
 (cond (decide (a1 ≥ 0))
 (ob (Lj a0) fun r2 =>
 (cond (decide (0 ≤ r2.1))
 (some ((decide (a1 < (Ma .i64 1 r2.1))), ()))
 none))
 (some (false, ())))
 (some (false, ()))))
def JD (t1 : Int) (t2 : Unit) (t5 : Vc) (t15 : Int) (t16 : Int) (b2 : Ca) : Option (((Int × OV) × Fq) ⊕ ((L0 × Fq) ⊕ Gg)) :=
 (cond (decide (t16 < t15))
 (cond (decide (0 ≤ (wr .i64 (t16 * b2.2.1))))
 (cond (decide (0 ≤ b2.2.1))
 (cond (yd 4 (ln t5))
 (cond (Ci (ln t5) t16)
 (ob t5[(tn t16)]? fun x3 =>
 (some (.inl ((t1, (), (ls t5 (tn t16) (Ya .i64 (Ac .i64 t1 (wr .i64 (t16 * b2.2.1))) (wr .i64 ((Ma .i64 1 b2.2.1) - 1)))), t15, (wr .i64 (t16 + 1)), ()), (b2, ())))))
 none)
 none)
 none)
 none)
 (some (.inr (.inl (((), t5, ()), (b2, ()))))))
def HE := Ib fun x : ((Int × OV) × Fq) => JD x.1.1 x.1.2.1 x.1.2.2.1 x.1.2.2.2.1 x.1.2.2.2.2.1 x.2.1
def JB (t2 : Unit) (t5 : Vc) (t7 : Int) (t34 : Int) (t35 : Int) (t38 : Int) (t39 : Int) (t43 : Int) (t44 : Int) (b2 : Ca) : Option (Bam ⊕ (Gaj ⊕ Gg)) :=
 (cond (decide (t44 < t43))
 (cond (yd 4 (ln t5))
 (cond (Ci (ln t5) t7)
 (ob t5[(tn t7)]? fun x156 =>
 (cond (yd 4 (ln t5))
 (cond (Ci (ln t5) t44)
 (ob t5[(tn t44)]? fun x157 =>
 (cond ((Ya .i64 x156 x157) != 0)
 (cond (yd 4 (ln t5))
 (cond (Ci (ln t5) t7)
 (ob t5[(tn t7)]? fun x158 =>
 (cond (yd 4 (ln t5))
 (cond (Ci (ln t5) t44)
 (ob t5[(tn t44)]? fun x159 =>
 (cond (yd 4 (ln t5))
 (cond (Ci (ln t5) t7)
 (ob t5[(tn t7)]? fun x160 =>
 (some (.inl (((), (ls t5 (tn t7) (Lc .i64 x158 x159)), t7, t34, t35, t38, t39, t43, (wr .i64 (t44 + 1)), ()), (b2, ())))))
 none)
 none))
 none)
 none))
 none)
 none)
 (some (.inl (((), t5, t7, t34, t35, t38, t39, t43, (wr .i64 (t44 + 1)), ()), (b2, ()))))))
 none)
 none))
 none)
 none)
 (some (.inr (.inl (((), t5, t34, t35, t38, t39, ()), (b2, ()))))))
def CC := Ib fun x : Bam => JB x.1.1 x.1.2.1 x.1.2.2.1 x.1.2.2.2.1 x.1.2.2.2.2.1 x.1.2.2.2.2.2.1 x.1.2.2.2.2.2.2.1 x.1.2.2.2.2.2.2.2.1 x.1.2.2.2.2.2.2.2.2.1 x.2.1
def IB (t2 : Unit) (t5 : Vc) (t34 : Int) (t35 : Int) (t38 : Int) (t39 : Int) (b2 : Ca) : Option (Gaj ⊕ ((OV × Fq) ⊕ Gg)) :=
 (cond (decide (t39 < t38))
 (ob (CC (((), t5, t39, t34, t35, t38, t39, b2.1, 0, ()), (b2, ()))) (se (fun y161 => (some (.inl (((), y161.1.2.1, y161.1.2.2.1, y161.1.2.2.2.1, y161.1.2.2.2.2.1, (wr .i64 (y161.1.2.2.2.2.2.1 + 1)), ()), (y161.2.1, ()))))) (fun z162 => (some (.inr (.inr ((), ())))))))
 (some (.inr (.inl (((), t5, t34, t35, ()), (b2, ()))))))
def BC := Ib fun x : Gaj => IB x.1.1 x.1.2.1 x.1.2.2.1 x.1.2.2.2.1 x.1.2.2.2.2.1 x.1.2.2.2.2.2.1 x.2.1
def HB (t2 : Unit) (t5 : Vc) (t34 : Int) (t35 : Int) (b2 : Ca) : Option ((OV × Fq) ⊕ ((L0 × Fq) ⊕ Gg)) :=
 (cond (decide (t35 < t34))
 (ob (BC (((), t5, t34, t35, b2.1, 0, ()), (b2, ()))) (se (fun y163 => (some (.inl (((), y163.1.2.1, y163.1.2.2.1, (wr .i64 (y163.1.2.2.2.1 + 1)), ()), (y163.2.1, ()))))) (fun z164 => (some (.inr (.inr ((), ())))))))
 (some (.inr (.inl (((), t5, ()), (b2, ()))))))
def AC := Ib fun x : (OV × Fq) => HB x.1.1 x.1.2.1 x.1.2.2.1 x.1.2.2.2.1 x.2.1
def KB (t2 : Unit) (t5 : Vc) (t9 : Int) (t67 : Int) (t68 : Int) (b2 : Ca) : Option (((Unit × (Vc × Cc)) × Fq) ⊕ CF) :=
 (cond (decide (t68 < t67))
 (cond (yd 4 (ln t5))
 (cond (Ci (ln t5) t68)
 (ob t5[(tn t68)]? fun x169 =>
 (cond (decide (0 ≤ (wr .i64 (t68 * b2.2.1))))
 (some (.inl (((), t5, (Lc .i64 t9 (Ma .i64 x169 (wr .i64 (t68 * b2.2.1)))), t67, (wr .i64 (t68 + 1)), ()), (b2, ()))))
 none))
 none)
 none)
 (some (.inr (.inl ((t9, ()), ())))))
def DC := Ib fun x : ((Unit × (Vc × Cc)) × Fq) => KB x.1.1 x.1.2.1 x.1.2.2.1 x.1.2.2.2.1 x.1.2.2.2.2.1 x.2.1
def Xz (a0 : Ca) (a1 : Int) : Option Eg :=
 (cond a0.2.2.1
 (some (a1, ()))
 (ob (HE ((a1, (), (yp 4 0), a0.1, 0, ()), (a0, ()))) (se (fun y4 => (ob (AC (((), y4.1.2.1, y4.2.1.1, 0, ()), (y4.2.1, ()))) (se (fun y165 => (ob (DC (((), y165.1.2.1, 0, y165.2.1.1, 0, ()), (y165.2.1, ()))) (se (fun y170 => (some (y170.1.1, ()))) (fun z171 => none)))) (fun z166 => none)))) (fun z5 => none))))
def Eo (a0 : Ca) (a1 : Int) : Option Kd :=
 (ob (Zn a0 a1) fun r1 =>
 (cond r1.1
 (ob (Xz a0 a1) fun r2 =>
 (some ((r2.1 == a1), ())))
 (some (false, ()))))
def Ru (a0 : Ca) (a1 : Int) (a2 : Int) : Option KM :=
 (ob (Eo a0 a1) fun r1 =>
 (cond (!r1.1)
 (some (0, false, ()))
 (cond (decide (a2 < 0))
 (some (0, false, ()))
 (ob (Lj a0) fun r2 =>
 (cond (decide (a2 ≥ r2.1))
 (some (0, false, ()))
 (cond (decide (0 ≤ a2))
 (cond ((Ya .i64 (Ac .i64 a1 a2) 1) == 0)
 (some (0, false, ()))
 (cond (decide (0 ≤ a2))
 (ob (Xz a0 (Pc .i64 a1 (Ma .i64 1 a2))) fun r3 =>
 (cond (r3.1 != a1)
 (some (0, false, ()))
 (some ((Pc .i64 a1 (Ma .i64 1 a2)), true, ()))))
 none))
 none))))))
def Kq (t1 : Int) (t2 : Unit) (t5 : Int) (t14 : Int) (t15 : Int) (b2 : Ca) : Option (((Int × Kax) × Fq) ⊕ CF) :=
 (cond (decide (t15 < t14))
 (cond (decide (0 ≤ t15))
 (cond ((Ya .i64 (Ac .i64 t1 t15) 1) == 1)
 (ob (Ru b2 t1 t15) fun r5 =>
 (cond (!r5.2.1)
 (cond (decide (0 ≤ t15))
 (some (.inl ((t1, (), (Lc .i64 t5 (Ma .i64 1 t15)), t14, (wr .i64 (t15 + 1)), ()), (b2, ()))))
 none)
 (some (.inl ((t1, (), t5, t14, (wr .i64 (t15 + 1)), ()), (b2, ()))))))
 (some (.inl ((t1, (), t5, t14, (wr .i64 (t15 + 1)), ()), (b2, ())))))
 none)
 (some (.inr (.inl ((t5, ()), ())))))
def It := Ib fun x : ((Int × Kax) × Fq) => Kq x.1.1 x.1.2.1 x.1.2.2.1 x.1.2.2.2.1 x.1.2.2.2.2.1 x.2.1
def EB (a0 : Ca) (a1 : Int) : Option Eg :=
 (ob (Eo a0 a1) fun r1 =>
 (cond (!r1.1)
 (some (0, ()))
 (ob (Lj a0) fun r2 =>
 (ob (It ((a1, (), 0, r2.1, 0, ()), (a0, ()))) (se (fun y6 => (some (y6.1.1, ()))) (fun z7 => none))))))
def Jq (a0 : Ca) (a1 : Int) (a2 : Int) : Option KM :=
 (ob (Zn a0 a1) fun r1 =>
 (cond (!r1.1)
 (some (0, false, ()))
 (ob (Eo a0 a2) fun r2 =>
 (cond (!r2.1)
 (some (0, false, ()))
 (ob (EB a0 a2) fun r3 =>
 (some ((Ya .i64 a2 (Lc .i64 a1 r3.1)), true, ())))))))
def BH (a0 : Vc) : Option Kd :=
 (some ((decide (((ln a0 : Nat) : Int) > 1048576)), ()))
def HH (t0 : Vc) (t3 : Int) (t4 : Int) : Option (MM ⊕ ((ZZ × Unit) ⊕ Gg)) :=
 (cond (decide (t4 < ((ln t0 : Nat) : Int)))
 (cond (decide (t4 < 4000))
 (ob (Wb t0 t4) fun x3 =>
 (some (.inl ((t0, (Ya .i64 (wr .i64 ((wr .i64 ((wr .i64 (t3 * 131)) + (wr .i64 x3))) + 7)) 1073741823), (wr .i64 (t4 + 1)), ()), ()))))
 (some (.inr (.inl ((t0, t3, ()), ())))))
 (some (.inr (.inl ((t0, t3, ()), ())))))
def IC := Ib fun x : MM => HH x.1.1 x.1.2.1 x.1.2.2.1
def EK (a0 : Vc) : Option Ab :=
 (ob (IC ((a0, (wr .i64 (10729 + ((ln a0 : Nat) : Int))), 0, ()), ())) (se (fun y4 => (some (y4.1.1, 0, y4.1.2.1, ()))) (fun z5 => none)))
def EI (a0 : Vc) (a1 : Int) : Option Ab :=
 (ob (EK a0) fun r1 =>
 (some (r1.1, r1.2.1, (wr .i64 (r1.2.2.1 + (wr .i64 (7919 * a1)))), r1.2.2.2)))
def Bo (a0 : Ab) : Option (Ab × Eg) :=
 (cond (decide ((0 : Int) ≤ 33))
 (cond (decide ((0 : Int) ≤ 45))
 (cond (decide (a0.2.1 < ((ln a0.1 : Nat) : Int)))
 (ob (Wb a0.1 a0.2.1) fun x1 =>
 (some ((a0.1, (wr .i64 (a0.2.1 + 1)), (wr .i64 ((wr .i64 (a0.2.2.1 * 6364136223846793005)) + 1442695040888963407)), a0.2.2.2), ((Ya .i64 (wr .i64 ((Ya .i64 (Yb .i64 (Ac .i64 (wr .i64 ((wr .i64 (a0.2.2.1 * 6364136223846793005)) + 1442695040888963407)) 33) (Ac .i64 (wr .i64 ((wr .i64 (a0.2.2.1 * 6364136223846793005)) + 1442695040888963407)) 45)) 255) + (wr .i64 x1))) 255), ()))))
 (some ((a0.1, a0.2.1, (wr .i64 ((wr .i64 (a0.2.2.1 * 6364136223846793005)) + 1442695040888963407)), a0.2.2.2), ((Ya .i64 (Yb .i64 (Ac .i64 (wr .i64 ((wr .i64 (a0.2.2.1 * 6364136223846793005)) + 1442695040888963407)) 33) (Ac .i64 (wr .i64 ((wr .i64 (a0.2.2.1 * 6364136223846793005)) + 1442695040888963407)) 45)) 255), ()))))
 none)
 none)
def Hb (a0 : Ab) (a1 : Int) : Option (Ab × Eg) :=
 (cond (decide (a1 ≤ 0))
 (some (a0, (0, ())))
 (cond (decide (a1 ≤ 256))
 (ob (Bo a0) fun r1 =>
 (cond (a1 == 0)
 none
 (some (r1.1, ((yn r1.2.1 a1), ())))))
 (ob (Bo a0) fun r2 =>
 (ob (Bo r2.1) fun r3 =>
 (ob (Bo r3.1) fun r4 =>
 (ob (Bo r4.1) fun r5 =>
 (cond (a1 == 0)
 none
 (some (r5.1, ((yn (wr .i64 ((wr .i64 ((wr .i64 ((wr .i64 (r2.2.1 * 16777216)) + (wr .i64 (r3.2.1 * 65536)))) + (wr .i64 (r4.2.1 * 256)))) + r5.2.1)) a1), ()))))))))))
def QB (a0 : Pa) : Option Kd :=
 (ob (Tk a0) fun r1 =>
 (cond r1.1
 (cond (a0.1 == 6)
 (some (true, ()))
 (some ((a0.1 == 7), ())))
 (some (false, ()))))
def Yh (a0 : Ab) (a1 : Int) : Option (Ab × Kd) :=
 (ob (Hb a0 a1) fun r1 =>
 (some (r1.1, ((r1.2.1 == 0), ()))))
def Cu (a0 : Ab) (a1 : Vc) : Option (Ab × Eg) :=
 (ob (Hb a0 ((ln a1 : Nat) : Int)) fun r1 =>
 (cond (Ci (ln a1) r1.2.1)
 (ob a1[(tn r1.2.1)]? fun x2 =>
 (some (r1.1, (x2, ()))))
 none))
def GH (a0 : Ab) : Option (Ab × VJ) :=
 (ob (Hb a0 9) fun r1 =>
 (ob (Cu r1.1 ([0, 0, 3, 6] : List Int)) fun r2 =>
 (ob (Hb r2.1 3) fun r3 =>
 (some (r3.1, (((wr .i64 (1 + r1.2.1)), r2.2.1, r3.2.1, ()), ()))))))
def Fo (a0 : Pa) : Option Kd :=
 (ob (Qk a0) fun r1 =>
 (cond r1.1
 (cond (a0.1 == 6)
 (some (true, ()))
 (some ((a0.1 == 7), ())))
 (some (false, ()))))
def YJ (a0 : Pa) : Option NV :=
 (ob (Fo a0) fun r1 =>
 (cond (!r1.1)
 (some (a0, ()))
 (some ((2, a0.2.1, 0, 0, ()), ()))))
def Fp (t2 : Unit) (t3 : Unit) (t10 : (List As)) (t11 : Int) (t12 : Int) (b2 : Db) (b3 : Db) : Option (((Unit × (Unit × G0)) × BD) ⊕ ((B0 × BD) ⊕ Gg)) :=
 (cond (decide (t12 < t11))
 (ob (Wb t10 t12) fun x4 =>
 (cond (bl (ln ([] : List Pa) + ln x4) Xa)
 (cond (bl (ln b3.2.1 + ln ([(ap [] x4)] : List As)) Xa)
 (some (.inl (((), (), t10, t11, (wr .i64 (t12 + 1)), ()), (b2, (b3.1, (ap b3.2.1 ([(ap [] x4)] : List As)), ()), ()))))
 none)
 none))
 (some (.inr (.inl (((), (), ()), (b2, b3, ()))))))
def Ir := Ib fun x : ((Unit × (Unit × G0)) × BD) => Fp x.1.1 x.1.2.1 x.1.2.2.1 x.1.2.2.2.1 x.1.2.2.2.2.1 x.2.1 x.2.2.1
def Ky (a0 : Db) : Option UB :=
 (ob (Ir (((), (), a0.2.1, ((ln a0.2.1 : Nat) : Int), 0, ()), ((0, [], ()), (a0.1, [], ()), ()))) (se (fun y5 => (some (y5.2.2.1, ()))) (fun z6 => none)))
def Gp (t3 : Bs) (t6 : Bs) (t7 : Int) (t8 : Int) : Option (((Bs × (Bs × Na)) × Unit) ⊕ (((Bs × Unit) × Unit) ⊕ Gg)) :=
 (cond (decide (t8 < t7))
 (ob (Wb t6 t8) fun x4 =>
 (cond (bl (ln ([] : List Cc) + ln x4) Xa)
 (cond (bl (ln t3 + ln ([(ap [] x4)] : List Zk)) Xa)
 (some (.inl (((ap t3 ([(ap [] x4)] : List Zk)), t6, t7, (wr .i64 (t8 + 1)), ()), ())))
 none)
 none))
 (some (.inr (.inl ((t3, ()), ())))))
def Jr := Ib fun x : ((Bs × (Bs × Na)) × Unit) => Gp x.1.1 x.1.2.1 x.1.2.2.1 x.1.2.2.2.1
def Ly (a0 : Bs) : Option (Bs × Unit) :=
 (ob (Jr (([], a0, ((ln a0 : Nat) : Int), 0, ()), ())) (se (fun y5 => (some (y5.1.1, ()))) (fun z6 => none)))
def Me (a0 : Int) (a1 : Int) : Option Eg :=
 (cond (decide (0 ≤ a1))
 (some ((Ya .i64 (Ac .i64 a0 a1) 1), ()))
 none)
def Ay (t3 : Int) (t6 : Jh) (t7 : Int) (t8 : Int) : Option (JM ⊕ AB) :=
 (cond (decide (t8 < t7))
 (ob (Wb t6 t8) fun x7 =>
 (cond (decide (x7.1 < 0))
 (some (.inr (.inr ((false, ()), ()))))
 (cond (decide (x7.1 > 31))
 (some (.inr (.inr ((false, ()), ()))))
 (ob (Me t3 x7.1) fun r8 =>
 (cond (r8.1 == 1)
 (some (.inr (.inr ((false, ()), ()))))
 (ob (Qk x7.2.1) fun r9 =>
 (cond (!r9.1)
 (some (.inr (.inr ((false, ()), ()))))
 (cond (x7.2.1.1 == 1)
 (some (.inr (.inr ((false, ()), ()))))
 (cond (x7.2.1.1 == 6)
 (some (.inr (.inr ((false, ()), ()))))
 (cond (x7.2.1.1 == 7)
 (some (.inr (.inr ((false, ()), ()))))
 (cond (decide (0 ≤ x7.1))
 (some (.inl (((Lc .i64 t3 (Ma .i64 1 x7.1)), t6, t7, (wr .i64 (t8 + 1)), ()), ())))
 none)))))))))))
 (some (.inr (.inl ((), ())))))
def Qz := Ib fun x : JM => Ay x.1.1 x.1.2.1 x.1.2.2.1 x.1.2.2.2.1
def Sl (a0 : Jh) : Option Kd :=
 (ob (Qz ((0, a0, ((ln a0 : Nat) : Int), 0, ()), ())) (se (fun y10 => (some (true, ()))) (fun z11 => (some (z11.1.1, ())))))
def Oy (t3 : Unit) (t7 : Qf) (t8 : Int) (t9 : Int) (b3 : Na) : Option (((Unit × Fm) × LM) ⊕ C0) :=
 (cond (decide (t9 < t8))
 (ob (Wb t7 t9) fun x3 =>
 (cond (Ml Nc x3 b3)
 (some (.inr (.inr ((t9, ()), ()))))
 (some (.inl (((), t7, t8, (wr .i64 (t9 + 1)), ()), (b3, ()))))))
 (some (.inr (.inl ((), ())))))
def Wz := Ib fun x : ((Unit × Fm) × LM) => Oy x.1.1 x.1.2.1 x.1.2.2.1 x.1.2.2.2.1 x.2.1
def SC (a0 : Qf) (a1 : Na) : Option Eg :=
 (ob (Wz (((), a0, ((ln a0 : Nat) : Int), 0, ()), (a1, ()))) (se (fun y4 => (some ((-1), ()))) (fun z5 => (some (z5.1.1, ())))))
def So (t3 : Qf) (t11 : Zk) (t12 : Int) (t13 : Int) : Option ((J8 × Unit) ⊕ (((Qf × Unit) × Unit) ⊕ Nl)) :=
 (cond (decide (t13 < t12))
 (ob (Wb t11 t13) fun x10 =>
 (ob (SC t3 x10.2) fun r11 =>
 (ob (Qk (2, x10.2.1, x10.2.2.1, 0, ())) fun r12 =>
 (cond (!r12.1)
 (some (.inr (.inr ((false, ()), ()))))
 (cond (x10.1 == 0)
 (cond (decide (r11.1 ≥ 0))
 (some (.inr (.inr ((false, ()), ()))))
 (cond (x10.1 == 1)
 (cond (bl (ln t3 + ln ([x10.2] : List Na)) Xa)
 (some (.inl (((ap t3 ([x10.2] : List Na)), t11, t12, (wr .i64 (t13 + 1)), ()), ())))
 none)
 (some (.inl ((t3, t11, t12, (wr .i64 (t13 + 1)), ()), ())))))
 (cond (x10.1 == 1)
 (cond (decide (r11.1 ≥ 0))
 (some (.inr (.inr ((false, ()), ()))))
 (cond (x10.1 == 1)
 (cond (bl (ln t3 + ln ([x10.2] : List Na)) Xa)
 (some (.inl (((ap t3 ([x10.2] : List Na)), t11, t12, (wr .i64 (t13 + 1)), ()), ())))
 none)
 (some (.inl ((t3, t11, t12, (wr .i64 (t13 + 1)), ()), ())))))
 (cond (x10.1 == 2)
 (cond (decide (r11.1 < 0))
 (some (.inr (.inr ((false, ()), ()))))
 (cond (We (ln t3) 0 r11.1)
 (cond (We (ln t3) (wr .i64 (r11.1 + 1)) ((ln t3 : Nat) : Int))
 (cond (bl (ln (Lb t3 (tn 0) (tn r11.1)) + ln (Lb t3 (tn (wr .i64 (r11.1 + 1))) (tn ((ln t3 : Nat) : Int)))) Xa)
 (some (.inl (((ap (Lb t3 (tn 0) (tn r11.1)) (Lb t3 (tn (wr .i64 (r11.1 + 1))) (tn ((ln t3 : Nat) : Int)))), t11, t12, (wr .i64 (t13 + 1)), ()), ())))
 none)
 none)
 none))
 (some (.inr (.inr ((false, ()), ())))))))))))
 (some (.inr (.inl ((t3, ()), ())))))
def Jx := Ib fun x : (J8 × Unit) => So x.1.1 x.1.2.1 x.1.2.2.1 x.1.2.2.2.1
def Rz (a0 : Zk) : Option Kd :=
 (cond (decide (((ln a0 : Nat) : Int) > 8))
 (some (false, ()))
 (ob (Jx (([], a0, ((ln a0 : Nat) : Int), 0, ()), ())) (se (fun y13 => (some ((((ln y13.1.1 : Nat) : Int) == 0), ()))) (fun z14 => (some (z14.1.1, ()))))))
def Ns (t1 : Unit) (t35 : Bs) (t36 : Int) (t37 : Int) (b1 : Jb) : Option (((Unit × (Bs × Na)) × Gk) ⊕ ((Gg × Gk) ⊕ Nl)) :=
 (cond (decide (t37 < t36))
 (ob (Wb t35 t37) fun x7 =>
 (ob (Rz x7) fun r8 =>
 (cond (!r8.1)
 (some (.inr (.inr ((false, ()), ()))))
 (some (.inl (((), t35, t36, (wr .i64 (t37 + 1)), ()), (b1, ())))))))
 (some (.inr (.inl (((), ()), (b1, ()))))))
def Ln := Ib fun x : ((Unit × (Bs × Na)) × Gk) => Ns x.1.1 x.1.2.1 x.1.2.2.1 x.1.2.2.2.1 x.2.1
def Pq (t1 : Unit) (t5 : Int) (t50 : Jh) (t51 : Int) (t52 : Int) (b1 : Jb) : Option (((Unit × (Int × IQ)) × Gk) ⊕ ((Ux × Gk) ⊕ Nl)) :=
 (cond (decide (t52 < t51))
 (ob (Wb t50 t52) fun x13 =>
 (cond (decide (x13.1 ≥ b1.1.1))
 (some (.inr (.inr ((false, ()), ()))))
 (cond (x13.2.1.1 != 9)
 (cond (decide (x13.2.1.2.2.2.1 ≥ t5))
 (some (.inr (.inr ((false, ()), ()))))
 (some (.inl (((), t5, t50, t51, (wr .i64 (t52 + 1)), ()), (b1, ())))))
 (some (.inl (((), t5, t50, t51, (wr .i64 (t52 + 1)), ()), (b1, ())))))))
 (some (.inr (.inl (((), t5, ()), (b1, ()))))))
def Im := Ib fun x : ((Unit × (Int × IQ)) × Gk) => Pq x.1.1 x.1.2.1 x.1.2.2.1 x.1.2.2.2.1 x.1.2.2.2.2.1 x.2.1
def ID (a0 : Jb) : Option Kd :=
 (ob (Jw a0.1) fun r1 =>
 (cond (!r1.1)
 (some (false, ()))
 (cond (decide (((ln a0.2.1 : Nat) : Int) > 4))
 (some (false, ()))
 (ob (Sl a0.2.2.2.1) fun r2 =>
 (cond (!r2.1)
 (some (false, ()))
 (cond (decide (a0.2.2.2.2.1 < 0))
 (some (false, ()))
 (cond (decide (a0.2.2.2.2.1 > 15))
 (some (false, ()))
 (ob (Ln (((), a0.2.1, ((ln a0.2.1 : Nat) : Int), 0, ()), (a0, ()))) (se (fun y9 => (ob (Im (((), ((ln y9.2.1.1.2.1 : Nat) : Int), y9.2.1.2.2.2.1, ((ln y9.2.1.2.2.2.1 : Nat) : Int), 0, ()), (y9.2.1, ()))) (se (fun y14 => (cond (decide (y14.2.1.2.2.1 ≥ 0))
 (cond ((2 : Int) == 0)
 none
 (cond ((yn y14.2.1.2.2.1 2) == 0)
 (cond (decide (0 ≤ y14.1.2.1))
 (some ((decide (y14.2.1.2.2.1 < (Ma .i64 1 y14.1.2.1))), ()))
 none)
 (some (false, ()))))
 (some (false, ())))) (fun z15 => (some (z15.1.1, ())))))) (fun z10 => (some (z10.1.1, ()))))))))))))
def Kk (a0 : Jb) : Option Gk :=
 (ob (Ky a0.1) fun r1 =>
 (ob (Ly a0.2.1) fun r2 =>
 (cond (bl (ln ([] : List Va) + ln a0.2.2.2.1) Xa)
 (some ((r1.1, r2.1, a0.2.2.1, (ap [] a0.2.2.2.1), a0.2.2.2.2), ()))
 none)))
def Kw (a0 : Cc) : Option Kd :=
 (cond (decide (a0.1 ≥ 1))
 (cond (decide (a0.1 ≤ 1000))
 (cond (decide (a0.2.1 ≥ 0))
 (cond (decide (a0.2.1 ≤ 1000))
 (cond (decide (a0.2.2.1 ≥ 0))
 (some ((decide (a0.2.2.1 ≤ 2)), ()))
 (some (false, ())))
 (some (false, ())))
 (some (false, ())))
 (some (false, ())))
 (some (false, ())))
def Ss (t3 : Int) (t6 : Jh) (t7 : Int) (t8 : Int) : Option (JM ⊕ CF) :=
 (cond (decide (t8 < t7))
 (ob (Wb t6 t8) fun x3 =>
 (cond (decide (0 ≤ x3.1))
 (some (.inl (((Lc .i64 t3 (Ma .i64 1 x3.1)), t6, t7, (wr .i64 (t8 + 1)), ()), ())))
 none))
 (some (.inr (.inl ((t3, ()), ())))))
def Ev := Ib fun x : JM => Ss x.1.1 x.1.2.1 x.1.2.2.1 x.1.2.2.2.1
def Um (a0 : Jh) : Option Eg :=
 (ob (Ev ((0, a0, ((ln a0 : Nat) : Int), 0, ()), ())) (se (fun y4 => (some (y4.1.1, ()))) (fun z5 => none)))
def Mt (a0 : Ca) : Option Kd :=
 (cond (decide (a0.1 ≥ 0))
 (cond (decide (a0.1 ≤ 1000000))
 (cond (decide (a0.2.1 ≥ 0))
 (some ((decide (a0.2.1 ≤ 31)), ()))
 (some (false, ())))
 (some (false, ())))
 (some (false, ())))
def My (t0 : Eh) (t1 : Int) (t11 : Eh) (t12 : Int) (t13 : Int) : Option (((Eh × Vx) × Unit) ⊕ ((Eg × Unit) ⊕ (KM × Unit))) :=
 (cond (decide (t13 < t12))
 (ob (Wb t11 t13) fun x11 =>
 (ob (Mt x11) fun r12 =>
 (cond (!r12.1)
 (some (.inr (.inr ((0, false, ()), ()))))
 (cond (decide (t13 > 0))
 (ob (Wb t0 (wr .i64 (t13 - 1))) fun x13 =>
 (cond (decide (x13.1 > x11.1))
 (some (.inr (.inr ((0, false, ()), ()))))
 (ob (Me t1 x11.2.1) fun r14 =>
 (cond (x11.2.2.1 == (r14.1 == 1))
 (some (.inr (.inr ((0, false, ()), ()))))
 (cond (decide (0 ≤ x11.2.1))
 (some (.inl ((t0, (Yb .i64 t1 (Ma .i64 1 x11.2.1)), t11, t12, (wr .i64 (t13 + 1)), ()), ())))
 none)))))
 (ob (Me t1 x11.2.1) fun r15 =>
 (cond (x11.2.2.1 == (r15.1 == 1))
 (some (.inr (.inr ((0, false, ()), ()))))
 (cond (decide (0 ≤ x11.2.1))
 (some (.inl ((t0, (Yb .i64 t1 (Ma .i64 1 x11.2.1)), t11, t12, (wr .i64 (t13 + 1)), ()), ())))
 none)))))))
 (some (.inr (.inl ((t1, ()), ())))))
def Tz := Ib fun x : ((Eh × Vx) × Unit) => My x.1.1 x.1.2.1 x.1.2.2.1 x.1.2.2.2.1 x.1.2.2.2.2.1
def WH (a0 : Eh) (a1 : Int) : Option KM :=
 (cond (decide (((ln a0 : Nat) : Int) > 64))
 (some (0, false, ()))
 (ob (Tz ((a0, a1, a0, ((ln a0 : Nat) : Int), 0, ()), ())) (se (fun y16 => (some (y16.1.1, true, ()))) (fun z17 => (some z17.1)))))
def Tq (t0 : Eh) (t1 : Int) (t2 : Int) (t11 : Eh) (t12 : Int) (t13 : Int) : Option (((Eh × (Int × Vx)) × Unit) ⊕ ((PK × Unit) ⊕ Nl)) :=
 (cond (decide (t13 < t12))
 (ob (Wb t11 t13) fun x3 =>
 (cond (decide (x3.2.1 ≥ t2))
 (some (.inr (.inr ((false, ()), ()))))
 (some (.inl ((t0, t1, t2, t11, t12, (wr .i64 (t13 + 1)), ()), ())))))
 (some (.inr (.inl ((t0, t1, ()), ())))))
def Ut := Ib fun x : ((Eh × (Int × Vx)) × Unit) => Tq x.1.1 x.1.2.1 x.1.2.2.1 x.1.2.2.2.1 x.1.2.2.2.2.1 x.1.2.2.2.2.2.1
def Yi (a0 : Eh) (a1 : Int) (a2 : Int) : Option Kd :=
 (ob (Ut ((a0, a1, a2, a0, ((ln a0 : Nat) : Int), 0, ()), ())) (se (fun y4 => (ob (WH y4.1.1 y4.1.2.1) fun r6 =>
 (some (r6.2.1, ())))) (fun z5 => (some (z5.1.1, ())))))
def Wi (a0 : Eh) (a1 : Int) : Option Kd :=
 (cond (((ln a0 : Nat) : Int) == 0)
 (some (true, ()))
 (ob (Wb a0 (wr .i64 (((ln a0 : Nat) : Int) - 1))) fun x1 =>
 (some ((decide (x1.1 ≤ a1)), ()))))
def Il (a0 : Eb) : Option Kd :=
 (ob (ID a0.1) fun r1 =>
 (cond (!r1.1)
 (some (false, ()))
 (ob (Kw a0.2.1) fun r2 =>
 (cond (!r2.1)
 (some (false, ()))
 (cond (decide (a0.2.2.2.1 < 0))
 (some (false, ()))
 (cond (decide (a0.2.2.2.1 > 1000000))
 (some (false, ()))
 (cond (decide (a0.2.2.2.2.1 < 0))
 (some (false, ()))
 (cond (decide (a0.2.2.2.2.1 > a0.2.2.2.1))
 (some (false, ()))
 (ob (Um a0.1.2.2.2.1) fun r3 =>
 (ob (Yi a0.2.2.1 r3.1 a0.1.1.1) fun r4 =>
 (cond (!r4.1)
 (some (false, ()))
 (ob (Wi a0.2.2.1 a0.2.2.2.1) fun r5 =>
 (cond (!r5.1)
 (some (false, ()))
 (cond (decide (a0.2.2.2.2.2.1 ≥ 0))
 (cond (decide (a0.2.2.2.2.2.1 ≤ a0.1.1.1))
 (cond (decide (a0.2.2.2.2.2.2.1 ≥ 0))
 (some ((decide (a0.2.2.2.2.2.2.1 ≤ a0.2.2.2.1)), ()))
 (some (false, ())))
 (some (false, ())))
 (some (false, ()))))))))))))))))
def Ey (a0 : Jb) (a1 : Cc) : Option (Eb × Kd) :=
 (ob (Kk a0) fun r1 =>
 (ob (Il (r1.1, a1, [], 0, 0, 0, 0, ())) fun r2 =>
 (cond (!r2.1)
 (some (Qi, false, ()))
 (some ((r1.1, a1, [], 0, 0, 0, 0, ()), true, ())))))
def Jl (a0 : Eb) : Option Xai :=
 (ob (Kk a0.1) fun r1 =>
 (cond (bl (ln ([] : List Ca) + ln a0.2.2.1) Xa)
 (some ((r1.1, a0.2.1, (ap [] a0.2.2.1), a0.2.2.2), ()))
 none))
def Zx (t1 : Int) (t8 : Jh) (t9 : Int) (t10 : Int) : Option (JM ⊕ C0) :=
 (cond (decide (t10 < t9))
 (ob (Wb t8 t10) fun x3 =>
 (cond (x3.1 == t1)
 (some (.inr (.inr ((t10, ()), ()))))
 (some (.inl ((t1, t8, t9, (wr .i64 (t10 + 1)), ()), ())))))
 (some (.inr (.inl ((), ())))))
def Pz := Ib fun x : JM => Zx x.1.1 x.1.2.1 x.1.2.2.1 x.1.2.2.2.1
def UH (a0 : Jb) (a1 : Int) : Option Eg :=
 (ob (Pz ((a1, a0.2.2.2.1, ((ln a0.2.2.2.1 : Nat) : Int), 0, ()), ())) (se (fun y4 => (some ((-1), ()))) (fun z5 => (some (z5.1.1, ())))))
def sort_Ints (x0 : Vc) : Option BF := srt x0
def Ny (t1 : Int) (t7 : Vc) (t8 : Int) (t9 : Int) : Option ((H8 × Unit) ⊕ AB) :=
 (cond (decide (t9 < t8))
 (ob (Wb t7 t9) fun x3 =>
 (cond (x3 == t1)
 (some (.inr (.inr ((true, ()), ()))))
 (some (.inl ((t1, t7, t8, (wr .i64 (t9 + 1)), ()), ())))))
 (some (.inr (.inl ((), ())))))
def Uz := Ib fun x : (H8 × Unit) => Ny x.1.1 x.1.2.1 x.1.2.2.1 x.1.2.2.2.1
def XH (a0 : Vc) (a1 : Int) : Option Kd :=
 (ob (Uz ((a1, a0, ((ln a0 : Nat) : Int), 0, ()), ())) (se (fun y4 => (some (false, ()))) (fun z5 => (some (z5.1.1, ())))))
def Cv (t4 : Vc) (t11 : Vc) (t12 : Int) (t13 : Int) : Option (WZ ⊕ Nax) :=
 (cond (decide (t13 < t12))
 (cond (Ci (ln t11) t13)
 (ob t11[(tn t13)]? fun x9 =>
 (cond (x9 != 0)
 (ob (XH t4 x9) fun r10 =>
 (cond (!r10.1)
 (cond (bl (ln t4 + ln ([x9] : List Int)) Xa)
 (some (.inl (((ap t4 ([x9] : List Int)), t11, t12, (wr .i64 (t13 + 1)), ()), ())))
 none)
 (some (.inl ((t4, t11, t12, (wr .i64 (t13 + 1)), ()), ())))))
 (some (.inl ((t4, t11, t12, (wr .i64 (t13 + 1)), ()), ())))))
 none)
 (some (.inr (.inl ((t4, ()), ())))))
def Lx := Ib fun x : WZ => Cv x.1.1 x.1.2.1 x.1.2.2.1 x.1.2.2.2.1
def Pt (a0 : Vc) : Option BF :=
 (ob (Zp a0) fun r1 =>
 (ob (sort_Ints r1.1) fun r2 =>
 (ob (Lx (([], r2.1, ((ln r2.1 : Nat) : Int), 0, ()), ())) (se (fun y11 => (some (y11.1.1, ()))) (fun z12 => none)))))
def Qs (t2 : Unit) (t3 : Unit) (t4 : Vc) (t11 : Jh) (t12 : Int) (t13 : Int) (b2 : Ra) (b3 : Ra) : Option (((Unit × (Unit × (Vc × IQ))) × X8) ⊕ Val) :=
 (cond (decide (t13 < t12))
 (ob (Wb t11 t13) fun x5 =>
 (cond (x5.2.1.1 == 2)
 (cond (bl (ln t4 + ln ([x5.2.1.2.1] : List Int)) Xa)
 (some (.inl (((), (), (ap t4 ([x5.2.1.2.1] : List Int)), t11, t12, (wr .i64 (t13 + 1)), ()), (b2, ((Lc .i64 b3.1 x5.2.1.2.2.1), b3.2.1, ()), ()))))
 none)
 (cond (x5.2.1.1 == 8)
 (cond (bl (ln t4 + ln ([x5.2.1.2.1] : List Int)) Xa)
 (some (.inl (((), (), (ap t4 ([x5.2.1.2.1] : List Int)), t11, t12, (wr .i64 (t13 + 1)), ()), (b2, ((Lc .i64 b3.1 x5.2.1.2.2.1), b3.2.1, ()), ()))))
 none)
 (cond (bl (ln t4 + ln ([x5.2.1.2.1] : List Int)) Xa)
 (some (.inl (((), (), (ap t4 ([x5.2.1.2.1] : List Int)), t11, t12, (wr .i64 (t13 + 1)), ()), (b2, b3, ()))))
 none))))
 (some (.inr (.inl (((), (), t4, ()), (b2, b3, ()))))))
def Zu := Ib fun x : ((Unit × (Unit × (Vc × IQ))) × X8) => Qs x.1.1 x.1.2.1 x.1.2.2.1 x.1.2.2.2.1 x.1.2.2.2.2.1 x.1.2.2.2.2.2.1 x.2.1 x.2.2.1
def Ae (a0 : Jh) : Option YZ :=
 (ob (Sl a0) fun r1 =>
 (cond (!r1.1)
 (some ((0, [], ()), ()))
 (ob (Zu (((), (), [], a0, ((ln a0 : Nat) : Int), 0, ()), ((0, [], ()), (0, [], ()), ()))) (se (fun y6 => (ob (Pt y6.1.2.2.1) fun r8 =>
 (some ((y6.2.2.1.1, r8.1, ()), ())))) (fun z7 => none)))))
def Vs (t0 : Vc) (t1 : Vc) (t12 : Int) (t13 : Int) : Option (WZ ⊕ AB) :=
 (cond (decide (t13 < t12))
 (ob (Wb t0 t13) fun x5 =>
 (ob (Wb t1 t13) fun x6 =>
 (cond (x5 != x6)
 (some (.inr (.inr ((false, ()), ()))))
 (some (.inl ((t0, t1, t12, (wr .i64 (t13 + 1)), ()), ()))))))
 (some (.inr (.inl ((), ())))))
def Fv := Ib fun x : WZ => Vs x.1.1 x.1.2.1 x.1.2.2.1 x.1.2.2.2.1
def KD (a0 : Vc) (a1 : Vc) : Option Kd :=
 (cond (((ln a0 : Nat) : Int) != ((ln a1 : Nat) : Int))
 (some (false, ()))
 (ob (Fv ((a0, a1, ((ln a0 : Nat) : Int), 0, ()), ())) (se (fun y7 => (some (true, ()))) (fun z8 => (some (z8.1.1, ()))))))
def Cj (a0 : Ra) (a1 : Ra) : Option Kd :=
 (cond (a0.1 == a1.1)
 (ob (KD a0.2.1 a1.2.1) fun r1 =>
 (some (r1.1, ())))
 (some (false, ())))
def PD (a b : Ra) : Bool := (a.1 == b.1) && (a.2.1 == b.2.1)
def Jax (c : T Ze → T Ze → Option Bool) (a b : T Ze) : Option Kd := ob (c a b) fun x => some (x, ())
def SG (c : T Ze → T Ze → Option Bool) (t2 : Unit) (t5 : (List (Int × ((T .o) × Unit)))) (t8 : (List (Int × ((T .o) × Unit)))) (t9 : Int) (t10 : Int) (b2 : (Int × ((T .o) × Unit))) : Option (((Unit × ((List (Int × ((T .o) × Unit))) × ((List (Int × ((T .o) × Unit))) × Na))) × ((Int × ((T .o) × Unit)) × Unit)) ⊕ ((((List (Int × ((T .o) × Unit))) × Unit) × Unit) ⊕ Gg)) :=
 (cond (decide (t10 < t9))
 (ob (Wb t8 t10) fun x7 =>
 (ob (Jax c b2 x7) fun r8 =>
 (cond (!r8.1)
 (cond (bl (ln t5 + ln ([x7] : List (Int × ((T .o) × Unit)))) Xa)
 (some (.inl (((), (ap t5 ([x7] : List (Int × ((T .o) × Unit)))), t8, t9, (wr .i64 (t10 + 1)), ()), (x7, ()))))
 none)
 (some (.inl (((), t5, t8, t9, (wr .i64 (t10 + 1)), ()), (x7, ())))))))
 (some (.inr (.inl ((t5, ()), ())))))
def Vw (c : T Ze → T Ze → Option Bool) (x : ((Unit × ((List (Int × ((T .o) × Unit))) × ((List (Int × ((T .o) × Unit))) × Na))) × ((Int × ((T .o) × Unit)) × Unit))) : Option ((((List (Int × ((T .o) × Unit))) × Unit) × Unit) ⊕ Gg) := Ib (fun x : ((Unit × ((List (Int × ((T .o) × Unit))) × ((List (Int × ((T .o) × Unit))) × Na))) × ((Int × ((T .o) × Unit)) × Unit)) => SG c x.1.1 x.1.2.1 x.1.2.2.1 x.1.2.2.2.1 x.1.2.2.2.2.1 x.2.1) x
def Raj (c : T Ze → T Ze → Option Bool) (a0 : (Int × ((T .o) × Unit))) (a1 : (List (Int × ((T .o) × Unit)))) : Option ((List (Int × ((T .o) × Unit))) × Unit) :=
 (ob (Vw c (((), ([] : List (Int × ((T .o) × Unit))), a1, ((ln a1 : Nat) : Int), 0, ()), (a0, ()))) (se (fun y9 => (some (y9.1.1, ()))) (fun z10 => none)))
def Hf (a0 : Ra) (a1 : List Ra) : Option H0 := Qaj PD a0 a1
def Yz (a0 : Jb) (a1 : Int) : Option (Jb × H0) :=
 (ob (Kk a0) fun r1 =>
 (ob (UH a0 a1) fun r2 =>
 (cond (We (ln r1.1.2.2.2.1) 0 r2.1)
 (cond (We (ln r1.1.2.2.2.1) (wr .i64 (r2.1 + 1)) ((ln r1.1.2.2.2.1 : Nat) : Int))
 (cond (bl (ln (Lb r1.1.2.2.2.1 (tn 0) (tn r2.1)) + ln (Lb r1.1.2.2.2.1 (tn (wr .i64 (r2.1 + 1))) (tn ((ln r1.1.2.2.2.1 : Nat) : Int)))) Xa)
 (ob (Ae a0.2.2.2.1) fun r3 =>
 (ob (Ae (ap (Lb r1.1.2.2.2.1 (tn 0) (tn r2.1)) (Lb r1.1.2.2.2.1 (tn (wr .i64 (r2.1 + 1))) (tn ((ln r1.1.2.2.2.1 : Nat) : Int))))) fun r4 =>
 (ob (Hf r3.1 ([r4.1] : List Ra)) fun r5 =>
 (some ((r1.1.1, r1.1.2.1, r1.1.2.2.1, (ap (Lb r1.1.2.2.2.1 (tn 0) (tn r2.1)) (Lb r1.1.2.2.2.1 (tn (wr .i64 (r2.1 + 1))) (tn ((ln r1.1.2.2.2.1 : Nat) : Int)))), r1.1.2.2.2.2), r5.1, ())))))
 none)
 none)
 none)))
def Ps (t5 : Int) (t21 : Jh) (t22 : Int) (t23 : Int) : Option (JM ⊕ CF) :=
 (cond (decide (t23 < t22))
 (ob (Wb t21 t23) fun x16 =>
 (cond (x16.2.1.1 == 3)
 (cond (decide (0 ≤ x16.2.1.2.2.2.1))
 (some (.inl (((Lc .i64 t5 (Ma .i64 1 x16.2.1.2.2.2.1)), t21, t22, (wr .i64 (t23 + 1)), ()), ())))
 none)
 (some (.inl ((t5, t21, t22, (wr .i64 (t23 + 1)), ()), ())))))
 (some (.inr (.inl ((t5, ()), ())))))
def Jk := Ib fun x : JM => Ps x.1.1 x.1.2.1 x.1.2.2.1 x.1.2.2.2.1
def Lw (a0 : Int) (a1 : Jh) : Option Eg :=
 (cond (decide (a0 ≥ 0))
 (cond (decide (a0 ≤ 15))
 (ob (Sl a1) fun r1 =>
 (cond (!r1.1)
 (some ((Lc .i64 1 a0), ()))
 (ob (Jk (((Lc .i64 1 a0), a1, ((ln a1 : Nat) : Int), 0, ()), ())) (se (fun y5 => (some (y5.1.1, ()))) (fun z6 => none)))))
 (ob (Sl a1) fun r7 =>
 (cond (!r7.1)
 (some (1, ()))
 (ob (Jk ((1, a1, ((ln a1 : Nat) : Int), 0, ()), ())) (se (fun y11 => (some (y11.1.1, ()))) (fun z12 => none))))))
 (ob (Sl a1) fun r13 =>
 (cond (!r13.1)
 (some (1, ()))
 (ob (Jk ((1, a1, ((ln a1 : Nat) : Int), 0, ()), ())) (se (fun y17 => (some (y17.1.1, ()))) (fun z18 => none))))))
def JL (t1 : Int) (t2 : Int) (t3 : Unit) (t7 : Int) (b3 : Db) : Option (Oax ⊕ C0) :=
 (cond (decide (t7 > 0))
 (ob (Me t1 t7) fun r7 =>
 (cond (r7.1 == 1)
 (ob (Wb b3.2.1 t7) fun x8 =>
 (ob (Wb x8 t2) fun x9 =>
 (cond (x9.1 != 1)
 (some (.inr (.inr ((t7, ()), ()))))
 (some (.inl ((t1, t2, (), (wr .i64 (t7 - 1)), ()), (b3, ())))))))
 (some (.inl ((t1, t2, (), (wr .i64 (t7 - 1)), ()), (b3, ()))))))
 (some (.inr (.inl ((), ())))))
def Gj := Ib fun x : Oax => JL x.1.1 x.1.2.1 x.1.2.2.1 x.1.2.2.2.1 x.2.1
def Vz (a0 : Db) (a1 : Int) (a2 : Int) : Option Eg :=
 (ob (Gj ((a1, a2, (), (wr .i64 (((ln a0.2.1 : Nat) : Int) - 1)), ()), (a0, ()))) (se (fun y10 => (some (0, ()))) (fun z11 => (some (z11.1.1, ())))))
def HL (a0 : Db) (a1 : Int) (a2 : Int) : Option Eg :=
 (ob (Jw a0) fun r1 =>
 (cond (!r1.1)
 (some ((-1), ()))
 (cond (decide (a2 < 0))
 (some ((-1), ()))
 (cond (decide (a2 ≥ a0.1))
 (some ((-1), ()))
 (ob (Vz a0 a1 a2) fun r2 =>
 (some (r2.1, ())))))))
def GD (a0 : Db) (a1 : Int) (a2 : Int) : Option NV :=
 (ob (HL a0 a1 a2) fun r1 =>
 (cond (decide (r1.1 < 0))
 (some ((0, 0, 0, 0, ()), ()))
 (ob (Wb a0.2.1 r1.1) fun x2 =>
 (ob (Wb x2 a2) fun x3 =>
 (some (x3, ()))))))
def Hs (t1 : Int) (t2 : Int) (t4 : Int) (t5 : Unit) (t12 : Int) (t26 : Eh) (t27 : Int) (t28 : Int) (b5 : Cc) : Option (((Int × (Int × (Int × (Unit × Vx)))) × VJ) ⊕ (((Int × (Int × Gg)) × VJ) ⊕ LM)) :=
 (cond (decide (t28 < t27))
 (ob (Wb t26 t28) fun x10 =>
 (ob (Mt x10) fun r11 =>
 (cond (!r11.1)
 (some (.inr (.inr ((0, 0, ()), ()))))
 (cond (decide (x10.1 ≥ (wr .i64 (t2 + b5.1))))
 (some (.inr (.inr ((2, (wr .i64 (t2 + b5.1)), ()), ()))))
 (cond (x10.2.1 == t1)
 (cond (!x10.2.2.1)
 (some (.inr (.inr ((1, x10.1, ()), ()))))
 (cond (x10.2.1 == t1)
 (some (.inl ((t1, t2, t4, (), t12, t26, t27, (wr .i64 (t28 + 1)), ()), (b5, ()))))
 (cond x10.2.2.1
 (cond (b5.2.2.1 == 1)
 (some (.inr (.inr ((2, x10.1, ()), ()))))
 (cond (decide (0 ≤ x10.2.1))
 (some (.inl ((t1, t2, t4, (), (Lc .i64 t12 (Ma .i64 1 x10.2.1)), t26, t27, (wr .i64 (t28 + 1)), ()), (b5, ()))))
 none))
 (cond (b5.2.2.1 == 2)
 (ob (Me t12 x10.2.1) fun r12 =>
 (cond (r12.1 == 1)
 (some (.inr (.inr ((2, x10.1, ()), ()))))
 (some (.inl ((t1, t2, t4, (), t12, t26, t27, (wr .i64 (t28 + 1)), ()), (b5, ()))))))
 (some (.inl ((t1, t2, t4, (), t12, t26, t27, (wr .i64 (t28 + 1)), ()), (b5, ()))))))))
 (cond (x10.2.1 == t1)
 (some (.inl ((t1, t2, t4, (), t12, t26, t27, (wr .i64 (t28 + 1)), ()), (b5, ()))))
 (cond x10.2.2.1
 (cond (b5.2.2.1 == 1)
 (some (.inr (.inr ((2, x10.1, ()), ()))))
 (cond (decide (0 ≤ x10.2.1))
 (some (.inl ((t1, t2, t4, (), (Lc .i64 t12 (Ma .i64 1 x10.2.1)), t26, t27, (wr .i64 (t28 + 1)), ()), (b5, ()))))
 none))
 (cond (b5.2.2.1 == 2)
 (ob (Me t12 x10.2.1) fun r13 =>
 (cond (r13.1 == 1)
 (some (.inr (.inr ((2, x10.1, ()), ()))))
 (some (.inl ((t1, t2, t4, (), t12, t26, t27, (wr .i64 (t28 + 1)), ()), (b5, ()))))))
 (some (.inl ((t1, t2, t4, (), t12, t26, t27, (wr .i64 (t28 + 1)), ()), (b5, ()))))))))))))
 (some (.inr (.inl ((t2, t4, (), ()), (b5, ()))))))
def Uu := Ib fun x : ((Int × (Int × (Int × (Unit × Vx)))) × VJ) => Hs x.1.1 x.1.2.1 x.1.2.2.1 x.1.2.2.2.1 x.1.2.2.2.2.1 x.1.2.2.2.2.2.1 x.1.2.2.2.2.2.2.1 x.1.2.2.2.2.2.2.2.1 x.2.1
def Gw (a0 : Cc) (a1 : Int) (a2 : Int) (a3 : Eh) (a4 : Int) : Option Na :=
 (ob (Kw a0) fun r1 =>
 (cond (!r1.1)
 (some (0, 0, ()))
 (cond (decide (a2 < 0))
 (some (0, 0, ()))
 (cond (decide (a2 > 1000000))
 (some (0, 0, ()))
 (ob (Uu ((a1, a2, a4, (), 0, a3, ((ln a3 : Nat) : Int), 0, ()), (a0, ()))) (se (fun y14 => (cond (decide (y14.1.2.1 ≥ (wr .i64 (y14.1.1 + y14.2.1.1))))
 (some (2, (wr .i64 (y14.1.1 + y14.2.1.1)), ()))
 (some (0, 0, ())))) (fun z15 => (some z15.1))))))))
def VH (a0 : Pa) : Option NV :=
 (ob (Fo a0) fun r1 =>
 (cond (!r1.1)
 (some (a0, ()))
 (cond (a0.1 == 6)
 (some ((2, 0, a0.2.2.1, 0, ()), ()))
 (some ((3, 0, 0, a0.2.2.2.1, ()), ())))))
def Cy (a0 : Int) : Option Kd :=
 (cond (decide (a0 ≥ 1))
 (cond (decide (a0 ≤ 36))
 (some (true, ()))
 (cond (a0 == 39)
 (some (true, ()))
 (some ((a0 == 42), ()))))
 (cond (a0 == 39)
 (some (true, ()))
 (some ((a0 == 42), ()))))
def Lr (a0 : Jb) (a1 : Pa) : Option (Jb × NV) :=
 (cond (a1.1 == 2)
 (cond (a1.2.1 == 0)
 (some (a0, (a1, ())))
 (cond a0.2.2.2.2.2.1
 (ob (Cy a1.2.1) fun r1 =>
 (cond r1.1
 (cond (decide (a1.2.1 ≤ 26))
 (cond ((Pc .i64 (Lc .i64 a1.2.2.1 a0.2.2.2.2.1) 2) == 0)
 (some ((a0.1, a0.2.1, a0.2.2.1, a0.2.2.2.1, 0, r1.1, a0.2.2.2.2.2.2), ((a1.1, a1.2.1, 2, a1.2.2.2), ())))
 (some ((a0.1, a0.2.1, a0.2.2.1, a0.2.2.2.1, 0, r1.1, a0.2.2.2.2.2.2), ((a1.1, a1.2.1, (Lc .i64 a1.2.2.1 a0.2.2.2.2.1), a1.2.2.2), ()))))
 (some ((a0.1, a0.2.1, a0.2.2.1, a0.2.2.2.1, 0, r1.1, a0.2.2.2.2.2.2), ((a1.1, a1.2.1, (Lc .i64 a1.2.2.1 a0.2.2.2.2.1), a1.2.2.2), ()))))
 (some ((a0.1, a0.2.1, a0.2.2.1, a0.2.2.2.1, 0, r1.1, a0.2.2.2.2.2.2), ((a1.1, a1.2.1, (Lc .i64 a1.2.2.1 a0.2.2.2.2.1), a1.2.2.2), ())))))
 (some ((a0.1, a0.2.1, a0.2.2.1, a0.2.2.2.1, 0, false, a0.2.2.2.2.2.2), ((a1.1, a1.2.1, (Lc .i64 a1.2.2.1 a0.2.2.2.2.1), a1.2.2.2), ())))))
 (cond (a1.1 == 4)
 (cond (decide (0 ≤ a1.2.2.2.1))
 (some ((a0.1, a0.2.1, (Yb .i64 a0.2.2.1 (Ma .i64 1 a1.2.2.2.1)), a0.2.2.2), (a1, ())))
 none)
 (cond (a1.1 == 5)
 (cond (decide (0 ≤ a1.2.2.2.1))
 (some ((a0.1, a0.2.1, (Pc .i64 (Ma .i64 1 a1.2.2.2.1) 1), a0.2.2.2), (a1, ())))
 none)
 (cond (a1.1 == 8)
 (cond ((Ya .i64 a0.2.2.2.2.1 a1.2.2.1) == a1.2.2.1)
 (some ((a0.1, a0.2.1, a0.2.2.1, a0.2.2.2.1, (Pc .i64 a0.2.2.2.2.1 a1.2.2.1), a0.2.2.2.2.2), (a1, ())))
 (some ((a0.1, a0.2.1, a0.2.2.1, a0.2.2.2.1, (Lc .i64 a0.2.2.2.2.1 a1.2.2.1), a0.2.2.2.2.2), (a1, ()))))
 (cond (a1.1 == 10)
 (some ((a0.1, a0.2.1, a0.2.2.1, a0.2.2.2.1, a0.2.2.2.2.1, (!a0.2.2.2.2.2.1), a0.2.2.2.2.2.2), (a1, ())))
 (some (a0, (a1, ()))))))))
def Uq (t4 : Unit) (t5 : Unit) (t6 : Vc) (t15 : Qf) (t16 : Int) (t17 : Int) (b4 : Ra) (b5 : Ra) : Option (((Unit × (Unit × (Vc × Fm))) × X8) ⊕ Val) :=
 (cond (decide (t17 < t16))
 (ob (Wb t15 t17) fun x4 =>
 (cond (bl (ln t6 + ln ([x4.1] : List Int)) Xa)
 (some (.inl (((), (), (ap t6 ([x4.1] : List Int)), t15, t16, (wr .i64 (t17 + 1)), ()), (b4, ((Lc .i64 b5.1 x4.2.1), b5.2.1, ()), ()))))
 none))
 (some (.inr (.inl (((), (), t6, ()), (b4, b5, ()))))))
def Vt := Ib fun x : ((Unit × (Unit × (Vc × Fm))) × X8) => Uq x.1.1 x.1.2.1 x.1.2.2.1 x.1.2.2.2.1 x.1.2.2.2.2.1 x.1.2.2.2.2.2.1 x.2.1 x.2.2.1
def Hg (a0 : Ra) (a1 : Qf) : Option YZ :=
 (ob (Zp a0.2.1) fun r1 =>
 (ob (Vt (((), (), r1.1, a1, ((ln a1 : Nat) : Int), 0, ()), ((0, [], ()), (a0.1, [], ()), ()))) (se (fun y5 => (ob (Pt y5.1.2.2.1) fun r7 =>
 (some ((y5.2.2.1.1, r7.1, ()), ())))) (fun z6 => none))))
def Jm (t5 : Unit) (t6 : KQ) (t7 : Qf) (t22 : Zk) (t23 : Int) (t24 : Int) (b5 : Ra) : Option (((Unit × (KQ × J8)) × YZ) ⊕ FaM) :=
 (cond (decide (t24 < t23))
 (ob (Wb t22 t24) fun x25 =>
 (cond (x25.1 == 0)
 (cond (bl (ln ([] : List Na) + ln t7) Xa)
 (cond (bl (ln (ap [] t7) + ln ([x25.2] : List Na)) Xa)
 (ob (Hg b5 (ap (ap [] t7) ([x25.2] : List Na))) fun r26 =>
 (cond (bl (ln t6 + ln ([r26.1] : List Ra)) Xa)
 (ob (Hg b5 t7) fun r27 =>
 (cond (bl (ln (ap t6 ([r26.1] : List Ra)) + ln ([r27.1] : List Ra)) Xa)
 (some (.inl (((), (ap (ap t6 ([r26.1] : List Ra)) ([r27.1] : List Ra)), t7, t22, t23, (wr .i64 (t24 + 1)), ()), (b5, ()))))
 none))
 none))
 none)
 none)
 (cond (x25.1 == 1)
 (cond (bl (ln t7 + ln ([x25.2] : List Na)) Xa)
 (ob (Hg b5 (ap t7 ([x25.2] : List Na))) fun r28 =>
 (cond (bl (ln t6 + ln ([r28.1] : List Ra)) Xa)
 (some (.inl (((), (ap t6 ([r28.1] : List Ra)), (ap t7 ([x25.2] : List Na)), t22, t23, (wr .i64 (t24 + 1)), ()), (b5, ()))))
 none))
 none)
 (cond (x25.1 == 2)
 (ob (SC t7 x25.2) fun r29 =>
 (cond (We (ln t7) 0 r29.1)
 (cond (We (ln t7) (wr .i64 (r29.1 + 1)) ((ln t7 : Nat) : Int))
 (cond (bl (ln (Lb t7 (tn 0) (tn r29.1)) + ln (Lb t7 (tn (wr .i64 (r29.1 + 1))) (tn ((ln t7 : Nat) : Int)))) Xa)
 (ob (Hg b5 (ap (Lb t7 (tn 0) (tn r29.1)) (Lb t7 (tn (wr .i64 (r29.1 + 1))) (tn ((ln t7 : Nat) : Int))))) fun r30 =>
 (cond (bl (ln t6 + ln ([r30.1] : List Ra)) Xa)
 (some (.inl (((), (ap t6 ([r30.1] : List Ra)), (ap (Lb t7 (tn 0) (tn r29.1)) (Lb t7 (tn (wr .i64 (r29.1 + 1))) (tn ((ln t7 : Nat) : Int)))), t22, t23, (wr .i64 (t24 + 1)), ()), (b5, ()))))
 none))
 none)
 none)
 none))
 (ob (Hg b5 t7) fun r31 =>
 (cond (bl (ln t6 + ln ([r31.1] : List Ra)) Xa)
 (some (.inl (((), (ap t6 ([r31.1] : List Ra)), t7, t22, t23, (wr .i64 (t24 + 1)), ()), (b5, ()))))
 none))))))
 (some (.inr (.inl ((t6, ()), ())))))
def Uo := Ib fun x : ((Unit × (KQ × J8)) × YZ) => Jm x.1.1 x.1.2.1 x.1.2.2.1 x.1.2.2.2.1 x.1.2.2.2.2.1 x.1.2.2.2.2.2.1 x.2.1
def Mk (a0 : Jh) (a1 : Zk) : Option H0 :=
 (ob (Sl a0) fun r1 =>
 (cond (!r1.1)
 (some ([], ()))
 (ob (Rz a1) fun r2 =>
 (cond (!r2.1)
 (some ([], ()))
 (ob (Ae a0) fun r3 =>
 (ob (Uo (((), [], [], a1, ((ln a1 : Nat) : Int), 0, ()), (r3.1, ()))) (se (fun y32 => (some (y32.1.1, ()))) (fun z33 => none))))))))
def Xi (a0 : Jb) (a1 : Int) (a2 : Bool) : Option (Jb × H0) :=
 (ob (Kk a0) fun r1 =>
 (ob (Lw a0.2.2.1 a0.2.2.2.1) fun r2 =>
 (ob (Vz a0.1 r2.1 a1) fun r3 =>
 (ob (Wb a0.1.2.1 r3.1) fun x4 =>
 (ob (Wb x4 a1) fun x5 =>
 (cond a2
 (ob (VH x5) fun r6 =>
 (ob (Lr r1.1 r6.1) fun r7 =>
 (cond (bl (ln r7.1.2.2.2.1 + ln ([(a1, r7.2.1, ())] : List Va)) Xa)
 (cond (r7.2.1.1 == 9)
 (cond (decide (r7.2.1.2.2.2.1 < ((ln a0.2.1 : Nat) : Int)))
 (ob (Wb a0.2.1 r7.2.1.2.2.2.1) fun x8 =>
 (ob (Mk (ap r7.1.2.2.2.1 ([(a1, r7.2.1, ())] : List Va)) x8) fun r9 =>
 (ob (Ae (ap r7.1.2.2.2.1 ([(a1, r7.2.1, ())] : List Va))) fun r10 =>
 (cond (bl (ln r9.1 + ln ([r10.1] : List Ra)) Xa)
 (ob (Ae a0.2.2.2.1) fun r11 =>
 (ob (Hf r11.1 (ap r9.1 ([r10.1] : List Ra))) fun r12 =>
 (some ((r7.1.1, r7.1.2.1, r7.1.2.2.1, (ap r7.1.2.2.2.1 ([(a1, r7.2.1, ())] : List Va)), r7.1.2.2.2.2), r12.1, ()))))
 none))))
 (ob (Ae (ap r7.1.2.2.2.1 ([(a1, r7.2.1, ())] : List Va))) fun r13 =>
 (cond (bl (ln ([] : List Ra) + ln ([r13.1] : List Ra)) Xa)
 (ob (Ae a0.2.2.2.1) fun r14 =>
 (ob (Hf r14.1 (ap [] ([r13.1] : List Ra))) fun r15 =>
 (some ((r7.1.1, r7.1.2.1, r7.1.2.2.1, (ap r7.1.2.2.2.1 ([(a1, r7.2.1, ())] : List Va)), r7.1.2.2.2.2), r15.1, ()))))
 none)))
 (ob (Ae (ap r7.1.2.2.2.1 ([(a1, r7.2.1, ())] : List Va))) fun r16 =>
 (cond (bl (ln ([] : List Ra) + ln ([r16.1] : List Ra)) Xa)
 (ob (Ae a0.2.2.2.1) fun r17 =>
 (ob (Hf r17.1 (ap [] ([r16.1] : List Ra))) fun r18 =>
 (some ((r7.1.1, r7.1.2.1, r7.1.2.2.1, (ap r7.1.2.2.2.1 ([(a1, r7.2.1, ())] : List Va)), r7.1.2.2.2.2), r18.1, ()))))
 none)))
 none)))
 (ob (YJ x5) fun r19 =>
 (ob (Lr r1.1 r19.1) fun r20 =>
 (cond (bl (ln r20.1.2.2.2.1 + ln ([(a1, r20.2.1, ())] : List Va)) Xa)
 (cond (r20.2.1.1 == 9)
 (cond (decide (r20.2.1.2.2.2.1 < ((ln a0.2.1 : Nat) : Int)))
 (ob (Wb a0.2.1 r20.2.1.2.2.2.1) fun x21 =>
 (ob (Mk (ap r20.1.2.2.2.1 ([(a1, r20.2.1, ())] : List Va)) x21) fun r22 =>
 (ob (Ae (ap r20.1.2.2.2.1 ([(a1, r20.2.1, ())] : List Va))) fun r23 =>
 (cond (bl (ln r22.1 + ln ([r23.1] : List Ra)) Xa)
 (ob (Ae a0.2.2.2.1) fun r24 =>
 (ob (Hf r24.1 (ap r22.1 ([r23.1] : List Ra))) fun r25 =>
 (some ((r20.1.1, r20.1.2.1, r20.1.2.2.1, (ap r20.1.2.2.2.1 ([(a1, r20.2.1, ())] : List Va)), r20.1.2.2.2.2), r25.1, ()))))
 none))))
 (ob (Ae (ap r20.1.2.2.2.1 ([(a1, r20.2.1, ())] : List Va))) fun r26 =>
 (cond (bl (ln ([] : List Ra) + ln ([r26.1] : List Ra)) Xa)
 (ob (Ae a0.2.2.2.1) fun r27 =>
 (ob (Hf r27.1 (ap [] ([r26.1] : List Ra))) fun r28 =>
 (some ((r20.1.1, r20.1.2.1, r20.1.2.2.1, (ap r20.1.2.2.2.1 ([(a1, r20.2.1, ())] : List Va)), r20.1.2.2.2.2), r28.1, ()))))
 none)))
 (ob (Ae (ap r20.1.2.2.2.1 ([(a1, r20.2.1, ())] : List Va))) fun r29 =>
 (cond (bl (ln ([] : List Ra) + ln ([r29.1] : List Ra)) Xa)
 (ob (Ae a0.2.2.2.1) fun r30 =>
 (ob (Hf r30.1 (ap [] ([r29.1] : List Ra))) fun r31 =>
 (some ((r20.1.1, r20.1.2.1, r20.1.2.2.1, (ap r20.1.2.2.2.1 ([(a1, r20.2.1, ())] : List Va)), r20.1.2.2.2.2), r31.1, ()))))
 none)))
 none)))))))))
def Vi (a0 : Eb) : Option (Eb × (KQ × Kd)) :=
 (cond (Ci (ln a0.2.2.1) 0)
 (ob a0.2.2.1[(tn 0)]? fun x1 =>
 (cond (We (ln a0.2.2.1) 1 ((ln a0.2.2.1 : Nat) : Int))
 (cond (!x1.2.2.1)
 (cond (a0.2.2.2.2.2.1 == (wr .i64 (x1.2.1 + 1)))
 (ob (Yz a0.1 x1.2.1) fun r2 =>
 (cond (bl (ln ([] : List Ca) + ln (Lb a0.2.2.1 (tn 1) (tn ((ln a0.2.2.1 : Nat) : Int)))) Xa)
 (some ((r2.1, a0.2.1, (ap [] (Lb a0.2.2.1 (tn 1) (tn ((ln a0.2.2.1 : Nat) : Int)))), a0.2.2.2.1, (max a0.2.2.2.2.1 x1.1), a0.2.2.2.2.2.1, x1.1, a0.2.2.2.2.2.2.2), (r2.2.1, true, ())))
 none))
 (ob (Yz a0.1 x1.2.1) fun r3 =>
 (cond (bl (ln ([] : List Ca) + ln (Lb a0.2.2.1 (tn 1) (tn ((ln a0.2.2.1 : Nat) : Int)))) Xa)
 (some ((r3.1, a0.2.1, (ap [] (Lb a0.2.2.1 (tn 1) (tn ((ln a0.2.2.1 : Nat) : Int)))), a0.2.2.2.1, (max a0.2.2.2.2.1 x1.1), a0.2.2.2.2.2), (r3.2.1, true, ())))
 none)))
 (ob (Lw a0.1.2.2.1 a0.1.2.2.2.1) fun r4 =>
 (ob (GD a0.1.1 r4.1 x1.2.1) fun r5 =>
 (ob (Fo r5.1) fun r6 =>
 (cond r6.1
 (cond (a0.2.2.2.2.2.1 != (wr .i64 (x1.2.1 + 1)))
 (ob (Gw a0.2.1 x1.2.1 x1.1 (Lb a0.2.2.1 (tn 1) (tn ((ln a0.2.2.1 : Nat) : Int))) a0.2.2.2.1) fun r7 =>
 (cond (r7.1 == 0)
 (some (a0, ([], false, ())))
 (cond (r7.1 == 1)
 (ob (Xi a0.1 x1.2.1 false) fun r8 =>
 (cond (bl (ln ([] : List Ca) + ln (Lb a0.2.2.1 (tn 1) (tn ((ln a0.2.2.1 : Nat) : Int)))) Xa)
 (some ((r8.1, a0.2.1, (ap [] (Lb a0.2.2.1 (tn 1) (tn ((ln a0.2.2.1 : Nat) : Int)))), a0.2.2.2.1, (max (max a0.2.2.2.2.1 x1.1) r7.2.1), (wr .i64 (x1.2.1 + 1)), x1.1, a0.2.2.2.2.2.2.2), (r8.2.1, true, ())))
 none))
 (cond (r7.1 == 2)
 (ob (Xi a0.1 x1.2.1 true) fun r9 =>
 (cond (bl (ln ([] : List Ca) + ln (Lb a0.2.2.1 (tn 1) (tn ((ln a0.2.2.1 : Nat) : Int)))) Xa)
 (some ((r9.1, a0.2.1, (ap [] (Lb a0.2.2.1 (tn 1) (tn ((ln a0.2.2.1 : Nat) : Int)))), a0.2.2.2.1, (max (max a0.2.2.2.2.1 x1.1) r7.2.1), 0, a0.2.2.2.2.2.2), (r9.2.1, true, ())))
 none))
 (ob (Xi a0.1 x1.2.1 false) fun r10 =>
 (cond (bl (ln ([] : List Ca) + ln (Lb a0.2.2.1 (tn 1) (tn ((ln a0.2.2.1 : Nat) : Int)))) Xa)
 (some ((r10.1, a0.2.1, (ap [] (Lb a0.2.2.1 (tn 1) (tn ((ln a0.2.2.1 : Nat) : Int)))), a0.2.2.2.1, (max (max a0.2.2.2.2.1 x1.1) r7.2.1), a0.2.2.2.2.2), (r10.2.1, true, ())))
 none))))))
 (cond (decide ((wr .i64 (x1.1 - a0.2.2.2.2.2.2.1)) ≥ a0.2.1.2.1))
 (ob (Gw a0.2.1 x1.2.1 x1.1 (Lb a0.2.2.1 (tn 1) (tn ((ln a0.2.2.1 : Nat) : Int))) a0.2.2.2.1) fun r11 =>
 (cond (r11.1 == 0)
 (some (a0, ([], false, ())))
 (cond (r11.1 == 1)
 (ob (Xi a0.1 x1.2.1 false) fun r12 =>
 (cond (bl (ln ([] : List Ca) + ln (Lb a0.2.2.1 (tn 1) (tn ((ln a0.2.2.1 : Nat) : Int)))) Xa)
 (some ((r12.1, a0.2.1, (ap [] (Lb a0.2.2.1 (tn 1) (tn ((ln a0.2.2.1 : Nat) : Int)))), a0.2.2.2.1, (max (max a0.2.2.2.2.1 x1.1) r11.2.1), (wr .i64 (x1.2.1 + 1)), x1.1, a0.2.2.2.2.2.2.2), (r12.2.1, true, ())))
 none))
 (cond (r11.1 == 2)
 (ob (Xi a0.1 x1.2.1 true) fun r13 =>
 (cond (bl (ln ([] : List Ca) + ln (Lb a0.2.2.1 (tn 1) (tn ((ln a0.2.2.1 : Nat) : Int)))) Xa)
 (some ((r13.1, a0.2.1, (ap [] (Lb a0.2.2.1 (tn 1) (tn ((ln a0.2.2.1 : Nat) : Int)))), a0.2.2.2.1, (max (max a0.2.2.2.2.1 x1.1) r11.2.1), 0, a0.2.2.2.2.2.2), (r13.2.1, true, ())))
 none))
 (ob (Xi a0.1 x1.2.1 false) fun r14 =>
 (cond (bl (ln ([] : List Ca) + ln (Lb a0.2.2.1 (tn 1) (tn ((ln a0.2.2.1 : Nat) : Int)))) Xa)
 (some ((r14.1, a0.2.1, (ap [] (Lb a0.2.2.1 (tn 1) (tn ((ln a0.2.2.1 : Nat) : Int)))), a0.2.2.2.1, (max (max a0.2.2.2.2.1 x1.1) r11.2.1), a0.2.2.2.2.2), (r14.2.1, true, ())))
 none))))))
 (cond ((1 : Int) == 0)
 (some (a0, ([], false, ())))
 (cond ((1 : Int) == 1)
 (ob (Xi a0.1 x1.2.1 false) fun r15 =>
 (cond (bl (ln ([] : List Ca) + ln (Lb a0.2.2.1 (tn 1) (tn ((ln a0.2.2.1 : Nat) : Int)))) Xa)
 (some ((r15.1, a0.2.1, (ap [] (Lb a0.2.2.1 (tn 1) (tn ((ln a0.2.2.1 : Nat) : Int)))), a0.2.2.2.1, (max (max a0.2.2.2.2.1 x1.1) x1.1), (wr .i64 (x1.2.1 + 1)), x1.1, a0.2.2.2.2.2.2.2), (r15.2.1, true, ())))
 none))
 (cond ((1 : Int) == 2)
 (ob (Xi a0.1 x1.2.1 true) fun r16 =>
 (cond (bl (ln ([] : List Ca) + ln (Lb a0.2.2.1 (tn 1) (tn ((ln a0.2.2.1 : Nat) : Int)))) Xa)
 (some ((r16.1, a0.2.1, (ap [] (Lb a0.2.2.1 (tn 1) (tn ((ln a0.2.2.1 : Nat) : Int)))), a0.2.2.2.1, (max (max a0.2.2.2.2.1 x1.1) x1.1), 0, a0.2.2.2.2.2.2), (r16.2.1, true, ())))
 none))
 (ob (Xi a0.1 x1.2.1 false) fun r17 =>
 (cond (bl (ln ([] : List Ca) + ln (Lb a0.2.2.1 (tn 1) (tn ((ln a0.2.2.1 : Nat) : Int)))) Xa)
 (some ((r17.1, a0.2.1, (ap [] (Lb a0.2.2.1 (tn 1) (tn ((ln a0.2.2.1 : Nat) : Int)))), a0.2.2.2.1, (max (max a0.2.2.2.2.1 x1.1) x1.1), a0.2.2.2.2.2), (r17.2.1, true, ())))
 none)))))))
 (ob (Xi a0.1 x1.2.1 false) fun r18 =>
 (cond (bl (ln ([] : List Ca) + ln (Lb a0.2.2.1 (tn 1) (tn ((ln a0.2.2.1 : Nat) : Int)))) Xa)
 (some ((r18.1, a0.2.1, (ap [] (Lb a0.2.2.1 (tn 1) (tn ((ln a0.2.2.1 : Nat) : Int)))), a0.2.2.2.1, (max a0.2.2.2.2.1 x1.1), a0.2.2.2.2.2), (r18.2.1, true, ())))
 none)))))))
 none))
 none)
def LD (t0 : Em) (t1 : Int) (t9 : (KQ × Int)) (t10 : Int) (t11 : Int) : Option (((Em × (Int × ((KQ × Int) × Na))) × Unit) ⊕ (((Em × Unit) × Unit) ⊕ Gg)) :=
 (cond (decide (t11 < t10))
 (cond (Ci (ln t9.1) t11)
 (cond (yd (tn t11) (tn t9.2))
 (ob t9.1[(tn t11)]? fun x4 =>
 (cond (bl (ln t0 + ln ([(t1, x4, ())] : List Sd)) Xa)
 (some (.inl (((ap t0 ([(t1, x4, ())] : List Sd)), t1, (t9.1, ((((tn t11) + 1) : Nat) : Int)), t10, (wr .i64 (t11 + 1)), ()), ())))
 none))
 none)
 none)
 (some (.inr (.inl ((t0, ()), ())))))
def IE := Ib fun x : ((Em × (Int × ((KQ × Int) × Na))) × Unit) => LD x.1.1 x.1.2.1 x.1.2.2.1 x.1.2.2.2.1 x.1.2.2.2.2.1
def SI (a0 : Em) (a1 : Int) (a2 : KQ) : Option (Em × Unit) :=
 (ob (IE ((a0, a1, (a2, 0), ((ln a2 : Nat) : Int), 0, ()), ())) (se (fun y5 => (some (y5.1.1, ()))) (fun z6 => none)))
def Zh (t6 : Unit) (t9 : Unit) (t10 : Em) (b6 : Eb) (b9 : Eb) : Option (Faj ⊕ (Faj ⊕ Gg)) :=
 (cond (decide (((ln b9.2.2.1 : Nat) : Int) > 0))
 (ob (Vi b9) fun r25 =>
 (cond (!r25.2.2.1)
 (some (.inr (.inl (((), (), t10, ()), (b6, r25.1, ())))))
 (ob (SI t10 r25.1.2.2.2.2.1 r25.2.1) fun r26 =>
 (some (.inl (((), (), r26.1, ()), (b6, r25.1, ())))))))
 (some (.inr (.inl (((), (), t10, ()), (b6, b9, ()))))))
def Ug := Ib fun x : Faj => Zh x.1.1 x.1.2.1 x.1.2.2.1 x.2.1 x.2.2.1
def Gy (a0 : Eb) (a1 : Eh) (a2 : Int) : Option (Eb × HQ) :=
 (ob (Il a0) fun r1 =>
 (cond (!r1.1)
 (some (Qi, [], false, ()))
 (cond (decide (a2 < a0.2.2.2.1))
 (some (Qi, [], false, ()))
 (cond (decide (a2 > 1000000))
 (some (Qi, [], false, ()))
 (cond (decide (((ln a1 : Nat) : Int) > 0))
 (ob (Wb a1 0) fun x2 =>
 (cond (decide (x2.1 < a0.2.2.2.1))
 (some (Qi, [], false, ()))
 (ob (Wi a1 a2) fun r3 =>
 (cond (!r3.1)
 (some (Qi, [], false, ()))
 (ob (Jl a0) fun r4 =>
 (cond (bl (ln r4.1.2.2.1 + ln a1) Xa)
 (ob (Um a0.1.2.2.2.1) fun r5 =>
 (ob (Yi (ap r4.1.2.2.1 a1) r5.1 a0.1.1.1) fun r6 =>
 (cond (!r6.1)
 (some (Qi, [], false, ()))
 (ob (Ug (((), (), [], ()), (Qi, (r4.1.1, r4.1.2.1, (ap r4.1.2.2.1 a1), a2, r4.1.2.2.2.2), ()))) (se (fun y15 => (some (y15.2.2.1, y15.1.2.2.1, true, ()))) (fun z16 => none))))))
 none))))))
 (ob (Wi a1 a2) fun r17 =>
 (cond (!r17.1)
 (some (Qi, [], false, ()))
 (ob (Jl a0) fun r18 =>
 (cond (bl (ln r18.1.2.2.1 + ln a1) Xa)
 (ob (Um a0.1.2.2.2.1) fun r19 =>
 (ob (Yi (ap r18.1.2.2.1 a1) r19.1 a0.1.1.1) fun r20 =>
 (cond (!r20.1)
 (some (Qi, [], false, ()))
 (ob (Ug (((), (), [], ()), (Qi, (r18.1.1, r18.1.2.1, (ap r18.1.2.2.1 a1), a2, r18.1.2.2.2.2), ()))) (se (fun y27 => (some (y27.2.2.1, y27.1.2.2.1, true, ()))) (fun z28 => none))))))
 none)))))))))
def FI (a0 : Ab) (a1 : Int) : Option (Ab × NV) :=
 (ob (Hb a0 56) fun r1 =>
 (ob (Hb r1.1 15) fun r2 =>
 (ob (Yh r2.1 2) fun r3 =>
 (cond r3.2.1
 (ob (Hb r3.1 (max 1 (wr .i64 (a1 - 1)))) fun r4 =>
 (ob (Hb r4.1 16) fun r5 =>
 (cond (r5.2.1 == 0)
 (some (r5.1, ((2, (wr .i64 (1 + r1.2.1)), 2, 0, ()), ())))
 (cond (r5.2.1 == 1)
 (some (r5.1, ((2, 0, 2, 0, ()), ())))
 (cond (r5.2.1 == 2)
 (some (r5.1, ((6, (wr .i64 (1 + r1.2.1)), 2, 0, ()), ())))
 (cond (r5.2.1 == 3)
 (some (r5.1, ((6, (wr .i64 (1 + r1.2.1)), 2, 0, ()), ())))
 (cond (r5.2.1 == 4)
 (some (r5.1, ((8, 0, 2, 0, ()), ())))
 (cond (r5.2.1 == 5)
 (ob (Hb r5.1 4) fun r6 =>
 (some (r6.1, ((9, 0, 0, r6.2.1, ()), ()))))
 (cond (r5.2.1 == 6)
 (some (r5.1, ((10, 0, 0, 0, ()), ())))
 (cond (r5.2.1 == 7)
 (ob (Hb r5.1 (max 1 a1)) fun r7 =>
 (some (r7.1, ((5, 0, 0, r7.2.1, ()), ()))))
 (cond (r5.2.1 == 8)
 (cond (decide (a1 > 1))
 (ob (Hb r5.1 3) fun r8 =>
 (cond (Ci (ln ([(3, 0, 0, (wr .i64 (1 + r4.2.1)), ()), (4, 0, 0, (wr .i64 (1 + r4.2.1)), ()), (7, (wr .i64 (1 + r1.2.1)), 0, (wr .i64 (1 + r4.2.1)), ())] : List Pa)) r8.2.1)
 (ob ([(3, 0, 0, (wr .i64 (1 + r4.2.1)), ()), (4, 0, 0, (wr .i64 (1 + r4.2.1)), ()), (7, (wr .i64 (1 + r1.2.1)), 0, (wr .i64 (1 + r4.2.1)), ())] : List Pa)[(tn r8.2.1)]? fun x9 =>
 (some (r8.1, (x9, ()))))
 none))
 (some (r5.1, ((2, (wr .i64 (1 + r1.2.1)), 0, 0, ()), ()))))
 (cond (r5.2.1 == 9)
 (cond (decide (a1 > 1))
 (ob (Hb r5.1 3) fun r10 =>
 (cond (Ci (ln ([(3, 0, 0, (wr .i64 (1 + r4.2.1)), ()), (4, 0, 0, (wr .i64 (1 + r4.2.1)), ()), (7, (wr .i64 (1 + r1.2.1)), 0, (wr .i64 (1 + r4.2.1)), ())] : List Pa)) r10.2.1)
 (ob ([(3, 0, 0, (wr .i64 (1 + r4.2.1)), ()), (4, 0, 0, (wr .i64 (1 + r4.2.1)), ()), (7, (wr .i64 (1 + r1.2.1)), 0, (wr .i64 (1 + r4.2.1)), ())] : List Pa)[(tn r10.2.1)]? fun x11 =>
 (some (r10.1, (x11, ()))))
 none))
 (some (r5.1, ((2, (wr .i64 (1 + r1.2.1)), 0, 0, ()), ()))))
 (cond (r5.2.1 == 10)
 (cond (decide (a1 > 1))
 (ob (Hb r5.1 3) fun r12 =>
 (cond (Ci (ln ([(3, 0, 0, (wr .i64 (1 + r4.2.1)), ()), (4, 0, 0, (wr .i64 (1 + r4.2.1)), ()), (7, (wr .i64 (1 + r1.2.1)), 0, (wr .i64 (1 + r4.2.1)), ())] : List Pa)) r12.2.1)
 (ob ([(3, 0, 0, (wr .i64 (1 + r4.2.1)), ()), (4, 0, 0, (wr .i64 (1 + r4.2.1)), ()), (7, (wr .i64 (1 + r1.2.1)), 0, (wr .i64 (1 + r4.2.1)), ())] : List Pa)[(tn r12.2.1)]? fun x13 =>
 (some (r12.1, (x13, ()))))
 none))
 (some (r5.1, ((2, (wr .i64 (1 + r1.2.1)), 0, 0, ()), ()))))
 (some (r5.1, ((2, (wr .i64 (1 + r1.2.1)), 0, 0, ()), ()))))))))))))))))
 (ob (Hb r3.1 (max 1 (wr .i64 (a1 - 1)))) fun r14 =>
 (ob (Hb r14.1 16) fun r15 =>
 (cond (r15.2.1 == 0)
 (some (r15.1, ((2, (wr .i64 (1 + r1.2.1)), (wr .i64 (1 + r2.2.1)), 0, ()), ())))
 (cond (r15.2.1 == 1)
 (some (r15.1, ((2, 0, (wr .i64 (1 + r2.2.1)), 0, ()), ())))
 (cond (r15.2.1 == 2)
 (some (r15.1, ((6, (wr .i64 (1 + r1.2.1)), (wr .i64 (1 + r2.2.1)), 0, ()), ())))
 (cond (r15.2.1 == 3)
 (some (r15.1, ((6, (wr .i64 (1 + r1.2.1)), (wr .i64 (1 + r2.2.1)), 0, ()), ())))
 (cond (r15.2.1 == 4)
 (some (r15.1, ((8, 0, (wr .i64 (1 + r2.2.1)), 0, ()), ())))
 (cond (r15.2.1 == 5)
 (ob (Hb r15.1 4) fun r16 =>
 (some (r16.1, ((9, 0, 0, r16.2.1, ()), ()))))
 (cond (r15.2.1 == 6)
 (some (r15.1, ((10, 0, 0, 0, ()), ())))
 (cond (r15.2.1 == 7)
 (ob (Hb r15.1 (max 1 a1)) fun r17 =>
 (some (r17.1, ((5, 0, 0, r17.2.1, ()), ()))))
 (cond (r15.2.1 == 8)
 (cond (decide (a1 > 1))
 (ob (Hb r15.1 3) fun r18 =>
 (cond (Ci (ln ([(3, 0, 0, (wr .i64 (1 + r14.2.1)), ()), (4, 0, 0, (wr .i64 (1 + r14.2.1)), ()), (7, (wr .i64 (1 + r1.2.1)), 0, (wr .i64 (1 + r14.2.1)), ())] : List Pa)) r18.2.1)
 (ob ([(3, 0, 0, (wr .i64 (1 + r14.2.1)), ()), (4, 0, 0, (wr .i64 (1 + r14.2.1)), ()), (7, (wr .i64 (1 + r1.2.1)), 0, (wr .i64 (1 + r14.2.1)), ())] : List Pa)[(tn r18.2.1)]? fun x19 =>
 (some (r18.1, (x19, ()))))
 none))
 (some (r15.1, ((2, (wr .i64 (1 + r1.2.1)), 0, 0, ()), ()))))
 (cond (r15.2.1 == 9)
 (cond (decide (a1 > 1))
 (ob (Hb r15.1 3) fun r20 =>
 (cond (Ci (ln ([(3, 0, 0, (wr .i64 (1 + r14.2.1)), ()), (4, 0, 0, (wr .i64 (1 + r14.2.1)), ()), (7, (wr .i64 (1 + r1.2.1)), 0, (wr .i64 (1 + r14.2.1)), ())] : List Pa)) r20.2.1)
 (ob ([(3, 0, 0, (wr .i64 (1 + r14.2.1)), ()), (4, 0, 0, (wr .i64 (1 + r14.2.1)), ()), (7, (wr .i64 (1 + r1.2.1)), 0, (wr .i64 (1 + r14.2.1)), ())] : List Pa)[(tn r20.2.1)]? fun x21 =>
 (some (r20.1, (x21, ()))))
 none))
 (some (r15.1, ((2, (wr .i64 (1 + r1.2.1)), 0, 0, ()), ()))))
 (cond (r15.2.1 == 10)
 (cond (decide (a1 > 1))
 (ob (Hb r15.1 3) fun r22 =>
 (cond (Ci (ln ([(3, 0, 0, (wr .i64 (1 + r14.2.1)), ()), (4, 0, 0, (wr .i64 (1 + r14.2.1)), ()), (7, (wr .i64 (1 + r1.2.1)), 0, (wr .i64 (1 + r14.2.1)), ())] : List Pa)) r22.2.1)
 (ob ([(3, 0, 0, (wr .i64 (1 + r14.2.1)), ()), (4, 0, 0, (wr .i64 (1 + r14.2.1)), ()), (7, (wr .i64 (1 + r1.2.1)), 0, (wr .i64 (1 + r14.2.1)), ())] : List Pa)[(tn r22.2.1)]? fun x23 =>
 (some (r22.1, (x23, ()))))
 none))
 (some (r15.1, ((2, (wr .i64 (1 + r1.2.1)), 0, 0, ()), ()))))
 (some (r15.1, ((2, (wr .i64 (1 + r1.2.1)), 0, 0, ()), ()))))))))))))))))))))
def DG (t0 : Unit) (t1 : Int) (t4 : Unit) (t5 : Int) (t6 : Unit) (t7 : Int) (t8 : As) (t9 : Int) (b500000 : Ab) (b4 : Db) (b6 : Db) : Option (Rax ⊕ (((Unit × (Int × (Unit × (Int × (Unit × (Int × (As × Unit))))))) × K0) ⊕ Gg)) :=
 (cond (decide (t9 < t1))
 (ob (FI b500000 t5) fun r30 =>
 (cond (decide (t7 > 0))
 (ob (Yh r30.1 3) fun r31 =>
 (cond r31.2.1
 (cond (bl (ln t8 + ln ([(1, 0, 0, 0, ())] : List Pa)) Xa)
 (some (.inl (((), t1, (), t5, (), t7, (ap t8 ([(1, 0, 0, 0, ())] : List Pa)), (wr .i64 (t9 + 1)), ()), (r31.1, b4, b6, ()))))
 none)
 (cond (bl (ln t8 + ln ([r30.2.1] : List Pa)) Xa)
 (some (.inl (((), t1, (), t5, (), t7, (ap t8 ([r30.2.1] : List Pa)), (wr .i64 (t9 + 1)), ()), (r31.1, b4, b6, ()))))
 none)))
 (cond (bl (ln t8 + ln ([r30.2.1] : List Pa)) Xa)
 (some (.inl (((), t1, (), t5, (), t7, (ap t8 ([r30.2.1] : List Pa)), (wr .i64 (t9 + 1)), ()), (r30.1, b4, b6, ()))))
 none)))
 (some (.inr (.inl (((), t1, (), t5, (), t7, t8, ()), (b500000, b4, b6, ()))))))
def UA := Ib fun x : Rax => DG x.1.1 x.1.2.1 x.1.2.2.1 x.1.2.2.2.1 x.1.2.2.2.2.1 x.1.2.2.2.2.2.1 x.1.2.2.2.2.2.2.1 x.1.2.2.2.2.2.2.2.1 x.2.1 x.2.2.1 x.2.2.2.1
def CG (t0 : Unit) (t1 : Int) (t4 : Unit) (t5 : Int) (t6 : Unit) (t7 : Int) (b500000 : Ab) (b4 : Db) (b6 : Db) : Option (((Unit × (Int × (Unit × E0))) × K0) ⊕ ((Daj × K0) ⊕ Gg)) :=
 (cond (decide (t7 < t5))
 (ob (UA (((), t1, (), t5, (), t7, [], 0, ()), (b500000, b4, b6, ()))) (se (fun y32 => (cond (bl (ln y32.2.2.2.1.2.1 + ln ([y32.1.2.2.2.2.2.2.1] : List As)) Xa)
 (some (.inl (((), y32.1.2.1, (), y32.1.2.2.2.1, (), (wr .i64 (y32.1.2.2.2.2.2.1 + 1)), ()), (y32.2.1, y32.2.2.1, (y32.2.2.2.1.1, (ap y32.2.2.2.1.2.1 ([y32.1.2.2.2.2.2.2.1] : List As)), ()), ()))))
 none)) (fun z33 => (some (.inr (.inr ((), ())))))))
 (some (.inr (.inl (((), (), (), ()), (b500000, b4, b6, ()))))))
def TA := Ib fun x : ((Unit × (Int × (Unit × E0))) × K0) => CG x.1.1 x.1.2.1 x.1.2.2.1 x.1.2.2.2.1 x.1.2.2.2.2.1 x.1.2.2.2.2.2.1 x.2.1 x.2.2.1 x.2.2.2.1
def HI (a0 : Ab) (a1 : Int) : Option (Ab × UB) :=
 (ob (Hb a0 4) fun r1 =>
 (ob (TA (((), a1, (), (wr .i64 (1 + r1.2.1)), (), 0, ()), (r1.1, (0, [], ()), (a1, [], ()), ()))) (se (fun y34 => (some (y34.2.1, (y34.2.2.2.1, ())))) (fun z35 => none))))
def Zy (t1 : Unit) (t2 : Unit) (t3 : Unit) (t4 : Int) (b1 : Db) (b2 : Db) (b3 : Db) : Option ((I8 × (Db × BD)) ⊕ ((B0 × BD) ⊕ Gg)) :=
 (cond (decide (t4 < ((ln b1.2.1 : Nat) : Int)))
 (ob (Wb b1.2.1 t4) fun x4 =>
 (cond (bl (ln ([] : List Pa) + ln x4) Xa)
 (cond (bl (ln b3.2.1 + ln ([(ap [] x4)] : List As)) Xa)
 (some (.inl (((), (), (), (wr .i64 (t4 + 1)), ()), (b1, b2, (b3.1, (ap b3.2.1 ([(ap [] x4)] : List As)), ()), ()))))
 none)
 none))
 (some (.inr (.inl (((), (), ()), (b2, b3, ()))))))
def SA := Ib fun x : (I8 × (Db × BD)) => Zy x.1.1 x.1.2.1 x.1.2.2.1 x.1.2.2.2.1 x.2.1 x.2.2.1 x.2.2.2.1
def GI (a0 : Db) : Option UB :=
 (ob (SA (((), (), (), 0, ()), (a0, (0, [], ()), (a0.1, [], ()), ()))) (se (fun y5 => (some (y5.2.2.1, ()))) (fun z6 => none)))
def Vy (t0 : Jh) (t3 : Int) (t4 : Int) : Option ((IQ × Unit) ⊕ AB) :=
 (cond (decide (t4 < ((ln t0 : Nat) : Int)))
 (ob (Wb t0 t4) fun x15 =>
 (ob (Wb t0 t4) fun x16 =>
 (ob (Ec x16.1 0 31) fun r17 =>
 (cond (!r17.1)
 (some (.inr (.inr ((false, ()), ()))))
 (ob (Wb t0 t4) fun x18 =>
 (cond (decide (0 ≤ x18.1))
 (cond ((Ya .i64 (Ac .i64 t3 x18.1) 1) == 1)
 (some (.inr (.inr ((false, ()), ()))))
 (ob (Tk x15.2.1) fun r19 =>
 (cond (!r19.1)
 (some (.inr (.inr ((false, ()), ()))))
 (cond (x15.2.1.1 == 1)
 (some (.inr (.inr ((false, ()), ()))))
 (ob (QB x15.2.1) fun r20 =>
 (cond r20.1
 (some (.inr (.inr ((false, ()), ()))))
 (ob (Wb t0 t4) fun x21 =>
 (cond (decide (0 ≤ x21.1))
 (some (.inl ((t0, (Lc .i64 t3 (Ma .i64 1 x21.1)), (wr .i64 (t4 + 1)), ()), ())))
 none))))))))
 none))))))
 (some (.inr (.inl ((), ())))))
def KA := Ib fun x : (IQ × Unit) => Vy x.1.1 x.1.2.1 x.1.2.2.1
def BI (a0 : Jh) : Option Kd :=
 (ob (KA ((a0, 0, 0, ()), ())) (se (fun y22 => (some (true, ()))) (fun z23 => (some (z23.1.1, ())))))
def Az (t0 : Jh) (t3 : Unit) (t5 : Int) (b3 : Cc) : Option (((Jh × Ux) × VJ) ⊕ C0) :=
 (cond (decide (t5 < ((ln t0 : Nat) : Int)))
 (ob (Wb t0 t5) fun x5 =>
 (cond (x5.2.1.2.1 == b3.2.1)
 (ob (Wb t0 t5) fun x6 =>
 (cond (x6.2.1.2.2.1 == b3.2.2.1)
 (some (.inr (.inr ((t5, ()), ()))))
 (some (.inl ((t0, (), (wr .i64 (t5 + 1)), ()), (b3, ()))))))
 (some (.inl ((t0, (), (wr .i64 (t5 + 1)), ()), (b3, ()))))))
 (some (.inr (.inl ((), ())))))
def WA := Ib fun x : ((Jh × Ux) × VJ) => Az x.1.1 x.1.2.1 x.1.2.2.1 x.2.1
def KI (a0 : Jh) (a1 : Cc) : Option Eg :=
 (ob (WA ((a0, (), 0, ()), (a1, ()))) (se (fun y7 => (some ((-1), ()))) (fun z8 => (some (z8.1.1, ())))))
def UD (a0 : Cc) : Option NV :=
 (some ((2, a0.2.1, a0.2.2.1, 0, ()), ()))
def Eu (a0 : Jh) (a1 : Int) : Option (Jh × Unit) :=
 (cond (We (ln a0) 0 a1)
 (cond (bl (ln ([] : List Va) + ln (Lb a0 (tn 0) (tn a1))) Xa)
 (cond (We (ln a0) (wr .i64 (a1 + 1)) ((ln a0 : Nat) : Int))
 (cond (bl (ln (ap [] (Lb a0 (tn 0) (tn a1))) + ln (Lb a0 (tn (wr .i64 (a1 + 1))) (tn ((ln a0 : Nat) : Int)))) Xa)
 (some ((ap (ap [] (Lb a0 (tn 0) (tn a1))) (Lb a0 (tn (wr .i64 (a1 + 1))) (tn ((ln a0 : Nat) : Int)))), ()))
 none)
 none)
 none)
 none)
def Yo (t0 : Zk) (t3 : Jh) (t4 : Int) : Option (((Zk × (Jh × Eg)) × Unit) ⊕ (((Zk × (Jh × Unit)) × Unit) ⊕ Nl)) :=
 (cond (decide (t4 < ((ln t0 : Nat) : Int)))
 (ob (Wb t0 t4) fun x15 =>
 (ob (KI t3 x15) fun r16 =>
 (ob (Ec x15.1 0 2) fun r17 =>
 (cond (!r17.1)
 (some (.inr (.inr ((false, ()), ()))))
 (ob (UD x15) fun r18 =>
 (ob (Tk r18.1) fun r19 =>
 (cond (!r19.1)
 (some (.inr (.inr ((false, ()), ()))))
 (cond ((x15.1 == 2) != (decide (r16.1 ≥ 0)))
 (some (.inr (.inr ((false, ()), ()))))
 (cond (x15.1 == 1)
 (ob (UD x15) fun r20 =>
 (cond (bl (ln t3 + ln ([(0, r20.1, ())] : List Va)) Xa)
 (some (.inl ((t0, (ap t3 ([(0, r20.1, ())] : List Va)), (wr .i64 (t4 + 1)), ()), ())))
 none))
 (cond (x15.1 == 2)
 (ob (Eu t3 r16.1) fun r21 =>
 (some (.inl ((t0, r21.1, (wr .i64 (t4 + 1)), ()), ()))))
 (some (.inl ((t0, t3, (wr .i64 (t4 + 1)), ()), ())))))))))))))
 (some (.inr (.inl ((t0, t3, ()), ())))))
def Px := Ib fun x : ((Zk × (Jh × Eg)) × Unit) => Yo x.1.1 x.1.2.1 x.1.2.2.1
def ZF (a0 : Zk) : Option Kd :=
 (ob (Px ((a0, [], 0, ()), ())) (se (fun y22 => (cond (decide (((ln y22.1.1 : Nat) : Int) ≤ 8))
 (some ((((ln y22.1.2.1 : Nat) : Int) == 0), ()))
 (some (false, ())))) (fun z23 => (some (z23.1.1, ())))))
def Zs (t1 : Unit) (t3 : Int) (b1 : Jb) : Option ((Ux × Gk) ⊕ ((Gg × Gk) ⊕ Nl)) :=
 (cond (decide (t3 < ((ln b1.2.1 : Nat) : Int)))
 (ob (Wb b1.2.1 t3) fun x7 =>
 (ob (ZF x7) fun r8 =>
 (cond (!r8.1)
 (some (.inr (.inr ((false, ()), ()))))
 (some (.inl (((), (wr .i64 (t3 + 1)), ()), (b1, ())))))))
 (some (.inr (.inl (((), ()), (b1, ()))))))
def Tn := Ib fun x : (Ux × Gk) => Zs x.1.1 x.1.2.1 x.2.1
def At (t1 : Unit) (t4 : Int) (b1 : Jb) : Option ((Ux × Gk) ⊕ ((Gg × Gk) ⊕ Nl)) :=
 (cond (decide (t4 < ((ln b1.2.2.2.1 : Nat) : Int)))
 (ob (Wb b1.2.2.2.1 t4) fun x17 =>
 (cond (decide (x17.1 ≥ b1.1.1))
 (some (.inr (.inr ((false, ()), ()))))
 (ob (Wb b1.2.2.2.1 t4) fun x18 =>
 (cond (x18.2.1.1 != 9)
 (ob (Wb b1.2.2.2.1 t4) fun x19 =>
 (cond (decide (x19.2.1.2.2.2.1 ≥ ((ln b1.1.2.1 : Nat) : Int)))
 (some (.inr (.inr ((false, ()), ()))))
 (some (.inl (((), (wr .i64 (t4 + 1)), ()), (b1, ()))))))
 (some (.inl (((), (wr .i64 (t4 + 1)), ()), (b1, ()))))))))
 (some (.inr (.inl (((), ()), (b1, ()))))))
def Un := Ib fun x : (Ux × Gk) => At x.1.1 x.1.2.1 x.2.1
def Qw (a0 : Jb) : Option Kd :=
 (ob (RD a0.1) fun r1 =>
 (cond (!r1.1)
 (some (false, ()))
 (cond (decide (((ln a0.2.1 : Nat) : Int) > 4))
 (some (false, ()))
 (ob (BI a0.2.2.2.1) fun r2 =>
 (cond (!r2.1)
 (some (false, ()))
 (ob (Tn (((), 0, ()), (a0, ()))) (se (fun y9 => (ob (Un (((), 0, ()), (y9.2.1, ()))) (se (fun y20 => (cond (decide (0 ≤ ((ln y20.2.1.1.2.1 : Nat) : Int)))
 (ob (Ec y20.2.1.2.2.1 0 (wr .i64 ((Ma .i64 1 ((ln y20.2.1.1.2.1 : Nat) : Int)) - 1))) fun r22 =>
 (cond r22.1
 (cond ((2 : Int) == 0)
 none
 (cond ((yn y20.2.1.2.2.1 2) == 0)
 (ob (Ec y20.2.1.2.2.2.2.1 0 15) fun r23 =>
 (some (r23.1, ())))
 (some (false, ()))))
 (some (false, ()))))
 none)) (fun z21 => (some (z21.1.1, ())))))) (fun z10 => (some (z10.1.1, ()))))))))))
def Bz (t1 : Unit) (t2 : Unit) (t3 : Unit) (t4 : Int) (b1 : Jb) (b2 : Jb) (b3 : Jb) : Option ((I8 × (Jb × Baj)) ⊕ ((Daj × (Jb × Baj)) ⊕ Gg)) :=
 (cond (decide (t4 < ((ln b1.2.1 : Nat) : Int)))
 (ob (Wb b1.2.1 t4) fun x4 =>
 (cond (bl (ln ([] : List Cc) + ln x4) Xa)
 (cond (bl (ln b3.2.1 + ln ([(ap [] x4)] : List Zk)) Xa)
 (some (.inl (((), (), (), (wr .i64 (t4 + 1)), ()), (b1, b2, (b3.1, (ap b3.2.1 ([(ap [] x4)] : List Zk)), b3.2.2), ()))))
 none)
 none))
 (some (.inr (.inl (((), (), (), ()), (b1, b2, b3, ()))))))
def XA := Ib fun x : (I8 × (Jb × Baj)) => Bz x.1.1 x.1.2.1 x.1.2.2.1 x.1.2.2.2.1 x.2.1 x.2.2.1 x.2.2.2.1
def Bx (a0 : Jb) : Option Gk :=
 (ob (GI a0.1) fun r1 =>
 (ob (XA (((), (), (), 0, ()), (a0, YS, (r1.1, [], a0.2.2), ()))) (se (fun y5 => (cond (bl (ln ([] : List Va) + ln y5.2.1.2.2.2.1) Xa)
 (some ((y5.2.2.2.1.1, y5.2.2.2.1.2.1, y5.2.2.2.1.2.2.1, (ap [] y5.2.1.2.2.2.1), y5.2.2.2.1.2.2.2.2), ()))
 none)) (fun z6 => none))))
def RB (a0 : Db) (a1 : Bs) : Option (Jb × Kd) :=
 (ob (Qw (a0, a1, 0, [], 0, false, ())) fun r1 =>
 (cond (!r1.1)
 (some (YS, false, ()))
 (ob (Bx (a0, a1, 0, [], 0, false, ())) fun r2 =>
 (some (r2.1, true, ())))))
def Kv (t2 : Unit) (t3 : Unit) (t5 : Int) (t6 : Int) (b2 : Db) (b3 : Db) : Option (((Unit × OH) × BD) ⊕ ((GQ × BD) ⊕ Nl)) :=
 (ob (Wb b2.2.1 t5) fun x51 =>
 (cond (decide (t6 < ((ln x51 : Nat) : Int)))
 (ob (Wb b2.2.1 t5) fun x52 =>
 (ob (Wb x52 t6) fun x53 =>
 (ob (Wb b3.2.1 t5) fun x54 =>
 (ob (Wb x54 t6) fun x55 =>
 (cond (!(Ml Mc x53 x55))
 (some (.inr (.inr ((false, ()), ()))))
 (some (.inl (((), (), t5, (wr .i64 (t6 + 1)), ()), (b2, b3, ())))))))))
 (some (.inr (.inl (((), (), t5, ()), (b2, b3, ())))))))
def Jp := Ib fun x : ((Unit × OH) × BD) => Kv x.1.1 x.1.2.1 x.1.2.2.1 x.1.2.2.2.1 x.2.1 x.2.2.1
def Jv (t2 : Unit) (t3 : Unit) (t5 : Int) (b2 : Db) (b3 : Db) : Option ((GQ × BD) ⊕ AB) :=
 (cond (decide (t5 < ((ln b2.2.1 : Nat) : Int)))
 (ob (Wb b2.2.1 t5) fun x39 =>
 (ob (Wb b3.2.1 t5) fun x40 =>
 (cond (((ln x39 : Nat) : Int) != ((ln x40 : Nat) : Int))
 (some (.inr (.inr ((false, ()), ()))))
 (ob (Jp (((), (), t5, 0, ()), (b2, b3, ()))) (se (fun y56 => (some (.inl (((), (), (wr .i64 (y56.1.2.2.1 + 1)), ()), y56.2)))) (fun z57 => (some (.inr (.inr ((z57.1.1, ()), ()))))))))))
 (some (.inr (.inl ((), ())))))
def Nx := Ib fun x : (GQ × BD) => Jv x.1.1 x.1.2.1 x.1.2.2.1 x.2.1 x.2.2.1
def UF (a0 : Db) (a1 : Db) : Option Kd :=
 (cond (a0.1 != a1.1)
 (some (false, ()))
 (cond (((ln a0.2.1 : Nat) : Int) != ((ln a1.2.1 : Nat) : Int))
 (some (false, ()))
 (ob (Nx (((), (), 0, ()), (a0, a1, ()))) (se (fun y58 => (some (true, ()))) (fun z59 => (some (z59.1.1, ())))))))
def Sn (t1 : Unit) (t3 : Int) (b1 : Rb) : Option ((Ux × VZ) ⊕ ((Gg × VZ) ⊕ Nl)) :=
 (cond (decide (t3 < ((ln b1.2.2.2.2.2.1 : Nat) : Int)))
 (ob (Wb b1.2.2.2.2.2.1 t3) fun x8 =>
 (ob (Ec x8 0 99) fun r9 =>
 (cond (!r9.1)
 (some (.inr (.inr ((false, ()), ()))))
 (some (.inl (((), (wr .i64 (t3 + 1)), ()), (b1, ())))))))
 (some (.inr (.inl (((), ()), (b1, ()))))))
def Vp := Ib fun x : (Ux × VZ) => Sn x.1.1 x.1.2.1 x.2.1
def Xo (a0 : Rb) : Option Kd :=
 (ob (Ec a0.1 0 2) fun r1 =>
 (cond (!r1.1)
 (some (false, ()))
 (ob (Ec a0.2.1 1 20) fun r2 =>
 (cond (!r2.1)
 (some (false, ()))
 (ob (Ec a0.2.2.1 1 24) fun r3 =>
 (cond (!r3.1)
 (some (false, ()))
 (cond (((ln a0.2.2.2.2.2.1 : Nat) : Int) != a0.2.2.1)
 (some (false, ()))
 (ob (Vp (((), 0, ()), (a0, ()))) (se (fun y10 => (cond (decide (0 ≤ y10.2.1.2.2.1))
 (ob (Ec y10.2.1.2.2.2.1 0 (wr .i64 ((Ma .i64 1 y10.2.1.2.2.1) - 1))) fun r12 =>
 (cond r12.1
 (cond (decide (0 ≤ y10.2.1.2.2.1))
 (ob (Ec y10.2.1.2.2.2.2.1 0 (wr .i64 ((Ma .i64 1 y10.2.1.2.2.1) - 1))) fun r13 =>
 (some (r13.1, ())))
 none)
 (some (false, ()))))
 none)) (fun z11 => (some (z11.1.1, ()))))))))))))
def Om (t2 : Int) (t6 : Unit) (t8 : Unit) (t9 : Int) (b6 : Rb) (b8 : Rb) : Option (((Int × GQ) × LV) ⊕ ((B0 × LV) ⊕ Gg)) :=
 (cond (decide (t9 < t2))
 (cond (decide (t2 ≤ 24))
 (cond (bl (ln b8.2.2.2.2.2.1 + ln ([99] : List Int)) Xa)
 (some (.inl ((t2, (), (), (wr .i64 (t9 + 1)), ()), (b6, (b8.1, b8.2.1, b8.2.2.1, b8.2.2.2.1, b8.2.2.2.2.1, (ap b8.2.2.2.2.2.1 ([99] : List Int)), ()), ()))))
 none)
 (some (.inr (.inl (((), (), ()), (b6, b8, ()))))))
 (some (.inr (.inl (((), (), ()), (b6, b8, ()))))))
def Ap := Ib fun x : ((Int × GQ) × LV) => Om x.1.1 x.1.2.1 x.1.2.2.1 x.1.2.2.2.1 x.2.1 x.2.2.1
def Bt (a0 : Int) (a1 : Int) (a2 : Int) : Option (Rb × Kd) :=
 (ob (Ap ((a2, (), (), 0, ()), ((0, 0, 0, 0, 0, [], ()), (a0, a1, a2, 0, 0, [], ()), ()))) (se (fun y1 => (ob (Xo y1.2.2.1) fun r3 =>
 (cond (!r3.1)
 (some ((0, 0, 0, 0, 0, [], ()), false, ()))
 (some (y1.2.2.1, true, ()))))) (fun z2 => none)))
def Ct (t0 : Int) (t3 : Int) (t4 : Int) : Option (VJ ⊕ CF) :=
 (cond (decide (t4 ≤ 31))
 (cond (decide (0 ≤ t4))
 (some (.inl ((t0, (wr .i64 (t3 + (Ya .i64 (Ac .i64 t0 t4) 1))), (wr .i64 (t4 + 1)), ()), ())))
 none)
 (some (.inr (.inl ((t3, ()), ())))))
def Tv := Ib fun x : VJ => Ct x.1.1 x.1.2.1 x.1.2.2.1
def Tw (a0 : Int) : Option Eg :=
 (ob (Tv ((a0, 0, 0, ()), ())) (se (fun y1 => (some (y1.1.1, ()))) (fun z2 => none)))
def Ys (t0 : Qf) (t3 : Int) (t4 : Int) : Option ((Fm × Unit) ⊕ (((Qf × Eg) × Unit) ⊕ Nl)) :=
 (cond (decide (t4 < t3))
 (ob (Wb t0 t4) fun x58 =>
 (ob (Wb t0 t3) fun x59 =>
 (cond (x58.1 == x59.1)
 (some (.inr (.inr ((false, ()), ()))))
 (ob (Wb t0 t4) fun x60 =>
 (ob (Wb t0 t3) fun x61 =>
 (cond (x60.2.1 == x61.2.1)
 (some (.inr (.inr ((false, ()), ()))))
 (some (.inl ((t0, t3, (wr .i64 (t4 + 1)), ()), ())))))))))
 (some (.inr (.inl ((t0, t3, ()), ())))))
def Qv := Ib fun x : (Fm × Unit) => Ys x.1.1 x.1.2.1 x.1.2.2.1
def Xs (t0 : Qf) (t3 : Int) : Option (((Qf × Eg) × Unit) ⊕ (((Qf × Unit) × Unit) ⊕ Nl)) :=
 (cond (decide (t3 < ((ln t0 : Nat) : Int)))
 (ob (Wb t0 t3) fun x43 =>
 (ob (Ec x43.1 0 16777215) fun r44 =>
 (cond (!r44.1)
 (some (.inr (.inr ((false, ()), ()))))
 (ob (Wb t0 t3) fun x45 =>
 (ob (Tw x45.1) fun r46 =>
 (ob (Ec r46.1 2 4) fun r47 =>
 (cond (!r47.1)
 (some (.inr (.inr ((false, ()), ()))))
 (ob (Wb t0 t3) fun x48 =>
 (ob (Ec x48.2.1 24 31) fun r49 =>
 (cond (!r49.1)
 (some (.inr (.inr ((false, ()), ()))))
 (ob (Qv ((t0, t3, 0, ()), ())) (se (fun y62 => (some (.inl ((y62.1.1, (wr .i64 (y62.1.2.1 + 1)), ()), ())))) (fun z63 => (some (.inr (.inr ((z63.1.1, ()), ())))))))))))))))))
 (some (.inr (.inl ((t0, ()), ())))))
def Pv := Ib fun x : ((Qf × Eg) × Unit) => Xs x.1.1 x.1.2.1
def QD (a0 : Qf) : Option Kd :=
 (ob (Pv ((a0, 0, ()), ())) (se (fun y64 => (some ((decide (((ln y64.1.1 : Nat) : Int) ≤ 8)), ()))) (fun z65 => (some (z65.1.1, ())))))
def Vv (t0 : Qf) (t1 : Int) (t5 : Int) : Option ((Fm × Unit) ⊕ C0) :=
 (cond (decide (t5 < ((ln t0 : Nat) : Int)))
 (ob (Wb t0 t5) fun x5 =>
 (cond (x5.2.1 == t1)
 (ob (Wb t0 t5) fun x6 =>
 (some (.inr (.inr ((x6.1, ()), ())))))
 (some (.inl ((t0, t1, (wr .i64 (t5 + 1)), ()), ())))))
 (some (.inr (.inl ((), ())))))
def Sx := Ib fun x : (Fm × Unit) => Vv x.1.1 x.1.2.1 x.1.2.2.1
def BG (a0 : Qf) (a1 : Int) : Option Eg :=
 (ob (Sx ((a0, a1, 0, ()), ())) (se (fun y7 => (some (0, ()))) (fun z8 => (some (z8.1.1, ())))))
def Pp (t1 : Unit) (t3 : Int) (t4 : Int) (t5 : Unit) (t7 : Int) (b1 : Ea) (b5 : Ca) : Option (((Unit × (Int × E0)) × (Ea × Fq)) ⊕ (((Unit × (Int × (Int × Gg))) × (Ea × Fq)) ⊕ Nl)) :=
 (cond (decide (t7 < t4))
 (ob (Wb b1.2.2.2.2.2.2.1 t7) fun x19 =>
 (cond (x19.1 == b5.1)
 (some (.inr (.inr ((false, ()), ()))))
 (some (.inl (((), t3, t4, (), (wr .i64 (t7 + 1)), ()), (b1, b5, ()))))))
 (some (.inr (.inl (((), t3, t4, (), ()), (b1, b5, ()))))))
def Ur := Ib fun x : ((Unit × (Int × E0)) × (Ea × Fq)) => Pp x.1.1 x.1.2.1 x.1.2.2.1 x.1.2.2.2.1 x.1.2.2.2.2.1 x.2.1 x.2.2.1
def Zq (t1 : Unit) (t3 : Int) (t4 : Int) (b1 : Ea) : Option (JQ ⊕ ((Gg × PH) ⊕ Nl)) :=
 (cond (decide (t4 < ((ln b1.2.2.2.2.2.2.1 : Nat) : Int)))
 (ob (Wb b1.2.2.2.2.2.2.1 t4) fun x15 =>
 (ob (BG b1.1 x15.1) fun r16 =>
 (cond (decide (x15.2.1 ≤ 0))
 (some (.inr (.inr ((false, ()), ()))))
 (cond ((Pc .i64 x15.2.1 r16.1) != 0)
 (some (.inr (.inr ((false, ()), ()))))
 (cond (x15.2.2.1 != (x15.2.1 == r16.1))
 (some (.inr (.inr ((false, ()), ()))))
 (cond ((Ya .i64 x15.2.1 t3) != 0)
 (some (.inr (.inr ((false, ()), ()))))
 (ob (Ur (((), t3, t4, (), 0, ()), (b1, x15, ()))) (se (fun y20 => (some (.inl (((), (Lc .i64 y20.1.2.1 y20.2.2.1.2.1), (wr .i64 (y20.1.2.2.1 + 1)), ()), (y20.2.1, ()))))) (fun z21 => (some (.inr (.inr ((z21.1.1, ()), ())))))))))))))
 (some (.inr (.inl (((), ()), (b1, ()))))))
def Bu := Ib fun x : JQ => Zq x.1.1 x.1.2.1 x.1.2.2.1 x.2.1
def SB (a0 : Ea) : Option Kd :=
 (ob (Bu (((), a0.2.2.2.2.2.1, 0, ()), (a0, ()))) (se (fun y22 => (ob (Ec y22.2.1.2.2.2.2.2.1 0 16777215) fun r24 =>
 (some (r24.1, ())))) (fun z23 => (some (z23.1.1, ())))))
def Uv (t1 : Unit) (t3 : Int) (t4 : Int) (b1 : Ea) : Option (JQ ⊕ CF) :=
 (cond (decide (t4 < ((ln b1.2.2.2.2.2.2.1 : Nat) : Int)))
 (ob (Wb b1.2.2.2.2.2.2.1 t4) fun x3 =>
 (some (.inl (((), (Lc .i64 t3 x3.2.1), (wr .i64 (t4 + 1)), ()), (b1, ())))))
 (some (.inr (.inl ((t3, ()), ())))))
def Rx := Ib fun x : JQ => Uv x.1.1 x.1.2.1 x.1.2.2.1 x.2.1
def OA (a0 : Ea) : Option Eg :=
 (ob (Rx (((), a0.2.2.2.2.2.1, 0, ()), (a0, ()))) (se (fun y4 => (some (y4.1.1, ()))) (fun z5 => none)))
def YF (a0 : Ca) : Option Kd :=
 (ob (Ec a0.1 0 1000000) fun r1 =>
 (cond r1.1
 (ob (Ec a0.2.1 0 31) fun r2 =>
 (some (r2.1, ())))
 (some (false, ()))))
def Np (t0 : Eh) (t1 : Int) (t2 : Int) (t3 : Int) (t9 : Int) : Option (((Eh × Pa) × Unit) ⊕ ((A0 × Unit) ⊕ Nl)) :=
 (cond (decide (t9 < ((ln t0 : Nat) : Int)))
 (ob (Wb t0 t9) fun x17 =>
 (ob (YF x17) fun r18 =>
 (cond (!r18.1)
 (some (.inr (.inr ((false, ()), ()))))
 (ob (Wb t0 t9) fun x19 =>
 (cond (decide (x19.2.1 ≥ t2))
 (some (.inr (.inr ((false, ()), ()))))
 (ob (Wb t0 t9) fun x20 =>
 (cond (decide (x20.1 < t3))
 (some (.inr (.inr ((false, ()), ()))))
 (ob (Wb t0 t9) fun x21 =>
 (ob (Wb t0 t9) fun x22 =>
 (cond (decide (0 ≤ x22.2.1))
 (cond (x21.2.2.1 == ((Ya .i64 (Ac .i64 t1 x22.2.1) 1) == 1))
 (some (.inr (.inr ((false, ()), ()))))
 (ob (Wb t0 t9) fun x23 =>
 (ob (Wb t0 t9) fun x24 =>
 (cond (decide (0 ≤ x24.2.1))
 (some (.inl ((t0, (Yb .i64 t1 (Ma .i64 1 x24.2.1)), t2, x23.1, (wr .i64 (t9 + 1)), ()), ())))
 none))))
 none))))))))))
 (some (.inr (.inl ((t0, ()), ())))))
def Tr := Ib fun x : ((Eh × Pa) × Unit) => Np x.1.1 x.1.2.1 x.1.2.2.1 x.1.2.2.2.1 x.1.2.2.2.2.1
def Yq (a0 : Eh) (a1 : Int) (a2 : Int) (a3 : Int) : Option Kd :=
 (ob (Tr ((a0, a1, a2, a3, 0, ()), ())) (se (fun y25 => (some ((decide (((ln y25.1.1 : Nat) : Int) ≤ 64)), ()))) (fun z26 => (some (z26.1.1, ())))))
def Wq (a0 : Ea) : Option Kd :=
 (ob (QD a0.1) fun r1 =>
 (cond (!r1.1)
 (some (false, ()))
 (ob (Ec a0.2.1 1 200) fun r2 =>
 (cond (!r2.1)
 (some (false, ()))
 (ob (Ec a0.2.2.2.1 0 1000000) fun r3 =>
 (cond (!r3.1)
 (some (false, ()))
 (ob (Ec a0.2.2.2.2.1 0 a0.2.2.2.1) fun r4 =>
 (cond (!r4.1)
 (some (false, ()))
 (ob (SB a0) fun r5 =>
 (cond (!r5.1)
 (some (false, ()))
 (ob (OA a0) fun r6 =>
 (ob (Yq a0.2.2.1 r6.1 24 0) fun r7 =>
 (cond r7.1
 (cond (((ln a0.2.2.1 : Nat) : Int) == 0)
 (some (true, ()))
 (ob (Wb a0.2.2.1 (wr .i64 (((ln a0.2.2.1 : Nat) : Int) - 1))) fun x8 =>
 (some ((decide (x8.1 ≤ a0.2.2.2.1)), ()))))
 (some (false, ())))))))))))))))
def NA (a0 : Ea) : Option PH :=
 (cond (bl (ln ([] : List Na) + ln a0.1) Xa)
 (cond (bl (ln ([] : List Ca) + ln a0.2.2.1) Xa)
 (cond (bl (ln ([] : List Ca) + ln a0.2.2.2.2.2.2.1) Xa)
 (some (((ap [] a0.1), a0.2.1, (ap [] a0.2.2.1), a0.2.2.2.1, a0.2.2.2.2.1, a0.2.2.2.2.2.1, (ap [] a0.2.2.2.2.2.2.1), a0.2.2.2.2.2.2.2), ()))
 none)
 none)
 none)
def Zo (a0 : Qf) (a1 : Int) : Option (Ea × Kd) :=
 (ob (Wq (a0, a1, [], 0, 0, 0, [], ())) fun r1 =>
 (cond (!r1.1)
 (some (Ij, false, ()))
 (ob (NA (a0, a1, [], 0, 0, 0, [], ())) fun r2 =>
 (some (r2.1, true, ())))))
def EG (t0 : Unit) (t3 : Zk) (t4 : Int) (b500000 : Ab) : Option (((Unit × (Zk × Eg)) × MM) ⊕ (((Unit × (Zk × Unit)) × MM) ⊕ Gg)) :=
 (cond (decide (t4 > 0))
 (ob (Hb b500000 56) fun r8 =>
 (ob (Cu r8.1 ([0, 0, 2, 1] : List Int)) fun r9 =>
 (ob (Yh r9.1 2) fun r10 =>
 (cond r10.2.1
 (cond (bl (ln t3 + ln ([(0, (wr .i64 (1 + r8.2.1)), r9.2.1, ())] : List Cc)) Xa)
 (some (.inl (((), (ap t3 ([(0, (wr .i64 (1 + r8.2.1)), r9.2.1, ())] : List Cc)), (wr .i64 (t4 - 1)), ()), (r10.1, ()))))
 none)
 (cond (bl (ln t3 + ln ([(1, (wr .i64 (1 + r8.2.1)), r9.2.1, ()), (0, (wr .i64 ((wr .i64 (60 - ((ln t3 : Nat) : Int))) - 10)), 8, ()), (2, (wr .i64 (1 + r8.2.1)), r9.2.1, ())] : List Cc)) Xa)
 (some (.inl (((), (ap t3 ([(1, (wr .i64 (1 + r8.2.1)), r9.2.1, ()), (0, (wr .i64 ((wr .i64 (60 - ((ln t3 : Nat) : Int))) - 10)), 8, ()), (2, (wr .i64 (1 + r8.2.1)), r9.2.1, ())] : List Cc)), (wr .i64 (t4 - 1)), ()), (r10.1, ()))))
 none)))))
 (some (.inr (.inl (((), t3, ()), (b500000, ()))))))
def VA := Ib fun x : ((Unit × (Zk × Eg)) × MM) => EG x.1.1 x.1.2.1 x.1.2.2.1 x.2.1
def JI (a0 : Ab) : Option (Ab × (Zk × Unit)) :=
 (ob (Hb a0 3) fun r1 =>
 (ob (VA (((), [], r1.2.1, ()), (r1.1, ()))) (se (fun y11 => (some (y11.2.1, (y11.1.2.1, ())))) (fun z12 => none))))
def JH (t0 : Unit) (t1 : Int) (t4 : Unit) (t5 : Bs) (t6 : Int) (b500000 : Ab) (b4 : Jb) : Option (Xal ⊕ (((Unit × (Int × (Unit × (Bs × Unit)))) × (Ab × Gk)) ⊕ Gg)) :=
 (cond (decide (t6 > 0))
 (ob (JI b500000) fun r4 =>
 (cond (bl (ln t5 + ln ([r4.2.1] : List Zk)) Xa)
 (some (.inl (((), t1, (), (ap t5 ([r4.2.1] : List Zk)), (wr .i64 (t6 - 1)), ()), (r4.1, b4, ()))))
 none))
 (some (.inr (.inl (((), t1, (), t5, ()), (b500000, b4, ()))))))
def JC := Ib fun x : Xal => JH x.1.1 x.1.2.1 x.1.2.2.1 x.1.2.2.2.1 x.1.2.2.2.2.1 x.2.1 x.2.2.1
def FK (a0 : Ab) (a1 : Int) : Option (Ab × Gk) :=
 (ob (Hb a0 4) fun r1 =>
 (ob (JC (((), a1, (), [], r1.2.1, ()), (r1.1, YS, ()))) (se (fun y5 => (ob (HI y5.2.1 y5.1.2.1) fun r7 =>
 (ob (RB r7.2.1 y5.1.2.2.2.1) fun r8 =>
 (some (r7.1, (r8.1, ())))))) (fun z6 => none))))
def SD (a0 : Cc) : Option Kd :=
 (ob (Ec a0.1 1 1000) fun r1 =>
 (cond r1.1
 (ob (Ec a0.2.1 0 1000) fun r2 =>
 (cond r2.1
 (ob (Ec a0.2.2.1 0 2) fun r3 =>
 (some (r3.1, ())))
 (some (false, ()))))
 (some (false, ()))))
def Sr (a0 : Int) : Option Eg :=
 (ob (Ec a0 0 31) fun r1 =>
 (cond (!r1.1)
 (some (0, ()))
 (cond (decide (0 ≤ a0))
 (some ((Ma .i64 1 a0), ()))
 none)))
def Sv (t1 : Unit) (t3 : Int) (t4 : Int) (b1 : Jb) : Option ((OH × Gk) ⊕ CF) :=
 (cond (decide (t4 < ((ln b1.2.2.2.1 : Nat) : Int)))
 (ob (Wb b1.2.2.2.1 t4) fun x5 =>
 (ob (Sr x5.1) fun r6 =>
 (some (.inl (((), (Lc .i64 t3 r6.1), (wr .i64 (t4 + 1)), ()), (b1, ()))))))
 (some (.inr (.inl ((t3, ()), ())))))
def Qx := Ib fun x : (OH × Gk) => Sv x.1.1 x.1.2.1 x.1.2.2.1 x.2.1
def LA (a0 : Jb) : Option Eg :=
 (ob (Qx (((), 0, 0, ()), (a0, ()))) (se (fun y7 => (some (y7.1.1, ()))) (fun z8 => none)))
def Au (a0 : Eb) : Option Kd :=
 (ob (Qw a0.1) fun r1 =>
 (cond (!r1.1)
 (some (false, ()))
 (ob (SD a0.2.1) fun r2 =>
 (cond (!r2.1)
 (some (false, ()))
 (ob (Ec a0.2.2.2.1 0 1000000) fun r3 =>
 (cond (!r3.1)
 (some (false, ()))
 (ob (Ec a0.2.2.2.2.1 0 a0.2.2.2.1) fun r4 =>
 (cond (!r4.1)
 (some (false, ()))
 (ob (LA a0.1) fun r5 =>
 (ob (Yq a0.2.2.1 r5.1 a0.1.1.1 0) fun r6 =>
 (cond (!r6.1)
 (some (false, ()))
 (cond (decide (((ln a0.2.2.1 : Nat) : Int) > 0))
 (ob (Wb a0.2.2.1 (wr .i64 (((ln a0.2.2.1 : Nat) : Int) - 1))) fun x7 =>
 (cond (decide (x7.1 > a0.2.2.2.1))
 (some (false, ()))
 (ob (Ec a0.2.2.2.2.2.1 0 a0.1.1.1) fun r8 =>
 (cond r8.1
 (ob (Ec a0.2.2.2.2.2.2.1 0 a0.2.2.2.1) fun r9 =>
 (some (r9.1, ())))
 (some (false, ()))))))
 (ob (Ec a0.2.2.2.2.2.1 0 a0.1.1.1) fun r10 =>
 (cond r10.1
 (ob (Ec a0.2.2.2.2.2.2.1 0 a0.2.2.2.1) fun r11 =>
 (some (r11.1, ())))
 (some (false, ()))))))))))))))))
def Xq (a0 : Jb) (a1 : Cc) : Option (Eb × Kd) :=
 (ob (Au (a0, a1, [], 0, 0, 0, 0, ())) fun r1 =>
 (cond (!r1.1)
 (some (Qi, false, ()))
 (ob (Bx a0) fun r2 =>
 (some ((r2.1, a1, [], 0, 0, 0, 0, ()), true, ())))))
def AG (t0 : Unit) (t1 : Int) (t4 : Unit) (t5 : Unit) (t6 : Int) (b500000 : Ab) (b4 : Eb) (b5 : Jb) : Option ((Cam × (Ab × (Eb × Gk))) ⊕ ((Daj × (Ab × (Eb × Gk))) ⊕ Gg)) :=
 (cond (decide (t6 < t1))
 (ob (Yh b500000 2) fun r12 =>
 (cond r12.2.1
 (cond (Ci (ln b5.1.2.1) 0)
 (ob b5.1.2.1[(tn 0)]? fun x13 =>
 (ob (Hb r12.1 40) fun r14 =>
 (ob (Hb r14.1 15) fun r15 =>
 (cond (Ci (ln x13) t6)
 (ob x13[(tn t6)]? fun x16 =>
 (some (.inl (((), t1, (), (), (wr .i64 (t6 + 1)), ()), (r15.1, b4, ((b5.1.1, (ls b5.1.2.1 (tn 0) (ls x13 (tn t6) (6, (wr .i64 (1 + r14.2.1)), (wr .i64 (1 + r15.2.1)), 0, ()))), ()), b5.2), ())))))
 none))))
 none)
 (some (.inl (((), t1, (), (), (wr .i64 (t6 + 1)), ()), (r12.1, b4, b5, ()))))))
 (some (.inr (.inl (((), (), (), ()), (b500000, b4, b5, ()))))))
def MA := Ib fun x : (Cam × (Ab × (Eb × Gk))) => AG x.1.1 x.1.2.1 x.1.2.2.1 x.1.2.2.2.1 x.1.2.2.2.2.1 x.2.1 x.2.2.1 x.2.2.2.1
def Ax (a0 : Ab) (a1 : Int) : Option UaE :=
 (ob (FK a0 a1) fun r1 =>
 (ob (MA (((), a1, (), (), 0, ()), (r1.1, Qi, r1.2.1, ()))) (se (fun y17 => (ob (GH y17.2.1) fun r19 =>
 (ob (Xq y17.2.2.2.1 r19.2.1) fun r20 =>
 (some (r19.1, (r20.1, ())))))) (fun z18 => none))))
def Qp (t0 : Int) (t1 : Eh) (t5 : Int) : Option (((Int × PK) × Unit) ⊕ CF) :=
 (cond (decide (t5 < ((ln t1 : Nat) : Int)))
 (ob (Wb t1 t5) fun x5 =>
 (ob (Sr x5.2.1) fun r6 =>
 (some (.inl (((Yb .i64 t0 r6.1), t1, (wr .i64 (t5 + 1)), ()), ())))))
 (some (.inr (.inl ((t0, ()), ())))))
def Vr := Ib fun x : ((Int × PK) × Unit) => Qp x.1.1 x.1.2.1 x.1.2.2.1
def Ar (a0 : Int) (a1 : Eh) : Option Eg :=
 (ob (Vr ((a0, a1, 0, ()), ())) (se (fun y7 => (some (y7.1.1, ()))) (fun z8 => none)))
def Yy (t1 : Unit) (t3 : Int) (t4 : Int) (b1 : Ea) : Option (JQ ⊕ CF) :=
 (cond (decide (t4 < ((ln b1.2.2.2.2.2.2.1 : Nat) : Int)))
 (ob (Wb b1.2.2.2.2.2.2.1 t4) fun x7 =>
 (cond x7.2.2.1
 (ob (Wb b1.2.2.2.2.2.2.1 t4) fun x8 =>
 (ob (Sr x8.1) fun r9 =>
 (some (.inl (((), (Lc .i64 t3 r9.1), (wr .i64 (t4 + 1)), ()), (b1, ()))))))
 (some (.inl (((), t3, (wr .i64 (t4 + 1)), ()), (b1, ()))))))
 (some (.inr (.inl ((t3, ()), ())))))
def QA := Ib fun x : JQ => Yy x.1.1 x.1.2.1 x.1.2.2.1 x.2.1
def CI (a0 : Ea) : Option Eg :=
 (ob (QA (((), a0.2.2.2.2.2.1, 0, ()), (a0, ()))) (se (fun y10 => (some (y10.1.1, ()))) (fun z11 => none)))
def Ov (t1 : Unit) (t4 : Int) (t5 : Int) (b1 : Vb) : Option ((OH × ZA) ⊕ ((Gg × ZA) ⊕ Nl)) :=
 (cond (decide (t5 < ((ln b1.2.2.1.1 : Nat) : Int)))
 (ob (Wb b1.2.2.1.1 t5) fun x12 =>
 (ob (XC b1.1 x12.1) fun r13 =>
 (cond (!r13.1)
 (some (.inr (.inr ((false, ()), ()))))
 (ob (Wb b1.2.2.1.1 t5) fun x14 =>
 (cond (decide (x14.2.1 ≥ t4))
 (some (.inr (.inr ((false, ()), ()))))
 (some (.inl (((), t4, (wr .i64 (t5 + 1)), ()), (b1, ())))))))))
 (some (.inr (.inl (((), ()), (b1, ()))))))
def Ox := Ib fun x : (OH × ZA) => Ov x.1.1 x.1.2.1 x.1.2.2.1 x.2.1
def JA (a0 : Vb) : Option Kd :=
 (ob (Zm a0.1) fun r1 =>
 (cond (r1.1 == 0)
 (some (false, ()))
 (ob (Xo a0.2.1) fun r2 =>
 (cond (!r2.1)
 (some (false, ()))
 (cond (a0.2.1.2.2.1 != r1.1)
 (some (false, ()))
 (ob (XC a0.1 a0.2.2.2.2.1) fun r3 =>
 (cond (!r3.1)
 (some (false, ()))
 (ob (Wq a0.2.2.1) fun r4 =>
 (cond (!r4.1)
 (some (false, ()))
 (ob (Au a0.2.2.2.1) fun r5 =>
 (cond (!r5.1)
 (some (false, ()))
 (cond (decide (a0.2.2.2.1.1.1.1 < r1.1))
 (some (false, ()))
 (ob (Ox (((), a0.2.2.2.1.1.1.1, 0, ()), (a0, ()))) (se (fun y15 => (ob (Ec y15.2.1.2.2.2.2.2.1 0 1000000) fun r17 =>
 (cond (!r17.1)
 (some (false, ()))
 (cond (decide (y15.2.1.2.2.1.2.2.2.1 > y15.2.1.2.2.2.2.2.1))
 (some (false, ()))
 (cond (decide (y15.2.1.2.2.2.1.2.2.2.1 > y15.2.1.2.2.2.2.2.1))
 (some (false, ()))
 (ob (OA y15.2.1.2.2.1) fun r18 =>
 (ob (Ar r18.1 y15.2.1.2.2.1.2.2.1) fun r19 =>
 (cond (r19.1 == y15.2.1.2.1.2.2.2.1)
 (ob (LA y15.2.1.2.2.2.1.1) fun r20 =>
 (ob (Ar r20.1 y15.2.1.2.2.2.1.2.2.1) fun r21 =>
 (ob (CI y15.2.1.2.2.1) fun r22 =>
 (some ((r21.1 == r22.1), ())))))
 (some (false, ())))))))))) (fun z16 => (some (z16.1.1, ())))))))))))))))))
def PA (a0 : Vb) : Option ZA :=
 (cond (bl (ln ([] : List Int) + ln a0.2.1.2.2.2.2.2.1) Xa)
 (ob (NA a0.2.2.1) fun r1 =>
 (ob (Bx a0.2.2.2.1.1) fun r2 =>
 (cond (bl (ln ([] : List Ca) + ln a0.2.2.2.1.2.2.1) Xa)
 (some ((a0.1, (a0.2.1.1, a0.2.1.2.1, a0.2.1.2.2.1, a0.2.1.2.2.2.1, a0.2.1.2.2.2.2.1, (ap [] a0.2.1.2.2.2.2.2.1), a0.2.1.2.2.2.2.2.2), r1.1, (r2.1, a0.2.2.2.1.2.1, (ap [] a0.2.2.2.1.2.2.1), a0.2.2.2.1.2.2.2), a0.2.2.2.2), ()))
 none)))
 none)
def Cq (a0 : Ca) (a1 : Rb) (a2 : Ea) (a3 : Eb) : Option (Vb × Kd) :=
 (ob (JA (a0, a1, a2, a3, 0, 0, ())) fun r1 =>
 (cond (!r1.1)
 (some (Rm, false, ()))
 (ob (PA (a0, a1, a2, a3, 0, 0, ())) fun r2 =>
 (some (r2.1, true, ())))))
def RA (t0 : Unit) (t1 : Int) (t7 : Vc) (t8 : Int) (t9 : Int) (b500000 : Ab) : Option (((Unit × H8) × MM) ⊕ ((L0 × MM) ⊕ Gg)) :=
 (cond (decide (t9 > 0))
 (ob (Yh b500000 3) fun r14 =>
 (cond r14.2.1
 (ob (Hb r14.1 t1) fun r15 =>
 (cond (decide (0 ≤ r15.2.1))
 (ob (Yh r15.1 9) fun r16 =>
 (cond r16.2.1
 (ob (Hb r16.1 t1) fun r17 =>
 (cond (decide (0 ≤ r17.2.1))
 (cond (bl (ln t7 + ln ([(Yb .i64 (Yb .i64 t8 (Ma .i64 1 r15.2.1)) (Ma .i64 1 r17.2.1))] : List Int)) Xa)
 (some (.inl (((), t1, (ap t7 ([(Yb .i64 (Yb .i64 t8 (Ma .i64 1 r15.2.1)) (Ma .i64 1 r17.2.1))] : List Int)), (Yb .i64 (Yb .i64 t8 (Ma .i64 1 r15.2.1)) (Ma .i64 1 r17.2.1)), (wr .i64 (t9 - 1)), ()), (r17.1, ()))))
 none)
 none))
 (cond (bl (ln t7 + ln ([(Yb .i64 t8 (Ma .i64 1 r15.2.1))] : List Int)) Xa)
 (some (.inl (((), t1, (ap t7 ([(Yb .i64 t8 (Ma .i64 1 r15.2.1))] : List Int)), (Yb .i64 t8 (Ma .i64 1 r15.2.1)), (wr .i64 (t9 - 1)), ()), (r16.1, ()))))
 none)))
 none))
 (ob (Yh r14.1 9) fun r18 =>
 (cond r18.2.1
 (ob (Hb r18.1 t1) fun r19 =>
 (cond (decide (0 ≤ r19.2.1))
 (cond (bl (ln t7 + ln ([(Yb .i64 t8 (Ma .i64 1 r19.2.1))] : List Int)) Xa)
 (some (.inl (((), t1, (ap t7 ([(Yb .i64 t8 (Ma .i64 1 r19.2.1))] : List Int)), (Yb .i64 t8 (Ma .i64 1 r19.2.1)), (wr .i64 (t9 - 1)), ()), (r19.1, ()))))
 none)
 none))
 (cond (bl (ln t7 + ln ([t8] : List Int)) Xa)
 (some (.inl (((), t1, (ap t7 ([t8] : List Int)), t8, (wr .i64 (t9 - 1)), ()), (r18.1, ()))))
 none)))))
 (some (.inr (.inl (((), t7, ()), (b500000, ()))))))
def Du := Ib fun x : ((Unit × H8) × MM) => RA x.1.1 x.1.2.1 x.1.2.2.1 x.1.2.2.2.1 x.1.2.2.2.2.1 x.2.1
def Ll (a0 : Ab) (a1 : Int) (a2 : Int) : Option (Ab × BF) :=
 (ob (Hb a0 (wr .i64 (a2 + 1))) fun r1 =>
 (ob (Du (((), a1, [], 0, r1.2.1, ()), (r1.1, ()))) (se (fun y20 => (some (y20.2.1, (y20.1.2.1, ())))) (fun z21 => none))))
def Kn (t66 : Vc) (t67 : Int) (t68 : Int) : Option ((FQ × Unit) ⊕ AB) :=
 (cond (decide (t68 < t67))
 (ob (Wb t66 t68) fun x3 =>
 (cond (decide (x3 < 0))
 (some (.inr (.inr ((false, ()), ()))))
 (cond (decide (x3 > 99))
 (some (.inr (.inr ((false, ()), ()))))
 (some (.inl ((t66, t67, (wr .i64 (t68 + 1)), ()), ()))))))
 (some (.inr (.inl ((), ())))))
def Up := Ib fun x : (FQ × Unit) => Kn x.1.1 x.1.2.1 x.1.2.2.1
def Ro (a0 : Rb) : Option Kd :=
 (cond (decide (a0.1 < 0))
 (some (false, ()))
 (cond (decide (a0.1 > 2))
 (some (false, ()))
 (cond (decide (a0.2.1 < 1))
 (some (false, ()))
 (cond (decide (a0.2.1 > 20))
 (some (false, ()))
 (cond (decide (a0.2.2.1 < 1))
 (some (false, ()))
 (cond (decide (a0.2.2.1 > 24))
 (some (false, ()))
 (cond (((ln a0.2.2.2.2.2.1 : Nat) : Int) != a0.2.2.1)
 (some (false, ()))
 (cond (decide (a0.2.2.2.1 < 0))
 (some (false, ()))
 (cond (decide (0 ≤ a0.2.2.1))
 (cond (decide (a0.2.2.2.1 ≥ (Ma .i64 1 a0.2.2.1)))
 (some (false, ()))
 (cond (decide (a0.2.2.2.2.1 < 0))
 (some (false, ()))
 (cond (decide (0 ≤ a0.2.2.1))
 (cond (decide (a0.2.2.2.2.1 ≥ (Ma .i64 1 a0.2.2.1)))
 (some (false, ()))
 (ob (Up ((a0.2.2.2.2.2.1, ((ln a0.2.2.2.2.2.1 : Nat) : Int), 0, ()), ())) (se (fun y4 => (some (true, ()))) (fun z5 => (some (z5.1.1, ()))))))
 none)))
 none)))))))))
def ZX (a0 : Int) : Option Eg :=
 (cond (decide ((0 : Int) ≤ 24))
 (ob (Wb WD (Ac .u32 a0 24)) fun c1 =>
 (cond (decide ((0 : Int) ≤ 16))
 (ob (Wb WD (Ya .u32 (Ac .u32 a0 16) 255)) fun c2 =>
 (cond (decide ((0 : Int) ≤ 8))
 (ob (Wb WD (Ya .u32 (Ac .u32 a0 8) 255)) fun c3 =>
 (ob (Wb WD (Ya .u32 a0 255)) fun c4 =>
 (some ((wr .i64 (wr .u8 ((wr .u8 ((wr .u8 (((UInt8.toNat c1 : Nat) : Int) + ((UInt8.toNat c2 : Nat) : Int))) + ((UInt8.toNat c3 : Nat) : Int))) + ((UInt8.toNat c4 : Nat) : Int)))), ()))))
 none))
 none))
 none)
def XD (a0 : Int) : Option Eg :=
 (cond (decide ((0 : Int) ≤ 1))
 (cond (decide ((0 : Int) ≤ 2))
 (cond (decide ((0 : Int) ≤ 4))
 (cond (decide ((0 : Int) ≤ 8))
 (cond (decide ((0 : Int) ≤ 16))
 (cond (decide ((0 : Int) ≤ 32))
 (some ((Ya .i64 (wr .i64 (wr .u64 ((wr .u64 ((wr .u64 ((Ya .u64 (wr .u64 ((Ac .u64 (wr .u64 ((Ya .u64 (Ac .u64 (wr .u64 ((Ya .u64 (Ac .u64 a0 1) 6148914691236517205) + (Ya .u64 a0 6148914691236517205))) 2) 3689348814741910323) + (Ya .u64 (wr .u64 ((Ya .u64 (Ac .u64 a0 1) 6148914691236517205) + (Ya .u64 a0 6148914691236517205))) 3689348814741910323))) 4) + (wr .u64 ((Ya .u64 (Ac .u64 (wr .u64 ((Ya .u64 (Ac .u64 a0 1) 6148914691236517205) + (Ya .u64 a0 6148914691236517205))) 2) 3689348814741910323) + (Ya .u64 (wr .u64 ((Ya .u64 (Ac .u64 a0 1) 6148914691236517205) + (Ya .u64 a0 6148914691236517205))) 3689348814741910323))))) 1085102592571150095) + (Ac .u64 (Ya .u64 (wr .u64 ((Ac .u64 (wr .u64 ((Ya .u64 (Ac .u64 (wr .u64 ((Ya .u64 (Ac .u64 a0 1) 6148914691236517205) + (Ya .u64 a0 6148914691236517205))) 2) 3689348814741910323) + (Ya .u64 (wr .u64 ((Ya .u64 (Ac .u64 a0 1) 6148914691236517205) + (Ya .u64 a0 6148914691236517205))) 3689348814741910323))) 4) + (wr .u64 ((Ya .u64 (Ac .u64 (wr .u64 ((Ya .u64 (Ac .u64 a0 1) 6148914691236517205) + (Ya .u64 a0 6148914691236517205))) 2) 3689348814741910323) + (Ya .u64 (wr .u64 ((Ya .u64 (Ac .u64 a0 1) 6148914691236517205) + (Ya .u64 a0 6148914691236517205))) 3689348814741910323))))) 1085102592571150095) 8))) + (Ac .u64 (wr .u64 ((Ya .u64 (wr .u64 ((Ac .u64 (wr .u64 ((Ya .u64 (Ac .u64 (wr .u64 ((Ya .u64 (Ac .u64 a0 1) 6148914691236517205) + (Ya .u64 a0 6148914691236517205))) 2) 3689348814741910323) + (Ya .u64 (wr .u64 ((Ya .u64 (Ac .u64 a0 1) 6148914691236517205) + (Ya .u64 a0 6148914691236517205))) 3689348814741910323))) 4) + (wr .u64 ((Ya .u64 (Ac .u64 (wr .u64 ((Ya .u64 (Ac .u64 a0 1) 6148914691236517205) + (Ya .u64 a0 6148914691236517205))) 2) 3689348814741910323) + (Ya .u64 (wr .u64 ((Ya .u64 (Ac .u64 a0 1) 6148914691236517205) + (Ya .u64 a0 6148914691236517205))) 3689348814741910323))))) 1085102592571150095) + (Ac .u64 (Ya .u64 (wr .u64 ((Ac .u64 (wr .u64 ((Ya .u64 (Ac .u64 (wr .u64 ((Ya .u64 (Ac .u64 a0 1) 6148914691236517205) + (Ya .u64 a0 6148914691236517205))) 2) 3689348814741910323) + (Ya .u64 (wr .u64 ((Ya .u64 (Ac .u64 a0 1) 6148914691236517205) + (Ya .u64 a0 6148914691236517205))) 3689348814741910323))) 4) + (wr .u64 ((Ya .u64 (Ac .u64 (wr .u64 ((Ya .u64 (Ac .u64 a0 1) 6148914691236517205) + (Ya .u64 a0 6148914691236517205))) 2) 3689348814741910323) + (Ya .u64 (wr .u64 ((Ya .u64 (Ac .u64 a0 1) 6148914691236517205) + (Ya .u64 a0 6148914691236517205))) 3689348814741910323))))) 1085102592571150095) 8))) 16))) + (Ac .u64 (wr .u64 ((wr .u64 ((Ya .u64 (wr .u64 ((Ac .u64 (wr .u64 ((Ya .u64 (Ac .u64 (wr .u64 ((Ya .u64 (Ac .u64 a0 1) 6148914691236517205) + (Ya .u64 a0 6148914691236517205))) 2) 3689348814741910323) + (Ya .u64 (wr .u64 ((Ya .u64 (Ac .u64 a0 1) 6148914691236517205) + (Ya .u64 a0 6148914691236517205))) 3689348814741910323))) 4) + (wr .u64 ((Ya .u64 (Ac .u64 (wr .u64 ((Ya .u64 (Ac .u64 a0 1) 6148914691236517205) + (Ya .u64 a0 6148914691236517205))) 2) 3689348814741910323) + (Ya .u64 (wr .u64 ((Ya .u64 (Ac .u64 a0 1) 6148914691236517205) + (Ya .u64 a0 6148914691236517205))) 3689348814741910323))))) 1085102592571150095) + (Ac .u64 (Ya .u64 (wr .u64 ((Ac .u64 (wr .u64 ((Ya .u64 (Ac .u64 (wr .u64 ((Ya .u64 (Ac .u64 a0 1) 6148914691236517205) + (Ya .u64 a0 6148914691236517205))) 2) 3689348814741910323) + (Ya .u64 (wr .u64 ((Ya .u64 (Ac .u64 a0 1) 6148914691236517205) + (Ya .u64 a0 6148914691236517205))) 3689348814741910323))) 4) + (wr .u64 ((Ya .u64 (Ac .u64 (wr .u64 ((Ya .u64 (Ac .u64 a0 1) 6148914691236517205) + (Ya .u64 a0 6148914691236517205))) 2) 3689348814741910323) + (Ya .u64 (wr .u64 ((Ya .u64 (Ac .u64 a0 1) 6148914691236517205) + (Ya .u64 a0 6148914691236517205))) 3689348814741910323))))) 1085102592571150095) 8))) + (Ac .u64 (wr .u64 ((Ya .u64 (wr .u64 ((Ac .u64 (wr .u64 ((Ya .u64 (Ac .u64 (wr .u64 ((Ya .u64 (Ac .u64 a0 1) 6148914691236517205) + (Ya .u64 a0 6148914691236517205))) 2) 3689348814741910323) + (Ya .u64 (wr .u64 ((Ya .u64 (Ac .u64 a0 1) 6148914691236517205) + (Ya .u64 a0 6148914691236517205))) 3689348814741910323))) 4) + (wr .u64 ((Ya .u64 (Ac .u64 (wr .u64 ((Ya .u64 (Ac .u64 a0 1) 6148914691236517205) + (Ya .u64 a0 6148914691236517205))) 2) 3689348814741910323) + (Ya .u64 (wr .u64 ((Ya .u64 (Ac .u64 a0 1) 6148914691236517205) + (Ya .u64 a0 6148914691236517205))) 3689348814741910323))))) 1085102592571150095) + (Ac .u64 (Ya .u64 (wr .u64 ((Ac .u64 (wr .u64 ((Ya .u64 (Ac .u64 (wr .u64 ((Ya .u64 (Ac .u64 a0 1) 6148914691236517205) + (Ya .u64 a0 6148914691236517205))) 2) 3689348814741910323) + (Ya .u64 (wr .u64 ((Ya .u64 (Ac .u64 a0 1) 6148914691236517205) + (Ya .u64 a0 6148914691236517205))) 3689348814741910323))) 4) + (wr .u64 ((Ya .u64 (Ac .u64 (wr .u64 ((Ya .u64 (Ac .u64 a0 1) 6148914691236517205) + (Ya .u64 a0 6148914691236517205))) 2) 3689348814741910323) + (Ya .u64 (wr .u64 ((Ya .u64 (Ac .u64 a0 1) 6148914691236517205) + (Ya .u64 a0 6148914691236517205))) 3689348814741910323))))) 1085102592571150095) 8))) 16))) 32)))) 127), ()))
 none)
 none)
 none)
 none)
 none)
 none)
def BB (a0 : Int) : Option Eg :=
 (ob (XD a0) fun r1 =>
 (some (r1.1, ())))
def Oq (t0 : Qf) (t4 : Unit) (t11 : Qf) (t12 : Int) (t13 : Int) (t48 : Qf) (t49 : Int) (t50 : Int) (b4 : Na) : Option (Zal ⊕ (((Qf × Fm) × Unit) ⊕ Nl)) :=
 (cond (decide (t50 < t49))
 (ob (Wb t48 t50) fun x19 =>
 (cond (x19.1 == b4.1)
 (some (.inr (.inr ((false, ()), ()))))
 (cond (x19.2.1 == b4.2.1)
 (some (.inr (.inr ((false, ()), ()))))
 (some (.inl ((t0, (), t11, t12, t13, t48, t49, (wr .i64 (t50 + 1)), ()), (b4, ())))))))
 (some (.inr (.inl ((t0, t11, t12, t13, ()), ())))))
def Lt := Ib fun x : Zal => Oq x.1.1 x.1.2.1 x.1.2.2.1 x.1.2.2.2.1 x.1.2.2.2.2.1 x.1.2.2.2.2.2.1 x.1.2.2.2.2.2.2.1 x.1.2.2.2.2.2.2.2.1 x.2.1
def Js (t0 : Qf) (t11 : Qf) (t12 : Int) (t13 : Int) : Option (((Qf × Fm) × Unit) ⊕ AB) :=
 (cond (decide (t13 < t12))
 (ob (Wb t11 t13) fun x15 =>
 (cond (decide (x15.1 < 0))
 (some (.inr (.inr ((false, ()), ()))))
 (cond (decide (x15.1 > 16777215))
 (some (.inr (.inr ((false, ()), ()))))
 (cond (decide (x15.2.1 < 24))
 (some (.inr (.inr ((false, ()), ()))))
 (cond (decide (x15.2.1 > 31))
 (some (.inr (.inr ((false, ()), ()))))
 (ob (BB (wr .u64 x15.1)) fun r16 =>
 (cond (decide (r16.1 < 2))
 (some (.inr (.inr ((false, ()), ()))))
 (cond (decide (r16.1 > 4))
 (some (.inr (.inr ((false, ()), ()))))
 (cond (We (ln t0) 0 t13)
 (ob (Lt ((t0, (), t11, t12, t13, (Lb t0 (tn 0) (tn t13)), ((ln (Lb t0 (tn 0) (tn t13)) : Nat) : Int), 0, ()), (x15, ()))) (se (fun y20 => (some (.inl ((y20.1.1, y20.1.2.1, y20.1.2.2.1, (wr .i64 (y20.1.2.2.2.1 + 1)), ()), ())))) (fun z21 => (some (.inr (.inr ((z21.1.1, ()), ())))))))
 none)))))))))
 (some (.inr (.inl ((), ())))))
def Xu := Ib fun x : ((Qf × Fm) × Unit) => Js x.1.1 x.1.2.1 x.1.2.2.1 x.1.2.2.2.1
def Hw (a0 : Qf) : Option Kd :=
 (cond (decide (((ln a0 : Nat) : Int) > 8))
 (some (false, ()))
 (ob (Xu ((a0, a0, ((ln a0 : Nat) : Int), 0, ()), ())) (se (fun y22 => (some (true, ()))) (fun z23 => (some (z23.1.1, ()))))))
def Dv (t1 : Int) (t4 : Unit) (t8 : Qf) (t9 : Int) (t10 : Int) (b4 : Na) : Option (((Int × (Unit × Fm)) × LM) ⊕ ((Gg × LM) ⊕ ((Unit × Kd) × LM))) :=
 (cond (decide (t10 < t9))
 (ob (Wb t8 t10) fun x3 =>
 (cond (x3.2.1 == t1)
 (some (.inr (.inr (((), true, ()), (x3, ())))))
 (some (.inl ((t1, (), t8, t9, (wr .i64 (t10 + 1)), ()), (b4, ()))))))
 (some (.inr (.inl (((), ()), (b4, ()))))))
def Mx := Ib fun x : ((Int × (Unit × Fm)) × LM) => Dv x.1.1 x.1.2.1 x.1.2.2.1 x.1.2.2.2.1 x.1.2.2.2.2.1 x.2.1
def Sz (a0 : Qf) (a1 : Int) : Option (Na × Kd) :=
 (ob (Mx ((a1, (), a0, ((ln a0 : Nat) : Int), 0, ()), ((0, 0, ()), ()))) (se (fun y4 => (some ((0, 0, ()), false, ()))) (fun z5 => (some (z5.2.1, z5.1.2.1, ())))))
def Ep (t1 : Unit) (t3 : Int) (t9 : Eh) (t10 : Int) (t11 : Int) (b1 : Ea) : Option (((Unit × Vx) × PH) ⊕ AB) :=
 (cond (decide (t11 < t10))
 (ob (Wb t9 t11) fun x7 =>
 (ob (Sz b1.1 x7.1) fun r8 =>
 (cond (!r8.2.1)
 (some (.inr (.inr ((false, ()), ()))))
 (ob (Me t3 x7.1) fun r9 =>
 (cond (r9.1 == 1)
 (some (.inr (.inr ((false, ()), ()))))
 (cond (decide (x7.2.1 ≤ 0))
 (some (.inr (.inr ((false, ()), ()))))
 (cond ((Pc .i64 x7.2.1 r8.1.1) != 0)
 (some (.inr (.inr ((false, ()), ()))))
 (cond (x7.2.2.1 != (x7.2.1 == r8.1.1))
 (some (.inr (.inr ((false, ()), ()))))
 (cond (decide (0 ≤ x7.1))
 (some (.inl (((), (Lc .i64 t3 (Ma .i64 1 x7.1)), t9, t10, (wr .i64 (t11 + 1)), ()), (b1, ()))))
 none)))))))))
 (some (.inr (.inl ((), ())))))
def Hr := Ib fun x : ((Unit × Vx) × PH) => Ep x.1.1 x.1.2.1 x.1.2.2.1 x.1.2.2.2.1 x.1.2.2.2.2.1 x.2.1
def Jy (a0 : Ea) : Option Kd :=
 (ob (Hr (((), 0, a0.2.2.2.2.2.2.1, ((ln a0.2.2.2.2.2.2.1 : Nat) : Int), 0, ()), (a0, ()))) (se (fun y10 => (some (true, ()))) (fun z11 => (some (z11.1.1, ())))))
def Km (t4 : Int) (t10 : Eh) (t11 : Int) (t12 : Int) : Option ((Vx × Unit) ⊕ ((Eg × Unit) ⊕ (KM × Unit))) :=
 (cond (decide (t12 < t11))
 (ob (Wb t10 t12) fun x3 =>
 (cond ((Ya .i64 t4 x3.2.1) != 0)
 (some (.inr (.inr ((0, false, ()), ()))))
 (some (.inl (((Lc .i64 t4 x3.2.1), t10, t11, (wr .i64 (t12 + 1)), ()), ())))))
 (some (.inr (.inl ((t4, ()), ())))))
def Vo := Ib fun x : (Vx × Unit) => Km x.1.1 x.1.2.1 x.1.2.2.1 x.1.2.2.2.1
def Aj (a0 : Ea) : Option KM :=
 (ob (Vo ((a0.2.2.2.2.2.1, a0.2.2.2.2.2.2.1, ((ln a0.2.2.2.2.2.2.1 : Nat) : Int), 0, ()), ())) (se (fun y4 => (some (y4.1.1, true, ()))) (fun z5 => (some z5.1))))
def Nq (a0 : Ea) : Option Kd :=
 (ob (Hw a0.1) fun r1 =>
 (cond (!r1.1)
 (some (false, ()))
 (cond (decide (a0.2.1 < 1))
 (some (false, ()))
 (cond (decide (a0.2.1 > 200))
 (some (false, ()))
 (cond (decide (a0.2.2.2.1 < 0))
 (some (false, ()))
 (cond (decide (a0.2.2.2.1 > 1000000))
 (some (false, ()))
 (cond (decide (a0.2.2.2.2.1 < 0))
 (some (false, ()))
 (cond (decide (a0.2.2.2.2.1 > a0.2.2.2.1))
 (some (false, ()))
 (cond (decide (a0.2.2.2.2.2.1 < 0))
 (some (false, ()))
 (cond (decide (a0.2.2.2.2.2.1 > 16777215))
 (some (false, ()))
 (ob (Jy a0) fun r2 =>
 (cond (!r2.1)
 (some (false, ()))
 (ob (Aj a0) fun r3 =>
 (cond r3.2.1
 (ob (Yi a0.2.2.1 r3.1 24) fun r4 =>
 (cond r4.1
 (ob (Wi a0.2.2.1 a0.2.2.2.1) fun r5 =>
 (some (r5.1, ())))
 (some (false, ()))))
 (some (false, ()))))))))))))))))
def Sq (t0 : Int) (t7 : Eh) (t8 : Int) (t9 : Int) : Option ((Vx × Unit) ⊕ CF) :=
 (cond (decide (t9 < t8))
 (ob (Wb t7 t9) fun x3 =>
 (cond x3.2.2.1
 (cond (decide (0 ≤ x3.2.1))
 (some (.inl (((Lc .i64 t0 (Ma .i64 1 x3.2.1)), t7, t8, (wr .i64 (t9 + 1)), ()), ())))
 none)
 (cond (decide (0 ≤ x3.2.1))
 (some (.inl (((Pc .i64 t0 (Ma .i64 1 x3.2.1)), t7, t8, (wr .i64 (t9 + 1)), ()), ())))
 none)))
 (some (.inr (.inl ((t0, ()), ())))))
def Tt := Ib fun x : (Vx × Unit) => Sq x.1.1 x.1.2.1 x.1.2.2.1 x.1.2.2.2.1
def St (a0 : Int) (a1 : Eh) : Option Eg :=
 (ob (Tt ((a0, a1, ((ln a1 : Nat) : Int), 0, ()), ())) (se (fun y4 => (some (y4.1.1, ()))) (fun z5 => none)))
def Wu (t1 : Unit) (t3 : Int) (t62 : Qf) (t63 : Int) (t64 : Int) (b1 : Vb) : Option (((Unit × (Int × Fm)) × ZA) ⊕ ((Gg × ZA) ⊕ Nl)) :=
 (cond (decide (t64 < t63))
 (ob (Wb t62 t64) fun x12 =>
 (ob (Zn b1.1 x12.1) fun r13 =>
 (cond (!r13.1)
 (some (.inr (.inr ((false, ()), ()))))
 (cond (decide (x12.2.1 ≥ t3))
 (some (.inr (.inr ((false, ()), ()))))
 (some (.inl (((), t3, t62, t63, (wr .i64 (t64 + 1)), ()), (b1, ()))))))))
 (some (.inr (.inl (((), ()), (b1, ()))))))
def Ix := Ib fun x : ((Unit × (Int × Fm)) × ZA) => Wu x.1.1 x.1.2.1 x.1.2.2.1 x.1.2.2.2.1 x.1.2.2.2.2.1 x.2.1
def Is (t1 : Unit) (t6 : Int) (t8 : Int) (t116 : Eh) (t117 : Int) (t118 : Int) (b1 : Vb) : Option (((Unit × (Int × Vx)) × ZA) ⊕ ((OH × ZA) ⊕ Gg)) :=
 (cond (decide (t118 < t117))
 (ob (Wb t116 t118) fun x19 =>
 (cond x19.2.2.1
 (cond (decide (0 ≤ x19.1))
 (some (.inl (((), t6, (Lc .i64 t8 (Ma .i64 1 x19.1)), t116, t117, (wr .i64 (t118 + 1)), ()), (b1, ()))))
 none)
 (some (.inl (((), t6, t8, t116, t117, (wr .i64 (t118 + 1)), ()), (b1, ()))))))
 (some (.inr (.inl (((), t6, t8, ()), (b1, ()))))))
def Jn := Ib fun x : ((Unit × (Int × Vx)) × ZA) => Is x.1.1 x.1.2.1 x.1.2.2.1 x.1.2.2.2.1 x.1.2.2.2.2.1 x.1.2.2.2.2.2.1 x.2.1
def Kt (a0 : Vb) : Option Kd :=
 (ob (Yp a0.1) fun r1 =>
 (cond (!r1.1)
 (some (false, ()))
 (ob (Ro a0.2.1) fun r2 =>
 (cond (!r2.1)
 (some (false, ()))
 (ob (Nq a0.2.2.1) fun r3 =>
 (cond (!r3.1)
 (some (false, ()))
 (ob (Il a0.2.2.2.1) fun r4 =>
 (cond (!r4.1)
 (some (false, ()))
 (ob (Lj a0.1) fun r5 =>
 (cond (a0.2.1.2.2.1 != r5.1)
 (some (false, ()))
 (ob (Lj a0.1) fun r6 =>
 (cond (decide (a0.2.2.2.1.1.1.1 < r6.1))
 (some (false, ()))
 (ob (Zn a0.1 a0.2.2.2.2.1) fun r7 =>
 (cond (!r7.1)
 (some (false, ()))
 (ob (Ix (((), a0.2.2.2.1.1.1.1, a0.2.2.1.1, ((ln a0.2.2.1.1 : Nat) : Int), 0, ()), (a0, ()))) (se (fun y14 => (cond (decide (y14.2.1.2.2.2.2.2.1 < 0))
 (some (false, ()))
 (cond (decide (y14.2.1.2.2.2.2.2.1 > 1000000))
 (some (false, ()))
 (cond (decide (y14.2.1.2.2.1.2.2.2.1 > y14.2.1.2.2.2.2.2.1))
 (some (false, ()))
 (cond (decide (y14.2.1.2.2.2.1.2.2.2.1 > y14.2.1.2.2.2.2.2.1))
 (some (false, ()))
 (ob (Aj y14.2.1.2.2.1) fun r16 =>
 (ob (Jn (((), r16.1, y14.2.1.2.2.1.2.2.2.2.2.1, y14.2.1.2.2.1.2.2.2.2.2.2.1, ((ln y14.2.1.2.2.1.2.2.2.2.2.2.1 : Nat) : Int), 0, ()), (y14.2.1, ()))) (se (fun y20 => (ob (St y20.1.2.1 y20.2.1.2.2.1.2.2.1) fun r22 =>
 (cond (r22.1 == y20.2.1.2.1.2.2.2.1)
 (ob (Um y20.2.1.2.2.2.1.1.2.2.2.1) fun r23 =>
 (ob (St r23.1 y20.2.1.2.2.2.1.2.2.1) fun r24 =>
 (some ((r24.1 == y20.1.2.2.1), ()))))
 (some (false, ()))))) (fun z21 => none))))))))) (fun z15 => (some (z15.1.1, ())))))))))))))))))))
def Nk (a0 : Ea) : Option PH :=
 (cond (bl (ln ([] : List Na) + ln a0.1) Xa)
 (cond (bl (ln ([] : List Ca) + ln a0.2.2.1) Xa)
 (cond (bl (ln ([] : List Ca) + ln a0.2.2.2.2.2.2.1) Xa)
 (some (((ap [] a0.1), a0.2.1, (ap [] a0.2.2.1), a0.2.2.2.1, a0.2.2.2.2.1, a0.2.2.2.2.2.1, (ap [] a0.2.2.2.2.2.2.1), a0.2.2.2.2.2.2.2), ()))
 none)
 none)
 none)
def Qt (a0 : Vb) : Option ZA :=
 (ob (Zp a0.2.1.2.2.2.2.2.1) fun r1 =>
 (ob (Nk a0.2.2.1) fun r2 =>
 (ob (Jl a0.2.2.2.1) fun r3 =>
 (some ((a0.1, (a0.2.1.1, a0.2.1.2.1, a0.2.1.2.2.1, a0.2.1.2.2.2.1, a0.2.1.2.2.2.2.1, r1.1, a0.2.1.2.2.2.2.2.2), r2.1, r3.1, a0.2.2.2.2), ())))))
def Sj (t1 : Int) (t2 : Unit) (t4 : Unit) (t6 : Unit) (t27 : Vc) (t28 : Int) (t29 : Int) (b2 : Rb) (b4 : Rb) (b6 : Rb) : Option (((Int × Yal) × (Rb × LV)) ⊕ (((Int × B0) × LV) ⊕ Gg)) :=
 (cond (decide (t29 < t28))
 (ob (Wb t27 t29) fun x53 =>
 (cond (b2.1 == 0)
 (ob (Me t1 t29) fun r54 =>
 (ob (Me b2.2.2.2.2.1 t29) fun r55 =>
 (cond (r54.1 != r55.1)
 (cond (decide (1 ≥ b2.2.1))
 (ob (Me t1 t29) fun r56 =>
 (ob (Me b2.2.2.2.1 t29) fun r57 =>
 (cond (r56.1 != r57.1)
 (cond (decide (0 ≤ t29))
 (cond (b2.1 == 2)
 (cond (bl (ln b6.2.2.2.2.2.1 + ln ([0] : List Int)) Xa)
 (some (.inl ((t1, (), (), (), t27, t28, (wr .i64 (t29 + 1)), ()), (b2, b4, (b6.1, b6.2.1, b6.2.2.1, (Yb .i64 b6.2.2.2.1 (Ma .i64 1 t29)), b6.2.2.2.2.1, (ap b6.2.2.2.2.2.1 ([0] : List Int)), b6.2.2.2.2.2.2), ()))))
 none)
 (cond (bl (ln b6.2.2.2.2.2.1 + ln ([1] : List Int)) Xa)
 (some (.inl ((t1, (), (), (), t27, t28, (wr .i64 (t29 + 1)), ()), (b2, b4, (b6.1, b6.2.1, b6.2.2.1, (Yb .i64 b6.2.2.2.1 (Ma .i64 1 t29)), b6.2.2.2.2.1, (ap b6.2.2.2.2.2.1 ([1] : List Int)), b6.2.2.2.2.2.2), ()))))
 none))
 none)
 (cond (bl (ln b6.2.2.2.2.2.1 + ln ([1] : List Int)) Xa)
 (some (.inl ((t1, (), (), (), t27, t28, (wr .i64 (t29 + 1)), ()), (b2, b4, (b6.1, b6.2.1, b6.2.2.1, b6.2.2.2.1, b6.2.2.2.2.1, (ap b6.2.2.2.2.2.1 ([1] : List Int)), b6.2.2.2.2.2.2), ()))))
 none))))
 (cond (bl (ln b6.2.2.2.2.2.1 + ln ([1] : List Int)) Xa)
 (some (.inl ((t1, (), (), (), t27, t28, (wr .i64 (t29 + 1)), ()), (b2, b4, (b6.1, b6.2.1, b6.2.2.1, b6.2.2.2.1, b6.2.2.2.2.1, (ap b6.2.2.2.2.2.1 ([1] : List Int)), b6.2.2.2.2.2.2), ()))))
 none))
 (cond (b2.1 == 1)
 (cond (t1 != b2.2.2.2.2.1)
 (cond (decide (1 ≥ b2.2.1))
 (ob (Me t1 t29) fun r58 =>
 (ob (Me b2.2.2.2.1 t29) fun r59 =>
 (cond (r58.1 != r59.1)
 (cond (decide (0 ≤ t29))
 (cond (b2.1 == 2)
 (cond (bl (ln b6.2.2.2.2.2.1 + ln ([0] : List Int)) Xa)
 (some (.inl ((t1, (), (), (), t27, t28, (wr .i64 (t29 + 1)), ()), (b2, b4, (b6.1, b6.2.1, b6.2.2.1, (Yb .i64 b6.2.2.2.1 (Ma .i64 1 t29)), b6.2.2.2.2.1, (ap b6.2.2.2.2.2.1 ([0] : List Int)), b6.2.2.2.2.2.2), ()))))
 none)
 (cond (bl (ln b6.2.2.2.2.2.1 + ln ([1] : List Int)) Xa)
 (some (.inl ((t1, (), (), (), t27, t28, (wr .i64 (t29 + 1)), ()), (b2, b4, (b6.1, b6.2.1, b6.2.2.1, (Yb .i64 b6.2.2.2.1 (Ma .i64 1 t29)), b6.2.2.2.2.1, (ap b6.2.2.2.2.2.1 ([1] : List Int)), b6.2.2.2.2.2.2), ()))))
 none))
 none)
 (cond (bl (ln b6.2.2.2.2.2.1 + ln ([1] : List Int)) Xa)
 (some (.inl ((t1, (), (), (), t27, t28, (wr .i64 (t29 + 1)), ()), (b2, b4, (b6.1, b6.2.1, b6.2.2.1, b6.2.2.2.1, b6.2.2.2.2.1, (ap b6.2.2.2.2.2.1 ([1] : List Int)), b6.2.2.2.2.2.2), ()))))
 none))))
 (cond (bl (ln b6.2.2.2.2.2.1 + ln ([1] : List Int)) Xa)
 (some (.inl ((t1, (), (), (), t27, t28, (wr .i64 (t29 + 1)), ()), (b2, b4, (b6.1, b6.2.1, b6.2.2.1, b6.2.2.2.1, b6.2.2.2.2.1, (ap b6.2.2.2.2.2.1 ([1] : List Int)), b6.2.2.2.2.2.2), ()))))
 none))
 (cond (decide ((min (wr .i64 (x53 + 1)) 99) ≥ b2.2.1))
 (ob (Me t1 t29) fun r60 =>
 (ob (Me b2.2.2.2.1 t29) fun r61 =>
 (cond (r60.1 != r61.1)
 (cond (decide (0 ≤ t29))
 (cond (b2.1 == 2)
 (cond (bl (ln b6.2.2.2.2.2.1 + ln ([0] : List Int)) Xa)
 (some (.inl ((t1, (), (), (), t27, t28, (wr .i64 (t29 + 1)), ()), (b2, b4, (b6.1, b6.2.1, b6.2.2.1, (Yb .i64 b6.2.2.2.1 (Ma .i64 1 t29)), b6.2.2.2.2.1, (ap b6.2.2.2.2.2.1 ([0] : List Int)), b6.2.2.2.2.2.2), ()))))
 none)
 (cond (bl (ln b6.2.2.2.2.2.1 + ln ([(min (wr .i64 (x53 + 1)) 99)] : List Int)) Xa)
 (some (.inl ((t1, (), (), (), t27, t28, (wr .i64 (t29 + 1)), ()), (b2, b4, (b6.1, b6.2.1, b6.2.2.1, (Yb .i64 b6.2.2.2.1 (Ma .i64 1 t29)), b6.2.2.2.2.1, (ap b6.2.2.2.2.2.1 ([(min (wr .i64 (x53 + 1)) 99)] : List Int)), b6.2.2.2.2.2.2), ()))))
 none))
 none)
 (cond (bl (ln b6.2.2.2.2.2.1 + ln ([(min (wr .i64 (x53 + 1)) 99)] : List Int)) Xa)
 (some (.inl ((t1, (), (), (), t27, t28, (wr .i64 (t29 + 1)), ()), (b2, b4, (b6.1, b6.2.1, b6.2.2.1, b6.2.2.2.1, b6.2.2.2.2.1, (ap b6.2.2.2.2.2.1 ([(min (wr .i64 (x53 + 1)) 99)] : List Int)), b6.2.2.2.2.2.2), ()))))
 none))))
 (cond (bl (ln b6.2.2.2.2.2.1 + ln ([(min (wr .i64 (x53 + 1)) 99)] : List Int)) Xa)
 (some (.inl ((t1, (), (), (), t27, t28, (wr .i64 (t29 + 1)), ()), (b2, b4, (b6.1, b6.2.1, b6.2.2.1, b6.2.2.2.1, b6.2.2.2.2.1, (ap b6.2.2.2.2.2.1 ([(min (wr .i64 (x53 + 1)) 99)] : List Int)), b6.2.2.2.2.2.2), ()))))
 none)))
 (cond (decide ((min (wr .i64 (x53 + 1)) 99) ≥ b2.2.1))
 (ob (Me t1 t29) fun r62 =>
 (ob (Me b2.2.2.2.1 t29) fun r63 =>
 (cond (r62.1 != r63.1)
 (cond (decide (0 ≤ t29))
 (cond (b2.1 == 2)
 (cond (bl (ln b6.2.2.2.2.2.1 + ln ([0] : List Int)) Xa)
 (some (.inl ((t1, (), (), (), t27, t28, (wr .i64 (t29 + 1)), ()), (b2, b4, (b6.1, b6.2.1, b6.2.2.1, (Yb .i64 b6.2.2.2.1 (Ma .i64 1 t29)), b6.2.2.2.2.1, (ap b6.2.2.2.2.2.1 ([0] : List Int)), b6.2.2.2.2.2.2), ()))))
 none)
 (cond (bl (ln b6.2.2.2.2.2.1 + ln ([(min (wr .i64 (x53 + 1)) 99)] : List Int)) Xa)
 (some (.inl ((t1, (), (), (), t27, t28, (wr .i64 (t29 + 1)), ()), (b2, b4, (b6.1, b6.2.1, b6.2.2.1, (Yb .i64 b6.2.2.2.1 (Ma .i64 1 t29)), b6.2.2.2.2.1, (ap b6.2.2.2.2.2.1 ([(min (wr .i64 (x53 + 1)) 99)] : List Int)), b6.2.2.2.2.2.2), ()))))
 none))
 none)
 (cond (bl (ln b6.2.2.2.2.2.1 + ln ([(min (wr .i64 (x53 + 1)) 99)] : List Int)) Xa)
 (some (.inl ((t1, (), (), (), t27, t28, (wr .i64 (t29 + 1)), ()), (b2, b4, (b6.1, b6.2.1, b6.2.2.1, b6.2.2.2.1, b6.2.2.2.2.1, (ap b6.2.2.2.2.2.1 ([(min (wr .i64 (x53 + 1)) 99)] : List Int)), b6.2.2.2.2.2.2), ()))))
 none))))
 (cond (bl (ln b6.2.2.2.2.2.1 + ln ([(min (wr .i64 (x53 + 1)) 99)] : List Int)) Xa)
 (some (.inl ((t1, (), (), (), t27, t28, (wr .i64 (t29 + 1)), ()), (b2, b4, (b6.1, b6.2.1, b6.2.2.1, b6.2.2.2.1, b6.2.2.2.2.1, (ap b6.2.2.2.2.2.1 ([(min (wr .i64 (x53 + 1)) 99)] : List Int)), b6.2.2.2.2.2.2), ()))))
 none))))))
 (cond (b2.1 == 1)
 (cond (t1 != b2.2.2.2.2.1)
 (cond (decide (1 ≥ b2.2.1))
 (ob (Me t1 t29) fun r64 =>
 (ob (Me b2.2.2.2.1 t29) fun r65 =>
 (cond (r64.1 != r65.1)
 (cond (decide (0 ≤ t29))
 (cond (b2.1 == 2)
 (cond (bl (ln b6.2.2.2.2.2.1 + ln ([0] : List Int)) Xa)
 (some (.inl ((t1, (), (), (), t27, t28, (wr .i64 (t29 + 1)), ()), (b2, b4, (b6.1, b6.2.1, b6.2.2.1, (Yb .i64 b6.2.2.2.1 (Ma .i64 1 t29)), b6.2.2.2.2.1, (ap b6.2.2.2.2.2.1 ([0] : List Int)), b6.2.2.2.2.2.2), ()))))
 none)
 (cond (bl (ln b6.2.2.2.2.2.1 + ln ([1] : List Int)) Xa)
 (some (.inl ((t1, (), (), (), t27, t28, (wr .i64 (t29 + 1)), ()), (b2, b4, (b6.1, b6.2.1, b6.2.2.1, (Yb .i64 b6.2.2.2.1 (Ma .i64 1 t29)), b6.2.2.2.2.1, (ap b6.2.2.2.2.2.1 ([1] : List Int)), b6.2.2.2.2.2.2), ()))))
 none))
 none)
 (cond (bl (ln b6.2.2.2.2.2.1 + ln ([1] : List Int)) Xa)
 (some (.inl ((t1, (), (), (), t27, t28, (wr .i64 (t29 + 1)), ()), (b2, b4, (b6.1, b6.2.1, b6.2.2.1, b6.2.2.2.1, b6.2.2.2.2.1, (ap b6.2.2.2.2.2.1 ([1] : List Int)), b6.2.2.2.2.2.2), ()))))
 none))))
 (cond (bl (ln b6.2.2.2.2.2.1 + ln ([1] : List Int)) Xa)
 (some (.inl ((t1, (), (), (), t27, t28, (wr .i64 (t29 + 1)), ()), (b2, b4, (b6.1, b6.2.1, b6.2.2.1, b6.2.2.2.1, b6.2.2.2.2.1, (ap b6.2.2.2.2.2.1 ([1] : List Int)), b6.2.2.2.2.2.2), ()))))
 none))
 (cond (decide ((min (wr .i64 (x53 + 1)) 99) ≥ b2.2.1))
 (ob (Me t1 t29) fun r66 =>
 (ob (Me b2.2.2.2.1 t29) fun r67 =>
 (cond (r66.1 != r67.1)
 (cond (decide (0 ≤ t29))
 (cond (b2.1 == 2)
 (cond (bl (ln b6.2.2.2.2.2.1 + ln ([0] : List Int)) Xa)
 (some (.inl ((t1, (), (), (), t27, t28, (wr .i64 (t29 + 1)), ()), (b2, b4, (b6.1, b6.2.1, b6.2.2.1, (Yb .i64 b6.2.2.2.1 (Ma .i64 1 t29)), b6.2.2.2.2.1, (ap b6.2.2.2.2.2.1 ([0] : List Int)), b6.2.2.2.2.2.2), ()))))
 none)
 (cond (bl (ln b6.2.2.2.2.2.1 + ln ([(min (wr .i64 (x53 + 1)) 99)] : List Int)) Xa)
 (some (.inl ((t1, (), (), (), t27, t28, (wr .i64 (t29 + 1)), ()), (b2, b4, (b6.1, b6.2.1, b6.2.2.1, (Yb .i64 b6.2.2.2.1 (Ma .i64 1 t29)), b6.2.2.2.2.1, (ap b6.2.2.2.2.2.1 ([(min (wr .i64 (x53 + 1)) 99)] : List Int)), b6.2.2.2.2.2.2), ()))))
 none))
 none)
 (cond (bl (ln b6.2.2.2.2.2.1 + ln ([(min (wr .i64 (x53 + 1)) 99)] : List Int)) Xa)
 (some (.inl ((t1, (), (), (), t27, t28, (wr .i64 (t29 + 1)), ()), (b2, b4, (b6.1, b6.2.1, b6.2.2.1, b6.2.2.2.1, b6.2.2.2.2.1, (ap b6.2.2.2.2.2.1 ([(min (wr .i64 (x53 + 1)) 99)] : List Int)), b6.2.2.2.2.2.2), ()))))
 none))))
 (cond (bl (ln b6.2.2.2.2.2.1 + ln ([(min (wr .i64 (x53 + 1)) 99)] : List Int)) Xa)
 (some (.inl ((t1, (), (), (), t27, t28, (wr .i64 (t29 + 1)), ()), (b2, b4, (b6.1, b6.2.1, b6.2.2.1, b6.2.2.2.1, b6.2.2.2.2.1, (ap b6.2.2.2.2.2.1 ([(min (wr .i64 (x53 + 1)) 99)] : List Int)), b6.2.2.2.2.2.2), ()))))
 none)))
 (cond (decide ((min (wr .i64 (x53 + 1)) 99) ≥ b2.2.1))
 (ob (Me t1 t29) fun r68 =>
 (ob (Me b2.2.2.2.1 t29) fun r69 =>
 (cond (r68.1 != r69.1)
 (cond (decide (0 ≤ t29))
 (cond (b2.1 == 2)
 (cond (bl (ln b6.2.2.2.2.2.1 + ln ([0] : List Int)) Xa)
 (some (.inl ((t1, (), (), (), t27, t28, (wr .i64 (t29 + 1)), ()), (b2, b4, (b6.1, b6.2.1, b6.2.2.1, (Yb .i64 b6.2.2.2.1 (Ma .i64 1 t29)), b6.2.2.2.2.1, (ap b6.2.2.2.2.2.1 ([0] : List Int)), b6.2.2.2.2.2.2), ()))))
 none)
 (cond (bl (ln b6.2.2.2.2.2.1 + ln ([(min (wr .i64 (x53 + 1)) 99)] : List Int)) Xa)
 (some (.inl ((t1, (), (), (), t27, t28, (wr .i64 (t29 + 1)), ()), (b2, b4, (b6.1, b6.2.1, b6.2.2.1, (Yb .i64 b6.2.2.2.1 (Ma .i64 1 t29)), b6.2.2.2.2.1, (ap b6.2.2.2.2.2.1 ([(min (wr .i64 (x53 + 1)) 99)] : List Int)), b6.2.2.2.2.2.2), ()))))
 none))
 none)
 (cond (bl (ln b6.2.2.2.2.2.1 + ln ([(min (wr .i64 (x53 + 1)) 99)] : List Int)) Xa)
 (some (.inl ((t1, (), (), (), t27, t28, (wr .i64 (t29 + 1)), ()), (b2, b4, (b6.1, b6.2.1, b6.2.2.1, b6.2.2.2.1, b6.2.2.2.2.1, (ap b6.2.2.2.2.2.1 ([(min (wr .i64 (x53 + 1)) 99)] : List Int)), b6.2.2.2.2.2.2), ()))))
 none))))
 (cond (bl (ln b6.2.2.2.2.2.1 + ln ([(min (wr .i64 (x53 + 1)) 99)] : List Int)) Xa)
 (some (.inl ((t1, (), (), (), t27, t28, (wr .i64 (t29 + 1)), ()), (b2, b4, (b6.1, b6.2.1, b6.2.2.1, b6.2.2.2.1, b6.2.2.2.2.1, (ap b6.2.2.2.2.2.1 ([(min (wr .i64 (x53 + 1)) 99)] : List Int)), b6.2.2.2.2.2.2), ()))))
 none)))))
 (some (.inr (.inl ((t1, (), (), ()), (b4, b6, ()))))))
def Qo := Ib fun x : ((Int × Yal) × (Rb × LV)) => Sj x.1.1 x.1.2.1 x.1.2.2.1 x.1.2.2.2.1 x.1.2.2.2.2.1 x.1.2.2.2.2.2.1 x.1.2.2.2.2.2.2.1 x.2.1 x.2.2.1 x.2.2.2.1
def Dn (a0 : Rb) (a1 : Int) : Option (Rb × Kd) :=
 (ob (Ro a0) fun r1 =>
 (cond (!r1.1)
 (some ((0, 0, 0, 0, 0, [], ()), false, ()))
 (cond (decide (a1 < 0))
 (some ((0, 0, 0, 0, 0, [], ()), false, ()))
 (cond (decide (0 ≤ a0.2.2.1))
 (cond (decide (a1 ≥ (Ma .i64 1 a0.2.2.1)))
 (some ((0, 0, 0, 0, 0, [], ()), false, ()))
 (ob (Qo ((a1, (), (), (), a0.2.2.2.2.2.1, ((ln a0.2.2.2.2.2.1 : Nat) : Int), 0, ()), (a0, (0, 0, 0, 0, 0, [], ()), (a0.1, a0.2.1, a0.2.2.1, a0.2.2.2.1, a0.2.2.2.2.1, [], a0.2.2.2.2.2.2), ()))) (se (fun y70 => (some ((y70.2.2.1.1, y70.2.2.1.2.1, y70.2.2.1.2.2.1, y70.2.2.1.2.2.2.1, y70.1.1, y70.2.2.1.2.2.2.2.2), true, ()))) (fun z71 => none))))
 none))))
def Ul (t0 : Int) (t1 : Int) (t2 : Int) (t7 : Eh) (t8 : Int) : Option (((Int × (Int × (Int × PK))) × Unit) ⊕ ((A0 × Unit) ⊕ Gg)) :=
 (cond (decide (t8 ≤ 31))
 (ob (Me t0 t8) fun r10 =>
 (ob (Me t1 t8) fun r11 =>
 (cond (r10.1 != r11.1)
 (ob (Me t1 t8) fun r12 =>
 (cond (bl (ln t7 + ln ([(t2, t8, (r12.1 == 1), ())] : List Ca)) Xa)
 (some (.inl ((t0, t1, t2, (ap t7 ([(t2, t8, (r12.1 == 1), ())] : List Ca)), (wr .i64 (t8 + 1)), ()), ())))
 none))
 (some (.inl ((t0, t1, t2, t7, (wr .i64 (t8 + 1)), ()), ()))))))
 (some (.inr (.inl ((t7, ()), ())))))
def Pn := Ib fun x : ((Int × (Int × (Int × PK))) × Unit) => Ul x.1.1 x.1.2.1 x.1.2.2.1 x.1.2.2.2.1 x.1.2.2.2.2.1
def Rq (a0 : Int) (a1 : Int) (a2 : Int) : Option A0 :=
 (ob (Pn ((a0, a1, a2, [], 0, ()), ())) (se (fun y13 => (some (y13.1.1, ()))) (fun z14 => none)))
def Hn (t0 : Unit) (t1 : Int) (t2 : Int) (t14 : Int) (t15 : Int) (b500000 : Ea) : Option ((Ual × PH) ⊕ (JQ ⊕ VaE)) :=
 (cond (decide (t15 < t14))
 (cond (Ci (ln b500000.2.2.2.2.2.2.1) t15)
 (ob b500000.2.2.2.2.2.2.1[(tn t15)]? fun x19 =>
 (ob (Me x19.2.1 t1) fun r20 =>
 (cond (r20.1 == 0)
 (some (.inl (((), t1, t2, t14, (wr .i64 (t15 + 1)), ()), (b500000, ()))))
 (ob b500000.2.2.2.2.2.2.1[(tn t15)]? fun x21 =>
 (cond (decide (0 ≤ t1))
 (ob b500000.2.2.2.2.2.2.1[(tn t15)]? fun x22 =>
 (ob (ls b500000.2.2.2.2.2.2.1 (tn t15) (x22.1, (Pc .i64 x21.2.1 (Ma .i64 1 t1)), x22.2.2))[(tn t15)]? fun x23 =>
 (cond x23.2.2.1
 (ob (ls b500000.2.2.2.2.2.2.1 (tn t15) (x22.1, (Pc .i64 x21.2.1 (Ma .i64 1 t1)), x22.2.2))[(tn t15)]? fun x24 =>
 (ob (ls (ls b500000.2.2.2.2.2.2.1 (tn t15) (x22.1, (Pc .i64 x21.2.1 (Ma .i64 1 t1)), x22.2.2)) (tn t15) (x24.1, x24.2.1, false, x24.2.2.2))[(tn t15)]? fun x25 =>
 (ob (ls (ls b500000.2.2.2.2.2.2.1 (tn t15) (x22.1, (Pc .i64 x21.2.1 (Ma .i64 1 t1)), x22.2.2)) (tn t15) (x24.1, x24.2.1, false, x24.2.2.2))[(tn t15)]? fun x26 =>
 (cond (x26.2.1 == 0)
 (cond (We (ln (ls (ls b500000.2.2.2.2.2.2.1 (tn t15) (x22.1, (Pc .i64 x21.2.1 (Ma .i64 1 t1)), x22.2.2)) (tn t15) (x24.1, x24.2.1, false, x24.2.2.2))) 0 t15)
 (cond (bl (ln ([] : List Ca) + ln (Lb (ls (ls b500000.2.2.2.2.2.2.1 (tn t15) (x22.1, (Pc .i64 x21.2.1 (Ma .i64 1 t1)), x22.2.2)) (tn t15) (x24.1, x24.2.1, false, x24.2.2.2)) (tn 0) (tn t15))) Xa)
 (cond (We (ln (ls (ls b500000.2.2.2.2.2.2.1 (tn t15) (x22.1, (Pc .i64 x21.2.1 (Ma .i64 1 t1)), x22.2.2)) (tn t15) (x24.1, x24.2.1, false, x24.2.2.2))) (wr .i64 (t15 + 1)) ((ln (ls (ls b500000.2.2.2.2.2.2.1 (tn t15) (x22.1, (Pc .i64 x21.2.1 (Ma .i64 1 t1)), x22.2.2)) (tn t15) (x24.1, x24.2.1, false, x24.2.2.2)) : Nat) : Int))
 (cond (bl (ln (ap [] (Lb (ls (ls b500000.2.2.2.2.2.2.1 (tn t15) (x22.1, (Pc .i64 x21.2.1 (Ma .i64 1 t1)), x22.2.2)) (tn t15) (x24.1, x24.2.1, false, x24.2.2.2)) (tn 0) (tn t15))) + ln (Lb (ls (ls b500000.2.2.2.2.2.2.1 (tn t15) (x22.1, (Pc .i64 x21.2.1 (Ma .i64 1 t1)), x22.2.2)) (tn t15) (x24.1, x24.2.1, false, x24.2.2.2)) (tn (wr .i64 (t15 + 1))) (tn ((ln (ls (ls b500000.2.2.2.2.2.2.1 (tn t15) (x22.1, (Pc .i64 x21.2.1 (Ma .i64 1 t1)), x22.2.2)) (tn t15) (x24.1, x24.2.1, false, x24.2.2.2)) : Nat) : Int)))) Xa)
 (some (.inr (.inr (((), ([(t2, x25.1, false, ())] : List Ca), ()), ((b500000.1, b500000.2.1, b500000.2.2.1, b500000.2.2.2.1, b500000.2.2.2.2.1, b500000.2.2.2.2.2.1, (ap (ap [] (Lb (ls (ls b500000.2.2.2.2.2.2.1 (tn t15) (x22.1, (Pc .i64 x21.2.1 (Ma .i64 1 t1)), x22.2.2)) (tn t15) (x24.1, x24.2.1, false, x24.2.2.2)) (tn 0) (tn t15))) (Lb (ls (ls b500000.2.2.2.2.2.2.1 (tn t15) (x22.1, (Pc .i64 x21.2.1 (Ma .i64 1 t1)), x22.2.2)) (tn t15) (x24.1, x24.2.1, false, x24.2.2.2)) (tn (wr .i64 (t15 + 1))) (tn ((ln (ls (ls b500000.2.2.2.2.2.2.1 (tn t15) (x22.1, (Pc .i64 x21.2.1 (Ma .i64 1 t1)), x22.2.2)) (tn t15) (x24.1, x24.2.1, false, x24.2.2.2)) : Nat) : Int)))), ()), ())))))
 none)
 none)
 none)
 none)
 (some (.inr (.inr (((), ([(t2, x25.1, false, ())] : List Ca), ()), ((b500000.1, b500000.2.1, b500000.2.2.1, b500000.2.2.2.1, b500000.2.2.2.2.1, b500000.2.2.2.2.2.1, (ls (ls b500000.2.2.2.2.2.2.1 (tn t15) (x22.1, (Pc .i64 x21.2.1 (Ma .i64 1 t1)), x22.2.2)) (tn t15) (x24.1, x24.2.1, false, x24.2.2.2)), ()), ())))))))))
 (ob (ls b500000.2.2.2.2.2.2.1 (tn t15) (x22.1, (Pc .i64 x21.2.1 (Ma .i64 1 t1)), x22.2.2))[(tn t15)]? fun x27 =>
 (cond (x27.2.1 == 0)
 (cond (We (ln (ls b500000.2.2.2.2.2.2.1 (tn t15) (x22.1, (Pc .i64 x21.2.1 (Ma .i64 1 t1)), x22.2.2))) 0 t15)
 (cond (bl (ln ([] : List Ca) + ln (Lb (ls b500000.2.2.2.2.2.2.1 (tn t15) (x22.1, (Pc .i64 x21.2.1 (Ma .i64 1 t1)), x22.2.2)) (tn 0) (tn t15))) Xa)
 (cond (We (ln (ls b500000.2.2.2.2.2.2.1 (tn t15) (x22.1, (Pc .i64 x21.2.1 (Ma .i64 1 t1)), x22.2.2))) (wr .i64 (t15 + 1)) ((ln (ls b500000.2.2.2.2.2.2.1 (tn t15) (x22.1, (Pc .i64 x21.2.1 (Ma .i64 1 t1)), x22.2.2)) : Nat) : Int))
 (cond (bl (ln (ap [] (Lb (ls b500000.2.2.2.2.2.2.1 (tn t15) (x22.1, (Pc .i64 x21.2.1 (Ma .i64 1 t1)), x22.2.2)) (tn 0) (tn t15))) + ln (Lb (ls b500000.2.2.2.2.2.2.1 (tn t15) (x22.1, (Pc .i64 x21.2.1 (Ma .i64 1 t1)), x22.2.2)) (tn (wr .i64 (t15 + 1))) (tn ((ln (ls b500000.2.2.2.2.2.2.1 (tn t15) (x22.1, (Pc .i64 x21.2.1 (Ma .i64 1 t1)), x22.2.2)) : Nat) : Int)))) Xa)
 (some (.inr (.inr (((), [], ()), ((b500000.1, b500000.2.1, b500000.2.2.1, b500000.2.2.2.1, b500000.2.2.2.2.1, b500000.2.2.2.2.2.1, (ap (ap [] (Lb (ls b500000.2.2.2.2.2.2.1 (tn t15) (x22.1, (Pc .i64 x21.2.1 (Ma .i64 1 t1)), x22.2.2)) (tn 0) (tn t15))) (Lb (ls b500000.2.2.2.2.2.2.1 (tn t15) (x22.1, (Pc .i64 x21.2.1 (Ma .i64 1 t1)), x22.2.2)) (tn (wr .i64 (t15 + 1))) (tn ((ln (ls b500000.2.2.2.2.2.2.1 (tn t15) (x22.1, (Pc .i64 x21.2.1 (Ma .i64 1 t1)), x22.2.2)) : Nat) : Int)))), ()), ())))))
 none)
 none)
 none)
 none)
 (some (.inr (.inr (((), [], ()), ((b500000.1, b500000.2.1, b500000.2.2.1, b500000.2.2.2.1, b500000.2.2.2.2.1, b500000.2.2.2.2.2.1, (ls b500000.2.2.2.2.2.2.1 (tn t15) (x22.1, (Pc .i64 x21.2.1 (Ma .i64 1 t1)), x22.2.2)), ()), ()))))))))))
 none)))))
 none)
 (some (.inr (.inl (((), t1, t2, ()), (b500000, ()))))))
def Tp := Ib fun x : (Ual × PH) => Hn x.1.1 x.1.2.1 x.1.2.2.1 x.1.2.2.2.1 x.1.2.2.2.2.1 x.2.1
def Po (a0 : Ea) (a1 : Int) (a2 : Int) : Option (Ea × A0) :=
 (ob (Tp (((), a1, a2, ((ln a0.2.2.2.2.2.2.1 : Nat) : Int), 0, ()), (a0, ()))) (se (fun y28 => (cond (decide (0 ≤ y28.1.2.1))
 (some ((y28.2.1.1, y28.2.1.2.1, y28.2.1.2.2.1, y28.2.1.2.2.2.1, y28.2.1.2.2.2.2.1, (Pc .i64 y28.2.1.2.2.2.2.2.1 (Ma .i64 1 y28.1.2.1)), y28.2.1.2.2.2.2.2.2.1, ()), (([(y28.1.2.2.1, y28.1.2.1, false, ())] : List Ca), ())))
 none)) (fun z29 => (some (z29.2.1, (z29.1.2.1, ()))))))
def Bm (a0 : Ca) : Option Kd :=
 (ob (Mt a0) fun r1 =>
 (cond r1.1
 (some ((decide (a0.2.1 < 24)), ()))
 (some (false, ()))))
def Py (t1 : Int) (t7 : Qf) (t8 : Int) (t9 : Int) : Option (((Int × Fm) × Unit) ⊕ AB) :=
 (cond (decide (t9 < t8))
 (ob (Wb t7 t9) fun x3 =>
 (cond ((Pc .i64 t1 x3.1) == 0)
 (some (.inr (.inr ((true, ()), ()))))
 (some (.inl ((t1, t7, t8, (wr .i64 (t9 + 1)), ()), ())))))
 (some (.inr (.inl ((), ())))))
def Zz := Ib fun x : ((Int × Fm) × Unit) => Py x.1.1 x.1.2.1 x.1.2.2.1 x.1.2.2.2.1
def TC (a0 : Qf) (a1 : Int) : Option Kd :=
 (ob (Zz ((a1, a0, ((ln a0 : Nat) : Int), 0, ()), ())) (se (fun y4 => (some (false, ()))) (fun z5 => (some (z5.1.1, ())))))
def Hp (t1 : Int) (t6 : Int) (t7 : Bool) (t10 : Qf) (t11 : Int) (t12 : Int) : Option (((Int × (Int × (Bool × Fm))) × Unit) ⊕ ((KM × Unit) ⊕ Gg)) :=
 (cond (decide (t12 < t11))
 (ob (Wb t10 t12) fun x3 =>
 (cond (x3.1 == t1)
 (some (.inl ((t1, x3.2.1, t7, t10, t11, (wr .i64 (t12 + 1)), ()), ())))
 (cond ((Pc .i64 t1 x3.1) == 0)
 (some (.inl ((t1, t6, true, t10, t11, (wr .i64 (t12 + 1)), ()), ())))
 (some (.inl ((t1, t6, t7, t10, t11, (wr .i64 (t12 + 1)), ()), ()))))))
 (some (.inr (.inl ((t6, t7, ()), ())))))
def Mr := Ib fun x : ((Int × (Int × (Bool × Fm))) × Unit) => Hp x.1.1 x.1.2.1 x.1.2.2.1 x.1.2.2.2.1 x.1.2.2.2.2.1 x.1.2.2.2.2.2.1
def Lm (a0 : Qf) (a1 : Int) : Option KM :=
 (ob (Mr ((a1, (-1), false, a0, ((ln a0 : Nat) : Int), 0, ()), ())) (se (fun y4 => (some y4.1)) (fun z5 => none)))
def On (t0 : Qf) (t1 : Int) (t3 : Int) (t11 : Unit) (t12 : Int) (t13 : Int) (t14 : Int) (t15 : Bool) (t69 : Eh) (t70 : Int) (t71 : Int) (b11 : Ca) : Option (Pax ⊕ (((Qf × (Int × (Int × Ca))) × Unit) ⊕ VJ)) :=
 (cond (decide (t71 < t70))
 (ob (Wb t69 t71) fun x15 =>
 (ob (Bm x15) fun r16 =>
 (cond (!r16.1)
 (some (.inr (.inr ((0, 0, (-1), ()), ()))))
 (cond (decide (x15.1 ≥ (wr .i64 (b11.1 + t1))))
 (some (.inr (.inl ((t0, t3, t12, (min t13 x15.1), t14, false, ()), ()))))
 (cond (!x15.2.2.1)
 (some (.inr (.inl ((t0, t3, t12, (min t13 x15.1), t14, false, ()), ()))))
 (cond (decide (0 ≤ x15.2.1))
 (ob (TC t0 (Lc .i64 t12 (Ma .i64 1 x15.2.1))) fun r17 =>
 (cond (!r17.1)
 (some (.inr (.inl ((t0, t3, t12, (min t13 x15.1), t14, false, ()), ()))))
 (cond (decide (0 ≤ x15.2.1))
 (ob (Lm t0 (Lc .i64 t12 (Ma .i64 1 x15.2.1))) fun r18 =>
 (cond (decide (r18.1 ≥ 0))
 (cond (!r18.2.1)
 (some (.inr (.inr (((wr .i64 (t14 + 1)), x15.1, r18.1, ()), ()))))
 (some (.inl ((t0, t1, t3, (), (Lc .i64 t12 (Ma .i64 1 x15.2.1)), t13, (wr .i64 (t14 + 1)), t15, t69, t70, (wr .i64 (t71 + 1)), ()), (b11, ())))))
 (some (.inl ((t0, t1, t3, (), (Lc .i64 t12 (Ma .i64 1 x15.2.1)), t13, (wr .i64 (t14 + 1)), t15, t69, t70, (wr .i64 (t71 + 1)), ()), (b11, ()))))))
 none)))
 none))))))
 (some (.inr (.inl ((t0, t3, t12, t13, t14, t15, ()), ())))))
def Bl := Ib fun x : Pax => On x.1.1 x.1.2.1 x.1.2.2.1 x.1.2.2.2.1 x.1.2.2.2.2.1 x.1.2.2.2.2.2.1 x.1.2.2.2.2.2.2.1 x.1.2.2.2.2.2.2.2.1 x.1.2.2.2.2.2.2.2.2.1 x.1.2.2.2.2.2.2.2.2.2.1 x.1.2.2.2.2.2.2.2.2.2.2.1 x.2.1
def Dy (a0 : Qf) (a1 : Int) (a2 : Eh) (a3 : Int) : Option Cc :=
 (ob (Hw a0) fun r1 =>
 (cond (!r1.1)
 (some (0, 0, (-1), ()))
 (cond (decide (a1 < 1))
 (some (0, 0, (-1), ()))
 (cond (decide (a1 > 200))
 (some (0, 0, (-1), ()))
 (cond (((ln a2 : Nat) : Int) == 0)
 (some (0, 0, (-1), ()))
 (ob (Wb a2 0) fun x2 =>
 (ob (Bm x2) fun r3 =>
 (cond (!r3.1)
 (some (0, 0, (-1), ()))
 (ob (Wb a2 0) fun x4 =>
 (cond (!x4.2.2.1)
 (some (0, 0, (-1), ()))
 (ob (Wb a2 0) fun x5 =>
 (cond (decide (0 ≤ x5.2.1))
 (ob (TC a0 (Ma .i64 1 x5.2.1)) fun r6 =>
 (cond (!r6.1)
 (some (1, x5.1, (-1), ()))
 (cond (We (ln a2) 1 ((ln a2 : Nat) : Int))
 (ob (Bl ((a0, a1, a3, (), (Ma .i64 1 x5.2.1), (wr .i64 (x5.1 + a1)), 1, true, (Lb a2 (tn 1) (tn ((ln a2 : Nat) : Int))), ((ln (Lb a2 (tn 1) (tn ((ln a2 : Nat) : Int))) : Nat) : Int), 0, ()), (x5, ()))) (se (fun y19 => (cond y19.1.2.2.2.2.2.1
 (cond (decide (y19.1.2.1 < y19.1.2.2.2.1))
 (some (0, 0, (-1), ()))
 (ob (Lm y19.1.1 y19.1.2.2.1) fun r21 =>
 (cond (decide (r21.1 ≥ 0))
 (some (y19.1.2.2.2.2.1, y19.1.2.2.2.1, r21.1, ()))
 (some (1, y19.1.2.2.2.1, (-1), ())))))
 (ob (Lm y19.1.1 y19.1.2.2.1) fun r22 =>
 (cond (decide (r22.1 ≥ 0))
 (some (y19.1.2.2.2.2.1, y19.1.2.2.2.1, r22.1, ()))
 (some (1, y19.1.2.2.2.1, (-1), ())))))) (fun z20 => (some z20.1))))
 none)))
 none))))))))))))
def Ei (a0 : Ea) : Option (Ea × Qax) :=
 (cond (Ci (ln a0.2.2.1) 0)
 (ob a0.2.2.1[(tn 0)]? fun x1 =>
 (cond (!x1.2.2.1)
 (cond (We (ln a0.2.2.1) 1 ((ln a0.2.2.1 : Nat) : Int))
 (cond (bl (ln ([] : List Ca) + ln (Lb a0.2.2.1 (tn 1) (tn ((ln a0.2.2.1 : Nat) : Int)))) Xa)
 (ob (Po (a0.1, a0.2.1, (ap [] (Lb a0.2.2.1 (tn 1) (tn ((ln a0.2.2.1 : Nat) : Int)))), a0.2.2.2.1, (max a0.2.2.2.2.1 x1.1), a0.2.2.2.2.2) x1.2.1 (max a0.2.2.2.2.1 x1.1)) fun r2 =>
 (some (r2.1, (r2.2.1, true, ()))))
 none)
 none)
 (ob (Dy a0.1 a0.2.1 a0.2.2.1 a0.2.2.2.1) fun r3 =>
 (cond (r3.1 == 0)
 (some (a0, ([], false, ())))
 (cond (We (ln a0.2.2.1) r3.1 ((ln a0.2.2.1 : Nat) : Int))
 (cond (bl (ln ([] : List Ca) + ln (Lb a0.2.2.1 (tn r3.1) (tn ((ln a0.2.2.1 : Nat) : Int)))) Xa)
 (cond (decide (r3.2.2.1 < 0))
 (cond (decide (0 ≤ x1.2.1))
 (some ((a0.1, a0.2.1, (ap [] (Lb a0.2.2.1 (tn r3.1) (tn ((ln a0.2.2.1 : Nat) : Int)))), a0.2.2.2.1, (max (max a0.2.2.2.2.1 x1.1) r3.2.1), (Lc .i64 a0.2.2.2.2.2.1 (Ma .i64 1 x1.2.1)), a0.2.2.2.2.2.2), (([((max (max a0.2.2.2.2.1 x1.1) r3.2.1), x1.2.1, true, ())] : List Ca), true, ())))
 none)
 (ob (Sz a0.1 r3.2.2.1) fun r4 =>
 (cond (bl (ln a0.2.2.2.2.2.2.1 + ln ([(r3.2.2.1, r4.1.1, true, ())] : List Ca)) Xa)
 (some ((a0.1, a0.2.1, (ap [] (Lb a0.2.2.1 (tn r3.1) (tn ((ln a0.2.2.1 : Nat) : Int)))), a0.2.2.2.1, (max (max a0.2.2.2.2.1 x1.1) r3.2.1), a0.2.2.2.2.2.1, (ap a0.2.2.2.2.2.2.1 ([(r3.2.2.1, r4.1.1, true, ())] : List Ca)), ()), (([((max (max a0.2.2.2.2.1 x1.1) r3.2.1), r3.2.2.1, true, ())] : List Ca), true, ())))
 none)))
 none)
 none)))))
 none)
def Qg (t6 : Unit) (t9 : Unit) (t12 : Eh) (b6 : Ea) (b9 : Ea) : Option (Eaj ⊕ (Eaj ⊕ Gg)) :=
 (cond (decide (((ln b9.2.2.1 : Nat) : Int) > 0))
 (ob (Ei b9) fun r19 =>
 (cond (!r19.2.2.1)
 (some (.inr (.inl (((), (), t12, ()), (b6, r19.1, ())))))
 (cond (bl (ln t12 + ln r19.2.1) Xa)
 (some (.inl (((), (), (ap t12 r19.2.1), ()), (b6, r19.1, ()))))
 none)))
 (some (.inr (.inl (((), (), t12, ()), (b6, b9, ()))))))
def Wf := Ib fun x : Eaj => Qg x.1.1 x.1.2.1 x.1.2.2.1 x.2.1 x.2.2.1
def Lq (a0 : Ea) (a1 : Eh) (a2 : Int) : Option (Ea × Qax) :=
 (ob (Nq a0) fun r1 =>
 (cond (!r1.1)
 (some (Ij, [], false, ()))
 (cond (decide (a2 < a0.2.2.2.1))
 (some (Ij, [], false, ()))
 (cond (decide (a2 > 1000000))
 (some (Ij, [], false, ()))
 (cond (decide (((ln a1 : Nat) : Int) > 0))
 (ob (Wb a1 0) fun x2 =>
 (cond (decide (x2.1 < a0.2.2.2.1))
 (some (Ij, [], false, ()))
 (ob (Wi a1 a2) fun r3 =>
 (cond (!r3.1)
 (some (Ij, [], false, ()))
 (ob (Nk a0) fun r4 =>
 (cond (bl (ln r4.1.2.2.1 + ln a1) Xa)
 (ob (Aj a0) fun r5 =>
 (ob (Yi (ap r4.1.2.2.1 a1) r5.1 24) fun r6 =>
 (cond (!r6.1)
 (some (Ij, [], false, ()))
 (ob (Wf (((), (), [], ()), (Ij, (r4.1.1, r4.1.2.1, (ap r4.1.2.2.1 a1), a2, r4.1.2.2.2.2), ()))) (se (fun y11 => (some (y11.2.2.1, y11.1.2.2.1, true, ()))) (fun z12 => none))))))
 none))))))
 (ob (Wi a1 a2) fun r13 =>
 (cond (!r13.1)
 (some (Ij, [], false, ()))
 (ob (Nk a0) fun r14 =>
 (cond (bl (ln r14.1.2.2.1 + ln a1) Xa)
 (ob (Aj a0) fun r15 =>
 (ob (Yi (ap r14.1.2.2.1 a1) r15.1 24) fun r16 =>
 (cond (!r16.1)
 (some (Ij, [], false, ()))
 (ob (Wf (((), (), [], ()), (Ij, (r14.1.1, r14.1.2.1, (ap r14.1.2.2.1 a1), a2, r14.1.2.2.2.2), ()))) (se (fun y20 => (some (y20.2.2.1, y20.1.2.2.1, true, ()))) (fun z21 => none))))))
 none)))))))))
def Ui (a0 : Vb) (a1 : Int) : Option (Vb × HQ) :=
 (ob (Kt a0) fun r1 =>
 (cond (!r1.1)
 (some (Rm, [], false, ()))
 (ob (Zn a0.1 a1) fun r2 =>
 (cond (!r2.1)
 (some (Rm, [], false, ()))
 (cond (decide (a0.2.2.2.2.2.1 ≥ 1000000))
 (some (Rm, [], false, ()))
 (ob (Xz a0.1 a1) fun r3 =>
 (ob (Jq a0.1 a0.2.2.2.2.1 r3.1) fun r4 =>
 (ob (Dn a0.2.1 r4.1) fun r5 =>
 (cond (!r4.2.1)
 (some (Rm, [], false, ()))
 (cond (!r5.2.1)
 (some (Rm, [], false, ()))
 (ob (Rq a0.2.1.2.2.2.1 r5.1.2.2.2.1 a0.2.2.2.2.2.1) fun r6 =>
 (ob (Lq a0.2.2.1 r6.1 a0.2.2.2.2.2.1) fun r7 =>
 (cond (!r7.2.2.1)
 (some (Rm, [], false, ()))
 (ob (Gy a0.2.2.2.1 r7.2.1 a0.2.2.2.2.2.1) fun r8 =>
 (cond (!r8.2.2.1)
 (some (Rm, [], false, ()))
 (some ((a0.1, r5.1, r7.1, r8.1, r4.1, (wr .i64 (a0.2.2.2.2.2.1 + 1)), a0.2.2.2.2.2.2), r8.2.1, true, ())))))))))))))))))
def Cs (t4 : Unit) (t7 : Unit) (t8 : Em) (t25 : Vc) (t26 : Int) (t27 : Int) (b4 : Vb) (b7 : Vb) : Option (((Unit × (Unit × (Em × FQ))) × W8) ⊕ (((Unit × Zai) × W8) ⊕ ((Unit × HQ) × ZA))) :=
 (cond (decide (t27 < t26))
 (ob (Wb t25 t27) fun x9 =>
 (ob (Ui b7 x9) fun r10 =>
 (cond (!r10.2.2.1)
 (some (.inr (.inr (((), [], false, ()), (Rm, ())))))
 (cond (bl (ln t8 + ln r10.2.1) Xa)
 (some (.inl (((), (), (ap t8 r10.2.1), t25, t26, (wr .i64 (t27 + 1)), ()), (b4, r10.1, ()))))
 none))))
 (some (.inr (.inl (((), (), t8, ()), (b4, b7, ()))))))
def Su := Ib fun x : ((Unit × (Unit × (Em × FQ))) × W8) => Cs x.1.1 x.1.2.1 x.1.2.2.1 x.1.2.2.2.1 x.1.2.2.2.2.1 x.1.2.2.2.2.2.1 x.2.1 x.2.2.1
def Fw (a0 : Vb) (a1 : Vc) : Option (Vb × HQ) :=
 (ob (Kt a0) fun r1 =>
 (cond (!r1.1)
 (some (Rm, [], false, ()))
 (cond (decide (((ln a1 : Nat) : Int) > 200))
 (some (Rm, [], false, ()))
 (ob (Qt a0) fun r2 =>
 (ob (Su (((), (), [], a1, ((ln a1 : Nat) : Int), 0, ()), (Rm, r2.1, ()))) (se (fun y11 => (some (y11.2.2.1, y11.1.2.2.1, true, ()))) (fun z12 => (some (z12.2.1, z12.1.2.1, z12.1.2.2.1, ())))))))))
def Rs (t0 : Em) (t1 : Em) (t12 : Int) (t13 : Int) : Option (((Em × Aaj) × Unit) ⊕ AB) :=
 (cond (decide (t13 < t12))
 (ob (Wb t0 t13) fun x11 =>
 (ob (Wb t1 t13) fun x12 =>
 (cond (x11.1 != x12.1)
 (some (.inr (.inr ((false, ()), ()))))
 (ob (Wb t0 t13) fun x13 =>
 (ob (Wb t1 t13) fun x14 =>
 (ob (Cj x13.2.1 x14.2.1) fun r15 =>
 (cond (!r15.1)
 (some (.inr (.inr ((false, ()), ()))))
 (some (.inl ((t0, t1, t12, (wr .i64 (t13 + 1)), ()), ()))))))))))
 (some (.inr (.inl ((), ())))))
def Bv := Ib fun x : ((Em × Aaj) × Unit) => Rs x.1.1 x.1.2.1 x.1.2.2.1 x.1.2.2.2.1
def Mw (a0 : Em) (a1 : Em) : Option Kd :=
 (cond (((ln a0 : Nat) : Int) != ((ln a1 : Nat) : Int))
 (some (false, ()))
 (ob (Bv ((a0, a1, ((ln a0 : Nat) : Int), 0, ()), ())) (se (fun y16 => (some (true, ()))) (fun z17 => (some (z17.1.1, ()))))))
def Ws (t0 : Jh) (t1 : Jh) (t5 : Int) : Option (((Jh × (Jh × Eg)) × Unit) ⊕ AB) :=
 (cond (decide (t5 < ((ln t0 : Nat) : Int)))
 (ob (Wb t0 t5) fun x5 =>
 (ob (Wb t1 t5) fun x6 =>
 (cond (!(Ml Xn x5 x6))
 (some (.inr (.inr ((false, ()), ()))))
 (some (.inl ((t0, t1, (wr .i64 (t5 + 1)), ()), ()))))))
 (some (.inr (.inl ((), ())))))
def Iv := Ib fun x : ((Jh × (Jh × Eg)) × Unit) => Ws x.1.1 x.1.2.1 x.1.2.2.1
def ND (a0 : Jh) (a1 : Jh) : Option Kd :=
 (cond (((ln a0 : Nat) : Int) != ((ln a1 : Nat) : Int))
 (some (false, ()))
 (ob (Iv ((a0, a1, 0, ()), ())) (se (fun y7 => (some (true, ()))) (fun z8 => (some (z8.1.1, ()))))))
def Qy (a0 : Jb) (a1 : Jb) : Option Kd :=
 (ob (UF a0.1 a1.1) fun r1 =>
 (cond r1.1
 (cond (((ln a0.2.1 : Nat) : Int) == ((ln a1.2.1 : Nat) : Int))
 (cond (a0.2.2.1 == a1.2.2.1)
 (cond (a0.2.2.2.2.1 == a1.2.2.2.2.1)
 (cond (a0.2.2.2.2.2.1 == a1.2.2.2.2.2.1)
 (ob (ND a0.2.2.2.1 a1.2.2.2.1) fun r2 =>
 (some (r2.1, ())))
 (some (false, ())))
 (some (false, ())))
 (some (false, ())))
 (some (false, ())))
 (some (false, ()))))
def Ip (t0 : Eh) (t1 : Eh) (t5 : Int) : Option (((Eh × PK) × Unit) ⊕ AB) :=
 (cond (decide (t5 < ((ln t0 : Nat) : Int)))
 (ob (Wb t0 t5) fun x5 =>
 (ob (Wb t1 t5) fun x6 =>
 (cond (!(Ml Bc x5 x6))
 (some (.inr (.inr ((false, ()), ()))))
 (some (.inl ((t0, t1, (wr .i64 (t5 + 1)), ()), ()))))))
 (some (.inr (.inl ((), ())))))
def Nr := Ib fun x : ((Eh × PK) × Unit) => Ip x.1.1 x.1.2.1 x.1.2.2.1
def Ry (a0 : Eh) (a1 : Eh) : Option Kd :=
 (cond (((ln a0 : Nat) : Int) != ((ln a1 : Nat) : Int))
 (some (false, ()))
 (ob (Nr ((a0, a1, 0, ()), ())) (se (fun y7 => (some (true, ()))) (fun z8 => (some (z8.1.1, ()))))))
def Wo (a0 : Eb) (a1 : Eb) : Option Kd :=
 (ob (Qy a0.1 a1.1) fun r1 =>
 (cond r1.1
 (cond (Ml Ad a0.2.1 a1.2.1)
 (ob (Ry a0.2.2.1 a1.2.2.1) fun r2 =>
 (cond r2.1
 (cond (a0.2.2.2.1 == a1.2.2.2.1)
 (cond (a0.2.2.2.2.1 == a1.2.2.2.2.1)
 (cond (a0.2.2.2.2.2.1 == a1.2.2.2.2.2.1)
 (some ((a0.2.2.2.2.2.2.1 == a1.2.2.2.2.2.2.1), ()))
 (some (false, ())))
 (some (false, ())))
 (some (false, ())))
 (some (false, ()))))
 (some (false, ())))
 (some (false, ()))))
def Pw (a0 : Ob) : Option Eg :=
 (cond ((2 : Int) == 0)
 none
 (cond ((yn a0.1.1.1 2) != 0)
 (some (0, ()))
 (ob (Zm a0.1.1) fun r1 =>
 (cond ((2 : Int) == 0)
 none
 (some ((wr .i64 (Int.tdiv r1.1 2)), ()))))))
def Xp (a0 : Ob) : Option Eg :=
 (cond ((2 : Int) == 0)
 none
 (cond ((yn a0.1.1.1 2) != 0)
 (some (0, ()))
 (ob (Lj a0.1.1) fun r1 =>
 (cond ((2 : Int) == 0)
 none
 (some ((wr .i64 (Int.tdiv r1.1 2)), ()))))))
def Wy (a0 : Sc) : Option Kd :=
 (cond (decide (((ln a0.1 : Nat) : Int) < 6))
 (ob (Ec a0.2.1 (-1) 255) fun r1 =>
 (cond r1.1
 (ob (Ec a0.2.2.1 0 16777215) fun r2 =>
 (cond r2.1
 (ob (Ec a0.2.2.2.1 0 20) fun r3 =>
 (some (r3.1, ())))
 (some (false, ()))))
 (some (false, ()))))
 (some (false, ())))
def Rw (a0 : Ob) : Option Kd :=
 (ob (JA a0.1) fun r1 =>
 (cond r1.1
 (ob (Pw a0) fun r2 =>
 (cond (decide (r2.1 > 0))
 (ob (Wy a0.2.1) fun r3 =>
 (cond r3.1
 (ob (Ec a0.2.2.1 0 255) fun r4 =>
 (some (r4.1, ())))
 (some (false, ()))))
 (some (false, ()))))
 (some (false, ()))))
def Ik (a0 : Sc) : Option Kd :=
 (cond (decide (((ln a0.1 : Nat) : Int) < 6))
 (cond (decide (a0.2.1 ≥ (-1)))
 (cond (decide (a0.2.1 ≤ 255))
 (cond (decide (a0.2.2.1 ≥ 0))
 (cond (decide (a0.2.2.1 ≤ 16777215))
 (cond (decide (a0.2.2.2.1 ≥ 0))
 (some ((decide (a0.2.2.2.1 ≤ 20)), ()))
 (some (false, ())))
 (some (false, ())))
 (some (false, ())))
 (some (false, ())))
 (some (false, ())))
 (some (false, ())))
def Iw (a0 : Ob) : Option Kd :=
 (ob (Kt a0.1) fun r1 =>
 (cond r1.1
 (ob (Ik a0.2.1) fun r2 =>
 (cond r2.1
 (ob (Xp a0) fun r3 =>
 (cond (r3.1 != 0)
 (cond (decide (a0.2.2.1 ≥ 0))
 (some ((decide (a0.2.2.1 ≤ 255)), ()))
 (some (false, ())))
 (some (false, ()))))
 (some (false, ()))))
 (some (false, ()))))
def NE : Option Yai :=
 (some (([], (-1), 0, 0, ()), ()))
def DM (a0 : Ob) : Option UJ :=
 (ob (PA a0.1) fun r1 =>
 (cond (bl (ln ([] : List Int) + ln a0.2.1.1) Xa)
 (some ((r1.1, ((ap [] a0.2.1.1), a0.2.1.2), a0.2.2), ()))
 none))
def Io (a0 : Vb) : Option (Ob × Kd) :=
 (ob NE fun r1 =>
 (ob (Rw (a0, r1.1, 0, ())) fun r2 =>
 (cond (!r2.1)
 (some (Gi, false, ()))
 (ob (DM (a0, r1.1, 0, ())) fun r3 =>
 (some (r3.1, true, ()))))))
def DI (a0 : Ab) : Option (Ab × UJ) :=
 (ob (Hb a0 3) fun r1 =>
 (ob (Yh r1.1 2) fun r2 =>
 (ob (Zm (2, (wr .i64 (1 + r1.2.1)), r2.2.1, ())) fun r3 =>
 (ob (Hb r2.1 3) fun r4 =>
 (ob (Hb r4.1 2) fun r5 =>
 (ob (Bt r4.2.1 (wr .i64 (1 + r5.2.1)) r3.1) fun r6 =>
 (ob (Yh r5.1 3) fun r7 =>
 (cond r7.2.1
 (cond ((2 : Int) == 0)
 none
 (cond (decide (0 ≤ (wr .i64 (Int.tdiv r3.1 2))))
 (cond (bl (ln ([] : List Na) + ln ([((Lc .i64 1 (Ma .i64 1 (wr .i64 (Int.tdiv r3.1 2)))), 24, ())] : List Na)) Xa)
 (ob (Hb r7.1 3) fun r8 =>
 (ob (Zo (ap [] ([((Lc .i64 1 (Ma .i64 1 (wr .i64 (Int.tdiv r3.1 2)))), 24, ())] : List Na)) (wr .i64 (1 + r8.2.1))) fun r9 =>
 (ob (Ax r8.1 25) fun r10 =>
 (ob (Cq (2, (wr .i64 (1 + r1.2.1)), r2.2.1, ()) r6.1 r9.1 r10.2.1) fun r11 =>
 (ob (Io r11.1) fun r12 =>
 (some (r10.1, (r12.1, ()))))))))
 none)
 none))
 (ob (Hb r7.1 3) fun r13 =>
 (ob (Zo [] (wr .i64 (1 + r13.2.1))) fun r14 =>
 (ob (Ax r13.1 r3.1) fun r15 =>
 (ob (Cq (2, (wr .i64 (1 + r1.2.1)), r2.2.1, ()) r6.1 r14.1 r15.2.1) fun r16 =>
 (ob (Io r16.1) fun r17 =>
 (some (r15.1, (r17.1, ()))))))))))))))))
def Mp (t2 : Unit) (t6 : Unit) (t8 : Vc) (t9 : Vc) (t10 : Vc) (t11 : Int) (b2 : Ob) (b6 : Ob) : Option (((Unit × (Unit × (Vc × (Vc × ZZ)))) × J0) ⊕ (((Unit × (Unit × (Vc × BF))) × J0) ⊕ Gg)) :=
 (cond (decide (t11 < ((ln t8 : Nat) : Int)))
 (cond (decide (t11 < ((ln t10 : Nat) : Int)))
 (cond (Ci (ln t10) t11)
 (ob t10[(tn t11)]? fun x8 =>
 (cond (bl (ln t9 + ln ([x8] : List Int)) Xa)
 (some (.inl (((), (), t8, (ap t9 ([x8] : List Int)), t10, (wr .i64 (t11 + 1)), ()), (b2, b6, ()))))
 none))
 none)
 (cond (bl (ln t9 + ln ([0] : List Int)) Xa)
 (some (.inl (((), (), t8, (ap t9 ([0] : List Int)), t10, (wr .i64 (t11 + 1)), ()), (b2, b6, ()))))
 none))
 (some (.inr (.inl (((), (), t8, t9, ()), (b2, b6, ()))))))
def Rr := Ib fun x : ((Unit × (Unit × (Vc × (Vc × ZZ)))) × J0) => Mp x.1.1 x.1.2.1 x.1.2.2.1 x.1.2.2.2.1 x.1.2.2.2.2.1 x.1.2.2.2.2.2.1 x.2.1 x.2.2.1
def Xy (a0 : Vc) : Option (Ob × (Vc × BF)) :=
 (ob (EI a0 17) fun r1 =>
 (ob (DI r1) fun r2 =>
 (ob (Pw r2.2.1) fun r3 =>
 (ob (Ll r2.1 r3.1 24) fun r4 =>
 (ob (Ll r4.1 r3.1 24) fun r5 =>
 (ob (Rr (((), (), r4.2.1, [], r5.2.1, 0, ()), (Gi, r2.2.1, ()))) (se (fun y9 => (some (y9.2.2.1, y9.1.2.2.1, y9.1.2.2.2.1, ()))) (fun z10 => none))))))))
def Es (t3 : Int) (t6 : Vc) (t7 : Int) (t8 : Int) (t16 : Int) : Option (((Int × Sc) × Unit) ⊕ (((Int × Ab) × Unit) ⊕ Gg)) :=
 (cond (decide (t16 < 8))
 (cond (decide ((wr .i64 (t3 * 2)) > 255))
 (some (.inl (((Yb .i64 (wr .i64 (t3 * 2)) 263), t6, t7, t8, (wr .i64 (t16 + 1)), ()), ())))
 (some (.inl (((wr .i64 (t3 * 2)), t6, t7, t8, (wr .i64 (t16 + 1)), ()), ()))))
 (some (.inr (.inl ((t3, t6, t7, t8, ()), ())))))
def Gn := Ib fun x : ((Int × Sc) × Unit) => Es x.1.1 x.1.2.1 x.1.2.2.1 x.1.2.2.2.1 x.1.2.2.2.2.1
def Ds (t3 : Int) (t6 : Vc) (t7 : Int) (t8 : Int) : Option (((Int × Ab) × Unit) ⊕ CF) :=
 (cond (decide (t8 < t7))
 (ob (Wb t6 t8) fun x7 =>
 (ob (Gn (((Yb .i64 t3 (wr .i64 x7)), t6, t7, t8, 0, ()), ())) (se (fun y8 => (some (.inl ((y8.1.1, y8.1.2.1, y8.1.2.2.1, (wr .i64 (y8.1.2.2.2.1 + 1)), ()), ())))) (fun z9 => (some (.inr (.inr ((), ()))))))))
 (some (.inr (.inl ((t3, ()), ())))))
def Tu := Ib fun x : ((Int × Ab) × Unit) => Ds x.1.1 x.1.2.1 x.1.2.2.1 x.1.2.2.2.1
def HD (a0 : Vc) : Option Eg :=
 (ob (Tu ((0, a0, ((ln a0 : Nat) : Int), 0, ()), ())) (se (fun y10 => (some (y10.1.1, ()))) (fun z11 => none)))
def Ot (a0 : Int) (a1 : Int) : Option BF :=
 (cond (decide (a0 < 0))
 (some ([], ()))
 (cond (decide (a0 > 255))
 (some ([], ()))
 (cond (decide (a1 < 0))
 (some ([], ()))
 (cond (decide (a1 > 16777215))
 (some ([], ()))
 (cond (decide ((0 : Int) ≤ 8))
 (cond (decide ((0 : Int) ≤ 16))
 (ob (HD ([85, (wr .u8 a0), (wr .u8 a1), (wr .u8 (Ac .i64 a1 8)), (wr .u8 (Ac .i64 a1 16))] : List Int)) fun r1 =>
 (cond (bl (ln ([85, (wr .u8 a0), (wr .u8 a1), (wr .u8 (Ac .i64 a1 8)), (wr .u8 (Ac .i64 a1 16))] : List Int) + ln ([(wr .u8 r1.1)] : List Int)) Xa)
 (some ((ap ([85, (wr .u8 a0), (wr .u8 a1), (wr .u8 (Ac .i64 a1 8)), (wr .u8 (Ac .i64 a1 16))] : List Int) ([(wr .u8 r1.1)] : List Int)), ()))
 none))
 none)
 none)))))
def Ii (t1 : Vc) (t5 : Vc) (t15 : Vc) (t16 : Int) (t17 : Int) : Option (((Vc × XZ) × Unit) ⊕ Nax) :=
 (cond (decide (t17 < t16))
 (ob (Wb t15 t17) fun x7 =>
 (ob (Wb t1 t17) fun x8 =>
 (cond (bl (ln t5 + ln ([(Yb .u8 x7 x8)] : List Int)) Xa)
 (some (.inl ((t1, (ap t5 ([(Yb .u8 x7 x8)] : List Int)), t15, t16, (wr .i64 (t17 + 1)), ()), ())))
 none)))
 (some (.inr (.inl ((t5, ()), ())))))
def Kx := Ib fun x : ((Vc × XZ) × Unit) => Ii x.1.1 x.1.2.1 x.1.2.2.1 x.1.2.2.2.1 x.1.2.2.2.2.1
def RF (a0 : Vc) (a1 : Vc) : Option BF :=
 (cond (((ln a1 : Nat) : Int) == 0)
 (some (a0, ()))
 (cond (((ln a1 : Nat) : Int) == 6)
 (ob (Kx ((a1, [], a0, ((ln a0 : Nat) : Int), 0, ()), ())) (se (fun y9 => (some (y9.1.1, ()))) (fun z10 => none)))
 (some ([], ()))))
def GB (a0 : Vc) : Option Ca :=
 (cond (((ln a0 : Nat) : Int) != 6)
 (some (0, 0, false, ()))
 (ob (Wb a0 1) fun x1 =>
 (ob (Wb a0 2) fun x2 =>
 (ob (Wb a0 3) fun x3 =>
 (cond (decide ((0 : Int) ≤ 8))
 (ob (Wb a0 4) fun x4 =>
 (cond (decide ((0 : Int) ≤ 16))
 (ob (Ot (wr .i64 x1) (Lc .i64 (Lc .i64 (wr .i64 x2) (Ma .i64 (wr .i64 x3) 8)) (Ma .i64 (wr .i64 x4) 16))) fun r5 =>
 (cond ((Pm r5.1) != (Pm a0))
 (some (0, 0, false, ()))
 (some ((wr .i64 x1), (Lc .i64 (Lc .i64 (wr .i64 x2) (Ma .i64 (wr .i64 x3) 8)) (Ma .i64 (wr .i64 x4) 16)), true, ()))))
 none))
 none)))))
def Yu (a0 : Sc) (a1 : Int) : Option (Sc × Eg) :=
 (ob (Ik a0) fun r1 =>
 (cond (!r1.1)
 (some (([], 0, 0, 0, ()), 0, ()))
 (cond (bl (ln ([] : List Int) + ln a0.1) Xa)
 (cond (bl (ln (ap [] a0.1) + ln ([a1] : List Int)) Xa)
 (cond (decide (((ln (ap (ap [] a0.1) ([a1] : List Int)) : Nat) : Int) < 6))
 (some (((ap (ap [] a0.1) ([a1] : List Int)), a0.2), 1, ()))
 (ob (GB (ap (ap [] a0.1) ([a1] : List Int))) fun r2 =>
 (cond (!r2.2.2.1)
 (cond (We (ln (ap (ap [] a0.1) ([a1] : List Int))) 1 ((ln (ap (ap [] a0.1) ([a1] : List Int)) : Nat) : Int))
 (some (((Lb (ap (ap [] a0.1) ([a1] : List Int)) (tn 1) (tn ((ln (ap (ap [] a0.1) ([a1] : List Int)) : Nat) : Int))), a0.2), 1, ()))
 none)
 (cond (r2.1 == a0.2.1)
 (some (([], a0.2.1, a0.2.2.1, 0, a0.2.2.2.2), 3, ()))
 (some (([], r2.1, r2.2.1, 0, a0.2.2.2.2), 2, ()))))))
 none)
 none)))
def Dp (t2 : Unit) (t4 : Unit) (t6 : Vc) (t19 : Vc) (t20 : Int) (t21 : Int) (b2 : Sc) (b4 : Sc) : Option (((Unit × (Unit × XZ)) × Caj) ⊕ (((Unit × L0) × Caj) ⊕ Gg)) :=
 (cond (decide (t21 < t20))
 (ob (Wb t19 t21) fun x8 =>
 (ob (Yu b2 x8) fun r9 =>
 (cond (r9.2.1 == 2)
 (cond (bl (ln t6 + ln ([r9.1.2.2.1] : List Int)) Xa)
 (some (.inl (((), (), (ap t6 ([r9.1.2.2.1] : List Int)), t19, t20, (wr .i64 (t21 + 1)), ()), (r9.1, b4, ()))))
 none)
 (some (.inl (((), (), t6, t19, t20, (wr .i64 (t21 + 1)), ()), (r9.1, b4, ())))))))
 (some (.inr (.inl (((), (), t6, ()), (b2, b4, ()))))))
def Gr := Ib fun x : ((Unit × (Unit × XZ)) × Caj) => Dp x.1.1 x.1.2.1 x.1.2.2.1 x.1.2.2.2.1 x.1.2.2.2.2.1 x.1.2.2.2.2.2.1 x.2.1 x.2.2.1
def Hy (a0 : Sc) (a1 : Vc) : Option (Sc × BF) :=
 (ob (Ik a0) fun r1 =>
 (cond (!r1.1)
 (some (([], 0, 0, 0, ()), [], ()))
 (cond (bl (ln ([] : List Int) + ln a0.1) Xa)
 (ob (Gr (((), (), [], a1, ((ln a1 : Nat) : Int), 0, ()), (((ap [] a0.1), a0.2), ([], 0, 0, 0, ()), ()))) (se (fun y10 => (some (y10.2.1, y10.1.2.2.1, ()))) (fun z11 => none)))
 none)))
def Iy (a0 : Sc) : Option Yai :=
 (ob (Ik a0) fun r1 =>
 (cond (!r1.1)
 (some (([], 0, 0, 0, ()), ()))
 (cond (bl (ln ([] : List Int) + ln a0.1) Xa)
 (cond ((min (wr .i64 (a0.2.2.2.1 + 1)) 20) == 20)
 (some (((ap [] a0.1), (-1), 0, (min (wr .i64 (a0.2.2.2.1 + 1)) 20), a0.2.2.2.2), ()))
 (some (((ap [] a0.1), a0.2.1, a0.2.2.1, (min (wr .i64 (a0.2.2.2.1 + 1)) 20), a0.2.2.2.2), ())))
 none)))
def Hk (a0 : Ob) (a1 : Int) (a2 : Int) (a3 : Vc) : Option (Ob × HQ) :=
 (ob (Iw a0) fun r1 =>
 (cond (!r1.1)
 (some (Gi, [], false, ()))
 (ob (Xp a0) fun r2 =>
 (cond (decide (a1 < 0))
 (some (Gi, [], false, ()))
 (cond (decide (0 ≤ r2.1))
 (cond (decide (a1 ≥ (Ma .i64 1 r2.1)))
 (some (Gi, [], false, ()))
 (cond (decide (a2 < 0))
 (some (Gi, [], false, ()))
 (cond (decide (0 ≤ r2.1))
 (cond (decide (a2 ≥ (Ma .i64 1 r2.1)))
 (some (Gi, [], false, ()))
 (ob (Ot a0.2.2.1 a2) fun r3 =>
 (ob (RF r3.1 a3) fun r4 =>
 (ob (Hy a0.2.1 r4.1) fun r5 =>
 (cond (((ln r5.2.1 : Nat) : Int) == 0)
 (ob (Iy r5.1) fun r6 =>
 (cond (decide (0 ≤ r2.1))
 (cond (decide (0 ≤ r2.1))
 (ob (Ui a0.1 (Lc .i64 a1 (Ma .i64 (Ya .i64 r6.1.2.2.1 (wr .i64 ((Ma .i64 1 r2.1) - 1))) r2.1))) fun r7 =>
 (cond (!r7.2.2.1)
 (some (Gi, [], false, ()))
 (cond ((256 : Int) == 0)
 none
 (some ((r7.1, r6.1, (yn (wr .i64 (a0.2.2.1 + 1)) 256), ()), r7.2.1, true, ())))))
 none)
 none))
 (cond (decide (0 ≤ r2.1))
 (cond (decide (0 ≤ r2.1))
 (ob (Ui a0.1 (Lc .i64 a1 (Ma .i64 (Ya .i64 r5.1.2.2.1 (wr .i64 ((Ma .i64 1 r2.1) - 1))) r2.1))) fun r8 =>
 (cond (!r8.2.2.1)
 (some (Gi, [], false, ()))
 (cond ((256 : Int) == 0)
 none
 (some ((r8.1, r5.1, (yn (wr .i64 (a0.2.2.1 + 1)) 256), ()), r8.2.1, true, ())))))
 none)
 none))))))
 none)))
 none)))))
def Mq (t1 : Vc) (t2 : Vc) (t3 : MV) (t8 : Unit) (t11 : Unit) (t12 : Em) (t49 : Int) (t50 : Int) (b8 : Ob) (b11 : Ob) : Option (Wal ⊕ (((Unit × Zai) × J0) ⊕ ((Unit × HQ) × UJ))) :=
 (cond (decide (t50 < t49))
 (cond (decide (t50 < ((ln t3 : Nat) : Int)))
 (ob (Wb t3 t50) fun x24 =>
 (ob (Wb t1 t50) fun x25 =>
 (ob (Wb t2 t50) fun x26 =>
 (ob (Hk b11 x25 x26 x24) fun r27 =>
 (cond (!r27.2.2.1)
 (some (.inr (.inr (((), [], false, ()), (Gi, ())))))
 (cond (bl (ln t12 + ln r27.2.1) Xa)
 (some (.inl ((t1, t2, t3, (), (), (ap t12 r27.2.1), t49, (wr .i64 (t50 + 1)), ()), (b8, r27.1, ()))))
 none))))))
 (ob (Wb t1 t50) fun x28 =>
 (ob (Wb t2 t50) fun x29 =>
 (ob (Hk b11 x28 x29 []) fun r30 =>
 (cond (!r30.2.2.1)
 (some (.inr (.inr (((), [], false, ()), (Gi, ())))))
 (cond (bl (ln t12 + ln r30.2.1) Xa)
 (some (.inl ((t1, t2, t3, (), (), (ap t12 r30.2.1), t49, (wr .i64 (t50 + 1)), ()), (b8, r30.1, ()))))
 none))))))
 (some (.inr (.inl (((), (), t12, ()), (b8, b11, ()))))))
def Jt := Ib fun x : Wal => Mq x.1.1 x.1.2.1 x.1.2.2.1 x.1.2.2.2.1 x.1.2.2.2.2.1 x.1.2.2.2.2.2.1 x.1.2.2.2.2.2.2.1 x.1.2.2.2.2.2.2.2.1 x.2.1 x.2.2.1
def Hl (a0 : Ob) (a1 : Vc) (a2 : Vc) (a3 : MV) : Option (Ob × HQ) :=
 (ob (Iw a0) fun r1 =>
 (cond (!r1.1)
 (some (Gi, [], false, ()))
 (cond (((ln a1 : Nat) : Int) != ((ln a2 : Nat) : Int))
 (some (Gi, [], false, ()))
 (cond (decide (((ln a1 : Nat) : Int) > 200))
 (some (Gi, [], false, ()))
 (ob (Qt a0.1) fun r2 =>
 (cond (bl (ln ([] : List Int) + ln a0.2.1.1) Xa)
 (ob (Jt ((a1, a2, a3, (), (), [], ((ln a1 : Nat) : Int), 0, ()), (Gi, (r2.1, ((ap [] a0.2.1.1), a0.2.1.2), a0.2.2.1, ()), ()))) (se (fun y31 => (some (y31.2.2.1, y31.1.2.2.1, true, ()))) (fun z32 => (some (z32.2.1, z32.1.2.1, z32.1.2.2.1, ())))))
 none))))))
def EC (t3 : Unit) (t4 : Vc) (t5 : Vc) (t6 : Int) (t7 : Vc) (t8 : Int) (b3 : Ob) : Option (((Unit × (Vc × (Vc × (Int × ZZ)))) × UJ) ⊕ (((Unit × (Vc × (Vc × Ra))) × UJ) ⊕ Gg)) :=
 (cond (decide (t8 < ((ln t4 : Nat) : Int)))
 (cond (Ci (ln t4) t8)
 (ob t4[(tn t8)]? fun x8 =>
 (cond (Ci (ln t5) t8)
 (ob t5[(tn t8)]? fun x9 =>
 (cond (decide (0 ≤ t6))
 (cond (bl (ln t7 + ln ([(Lc .i64 x8 (Ma .i64 x9 t6))] : List Int)) Xa)
 (some (.inl (((), t4, t5, t6, (ap t7 ([(Lc .i64 x8 (Ma .i64 x9 t6))] : List Int)), (wr .i64 (t8 + 1)), ()), (b3, ()))))
 none)
 none))
 none))
 none)
 (some (.inr (.inl (((), t4, t5, t6, t7, ()), (b3, ()))))))
def Rn := Ib fun x : ((Unit × (Vc × (Vc × (Int × ZZ)))) × UJ) => EC x.1.1 x.1.2.1 x.1.2.2.1 x.1.2.2.2.1 x.1.2.2.2.2.1 x.1.2.2.2.2.2.1 x.2.1
def BA (t6 : Int) (t9 : Unit) (t15 : Vc) (t16 : Vc) (t17 : MV) (t18 : Int) (b9 : Ob) : Option (Aam ⊕ (((Unit × (Vc × (Vc × (MV × Unit)))) × UJ) ⊕ Gg)) :=
 (cond (decide (t18 < ((ln t16 : Nat) : Int)))
 (cond (decide (0 ≤ t6))
 (cond (Ci (ln t16) t18)
 (ob t16[(tn t18)]? fun x18 =>
 (cond (bl (ln t17 + ln ([([1] : List Int)] : List Vc)) Xa)
 (some (.inl ((t6, (), t15, (ls t16 (tn t18) (wr .i64 ((Ma .i64 1 t6) - 1))), (ap t17 ([([1] : List Int)] : List Vc)), (wr .i64 (t18 + 1)), ()), (b9, ()))))
 none))
 none)
 none)
 (some (.inr (.inl (((), t15, t16, t17, ()), (b9, ()))))))
def Nm := Ib fun x : Aam => BA x.1.1 x.1.2.1 x.1.2.2.1 x.1.2.2.2.1 x.1.2.2.2.2.1 x.1.2.2.2.2.2.1 x.2.1
def MD (a0 : Vc) : Option Kd :=
 (ob (BH a0) fun r1 =>
 (cond r1.1
 (some (true, ()))
 (ob (Xy a0) fun r2 =>
 (ob (Xp r2.1) fun r3 =>
 (ob (Rn (((), r2.2.1, r2.2.2.1, r3.1, [], 0, ()), (r2.1, ()))) (se (fun y10 => (ob (Hl y10.2.1 y10.1.2.1 y10.1.2.2.1 []) fun r12 =>
 (ob (Fw y10.2.1.1 y10.1.2.2.2.2.1) fun r13 =>
 (cond (!r12.2.2.1)
 (some (false, ()))
 (cond (!r13.2.2.1)
 (some (false, ()))
 (cond (decide (y10.1.2.2.2.1 < 1))
 (some (false, ()))
 (ob (Mw r12.2.1 r13.2.1) fun r14 =>
 (cond (!r14.1)
 (some (false, ()))
 (ob (Wo r12.1.1.2.2.2.1 r13.1.2.2.2.1) fun r15 =>
 (cond (!r15.1)
 (some (false, ()))
 (cond (r12.1.1.2.2.2.2.1 != r13.1.2.2.2.2.1)
 (some (false, ()))
 (cond (r12.1.1.2.1.2.2.2.1 != r13.1.2.1.2.2.2.1)
 (some (false, ()))
 (cond (((80 : Int) == 80) && (decide ((0 : Int) ≤ 80) && decide (80 ≤ ((Xa : Nat) : Int))))
 (cond (((80 : Int) == 80) && (decide ((0 : Int) ≤ 80) && decide (80 ≤ ((Xa : Nat) : Int))))
 (ob (Nm ((y10.1.2.2.2.1, (), (yp (tn 80) (0 : Int)), (yp (tn 80) (0 : Int)), [], 0, ()), (r12.1, ()))) (se (fun y19 => (ob (Hl y19.2.1 y19.1.2.1 y19.1.2.2.1 y19.1.2.2.2.1) fun r21 =>
 (cond r21.2.2.1
 (cond (r21.1.2.1.2.2.1 == 0)
 (cond (r21.1.1.2.1.2.2.2.1 == 0)
 (cond (((ln r21.1.1.2.2.2.1.1.2.2.2.1 : Nat) : Int) == 0)
 (some ((((ln r21.1.1.2.2.2.1.2.2.1 : Nat) : Int) == 0), ()))
 (some (false, ())))
 (some (false, ())))
 (some (false, ())))
 (some (false, ()))))) (fun z20 => none)))
 none)
 none))))))))))))) (fun z11 => none)))))))
end

def Xb (k c m n : Int) : Prop :=
 ((k = 0 ∨ k = 1 ∨ k = 10) ∧ c = 0 ∧ m = 0 ∧ n = 0) ∨
 (k = 2 ∧ n = 0 ∧ (c = 0 ∨ 1 ≤ c ∧ c ≤ 56) ∧ (m = 0 ∨ 1 ≤ m ∧ m ≤ 15) ∧ (c ≠ 0 ∨ m ≠ 0)) ∨
 ((k = 3 ∨ k = 4) ∧ c = 0 ∧ m = 0 ∧ 1 ≤ n ∧ n ≤ 3) ∨
 ((k = 5 ∨ k = 9) ∧ c = 0 ∧ m = 0 ∧ 0 ≤ n ∧ n ≤ 3) ∨
 (k = 6 ∧ 1 ≤ c ∧ c ≤ 56 ∧ 1 ≤ m ∧ m ≤ 15 ∧ n = 0) ∨
 (k = 7 ∧ 1 ≤ c ∧ c ≤ 56 ∧ m = 0 ∧ 1 ≤ n ∧ n ≤ 3) ∨
 (k = 8 ∧ c = 0 ∧ 1 ≤ m ∧ m ≤ 15 ∧ n = 0)
noncomputable def Zc (a : Pa) : Bool := open Classical in decide (Xb a.1 a.2.1 a.2.2.1 a.2.2.2.1)
theorem Qb (a : Pa) : Zc a = true ↔ Xb a.1 a.2.1 a.2.2.1 a.2.2.2.1 := by simp [Zc]
theorem DP (c : Int) : Ww c = some (decide (1 ≤ c ∧ c ≤ 56), ()) := by
 simp only [Ww, Oh, Ph]
 apply Tc; simp only [Dd, decide_eq_true_eq, RQ, TK, jq, and_false, false_and, or_false, false_or, and_true, true_and, not_true_eq_false, not_false_eq_true]; try omega
theorem EP (c : Int) : Kr c = some (decide (1 ≤ c ∧ c ≤ 15), ()) := by
 simp only [Kr, Oh, Ph]
 apply Tc; simp only [Dd, decide_eq_true_eq, RQ, TK, jq, and_false, false_and, or_false, false_or, and_true, true_and, not_true_eq_false, not_false_eq_true]; try omega
theorem AN (c : Int) : Rt c = some (decide (1 ≤ c ∧ c ≤ 3), ()) := by
 simp only [Rt, Oh, Ph]
 apply Tc; simp only [Dd, decide_eq_true_eq, RQ, TK, jq, and_false, false_and, or_false, false_or, and_true, true_and, not_true_eq_false, not_false_eq_true]; try omega
theorem Fe (c a b : Int) : Ec c a b = some (decide (a ≤ c ∧ c ≤ b), ()) := by
 simp only [Ec, Oh, Ph]
 apply Tc; simp only [Dd, decide_eq_true_eq, RQ, TK, jq, and_false, false_and, or_false, false_or, and_true, true_and, not_true_eq_false, not_false_eq_true]; try omega
theorem Vu (a : Pa) : Qk a = some (Zc a, ()) := by
 obtain ⟨k, c, m, n, u⟩ := a
 have key : ∀ k c m n : Int, Qk (k, c, m, n, u) = some (Zc (k, c, m, n, u), ()) := by
  intro k c m n
  simp only [Qk, DP, EP, AN, Fe, jb, Oh, Ph]
  by_cases h0 : k = 0
  ·subst h0; apply Tc; rw [Qb]; simp [Xb, Dd]; try omega
  by_cases h1 : k = 1
  ·subst h1; apply Tc; rw [Qb]; simp [Xb, Dd]; try omega
  by_cases h2 : k = 2
  ·subst h2; apply Tc; rw [Qb]; simp [Xb, Dd]; intro hn; (repeat' split) <;> omega
  by_cases h3 : k = 3
  ·subst h3; apply Tc; rw [Qb]; simp [Xb, Dd]; try omega
  by_cases h4 : k = 4
  ·subst h4; apply Tc; rw [Qb]; simp [Xb, Dd]; try omega
  by_cases h5 : k = 5
  ·subst h5; apply Tc; rw [Qb]; simp [Xb, Dd]; try omega
  by_cases h6 : k = 6
  ·subst h6; apply Tc; rw [Qb]; simp [Xb, Dd]; try omega
  by_cases h7 : k = 7
  ·subst h7; apply Tc; rw [Qb]; simp [Xb, Dd]; try omega
  by_cases h8 : k = 8
  ·subst h8; apply Tc; rw [Qb]; simp [Xb, Dd]; try omega
  by_cases h9 : k = 9
  ·subst h9; apply Tc; rw [Qb]; simp [Xb, Dd]; try omega
  by_cases h10 : k = 10
  ·subst h10; apply Tc; rw [Qb]; simp [Xb, Dd]; try omega
  have g : ∀ j : Int, (k == j) = decide (k = j) := fun j => by rw [qx]; simp
  apply Tc; rw [Qb]; simp [Xb, Dd, h0, h1, h2, h3, h4, h5, h6, h7, h8, h9, h10]
 exact key k c m n
theorem Nv (a : Pa) : Tk a = some (Zc a, ()) := by
 obtain ⟨k, c, m, n, u⟩ := a
 have key : ∀ k c m n : Int, Tk (k, c, m, n, u) = some (Zc (k, c, m, n, u), ()) := by
  intro k c m n
  simp only [Tk, DP, EP, AN, Fe, jb, Oh, Ph]
  by_cases h0 : k = 0
  ·subst h0; apply Tc; rw [Qb]; simp [Xb, Dd]; try omega
  by_cases h1 : k = 1
  ·subst h1; apply Tc; rw [Qb]; simp [Xb, Dd]; try omega
  by_cases h2 : k = 2
  ·subst h2; apply Tc; rw [Qb]; simp [Xb, Dd]; intro hn; (repeat' split) <;> omega
  by_cases h3 : k = 3
  ·subst h3; apply Tc; rw [Qb]; simp [Xb, Dd]; try omega
  by_cases h4 : k = 4
  ·subst h4; apply Tc; rw [Qb]; simp [Xb, Dd]; try omega
  by_cases h5 : k = 5
  ·subst h5; apply Tc; rw [Qb]; simp [Xb, Dd]; try omega
  by_cases h6 : k = 6
  ·subst h6; apply Tc; rw [Qb]; simp [Xb, Dd]; try omega
  by_cases h7 : k = 7
  ·subst h7; apply Tc; rw [Qb]; simp [Xb, Dd]; try omega
  by_cases h8 : k = 8
  ·subst h8; apply Tc; rw [Qb]; simp [Xb, Dd]; try omega
  by_cases h9 : k = 9
  ·subst h9; apply Tc; rw [Qb]; simp [Xb, Dd]; try omega
  by_cases h10 : k = 10
  ·subst h10; apply Tc; rw [Qb]; simp [Xb, Dd]; try omega
  have g : ∀ j : Int, (k == j) = decide (k = j) := fun j => by rw [qx]; simp
  apply Tc; rw [Qb]; simp [Xb, Dd, h0, h1, h2, h3, h4, h5, h6, h7, h8, h9, h10]
 exact key k c m n
noncomputable def Og (nl : Nat) (i : Nat) (a : Pa) : Bool := Zc a && !(((i : Int) == 0) && (a.1 == 1)) && !((a.1 != 9) && decide (a.2.2.2.1 ≥ (nl : Int)))
noncomputable def Ih (keys : Int) (nl : Nat) (i : Nat) (l : List Pa) : Bool := ((ja l : Int) == keys) && Cd (fun _ a => Og nl i a) 0 l
noncomputable def Ce (m : Db) : Bool :=
 decide (1 ≤ m.1 ∧ m.1 ≤ 32) && decide (1 ≤ m.2.1.length ∧ m.2.1.length ≤ 4) && Cd (fun i l => Ih m.1 m.2.1.length i l) 0 m.2.1
theorem PY (m : Db) (i : Nat) (l : List Pa) (L : List (List Pa)) (n : Int) (t : Int) (hl : l.length < 9223372036854775807) :
 Nn (((), (i : Int), L, n, t, l, (l.length : Int), (0 : Int), ()), (m, ())) =
  some (cond (Cd (fun _ a => Og m.2.1.length i a) 0 l) (.inl (((), L, n, t, ()), (m, ()))) (.inr ((false, ()), ()))) := by
 unfold Nn
 refine Re (step := _) l (fun _ a => Og m.2.1.length i a) (fun j => (((), (i : Int), L, n, t, l, (l.length : Int), j, ()), (m, ()))) _ _ ?_ ?_ hl
 ·intro k hk
  simp only [XB]
  rw [Aa (show (k : Int) < (l.length : Int) by omega), Ub hk]
  simp only [zz, jb, Og, Vu]
  cases Zc l[k] <;> cases ((i : Int) == 0) <;> cases (l[k].1 == 1) <;> cases (l[k].1 != 9) <;> cases decide (l[k].2.2.2.1 ≥ (m.2.1.length : Int)) <;> rfl
 ·simp [XB]
theorem GL (m : Db) (hz : Jc Oc m ≤ Ga) : Jw m = some (Ce m, ()) := by
 have h20 : Ga = 1048576 := rfl
 have hz' : m.2.1.length + (List.map (Jc (.sl Mc)) m.2.1).sum ≤ Ga := by
  have : Jc Oc m = Jc (.sl (.sl Mc)) m.2.1 := by simp only [Jc, yl, js]
  rw [this] at hz; exact hz
 have hl : ∀ k (hk : k < m.2.1.length), m.2.1[k].length ≤ Ga := by
  intro k hk
  have := FG (f := Jc (.sl Mc)) hk
  have h2 : m.2.1[k].length ≤ Jc (.sl Mc) m.2.1[k] := Nat.le_add_right _ _
  omega
 have hloop : Mn (((), m.2.1, ((ja m.2.1 : Nat) : Int), (0 : Int), ()), (m, ())) =
  some (cond (Cd (fun i l => Ih m.1 m.2.1.length i l) 0 m.2.1) (.inl ((), ())) (.inr ((false, ()), ()))) := by
  unfold Mn
  refine Re (step := _) m.2.1 (fun i l => Ih m.1 m.2.1.length i l) (fun j => (((), m.2.1, ((ja m.2.1 : Nat) : Int), j, ()), (m, ()))) _ _ ?_ ?_ (by omega)
  ·intro k hk
   have := hl k hk
   simp only [WB]
   rw [Aa (show (k : Int) < (m.2.1.length : Int) by omega), Ub hk]
   simp only [zz, jb, Ih]
   rw [PY m k _ _ _ _ (by omega)]
   show (cond (!((m.2.1[k].length : Int) == m.1)) _ _) = _
   cases ((m.2.1[k].length : Int) == m.1) <;> cases Cd (fun _ a => Og m.2.1.length k a) 0 m.2.1[k] <;> rfl
  ·simp [WB]
 unfold Jw
 rw [hloop]
 simp only [jb, V5, Oh, Ph]
 apply Tc
 simp only [Dd, Ce, jd, decide_eq_true_eq, jq, and_false, false_or, and_true, or_false]
 generalize Cd (fun i l => Ih m.1 m.2.1.length i l) 0 m.2.1 = b
 constructor
 ·rintro ⟨h1, h2, h3, h4, h5⟩; exact ⟨⟨by omega, by omega⟩, h5⟩
 ·rintro ⟨⟨h1, h2⟩, h5⟩; exact ⟨by omega, by omega, by omega, by omega, h5⟩
theorem IZ (m : Db) (i : Nat) (hi : i < m.2.1.length) (hl : m.2.1[i].length < 9223372036854775807) :
 Wn (((), (i : Int), (0 : Int), ()), (m, ())) =
  some (cond (Cd (fun _ a => Og m.2.1.length i a) 0 m.2.1[i]) (.inl (((), (i : Int), ()), (m, ()))) (.inr ((false, ()), ()))) := by
 unfold Wn
 refine Re (step := _) m.2.1[i] (fun _ a => Og m.2.1.length i a) (fun j => (((), (i : Int), j, ()), (m, ()))) _ _ ?_ ?_ hl
 ·intro k hk
  simp only [HC]
  rw [Ub hi]
  simp only [jb]
  rw [Aa (show (k : Int) < (m.2.1[i].length : Int) by omega), Ub hk]
  simp only [zz, jb, Og, Nv]
  cases Zc m.2.1[i][k] <;> cases ((i : Int) == 0) <;> cases (m.2.1[i][k].1 == 1) <;> cases (m.2.1[i][k].1 != 9) <;> cases decide (m.2.1[i][k].2.2.2.1 ≥ (m.2.1.length : Int)) <;> rfl
 ·simp [HC, Ub hi]
theorem JZ (m : Db) (hz : Jc Oc m ≤ Ga) : RD m = some (Ce m, ()) := by
 have h20 : Ga = 1048576 := rfl
 have hz' : m.2.1.length + (List.map (Jc (.sl Mc)) m.2.1).sum ≤ Ga := by
  have : Jc Oc m = Jc (.sl (.sl Mc)) m.2.1 := by simp only [Jc, yl, js]
  rw [this] at hz; exact hz
 have hl : ∀ k (hk : k < m.2.1.length), m.2.1[k].length ≤ Ga := by
  intro k hk
  have := FG (f := Jc (.sl Mc)) hk
  have h2 : m.2.1[k].length ≤ Jc (.sl Mc) m.2.1[k] := Nat.le_add_right _ _
  omega
 have hloop : Vn (((), (0 : Int), ()), (m, ())) =
  some (cond (Cd (fun i l => Ih m.1 m.2.1.length i l) 0 m.2.1) (.inl (((), ()), (m, ()))) (.inr ((false, ()), ()))) := by
  unfold Vn
  refine Re (step := _) m.2.1 (fun i l => Ih m.1 m.2.1.length i l) (fun j => (((), j, ()), (m, ()))) _ _ ?_ ?_ (by omega)
  ·intro k hk
   have := hl k hk
   simp only [GC]
   rw [Aa (show (k : Int) < (m.2.1.length : Int) by omega), Ub hk]
   simp only [zz, jb, Ih]
   rw [IZ m k hk (by omega)]
   show (cond (!((m.2.1[k].length : Int) == m.1)) _ _) = _
   cases ((m.2.1[k].length : Int) == m.1) <;> cases Cd (fun _ a => Og m.2.1.length k a) 0 m.2.1[k] <;> rfl
  ·simp [GC]
 unfold RD
 rw [hloop]
 simp only [jb, V5, Oh, Ph, Fe]
 apply Tc
 simp only [Dd, Ce, jd, decide_eq_true_eq, jq, and_false, false_or, and_true, or_false]
 generalize Cd (fun i l => Ih m.1 m.2.1.length i l) 0 m.2.1 = b
 constructor
 ·rintro ⟨h1, h2, h3⟩; exact ⟨⟨by omega, by omega⟩, h1⟩
 ·rintro ⟨⟨h1, h2⟩, h5⟩; exact ⟨h5, by omega, by omega⟩
theorem Ve {n : Nat} (h : n ≤ 62) : Ma .i64 1 (n : Int) = ((2 ^ n : Nat) : Int) := by
 unfold Ma
 have h1 : min (jy (n : Int)) (IntKind.bits .i64) = n := by
  show min (jy (n : Int)) 64 = n
  rw [jn]; omega
 rw [h1, Int.one_mul]
 have h2 : (2 : Int) ^ n = ((2 ^ n : Nat) : Int) := by simp
 have h3 : 2 ^ n ≤ 2 ^ 62 := qo (by omega) h
 rw [h2]
 clear h1 h2
 generalize 2 ^ n = z at h3
 rw [Qc (by omega) (by omega)]
structure MK (m : Db) : Prop where
 k1 : 1 ≤ m.1
 k2 : m.1 ≤ 32
 l1 : 1 ≤ m.2.1.length
 l2 : m.2.1.length ≤ 4
 row : ∀ i (h : i < m.2.1.length), (m.2.1[i].length : Int) = m.1
 act : ∀ i (h : i < m.2.1.length) k (hk : k < m.2.1[i].length), Og m.2.1.length i m.2.1[i][k] = true
theorem Uj {m : Db} (h : Ce m = true) : MK m := by
 simp only [Ce, jd, decide_eq_true_eq] at h
 obtain ⟨⟨h1, h2⟩, h3⟩ := h
 rw [Pk] at h3
 refine ⟨h1.1, h1.2, h2.1, h2.2, fun i hi => ?_, fun i hi k hk => ?_⟩
 ·have := h3 i hi
  simp only [js, Ih, jd, beq_iff_eq] at this
  exact this.1
 ·have := h3 i hi
  simp only [js, Ih, jd, beq_iff_eq] at this
  have := Pk.1 this.2 k hk
  simpa using this
theorem QU {nl i : Nat} {a : Pa} (h : Og nl i a = true) : Zc a = true := by
 simp only [Og, jd] at h
 exact h.1.1
theorem IW {nl i : Nat} {a : Pa} (h : Og nl i a = true) (hk : a.1 ≠ 9) : a.2.2.2.1 < (nl : Int) := by
 simp only [Og, jd, yx, Bool.and_eq_false_iff] at h
 rcases h.2 with h | h
 ·simp at h; exact absurd h hk
 ·simpa using h
def Wd (m k : Int) : Int := Ya .i64 (Ac .i64 m k) 1
theorem Tl (m : Int) {k : Int} (h : 0 ≤ k) : Me m k = some (Wd m k, ()) := by
 unfold Me
 rw [Aa h]; rfl
def AaY : Pa := (0, 0, 0, 0, ())
def Pl (L : List (List Pa)) (i k : Nat) : Pa := (L.getD i []).getD k AaY
theorem UX {L : List (List Pa)} {i k : Nat} (hi : i < L.length) (hk : k < L[i].length) : Pl L i k = L[i][k] := by
 simp [Pl, qj, hi, hk]
theorem Qat {α : Type} {L : List (List Pa)} {i k : Nat} (hi : i < L.length) (hk : k < L[i].length) (K : Pa → Option α) :
 (jz (Wb L (i : Int)) fun x => jz (Wb x (k : Int)) K) = K (Pl L i k) := by
 rw [Ub hi]
 simp only [jb]
 rw [Ub hk, UX hi hk]
 rfl
def Dj (L : List (List Pa)) (on : Int) (k : Nat) : Nat → Nat
 | 0 => 0
 | n + 1 => cond ((Wd on ((n + 1 : Nat) : Int) == 1) && ((Pl L (n + 1) k).1 != 1)) (n + 1) (Dj L on k n)
theorem HU {L : List (List Pa)} {on : Int} {k : Nat} : ∀ n, Dj L on k n ≤ n
 | 0 => jo _
 | n + 1 => by
  simp only [Dj]
  cases ((Wd on ((n + 1 : Nat) : Int) == 1) && ((Pl L (n + 1) k).1 != 1)) with
  | true => exact jo _
  | false => exact Nat.le_succ_of_le (HU n)
theorem CN {m : Db} (hm : MK m) (on : Int) {k : Nat} (hk : (k : Int) < m.1) : ∀ n : Nat, n < m.2.1.length →
 Gj ((on, (k : Int), (), (n : Int), ()), (m, ())) = some (cond (Dj m.2.1 on k n == 0) (.inl ((), ())) (.inr ((((Dj m.2.1 on k n : Nat) : Int), ()), ())))
 | 0, _ => by
  unfold Gj
  rw [QR]
  rfl
 | n + 1, h => by
  have hrow := hm.row (n + 1) h
  unfold Gj
  rw [QR]
  simp only [JL]
  rw [Aa (show (((n + 1 : Nat) : Int)) > 0 by omega), Tl on (show (0 : Int) ≤ ((n + 1 : Nat) : Int) by omega)]
  simp only [zz, jb]
  rw [Qat h (by omega), Qc (by have := hm.l2; omega) (by have := hm.l2; omega), show (((n + 1 : Nat) : Int) - 1) = (n : Int) by omega]
  have ih := CN hm on hk n (by omega)
  unfold Gj at ih
  simp only [Dj]
  cases h1 : (Wd on ((n + 1 : Nat) : Int) == 1) with
  | false =>
   simp only [qr, ua, jb, qm]
   exact ih
  | true =>
   cases h2 : ((Pl m.2.1 (n + 1) k).1 != 1) with
   | true => rfl
   | false =>
    simp only [Bool.and_false, zz, ua, jb, qm]
    exact ih
theorem BN {m : Db} (hm : MK m) (on : Int) {k : Nat} (hk : (k : Int) < m.1) :
 Vz m on (k : Int) = some (((Dj m.2.1 on k (m.2.1.length - 1) : Nat) : Int), ()) := by
 have h1 := hm.l1
 have h2 := hm.l2
 unfold Vz
 rw [Qc (by omega) (by omega), show ((m.2.1.length : Int) - 1) = ((m.2.1.length - 1 : Nat) : Int) by omega, CN hm on hk _ (by omega)]
 cases h : (Dj m.2.1 on k (m.2.1.length - 1) == 0) with
 | false => rfl
 | true =>
  have h' : Dj m.2.1 on k (m.2.1.length - 1) = 0 := by simpa using h
  rw [h']; rfl
def Vj (m : Db) (on : Int) (k : Nat) : Nat := Dj m.2.1 on k (m.2.1.length - 1)
theorem IU {m : Db} (hm : MK m) (on : Int) (k : Nat) : Vj m on k < m.2.1.length := by
 have := HU (L := m.2.1) (on := on) (k := k) (m.2.1.length - 1)
 have := hm.l1
 unfold Vj
 omega
noncomputable def Jg (a : Pa) : Bool := Zc a && ((a.1 == 6) || (a.1 == 7))
noncomputable def XP (a : Pa) : Pa := cond (Jg a) (2, a.2.1, 0, 0, ()) a
noncomputable def BP (a : Pa) : Pa := cond (Jg a) (cond (a.1 == 6) (2, 0, a.2.2.1, 0, ()) (3, 0, 0, a.2.2.2.1, ())) a
theorem ZB (a : Pa) : Fo a = some (Jg a, ()) := by
 unfold Fo Jg
 rw [Vu]
 cases Zc a <;> cases (a.1 == 6) <;> rfl
theorem TW (a : Pa) : QB a = some (Jg a, ()) := by
 unfold QB Jg
 rw [Nv]
 cases Zc a <;> cases (a.1 == 6) <;> rfl
theorem L7 (a : Pa) : YJ a = some (XP a, ()) := by
 unfold YJ XP
 rw [ZB]
 cases Jg a <;> rfl
def Ed {α : Type} (p : α → Bool) : Nat → List α → Int
 | _, [] => -1
 | k, x :: xs => cond (p x) (k : Int) (Ed p (k + 1) xs)
theorem CA {X R : Type} {s : X → Option (X ⊕ R)} (I : Nat → X → Prop) (Q : R → Prop)
 (h : ∀ n x, I n x → (∃ r, s x = some (.inr r) ∧ Q r) ∨ (∃ y m, m < n ∧ s x = some (.inl y) ∧ I m y)) : ∀ n x, I n x → ∃ r, Ib s x = some r ∧ Q r := by
 intro n
 induction n using Nat.strongRecOn with
 | _ n ih =>
  intro x hi
  rcases h n x hi with ⟨r, h1, hq⟩ | ⟨y, m, hm, h1, hi'⟩
  ·exact ⟨r, by rw [Mf h1]; rfl, hq⟩
  ·obtain ⟨r, g1, hq⟩ := ih m hm y hi'
   exact ⟨r, by rw [Mf h1]; exact g1, hq⟩
def Rk {α β : Type} : α ⊕ β → Bool
 | .inl _ => true
 | .inr _ => false
noncomputable def LB (s : Int) (x : Va) : Bool := decide (0 ≤ x.1 ∧ x.1 ≤ 31) && (!(Wd s x.1 == 1) && (Zc x.2.1 && (!(x.2.1.1 == 1) && (!(x.2.1.1 == 6) && !(x.2.1.1 == 7)))))
noncomputable def Yx (s : Int) (x : Va) : Int ⊕ Unit := cond (LB s x) (.inl (Lc .i64 s (Ma .i64 1 x.1))) (.inr ())
noncomputable def N8 (l : List Va) : Int ⊕ Unit := Wa (fun _ s x => Yx s x) 0 0 l
noncomputable def Dg (l : List Va) : Bool := Rk (N8 l)
theorem FB (l : List Va) (hn : l.length ≤ Ga) : Sl l = some (Dg l, ()) := by
 have h20 : Ga = 1048576 := rfl
 have hl := Wg (step := fun x => Ay x.1.1 x.1.2.1 x.1.2.2.1 x.1.2.2.2.1) l (fun _ s x => Yx s x) (fun s i => ((s, l, ((ja l : Nat) : Int), i, ()), ()))
  (fun _ => .inl ((), ())) (fun _ => .inr ((false, ()), ())) (fun _ _ => True) (by
   intro k hk s _
   refine ⟨?_, fun _ _ => trivial⟩
   simp only [Ay]
   rw [Aa (show (k : Int) < (ja l : Int) by omega), Ub hk]
   simp only [zz, jb]
   generalize l[k] = x
   simp only [Yx, LB, Vu, jb]
   by_cases h1 : 0 ≤ x.1
   ·rw [Ba (show ¬ x.1 < 0 by omega), Tl s h1]
    by_cases h2 : x.1 ≤ 31
    ·rw [Ba (show ¬ x.1 > 31 by omega), Aa (show 0 ≤ x.1 ∧ x.1 ≤ 31 from ⟨h1, h2⟩), Aa h1]
     simp only [jb, ua]
     cases Wd s x.1 == 1 <;> cases Zc x.2.1 <;> cases x.2.1.1 == 1 <;> cases x.2.1.1 == 6 <;> cases x.2.1.1 == 7 <;> rfl
    ·rw [Aa (show x.1 > 31 by omega), Ba (show ¬ (0 ≤ x.1 ∧ x.1 ≤ 31) by omega)]; rfl
   ·rw [Aa (show x.1 < 0 by omega), Ba (show ¬ (0 ≤ x.1 ∧ x.1 ≤ 31) by omega)]; rfl)
  (by
   intro s _
   simp only [Ay]
   rw [Ba (by omega)]; rfl) (by omega) 0 trivial
 unfold Sl Qz
 erw [hl]
 show jz (some _) _ = _
 simp only [jb, Dg, N8]
 cases Wa (fun x s x => Yx s x) 0 0 l <;> rfl
theorem Y4 (l : List Va) (hn : l.length ≤ Ga) : BI l = some (Dg l, ()) := by
 have h20 : Ga = 1048576 := rfl
 have hl := Wg (step := fun x => Vy x.1.1 x.1.2.1 x.1.2.2.1) l (fun _ s x => Yx s x) (fun s i => ((l, s, i, ()), ()))
  (fun _ => .inl ((), ())) (fun _ => .inr ((false, ()), ())) (fun _ _ => True) (by
   intro k hk s _
   refine ⟨?_, fun _ _ => trivial⟩
   simp only [Vy]
   rw [Aa (show (k : Int) < (ja l : Int) by omega), Ub hk]
   simp only [zz, jb]
   generalize l[k] = x
   simp only [Yx, LB, Nv, TW, Fe, jb, Jg]
   by_cases h1 : 0 ≤ x.1 ∧ x.1 ≤ 31
   ·rw [Aa h1, Aa h1.1]
    simp only [Wd]
    cases Ya .i64 (Ac .i64 s x.1) 1 == 1 <;> cases Zc x.2.1 <;> cases x.2.1.1 == 1 <;> cases x.2.1.1 == 6 <;> cases x.2.1.1 == 7 <;> rfl
   ·rw [Ba h1]; rfl)
  (by
   intro s _
   simp only [Vy]
   rw [Ba (by omega)]; rfl) (by omega) 0 trivial
 unfold BI KA
 erw [hl]
 show jz (some _) _ = _
 simp only [jb, Dg, N8]
 cases Wa (fun x s x => Yx s x) 0 0 l <;> rfl
structure Xv (x : Va) : Prop where
 lo : 0 ≤ x.1
 hi : x.1 ≤ 31
 act : Zc x.2.1 = true
 n1 : x.2.1.1 ≠ 1
 n6 : x.2.1.1 ≠ 6
 n7 : x.2.1.1 ≠ 7
theorem Xap {s : Int} {x : Va} (h : LB s x = true) : Xv x ∧ Wd s x.1 ≠ 1 := by
 simp only [LB, jd, decide_eq_true_eq, yx, beq_eq_false_iff_ne] at h
 exact ⟨⟨h.1.1, h.1.2, h.2.2.1, h.2.2.2.1, h.2.2.2.2.1, h.2.2.2.2.2⟩, h.2.1⟩
theorem Waa : ∀ {l : List Va} {k : Nat} {s : Int}, Rk (Wa (fun _ s x => Yx s x) k s l) = true → ∀ x ∈ l, Xv x
 | [], _, _, _, x, hx => by simp at hx
 | y :: l, k, s, h, x, hx => by
  simp only [Wa, Yx] at h
  cases hc : LB s y with
  | false => rw [hc] at h; simp [Rk] at h
  | true =>
   rw [hc] at h
   simp only [zz] at h
   rcases jp.1 hx with rfl | hx
   ·exact (Xap hc).1
   ·exact Waa h x hx
theorem Iu {l : List Va} (h : Dg l = true) : ∀ x ∈ l, Xv x := Waa h
def Kp (l : List Va) : Int := Bd (fun _ s (x : Va) => Lc .i64 s (Ma .i64 1 x.1)) 0 0 l
theorem GE (l : List Va) (hn : l.length ≤ Ga) (hx : ∀ x ∈ l, Xv x) : Um l = some (Kp l, ()) := by
 have h20 : Ga = 1048576 := rfl
 have hl := (Kg (step := fun x => Ss x.1.1 x.1.2.1 x.1.2.2.1 x.1.2.2.2.1) l (fun _ s (x : Va) => Lc .i64 s (Ma .i64 1 x.1)) (fun s i => ((s, l, ((ja l : Nat) : Int), i, ()), ()))
  (fun s => .inl ((s, ()), ())) (fun _ _ => True) (by
   intro k hk s _
   refine ⟨?_, trivial⟩
   simp only [Ss]
   rw [Aa (show (k : Int) < (ja l : Int) by omega), Ub hk]
   simp only [zz, jb]
   rw [Aa (hx _ (qt hk)).lo]; rfl)
  (by
   intro s _
   simp only [Ss]
   rw [Ba (by omega)]; rfl) (by omega) 0 trivial).1
 unfold Um Ev
 erw [hl]
 rfl
theorem J1 {α β : Type} (p : β → Bool) (f : α → β) : ∀ (xs : List α) (k : Nat), Ed p k (xs.map f) = Ed (fun x => p (f x)) k xs
 | [], _ => rfl
 | x :: xs, k => by simp only [yw, Ed, J1 p f xs]
theorem Nz {α : Type} (p : α → Bool) : ∀ (xs : List α) (k : Nat), Ed p k xs = -1 ∨ ∃ j : Nat, j < xs.length ∧ Ed p k xs = ((k + j : Nat) : Int)
 | [], _ => .inl rfl
 | x :: xs, k => by
  simp only [Ed]
  cases p x with
  | true => exact .inr ⟨0, by simp, by simp⟩
  | false =>
   rcases Nz p xs (k + 1) with h | ⟨j, h1, h2⟩
   ·exact .inl h
   ·exact .inr ⟨j + 1, by simp; omega, by simp only [ua]; rw [h2]; omega⟩
theorem VT {α : Type} (p : α → Bool) : ∀ (xs : List α) (k : Nat), (Wa (fun k (_ : Unit) x => cond (p x) (.inr (k : Int)) (.inl ())) k () xs : Unit ⊕ Int) = if Ed p k xs = -1 then .inl () else .inr (Ed p k xs)
 | [], _ => rfl
 | x :: xs, k => by
  rcases Bool.eq_false_or_eq_true (p x) with hp | hp
  ·simp only [Wa, Ed, hp, zz]; rw [if_neg (by omega)]
  ·simp only [Wa, Ed, hp, ua]; exact VT p xs (k + 1)
theorem ZH {X R α : Type} {step : X → Option (X ⊕ R)} (xs : List α) (p : α → Bool) (I : Int → X) (no : R) (yes : Int → R)
 (h : ∀ k (hk : k < xs.length), step (I (k : Int)) = some (cond (p xs[k]) (.inr (yes (k : Int))) (.inl (I (j9 .i64 ((k : Int) + 1))))))
 (he : step (I (xs.length : Int)) = some (.inr no)) (hn : xs.length < 9223372036854775807) :
 Ib step (I 0) = some (if Ed p 0 xs = -1 then no else yes (Ed p 0 xs)) := by
 have := Wg (step := step) xs (fun k (_ : Unit) x => cond (p x) (.inr (k : Int)) (.inl ())) (fun _ i => I i) (fun _ => no) yes (fun _ _ => True) (fun k hk s _ => by
  refine ⟨?_, fun _ _ => trivial⟩
  rw [h k hk]
  cases p xs[k] <;> rfl) (fun _ _ => he) hn () trivial
 rw [this, VT]
 by_cases hc : Ed p 0 xs = -1
 ·rw [if_pos hc, if_pos hc]
 ·rw [if_neg hc, if_neg hc]
def Le (h : Va) : Na := (h.2.1.2.1, h.2.1.2.2.1, ())
def Qh (c m : Int) (h : Va) : Bool := (h.2.1.2.1 == c) && (h.2.1.2.2.1 == m)
theorem GP (l : List Na) (c : Na) (hn : l.length ≤ Ga) : SC l c = some (Ed (fun x => Ml Nc x c) 0 l, ()) := by
 have h20 : Ga = 1048576 := rfl
 have hl := ZH (step := fun x => Oy x.1.1 x.1.2.1 x.1.2.2.1 x.1.2.2.2.1 x.2.1) l (fun x => Ml Nc x c) (fun i => (((), l, ((ja l : Nat) : Int), i, ()), (c, ())))
  (.inl ((), ())) (fun i => .inr ((i, ()), ())) (by
   intro k hk
   simp only [Oy]
   rw [Aa (show (k : Int) < (ja l : Int) by omega), Ub hk]
   simp only [zz, jb]
   cases Ml Nc l[k] c <;> rfl) (by
   simp only [Oy]
   rw [Ba (by omega)]; rfl) (by omega)
 unfold SC Wz
 erw [hl]
 simp only [jb]
 by_cases hc : Ed (fun x => Ml Nc x c) 0 l = -1
 ·rw [if_pos hc, hc]; rfl
 ·rw [if_neg hc]; rfl
theorem D5 (l : List Va) (x : Cc) (hn : l.length ≤ Ga) : KI l x = some (Ed (Qh x.2.1 x.2.2.1) 0 l, ()) := by
 have h20 : Ga = 1048576 := rfl
 have hl := ZH (step := fun y => Az y.1.1 y.1.2.1 y.1.2.2.1 y.2.1) l (Qh x.2.1 x.2.2.1) (fun i => ((l, (), i, ()), (x, ())))
  (.inl ((), ())) (fun i => .inr ((i, ()), ())) (by
   intro k hk
   simp only [Az]
   rw [Aa (show (k : Int) < (ja l : Int) by omega), Ub hk]
   simp only [zz, jb, Qh]
   cases l[k].2.1.2.1 == x.2.1 <;> cases l[k].2.1.2.2.1 == x.2.2.1 <;> rfl) (by
   simp only [Az]
   rw [Ba (by omega)]; rfl) (by omega)
 unfold KI WA
 erw [hl]
 simp only [jb]
 by_cases hc : Ed (Qh x.2.1 x.2.2.1) 0 l = -1
 ·rw [if_pos hc, hc]; rfl
 ·rw [if_neg hc]; rfl
theorem R2 (L : List Va) (c m : Int) : Ed (fun x => Ml Nc x (c, m, ())) 0 (L.map Le) = Ed (Qh c m) 0 L := by
 rw [J1]
 congr 1
 funext h
 simp only [Le, Ml, Qh, Bool.and_true]
def Hj {α : Type} (l : List α) (r : Nat) : List α := jf (Lb l 0 r) (Lb l (r + 1) l.length)
theorem Nad {α : Type} {l : List α} {r : Nat} (h : r < l.length) : (Hj l r).length = l.length - 1 := by
 simp [Hj, Lb]; omega
theorem PX {α β : Type} (f : α → β) (l : List α) (r : Nat) : Hj (l.map f) r = (Hj l r).map f := by
 simp [Hj, Lb, List.map_take, List.map_drop]
 rw [List.take_of_length_le (by simp)]
theorem NT {α : Type} {l : List α} {r : Nat} (h : r < l.length) : We (ja l) 0 (r : Int) = true ∧ We (ja l) ((r + 1 : Nat) : Int) ((ja l : Nat) : Int) = true := by
 simp only [We, jd, decide_eq_true_eq]
 omega
theorem WW (l : List Va) {r : Nat} (h : r < l.length) (hn : l.length ≤ Ga) : Eu l (r : Int) = some (Hj l r, ()) := by
 have h20 : Ga = 1048576 := rfl
 have hc := NT h
 unfold Eu
 rw [Ag (by omega), hc.1, hc.2]
 have e1 : jx (ja ([] : List Va) + ja (Lb l (jy 0) (jy (r : Int)))) Xa = true := ji (by simp [Lb]; rw [Tf]; omega)
 have e2 : jx (ja (jf ([] : List Va) (Lb l (jy 0) (jy (r : Int)))) + ja (Lb l (jy ((r + 1 : Nat) : Int)) (jy ((ja l : Nat) : Int)))) Xa = true :=
  ji (by simp [Lb]; rw [Tf]; omega)
 rw [e1, e2]
 simp only [zz]
 rfl
noncomputable def Ok (x : Cc) (r : Int) : Bool := Zc (2, x.2.1, x.2.2.1, 0, ()) && (((x.1 == 0) && !decide (r ≥ 0)) || (((x.1 == 1) && !decide (r ≥ 0)) || ((x.1 == 2) && decide (r ≥ 0))))
def Hh (x : Cc) : Va := (0, (2, x.2.1, x.2.2.1, 0, ()), ())
def DH (x : Cc) (L : List Va) (r : Int) : List Va := cond (x.1 == 1) (jf L [Hh x]) (cond (x.1 == 2) (Hj L r.toNat) L)
noncomputable def Wk (L : List Va) (x : Cc) : List Va ⊕ Unit := cond (Ok x (Ed (Qh x.2.1 x.2.2.1) 0 L)) (.inl (DH x L (Ed (Qh x.2.1 x.2.2.1) 0 L))) (.inr ())
theorem O4 {L L' : List Va} {x : Cc} (h : Wk L x = .inl L') : L'.length ≤ L.length + 1 := by
 unfold Wk at h
 cases hc : Ok x (Ed (Qh x.2.1 x.2.2.1) 0 L) with
 | false => rw [hc] at h; simp at h
 | true =>
  rw [hc] at h
  simp only [zz, zk] at h
  rw [← h]
  unfold DH
  cases x.1 == 1 with
  | true => simp
  | false =>
   cases x.1 == 2 with
   | true => simp [Hj, Lb]; omega
   | false => simp
theorem W7 (l : List Cc) (k : Nat) (hk : k < l.length) (L : List Va) (hL : L.length ≤ k) (hn : l.length ≤ Ga) :
 Yo l L (k : Int) = some (match Wk L l[k] with | .inl L' => .inl ((l, L', j9 .i64 ((k : Int) + 1), ()), ()) | .inr _ => .inr (.inr ((false, ()), ()))) := by
 have h20 : Ga = 1048576 := rfl
 simp only [Yo]
 rw [Aa (show (k : Int) < (ja l : Int) by omega), Ub hk]
 simp only [zz, jb]
 rw [D5 L l[k] (by omega)]
 simp only [jb, Fe, UD, Nv, Wk, Ok, DH, Hh]
 generalize hx : l[k] = x
 generalize hr : Ed (Qh x.2.1 x.2.2.1) 0 L = r
 have hble : jx (ja L + ja [Hh x]) Xa = true := ji (by simp [Tf]; omega)
 have hble' : jx (ja L + ja ([((0 : Int), ((2 : Int), x.2.1, x.2.2.1, (0 : Int), ()), ())] : List Va)) Xa = true := hble
 have hw : decide (r ≥ 0) = true → Eu L r = some (Hj L r.toNat, ()) := by
  intro h
  rcases Nz (Qh x.2.1 x.2.2.1) L 0 with h1 | ⟨j, h1, h2⟩
  ·rw [hr] at h1; rw [h1] at h; simp at h
  ·rw [hr] at h2
   have : r = (j : Int) := by omega
   rw [this, WW L h1 (by omega)]
   simp
 by_cases k0 : x.1 = 0
 ·simp only [k0]
  cases Zc ((2 : Int), x.2.1, x.2.2.1, (0 : Int), ()) <;> cases decide (r ≥ 0) <;> rfl
 by_cases k1 : x.1 = 1
 ·simp only [k1]
  rw [hble']
  cases Zc ((2 : Int), x.2.1, x.2.2.1, (0 : Int), ()) <;> cases decide (r ≥ 0) <;> rfl
 by_cases k2 : x.1 = 2
 ·simp only [k2]
  cases hd : decide (r ≥ 0) with
  | false => cases Zc ((2 : Int), x.2.1, x.2.2.1, (0 : Int), ()) <;> rfl
  | true =>
   rw [hw hd]
   cases Zc ((2 : Int), x.2.1, x.2.2.1, (0 : Int), ()) <;> rfl
 ·have e0 : (x.1 == 0) = false := by simpa using k0
  have e1 : (x.1 == 1) = false := by simpa using k1
  have e2 : (x.1 == 2) = false := by simpa using k2
  rw [Ba (show ¬ (0 ≤ x.1 ∧ x.1 ≤ 2) by omega), e0, e1, e2]
  cases Zc ((2 : Int), x.2.1, x.2.2.1, (0 : Int), ()) <;> rfl
theorem P7 (l : List Cc) (k : Nat) (hk : k < l.length) (L : List Va) (hL : L.length ≤ k) (hn : l.length ≤ Ga) :
 So (L.map Le) l ((ja l : Nat) : Int) (k : Int) =
  some (match Wk L l[k] with | .inl L' => .inl ((L'.map Le, l, ((ja l : Nat) : Int), j9 .i64 ((k : Int) + 1), ()), ()) | .inr _ => .inr (.inr ((false, ()), ()))) := by
 have h20 : Ga = 1048576 := rfl
 simp only [So]
 rw [Aa (show (k : Int) < (ja l : Int) by omega), Ub hk]
 simp only [zz, jb]
 rw [GP (L.map Le) _ (by simp; omega), R2]
 simp only [jb, Vu, Wk, Ok, DH, Hh]
 generalize hx : l[k] = x
 generalize hr : Ed (Qh x.2.1 x.2.2.1) 0 L = r
 have hble : jx (ja (L.map Le) + ja ([(x.2.1, x.2.2.1, ())] : List Na)) Xa = true := ji (by simp [Tf]; omega)
 have happ : jf (L.map Le) ([(x.2.1, x.2.2.1, ())] : List Na) = (jf L [((0 : Int), ((2 : Int), x.2.1, x.2.2.1, (0 : Int), ()), ())]).map Le := by
  show _ ++ _ = List.map Le (_ ++ _)
  rw [zf]; rfl
 by_cases k0 : x.1 = 0
 ·simp only [k0]
  cases Zc ((2 : Int), x.2.1, x.2.2.1, (0 : Int), ()) <;> cases decide (r ≥ 0) <;> rfl
 by_cases k1 : x.1 = 1
 ·simp only [k1]
  rw [hble, happ]
  cases Zc ((2 : Int), x.2.1, x.2.2.1, (0 : Int), ()) <;> cases decide (r ≥ 0) <;> rfl
 by_cases k2 : x.1 = 2
 ·simp only [k2]
  rcases Nz (Qh x.2.1 x.2.2.1) L 0 with h1 | ⟨j, h1, h2⟩
  ·rw [hr] at h1
   rw [h1]
   cases Zc ((2 : Int), x.2.1, x.2.2.1, (0 : Int), ()) <;> rfl
  ·rw [hr] at h2
   have hrj : r = (j : Int) := by omega
   rw [hrj]
   have hj : j < (L.map Le).length := by simpa using h1
   have hc := NT hj
   rw [Ag (k := j) (by omega), hc.1, hc.2, Ba (show ¬ (j : Int) < 0 by omega), Aa (show (j : Int) ≥ 0 by omega)]
   have e1 : jx (ja (Lb (L.map Le) (jy 0) (jy (j : Int))) + ja (Lb (L.map Le) (jy ((j + 1 : Nat) : Int)) (jy ((ja (L.map Le) : Nat) : Int)))) Xa = true :=
    ji (by simp [Lb]; rw [Tf]; omega)
   have e2 : jf (Lb (L.map Le) (jy 0) (jy (j : Int))) (Lb (L.map Le) (jy ((j + 1 : Nat) : Int)) (jy ((ja (L.map Le) : Nat) : Int))) = (Hj L (jy (j : Int))).map Le := by
    rw [← PX]
    simp [Hj]
   rw [e1, e2]
   cases Zc ((2 : Int), x.2.1, x.2.2.1, (0 : Int), ()) <;> rfl
 ·have e0 : (x.1 == 0) = false := by simpa using k0
  have e1 : (x.1 == 1) = false := by simpa using k1
  have e2 : (x.1 == 2) = false := by simpa using k2
  rw [e0, e1, e2]
  cases Zc ((2 : Int), x.2.1, x.2.2.1, (0 : Int), ()) <;> rfl
noncomputable def RR (l : List Cc) : List Va ⊕ Unit := Wa (fun _ L x => Wk L x) 0 [] l
noncomputable def Be (l : List Cc) : Bool := decide (l.length ≤ 8) && (match RR l with | .inl L => ((L.length : Int) == 0) | .inr _ => false)
theorem B3 (l : List Cc) (hn : l.length ≤ Ga) : ZF l = some (Be l, ()) := by
 have h20 : Ga = 1048576 := rfl
 have hl := Wg (step := fun x => Yo x.1.1 x.1.2.1 x.1.2.2.1) l (fun _ L x => Wk L x) (fun L i => ((l, L, i, ()), ()))
  (fun L => .inl ((l, L, ()), ())) (fun _ => .inr ((false, ()), ())) (fun k L => L.length ≤ k) (by
   intro k hk L hL
   refine ⟨?_, fun L' h => by have := O4 h; omega⟩
   rw [W7 l k hk L hL hn]
   cases Wk L l[k] <;> rfl) (by
   intro s _
   simp only [Yo]
   rw [Ba (by omega)]; rfl) (by omega) [] (by simp)
 unfold ZF Px
 erw [hl]
 simp only [jb, Be, RR]
 cases Wa (fun x L x => Wk L x) 0 [] l with
 | inl L =>
  simp only [qm]
  by_cases h : l.length ≤ 8
  ·rw [Aa (show ((ja l : Nat) : Int) ≤ 8 by omega), Aa h]; rfl
  ·rw [Ba (show ¬ ((ja l : Nat) : Int) ≤ 8 by omega), Ba h]; rfl
 | inr u => cases decide (l.length ≤ 8) <;> rfl
theorem XM (l : List Cc) (hn : l.length ≤ Ga) : Rz l = some (Be l, ()) := by
 have h20 : Ga = 1048576 := rfl
 unfold Rz Be
 by_cases h : l.length ≤ 8
 ·rw [Ba (show ¬ ((ja l : Nat) : Int) > 8 by omega), Aa h]
  have hl := Wg (step := fun x => So x.1.1 x.1.2.1 x.1.2.2.1 x.1.2.2.2.1) l (fun _ L x => Wk L x) (fun L i => ((L.map Le, l, ((ja l : Nat) : Int), i, ()), ()))
   (fun L => .inl ((L.map Le, ()), ())) (fun _ => .inr ((false, ()), ())) (fun k L => L.length ≤ k) (by
    intro k hk L hL
    refine ⟨?_, fun L' h => by have := O4 h; omega⟩
    rw [P7 l k hk L hL hn]
    cases Wk L l[k] <;> rfl) (by
    intro s _
    simp only [So]
    rw [Ba (by omega)]; rfl) (by omega) [] (by simp)
  unfold Jx
  erw [hl]
  simp only [RR]
  cases Wa (fun x L x => Wk L x) 0 [] l with
  | inl L =>
   show some _ = some _
   simp only [List.length_map]
   rfl
  | inr u => rfl
 ·rw [Aa (show ((ja l : Nat) : Int) > 8 by omega), Ba h]; rfl
noncomputable def Gl (keys : Int) (nl : Nat) (x : Va) : Bool := !decide (x.1 ≥ keys) && !((x.2.1.1 != 9) && decide (x.2.1.2.2.2.1 ≥ (nl : Int)))
noncomputable def Tj (e : Jb) : Bool :=
 Ce e.1 && (decide (e.2.1.length ≤ 4) && (Dg e.2.2.2.1 && (Cd (fun _ m => Be m) 0 e.2.1 && (Cd (fun _ x => Gl e.1.1 e.1.2.1.length x) 0 e.2.2.2.1 &&
  (decide (0 ≤ e.2.2.1 ∧ e.2.2.1 < ((2 ^ e.1.2.1.length : Nat) : Int)) && ((yn e.2.2.1 2 == 0) && decide (0 ≤ e.2.2.2.2.1 ∧ e.2.2.2.2.1 ≤ 15)))))))
theorem Cn (e : Jb) : Jc Xc e = Jc Oc e.1 + (Jc (.sl (.sl Ad)) e.2.1 + Jc (.sl Xn) e.2.2.2.1) := by
 simp only [Jc, yl, js]
theorem Qm (l : List Va) : Jc (.sl Xn) l = l.length := Bp (e := Xn) rfl l
theorem G5 (l : List Cc) : Jc (.sl Ad) l = l.length := Bp (e := Ad) rfl l
theorem Dah {e : Ty} (l : List (T e)) : ja l ≤ Jc (.sl e) l := Nat.le_add_right _ _
theorem Waq {e : Ty} {l : List (T e)} {k : Nat} (hk : k < ja l) : Jc e (List.get l ⟨k, hk⟩) ≤ Jc (.sl e) l :=
 qe (FG (f := Jc e) hk) (Nat.le_add_left _ _)
theorem V1 (e : Jb) (hz : Jc Xc e ≤ Ga) : Ln (((), e.2.1, ((ja e.2.1 : Nat) : Int), (0 : Int), ()), (e, ())) =
 some (cond (Cd (fun _ m => Be m) 0 e.2.1) (.inl (((), ()), (e, ()))) (.inr ((false, ()), ()))) := by
 have h20 : Ga = 1048576 := rfl
 rw [Cn] at hz
 have hl := Dah (e := .sl Ad) e.2.1
 unfold Ln
 refine Re (step := fun x => Ns x.1.1 x.1.2.1 x.1.2.2.1 x.1.2.2.2.1 x.2.1) e.2.1 (fun _ m => Be m) (fun i => (((), e.2.1, ((ja e.2.1 : Nat) : Int), i, ()), (e, ()))) _ _ ?_ ?_ (by omega)
 ·intro k hk
  simp only [Ns]
  have hk2 : (k : Int) < ((ja e.2.1 : Nat) : Int) := by omega
  rw [Aa hk2, Ub hk]
  simp only [zz, jb]
  have he := Waq (e := .sl Ad) hk
  rw [G5] at he
  rw [XM e.2.1[k] (by have : (List.get e.2.1 ⟨k, hk⟩) = e.2.1[k] := rfl; rw [this] at he; omega)]
  simp only [jb]
  cases Be e.2.1[k] <;> rfl
 ·simp only [Ns]
  rw [Ba (by omega)]; rfl
theorem D3 (e : Jb) (hz : Jc Xc e ≤ Ga) : Tn (((), (0 : Int), ()), (e, ())) =
 some (cond (Cd (fun _ m => Be m) 0 e.2.1) (.inl (((), ()), (e, ()))) (.inr ((false, ()), ()))) := by
 have h20 : Ga = 1048576 := rfl
 rw [Cn] at hz
 have hl := Dah (e := .sl Ad) e.2.1
 unfold Tn
 refine Re (step := fun x => Zs x.1.1 x.1.2.1 x.2.1) e.2.1 (fun _ m => Be m) (fun i => (((), i, ()), (e, ()))) _ _ ?_ ?_ (by omega)
 ·intro k hk
  simp only [Zs]
  have hk2 : (k : Int) < ((ja e.2.1 : Nat) : Int) := by omega
  rw [Aa hk2, Ub hk]
  simp only [zz, jb]
  have he := Waq (e := .sl Ad) hk
  rw [G5] at he
  rw [B3 e.2.1[k] (by have : (List.get e.2.1 ⟨k, hk⟩) = e.2.1[k] := rfl; rw [this] at he; omega)]
  simp only [jb]
  cases Be e.2.1[k] <;> rfl
 ·simp only [Zs]
  rw [Ba (by omega)]; rfl
theorem N7 (e : Jb) (hz : Jc Xc e ≤ Ga) : Im (((), ((ja e.1.2.1 : Nat) : Int), e.2.2.2.1, ((ja e.2.2.2.1 : Nat) : Int), (0 : Int), ()), (e, ())) =
 some (cond (Cd (fun _ x => Gl e.1.1 e.1.2.1.length x) 0 e.2.2.2.1) (.inl (((), ((ja e.1.2.1 : Nat) : Int), ()), (e, ()))) (.inr ((false, ()), ()))) := by
 have h20 : Ga = 1048576 := rfl
 rw [Cn, Qm] at hz
 unfold Im
 refine Re (step := fun x => Pq x.1.1 x.1.2.1 x.1.2.2.1 x.1.2.2.2.1 x.1.2.2.2.2.1 x.2.1) e.2.2.2.1 (fun _ x => Gl e.1.1 e.1.2.1.length x)
  (fun i => (((), ((ja e.1.2.1 : Nat) : Int), e.2.2.2.1, ((ja e.2.2.2.1 : Nat) : Int), i, ()), (e, ()))) _ _ ?_ ?_ (by omega)
 ·intro k hk
  simp only [Pq]
  have hk2 : (k : Int) < ((ja e.2.2.2.1 : Nat) : Int) := by omega
  rw [Aa hk2, Ub hk]
  simp only [zz, jb, Gl]
  cases decide (e.2.2.2.1[k].1 ≥ e.1.1) <;> cases (e.2.2.2.1[k].2.1.1 != 9) <;> cases decide (e.2.2.2.1[k].2.1.2.2.2.1 ≥ ((ja e.1.2.1 : Nat) : Int)) <;> rfl
 ·simp only [Pq]
  rw [Ba (by omega)]; rfl
theorem V7 (e : Jb) (hz : Jc Xc e ≤ Ga) : Un (((), (0 : Int), ()), (e, ())) =
 some (cond (Cd (fun _ x => Gl e.1.1 e.1.2.1.length x) 0 e.2.2.2.1) (.inl (((), ()), (e, ()))) (.inr ((false, ()), ()))) := by
 have h20 : Ga = 1048576 := rfl
 rw [Cn, Qm] at hz
 unfold Un
 refine Re (step := fun x => At x.1.1 x.1.2.1 x.2.1) e.2.2.2.1 (fun _ x => Gl e.1.1 e.1.2.1.length x) (fun i => (((), i, ()), (e, ()))) _ _ ?_ ?_ (by omega)
 ·intro k hk
  simp only [At]
  have hk2 : (k : Int) < ((ja e.2.2.2.1 : Nat) : Int) := by omega
  rw [Aa hk2, Ub hk]
  simp only [zz, jb, Gl]
  cases decide (e.2.2.2.1[k].1 ≥ e.1.1) <;> cases (e.2.2.2.1[k].2.1.1 != 9) <;> cases decide (e.2.2.2.1[k].2.1.2.2.2.1 ≥ ((ja e.1.2.1 : Nat) : Int)) <;> rfl
 ·simp only [At]
  rw [Ba (by omega)]; rfl
theorem OY (e : Jb) (hz : Jc Xc e ≤ Ga) : ID e = some (Tj e, ()) := by
 have h20 : Ga = 1048576 := rfl
 have hz' := hz
 rw [Cn, Qm] at hz'
 unfold ID Tj
 rw [GL e.1 (by omega)]
 cases hk : Ce e.1 with
 | false => rfl
 | true =>
  simp only [jb, jg, ua, jk]
  by_cases h4 : e.2.1.length ≤ 4
  ·rw [Ba (show ¬ ((ja e.2.1 : Nat) : Int) > 4 by omega), Aa h4, FB _ (by omega)]
   simp only [jb, ua, jk]
   cases hh : Dg e.2.2.2.1 with
   | false => rfl
   | true =>
    simp only [jg, ua, jk]
    rw [V1 e hz]
    have hl := (Uj hk).l2
    by_cases ho : 0 ≤ e.2.2.2.2.1 ∧ e.2.2.2.2.1 ≤ 15
    ·rw [Ba (show ¬ e.2.2.2.2.1 < 0 by omega), Ba (show ¬ e.2.2.2.2.1 > 15 by omega), Aa ho]
     simp only [ua, jb, Bool.and_true]
     cases Cd (fun _ m => Be m) 0 e.2.1 with
     | false => rfl
     | true =>
      simp only [zz, qm, jk]
      rw [N7 e hz]
      cases Cd (fun _ x => Gl e.1.1 e.1.2.1.length x) 0 e.2.2.2.1 with
      | false => rfl
      | true =>
       simp only [zz, jb, qm, jk]
       rw [Ve (by omega), Aa (show (0 : Int) ≤ ((ja e.1.2.1 : Nat) : Int) by omega)]
       have e2 : ((2 : Int) == 0) = false := rfl
       rw [e2]
       simp only [ua, zz]
       by_cases hf : 0 ≤ e.2.2.1
       ·rw [Aa (show e.2.2.1 ≥ 0 from hf)]
        by_cases hf2 : e.2.2.1 < ((2 ^ e.1.2.1.length : Nat) : Int)
        ·rw [Aa hf2, Aa (show 0 ≤ e.2.2.1 ∧ e.2.2.1 < ((2 ^ e.1.2.1.length : Nat) : Int) from ⟨hf, hf2⟩)]
         cases yn e.2.2.1 2 == 0 <;> rfl
        ·rw [Ba hf2, Ba (show ¬ (0 ≤ e.2.2.1 ∧ e.2.2.1 < ((2 ^ e.1.2.1.length : Nat) : Int)) from fun h => hf2 h.2)]
         cases yn e.2.2.1 2 == 0 <;> rfl
       ·rw [Ba (show ¬ e.2.2.1 ≥ 0 from hf), Ba (show ¬ (0 ≤ e.2.2.1 ∧ e.2.2.1 < ((2 ^ e.1.2.1.length : Nat) : Int)) from fun h => hf h.1)]
        rfl
    ·have hr : (Cd (fun _ m => Be m) 0 e.2.1 && (Cd (fun _ x => Gl e.1.1 e.1.2.1.length x) 0 e.2.2.2.1 && (decide (0 ≤ e.2.2.1 ∧ e.2.2.1 < ((2 ^ e.1.2.1.length : Nat) : Int)) && ((yn e.2.2.1 2 == 0) && decide (0 ≤ e.2.2.2.2.1 ∧ e.2.2.2.2.1 ≤ 15))))) = false := by
      rw [Ba ho]; simp
     rw [hr]
     by_cases h1 : e.2.2.2.2.1 < 0
     ·rw [Aa h1]; rfl
     ·rw [Ba h1, Aa (show e.2.2.2.2.1 > 15 by omega)]; rfl
  ·rw [Aa (show ((ja e.2.1 : Nat) : Int) > 4 by omega), Ba h4]; rfl
theorem BM (e : Jb) (hz : Jc Xc e ≤ Ga) : Qw e = some (Tj e, ()) := by
 have h20 : Ga = 1048576 := rfl
 have hz' := hz
 rw [Cn, Qm] at hz'
 unfold Qw Tj
 rw [JZ e.1 (by omega)]
 cases hk : Ce e.1 with
 | false => rfl
 | true =>
  simp only [jb, jg, ua, jk]
  by_cases h4 : e.2.1.length ≤ 4
  ·rw [Ba (show ¬ ((ja e.2.1 : Nat) : Int) > 4 by omega), Aa h4, Y4 _ (by omega)]
   simp only [jb, ua, jk]
   cases hh : Dg e.2.2.2.1 with
   | false => rfl
   | true =>
    simp only [jg, ua, jk]
    rw [D3 e hz]
    have hl := (Uj hk).l2
    cases Cd (fun _ m => Be m) 0 e.2.1 with
    | false => rfl
    | true =>
     simp only [zz, jb, qm, jk]
     rw [V7 e hz]
     cases Cd (fun _ x => Gl e.1.1 e.1.2.1.length x) 0 e.2.2.2.1 with
     | false => rfl
     | true =>
      simp only [zz, jb, qm, jk, Fe]
      have hp : (2 ^ e.1.2.1.length : Nat) ≤ 16 := qo (n := 2) (by omega) hl
      rw [Ve (by omega), Aa (show (0 : Int) ≤ ((ja e.1.2.1 : Nat) : Int) by omega)]
      generalize (2 ^ e.1.2.1.length : Nat) = P2 at hp ⊢
      rw [Qc (by omega) (by omega)]
      have e2 : ((2 : Int) == 0) = false := rfl
      rw [e2]
      simp only [ua, zz, jb]
      have e3 : decide (0 ≤ e.2.2.1 ∧ e.2.2.1 ≤ (P2 : Int) - 1) = decide (0 ≤ e.2.2.1 ∧ e.2.2.1 < (P2 : Int)) := by
       rw [decide_eq_decide]; omega
      rw [e3]
      cases decide (0 ≤ e.2.2.1 ∧ e.2.2.1 < (P2 : Int)) <;> cases yn e.2.2.1 2 == 0 <;> rfl
  ·rw [Aa (show ((ja e.2.1 : Nat) : Int) > 4 by omega), Ba h4]; rfl
def Fg (x : Ca) : Bool := decide (0 ≤ x.1 ∧ x.1 ≤ 1000000) && decide (0 ≤ x.2.1 ∧ x.2.1 ≤ 31)
theorem QF (x : Ca) : Mt x = some (Fg x, ()) := by
 unfold Mt Fg
 simp only [Oh, Ph]
 apply Tc
 simp only [Dd, decide_eq_true_eq, jq, and_false, or_false, jd]
 omega
theorem A3 (x : Ca) : YF x = some (Fg x, ()) := by
 unfold YF Fg
 simp only [Fe, jb, Oh, Ph]
 apply Tc
 simp only [Dd, decide_eq_true_eq, jq, and_false, or_false, jd]
def Jj (s : Int × Int) (x : Ca) : Bool := Fg x && (!decide (s.1 > x.1) && !(x.2.2.1 == (Wd s.2 x.2.1 == 1)))
def Er (s : Int × Int) (x : Ca) : (Int × Int) ⊕ Unit := cond (Jj s x) (.inl (x.1, Yb .i64 s.2 (Ma .i64 1 x.2.1))) (.inr ())
def Qaa (l : List Ca) (d : Int) : (Int × Int) ⊕ Unit := Wa (fun _ s x => Er s x) 0 (0, d) l
def TE (l : List Ca) (d : Int) : Int × Bool := cond (decide (l.length ≤ 64)) (match Qaa l d with | .inl s => (s.2, true) | .inr _ => (0, false)) (0, false)
theorem Zl {x : Ca} (h : Fg x = true) : 0 ≤ x.1 ∧ x.1 ≤ 1000000 ∧ 0 ≤ x.2.1 ∧ x.2.1 ≤ 31 := by
 simp only [Fg, jd, decide_eq_true_eq] at h
 omega
theorem J4 (l : List Ca) (d : Int) (hn : l.length ≤ Ga) : WH l d = some ((TE l d).1, (TE l d).2, ()) := by
 have h20 : Ga = 1048576 := rfl
 unfold WH TE
 by_cases h64 : l.length ≤ 64
 ·rw [Ba (show ¬ ((ja l : Nat) : Int) > 64 by omega), Aa h64]
  have hl := Wg (step := fun x => My x.1.1 x.1.2.1 x.1.2.2.1 x.1.2.2.2.1 x.1.2.2.2.2.1) l (fun _ s x => Er s x) (fun s i => ((l, s.2, l, ((ja l : Nat) : Int), i, ()), ()))
   (fun s => .inl ((s.2, ()), ())) (fun _ => .inr (((0 : Int), false, ()), ())) (fun k s => (k = 0 → s.1 = 0) ∧ ∀ hk : k - 1 < l.length, 0 < k → s.1 = l[k - 1].1) (by
    intro k hk s ⟨hs0, hs1⟩
    refine ⟨?_, ?_⟩
    ·simp only [My]
     rw [Aa (show (k : Int) < ((ja l : Nat) : Int) by omega), Ub hk]
     simp only [zz, jb, QF, Er, Jj]
     generalize hx : l[k] = x
     cases hev : Fg x with
     | false => rfl
     | true =>
      have hkey := Zl hev
      simp only [jg, ua, jk]
      rw [Tl s.2 hkey.2.2.1, Aa hkey.2.2.1]
      simp only [jb, zz]
      by_cases h0 : k = 0
      ·subst h0
       rw [Ba (show ¬ ((0 : Nat) : Int) > 0 by omega), Ba (show ¬ s.1 > x.1 by rw [hs0 rfl]; omega)]
       cases (x.2.2.1 == (Wd s.2 x.2.1 == 1)) <;> rfl
      ·rw [Aa (show (k : Int) > 0 by omega), Qc (by omega) (by omega), show (k : Int) - 1 = ((k - 1 : Nat) : Int) by omega, Ub (show k - 1 < l.length by omega)]
       rw [hs1 (by omega) (by omega)]
       simp only [jb, zz]
       cases decide (l[k - 1].1 > x.1) <;> cases (x.2.2.1 == (Wd s.2 x.2.1 == 1)) <;> rfl
    ·intro s' h
     unfold Er at h
     cases hc : Jj s l[k] with
     | false => rw [hc] at h; simp at h
     | true =>
      rw [hc] at h
      simp only [zz, zk] at h
      refine ⟨by omega, fun _ _ => ?_⟩
      rw [← h]
      simp only [Nat.add_sub_cancel])
   (by
    intro s _
    simp only [My]
    rw [Ba (by omega)]; rfl) (by omega) (0, d) ⟨fun _ => rfl, fun _ h => absurd h (by omega)⟩
  unfold Tz
  erw [hl]
  simp only [ua, jb, Qaa, zz]
  cases Wa (fun x s x => Er s x) 0 (0, d) l <;> rfl
 ·rw [Aa (show ((ja l : Nat) : Int) > 64 by omega), Ba h64]; rfl
def JP (keys : Int) (l : List Ca) : Bool := Cd (fun _ (x : Ca) => !decide (x.2.1 ≥ keys)) 0 l
def Rc (q : List Ca) (d keys : Int) : Bool := JP keys q && (TE q d).2
theorem Us (q : List Ca) (d keys : Int) (hn : q.length ≤ Ga) : Yi q d keys = some (Rc q d keys, ()) := by
 have h20 : Ga = 1048576 := rfl
 have hl := Re (step := fun x => Tq x.1.1 x.1.2.1 x.1.2.2.1 x.1.2.2.2.1 x.1.2.2.2.2.1 x.1.2.2.2.2.2.1) q (fun _ (x : Ca) => !decide (x.2.1 ≥ keys)) (fun i => ((q, d, keys, q, ((ja q : Nat) : Int), i, ()), ()))
  (.inl ((q, d, ()), ())) (.inr ((false, ()), ())) (by
   intro k hk
   simp only [Tq]
   rw [Aa (show (k : Int) < ((ja q : Nat) : Int) by omega), Ub hk]
   simp only [zz, jb]
   cases decide (q[k].2.1 ≥ keys) <;> rfl) (by
   simp only [Tq]
   rw [Ba (by omega)]; rfl) (by omega)
 unfold Yi Ut Rc JP
 erw [hl]
 simp only [jb]
 cases Cd (fun _ (x : Ca) => !decide (x.2.1 ≥ keys)) 0 q with
 | false => rfl
 | true => simp only [zz, qm, J4 q d hn, jb]; rfl
def Hm (keys : Int) (s : Int × Int) (x : Ca) : (Int × Int) ⊕ Unit := cond (Jj s x && !decide (x.2.1 ≥ keys)) (.inl (x.1, Yb .i64 s.2 (Ma .i64 1 x.2.1))) (.inr ())
theorem EO (keys : Int) : ∀ (l : List Ca) (k : Nat) (s : Int × Int), Rk (Wa (fun _ s x => Hm keys s x) k s l) = (Cd (fun _ (x : Ca) => !decide (x.2.1 ≥ keys)) k l && Rk (Wa (fun _ s x => Er s x) k s l))
 | [], _, _ => rfl
 | x :: l, k, s => by
  simp only [Wa, Cd, Hm, Er]
  cases Jj s x with
  | false => simp [Rk]
  | true =>
   cases decide (x.2.1 ≥ keys) with
   | true => simp [Rk]
   | false => simp only [jk, qc, zz]; exact EO keys l (k + 1) _
theorem CJ (q : List Ca) (d keys : Int) (hn : q.length ≤ Ga) : Yq q d keys 0 = some (Rc q d keys, ()) := by
 have h20 : Ga = 1048576 := rfl
 have hl := Wg (step := fun x => Np x.1.1 x.1.2.1 x.1.2.2.1 x.1.2.2.2.1 x.1.2.2.2.2.1) q (fun _ s x => Hm keys s x) (fun s i => ((q, s.2, keys, s.1, i, ()), ()))
  (fun s => .inl ((q, ()), ())) (fun _ => .inr ((false, ()), ())) (fun _ _ => True) (by
   intro k hk s _
   refine ⟨?_, fun _ _ => trivial⟩
   simp only [Np]
   rw [Aa (show (k : Int) < ((ja q : Nat) : Int) by omega), Ub hk]
   simp only [zz, jb, A3, Hm, Jj]
   generalize q[k] = x
   cases hev : Fg x with
   | false => rfl
   | true =>
    have hkey := Zl hev
    simp only [jg, ua, jk, Wd]
    rw [Aa hkey.2.2.1]
    simp only [gt_iff_lt]
    cases decide (x.2.1 ≥ keys) <;> cases decide (x.1 < s.1) <;> cases (x.2.2.1 == (Ya .i64 (Ac .i64 s.2 x.2.1) 1 == 1)) <;> rfl)
  (by
   intro s _
   simp only [Np]
   rw [Ba (by omega)]; rfl) (by omega) (0, d) trivial
 unfold Yq Tr
 erw [hl]
 have hsp := EO keys q 0 (0, d)
 simp only [jb, Rc, JP, TE, Qaa]
 by_cases h64 : q.length ≤ 64
 ·rw [Aa h64]
  cases h1 : Wa (fun _ s x => Hm keys s x) 0 (0, d) q with
  | inl s =>
   rw [h1] at hsp
   simp only [Rk] at hsp
   cases h2 : Wa (fun _ s x => Er s x) 0 (0, d) q with
   | inl s2 =>
    rw [h2] at hsp
    simp only [Rk, Bool.and_true] at hsp
    rw [← hsp]
    simp only [qm]
    rw [Aa (show ((ja q : Nat) : Int) ≤ 64 by omega)]; rfl
   | inr u => rw [h2] at hsp; simp [Rk] at hsp
  | inr u =>
   rw [h1] at hsp
   simp only [Rk] at hsp
   cases h2 : Wa (fun _ s x => Er s x) 0 (0, d) q with
   | inl s2 =>
    rw [h2] at hsp
    simp only [Rk, Bool.and_true] at hsp
    rw [← hsp]; rfl
   | inr u => cases Cd (fun _ (x : Ca) => !decide (x.2.1 ≥ keys)) 0 q <;> rfl
 ·rw [Ba h64]
  cases h1 : Wa (fun _ s x => Hm keys s x) 0 (0, d) q with
  | inl s => simp only [qm]; rw [Ba (show ¬ ((ja q : Nat) : Int) ≤ 64 by omega)]; cases Cd (fun _ (x : Ca) => !decide (x.2.1 ≥ keys)) 0 q <;> rfl
  | inr u => cases Cd (fun _ (x : Ca) => !decide (x.2.1 ≥ keys)) 0 q <;> rfl
def Kf (t : Dt) : Bool := decide (1 ≤ t.1 ∧ t.1 ≤ 1000) && (decide (0 ≤ t.2.1 ∧ t.2.1 ≤ 1000) && decide (0 ≤ t.2.2.1 ∧ t.2.2.1 ≤ 2))
theorem NJ (t : Dt) : Kw t = some (Kf t, ()) := by
 unfold Kw Kf
 simp only [Oh, Ph]
 apply Tc
 simp only [Dd, decide_eq_true_eq, jq, and_false, or_false, jd]
 omega
theorem UW (t : Dt) : SD t = some (Kf t, ()) := by
 unfold SD Kf
 simp only [Fe, jb, Oh, Ph]
 apply Tc
 simp only [Dd, decide_eq_true_eq, jq, and_false, or_false, jd]
theorem ON (e : Jb) (hn : e.2.2.2.1.length ≤ Ga) (hx : ∀ x ∈ e.2.2.2.1, Xv x) : LA e = some (Kp e.2.2.2.1, ()) := by
 have h20 : Ga = 1048576 := rfl
 have hl := (Kg (step := fun x => Sv x.1.1 x.1.2.1 x.1.2.2.1 x.2.1) e.2.2.2.1 (fun _ s (x : Va) => Lc .i64 s (Ma .i64 1 x.1)) (fun s i => (((), s, i, ()), (e, ())))
  (fun s => .inl ((s, ()), ())) (fun _ _ => True) (by
   intro k hk s _
   refine ⟨?_, trivial⟩
   simp only [Sv]
   rw [Aa (show (k : Int) < ((ja e.2.2.2.1 : Nat) : Int) by omega), Ub hk]
   have hk' := hx _ (qt hk)
   simp only [zz, jb, Sr, Fe]
   rw [Aa (show 0 ≤ e.2.2.2.1[k].1 ∧ e.2.2.2.1[k].1 ≤ 31 from ⟨hk'.lo, hk'.hi⟩), Aa hk'.lo]; rfl)
  (by
   intro s _
   simp only [Sv]
   rw [Ba (by omega)]; rfl) (by omega) 0 trivial).1
 unfold LA Qx
 erw [hl]
 rfl
def ZJ (l : List Ca) : Int := (l.getD (l.length - 1) (0, 0, false, ())).1
def Th (l : List Ca) (t : Int) : Bool := ((l.length : Int) == 0) || decide (ZJ l ≤ t)
theorem LY {l : List Ca} (h : 0 < l.length) (hn : l.length ≤ Ga) : ∃ x, Wb l (j9 .i64 (((ja l : Nat) : Int) - 1)) = some x ∧ x.1 = ZJ l := by
 have h20 : Ga = 1048576 := rfl
 refine ⟨l[l.length - 1], ?_, ?_⟩
 ·rw [Qc (by omega) (by omega), show ((ja l : Nat) : Int) - 1 = ((l.length - 1 : Nat) : Int) by omega, Ub (by omega)]
 ·simp [ZJ, q9, je (show l.length - 1 < l.length by omega)]
theorem Ts (l : List Ca) (t : Int) (hn : l.length ≤ Ga) : Wi l t = some (Th l t, ()) := by
 unfold Wi Th
 by_cases h0 : l.length = 0
 ·simp [h0]
 ·obtain ⟨x, h1, h2⟩ := LY (l := l) (by omega) hn
  rw [h1, show (((l.length : Nat) : Int) == 0) = false by simp; intro h; rw [h] at h0; simp at h0]
  simp only [ua, jb, h2, zd]
noncomputable def Xd (d : Eb) : Bool :=
 Tj d.1 && (Kf d.2.1 && (decide (0 ≤ d.2.2.2.1 ∧ d.2.2.2.1 ≤ 1000000) && (decide (0 ≤ d.2.2.2.2.1 ∧ d.2.2.2.2.1 ≤ d.2.2.2.1) && (Rc d.2.2.1 (Kp d.1.2.2.2.1) d.1.1.1 && (Th d.2.2.1 d.2.2.2.1 &&
  (decide (0 ≤ d.2.2.2.2.2.1 ∧ d.2.2.2.2.2.1 ≤ d.1.1.1) && decide (0 ≤ d.2.2.2.2.2.2.1 ∧ d.2.2.2.2.2.2.1 ≤ d.2.2.2.1)))))))
theorem Bw (d : Eb) : Jc Ge d = Jc Xc d.1 + Jc (.sl Bc) d.2.2.1 := by
 simp only [Jc, yl, js]
theorem An (l : List Ca) : Jc (.sl Bc) l = l.length := Bp (e := Bc) rfl l
theorem OC {e : Jb} (h : Tj e = true) : Dg e.2.2.2.1 = true := by
 simp only [Tj, jd] at h
 exact h.2.2.1
theorem Ks (d : Eb) (hz : Jc Ge d ≤ Ga) : Il d = some (Xd d, ()) := by
 have hz' := hz
 rw [Bw, An] at hz'
 have hz2 := hz'
 rw [Cn, Qm] at hz2
 unfold Il Xd
 rw [OY _ (by omega)]
 cases he : Tj d.1 with
 | false => rfl
 | true =>
  have hh := Iu (OC he)
  simp only [jb, jg, ua, jk, NJ]
  cases Kf d.2.1 with
  | false => rfl
  | true =>
   rw [GE _ (by omega) hh]
   simp only [jb, jg, ua, jk]
   rw [Us _ _ _ (by omega), Ts _ _ (by omega)]
   simp only [jb]
   have key : ∀ a b c e f g h i j k : Bool, cond a (some (false, ())) (cond b (some (false, ())) (cond c (some (false, ())) (cond e (some (false, ())) (cond (!f) (some (false, ())) (cond (!g) (some (false, ())) (cond h (cond i (cond j (some (k, ())) (some (false, ()))) (some (false, ()))) (some (false, ())))))))) =
    some ((((!a && !b) && ((!c && !e) && (f && (g && ((h && i) && (j && k)))))), ()) : Bool × Unit) := by
    intro a b c e f g h i j k
    cases a <;> cases b <;> cases c <;> cases e <;> cases f <;> cases g <;> cases h <;> cases i <;> cases j <;> cases k <;> rfl
   erw [key]
   apply Tc
   simp only [jd, yx, decide_eq_true_eq, decide_eq_false_iff_not]
   constructor
   ·rintro ⟨⟨h1, h2⟩, ⟨h3, h4⟩, h5, h6, ⟨h7, h8⟩, h9, h10⟩
    exact ⟨⟨by omega, by omega⟩, ⟨by omega, by omega⟩, h5, h6, ⟨h7, h8⟩, h9, h10⟩
   ·rintro ⟨⟨h1, h2⟩, ⟨h3, h4⟩, h5, h6, ⟨h7, h8⟩, h9, h10⟩
    exact ⟨⟨by omega, by omega⟩, ⟨by omega, by omega⟩, h5, h6, ⟨h7, h8⟩, h9, h10⟩
theorem QJ (d : Eb) (hz : Jc Ge d ≤ Ga) : Au d = some (Xd d, ()) := by
 have hz' := hz
 rw [Bw, An] at hz'
 have hz2 := hz'
 rw [Cn, Qm] at hz2
 unfold Au Xd
 rw [BM _ (by omega)]
 cases he : Tj d.1 with
 | false => rfl
 | true =>
  have hh := Iu (OC he)
  simp only [jb, jg, ua, jk, UW, Fe]
  cases Kf d.2.1 with
  | false => rfl
  | true =>
   rw [ON _ (by omega) hh]
   simp only [jb, jg, ua, jk]
   rw [CJ _ _ _ (by omega)]
   simp only [jb, Th]
   by_cases h0 : d.2.2.1.length = 0
   ·rw [Ba (show ¬ ((ja d.2.2.1 : Nat) : Int) > 0 by omega), show (((d.2.2.1.length : Nat) : Int) == 0) = true by simp [h0]]
    simp only [ua, Bool.true_or, jk]
    cases decide (0 ≤ d.2.2.2.1 ∧ d.2.2.2.1 ≤ 1000000) <;> cases decide (0 ≤ d.2.2.2.2.1 ∧ d.2.2.2.2.1 ≤ d.2.2.2.1) <;> cases Rc d.2.2.1 (Kp d.1.2.2.2.1) d.1.1.1 <;> cases decide (0 ≤ d.2.2.2.2.2.1 ∧ d.2.2.2.2.2.1 ≤ d.1.1.1) <;> rfl
   ·obtain ⟨x, h1, h2⟩ := LY (l := d.2.2.1) (by omega) (by omega)
    rw [Aa (show ((ja d.2.2.1 : Nat) : Int) > 0 by omega), h1, show (((d.2.2.1.length : Nat) : Int) == 0) = false by simp; intro h; rw [h] at h0; simp at h0]
    simp only [zz, jb, zd, h2]
    have e1 : decide (ZJ d.2.2.1 > d.2.2.2.1) = !decide (ZJ d.2.2.1 ≤ d.2.2.2.1) := by
     rw [qx]; simp only [decide_eq_true_eq, yx, decide_eq_false_iff_not]; omega
    rw [e1]
    cases decide (0 ≤ d.2.2.2.1 ∧ d.2.2.2.1 ≤ 1000000) <;> cases decide (0 ≤ d.2.2.2.2.1 ∧ d.2.2.2.2.1 ≤ d.2.2.2.1) <;> cases Rc d.2.2.1 (Kp d.1.2.2.2.1) d.1.1.1 <;> cases decide (ZJ d.2.2.1 ≤ d.2.2.2.1) <;> cases decide (0 ≤ d.2.2.2.2.2.1 ∧ d.2.2.2.2.2.1 ≤ d.1.1.1) <;> rfl

def Yd {S : Type} (g : Nat → S → S) : Nat → S → S
 | 0, s => s
 | n + 1, s => g n (Yd g n s)
theorem Vl {X R S : Type} {step : X → Option (X ⊕ R)} (n : Nat) (hn : n < 9223372036854775807) (g : Nat → S → S) (s0 : S) (I : S → Int → X) (out : S → R)
 (h : ∀ k, k < n → step (I (Yd g k s0) (k : Int)) = some (.inl (I (g k (Yd g k s0)) (j9 .i64 ((k : Int) + 1))))) (he : step (I (Yd g n s0) (n : Int)) = some (.inr (out (Yd g n s0)))) :
 Ib step (I s0 0) = some (out (Yd g n s0)) := by
 have := GN (step := step) (fun k => I (Yd g k s0) (k : Int)) n (out (Yd g n s0)) (fun k hk => by
  rw [h k hk, Ag (by omega)]; rfl) he
 exact this
theorem NW {e : Ty} {c : Nat} : ∀ {w : List (T e)}, (∀ x ∈ w, Jc e x ≤ c) → Jc (.sl e) w ≤ (c + 1) * w.length
 | [], _ => by simp [Jc]
 | x :: r, h => by
  have h1 := h x (by simp)
  have h2 : Jc (.sl e) r ≤ (c + 1) * r.length := NW fun y hy => h y (by simp [hy])
  have h3 : Jc (.sl e) r = ja r + (List.map (Jc e) r).sum := rfl
  have h4 : Jc (.sl e) (x :: r) = (ja r + 1) + (Jc e x + (List.map (Jc e) r).sum) := by simp [Jc]
  rw [h4, jw, Nat.mul_add]
  omega
theorem Ng {n : Nat} (h : n ≤ 1073741824) : jx n Xa = true := ji h
theorem M1 {α β : Type} (f : α → β) : ∀ (xs : List α) (k : Nat) (o : List β), Bd (fun _ o x => jf o [f x]) k o xs = o ++ xs.map f
 | [], _, o => by simp [Bd]
 | x :: r, k, o => by
  simp only [Bd]
  rw [M1 f r]
  simp
theorem FN {X R α β : Type} {step : X → Option (X ⊕ R)} (xs : List α) (f : α → β) (I : List β → Int → X) (out : List β → R) (hn : xs.length ≤ 1073741824)
 (h : ∀ k (hk : k < xs.length) (o : List β), ja o = k → step (I o (k : Int)) = some (.inl (I (jf o [f xs[k]]) (j9 .i64 ((k : Int) + 1)))))
 (he : ∀ o : List β, step (I o (xs.length : Int)) = some (.inr (out o))) : Ib step (I [] 0) = some (out (xs.map f)) := by
 have := (Kg (step := step) xs (fun _ o x => jf o [f x]) I out (fun k o => ja o = k) (fun k hk o ho => ⟨h k hk o ho, by simp [ho]⟩) (fun o _ => he o) (by omega) [] rfl).1
 rw [this, M1]
 rfl
theorem DaI (a : List Int) : Jc (.sl int) a = a.length := Bp (e := int) rfl a
theorem J3 (a : List Pa) : Jc (.sl Mc) a = a.length := Bp (e := Mc) rfl a
theorem FE (l : List Int) (h : l.length ≤ Ga) : Zp l = some (l, ()) := by
 have h20 : Ga = 1048576 := rfl
 unfold Zp
 rw [Ng (by simp; omega)]
 rfl

theorem Nw : (2 : Nat) ^ 63 = 9223372036854775808 := rfl
theorem FF {a : Nat} (ha : a < 2 ^ 63) : (BitVec.ofInt 64 (a : Int)).toNat = a := by
 rw [BitVec.ofInt_natCast, BitVec.toNat_ofNat, Nat.mod_eq_of_lt (by omega)]
theorem Qu {a b : Nat} (ha : a < 2 ^ 63) (hb : b < 2 ^ 63) : Ya .i64 (a : Int) (b : Int) = ((a &&& b : Nat) : Int) := by
 have h : (BitVec.ofInt (IntKind.bits .i64) (a : Int) &&& BitVec.ofInt (IntKind.bits .i64) (b : Int)).toNat = a &&& b := by
  rw [BitVec.toNat_and]; erw [FF ha, FF hb]
 unfold Ya
 rw [h]
 have h2 : a &&& b ≤ a := zm
 have h3 := Nw
 exact Qc (by omega) (by omega)
theorem Fi {a b : Nat} (ha : a < 2 ^ 63) (hb : b < 2 ^ 63) : Lc .i64 (a : Int) (b : Int) = ((a ||| b : Nat) : Int) := by
 have h : (BitVec.ofInt (IntKind.bits .i64) (a : Int) ||| BitVec.ofInt (IntKind.bits .i64) (b : Int)).toNat = a ||| b := by
  rw [BitVec.toNat_or]; erw [FF ha, FF hb]
 unfold Lc
 rw [h]
 have h2 : a ||| b < 2 ^ 63 := zn ha hb
 have h3 := Nw
 exact Qc (by omega) (by omega)
theorem Vm {a b : Nat} (ha : a < 2 ^ 63) (hb : b < 2 ^ 63) : Yb .i64 (a : Int) (b : Int) = ((a ^^^ b : Nat) : Int) := by
 have h : (BitVec.ofInt (IntKind.bits .i64) (a : Int) ^^^ BitVec.ofInt (IntKind.bits .i64) (b : Int)).toNat = a ^^^ b := by
  rw [BitVec.toNat_xor]; erw [FF ha, FF hb]
 unfold Yb
 rw [h]
 have h2 : a ^^^ b < 2 ^ 63 := qs ha hb
 have h3 := Nw
 exact Qc (by omega) (by omega)
theorem Oay {w : Nat} (x y : BitVec w) : x &&& ~~~y = x ^^^ (x &&& y) := by
 ext i hi
 simp only [BitVec.getElem_and, BitVec.getElem_not, BitVec.getElem_xor]
 cases x[i] <;> cases y[i] <;> rfl
theorem Yn {a b : Nat} (ha : a < 2 ^ 63) (hb : b < 2 ^ 63) : Pc .i64 (a : Int) (b : Int) = ((a ^^^ (a &&& b) : Nat) : Int) := by
 have h : (BitVec.ofInt (IntKind.bits .i64) (a : Int) &&& ~~~ BitVec.ofInt (IntKind.bits .i64) (b : Int)).toNat = a ^^^ (a &&& b) := by
  rw [Oay, BitVec.toNat_xor, BitVec.toNat_and]; erw [FF ha, FF hb]
 unfold Pc
 rw [h]
 have h1 : a &&& b ≤ a := zm
 have h2 : a ^^^ (a &&& b) < 2 ^ 63 := qs ha (by omega)
 have h3 := Nw
 exact Qc (by omega) (by omega)
theorem NL (a : Nat) {k : Nat} (hk : k ≤ 64) : Ac .i64 (a : Int) (k : Int) = ((a >>> k : Nat) : Int) := by
 unfold Ac
 have h1 : min (jy (k : Int)) (IntKind.bits .i64) = k := by
  show min (jy (k : Int)) 64 = k
  rw [jn]; omega
 rw [h1, zo]
 have h2 : (2 : Int) ^ k = ((2 ^ k : Nat) : Int) := by simp
 rw [h2]
 exact (Int.fdiv_eq_ediv_of_nonneg _ (Int.natCast_nonneg _)).trans (by simp)
theorem JR {a k : Nat} (h : a * 2 ^ k < 2 ^ 63) (hk : k ≤ 64) : Ma .i64 (a : Int) (k : Int) = ((a <<< k : Nat) : Int) := by
 unfold Ma
 have h1 : min (jy (k : Int)) (IntKind.bits .i64) = k := by
  show min (jy (k : Int)) 64 = k
  rw [jn]; omega
 have h2 : (2 : Int) ^ k = ((2 ^ k : Nat) : Int) := by simp
 have h4 : (a : Int) * ((2 ^ k : Nat) : Int) = ((a * 2 ^ k : Nat) : Int) := by simp
 rw [h1, ql, h2, h4]
 have h3 := Nw
 generalize a * 2 ^ k = z at *
 exact Qc (by omega) (by omega)
theorem Qj {a k : Nat} (ha : a < 2 ^ 63) (hk : k ≤ 64) : (Wd (a : Int) (k : Int) == 1) = a.testBit k := by
 unfold Wd
 have h1 : a >>> k ≤ a := by rw [zo]; exact Nat.div_le_self _ _
 have h3 := Nw
 rw [NL a hk]
 show (Ya .i64 ((a >>> k : Nat) : Int) ((1 : Nat) : Int) == 1) = _
 rw [Qu (by omega) (by omega), Nat.and_one_is_mod, Nat.testBit_eq_decide_div_mod_eq, zo]
 have : a / 2 ^ k % 2 = 0 ∨ a / 2 ^ k % 2 = 1 := by omega
 rcases this with h | h <;> rw [h] <;> rfl
theorem Ye {k : Nat} (hk : k ≤ 62) : (2 : Nat) ^ k < 2 ^ 63 := Nat.pow_lt_pow_right (by omega) (by omega)
theorem TaH {a k : Nat} (ha : a < 2 ^ 63) (hk : k ≤ 62) (h : (Wd (a : Int) (k : Int) == 1) = false) :
 Lc .i64 (a : Int) (Ma .i64 1 (k : Int)) = Yb .i64 (a : Int) (Ma .i64 1 (k : Int)) := by
 rw [Qj ha (by omega)] at h
 rw [Ve (by omega), Fi ha (Ye hk), Vm ha (Ye hk)]
 congr 1
 apply zp
 intro i
 rw [zq, qp, qq]
 by_cases hi : k = i
 ·subst hi; rw [h, Aa rfl]; rfl
 ·rw [Ba hi]; cases a.testBit i <;> rfl
theorem Oas {a k : Nat} (ha : a < 2 ^ 63) (hk : k ≤ 62) (h : (Wd (a : Int) (k : Int) == 1) = true) :
 Pc .i64 (a : Int) (Ma .i64 1 (k : Int)) = Yb .i64 (a : Int) (Ma .i64 1 (k : Int)) := by
 rw [Qj ha (by omega)] at h
 rw [Ve (by omega), Yn ha (Ye hk), Vm ha (Ye hk)]
 congr 1
 apply zp
 intro i
 rw [qp, qp, zr, qq]
 by_cases hi : k = i
 ·subst hi; rw [h, Aa rfl]; rfl
 ·rw [Ba hi]; cases a.testBit i <;> rfl
theorem Oad {a k : Nat} (ha : a < 2 ^ 63) (hk : k ≤ 62) : ∃ b : Nat, Yb .i64 (a : Int) (Ma .i64 1 (k : Int)) = (b : Int) ∧ b < 2 ^ 63 := by
 rw [Ve (by omega), Vm ha (Ye hk)]
 exact ⟨_, rfl, qs ha (Ye hk)⟩
theorem CaF {a k n : Nat} (ha : a < 2 ^ 63) (hk : k ≤ 62) (hn : n ≤ 64) :
 (Wd (Lc .i64 (a : Int) (Ma .i64 1 (k : Int))) (n : Int) == 1) = ((Wd (a : Int) (n : Int) == 1) || decide (k = n)) := by
 rw [Ve (by omega), Fi ha (Ye hk), Qj (zn ha (Ye hk)) hn, Qj ha hn, zq, qq]
theorem Uad {a : Nat} (ha : a < 2 ^ 64) : (BitVec.ofInt 64 (a : Int)).toNat = a := by
 rw [BitVec.ofInt_natCast, BitVec.toNat_ofNat, Nat.mod_eq_of_lt (by omega)]
theorem YN {a : Nat} (h : a < 2 ^ 64) : j9 .u64 (a : Int) = (a : Int) := by
 have h2 : (2 : Nat) ^ 64 = 18446744073709551616 := by decide
 exact IntWalk.u64_in _ ⟨by omega, by omega⟩
theorem Qan {a b : Nat} (ha : a < 2 ^ 64) (hb : b < 2 ^ 64) : Ya .u64 (a : Int) (b : Int) = ((a &&& b : Nat) : Int) := by
 have h : (BitVec.ofInt (IntKind.bits .u64) (a : Int) &&& BitVec.ofInt (IntKind.bits .u64) (b : Int)).toNat = a &&& b := by
  rw [BitVec.toNat_and]; erw [Uad ha, Uad hb]
 unfold Ya
 rw [h]
 have h2 : a &&& b ≤ a := zm
 exact YN (by omega)
theorem Van (a : Nat) {k : Nat} (hk : k ≤ 64) : Ac .u64 (a : Int) (k : Int) = ((a / 2 ^ k : Nat) : Int) := by
 unfold Ac
 have h1 : min (jy (k : Int)) (IntKind.bits .u64) = k := by
  show min (jy (k : Int)) 64 = k
  rw [jn]; omega
 rw [h1]
 have h2 : (2 : Int) ^ k = ((2 ^ k : Nat) : Int) := by simp
 rw [h2]
 exact (Int.fdiv_eq_ediv_of_nonneg _ (Int.natCast_nonneg _)).trans (by simp)
def cnt : Nat → Nat → Nat
 | 0, _ => 0
 | k + 1, n => n % 2 + cnt k (n / 2)
theorem C1 : ∀ k n, cnt k n ≤ k
 | 0, _ => jo _
 | k + 1, n => by have := C1 k (n / 2); simp only [cnt]; omega
theorem WV : ∀ j k n, cnt (j + k) n = cnt j n + cnt k (n / 2 ^ j)
 | 0, k, n => by simp [cnt]
 | j + 1, k, n => by
  have h := WV j k (n / 2)
  rw [show j + 1 + k = (j + k) + 1 by omega]
  simp only [cnt, h, Nat.div_div_eq_div_mul, Nat.pow_succ, Nat.mul_comm]
  omega
theorem U3 : ∀ j n, cnt j (n % 2 ^ j) = cnt j n
 | 0, _ => rfl
 | j + 1, n => by
  have h := U3 j (n / 2)
  have e1 : n % 2 ^ (j + 1) % 2 = n % 2 := Nat.mod_mod_of_dvd _ (by rw [Nat.pow_succ]; exact ⟨2 ^ j, Nat.mul_comm _ _⟩)
  have e2 : n % 2 ^ (j + 1) / 2 = n / 2 % 2 ^ j := by
   rw [Nat.pow_succ, Nat.mul_comm, Nat.mod_mul_right_div_self]
  simp only [cnt, e1, e2, h]
theorem X9 : ∀ k, cnt k 0 = 0
 | 0 => rfl
 | k + 1 => by have := X9 k; simp [cnt, this]
def u1 (a : Nat) : Nat := ((a / 2) &&& 85) + (a &&& 85)
def u2 (a : Nat) : Nat := ((a / 4) &&& 51) + (a &&& 51)
theorem Nal : ∀ a : Fin 256, u1 a.val < 256 := by decide +kernel
theorem Oal : ∀ a : Fin 256, u2 (u1 a.val) % 16 ≤ 4 ∧ u2 (u1 a.val) / 16 ≤ 4 := by decide +kernel
theorem Pal : ∀ a : Fin 256, (u2 (u1 a.val) / 16 + u2 (u1 a.val)) % 16 = cnt 8 a.val := by decide +kernel
theorem m5 : ∀ a : Fin 128, (a.val &&& 85) = (a.val + 128 * 1) &&& 85 := by decide +kernel
theorem m3 : ∀ a : Fin 64, ∀ c : Fin 4, (a.val &&& 51) = (a.val + 64 * c.val) &&& 51 := by decide +kernel
theorem m5' {a c : Nat} (h : a < 128) (hc : c < 2) : (a + 128 * c) &&& 85 = a &&& 85 := by
 have : c = 0 ∨ c = 1 := by omega
 rcases this with rfl | rfl
 ·rfl
 ·exact (m5 ⟨a, h⟩).symm
theorem m3' {a c : Nat} (h : a < 64) (hc : c < 4) : (a + 64 * c) &&& 51 = a &&& 51 := (m3 ⟨a, h⟩ ⟨c, hc⟩).symm
theorem BT {a b m p : Nat} (ha : a < 256) (hp : p < 256) : (a + 256 * b) &&& (p + 256 * m) = (a &&& p) + 256 * (b &&& m) := by
 have h1 : ((a + 256 * b) &&& (p + 256 * m)) % 2 ^ 8 = a &&& p := by
  rw [Nat.and_mod_two_pow]
  congr 1 <;> omega
 have h2 : ((a + 256 * b) &&& (p + 256 * m)) / 2 ^ 8 = b &&& m := by
  rw [← zo, Nat.shiftRight_and_distrib, zo, zo]
  congr 1 <;> omega
 generalize (a + 256 * b) &&& (p + 256 * m) = z at *
 rw [← h1, ← h2]
 omega
theorem J9 {a b c M m : Nat} (ha : a < 256) (hb : b < 256) (hc : c < 256) (hm : m < 256) (hM : M = m + 256 * (m + 256 * (m + 256 * (M / 16777216)))) :
 (a + 256 * (b + 256 * c)) &&& M = (a &&& m) + 256 * ((b &&& m) + 256 * (c &&& m)) := by
 rw [hM, show c = c + 256 * 0 by omega, BT ha hm, BT hb hm, BT hc hm]
 simp
def M5 : Nat := 6148914691236517205
def M3 : Nat := 3689348814741910323
def MF : Nat := 1085102592571150095
def s1 (n : Nat) : Nat := (n / 2 &&& M5) + (n &&& M5)
def s2 (n : Nat) : Nat := (n / 4 &&& M3) + (n &&& M3)
def s3 (n : Nat) : Nat := (n / 16 + n) &&& MF
theorem NaM {a b c : Nat} (ha : a < 256) (hb : b < 256) (hc : c < 256) : s1 (a + 256 * (b + 256 * c)) = u1 a + 256 * (u1 b + 256 * u1 c) := by
 unfold s1
 have h : (a + 256 * (b + 256 * c)) / 2 = (a / 2 + 128 * (b % 2)) + 256 * ((b / 2 + 128 * (c % 2)) + 256 * (c / 2 + 128 * 0)) := by omega
 rw [h, J9 (m := 85) (by omega) (by omega) (by omega) (by omega) rfl, J9 (m := 85) ha hb hc (by omega) rfl, m5' (by omega) (by omega), m5' (by omega) (by omega), m5' (by omega) (by omega)]
 unfold u1
 omega
theorem PaM {a b c : Nat} (ha : a < 256) (hb : b < 256) (hc : c < 256) : s2 (a + 256 * (b + 256 * c)) = u2 a + 256 * (u2 b + 256 * u2 c) := by
 unfold s2
 have h : (a + 256 * (b + 256 * c)) / 4 = (a / 4 + 64 * (b % 4)) + 256 * ((b / 4 + 64 * (c % 4)) + 256 * (c / 4 + 64 * 0)) := by omega
 rw [h, J9 (m := 51) (by omega) (by omega) (by omega) (by omega) rfl, J9 (m := 51) ha hb hc (by omega) rfl, m3' (by omega) (by omega), m3' (by omega) (by omega), m3' (by omega) (by omega)]
 unfold u2
 omega
theorem Kaj (x : Nat) : x &&& 15 = x % 16 := by
 have := Nat.and_two_pow_sub_one_eq_mod x 4
 exact this
theorem RaM {a b c : Nat} (ha : a % 16 ≤ 4 ∧ a / 16 ≤ 4) (hb : b % 16 ≤ 4 ∧ b / 16 ≤ 4) (hc : c % 16 ≤ 4 ∧ c / 16 ≤ 4) :
 s3 (a + 256 * (b + 256 * c)) = (a / 16 + a) % 16 + 256 * ((b / 16 + b) % 16 + 256 * ((c / 16 + c) % 16)) := by
 unfold s3
 have h : (a + 256 * (b + 256 * c)) / 16 + (a + 256 * (b + 256 * c)) = (a / 16 + a + 16 * (b % 16)) + 256 * ((b / 16 + b + 16 * (c % 16)) + 256 * (c / 16 + c)) := by omega
 rw [h, J9 (m := 15) (by omega) (by omega) (by omega) (by omega) rfl, Kaj, Kaj, Kaj]
 omega
def Qau (z : Nat) : Nat := (z + z / 256 + (z + z / 256) / 65536 + (z + z / 256 + (z + z / 256) / 65536) / 4294967296) % 128
theorem VaH {n : Nat} (h : n < 16777216) : Qau (s3 (s2 (s1 n))) = cnt 32 n := by
 have e : n = n % 256 + 256 * (n / 256 % 256 + 256 * (n / 65536)) := by omega
 have ha : n % 256 < 256 := by omega
 have hb : n / 256 % 256 < 256 := by omega
 have hc : n / 65536 < 256 := by omega
 have hcnt : cnt 32 n = cnt 8 (n % 256) + (cnt 8 (n / 256 % 256) + cnt 8 (n / 65536)) := by
  rw [show (32 : Nat) = 8 + (8 + (8 + 8)) from rfl, WV, WV, WV]
  have e1 := U3 8 n
  have e2 := U3 8 (n / 2 ^ 8)
  rw [← e1, ← e2]
  have e3 : n / 2 ^ 8 / 2 ^ 8 = n / 65536 := by omega
  have e4 : n / 65536 / 2 ^ 8 = 0 := by omega
  rw [e3, e4, X9]
  simp
 rw [hcnt]
 generalize n % 256 = a at *
 generalize n / 256 % 256 = b at *
 generalize n / 65536 = c at *
 rw [e, NaM ha hb hc, PaM (Nal ⟨a, ha⟩) (Nal ⟨b, hb⟩) (Nal ⟨c, hc⟩), RaM (Oal ⟨a, ha⟩) (Oal ⟨b, hb⟩) (Oal ⟨c, hc⟩), Pal ⟨a, ha⟩, Pal ⟨b, hb⟩, Pal ⟨c, hc⟩]
 have h1 := C1 8 a
 have h2 := C1 8 b
 have h3 := C1 8 c
 show Qau (cnt 8 a + 256 * (cnt 8 b + 256 * cnt 8 c)) = _
 unfold Qau
 generalize cnt 8 a = i at *
 generalize cnt 8 b = j at *
 generalize cnt 8 c = k at *
 have g1 : (i + 256 * (j + 256 * k)) / 256 = j + 256 * k := by omega
 rw [g1]
 have g2 : (i + 256 * (j + 256 * k) + (j + 256 * k)) / 65536 = k := by omega
 rw [g2]
 have g3 : (i + 256 * (j + 256 * k) + (j + 256 * k) + k) / 4294967296 = 0 := by omega
 rw [g3]
 omega
theorem MaM {n : Nat} (h : n < 16777216) : s1 n < 33554432 := by
 have h1 : n / 2 &&& M5 ≤ n / 2 := zm
 have h2 : n &&& M5 ≤ n := zm
 unfold s1; omega
theorem OaM {n : Nat} (h : n < 33554432) : s2 n < 67108864 := by
 have h1 : n / 4 &&& M3 ≤ n / 4 := zm
 have h2 : n &&& M3 ≤ n := zm
 unfold s2; omega
theorem QaM {n : Nat} (h : n < 67108864) : s3 n < 134217728 := by
 have h1 : (n / 16 + n) &&& MF ≤ n / 16 + n := zm
 unfold s3; omega
theorem ZaE (x : Nat) : x &&& 127 = x % 128 := by
 have := Nat.and_two_pow_sub_one_eq_mod x 7
 exact this
theorem V8 {n : Nat} (h : n < 16777216) : BB (n : Int) = some (((cnt 32 n : Nat) : Int), ()) := by
 unfold BB XD
 have p64 : (2 : Nat) ^ 64 = 18446744073709551616 := by decide
 have sh : ∀ (x : Nat) (k : Int) (j : Nat), k = (j : Int) → j ≤ 64 → Ac .u64 (x : Int) k = ((x / 2 ^ j : Nat) : Int) := fun x k j hk hj => by rw [hk]; exact Van x hj
 have an : ∀ (x : Nat) (k : Int) (j : Nat), x < 2 ^ 64 → k = (j : Int) → j < 2 ^ 64 → Ya .u64 (x : Int) k = ((x &&& j : Nat) : Int) := fun x k j hx hk hj => by rw [hk]; exact Qan hx hj
 have ad : ∀ x y : Nat, (x : Int) + (y : Int) = ((x + y : Nat) : Int) := fun x y => (Int.natCast_add x y).symm
 have b1 := MaM h
 have b2 := OaM b1
 have b3 := QaM b2
 have h1 : j9 .u64 ((Ya .u64 (Ac .u64 (n : Int) 1) 6148914691236517205) + (Ya .u64 (n : Int) 6148914691236517205)) = ((s1 n : Nat) : Int) := by
  rw [sh n 1 1 rfl (by omega), an _ 6148914691236517205 M5 (by omega) rfl (by decide), an _ 6148914691236517205 M5 (by omega) rfl (by decide), ad]
  exact YN (a := s1 n) (by omega)
 rw [h1]
 have h2 : j9 .u64 ((Ya .u64 (Ac .u64 ((s1 n : Nat) : Int) 2) 3689348814741910323) + (Ya .u64 ((s1 n : Nat) : Int) 3689348814741910323)) = ((s2 (s1 n) : Nat) : Int) := by
  rw [sh _ 2 2 rfl (by omega), an _ 3689348814741910323 M3 (by omega) rfl (by decide), an _ 3689348814741910323 M3 (by omega) rfl (by decide), ad]
  exact YN (a := s2 (s1 n)) (by omega)
 rw [h2]
 have h3 : Ya .u64 (j9 .u64 ((Ac .u64 ((s2 (s1 n) : Nat) : Int) 4) + ((s2 (s1 n) : Nat) : Int))) 1085102592571150095 = ((s3 (s2 (s1 n)) : Nat) : Int) := by
  rw [sh _ 4 4 rfl (by omega), ad, YN (by omega), an _ 1085102592571150095 MF (by omega) rfl (by decide)]
  rfl
 rw [h3]
 have hp := VaH h
 generalize s3 (s2 (s1 n)) = z at *
 have g1 : j9 .u64 ((z : Int) + Ac .u64 (z : Int) 8) = ((z + z / 256 : Nat) : Int) := by
  rw [sh _ 8 8 rfl (by omega), ad, YN (by omega)]
 rw [g1]
 have g2 : j9 .u64 (((z + z / 256 : Nat) : Int) + Ac .u64 ((z + z / 256 : Nat) : Int) 16) = ((z + z / 256 + (z + z / 256) / 65536 : Nat) : Int) := by
  rw [sh _ 16 16 rfl (by omega), ad, YN (by omega)]
 rw [g2]
 have g3 : j9 .u64 (((z + z / 256 + (z + z / 256) / 65536 : Nat) : Int) + Ac .u64 ((z + z / 256 + (z + z / 256) / 65536 : Nat) : Int) 32) = ((z + z / 256 + (z + z / 256) / 65536 + (z + z / 256 + (z + z / 256) / 65536) / 4294967296 : Nat) : Int) := by
  rw [sh _ 32 32 rfl (by omega), ad, YN (by omega)]
 rw [g3, Qc (by omega) (by omega)]
 show jz (some (Ya .i64 _ ((127 : Nat) : Int), ())) _ = _
 rw [Qu (by rw [Nw]; omega) (by decide), ZaE]
 rw [← hp]
 rfl
theorem LZ {n : Nat} (h : n < 16777216) : Tw (n : Int) = some (((cnt 32 n : Nat) : Int), ()) := by
 have hl := Vl (step := fun x => Ct x.1.1 x.1.2.1 x.1.2.2.1) 32 (by omega) (fun k s => j9 .i64 (s + Ya .i64 (Ac .i64 (n : Int) (k : Int)) 1)) 0 (fun s i => (((n : Int), s, i, ()), ())) (fun s => .inl ((s, ()), ()))
  (by
   intro k hk
   simp only [Ct]
   rw [Aa (show (k : Int) ≤ 31 by omega), Aa (show (0 : Int) ≤ (k : Int) by omega)]; rfl)
  (by
   simp only [Ct]
   rw [Ba (by decide)]; rfl)
 generalize hC : cnt 32 n = C
 have hi : ∀ k : Nat, k ≤ 32 → ∃ c : Nat, Yd (fun k s => j9 .i64 (s + Ya .i64 (Ac .i64 (n : Int) (k : Int)) 1)) k (0 : Int) = (c : Int) ∧ c ≤ k ∧ c + cnt (32 - k) (n / 2 ^ k) = C := by
  intro k
  induction k with
  | zero => intro _; exact ⟨0, rfl, jo _, by rw [← hC, Nat.sub_zero, Nat.pow_zero, Nat.div_one, js]⟩
  | succ k ih =>
   intro hk
   obtain ⟨c, h1, h2, h3⟩ := ih (by omega)
   refine ⟨c + n / 2 ^ k % 2, ?_, by omega, ?_⟩
   ·simp only [Yd, h1]
    rw [NL n (by omega), zo]
    have hd : n / 2 ^ k ≤ n := Nat.div_le_self _ _
    have e : Ya .i64 ((n / 2 ^ k : Nat) : Int) 1 = ((n / 2 ^ k % 2 : Nat) : Int) := by
     show Ya .i64 ((n / 2 ^ k : Nat) : Int) ((1 : Nat) : Int) = _
     rw [Qu (by rw [Nw]; omega) (by decide), Nat.and_one_is_mod]
    rw [e, ← Int.natCast_add, Qc (by omega) (by omega)]
   ·rw [show 32 - k = (32 - (k + 1)) + 1 by omega] at h3
    have h4 : cnt (32 - (k + 1) + 1) (n / 2 ^ k) = n / 2 ^ k % 2 + cnt (32 - (k + 1)) (n / 2 ^ k / 2) := rfl
    rw [h4] at h3
    rw [Nat.pow_succ, ← Nat.div_div_eq_div_mul]
    omega
 obtain ⟨c, h1, _, h3⟩ := hi 32 (jo _)
 have h4 : cnt (32 - 32) (n / 2 ^ 32) = 0 := rfl
 rw [h4, yl] at h3
 rw [h1] at hl
 unfold Tw Tv
 erw [hl]
 rw [← h3]
 rfl
def Jf (m : Qd) : Bool := decide (1 ≤ m.1 ∧ m.1 ≤ 4 ∧ 1 ≤ m.2.1 ∧ m.2.1 ≤ 6)
theorem EE (m : Qd) : Yp m = some (Jf m, ()) := by
 unfold Yp Jf
 simp only [Oh, Ph]
 apply Tc
 simp only [Dd, decide_eq_true_eq, jq, and_false, or_false]
theorem CM (m : Qd) : Sw m = some (Jf m, ()) := by
 unfold Sw Jf
 simp only [Fe, jb, Oh, Ph]
 apply Tc
 simp only [Dd, decide_eq_true_eq, jq, and_false, or_false]
 omega
def Dc (m : Qd) : Int := cond (Jf m) (m.1 * m.2.1) 0
theorem NU {m : Qd} (h : Jf m = true) : 1 ≤ m.1 * m.2.1 ∧ m.1 * m.2.1 ≤ 24 := by
 simp only [Jf, decide_eq_true_eq] at h
 obtain ⟨r, c, d, u⟩ := m
 obtain ⟨h1, h2, h3, h4⟩ := h
 simp only at h1 h2 h3 h4 ⊢
 have : r = 1 ∨ r = 2 ∨ r = 3 ∨ r = 4 := by omega
 rcases this with rfl | rfl | rfl | rfl <;> omega
theorem To (m : Qd) : Lj m = some (Dc m, ()) := by
 unfold Lj Dc
 rw [EE]
 cases h : Jf m with
 | false => rfl
 | true => simp only [jb, jg, ua, zz]; rw [Qc (by have := NU h; omega) (by have := NU h; omega)]
theorem Rv (m : Qd) : Zm m = some (Dc m, ()) := by
 unfold Zm Dc
 rw [CM]
 cases h : Jf m with
 | false => rfl
 | true => simp only [jb, jg, ua, zz]; rw [Qc (by have := NU h; omega) (by have := NU h; omega)]
theorem Ou {α : Type} (x lo hi : Int) (X r : α) : cond (decide (x < lo)) X (cond (decide (x > hi)) X r) = cond (decide (lo ≤ x ∧ x ≤ hi)) r X := by
 by_cases h1 : x < lo
 ·rw [Aa h1, Ba (show ¬ (lo ≤ x ∧ x ≤ hi) by omega)]; rfl
 ·rw [Ba h1]
  by_cases h2 : x > hi
  ·rw [Aa h2, Ba (show ¬ (lo ≤ x ∧ x ≤ hi) by omega)]; rfl
  ·rw [Ba h2, Aa (show lo ≤ x ∧ x ≤ hi by omega)]; rfl
theorem Hq {α : Type} (b : Bool) (x y : α) : cond (!b) x y = cond b y x := by cases b <;> rfl
theorem Yam (a b : Bool) : cond a (some (b, ())) (some (false, ())) = some ((a && b, ()) : Bool × Unit) := by cases a <;> rfl
theorem SP {k : Int} (h : 0 ≤ k ∧ k ≤ 62) : Ma .i64 1 k = ((2 ^ k.toNat : Nat) : Int) := by
 have : k = ((k.toNat : Nat) : Int) := by omega
 rw [this, Ve (by omega)]; rfl
theorem Dac {k : Nat} (h : k ≤ 62) : 1 ≤ 2 ^ k ∧ 2 ^ k ≤ 4611686018427387904 := by
 refine ⟨Nat.one_le_two_pow, ?_⟩
 have := qo (n := 2) (by omega) h
 exact this
def Rd (k x : Int) : Bool := decide (0 ≤ x ∧ x < ((2 ^ k.toNat : Nat) : Int))
def Ic (m : Qd) (x : Int) : Bool := Jf m && Rd (Dc m) x
theorem C2 {m : Qd} (h : Jf m = true) : 1 ≤ Dc m ∧ Dc m ≤ 24 := by
 unfold Dc; rw [h]; exact NU h
theorem Nt (m : Qd) (x : Int) : Zn m x = some (Ic m x, ()) := by
 unfold Zn Ic
 rw [EE]
 cases h : Jf m with
 | false => rfl
 | true =>
  have := C2 h
  rw [To]
  simp only [jb, zz, jk]
  rw [Aa (show 0 ≤ Dc m by omega), SP (by omega)]
  simp only [zz, Yam, Rd]
  apply Tc
  simp only [jd, decide_eq_true_eq]
theorem N4 (k x : Int) (h : 0 ≤ k ∧ k ≤ 62) : decide (0 ≤ x ∧ x ≤ j9 .i64 (Ma .i64 1 k - 1)) = Rd k x := by
 have hp := Dac (k := k.toNat) (by omega)
 rw [SP h]
 unfold Rd
 generalize 2 ^ k.toNat = z at hp
 rw [Qc (by omega) (by omega)]
 rw [decide_eq_decide]
 omega
theorem TP (m : Qd) (x : Int) : XC m x = some (Ic m x, ()) := by
 unfold XC Ic
 rw [CM]
 cases h : Jf m with
 | false => rfl
 | true =>
  have := C2 h
  rw [Rv]
  simp only [jb, zz, jk, Fe]
  rw [Aa (show 0 ≤ Dc m by omega), N4 _ _ (by omega)]
  rfl
def WJ (l : List Int) : Bool := Cd (fun _ x => decide ((0 : Int) ≤ x ∧ x ≤ 99)) 0 l
def Gd (d : Rb) : Bool :=
 decide (0 ≤ d.1 ∧ d.1 ≤ 2) && (decide (1 ≤ d.2.1 ∧ d.2.1 ≤ 20) && (decide (1 ≤ d.2.2.1 ∧ d.2.2.1 ≤ 24) && ((((ja d.2.2.2.2.2.1 : Nat) : Int) == d.2.2.1) && (Rd d.2.2.1 d.2.2.2.1 && (Rd d.2.2.1 d.2.2.2.2.1 && WJ d.2.2.2.2.2.1)))))
theorem IG (d : Rb) (hn : d.2.2.2.2.2.1.length ≤ Ga) : Ro d = some (Gd d, ()) := by
 have h20 : Ga = 1048576 := rfl
 have hl := Re (step := fun x => Kn x.1.1 x.1.2.1 x.1.2.2.1) d.2.2.2.2.2.1 (fun _ x => decide ((0 : Int) ≤ x ∧ x ≤ 99)) (fun i => ((d.2.2.2.2.2.1, ((ja d.2.2.2.2.2.1 : Nat) : Int), i, ()), ()))
  (.inl ((), ())) (.inr ((false, ()), ())) (by
   intro k hk
   simp only [Kn]
   rw [Aa (show (k : Int) < ((ja d.2.2.2.2.2.1 : Nat) : Int) by omega), Ub hk]
   simp only [zz, jb, Ou]
   cases decide ((0 : Int) ≤ d.2.2.2.2.2.1[k] ∧ d.2.2.2.2.2.1[k] ≤ 99) <;> rfl) (by
   simp only [Kn]
   rw [Ba (by omega)]; rfl) (by omega)
 unfold Ro Up Gd
 simp only [Ou]
 cases decide (0 ≤ d.1 ∧ d.1 ≤ 2) with
 | false => rfl
 | true =>
  cases decide (1 ≤ d.2.1 ∧ d.2.1 ≤ 20) with
  | false => rfl
  | true =>
   by_cases h3 : 1 ≤ d.2.2.1 ∧ d.2.2.1 ≤ 24
   ·have hp := Dac (k := d.2.2.1.toNat) (by omega)
    rw [Aa h3, Aa (show 0 ≤ d.2.2.1 by omega), SP (by omega)]
    simp only [zz, jk]
    simp only [bne, Hq]
    cases (((ja d.2.2.2.2.2.1 : Nat) : Int) == d.2.2.1) with
    | false => rfl
    | true =>
     simp only [zz, jk, Rd]
     have key : ∀ (s z : Int) (X r : Option (Bool × Unit)), cond (decide (s < 0)) X (cond (decide (s ≥ z)) X r) = cond (decide (0 ≤ s ∧ s < z)) r X := by
      intro s z X r
      by_cases h1 : s < 0
      ·rw [Aa h1, Ba (show ¬ (0 ≤ s ∧ s < z) by omega)]; rfl
      ·rw [Ba h1]
       by_cases h2 : s ≥ z
       ·rw [Aa h2, Ba (show ¬ (0 ≤ s ∧ s < z) by omega)]; rfl
       ·rw [Ba h2, Aa (show 0 ≤ s ∧ s < z by omega)]; rfl
     erw [key, key, hl]
     unfold WJ
     cases Cd (fun _ x => decide ((0 : Int) ≤ x ∧ x ≤ 99)) 0 d.2.2.2.2.2.1 <;> cases decide (0 ≤ d.2.2.2.1 ∧ d.2.2.2.1 < ((2 ^ d.2.2.1.toNat : Nat) : Int)) <;> cases decide (0 ≤ d.2.2.2.2.1 ∧ d.2.2.2.2.1 < ((2 ^ d.2.2.1.toNat : Nat) : Int)) <;> rfl
   ·rw [Ba h3]; rfl
theorem KG (d : Rb) (hn : d.2.2.2.2.2.1.length ≤ Ga) : Xo d = some (Gd d, ()) := by
 have h20 : Ga = 1048576 := rfl
 have hl := Re (step := fun x => Sn x.1.1 x.1.2.1 x.2.1) d.2.2.2.2.2.1 (fun _ x => decide ((0 : Int) ≤ x ∧ x ≤ 99)) (fun i => (((), i, ()), (d, ())))
  (.inl (((), ()), (d, ()))) (.inr ((false, ()), ())) (by
   intro k hk
   simp only [Sn]
   rw [Aa (show (k : Int) < ((ja d.2.2.2.2.2.1 : Nat) : Int) by omega), Ub hk]
   simp only [zz, jb, Fe]
   cases decide ((0 : Int) ≤ d.2.2.2.2.2.1[k] ∧ d.2.2.2.2.2.1[k] ≤ 99) <;> rfl) (by
   simp only [Sn]
   rw [Ba (by omega)]; rfl) (by omega)
 unfold Xo Vp Gd
 simp only [Fe, jb, Hq]
 cases decide (0 ≤ d.1 ∧ d.1 ≤ 2) with
 | false => rfl
 | true =>
  cases decide (1 ≤ d.2.1 ∧ d.2.1 ≤ 20) with
  | false => rfl
  | true =>
   by_cases h3 : 1 ≤ d.2.2.1 ∧ d.2.2.1 ≤ 24
   ·rw [Aa h3]
    simp only [zz, jk]
    simp only [bne, Hq]
    cases (((ja d.2.2.2.2.2.1 : Nat) : Int) == d.2.2.1) with
    | false => rfl
    | true =>
     simp only [zz, jk]
     erw [hl]
     unfold WJ
     cases Cd (fun _ x => decide ((0 : Int) ≤ x ∧ x ≤ 99)) 0 d.2.2.2.2.2.1 with
     | false => cases Rd d.2.2.1 d.2.2.2.1 <;> cases Rd d.2.2.1 d.2.2.2.2.1 <;> rfl
     | true =>
      simp only [zz, jb, qm]
      rw [Aa (show 0 ≤ d.2.2.1 by omega), N4 _ _ (by omega), N4 _ _ (by omega)]
      cases Rd d.2.2.1 d.2.2.2.1 <;> cases Rd d.2.2.1 d.2.2.2.2.1 <;> rfl
   ·rw [Ba h3]; rfl
def Nu (L : List Na) (i : Nat) (x : Na) : Bool :=
 decide (0 ≤ x.1 ∧ x.1 ≤ 16777215) && (decide (24 ≤ x.2.1 ∧ x.2.1 ≤ 31) && (decide (2 ≤ ((cnt 32 x.1.toNat : Nat) : Int) ∧ ((cnt 32 x.1.toNat : Nat) : Int) ≤ 4) && Cd (fun _ (y : Na) => !(y.1 == x.1) && !(y.2.1 == x.2.1)) 0 (L.take i)))
def Qe (L : List Na) : Bool := decide (L.length ≤ 8) && Cd (fun i x => Nu L i x) 0 L
theorem Y6 {α : Type} {L : List α} {i k : Nat} (h : k < (L.take i).length) : (L.take i)[k] = L[k]'(by simp at h; omega) := by simp
theorem EL (L : List Na) (hn : L.length ≤ Ga) : Hw L = some (Qe L, ()) := by
 have h20 : Ga = 1048576 := rfl
 have hl := Re (step := fun x => Js x.1.1 x.1.2.1 x.1.2.2.1 x.1.2.2.2.1) L (fun i x => Nu L i x) (fun i => ((L, L, ((ja L : Nat) : Int), i, ()), ()))
  (.inl ((), ())) (.inr ((false, ()), ())) (by
   intro k hk
   simp only [Js]
   rw [Aa (show (k : Int) < ((ja L : Nat) : Int) by omega), Ub hk]
   simp only [zz, jb, Ou, Nu]
   generalize hx : L[k] = x
   by_cases h1 : 0 ≤ x.1 ∧ x.1 ≤ 16777215
   ·rw [Aa h1]
    cases decide (24 ≤ x.2.1 ∧ x.2.1 ≤ 31) with
    | false => rfl
    | true =>
     have e : j9 .u64 x.1 = ((x.1.toNat : Nat) : Int) := by
      have : x.1 = ((x.1.toNat : Nat) : Int) := by omega
      rw [this, YN (by
       have : (2 : Nat) ^ 64 = 18446744073709551616 := by decide
       omega)]
      simp
     rw [e, V8 (by omega)]
     simp only [zz, jb, jk, Ou]
     cases decide (2 ≤ ((cnt 32 x.1.toNat : Nat) : Int) ∧ ((cnt 32 x.1.toNat : Nat) : Int) ≤ 4) with
     | false => rfl
     | true =>
      have hcut : We (ja L) 0 (k : Int) = true := Iq (lo := 0) (zj _) (by omega)
      rw [hcut]
      simp only [zz, jk]
      have hin := Re (step := fun y => Oq y.1.1 y.1.2.1 y.1.2.2.1 y.1.2.2.2.1 y.1.2.2.2.2.1 y.1.2.2.2.2.2.1 y.1.2.2.2.2.2.2.1 y.1.2.2.2.2.2.2.2.1 y.2.1) (L.take k) (fun _ (y : Na) => !(y.1 == x.1) && !(y.2.1 == x.2.1)) (fun i => ((L, (), L, ((ja L : Nat) : Int), (k : Int), L.take k, ((ja (L.take k) : Nat) : Int), i, ()), (x, ())))
       (.inl ((L, L, ((ja L : Nat) : Int), (k : Int), ()), ())) (.inr ((false, ()), ())) (by
        intro j hj
        simp only [Oq]
        rw [Aa (show (j : Int) < ((ja (L.take k) : Nat) : Int) by omega), Ub hj]
        simp only [zz, jb]
        cases ((L.take k)[j].1 == x.1) <;> cases ((L.take k)[j].2.1 == x.2.1) <;> rfl) (by
        simp only [Oq]
        rw [Ba (by omega)]; rfl) (by simp; omega)
      have hc : Lb L (jy (0 : Int)) (jy (k : Int)) = L.take k := by simp [Lb]
      rw [hc]
      unfold Lt
      erw [hin]
      cases Cd (fun _ (y : Na) => !(y.1 == x.1) && !(y.2.1 == x.2.1)) 0 (L.take k) <;> rfl
   ·rw [Ba h1]; rfl) (by
   simp only [Js]
   rw [Ba (by omega)]; rfl) (by omega)
 unfold Hw Xu Qe
 by_cases h8 : L.length ≤ 8
 ·rw [Ba (show ¬ ((ja L : Nat) : Int) > 8 by omega), Aa h8]
  simp only [ua, jk]
  erw [hl]
  cases Cd (fun i x => Nu L i x) 0 L <;> rfl
 ·rw [Aa (show ((ja L : Nat) : Int) > 8 by omega), Ba h8]; rfl
theorem GZ (L : List Na) (hn : L.length ≤ Ga) : QD L = some (Qe L, ()) := by
 have h20 : Ga = 1048576 := rfl
 have hl := Re (step := fun x => Xs x.1.1 x.1.2.1) L (fun i x => Nu L i x) (fun i => ((L, i, ()), ()))
  (.inl ((L, ()), ())) (.inr ((false, ()), ())) (by
   intro k hk
   simp only [Xs]
   rw [Aa (show (k : Int) < ((ja L : Nat) : Int) by omega), Ub hk]
   simp only [zz, jb, Fe, Hq, Nu]
   generalize hx : L[k] = x
   by_cases h1 : 0 ≤ x.1 ∧ x.1 ≤ 16777215
   ·rw [Aa h1]
    have e : Tw x.1 = some (((cnt 32 x.1.toNat : Nat) : Int), ()) := by
     obtain ⟨n, hnn⟩ := jv h1.1
     rw [hnn, jn]
     exact LZ (by omega)
    rw [e]
    simp only [zz, jb, jk]
    cases decide (2 ≤ ((cnt 32 x.1.toNat : Nat) : Int) ∧ ((cnt 32 x.1.toNat : Nat) : Int) ≤ 4) with
    | false => cases decide (24 ≤ x.2.1 ∧ x.2.1 ≤ 31) <;> rfl
    | true =>
     cases decide (24 ≤ x.2.1 ∧ x.2.1 ≤ 31) with
     | false => rfl
     | true =>
      simp only [zz, jk]
      have hin := Re (step := fun y => Ys y.1.1 y.1.2.1 y.1.2.2.1) (L.take k) (fun _ (y : Na) => !(y.1 == x.1) && !(y.2.1 == x.2.1)) (fun i => ((L, (k : Int), i, ()), ()))
       (.inl ((L, (k : Int), ()), ())) (.inr ((false, ()), ())) (by
        intro j hj
        have hj2 : j < k := by simp at hj; omega
        simp only [Ys]
        rw [Aa (show (j : Int) < (k : Int) by omega), Ub (show j < L.length by omega), Ub hk, hx, Y6 hj]
        simp only [zz, jb]
        cases (L[j].1 == x.1) <;> cases (L[j].2.1 == x.2.1) <;> rfl) (by
        have : ((ja (L.take k) : Nat) : Int) = (k : Int) := by simp; omega
        simp only [Ys]
        rw [Ba (by omega)]; rfl) (by simp; omega)
      unfold Qv
      erw [hin]
      cases Cd (fun _ (y : Na) => !(y.1 == x.1) && !(y.2.1 == x.2.1)) 0 (L.take k) <;> rfl
   ·rw [Ba h1]; rfl) (by
   simp only [Xs]
   rw [Ba (by omega)]; rfl) (by omega)
 unfold QD Pv Qe
 erw [hl]
 cases Cd (fun i x => Nu L i x) 0 L with
 | true =>
  simp only [zz, jb, qm, Bool.and_true]
  apply Tc
  simp only [decide_eq_true_eq]; omega
 | false => cases decide (L.length ≤ 8) <;> rfl
def rowN (C m r : Nat) : Nat := (m >>> (r * C)) &&& (2 ^ C - 1)
theorem YE (C m r j : Nat) : (rowN C m r).testBit j = (decide (j < C) && m.testBit (r * C + j)) := by
 unfold rowN
 rw [zr, Nat.testBit_two_pow_sub_one, Nat.testBit_shiftRight, Bool.and_comm]
theorem XL (C m r : Nat) : rowN C m r < 2 ^ C := by
 unfold rowN
 rw [Nat.and_two_pow_sub_one_eq_mod]
 exact Nat.mod_lt _ (zt C)
theorem Hac (C m a x r : Nat) (hx : x < 2 ^ C) : rowN C (m ||| x <<< (a * C)) r = if r = a then rowN C m a ||| x else rowN C m r := by
 apply zp
 intro j
 rw [YE, zq, Nat.testBit_shiftLeft]
 by_cases hj : j < C
 ·by_cases hr : r = a
  ·subst hr
   rw [if_pos rfl, zq, YE, Aa hj, Aa (show r * C + j ≥ r * C by omega), show r * C + j - r * C = j by omega]
   simp
  ·rw [if_neg hr, YE, Aa hj]
   have : (decide (r * C + j ≥ a * C) && x.testBit (r * C + j - a * C)) = false := by
    by_cases h1 : r < a
    ·have h2 : (r + 1) * C ≤ a * C := jm C h1
     rw [yr, yt] at h2
     rw [Ba (show ¬ r * C + j ≥ a * C by omega)]; rfl
    ·have h2 : (a + 1) * C ≤ r * C := jm C (by omega)
     rw [yr, yt] at h2
     have h3 : x.testBit (r * C + j - a * C) = false := by
      apply zu
      exact qn hx (qo (by omega) (by omega))
     rw [h3, Bool.and_false]
   rw [this, Bool.or_false]
 ·have h3 : x.testBit j = false := zu (qn hx (qo (by omega) (by omega)))
  rw [Ba hj]
  by_cases hr : r = a
  ·rw [if_pos hr, zq, YE, Ba hj, h3]; rfl
  ·rw [if_neg hr, YE, Ba hj]; rfl
theorem Oac {C x a R : Nat} (hx : x < 2 ^ C) (ha : a < R) : x <<< (a * C) < 2 ^ (R * C) := by
 rw [ql]
 have h1 : x * 2 ^ (a * C) < 2 ^ C * 2 ^ (a * C) := Nat.mul_lt_mul_of_pos_right hx (zt _)
 rw [← Nat.pow_add] at h1
 have h2 : (a + 1) * C ≤ R * C := jm C ha
 rw [yr, yt] at h2
 exact qn h1 (qo (by omega) (by omega))
def Wv (C a b m : Nat) : Nat := cond (rowN C m a &&& rowN C m b != 0) (m ||| rowN C m b <<< (a * C)) m
theorem DaC {C a b m R : Nat} (hm : m < 2 ^ (R * C)) (ha : a < R) : Wv C a b m < 2 ^ (R * C) := by
 unfold Wv
 cases rowN C m a &&& rowN C m b != 0 with
 | false => exact hm
 | true => exact zn hm (Oac (XL C m b) ha)
theorem TI {S : Type} {g : Nat → S → S} {p : S → Prop} {s0 : S} {n : Nat} (h0 : p s0) (hs : ∀ k s, k < n → p s → p (g k s)) : ∀ k, k ≤ n → p (Yd g k s0)
 | 0, _ => h0
 | k + 1, h => hs k _ (by omega) (TI h0 hs k (by omega))
def g3 (C a : Nat) : Nat → Nat → Nat := fun b m => Wv C a b m
def g2 (C R : Nat) : Nat → Nat → Nat := fun a m => Yd (g3 C a) R m
def g1 (C R : Nat) : Nat → Nat → Nat := fun _ m => Yd (g2 C R) R m
def Uh (C R m : Nat) : Nat := Yd (g1 C R) R m
theorem Zax {C R m a : Nat} (hm : m < 2 ^ (R * C)) (ha : a < R) (k : Nat) (hk : k ≤ R) : Yd (g3 C a) k m < 2 ^ (R * C) :=
 TI (p := fun m => m < 2 ^ (R * C)) (n := R) hm (fun b s _ hs => DaC hs ha) k hk
theorem Yax {C R m : Nat} (hm : m < 2 ^ (R * C)) (k : Nat) (hk : k ≤ R) : Yd (g2 C R) k m < 2 ^ (R * C) :=
 TI (p := fun m => m < 2 ^ (R * C)) (n := R) hm (fun a s ha hs => Zax hs ha R (jo _)) k hk
theorem Xax {C R m : Nat} (hm : m < 2 ^ (R * C)) (k : Nat) (hk : k ≤ R) : Yd (g1 C R) k m < 2 ^ (R * C) :=
 TI (p := fun m => m < 2 ^ (R * C)) (n := R) hm (fun _ s _ hs => Yax hs R (jo _)) k hk
structure MJ (C R : Nat) : Prop where
 c1 : 1 ≤ C
 c2 : C ≤ 6
 r1 : 1 ≤ R
 r2 : R ≤ 4
theorem QO {C R r : Nat} (h : MJ C R) (hr : r ≤ R) : r * C ≤ 24 := qe (Nat.mul_le_mul (qe hr h.r2) h.c2) (by decide)
theorem LF {C R m : Nat} (h : MJ C R) (hm : m < 2 ^ (R * C)) : m < 2 ^ 63 := qn hm (qo (by omega) (by have := QO h (jo R); omega))
theorem U2 {C R m : Nat} (h : MJ C R) (r : Nat) : rowN C m r < 2 ^ 63 := qn (XL C m r) (qo (by omega) (by have := h.c2; omega))
theorem HW {C R r : Nat} (h : MJ C R) (hr : r ≤ R) : j9 .i64 ((r : Int) * (C : Int)) = ((r * C : Nat) : Int) := by
 have := QO h hr
 rw [← Int.natCast_mul]
 generalize r * C = z at *
 exact Qc (by omega) (by omega)
theorem YaB {C R m r : Nat} (h : MJ C R) (hm : m < 2 ^ 63) (hr : r ≤ R) :
 Ya .i64 (Ac .i64 (m : Int) (j9 .i64 ((r : Int) * (C : Int)))) (j9 .i64 (Ma .i64 1 (C : Int) - 1)) = ((rowN C m r : Nat) : Int) := by
 have h1 := QO h hr
 have h2 := h.c2
 have hp := Dac (k := C) (by omega)
 have hsh : m >>> (r * C) ≤ m := by rw [zo]; exact Nat.div_le_self _ _
 have e : j9 .i64 (((2 ^ C : Nat) : Int) - 1) = ((2 ^ C - 1 : Nat) : Int) := by
  generalize 2 ^ C = z at hp
  rw [Qc (by omega) (by omega)]; omega
 rw [HW h hr, NL m (by omega), Ve (by omega), e, Qu (by omega) (by rw [Nw]; generalize 2 ^ C = z at hp; omega)]
 rfl
theorem SaH {C R m a x : Nat} (h : MJ C R) (hm : m < 2 ^ (R * C)) (ha : a < R) (hx : x < 2 ^ C) :
 Lc .i64 (m : Int) (Ma .i64 (x : Int) (j9 .i64 ((a : Int) * (C : Int)))) = ((m ||| x <<< (a * C) : Nat) : Int) := by
 have h1 := QO h (Nat.le_of_lt ha)
 have h2 := Oac hx ha
 have h3 : x <<< (a * C) < 2 ^ 63 := LF h h2
 rw [HW h (Nat.le_of_lt ha), JR (by rw [← ql]; exact h3) (by omega), Fi (LF h hm) h3]
theorem AaF (x y : Nat) (hx : x < 2 ^ 63) (hy : y < 2 ^ 63) : (Ya .i64 (x : Int) (y : Int) != 0) = (x &&& y != 0) := by
 rw [Qu hx hy, qx]
 simp
def Mj (C m : Nat) : List Int := [((rowN C m 0 : Nat) : Int), ((rowN C m 1 : Nat) : Int), ((rowN C m 2 : Nat) : Int), ((rowN C m 3 : Nat) : Int)]
theorem lt4 {r : Nat} (h : r < 4) : r = 0 ∨ r = 1 ∨ r = 2 ∨ r = 3 := by omega
theorem WU {C m r : Nat} (h : r < 4) : (Mj C m)[r]? = some ((rowN C m r : Nat) : Int) := by
 rcases lt4 h with rfl | rfl | rfl | rfl <;> rfl
theorem Laq {C m a x : Nat} (ha : a < 4) (hx : x < 2 ^ C) : (Mj C m).set a (((rowN C m a ||| x : Nat)) : Int) = Mj C (m ||| x <<< (a * C)) := by
 unfold Mj
 simp only [Hac C m a x _ hx]
 rcases lt4 ha with rfl | rfl | rfl | rfl <;> simp
theorem Sat {C m r : Nat} (h : r < 4) : Ci (ja (Mj C m)) (r : Int) = true := by
 rw [Mm]; exact Aa h
theorem Lak {C R m a : Nat} (h : MJ C R) (d : Bool) (hm : m < 2 ^ (R * C)) (ha : a < R) (t1 t2 t3 t4 : Int) :
 CC (((), Mj C m, (a : Int), t1, t2, t3, t4, (R : Int), (0 : Int), ()), (((R : Int), (C : Int), d, ()), ())) = some (.inl (((), Mj C (g2 C R a m), t1, t2, t3, t4, ()), (((R : Int), (C : Int), d, ()), ()))) := by
 have hr2 := h.r2
 have := Vl (step := fun x => JB x.1.1 x.1.2.1 x.1.2.2.1 x.1.2.2.2.1 x.1.2.2.2.2.1 x.1.2.2.2.2.2.1 x.1.2.2.2.2.2.2.1 x.1.2.2.2.2.2.2.2.1 x.1.2.2.2.2.2.2.2.2.1 x.2.1) R (by omega) (g3 C a) m
  (fun s i => (((), Mj C s, (a : Int), t1, t2, t3, t4, (R : Int), i, ()), (((R : Int), (C : Int), d, ()), ()))) (fun s => .inl (((), Mj C s, t1, t2, t3, t4, ()), (((R : Int), (C : Int), d, ()), ())))
  (by
   intro k hk
   have hs := Zax hm ha k (by omega)
   generalize Yd (g3 C a) k m = s at *
   simp only [JB]
   have hlen : yd 4 (ja (Mj C s)) = true := rfl
   rw [Aa (show (k : Int) < (R : Int) by omega), hlen, Sat (show a < 4 by omega), Sat (show k < 4 by omega)]
   simp only [jn, zz]
   rw [WU (show a < 4 by omega), WU (show k < 4 by omega)]
   simp only [jb]
   rw [AaF _ _ (U2 h _) (U2 h _), Fi (U2 h _) (U2 h _), Laq (show a < 4 by omega) (XL C s k)]
   unfold g3 Wv
   cases (rowN C s a &&& rowN C s k != 0) <;> rfl)
  (by
   simp only [JB]
   rw [Ba (by omega)]; rfl)
 exact this
theorem Kak {C R m : Nat} (h : MJ C R) (d : Bool) (hm : m < 2 ^ (R * C)) (t1 t2 : Int) :
 BC (((), Mj C m, t1, t2, (R : Int), (0 : Int), ()), (((R : Int), (C : Int), d, ()), ())) = some (.inl (((), Mj C (Yd (g2 C R) R m), t1, t2, ()), (((R : Int), (C : Int), d, ()), ()))) := by
 have hr2 := h.r2
 have := Vl (step := fun x => IB x.1.1 x.1.2.1 x.1.2.2.1 x.1.2.2.2.1 x.1.2.2.2.2.1 x.1.2.2.2.2.2.1 x.2.1) R (by omega) (g2 C R) m
  (fun s i => (((), Mj C s, t1, t2, (R : Int), i, ()), (((R : Int), (C : Int), d, ()), ()))) (fun s => .inl (((), Mj C s, t1, t2, ()), (((R : Int), (C : Int), d, ()), ())))
  (by
   intro k hk
   have hs := Yax hm k (by omega)
   generalize Yd (g2 C R) k m = s at *
   simp only [IB]
   rw [Aa (show (k : Int) < (R : Int) by omega), Lak h d hs hk]; rfl)
  (by
   simp only [IB]
   rw [Ba (by omega)]; rfl)
 exact this
theorem Jak {C R m : Nat} (h : MJ C R) (d : Bool) (hm : m < 2 ^ (R * C)) :
 AC (((), Mj C m, (R : Int), (0 : Int), ()), (((R : Int), (C : Int), d, ()), ())) = some (.inl (((), Mj C (Uh C R m), ()), (((R : Int), (C : Int), d, ()), ()))) := by
 have hr2 := h.r2
 have := Vl (step := fun x => HB x.1.1 x.1.2.1 x.1.2.2.1 x.1.2.2.2.1 x.2.1) R (by omega) (g1 C R) m
  (fun s i => (((), Mj C s, (R : Int), i, ()), (((R : Int), (C : Int), d, ()), ()))) (fun s => .inl (((), Mj C s, ()), (((R : Int), (C : Int), d, ()), ())))
  (by
   intro k hk
   have hs := Xax hm k (by omega)
   generalize Yd (g1 C R) k m = s at *
   simp only [HB]
   rw [Aa (show (k : Int) < (R : Int) by omega), Kak h d hs]; rfl)
  (by
   simp only [HB]
   rw [Ba (by omega)]; rfl)
 exact this
def QC (C m k : Nat) : List Int := [0, 1, 2, 3].map fun r => if r < k then ((rowN C m r : Nat) : Int) else 0
theorem Aav {C R m r : Nat} (hm : m < 2 ^ (R * C)) (hr : R ≤ r) : rowN C m r = 0 := by
 unfold rowN
 have : m >>> (r * C) = 0 := by
  rw [zo]
  apply Nat.div_eq_of_lt
  exact qn hm (qo (by omega) (jm C hr))
 rw [this, Nat.zero_and]
theorem Bak {C R m : Nat} (hm : m < 2 ^ (R * C)) : QC C m R = Mj C m := by
 have key : ∀ r, (if r < R then ((rowN C m r : Nat) : Int) else 0) = ((rowN C m r : Nat) : Int) := by
  intro r
  by_cases h : r < R
  ·rw [if_pos h]
  ·rw [if_neg h, Aav hm (by omega)]; rfl
 unfold QC Mj
 simp only [yw, List.map_nil, key]
theorem Cak {C m k : Nat} (hk : k < 4) : (QC C m k).set k ((rowN C m k : Nat) : Int) = QC C m (k + 1) := by
 rcases lt4 hk with rfl | rfl | rfl | rfl <;> simp [QC]
theorem Ran {C R m : Nat} (h : MJ C R) (d : Bool) (hm : m < 2 ^ (R * C)) :
 HE (((m : Int), (), yp 4 (0 : Int), (R : Int), (0 : Int), ()), (((R : Int), (C : Int), d, ()), ())) = some (.inl (((), Mj C m, ()), (((R : Int), (C : Int), d, ()), ()))) := by
 have hr2 := h.r2
 have := GN (step := fun x => JD x.1.1 x.1.2.1 x.1.2.2.1 x.1.2.2.2.1 x.1.2.2.2.2.1 x.2.1) (fun k => (((m : Int), (), QC C m k, (R : Int), (k : Int), ()), (((R : Int), (C : Int), d, ()), ()))) R (.inl (((), Mj C m, ()), (((R : Int), (C : Int), d, ()), ())))
  (by
   intro k hk
   simp only [JD]
   have hlen : yd 4 (ja (QC C m k)) = true := rfl
   have hin : Ci (ja (QC C m k)) (k : Int) = true := by rw [Mm]; exact Aa (show k < 4 by omega)
   have hget : ∃ y, (QC C m k)[k]? = some y := ⟨(QC C m k)[k]'(show k < 4 by omega), je _⟩
   obtain ⟨y, hy⟩ := hget
   rw [Aa (show (k : Int) < (R : Int) by omega), YaB h (LF h hm) (by omega), HW h (by omega), Aa (Int.natCast_nonneg _), Aa (Int.natCast_nonneg C), hlen, hin]
   simp only [jn, zz]
   rw [hy]
   simp only [jb]
   rw [Cak (by omega), Ag (by omega)])
  (by
   simp only [JD]
   rw [Ba (by omega), Bak hm]; rfl)
 exact this
theorem Iab {C m : Nat} : ∀ k, ∀ j, (Yd (fun i s => s ||| rowN C m i <<< (i * C)) k 0).testBit j = (decide (j < k * C) && m.testBit j)
 | 0, j => by simp [Yd]
 | k + 1, j => by
  simp only [Yd]
  rw [zq, Iab k j, Nat.testBit_shiftLeft, YE, yr, yt]
  by_cases h1 : j < k * C
  ·rw [Aa h1, Ba (show ¬ j ≥ k * C by omega), Aa (show j < k * C + C by omega)]; simp
  ·rw [Ba h1, Aa (show j ≥ k * C by omega), show k * C + (j - k * C) = j by omega]
   by_cases h2 : j < k * C + C
   ·rw [Aa h2, Aa (show j - k * C < C by omega)]; simp
   ·rw [Ba h2, Ba (show ¬ j - k * C < C by omega)]; simp
theorem Vat {C R m : Nat} (hm : m < 2 ^ (R * C)) : Yd (fun i s => s ||| rowN C m i <<< (i * C)) R 0 = m := by
 apply zp
 intro j
 rw [Iab]
 by_cases h : j < R * C
 ·rw [Aa h]; rfl
 ·rw [Ba h, zu (qn hm (qo (by omega) (by omega)))]; rfl
theorem Iaz {C R m : Nat} (k : Nat) (hk : k ≤ R) : Yd (fun i s => s ||| rowN C m i <<< (i * C)) k 0 < 2 ^ (R * C) :=
 TI (p := fun s => s < 2 ^ (R * C)) (n := R) (zt _) (fun i s hi hs => zn hs (Oac (XL C m i) hi)) k hk
theorem San {C R m : Nat} (h : MJ C R) (d : Bool) (hm : m < 2 ^ (R * C)) :
 DC (((), Mj C m, (0 : Int), (R : Int), (0 : Int), ()), (((R : Int), (C : Int), d, ()), ())) = some (.inl (((m : Int), ()), ())) := by
 have hr2 := h.r2
 have := Vl (step := fun x => KB x.1.1 x.1.2.1 x.1.2.2.1 x.1.2.2.2.1 x.1.2.2.2.2.1 x.2.1) R (by omega) (fun i s => s ||| rowN C m i <<< (i * C)) 0
  (fun (s : Nat) i => (((), Mj C m, (s : Int), (R : Int), i, ()), (((R : Int), (C : Int), d, ()), ()))) (fun s => .inl (((s : Int), ()), ()))
  (by
   intro k hk
   have hs := Iaz (C := C) (R := R) (m := m) k (by omega)
   generalize Yd (fun i s => s ||| rowN C m i <<< (i * C)) k 0 = s at *
   have hlen : yd 4 (ja (Mj C m)) = true := rfl
   simp only [KB]
   rw [Aa (show (k : Int) < (R : Int) by omega), hlen, Sat (show k < 4 by omega)]
   simp only [jn, zz]
   rw [WU (show k < 4 by omega)]
   simp only [jb]
   rw [SaH h hs hk (XL C m k), HW h (by omega), Aa (Int.natCast_nonneg _)]; rfl)
  (by
   simp only [KB]
   rw [Ba (by omega)]; rfl)
 rw [Vat hm] at this
 exact this
theorem ZY {C R m : Nat} (hm : m < 2 ^ (R * C)) : Uh C R m < 2 ^ (R * C) := Xax hm R (jo _)
theorem Bab {C R m : Nat} (h : MJ C R) (d : Bool) (hm : m < 2 ^ (R * C)) : Xz ((R : Int), (C : Int), d, ()) (m : Int) = some (((cond d m (Uh C R m) : Nat) : Int), ()) := by
 unfold Xz
 cases d with
 | true => rfl
 | false =>
  simp only [ua]
  rw [Ran h false hm]
  simp only [jb, qm]
  rw [Jak h false hm]
  simp only [jb, qm]
  rw [San h false (ZY hm)]
  rfl
def Cm (M : Qd) (x : Int) : Int := ((cond M.2.2.1 x.toNat (Uh M.2.1.toNat M.1.toNat x.toNat) : Nat) : Int)
theorem EA {M : Qd} {x : Int} (h : Ic M x = true) : ∃ C R m : Nat, ∃ d : Bool, M = ((R : Int), (C : Int), d, ()) ∧ x = (m : Int) ∧ MJ C R ∧ m < 2 ^ (R * C) := by
 obtain ⟨r, c, d, u⟩ := M
 simp only [Ic, jd, Rd, decide_eq_true_eq] at h
 have hm := h.1
 simp only [Jf, decide_eq_true_eq] at hm
 obtain ⟨R, rfl⟩ := jv (show 0 ≤ r by omega)
 obtain ⟨C, rfl⟩ := jv (show 0 ≤ c by omega)
 obtain ⟨m, rfl⟩ := jv h.2.1
 refine ⟨C, R, m, d, rfl, rfl, ⟨by omega, by omega, by omega, by omega⟩, ?_⟩
 have hk : Dc ((R : Int), (C : Int), d, u) = ((R * C : Nat) : Int) := by
  unfold Dc; rw [h.1]; simp
 rw [hk, jn] at h
 exact Int.ofNat_lt.1 h.2.2
theorem ZK {C R m : Nat} {d : Bool} (h : MJ C R) (hm : m < 2 ^ (R * C)) : Ic ((R : Int), (C : Int), d, ()) (m : Int) = true := by
 have h1 := h.c1; have h2 := h.c2; have h3 := h.r1; have h4 := h.r2
 have hM : Jf ((R : Int), (C : Int), d, ()) = true := by simp only [Jf, decide_eq_true_eq]; omega
 have hk : Dc ((R : Int), (C : Int), d, ()) = ((R * C : Nat) : Int) := by
  unfold Dc; rw [hM]; simp
 simp only [Ic, hM, hk, Rd, jn, jk, decide_eq_true_eq]
 exact ⟨Int.natCast_nonneg _, Int.ofNat_lt.2 hm⟩
theorem ZI {C R m : Nat} {d : Bool} : Cm ((R : Int), (C : Int), d, ()) (m : Int) = ((cond d m (Uh C R m) : Nat) : Int) := by
 unfold Cm
 simp only [jn]
theorem M4 {M : Qd} {x : Int} (h : Ic M x = true) : Xz M x = some (Cm M x, ()) := by
 obtain ⟨C, R, m, d, rfl, rfl, hd, hm⟩ := EA h
 rw [Bab hd d hm, ZI]
theorem Haq {M : Qd} {x : Int} (h : Ic M x = true) : Ic M (Cm M x) = true := by
 obtain ⟨C, R, m, d, rfl, rfl, hd, hm⟩ := EA h
 rw [ZI]
 cases d with
 | true => exact ZK hd hm
 | false => exact ZK hd (ZY hm)
def Aq (M : Qd) (x : Int) : Bool := Ic M x && (Cm M x == x)
theorem YB (M : Qd) (x : Int) : Eo M x = some (Aq M x, ()) := by
 unfold Eo Aq
 rw [Nt]
 cases h : Ic M x with
 | false => rfl
 | true => simp only [jb, zz, jk]; rw [M4 h]; rfl
theorem Gam {M : Qd} {x : Int} {k : Nat} (h : Ic M x = true) (hk : k ≤ 62) : Ic M (Pc .i64 x (Ma .i64 1 (k : Int))) = true := by
 obtain ⟨C, R, m, d, rfl, rfl, hd, hm⟩ := EA h
 rw [Ve hk, Yn (LF hd hm) (Ye hk)]
 exact ZK hd (qs hm (Nat.lt_of_le_of_lt zm hm))
def WX (M : Qd) (x : Int) (k : Nat) : Bool := (Wd x (k : Int) == 1) && (Cm M (Pc .i64 x (Ma .i64 1 (k : Int))) == x)
theorem Lam {x : Nat} {k : Nat} (hx : x < 2 ^ 63) (hk : k ≤ 64) : Wd (x : Int) (k : Int) = 0 ∨ Wd (x : Int) (k : Int) = 1 := by
 unfold Wd
 have h1 : x >>> k ≤ x := by rw [zo]; exact Nat.div_le_self _ _
 rw [NL x hk]
 show Ya .i64 ((x >>> k : Nat) : Int) ((1 : Nat) : Int) = _ ∨ Ya .i64 ((x >>> k : Nat) : Int) ((1 : Nat) : Int) = _
 rw [Qu (by omega) (by decide), Nat.and_one_is_mod]
 omega
theorem Ras {M : Qd} {x : Int} {k : Nat} (h : Ic M x = true) (hk : k ≤ 64) : (Wd x (k : Int) == 0) = !(Wd x (k : Int) == 1) := by
 obtain ⟨C, R, m, d, rfl, rfl, hd, hm⟩ := EA h
 rcases Lam (LF hd hm) hk with h | h <;> rw [h] <;> rfl
theorem Vag {M : Qd} {x : Int} (h : Aq M x = true) : Ic M x = true ∧ 1 ≤ Dc M ∧ Dc M ≤ 24 := by
 simp only [Aq, jd] at h
 have h2 := h.1
 simp only [Ic, jd] at h2
 exact ⟨h.1, C2 h2.1⟩
theorem QS {M : Qd} {x : Int} (h : Aq M x = true) {k : Nat} (hk : (k : Int) < Dc M) :
 ∃ y, Ru M x (k : Int) = some (y, WX M x k, ()) := by
 have hm := Vag h
 unfold Ru WX
 rw [YB, h, To]
 simp only [jb, jg, ua]
 rw [Ba (show ¬ (k : Int) < 0 by omega), Ba (show ¬ (k : Int) ≥ Dc M by omega), Aa (show 0 ≤ (k : Int) by omega)]
 simp only [ua, zz]
 have hb := Ras (k := k) hm.1 (by omega)
 unfold Wd at hb ⊢
 rw [hb]
 cases Ya .i64 (Ac .i64 x (k : Int)) 1 == 1 with
 | false => exact ⟨_, rfl⟩
 | true =>
  simp only [jg, ua, jk]
  rw [M4 (Gam hm.1 (by omega))]
  simp only [jb, bne]
  cases Cm M (Pc .i64 x (Ma .i64 1 (k : Int))) == x <;> exact ⟨_, rfl⟩
def PO (M : Qd) (x : Int) (k : Nat) (s : Int) : Int := cond ((Wd x (k : Int) == 1) && !WX M x k) (Lc .i64 s (Ma .i64 1 (k : Int))) s
def JT (M : Qd) (x : Int) : Int := cond (Aq M x) (Yd (PO M x) (Dc M).toNat 0) 0
theorem PW (M : Qd) (x : Int) : EB M x = some (JT M x, ()) := by
 unfold EB JT
 rw [YB]
 cases h : Aq M x with
 | false => rfl
 | true =>
  have hm := Vag h
  obtain ⟨n, hn⟩ := jv (show 0 ≤ Dc M by omega)
  have hl := Vl (step := fun y => Kq y.1.1 y.1.2.1 y.1.2.2.1 y.1.2.2.2.1 y.1.2.2.2.2.1 y.2.1) n (by omega) (PO M x) 0 (fun s i => ((x, (), s, (n : Int), i, ()), (M, ()))) (fun s => .inl ((s, ()), ()))
   (by
    intro k hk
    generalize Yd (PO M x) k 0 = s
    obtain ⟨y, hy⟩ := QS h (k := k) (by omega)
    simp only [Kq]
    rw [Aa (show (k : Int) < (n : Int) by omega), Aa (show 0 ≤ (k : Int) by omega), hy]
    simp only [zz, jb, PO, Wd]
    cases Ya .i64 (Ac .i64 x (k : Int)) 1 == 1 <;> cases WX M x k <;> rfl)
   (by
    simp only [Kq]
    rw [Ba (by omega)]; rfl)
  rw [To, hn]
  simp only [jb, jg, ua, zz, jn]
  unfold It
  erw [hl]
  rfl
def C9 (M : Qd) (old x : Int) : Int := Ya .i64 x (Lc .i64 old (JT M x))
def MQ (M : Qd) (old x : Int) : Bool := Ic M old && Aq M x
theorem E4 (M : Qd) (old x : Int) : Jq M old x = some (cond (MQ M old x) (C9 M old x) 0, MQ M old x, ()) := by
 unfold Jq MQ
 rw [Nt, YB, PW]
 cases Ic M old <;> cases Aq M x <;> rfl
theorem Nas {M : Qd} {x : Int} (h : Ic M x = true) (y : Int) : Ic M (Ya .i64 x y) = true := by
 obtain ⟨C, R, m, d, rfl, rfl, hd, hm⟩ := EA h
 have hm63 := LF hd hm
 have e : Ya .i64 (m : Int) y = ((m &&& (BitVec.ofInt 64 y).toNat : Nat) : Int) := by
  have h2 : (BitVec.ofInt (IntKind.bits .i64) (m : Int) &&& BitVec.ofInt (IntKind.bits .i64) y).toNat = m &&& (BitVec.ofInt 64 y).toNat := by
   rw [BitVec.toNat_and]; erw [FF hm63]; rfl
  unfold Ya
  rw [h2]
  have h3 : m &&& (BitVec.ofInt 64 y).toNat ≤ m := zm
  have h4 := Nw
  exact Qc (by omega) (by omega)
 rw [e]
 exact ZK hd (Nat.lt_of_le_of_lt zm hm)
theorem Las {M : Qd} {old x : Int} (h : MQ M old x = true) : Ic M (C9 M old x) = true := by
 simp only [MQ, Aq, jd] at h
 exact Nas h.2.1 _
structure Di (c : Ab) : Prop where
 lo : 0 ≤ c.2.1
 hi : c.2.1 ≤ (c.1.length : Int)
 len : c.1.length ≤ Ga
theorem Fam (z : Int) : 0 ≤ Ya .i64 z 255 ∧ Ya .i64 z 255 ≤ 255 := by
 have h : (BitVec.ofInt 64 z &&& BitVec.ofInt 64 255).toNat ≤ 255 := by
  rw [BitVec.toNat_and]
  exact Nat.and_le_right
 show 0 ≤ j9 .i64 ((BitVec.ofInt 64 z &&& BitVec.ofInt 64 255).toNat : Int) ∧ j9 .i64 ((BitVec.ofInt 64 z &&& BitVec.ofInt 64 255).toNat : Int) ≤ 255
 rw [Qc (by omega) (by omega)]
 omega
theorem VV {c : Ab} (h : Di c) : ∃ (c' : Ab) (x : Int), Bo c = some (c', (x, ())) ∧ Di c' ∧ 0 ≤ x ∧ x ≤ 255 := by
 have h20 : Ga = 1048576 := rfl
 have h1 := h.lo
 have h2 := h.len
 unfold Bo
 by_cases hi : c.2.1 < ((ja c.1 : Nat) : Int)
 ·obtain ⟨k, hk⟩ := jv h1
  rw [Aa hi, hk, Ub (show k < c.1.length by omega)]
  refine ⟨_, _, rfl, ⟨?_, ?_, h2⟩, Fam _⟩
  ·show 0 ≤ j9 .i64 ((k : Int) + 1)
   rw [Ag (by omega)]; omega
  ·show j9 .i64 ((k : Int) + 1) ≤ _
   rw [Ag (by omega)]; show _ ≤ ((ja c.1 : Nat) : Int); omega
 ·rw [Ba hi]
  exact ⟨_, _, rfl, ⟨h1, h.hi, h2⟩, Fam _⟩
theorem Fh {c : Ab} (h : Di c) (n : Int) (hn : 0 < n) : ∃ (c' : Ab) (x : Int), Hb c n = some (c', (x, ())) ∧ Di c' ∧ 0 ≤ x ∧ x < n := by
 obtain ⟨c1, x1, e1, h1, b1⟩ := VV h
 unfold Hb
 rw [Ba (show ¬ n ≤ 0 by omega), e1, show (n == 0) = false by simp; omega]
 simp only [ua, jb]
 by_cases h256 : n ≤ 256
 ·rw [Aa h256]
  exact ⟨_, _, rfl, h1, Int.tmod_nonneg _ (by omega), Int.tmod_lt_of_pos _ hn⟩
 ·obtain ⟨c2, x2, e2, h2, b2⟩ := VV h1
  obtain ⟨c3, x3, e3, h3, b3⟩ := VV h2
  obtain ⟨c4, x4, e4, h4, b4⟩ := VV h3
  rw [Ba h256, e2]
  simp only [ua, jb]
  rw [e3]
  simp only [jb]
  rw [e4]
  simp only [jb]
  rw [Qc (n := x1 * 16777216) (by omega) (by omega), Qc (n := x2 * 65536) (by omega) (by omega), Qc (n := x3 * 256) (by omega) (by omega), Qc (n := x1 * 16777216 + x2 * 65536) (by omega) (by omega), Qc (n := x1 * 16777216 + x2 * 65536 + x3 * 256) (by omega) (by omega), Qc (n := x1 * 16777216 + x2 * 65536 + x3 * 256 + x4) (by omega) (by omega)]
  exact ⟨_, _, rfl, h4, Int.tmod_nonneg _ (by omega), Int.tmod_lt_of_pos _ hn⟩
theorem MB {c : Ab} (h : Di c) (n : Int) (hn : 0 < n) : ∃ (c' : Ab) (b : Bool), Yh c n = some (c', (b, ())) ∧ Di c' := by
 obtain ⟨c1, x1, e1, h1, b1⟩ := Fh h n hn
 unfold Yh
 rw [e1]
 exact ⟨_, _, rfl, h1⟩
theorem Tag {c : Ab} (h : Di c) (l : List Int) (hl : 0 < l.length) (h2 : l.length ≤ 1000) : ∃ (c' : Ab) (x : Int), Cu c l = some (c', (x, ())) ∧ Di c' ∧ x ∈ l := by
 obtain ⟨c1, x1, e1, h1, b1⟩ := Fh h ((ja l : Nat) : Int) (by omega)
 unfold Cu
 rw [e1]
 obtain ⟨k, rfl⟩ := jv b1.1
 have hk : k < l.length := by omega
 simp only [jb]
 rw [Mm, Aa hk, jn, je hk]
 exact ⟨_, _, rfl, h1, qt hk⟩
theorem MaH (a : List Int) (hn : a.length ≤ Ga) : ∃ h : Int, EK a = some (a, (0, (h, ()))) := by
 have h20 : Ga = 1048576 := rfl
 have := CA (s := fun x : (List Int × (Int × (Int × Unit))) × Unit => HH x.1.1 x.1.2.1 x.1.2.2.1) (fun n x => ∃ (h : Int) (k : Nat), x = ((a, h, (k : Int), ()), ()) ∧ n + k = a.length) (fun r => ∃ h : Int, r = .inl ((a, h, ()), ())) (by
  rintro n x ⟨h, k, rfl, hk⟩
  simp only [HH]
  by_cases h1 : (k : Int) < ((ja a : Nat) : Int)
  ·rw [Aa h1]
   by_cases h2 : (k : Int) < 4000
   ·rw [Aa h2, Ub (show k < a.length by omega), Ag (by omega)]
    exact .inr ⟨_, n - 1, by omega, rfl, _, k + 1, rfl, by omega⟩
   ·rw [Ba h2]; exact .inl ⟨_, rfl, _, rfl⟩
  ·rw [Ba h1]; exact .inl ⟨_, rfl, _, rfl⟩) a.length ((a, j9 .i64 (10729 + ((ja a : Nat) : Int)), ((0 : Nat) : Int), ()), ()) ⟨_, 0, rfl, rfl⟩
 obtain ⟨r, h1, h, rfl⟩ := this
 refine ⟨h, ?_⟩
 unfold EK IC
 erw [h1]
 rfl
theorem Dau (a : List Int) (n : Int) (hn : a.length ≤ Ga) : ∃ c : Ab, EI a n = some c ∧ Di c := by
 obtain ⟨h, e⟩ := MaH a hn
 unfold EI
 rw [e]
 exact ⟨_, rfl, ⟨za _, by show (0 : Int) ≤ _; omega, hn⟩⟩
end KF
