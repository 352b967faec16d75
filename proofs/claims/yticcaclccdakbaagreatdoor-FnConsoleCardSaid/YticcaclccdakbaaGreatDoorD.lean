/- An evaluator of Go functions on plain data, its soundness, and plain laws on what the functions compute, part 4 (conditions: as each lemma tells). -/
import Derived.Test.YticcaclccdakbaaGreatDoorC
set_option linter.unusedSimpArgs false
set_option linter.unusedVariables false
namespace KF
open Go
open List renaming length → ja, getElem?_eq_getElem → je, append → jf, mem_append → jl, mem_cons → jp, mem_cons_of_mem → jr, length_cons → jw, set → j6, length_nil → j7, mem_singleton → qc, length_append → qd, getD_eq_getElem?_getD → qf, getElem_mem → qi, getElem_of_mem → qj, mem_map → qk, length_drop → ql, ext_getElem? → qp, drop_drop → qq, toArray → qr, getD → qs, getElem?_eq_none → qt, mem_append_left → qu, mem_append_right → qv, any_eq_true → qy, append_assoc → q0, eq_nil_of_length_eq_zero → q7, getElem?_eq_some_iff → q8, length_eq_one_iff → q9, replicate → yd, cons_append → yg, map_cons → yi, nodup_cons → yk, nodup_append → yl, size_toArray → ym, flatten_cons → yn, length_map → yp, mem_map_of_mem → yt, map_append → yu, all_eq_true → yv, append_nil → yw, range → yy, map → za, append_eq → zb, not_mem_nil → zd
open Option renaming bind_some → jb, bind → jz, map_some → qb, bind_eq_some_iff → qe, getD_some → qz, map_eq_some_iff → yx
open Option.some renaming injEq → jc, inj → y3
open Bool renaming and_eq_true → jd, not_true → jg, true_and → jk, false_eq_true → jq, not_false → j8, not_eq_true → j9, eq_iff_iff → qm, or_eq_true → qx, not_eq_true' → yj, or_eq_false_iff → yq, false_or → yr
open Prod.mk renaming injEq → jh
open Nat renaming ble_eq_true_of_le → ji, mul_le_mul_right → jm, le_refl → jo, zero_add → js, add_assoc → jt, eq_of_beq_eq_true → ju, ble → jx, le_trans → qa, lt_of_lt_of_le → qh, beq → qw, le_of_ble_eq_true → q6, add_zero → ya, blt → yb, blt_eq → ye, add_mul → yf, succ_mul → yo
open Int renaming toNat_natCast → jn, eq_ofNat_of_zero_le → jv, toNat → jy, tmod → yc
open Go.IntKind renaming wrap → j4, wrap → j5
open Sum renaming elim_inl → qg
open Result renaming andThen_ok → qn
open Sem renaming run_bind → qo
open List.cons renaming injEq → yh
open Sum.inl renaming injEq → yz
abbrev int : Ty := .i .i64
abbrev Kq : Ty := .i .u8
abbrev Uf : Ty := (.p int (.p int .u))
abbrev Yb : Type := (Int × (Int × Unit))
abbrev Sc : Ty := (.p int (.p (.sl int) .u))
abbrev Ca : Type := (Int × ((List Int) × Unit))
abbrev Ws : Ty := (.p int (.p int (.p .b .u)))
abbrev Wa : Type := (Int × (Int × (Bool × Unit)))
abbrev Kd : Ty := (.p int Uf)
abbrev Lb : Type := (Int × Yb)
abbrev Wi : Ty := (.p (.sl Kq) Uf)
abbrev Zb : Type := ((List Int) × Yb)
abbrev Bc : Ty := (.p int Kd)
abbrev Ga : Type := (Int × Lb)
abbrev Sg : Ty := (.p int (.p Sc .u))
abbrev Xd : Type := (Int × (Ca × Unit))
abbrev Mj : Ty := (.p int (.p Bc .u))
abbrev Ma : Type := (Int × (Ga × Unit))
abbrev Ua : Ty := (.p int (.p (.sl (.sl Bc)) .u))
abbrev Ha : Type := (Int × ((List (List Ga)) × Unit))
abbrev Rc : Ty := (.p Ua (.p (.sl (.sl Kd)) (.p int (.p (.sl Mj) (.p int (.p .b .u))))))
abbrev Qb : Type := (Ha × ((List (List Lb)) × (Int × ((List Ma) × (Int × (Bool × Unit))))))
abbrev Pe : Ty := (.p Rc (.p Kd (.p (.sl Ws) Bc)))
abbrev Ib : Type := (Qb × (Lb × ((List Wa) × Ga)))
abbrev Qe : Ty := (.p Pe (.p (.sl Sg) .u))
abbrev Sa : Type := (Ib × ((List Xd) × Unit))
abbrev HC : Type := Lb
def Vz : List UInt8 := [97, 32, 98, 32, 99, 32, 100, 32, 101, 32, 102, 32, 103, 32, 104, 32, 105, 32, 106, 32, 107, 32, 108, 32, 109, 32, 110, 32, 111, 32, 112, 32, 113, 32, 114, 32, 115, 32, 116, 32, 117, 32, 118, 32, 119, 32, 120, 32, 121, 32, 122, 32, 49, 32, 50, 32, 51, 32, 52, 32, 53, 32, 54, 32, 55, 32, 56, 32, 57, 32, 48, 32, 101, 110, 116, 101, 114, 32, 101, 115, 99, 32, 98, 97, 99, 107, 32, 116, 97, 98, 32, 115, 112, 97, 99, 101, 32, 109, 105, 110, 117, 115, 32, 101, 113, 117, 97, 108, 32, 108, 101, 102, 116, 32, 114, 105, 103, 104, 116, 32, 117, 112, 32, 100, 111, 119, 110, 32, 102, 49, 32, 102, 50, 32, 102, 51, 32, 102, 52, 32, 102, 53, 32, 102, 54, 32, 102, 55, 32, 102, 56, 32, 102, 57]
def UF : List UInt8 := [67, 83, 65, 71]
def Eo : List UInt8 := [110, 111, 110, 101]
def Co : List UInt8 := [112, 97, 115, 115]
def Gf : List UInt8 := [111, 110, 99, 101, 58]
def Lh : List UInt8 := [109, 97, 99, 114, 111, 58]
def Cm : List UInt8 := [99, 97, 112, 115]
def Yj : List UInt8 := [115, 112, 97, 99, 101]
def Wj : List UInt8 := [109, 105, 110, 117, 115]
def Tj : List UInt8 := [101, 113, 117, 97, 108]
def Xj : List UInt8 := [101, 110, 116, 101, 114]
def Zm : List UInt8 := [33, 64, 35, 36, 37, 94, 38, 42, 40, 41]
def Ru : List UInt8 := [97, 32, 98, 32, 109, 111, 58, 49, 32, 83, 47, 99, 32, 50, 47, 100, 32, 111, 110, 99, 101, 58, 83, 32, 124, 32, 49, 32, 112, 97, 115, 115, 32, 112, 97, 115, 115, 32, 50, 32, 116, 103, 58, 50, 32, 99, 97, 112, 115, 32, 124, 32, 102, 49, 32, 116, 111, 58, 48, 32, 112, 97, 115, 115, 32, 112, 97, 115, 115, 32, 108, 101, 102, 116, 32, 116, 103, 58, 50]
def Re : List UInt8 := [48, 49, 50, 51, 52, 53, 54, 55, 56, 57, 97, 98, 99, 100, 101, 102]
def Ee : List UInt8 := [100, 111, 119, 110, 32]
def Wz : List UInt8 := [119, 97, 105, 116, 32]
def Ts : List UInt8 := [107, 101, 121, 109, 97, 112]
def Dp : List UInt8 := [108, 97, 121, 101, 114, 115]
def Ep : List UInt8 := [114, 101, 112, 111, 114, 116]
def Bp : List UInt8 := [113, 117, 101, 117, 101]
def Ap : List UInt8 := [116, 121, 112, 101, 100]
def Cg : List UInt8 := [107, 101, 121, 115, 32]
def GK : List UInt8 := [109, 97, 99, 114, 111, 32, 116, 61, 97]
def FI : List UInt8 := [109, 97, 99, 114, 111, 32, 100, 61, 83, 45, 32, 116, 61, 98, 32, 117, 61, 83, 45]
def XF : List UInt8 := [116, 105, 109, 105, 110, 103, 32, 49, 48, 48, 32, 53, 48, 32, 49]
def LF : List UInt8 := [116, 105, 109, 105, 110, 103, 32, 48, 32, 48, 32, 48]
def JF : List UInt8 := [119, 97, 121, 32, 48, 32, 52]
def NF : List UInt8 := [119, 97, 121, 32, 52, 32, 48]
def RF : List UInt8 := [119, 97, 121, 32, 48, 32, 54]
def SF : List UInt8 := [119, 97, 121, 32, 49, 32, 48]
def YF : List UInt8 := [35, 32, 110, 111, 116, 101]
def Xb : List UInt8 := [119, 104, 97, 116]
def FK : List UInt8 := [100, 111, 119, 110, 32, 49]
def IF : List UInt8 := [117, 112, 32, 120, 32, 50]
def De : List UInt8 := [119, 97, 105, 116]
def VF : List UInt8 := [107, 101, 121, 115, 32, 112, 97, 115, 115]
def Vj : List UInt8 := [109, 97, 99, 114, 111, 32]
def PF : List UInt8 := [109, 97, 99, 114, 111, 32, 100, 61, 97]
def QF : List UInt8 := [119, 97, 121, 32, 48]
def TF : List UInt8 := [108, 97, 121, 101, 114, 115, 32]
def OF : List UInt8 := [116, 121, 112, 101, 100, 32, 49]
def Uj : List UInt8 := [100, 111, 119, 110]
def Bm : List UInt8 := [116, 105, 109, 105, 110, 103]
def Dg : List UInt8 := [119, 97, 121, 32]
noncomputable section
open Option renaming bind → ob
open Go.IntKind renaming wrap → wr
open Int renaming toNat → tn
open List renaming length → ln, append → ap, set → ls
open Sum renaming elim → se
open Nat renaming ble → bl
abbrev Ac : Type := List UInt8
abbrev Zi : Type := Int × Unit
abbrev Fe : Type := Bool × Unit
abbrev We : Type := List Int
abbrev Jg : Type := Unit × Unit
abbrev Fk : Type := Ha × Unit
abbrev Jq : Type := List Wa
abbrev Gt : Type := List Ca
abbrev FG : Type := List Yb
abbrev Xi : Type := List Ma
abbrev Ck : Type := List Ga
abbrev Ar : Type := List Xd
abbrev Fi : Type := List Lb
abbrev Ct : Type := Qb × Unit
abbrev Dt : Type := Unit × Zi
abbrev Dd : Type := List Ac
abbrev E1 : Type := We × Yb
abbrev Et : Type := Fe × Unit
abbrev H1 : Type := Unit × Yb
abbrev Yg : Type := Ac × Unit
abbrev Fo : Type := Ca × Unit
abbrev VR : Type := Ca × Fo
abbrev GG : Type := Ha × Fk
abbrev Tab : Type := (Zi × Unit) ⊕ Jg
abbrev GI : Type := We × Unit
abbrev RP : Type := Int × (Jq × Yb)
abbrev I1 : Type := FG × Yb
abbrev SP : Type := List We
abbrev QL : Type := Jg ⊕ (Zi × Unit)
abbrev J1 : Type := We × Zi
abbrev K1 : Type := (List Ck) × (Int × (Int × (Ck × Yb)))
abbrev Van : Type := Ib × Unit
abbrev M1 : Type := Unit × Jg
abbrev Waz : Type := Jq × Unit
abbrev RL : Type := Jg ⊕ Et
abbrev Ft : Type := Dd × Yb
abbrev ND : Type := Sa × Unit
abbrev HG : Type := List (Int × We)
abbrev Iz : Type := Ga × Unit
abbrev Uab : Type := Int × Fe
abbrev JI : Type := (List Ck) × Yb
abbrev GU : Type := Ac × Zi
abbrev N1 : Type := Dd × Zi
abbrev Vab : Type := Yb × Unit
abbrev P1 : Type := Zb × Unit
abbrev HU : Type := Lb × Unit
abbrev Wab : Type := Int × Dt
abbrev Xaz : Type := Unit × (Ar × Unit)
abbrev Fv : Type := List Fi
abbrev Q1 : Type := (GI × Unit) ⊕ Jg
abbrev S1 : Type := Unit × E1
abbrev UP : Type := Gt × Unit
abbrev IU : Type := Zb × GG
abbrev T1 : Type := (Int × Wab) × Fk
abbrev Xab : Type := Int × E1
abbrev Yab : Type := Ar × Fe
abbrev KI : Type := Dd × Unit
abbrev TP : Type := (KI × Unit) ⊕ Jg
abbrev Zab : Type := (Unit × (SP × ((List Bool) × J1))) × Fk
abbrev SL : Type := Xi × Yb
abbrev HI : Type := (Int × SL) × Unit
abbrev LI : Type := Ar × Yb
abbrev U1 : Type := (Ac × (Int × Ft)) × Unit
abbrev V1 : Type := We × Fe
abbrev Wan : Type := (UP × Unit) ⊕ Jg
abbrev Xan : Type := ((Unit × (Unit × GI)) × VR) ⊕ Jg
abbrev Yaz : Type := Zb × Fk
abbrev Yan : Type := (Ac × (Unit × (Unit × (Ck × (Dd × (Int × (Int × Ft))))))) × GG
abbrev Zan : Type := (Unit × (Int × (Unit × (Int × (Unit × (Int × (Ck × Zi))))))) × IU
abbrev VP : Type := We × E1
abbrev Yas : Type := Unit × M1
abbrev CU : Type := Unit × N1
abbrev KK : Type := Sa × ND
abbrev Q2 : Type := (Unit × Xaz) × (Ib × Van)
abbrev DU : Type := FG × (Fi × Yb)
abbrev R2 : Type := (Yg × Unit) ⊕ Jg
abbrev Zas : Type := (GI × Unit) ⊕ (V1 × Unit)
abbrev Pae : Type := (We × Zb) × Unit
abbrev Aat : Type := Uab × Unit
abbrev EU : Type := Unit × (Dd × E1)
abbrev Qae : Type := Unit × GU
abbrev S2 : Type := (Unit × (HG × GI)) × Fk
abbrev FU : Type := (Int × GU) × Unit
abbrev Rae : Type := (Unit × (Ac × (Unit × (Gt × (Int × Xab))))) × VR
abbrev Sae : Type := (Unit × (SP × ((List Bool) × (We × Lb)))) × Fk
abbrev Lx : Sa := ((((0, [], ()), [], 0, [], 0, false, ()), (0, 0, 0, ()), [], 0, 0, 0, 0, ()), [], ())
abbrev Oh : Ib := (((0, [], ()), [], 0, [], 0, false, ()), (0, 0, 0, ()), [], 0, 0, 0, 0, ())
abbrev Tae : Qb := ((0, [], ()), [], 0, [], 0, false, ())
def Oc (a0 : Int) (a1 : Int) (a2 : Int) : Option Fe :=
 (cond (decide (a0 ≥ a1))
 (some ((decide (a0 ≤ a2)), ()))
 (some (false, ())))
def Hi (a0 : We) : Option GI :=
 (cond (bl (ln ([] : List Int) + ln a0) Oa)
 (some ((ap [] a0), ()))
 none)
def Xp (a0 : Ca) : Option Fo :=
 (ob (Hi a0.2.1) fun r1 =>
 (some ((a0.1, r1.1, ()), ())))
def Qp (t3 : Gt) (t6 : Ar) (t7 : Int) (t8 : Int) : Option (((Gt × LI) × Unit) ⊕ Wan) :=
 (cond (decide (t8 < t7))
 (ob (Hc t6 t8) fun x7 =>
 (ob (Xp x7.2.1) fun r8 =>
 (cond (bl (ln t3 + ln ([r8.1] : List Ca)) Oa)
 (some (.inl (((ap t3 ([r8.1] : List Ca)), t6, t7, (wr .i64 (t8 + 1)), ()), ())))
 none)))
 (some (.inr (.inl ((t3, ()), ())))))
def Yr := Gb fun x : ((Gt × LI) × Unit) => Qp x.1.1 x.1.2.1 x.1.2.2.1 x.1.2.2.2.1
def Rx (a0 : Ar) : Option UP :=
 (ob (Yr (([], a0, ((ln a0 : Nat) : Int), 0, ()), ())) (se (fun y9 => (some (y9.1.1, ()))) (fun z10 => none)))
def Ii (a0 : Ga) : Option Fe :=
 (ob (Oc a0.2.1 1 56) fun r1 =>
 (ob (Oc a0.2.2.1 1 15) fun r2 =>
 (ob (Oc a0.2.2.2.1 1 3) fun r3 =>
 (cond (a0.1 == 0)
 (cond (a0.2.1 == 0)
 (cond (a0.2.2.1 == 0)
 (some ((a0.2.2.2.1 == 0), ()))
 (some (false, ())))
 (some (false, ())))
 (cond (a0.1 == 1)
 (cond (a0.2.1 == 0)
 (cond (a0.2.2.1 == 0)
 (some ((a0.2.2.2.1 == 0), ()))
 (some (false, ())))
 (some (false, ())))
 (cond (a0.1 == 10)
 (cond (a0.2.1 == 0)
 (cond (a0.2.2.1 == 0)
 (some ((a0.2.2.2.1 == 0), ()))
 (some (false, ())))
 (some (false, ())))
 (cond (a0.1 == 2)
 (cond (a0.2.2.2.1 == 0)
 (cond r1.1
 (cond r2.1
 (some (true, ()))
 (some ((a0.2.2.1 == 0), ())))
 (cond (a0.2.1 == 0)
 (cond r2.1
 (cond r2.1
 (some (true, ()))
 (some ((a0.2.2.1 == 0), ())))
 (some (false, ())))
 (some (false, ()))))
 (some (false, ())))
 (cond (a0.1 == 3)
 (cond r3.1
 (cond (a0.2.1 == 0)
 (some ((a0.2.2.1 == 0), ()))
 (some (false, ())))
 (some (false, ())))
 (cond (a0.1 == 4)
 (cond r3.1
 (cond (a0.2.1 == 0)
 (some ((a0.2.2.1 == 0), ()))
 (some (false, ())))
 (some (false, ())))
 (cond (a0.1 == 5)
 (ob (Oc a0.2.2.2.1 0 3) fun r4 =>
 (cond r4.1
 (cond (a0.2.1 == 0)
 (some ((a0.2.2.1 == 0), ()))
 (some (false, ())))
 (some (false, ()))))
 (cond (a0.1 == 9)
 (ob (Oc a0.2.2.2.1 0 3) fun r5 =>
 (cond r5.1
 (cond (a0.2.1 == 0)
 (some ((a0.2.2.1 == 0), ()))
 (some (false, ())))
 (some (false, ()))))
 (cond (a0.1 == 6)
 (cond r1.1
 (cond r2.1
 (some ((a0.2.2.2.1 == 0), ()))
 (some (false, ())))
 (some (false, ())))
 (cond (a0.1 == 7)
 (cond r1.1
 (cond r3.1
 (some ((a0.2.2.1 == 0), ()))
 (some (false, ())))
 (some (false, ())))
 (cond (a0.1 == 8)
 (cond r2.1
 (cond (a0.2.1 == 0)
 (some ((a0.2.2.2.1 == 0), ()))
 (some (false, ())))
 (some (false, ())))
 (some (false, ()))))))))))))))))
def Oy (t1 : Unit) (t3 : Int) (t4 : Int) (b1 : Ha) : Option ((H1 × Fk) ⊕ ((Dt × Fk) ⊕ Et)) :=
 (ob (Hc b1.2.1 t3) fun x40 =>
 (cond (decide (t4 < ((ln x40 : Nat) : Int)))
 (ob (Hc b1.2.1 t3) fun x41 =>
 (ob (Hc x41 t4) fun x42 =>
 (ob (Ii x42) fun r43 =>
 (cond (!r43.1)
 (some (.inr (.inr ((false, ()), ()))))
 (cond (x42.1 == 1)
 (cond (t3 == 0)
 (some (.inr (.inr ((false, ()), ()))))
 (cond (x42.1 != 9)
 (cond (decide (x42.2.2.2.1 ≥ ((ln b1.2.1 : Nat) : Int)))
 (some (.inr (.inr ((false, ()), ()))))
 (some (.inl (((), t3, (wr .i64 (t4 + 1)), ()), (b1, ())))))
 (some (.inl (((), t3, (wr .i64 (t4 + 1)), ()), (b1, ()))))))
 (cond (x42.1 != 9)
 (cond (decide (x42.2.2.2.1 ≥ ((ln b1.2.1 : Nat) : Int)))
 (some (.inr (.inr ((false, ()), ()))))
 (some (.inl (((), t3, (wr .i64 (t4 + 1)), ()), (b1, ())))))
 (some (.inl (((), t3, (wr .i64 (t4 + 1)), ()), (b1, ()))))))))))
 (some (.inr (.inl (((), t3, ()), (b1, ())))))))
def Tm := Gb fun x : (H1 × Fk) => Oy x.1.1 x.1.2.1 x.1.2.2.1 x.2.1
def Ny (t1 : Unit) (t3 : Int) (b1 : Ha) : Option ((Dt × Fk) ⊕ ((Jg × Fk) ⊕ Et)) :=
 (cond (decide (t3 < ((ln b1.2.1 : Nat) : Int)))
 (ob (Hc b1.2.1 t3) fun x31 =>
 (cond (((ln x31 : Nat) : Int) != b1.1)
 (some (.inr (.inr ((false, ()), ()))))
 (ob (Tm (((), t3, 0, ()), (b1, ()))) (se (fun y44 => (some (.inl (((), (wr .i64 (y44.1.2.1 + 1)), ()), (y44.2.1, ()))))) (fun z45 => (some (.inr (.inr ((z45.1.1, ()), ())))))))))
 (some (.inr (.inl (((), ()), (b1, ()))))))
def Sm := Gb fun x : (Dt × Fk) => Ny x.1.1 x.1.2.1 x.2.1
def Am (a0 : Ha) : Option Fe :=
 (ob (Sm (((), 0, ()), (a0, ()))) (se (fun y46 => (ob (Oc y46.2.1.1 1 32) fun r48 =>
 (cond r48.1
 (ob (Oc ((ln y46.2.1.2.1 : Nat) : Int) 1 4) fun r49 =>
 (some (r49.1, ())))
 (some (false, ()))))) (fun z47 => (some (z47.1.1, ())))))
def Ao (a0 : Ha) (a1 : Int) : Option Fe :=
 (ob (Am a0) fun r1 =>
 (cond r1.1
 (cond (decide (0 ≤ ((ln a0.2.1 : Nat) : Int)))
 (ob (Oc a1 0 (wr .i64 ((Ke .i64 1 ((ln a0.2.1 : Nat) : Int)) - 1))) fun r2 =>
 (cond r2.1
 (cond ((2 : Int) == 0)
 none
 (some (((yc a1 2) == 0), ())))
 (some (false, ()))))
 none)
 (some (false, ()))))
def Vm (a0 : Int) : Option Fe :=
 (cond (decide (a0 ≥ 1))
 (some ((decide (a0 ≤ 56)), ()))
 (some (false, ())))
def Sq (a0 : Int) : Option Fe :=
 (cond (decide (a0 ≥ 1))
 (some ((decide (a0 ≤ 15)), ()))
 (some (false, ())))
def Cs (a0 : Int) : Option Fe :=
 (cond (decide (a0 ≥ 1))
 (some ((decide (a0 ≤ 3)), ()))
 (some (false, ())))
def Jh (a0 : Ga) : Option Fe :=
 (cond (a0.1 == 0)
 (cond (a0.2.1 == 0)
 (cond (a0.2.2.1 == 0)
 (some ((a0.2.2.2.1 == 0), ()))
 (some (false, ())))
 (some (false, ())))
 (cond (a0.1 == 1)
 (cond (a0.2.1 == 0)
 (cond (a0.2.2.1 == 0)
 (some ((a0.2.2.2.1 == 0), ()))
 (some (false, ())))
 (some (false, ())))
 (cond (a0.1 == 10)
 (cond (a0.2.1 == 0)
 (cond (a0.2.2.1 == 0)
 (some ((a0.2.2.2.1 == 0), ()))
 (some (false, ())))
 (some (false, ())))
 (cond (a0.1 == 2)
 (cond (a0.2.2.2.1 == 0)
 (cond (a0.2.1 == 0)
 (cond (a0.2.2.1 == 0)
 (cond (a0.2.1 != 0)
 (some (true, ()))
 (some ((a0.2.2.1 != 0), ())))
 (ob (Sq a0.2.2.1) fun r1 =>
 (cond r1.1
 (cond (a0.2.1 != 0)
 (some (true, ()))
 (some ((a0.2.2.1 != 0), ())))
 (some (false, ())))))
 (ob (Vm a0.2.1) fun r2 =>
 (cond r2.1
 (cond (a0.2.2.1 == 0)
 (cond (a0.2.1 != 0)
 (some (true, ()))
 (some ((a0.2.2.1 != 0), ())))
 (ob (Sq a0.2.2.1) fun r3 =>
 (cond r3.1
 (cond (a0.2.1 != 0)
 (some (true, ()))
 (some ((a0.2.2.1 != 0), ())))
 (some (false, ())))))
 (some (false, ())))))
 (some (false, ())))
 (cond (a0.1 == 3)
 (cond (a0.2.1 == 0)
 (cond (a0.2.2.1 == 0)
 (ob (Cs a0.2.2.2.1) fun r4 =>
 (some (r4.1, ())))
 (some (false, ())))
 (some (false, ())))
 (cond (a0.1 == 4)
 (cond (a0.2.1 == 0)
 (cond (a0.2.2.1 == 0)
 (ob (Cs a0.2.2.2.1) fun r5 =>
 (some (r5.1, ())))
 (some (false, ())))
 (some (false, ())))
 (cond (a0.1 == 5)
 (cond (a0.2.1 == 0)
 (cond (a0.2.2.1 == 0)
 (cond (decide (a0.2.2.2.1 ≥ 0))
 (some ((decide (a0.2.2.2.1 ≤ 3)), ()))
 (some (false, ())))
 (some (false, ())))
 (some (false, ())))
 (cond (a0.1 == 9)
 (cond (a0.2.1 == 0)
 (cond (a0.2.2.1 == 0)
 (cond (decide (a0.2.2.2.1 ≥ 0))
 (some ((decide (a0.2.2.2.1 ≤ 3)), ()))
 (some (false, ())))
 (some (false, ())))
 (some (false, ())))
 (cond (a0.1 == 6)
 (ob (Vm a0.2.1) fun r6 =>
 (cond r6.1
 (ob (Sq a0.2.2.1) fun r7 =>
 (cond r7.1
 (some ((a0.2.2.2.1 == 0), ()))
 (some (false, ()))))
 (some (false, ()))))
 (cond (a0.1 == 7)
 (ob (Vm a0.2.1) fun r8 =>
 (cond r8.1
 (cond (a0.2.2.1 == 0)
 (ob (Cs a0.2.2.2.1) fun r9 =>
 (some (r9.1, ())))
 (some (false, ())))
 (some (false, ()))))
 (cond (a0.1 == 8)
 (cond (a0.2.1 == 0)
 (ob (Sq a0.2.2.1) fun r10 =>
 (cond r10.1
 (some ((a0.2.2.2.1 == 0), ()))
 (some (false, ()))))
 (some (false, ())))
 (some (false, ())))))))))))))
def Hy (t1 : Unit) (t3 : Int) (t28 : (List Ck)) (t29 : Int) (t30 : Int) (t40 : Ck) (t41 : Int) (t42 : Int) (b1 : Ha) : Option (((Unit × (Int × K1)) × Fk) ⊕ (((Unit × JI) × Fk) ⊕ Et)) :=
 (cond (decide (t42 < t41))
 (ob (Hc t40 t42) fun x24 =>
 (ob (Jh x24) fun r25 =>
 (cond (!r25.1)
 (some (.inr (.inr ((false, ()), ()))))
 (cond (t3 == 0)
 (cond (x24.1 == 1)
 (some (.inr (.inr ((false, ()), ()))))
 (cond (x24.1 != 9)
 (cond (decide (x24.2.2.2.1 ≥ ((ln b1.2.1 : Nat) : Int)))
 (some (.inr (.inr ((false, ()), ()))))
 (some (.inl (((), t3, t28, t29, t30, t40, t41, (wr .i64 (t42 + 1)), ()), (b1, ())))))
 (some (.inl (((), t3, t28, t29, t30, t40, t41, (wr .i64 (t42 + 1)), ()), (b1, ()))))))
 (cond (x24.1 != 9)
 (cond (decide (x24.2.2.2.1 ≥ ((ln b1.2.1 : Nat) : Int)))
 (some (.inr (.inr ((false, ()), ()))))
 (some (.inl (((), t3, t28, t29, t30, t40, t41, (wr .i64 (t42 + 1)), ()), (b1, ())))))
 (some (.inl (((), t3, t28, t29, t30, t40, t41, (wr .i64 (t42 + 1)), ()), (b1, ())))))))))
 (some (.inr (.inl (((), t28, t29, t30, ()), (b1, ()))))))
def Mm := Gb fun x : ((Unit × (Int × K1)) × Fk) => Hy x.1.1 x.1.2.1 x.1.2.2.1 x.1.2.2.2.1 x.1.2.2.2.2.1 x.1.2.2.2.2.2.1 x.1.2.2.2.2.2.2.1 x.1.2.2.2.2.2.2.2.1 x.2.1
def Gy (t1 : Unit) (t28 : (List Ck)) (t29 : Int) (t30 : Int) (b1 : Ha) : Option (((Unit × JI) × Fk) ⊕ RL) :=
 (cond (decide (t30 < t29))
 (ob (Hc t28 t30) fun x19 =>
 (cond (((ln x19 : Nat) : Int) != b1.1)
 (some (.inr (.inr ((false, ()), ()))))
 (ob (Mm (((), t30, t28, t29, t30, x19, ((ln x19 : Nat) : Int), 0, ()), (b1, ()))) (se (fun y26 => (some (.inl (((), y26.1.2.1, y26.1.2.2.1, (wr .i64 (y26.1.2.2.2.1 + 1)), ()), (y26.2.1, ()))))) (fun z27 => (some (.inr (.inr ((z27.1.1, ()), ())))))))))
 (some (.inr (.inl ((), ())))))
def Lm := Gb fun x : ((Unit × JI) × Fk) => Gy x.1.1 x.1.2.1 x.1.2.2.1 x.1.2.2.2.1 x.2.1
def Rj (a0 : Ha) : Option Fe :=
 (cond (decide (a0.1 < 1))
 (some (false, ()))
 (cond (decide (a0.1 > 32))
 (some (false, ()))
 (cond (decide (((ln a0.2.1 : Nat) : Int) < 1))
 (some (false, ()))
 (cond (decide (((ln a0.2.1 : Nat) : Int) > 4))
 (some (false, ()))
 (ob (Lm (((), a0.2.1, ((ln a0.2.1 : Nat) : Int), 0, ()), (a0, ()))) (se (fun y28 => (some (true, ()))) (fun z29 => (some (z29.1.1, ())))))))))
def Pg (a0 : Ha) (a1 : Int) : Option Fe :=
 (ob (Rj a0) fun r1 =>
 (cond r1.1
 (cond (decide (a1 ≥ 0))
 (cond ((2 : Int) == 0)
 none
 (cond ((yc a1 2) == 0)
 (cond (decide (0 ≤ ((ln a0.2.1 : Nat) : Int)))
 (some ((decide (a1 < (Ke .i64 1 ((ln a0.2.1 : Nat) : Int)))), ()))
 none)
 (some (false, ()))))
 (some (false, ())))
 (some (false, ()))))
def VC (a0 : We) : Option Fe :=
 (some ((decide (((ln a0 : Nat) : Int) > 1048576)), ()))
def GD (t0 : We) (t3 : Int) (t4 : Int) : Option (P1 ⊕ ((J1 × Unit) ⊕ Jg)) :=
 (cond (decide (t4 < ((ln t0 : Nat) : Int)))
 (cond (decide (t4 < 4000))
 (ob (Hc t0 t4) fun x3 =>
 (some (.inl ((t0, (Cl .i64 (wr .i64 ((wr .i64 ((wr .i64 (t3 * 131)) + (wr .i64 x3))) + 7)) 1073741823), (wr .i64 (t4 + 1)), ()), ()))))
 (some (.inr (.inl ((t0, t3, ()), ())))))
 (some (.inr (.inl ((t0, t3, ()), ())))))
def Py := Gb fun x : P1 => GD x.1.1 x.1.2.1 x.1.2.2.1
def PG (a0 : We) : Option Zb :=
 (ob (Py ((a0, (wr .i64 (10729 + ((ln a0 : Nat) : Int))), 0, ()), ())) (se (fun y4 => (some (y4.1.1, 0, y4.1.2.1, ()))) (fun z5 => none)))
def YD (a0 : We) (a1 : Int) : Option Zb :=
 (ob (PG a0) fun r1 =>
 (some (r1.1, r1.2.1, (wr .i64 (r1.2.2.1 + (wr .i64 (7919 * a1)))), r1.2.2.2)))
def Ym (a0 : Zb) : Option (Zb × Zi) :=
 (cond (decide ((0 : Int) ≤ 33))
 (cond (decide ((0 : Int) ≤ 45))
 (cond (decide (a0.2.1 < ((ln a0.1 : Nat) : Int)))
 (ob (Hc a0.1 a0.2.1) fun x1 =>
 (some ((a0.1, (wr .i64 (a0.2.1 + 1)), (wr .i64 ((wr .i64 (a0.2.2.1 * 6364136223846793005)) + 1442695040888963407)), a0.2.2.2), ((Cl .i64 (wr .i64 ((Cl .i64 (Yn .i64 (Bu .i64 (wr .i64 ((wr .i64 (a0.2.2.1 * 6364136223846793005)) + 1442695040888963407)) 33) (Bu .i64 (wr .i64 ((wr .i64 (a0.2.2.1 * 6364136223846793005)) + 1442695040888963407)) 45)) 255) + (wr .i64 x1))) 255), ()))))
 (some ((a0.1, a0.2.1, (wr .i64 ((wr .i64 (a0.2.2.1 * 6364136223846793005)) + 1442695040888963407)), a0.2.2.2), ((Cl .i64 (Yn .i64 (Bu .i64 (wr .i64 ((wr .i64 (a0.2.2.1 * 6364136223846793005)) + 1442695040888963407)) 33) (Bu .i64 (wr .i64 ((wr .i64 (a0.2.2.1 * 6364136223846793005)) + 1442695040888963407)) 45)) 255), ()))))
 none)
 none)
def Vb (a0 : Zb) (a1 : Int) : Option (Zb × Zi) :=
 (cond (decide (a1 ≤ 0))
 (some (a0, (0, ())))
 (cond (decide (a1 ≤ 256))
 (ob (Ym a0) fun r1 =>
 (cond (a1 == 0)
 none
 (some (r1.1, ((yc r1.2.1 a1), ())))))
 (ob (Ym a0) fun r2 =>
 (ob (Ym r2.1) fun r3 =>
 (ob (Ym r3.1) fun r4 =>
 (ob (Ym r4.1) fun r5 =>
 (cond (a1 == 0)
 none
 (some (r5.1, ((yc (wr .i64 ((wr .i64 ((wr .i64 ((wr .i64 (r2.2.1 * 16777216)) + (wr .i64 (r3.2.1 * 65536)))) + (wr .i64 (r4.2.1 * 256)))) + r5.2.1)) a1), ()))))))))))
def Wu (a0 : Zb) (a1 : Dd) : Option (Zb × Yg) :=
 (ob (Vb a0 ((ln a1 : Nat) : Int)) fun r1 =>
 (cond (Qd (ln a1) r1.2.1)
 (ob a1[(tn r1.2.1)]? fun x2 =>
 (some (r1.1, (x2, ()))))
 none))
def Gm (t0 : Dd) (t1 : Ac) (t5 : We) (t6 : Int) : Option (((Dd × (Ac × J1)) × Unit) ⊕ Q1) :=
 (cond (decide (t6 < ((ln t0 : Nat) : Int)))
 (cond (decide (t6 > 0))
 (cond (bl (ln t5 + ln (Yc t1)) Oa)
 (ob (Hc t0 t6) fun x5 =>
 (cond (bl (ln (ap t5 (Yc t1)) + ln (Yc x5)) Oa)
 (some (.inl ((t0, t1, (ap (ap t5 (Yc t1)) (Yc x5)), (wr .i64 (t6 + 1)), ()), ())))
 none))
 none)
 (ob (Hc t0 t6) fun x6 =>
 (cond (bl (ln t5 + ln (Yc x6)) Oa)
 (some (.inl ((t0, t1, (ap t5 (Yc x6)), (wr .i64 (t6 + 1)), ()), ())))
 none)))
 (some (.inr (.inl ((t5, ()), ())))))
def Um := Gb fun x : ((Dd × (Ac × J1)) × Unit) => Gm x.1.1 x.1.2.1 x.1.2.2.1 x.1.2.2.2.1
def Zo (a0 : Dd) (a1 : Ac) : Option Yg :=
 (ob (Um ((a0, a1, [], 0, ()), ())) (se (fun y7 => (some ((Po y7.1.1), ()))) (fun z8 => none)))
def IP (t0 : Ac) (t1 : Int) (t5 : Dd) (t6 : Int) (t7 : Int) : Option (U1 ⊕ TP) :=
 (cond (decide (t7 ≤ ((ln t0 : Nat) : Int)))
 (cond (t7 == ((ln t0 : Nat) : Int))
 (cond (Jd (ln t0) t6 t7)
 (cond (bl (ln t5 + ln ([(Xa t0 (tn t6) (tn t7))] : List Ac)) Oa)
 (some (.inl ((t0, t1, (ap t5 ([(Xa t0 (tn t6) (tn t7))] : List Ac)), (wr .i64 (t7 + 1)), (wr .i64 (t7 + 1)), ()), ())))
 none)
 none)
 (ob (Hc t0 t7) fun c3 =>
 (cond (((UInt8.toNat c3 : Nat) : Int) == t1)
 (cond (Jd (ln t0) t6 t7)
 (cond (bl (ln t5 + ln ([(Xa t0 (tn t6) (tn t7))] : List Ac)) Oa)
 (some (.inl ((t0, t1, (ap t5 ([(Xa t0 (tn t6) (tn t7))] : List Ac)), (wr .i64 (t7 + 1)), (wr .i64 (t7 + 1)), ()), ())))
 none)
 none)
 (some (.inl ((t0, t1, t5, t6, (wr .i64 (t7 + 1)), ()), ()))))))
 (some (.inr (.inl ((t5, ()), ())))))
def Ss := Gb fun x : U1 => IP x.1.1 x.1.2.1 x.1.2.2.1 x.1.2.2.2.1 x.1.2.2.2.2.1
def ED (a0 : Ac) (a1 : Int) : Option KI :=
 (ob (Ss ((a0, a1, [], 0, 0, ()), ())) (se (fun y4 => (some (y4.1.1, ()))) (fun z5 => none)))
def VB : Option KI :=
 (ob (ED Vz 32) fun r1 =>
 (some (r1.1, ())))
def Zl (a0 : Int) : Option Yg :=
 (ob (Oc a0 1 56) fun r1 =>
 (cond (!r1.1)
 (some ([], ()))
 (ob VB fun r2 =>
 (cond (Qd (ln r2.1) (wr .i64 (a0 - 1)))
 (ob r2.1[(tn (wr .i64 (a0 - 1)))]? fun x3 =>
 (some (x3, ())))
 none))))
def Fq (t0 : Int) (t3 : Ac) (t4 : Int) : Option (FU ⊕ (((Int × Yg) × Unit) ⊕ Jg)) :=
 (cond (t4 != 0)
 (cond ((10 : Int) == 0)
 none
 (cond (decide ((yc t4 10) < 0))
 (cond (bl (ln (Po ([(wr .u8 (wr .i64 (48 + (wr .i64 (0 - (yc t4 10))))))] : List Int)) + ln t3) Oa)
 (cond ((10 : Int) == 0)
 none
 (some (.inl ((t0, (ap (Po ([(wr .u8 (wr .i64 (48 + (wr .i64 (0 - (yc t4 10))))))] : List Int)) t3), (wr .i64 (Int.tdiv t4 10)), ()), ()))))
 none)
 (cond (bl (ln (Po ([(wr .u8 (wr .i64 (48 + (yc t4 10))))] : List Int)) + ln t3) Oa)
 (cond ((10 : Int) == 0)
 none
 (some (.inl ((t0, (ap (Po ([(wr .u8 (wr .i64 (48 + (yc t4 10))))] : List Int)) t3), (wr .i64 (Int.tdiv t4 10)), ()), ()))))
 none)))
 (some (.inr (.inl ((t0, t3, ()), ())))))
def Bh := Gb fun x : FU => Fq x.1.1 x.1.2.1 x.1.2.2.1
def Ug (a0 : Int) : Option Yg :=
 (cond (a0 == 0)
 (some (([48] : List UInt8), ()))
 (ob (Bh ((a0, [], a0, ()), ())) (se (fun y1 => (cond (decide (y1.1.1 < 0))
 (cond (bl (ln ([45] : List UInt8) + ln y1.1.2.1) Oa)
 (some ((ap ([45] : List UInt8) y1.1.2.1), ()))
 none)
 (some (y1.1.2.1, ())))) (fun z2 => none))))
def Mo (t0 : Int) (t3 : Ac) (t4 : Int) : Option (FU ⊕ R2) :=
 (cond (decide (t4 < 4))
 (ob (Oc t0 1 15) fun r3 =>
 (cond r3.1
 (cond (decide (0 ≤ t4))
 (cond ((Cl .i64 (Bu .i64 t0 t4) 1) == 1)
 (cond (Jd (ln UF) t4 (wr .i64 (t4 + 1)))
 (cond (bl (ln t3 + ln (Xa UF (tn t4) (tn (wr .i64 (t4 + 1))))) Oa)
 (some (.inl ((t0, (ap t3 (Xa UF (tn t4) (tn (wr .i64 (t4 + 1))))), (wr .i64 (t4 + 1)), ()), ())))
 none)
 none)
 (some (.inl ((t0, t3, (wr .i64 (t4 + 1)), ()), ()))))
 none)
 (some (.inr (.inl ((t3, ()), ()))))))
 (some (.inr (.inl ((t3, ()), ())))))
def Wq := Gb fun x : FU => Mo x.1.1 x.1.2.1 x.1.2.2.1
def Rl (a0 : Int) : Option Yg :=
 (ob (Wq ((a0, [], 0, ()), ())) (se (fun y4 => (some (y4.1.1, ()))) (fun z5 => none)))
def Kr (a0 : Ga) : Option Yg :=
 (ob (Ii a0) fun r1 =>
 (cond (!r1.1)
 (some ([], ()))
 (cond (a0.1 == 0)
 (some (Eo, ()))
 (cond (a0.1 == 1)
 (some (Co, ()))
 (cond (a0.1 == 3)
 (ob (Ug a0.2.2.2.1) fun r2 =>
 (cond (bl (ln ([109, 111, 58] : List UInt8) + ln r2.1) Oa)
 (some ((ap ([109, 111, 58] : List UInt8) r2.1), ()))
 none))
 (cond (a0.1 == 4)
 (ob (Ug a0.2.2.2.1) fun r3 =>
 (cond (bl (ln ([116, 103, 58] : List UInt8) + ln r3.1) Oa)
 (some ((ap ([116, 103, 58] : List UInt8) r3.1), ()))
 none))
 (cond (a0.1 == 5)
 (ob (Ug a0.2.2.2.1) fun r4 =>
 (cond (bl (ln ([116, 111, 58] : List UInt8) + ln r4.1) Oa)
 (some ((ap ([116, 111, 58] : List UInt8) r4.1), ()))
 none))
 (cond (a0.1 == 6)
 (ob (Rl a0.2.2.1) fun r5 =>
 (cond (bl (ln r5.1 + ln ([47] : List UInt8)) Oa)
 (ob (Zl a0.2.1) fun r6 =>
 (cond (bl (ln (ap r5.1 ([47] : List UInt8)) + ln r6.1) Oa)
 (some ((ap (ap r5.1 ([47] : List UInt8)) r6.1), ()))
 none))
 none))
 (cond (a0.1 == 7)
 (ob (Ug a0.2.2.2.1) fun r7 =>
 (cond (bl (ln r7.1 + ln ([47] : List UInt8)) Oa)
 (ob (Zl a0.2.1) fun r8 =>
 (cond (bl (ln (ap r7.1 ([47] : List UInt8)) + ln r8.1) Oa)
 (some ((ap (ap r7.1 ([47] : List UInt8)) r8.1), ()))
 none))
 none))
 (cond (a0.1 == 8)
 (ob (Rl a0.2.2.1) fun r9 =>
 (cond (bl (ln Gf + ln r9.1) Oa)
 (some ((ap Gf r9.1), ()))
 none))
 (cond (a0.1 == 9)
 (ob (Ug a0.2.2.2.1) fun r10 =>
 (cond (bl (ln Lh + ln r10.1) Oa)
 (some ((ap Lh r10.1), ()))
 none))
 (cond (a0.1 == 10)
 (some (Cm, ()))
 (cond (a0.2.2.1 == 0)
 (ob (Zl a0.2.1) fun r11 =>
 (some (r11.1, ())))
 (ob (Rl a0.2.2.1) fun r12 =>
 (cond (bl (ln r12.1 + ln ([45] : List UInt8)) Oa)
 (ob (Zl a0.2.1) fun r13 =>
 (cond (bl (ln (ap r12.1 ([45] : List UInt8)) + ln r13.1) Oa)
 (some ((ap (ap r12.1 ([45] : List UInt8)) r13.1), ()))
 none))
 none)))))))))))))))
def DD (a0 : Ga) : Option Fe :=
 (ob (Ii a0) fun r1 =>
 (cond r1.1
 (cond (a0.1 == 6)
 (some (true, ()))
 (some ((a0.1 == 7), ())))
 (some (false, ()))))
def Vu (a0 : Zb) (a1 : Int) : Option (Zb × Fe) :=
 (ob (Vb a0 a1) fun r1 =>
 (some (r1.1, ((r1.2.1 == 0), ()))))
def strings_Split (a b : List UInt8) : Option (List Ac × Unit) := EW a b
def Dc (a0 : Int) : Option Yg :=
 (cond (decide (a0 < 1))
 (some ([], ()))
 (cond (decide (a0 > 56))
 (some ([], ()))
 (ob (strings_Split Vz ([32] : List UInt8)) fun r1 =>
 (cond (Qd (ln r1.1) (wr .i64 (a0 - 1)))
 (ob r1.1[(tn (wr .i64 (a0 - 1)))]? fun x2 =>
 (some (x2, ())))
 none))))
def Tk (a0 : Int) (a1 : Int) : Option Yg :=
 (ob (Vm a0) fun r1 =>
 (cond (!r1.1)
 (some ([], ()))
 (cond (a1 != 0)
 (cond (a1 != 2)
 (some ([], ()))
 (cond (decide (a0 ≤ 26))
 (cond (a1 == 2)
 (some ((Po ([(wr .u8 (wr .i64 ((wr .i64 (65 + a0)) - 1)))] : List Int)), ()))
 (cond (decide (a0 ≤ 26))
 (ob (Dc a0) fun r2 =>
 (some (r2.1, ())))
 (cond (decide (a0 ≤ 36))
 (cond (a1 == 2)
 (cond (Jd (ln Zm) (wr .i64 (a0 - 27)) (wr .i64 (a0 - 26)))
 (some ((Xa Zm (tn (wr .i64 (a0 - 27))) (tn (wr .i64 (a0 - 26)))), ()))
 none)
 (cond (decide (a0 ≤ 36))
 (ob (Dc a0) fun r3 =>
 (some (r3.1, ())))
 (ob (Dc a0) fun r4 =>
 (cond (r4.1 == Xj)
 (some (([10] : List UInt8), ()))
 (cond (r4.1 == ([116, 97, 98] : List UInt8))
 (some (([9] : List UInt8), ()))
 (cond (r4.1 == Yj)
 (some (([32] : List UInt8), ()))
 (cond (r4.1 == Wj)
 (cond (a1 == 2)
 (some (([95] : List UInt8), ()))
 (some (([45] : List UInt8), ())))
 (cond (r4.1 == Tj)
 (cond (a1 == 2)
 (some (([43] : List UInt8), ()))
 (some (([61] : List UInt8), ())))
 (some ([], ()))))))))))
 (cond (decide (a0 ≤ 36))
 (ob (Dc a0) fun r5 =>
 (some (r5.1, ())))
 (ob (Dc a0) fun r6 =>
 (cond (r6.1 == Xj)
 (some (([10] : List UInt8), ()))
 (cond (r6.1 == ([116, 97, 98] : List UInt8))
 (some (([9] : List UInt8), ()))
 (cond (r6.1 == Yj)
 (some (([32] : List UInt8), ()))
 (cond (r6.1 == Wj)
 (cond (a1 == 2)
 (some (([95] : List UInt8), ()))
 (some (([45] : List UInt8), ())))
 (cond (r6.1 == Tj)
 (cond (a1 == 2)
 (some (([43] : List UInt8), ()))
 (some (([61] : List UInt8), ())))
 (some ([], ()))))))))))))
 (cond (decide (a0 ≤ 26))
 (ob (Dc a0) fun r7 =>
 (some (r7.1, ())))
 (cond (decide (a0 ≤ 36))
 (cond (a1 == 2)
 (cond (Jd (ln Zm) (wr .i64 (a0 - 27)) (wr .i64 (a0 - 26)))
 (some ((Xa Zm (tn (wr .i64 (a0 - 27))) (tn (wr .i64 (a0 - 26)))), ()))
 none)
 (cond (decide (a0 ≤ 36))
 (ob (Dc a0) fun r8 =>
 (some (r8.1, ())))
 (ob (Dc a0) fun r9 =>
 (cond (r9.1 == Xj)
 (some (([10] : List UInt8), ()))
 (cond (r9.1 == ([116, 97, 98] : List UInt8))
 (some (([9] : List UInt8), ()))
 (cond (r9.1 == Yj)
 (some (([32] : List UInt8), ()))
 (cond (r9.1 == Wj)
 (cond (a1 == 2)
 (some (([95] : List UInt8), ()))
 (some (([45] : List UInt8), ())))
 (cond (r9.1 == Tj)
 (cond (a1 == 2)
 (some (([43] : List UInt8), ()))
 (some (([61] : List UInt8), ())))
 (some ([], ()))))))))))
 (cond (decide (a0 ≤ 36))
 (ob (Dc a0) fun r10 =>
 (some (r10.1, ())))
 (ob (Dc a0) fun r11 =>
 (cond (r11.1 == Xj)
 (some (([10] : List UInt8), ()))
 (cond (r11.1 == ([116, 97, 98] : List UInt8))
 (some (([9] : List UInt8), ()))
 (cond (r11.1 == Yj)
 (some (([32] : List UInt8), ()))
 (cond (r11.1 == Wj)
 (cond (a1 == 2)
 (some (([95] : List UInt8), ()))
 (some (([45] : List UInt8), ())))
 (cond (r11.1 == Tj)
 (cond (a1 == 2)
 (some (([43] : List UInt8), ()))
 (some (([61] : List UInt8), ())))
 (some ([], ())))))))))))))
 (cond (decide (a0 ≤ 26))
 (cond (a1 == 2)
 (some ((Po ([(wr .u8 (wr .i64 ((wr .i64 (65 + a0)) - 1)))] : List Int)), ()))
 (cond (decide (a0 ≤ 26))
 (ob (Dc a0) fun r12 =>
 (some (r12.1, ())))
 (cond (decide (a0 ≤ 36))
 (cond (a1 == 2)
 (cond (Jd (ln Zm) (wr .i64 (a0 - 27)) (wr .i64 (a0 - 26)))
 (some ((Xa Zm (tn (wr .i64 (a0 - 27))) (tn (wr .i64 (a0 - 26)))), ()))
 none)
 (cond (decide (a0 ≤ 36))
 (ob (Dc a0) fun r13 =>
 (some (r13.1, ())))
 (ob (Dc a0) fun r14 =>
 (cond (r14.1 == Xj)
 (some (([10] : List UInt8), ()))
 (cond (r14.1 == ([116, 97, 98] : List UInt8))
 (some (([9] : List UInt8), ()))
 (cond (r14.1 == Yj)
 (some (([32] : List UInt8), ()))
 (cond (r14.1 == Wj)
 (cond (a1 == 2)
 (some (([95] : List UInt8), ()))
 (some (([45] : List UInt8), ())))
 (cond (r14.1 == Tj)
 (cond (a1 == 2)
 (some (([43] : List UInt8), ()))
 (some (([61] : List UInt8), ())))
 (some ([], ()))))))))))
 (cond (decide (a0 ≤ 36))
 (ob (Dc a0) fun r15 =>
 (some (r15.1, ())))
 (ob (Dc a0) fun r16 =>
 (cond (r16.1 == Xj)
 (some (([10] : List UInt8), ()))
 (cond (r16.1 == ([116, 97, 98] : List UInt8))
 (some (([9] : List UInt8), ()))
 (cond (r16.1 == Yj)
 (some (([32] : List UInt8), ()))
 (cond (r16.1 == Wj)
 (cond (a1 == 2)
 (some (([95] : List UInt8), ()))
 (some (([45] : List UInt8), ())))
 (cond (r16.1 == Tj)
 (cond (a1 == 2)
 (some (([43] : List UInt8), ()))
 (some (([61] : List UInt8), ())))
 (some ([], ()))))))))))))
 (cond (decide (a0 ≤ 26))
 (ob (Dc a0) fun r17 =>
 (some (r17.1, ())))
 (cond (decide (a0 ≤ 36))
 (cond (a1 == 2)
 (cond (Jd (ln Zm) (wr .i64 (a0 - 27)) (wr .i64 (a0 - 26)))
 (some ((Xa Zm (tn (wr .i64 (a0 - 27))) (tn (wr .i64 (a0 - 26)))), ()))
 none)
 (cond (decide (a0 ≤ 36))
 (ob (Dc a0) fun r18 =>
 (some (r18.1, ())))
 (ob (Dc a0) fun r19 =>
 (cond (r19.1 == Xj)
 (some (([10] : List UInt8), ()))
 (cond (r19.1 == ([116, 97, 98] : List UInt8))
 (some (([9] : List UInt8), ()))
 (cond (r19.1 == Yj)
 (some (([32] : List UInt8), ()))
 (cond (r19.1 == Wj)
 (cond (a1 == 2)
 (some (([95] : List UInt8), ()))
 (some (([45] : List UInt8), ())))
 (cond (r19.1 == Tj)
 (cond (a1 == 2)
 (some (([43] : List UInt8), ()))
 (some (([61] : List UInt8), ())))
 (some ([], ()))))))))))
 (cond (decide (a0 ≤ 36))
 (ob (Dc a0) fun r20 =>
 (some (r20.1, ())))
 (ob (Dc a0) fun r21 =>
 (cond (r21.1 == Xj)
 (some (([10] : List UInt8), ()))
 (cond (r21.1 == ([116, 97, 98] : List UInt8))
 (some (([9] : List UInt8), ()))
 (cond (r21.1 == Yj)
 (some (([32] : List UInt8), ()))
 (cond (r21.1 == Wj)
 (cond (a1 == 2)
 (some (([95] : List UInt8), ()))
 (some (([45] : List UInt8), ())))
 (cond (r21.1 == Tj)
 (cond (a1 == 2)
 (some (([43] : List UInt8), ()))
 (some (([61] : List UInt8), ())))
 (some ([], ())))))))))))))))
def Cn (a0 : Ga) : Option Fe :=
 (ob (Jh a0) fun r1 =>
 (cond r1.1
 (cond (a0.1 == 6)
 (some (true, ()))
 (some ((a0.1 == 7), ())))
 (some (false, ()))))
def KG (a0 : Ga) : Option Iz :=
 (ob (Cn a0) fun r1 =>
 (cond (!r1.1)
 (some (a0, ()))
 (some ((2, a0.2.1, 0, 0, ()), ()))))
def Ko (t2 : Unit) (t3 : Unit) (t10 : (List Ck)) (t11 : Int) (t12 : Int) (b2 : Ha) (b3 : Ha) : Option (((Unit × (Unit × JI)) × GG) ⊕ ((M1 × GG) ⊕ Jg)) :=
 (cond (decide (t12 < t11))
 (ob (Hc t10 t12) fun x4 =>
 (cond (bl (ln ([] : List Ga) + ln x4) Oa)
 (cond (bl (ln b3.2.1 + ln ([(ap [] x4)] : List Ck)) Oa)
 (some (.inl (((), (), t10, t11, (wr .i64 (t12 + 1)), ()), (b2, (b3.1, (ap b3.2.1 ([(ap [] x4)] : List Ck)), ()), ()))))
 none)
 none))
 (some (.inr (.inl (((), (), ()), (b2, b3, ()))))))
def Qq := Gb fun x : ((Unit × (Unit × JI)) × GG) => Ko x.1.1 x.1.2.1 x.1.2.2.1 x.1.2.2.2.1 x.1.2.2.2.2.1 x.2.1 x.2.2.1
def Wp (a0 : Ha) : Option Fk :=
 (ob (Qq (((), (), a0.2.1, ((ln a0.2.1 : Nat) : Int), 0, ()), ((0, [], ()), (a0.1, [], ()), ()))) (se (fun y5 => (some (y5.2.2.1, ()))) (fun z6 => none)))
def Lo (t3 : Fv) (t6 : Fv) (t7 : Int) (t8 : Int) : Option (((Fv × (Fv × Yb)) × Unit) ⊕ (((Fv × Unit) × Unit) ⊕ Jg)) :=
 (cond (decide (t8 < t7))
 (ob (Hc t6 t8) fun x4 =>
 (cond (bl (ln ([] : List Lb) + ln x4) Oa)
 (cond (bl (ln t3 + ln ([(ap [] x4)] : List Fi)) Oa)
 (some (.inl (((ap t3 ([(ap [] x4)] : List Fi)), t6, t7, (wr .i64 (t8 + 1)), ()), ())))
 none)
 none))
 (some (.inr (.inl ((t3, ()), ())))))
def Rq := Gb fun x : ((Fv × (Fv × Yb)) × Unit) => Lo x.1.1 x.1.2.1 x.1.2.2.1 x.1.2.2.2.1
def Ml (a0 : Fv) : Option (Fv × Unit) :=
 (ob (Rq (([], a0, ((ln a0 : Nat) : Int), 0, ()), ())) (se (fun y5 => (some (y5.1.1, ()))) (fun z6 => none)))
def Pq (a0 : Int) (a1 : Int) : Option Zi :=
 (cond (decide (0 ≤ a1))
 (some ((Cl .i64 (Bu .i64 a0 a1) 1), ()))
 none)
def Lv (t3 : Int) (t6 : Xi) (t7 : Int) (t8 : Int) : Option (HI ⊕ RL) :=
 (cond (decide (t8 < t7))
 (ob (Hc t6 t8) fun x7 =>
 (cond (decide (x7.1 < 0))
 (some (.inr (.inr ((false, ()), ()))))
 (cond (decide (x7.1 > 31))
 (some (.inr (.inr ((false, ()), ()))))
 (ob (Pq t3 x7.1) fun r8 =>
 (cond (r8.1 == 1)
 (some (.inr (.inr ((false, ()), ()))))
 (ob (Jh x7.2.1) fun r9 =>
 (cond (!r9.1)
 (some (.inr (.inr ((false, ()), ()))))
 (cond (x7.2.1.1 == 1)
 (some (.inr (.inr ((false, ()), ()))))
 (cond (x7.2.1.1 == 6)
 (some (.inr (.inr ((false, ()), ()))))
 (cond (x7.2.1.1 == 7)
 (some (.inr (.inr ((false, ()), ()))))
 (cond (decide (0 ≤ x7.1))
 (some (.inl (((Xe .i64 t3 (Ke .i64 1 x7.1)), t6, t7, (wr .i64 (t8 + 1)), ()), ())))
 none)))))))))))
 (some (.inr (.inl ((), ())))))
def Nw := Gb fun x : HI => Lv x.1.1 x.1.2.1 x.1.2.2.1 x.1.2.2.2.1
def Uk (a0 : Xi) : Option Fe :=
 (ob (Nw ((0, a0, ((ln a0 : Nat) : Int), 0, ()), ())) (se (fun y10 => (some (true, ()))) (fun z11 => (some (z11.1.1, ())))))
def Sv (t3 : Unit) (t7 : FG) (t8 : Int) (t9 : Int) (b3 : Yb) : Option (((Unit × I1) × Vab) ⊕ QL) :=
 (cond (decide (t9 < t8))
 (ob (Hc t7 t9) fun x3 =>
 (cond (Iv Uf x3 b3)
 (some (.inr (.inr ((t9, ()), ()))))
 (some (.inl (((), t7, t8, (wr .i64 (t9 + 1)), ()), (b3, ()))))))
 (some (.inr (.inl ((), ())))))
def Rw := Gb fun x : ((Unit × I1) × Vab) => Sv x.1.1 x.1.2.1 x.1.2.2.1 x.1.2.2.2.1 x.2.1
def Az (a0 : FG) (a1 : Yb) : Option Zi :=
 (ob (Rw (((), a0, ((ln a0 : Nat) : Int), 0, ()), (a1, ()))) (se (fun y4 => (some ((-1), ()))) (fun z5 => (some (z5.1.1, ())))))
def Sn (t3 : FG) (t11 : Fi) (t12 : Int) (t13 : Int) : Option ((DU × Unit) ⊕ (((FG × Unit) × Unit) ⊕ Et)) :=
 (cond (decide (t13 < t12))
 (ob (Hc t11 t13) fun x10 =>
 (ob (Az t3 x10.2) fun r11 =>
 (ob (Jh (2, x10.2.1, x10.2.2.1, 0, ())) fun r12 =>
 (cond (!r12.1)
 (some (.inr (.inr ((false, ()), ()))))
 (cond (x10.1 == 0)
 (cond (decide (r11.1 ≥ 0))
 (some (.inr (.inr ((false, ()), ()))))
 (cond (x10.1 == 1)
 (cond (bl (ln t3 + ln ([x10.2] : List Yb)) Oa)
 (some (.inl (((ap t3 ([x10.2] : List Yb)), t11, t12, (wr .i64 (t13 + 1)), ()), ())))
 none)
 (some (.inl ((t3, t11, t12, (wr .i64 (t13 + 1)), ()), ())))))
 (cond (x10.1 == 1)
 (cond (decide (r11.1 ≥ 0))
 (some (.inr (.inr ((false, ()), ()))))
 (cond (x10.1 == 1)
 (cond (bl (ln t3 + ln ([x10.2] : List Yb)) Oa)
 (some (.inl (((ap t3 ([x10.2] : List Yb)), t11, t12, (wr .i64 (t13 + 1)), ()), ())))
 none)
 (some (.inl ((t3, t11, t12, (wr .i64 (t13 + 1)), ()), ())))))
 (cond (x10.1 == 2)
 (cond (decide (r11.1 < 0))
 (some (.inr (.inr ((false, ()), ()))))
 (cond (Jd (ln t3) 0 r11.1)
 (cond (Jd (ln t3) (wr .i64 (r11.1 + 1)) ((ln t3 : Nat) : Int))
 (cond (bl (ln (Xa t3 (tn 0) (tn r11.1)) + ln (Xa t3 (tn (wr .i64 (r11.1 + 1))) (tn ((ln t3 : Nat) : Int)))) Oa)
 (some (.inl (((ap (Xa t3 (tn 0) (tn r11.1)) (Xa t3 (tn (wr .i64 (r11.1 + 1))) (tn ((ln t3 : Nat) : Int)))), t11, t12, (wr .i64 (t13 + 1)), ()), ())))
 none)
 none)
 none))
 (some (.inr (.inr ((false, ()), ())))))))))))
 (some (.inr (.inl ((t3, ()), ())))))
def Bv := Gb fun x : (DU × Unit) => Sn x.1.1 x.1.2.1 x.1.2.2.1 x.1.2.2.2.1
def Rn (a0 : Fi) : Option Fe :=
 (cond (decide (((ln a0 : Nat) : Int) > 8))
 (some (false, ()))
 (ob (Bv (([], a0, ((ln a0 : Nat) : Int), 0, ()), ())) (se (fun y13 => (some ((((ln y13.1.1 : Nat) : Int) == 0), ()))) (fun z14 => (some (z14.1.1, ()))))))
def Cr (t1 : Unit) (t35 : Fv) (t36 : Int) (t37 : Int) (b1 : Qb) : Option (((Unit × (Fv × Yb)) × Ct) ⊕ ((Jg × Ct) ⊕ Et)) :=
 (cond (decide (t37 < t36))
 (ob (Hc t35 t37) fun x7 =>
 (ob (Rn x7) fun r8 =>
 (cond (!r8.1)
 (some (.inr (.inr ((false, ()), ()))))
 (some (.inl (((), t35, t36, (wr .i64 (t37 + 1)), ()), (b1, ())))))))
 (some (.inr (.inl (((), ()), (b1, ()))))))
def Km := Gb fun x : ((Unit × (Fv × Yb)) × Ct) => Cr x.1.1 x.1.2.1 x.1.2.2.1 x.1.2.2.2.1 x.2.1
def Lp (t1 : Unit) (t5 : Int) (t50 : Xi) (t51 : Int) (t52 : Int) (b1 : Qb) : Option (((Unit × (Int × SL)) × Ct) ⊕ ((Dt × Ct) ⊕ Et)) :=
 (cond (decide (t52 < t51))
 (ob (Hc t50 t52) fun x13 =>
 (cond (decide (x13.1 ≥ b1.1.1))
 (some (.inr (.inr ((false, ()), ()))))
 (cond (x13.2.1.1 != 9)
 (cond (decide (x13.2.1.2.2.2.1 ≥ t5))
 (some (.inr (.inr ((false, ()), ()))))
 (some (.inl (((), t5, t50, t51, (wr .i64 (t52 + 1)), ()), (b1, ())))))
 (some (.inl (((), t5, t50, t51, (wr .i64 (t52 + 1)), ()), (b1, ())))))))
 (some (.inr (.inl (((), t5, ()), (b1, ()))))))
def Kl := Gb fun x : ((Unit × (Int × SL)) × Ct) => Lp x.1.1 x.1.2.1 x.1.2.2.1 x.1.2.2.2.1 x.1.2.2.2.2.1 x.2.1
def Ou (a0 : Qb) : Option Fe :=
 (ob (Rj a0.1) fun r1 =>
 (cond (!r1.1)
 (some (false, ()))
 (cond (decide (((ln a0.2.1 : Nat) : Int) > 4))
 (some (false, ()))
 (ob (Uk a0.2.2.2.1) fun r2 =>
 (cond (!r2.1)
 (some (false, ()))
 (cond (decide (a0.2.2.2.2.1 < 0))
 (some (false, ()))
 (cond (decide (a0.2.2.2.2.1 > 15))
 (some (false, ()))
 (ob (Km (((), a0.2.1, ((ln a0.2.1 : Nat) : Int), 0, ()), (a0, ()))) (se (fun y9 => (ob (Kl (((), ((ln y9.2.1.1.2.1 : Nat) : Int), y9.2.1.2.2.2.1, ((ln y9.2.1.2.2.2.1 : Nat) : Int), 0, ()), (y9.2.1, ()))) (se (fun y14 => (cond (decide (y14.2.1.2.2.1 ≥ 0))
 (cond ((2 : Int) == 0)
 none
 (cond ((yc y14.2.1.2.2.1 2) == 0)
 (cond (decide (0 ≤ y14.1.2.1))
 (some ((decide (y14.2.1.2.2.1 < (Ke .i64 1 y14.1.2.1))), ()))
 none)
 (some (false, ()))))
 (some (false, ())))) (fun z15 => (some (z15.1.1, ())))))) (fun z10 => (some (z10.1.1, ()))))))))))))
def Qx (a0 : Ha) (a1 : Fv) : Option (Qb × Fe) :=
 (ob (Wp a0) fun r1 =>
 (ob (Ml a1) fun r2 =>
 (ob (Ou (r1.1, r2.1, 0, [], 0, false, ())) fun r3 =>
 (cond (!r3.1)
 (some (Tae, false, ()))
 (some ((r1.1, r2.1, 0, [], 0, false, ()), true, ()))))))
def Gj (a0 : Qb) : Option Ct :=
 (ob (Wp a0.1) fun r1 =>
 (ob (Ml a0.2.1) fun r2 =>
 (cond (bl (ln ([] : List Ma) + ln a0.2.2.2.1) Oa)
 (some ((r1.1, r2.1, a0.2.2.1, (ap [] a0.2.2.2.1), a0.2.2.2.2), ()))
 none)))
def Pu (a0 : Lb) : Option Fe :=
 (cond (decide (a0.1 ≥ 1))
 (cond (decide (a0.1 ≤ 1000))
 (cond (decide (a0.2.1 ≥ 0))
 (cond (decide (a0.2.1 ≤ 1000))
 (cond (decide (a0.2.2.1 ≥ 0))
 (some ((decide (a0.2.2.1 ≤ 2)), ()))
 (some (false, ())))
 (some (false, ())))
 (some (false, ())))
 (some (false, ())))
 (some (false, ())))
def Ir (t3 : Int) (t6 : Xi) (t7 : Int) (t8 : Int) : Option (HI ⊕ Tab) :=
 (cond (decide (t8 < t7))
 (ob (Hc t6 t8) fun x3 =>
 (cond (decide (0 ≤ x3.1))
 (some (.inl (((Xe .i64 t3 (Ke .i64 1 x3.1)), t6, t7, (wr .i64 (t8 + 1)), ()), ())))
 none))
 (some (.inr (.inl ((t3, ()), ())))))
def Wt := Gb fun x : HI => Ir x.1.1 x.1.2.1 x.1.2.2.1 x.1.2.2.2.1
def Yo (a0 : Xi) : Option Zi :=
 (ob (Wt ((0, a0, ((ln a0 : Nat) : Int), 0, ()), ())) (se (fun y4 => (some (y4.1.1, ()))) (fun z5 => none)))
def Mw (a0 : Wa) : Option Fe :=
 (cond (decide (a0.1 ≥ 0))
 (cond (decide (a0.1 ≤ 1000000))
 (cond (decide (a0.2.1 ≥ 0))
 (some ((decide (a0.2.1 ≤ 31)), ()))
 (some (false, ())))
 (some (false, ())))
 (some (false, ())))
def Qv (t0 : Jq) (t1 : Int) (t11 : Jq) (t12 : Int) (t13 : Int) : Option (((Jq × RP) × Unit) ⊕ ((Zi × Unit) ⊕ Aat)) :=
 (cond (decide (t13 < t12))
 (ob (Hc t11 t13) fun x11 =>
 (ob (Mw x11) fun r12 =>
 (cond (!r12.1)
 (some (.inr (.inr ((0, false, ()), ()))))
 (cond (decide (t13 > 0))
 (ob (Hc t0 (wr .i64 (t13 - 1))) fun x13 =>
 (cond (decide (x13.1 > x11.1))
 (some (.inr (.inr ((0, false, ()), ()))))
 (ob (Pq t1 x11.2.1) fun r14 =>
 (cond (x11.2.2.1 == (r14.1 == 1))
 (some (.inr (.inr ((0, false, ()), ()))))
 (cond (decide (0 ≤ x11.2.1))
 (some (.inl ((t0, (Yn .i64 t1 (Ke .i64 1 x11.2.1)), t11, t12, (wr .i64 (t13 + 1)), ()), ())))
 none)))))
 (ob (Pq t1 x11.2.1) fun r15 =>
 (cond (x11.2.2.1 == (r15.1 == 1))
 (some (.inr (.inr ((0, false, ()), ()))))
 (cond (decide (0 ≤ x11.2.1))
 (some (.inl ((t0, (Yn .i64 t1 (Ke .i64 1 x11.2.1)), t11, t12, (wr .i64 (t13 + 1)), ()), ())))
 none)))))))
 (some (.inr (.inl ((t1, ()), ())))))
def Pw := Gb fun x : ((Jq × RP) × Unit) => Qv x.1.1 x.1.2.1 x.1.2.2.1 x.1.2.2.2.1 x.1.2.2.2.2.1
def WD (a0 : Jq) (a1 : Int) : Option Uab :=
 (cond (decide (((ln a0 : Nat) : Int) > 64))
 (some (0, false, ()))
 (ob (Pw ((a0, a1, a0, ((ln a0 : Nat) : Int), 0, ()), ())) (se (fun y16 => (some (y16.1.1, true, ()))) (fun z17 => (some z17.1)))))
def Zp (t0 : Jq) (t1 : Int) (t2 : Int) (t11 : Jq) (t12 : Int) (t13 : Int) : Option (((Jq × (Int × RP)) × Unit) ⊕ (((Jq × Zi) × Unit) ⊕ Et)) :=
 (cond (decide (t13 < t12))
 (ob (Hc t11 t13) fun x3 =>
 (cond (decide (x3.2.1 ≥ t2))
 (some (.inr (.inr ((false, ()), ()))))
 (some (.inl ((t0, t1, t2, t11, t12, (wr .i64 (t13 + 1)), ()), ())))))
 (some (.inr (.inl ((t0, t1, ()), ())))))
def Es := Gb fun x : ((Jq × (Int × RP)) × Unit) => Zp x.1.1 x.1.2.1 x.1.2.2.1 x.1.2.2.2.1 x.1.2.2.2.2.1 x.1.2.2.2.2.2.1
def Gn (a0 : Jq) (a1 : Int) (a2 : Int) : Option Fe :=
 (ob (Es ((a0, a1, a2, a0, ((ln a0 : Nat) : Int), 0, ()), ())) (se (fun y4 => (ob (WD y4.1.1 y4.1.2.1) fun r6 =>
 (some (r6.2.1, ())))) (fun z5 => (some (z5.1.1, ())))))
def En (a0 : Jq) (a1 : Int) : Option Fe :=
 (cond (((ln a0 : Nat) : Int) == 0)
 (some (true, ()))
 (ob (Hc a0 (wr .i64 (((ln a0 : Nat) : Int) - 1))) fun x1 =>
 (some ((decide (x1.1 ≤ a1)), ()))))
def Bn (a0 : Ib) : Option Fe :=
 (ob (Ou a0.1) fun r1 =>
 (cond (!r1.1)
 (some (false, ()))
 (ob (Pu a0.2.1) fun r2 =>
 (cond (!r2.1)
 (some (false, ()))
 (cond (decide (a0.2.2.2.1 < 0))
 (some (false, ()))
 (cond (decide (a0.2.2.2.1 > 1000000))
 (some (false, ()))
 (cond (decide (a0.2.2.2.2.1 < 0))
 (some (false, ()))
 (cond (decide (a0.2.2.2.2.1 > a0.2.2.2.1))
 (some (false, ()))
 (ob (Yo a0.1.2.2.2.1) fun r3 =>
 (ob (Gn a0.2.2.1 r3.1 a0.1.1.1) fun r4 =>
 (cond (!r4.1)
 (some (false, ()))
 (ob (En a0.2.2.1 a0.2.2.2.1) fun r5 =>
 (cond (!r5.1)
 (some (false, ()))
 (cond (decide (a0.2.2.2.2.2.1 ≥ 0))
 (cond (decide (a0.2.2.2.2.2.1 ≤ a0.1.1.1))
 (cond (decide (a0.2.2.2.2.2.2.1 ≥ 0))
 (some ((decide (a0.2.2.2.2.2.2.1 ≤ a0.2.2.2.1)), ()))
 (some (false, ())))
 (some (false, ())))
 (some (false, ()))))))))))))))))
def Ov (a0 : Qb) (a1 : Lb) : Option (Ib × Fe) :=
 (ob (Gj a0) fun r1 =>
 (ob (Bn (r1.1, a1, [], 0, 0, 0, 0, ())) fun r2 =>
 (cond (!r2.1)
 (some (Oh, false, ()))
 (some ((r1.1, a1, [], 0, 0, 0, 0, ()), true, ())))))
def Jk (a0 : Ib) : Option Van :=
 (ob (Gj a0.1) fun r1 =>
 (cond (bl (ln ([] : List Wa) + ln a0.2.2.1) Oa)
 (some ((r1.1, a0.2.1, (ap [] a0.2.2.1), a0.2.2.2), ()))
 none))
def Kv (t1 : Int) (t8 : Xi) (t9 : Int) (t10 : Int) : Option (HI ⊕ QL) :=
 (cond (decide (t10 < t9))
 (ob (Hc t8 t10) fun x3 =>
 (cond (x3.1 == t1)
 (some (.inr (.inr ((t10, ()), ()))))
 (some (.inl ((t1, t8, t9, (wr .i64 (t10 + 1)), ()), ())))))
 (some (.inr (.inl ((), ())))))
def Lw := Gb fun x : HI => Kv x.1.1 x.1.2.1 x.1.2.2.1 x.1.2.2.2.1
def SD (a0 : Qb) (a1 : Int) : Option Zi :=
 (ob (Lw ((a1, a0.2.2.2.1, ((ln a0.2.2.2.1 : Nat) : Int), 0, ()), ())) (se (fun y4 => (some ((-1), ()))) (fun z5 => (some (z5.1.1, ())))))
def sort_Ints (x0 : We) : Option GI := srt x0
def Rv (t1 : Int) (t7 : We) (t8 : Int) (t9 : Int) : Option ((Xab × Unit) ⊕ RL) :=
 (cond (decide (t9 < t8))
 (ob (Hc t7 t9) fun x3 =>
 (cond (x3 == t1)
 (some (.inr (.inr ((true, ()), ()))))
 (some (.inl ((t1, t7, t8, (wr .i64 (t9 + 1)), ()), ())))))
 (some (.inr (.inl ((), ())))))
def Qw := Gb fun x : (Xab × Unit) => Rv x.1.1 x.1.2.1 x.1.2.2.1 x.1.2.2.2.1
def Zy (a0 : We) (a1 : Int) : Option Fe :=
 (ob (Qw ((a1, a0, ((ln a0 : Nat) : Int), 0, ()), ())) (se (fun y4 => (some (false, ()))) (fun z5 => (some (z5.1.1, ())))))
def Ut (t4 : We) (t11 : We) (t12 : Int) (t13 : Int) : Option ((VP × Unit) ⊕ Q1) :=
 (cond (decide (t13 < t12))
 (cond (Qd (ln t11) t13)
 (ob t11[(tn t13)]? fun x9 =>
 (cond (x9 != 0)
 (ob (Zy t4 x9) fun r10 =>
 (cond (!r10.1)
 (cond (bl (ln t4 + ln ([x9] : List Int)) Oa)
 (some (.inl (((ap t4 ([x9] : List Int)), t11, t12, (wr .i64 (t13 + 1)), ()), ())))
 none)
 (some (.inl ((t4, t11, t12, (wr .i64 (t13 + 1)), ()), ())))))
 (some (.inl ((t4, t11, t12, (wr .i64 (t13 + 1)), ()), ())))))
 none)
 (some (.inr (.inl ((t4, ()), ())))))
def Dv := Gb fun x : (VP × Unit) => Ut x.1.1 x.1.2.1 x.1.2.2.1 x.1.2.2.2.1
def Bs (a0 : We) : Option GI :=
 (ob (Hi a0) fun r1 =>
 (ob (sort_Ints r1.1) fun r2 =>
 (ob (Dv (([], r2.1, ((ln r2.1 : Nat) : Int), 0, ()), ())) (se (fun y11 => (some (y11.1.1, ()))) (fun z12 => none)))))
def Gr (t2 : Unit) (t3 : Unit) (t4 : We) (t11 : Xi) (t12 : Int) (t13 : Int) (b2 : Ca) (b3 : Ca) : Option (((Unit × (Unit × (We × SL))) × VR) ⊕ Xan) :=
 (cond (decide (t13 < t12))
 (ob (Hc t11 t13) fun x5 =>
 (cond (x5.2.1.1 == 2)
 (cond (bl (ln t4 + ln ([x5.2.1.2.1] : List Int)) Oa)
 (some (.inl (((), (), (ap t4 ([x5.2.1.2.1] : List Int)), t11, t12, (wr .i64 (t13 + 1)), ()), (b2, ((Xe .i64 b3.1 x5.2.1.2.2.1), b3.2.1, ()), ()))))
 none)
 (cond (x5.2.1.1 == 8)
 (cond (bl (ln t4 + ln ([x5.2.1.2.1] : List Int)) Oa)
 (some (.inl (((), (), (ap t4 ([x5.2.1.2.1] : List Int)), t11, t12, (wr .i64 (t13 + 1)), ()), (b2, ((Xe .i64 b3.1 x5.2.1.2.2.1), b3.2.1, ()), ()))))
 none)
 (cond (bl (ln t4 + ln ([x5.2.1.2.1] : List Int)) Oa)
 (some (.inl (((), (), (ap t4 ([x5.2.1.2.1] : List Int)), t11, t12, (wr .i64 (t13 + 1)), ()), (b2, b3, ()))))
 none))))
 (some (.inr (.inl (((), (), t4, ()), (b2, b3, ()))))))
def Tt := Gb fun x : ((Unit × (Unit × (We × SL))) × VR) => Gr x.1.1 x.1.2.1 x.1.2.2.1 x.1.2.2.2.1 x.1.2.2.2.2.1 x.1.2.2.2.2.2.1 x.2.1 x.2.2.1
def Cd (a0 : Xi) : Option Fo :=
 (ob (Uk a0) fun r1 =>
 (cond (!r1.1)
 (some ((0, [], ()), ()))
 (ob (Tt (((), (), [], a0, ((ln a0 : Nat) : Int), 0, ()), ((0, [], ()), (0, [], ()), ()))) (se (fun y6 => (ob (Bs y6.1.2.2.1) fun r8 =>
 (some ((y6.2.2.1.1, r8.1, ()), ())))) (fun z7 => none)))))
def Jr (t0 : We) (t1 : We) (t12 : Int) (t13 : Int) : Option ((VP × Unit) ⊕ RL) :=
 (cond (decide (t13 < t12))
 (ob (Hc t0 t13) fun x5 =>
 (ob (Hc t1 t13) fun x6 =>
 (cond (x5 != x6)
 (some (.inr (.inr ((false, ()), ()))))
 (some (.inl ((t0, t1, t12, (wr .i64 (t13 + 1)), ()), ()))))))
 (some (.inr (.inl ((), ())))))
def Yt := Gb fun x : (VP × Unit) => Jr x.1.1 x.1.2.1 x.1.2.2.1 x.1.2.2.2.1
def Nz (a0 : We) (a1 : We) : Option Fe :=
 (cond (((ln a0 : Nat) : Int) != ((ln a1 : Nat) : Int))
 (some (false, ()))
 (ob (Yt ((a0, a1, ((ln a0 : Nat) : Int), 0, ()), ())) (se (fun y7 => (some (true, ()))) (fun z8 => (some (z8.1.1, ()))))))
def Rp (a0 : Ca) (a1 : Ca) : Option Fe :=
 (cond (a0.1 == a1.1)
 (ob (Nz a0.2.1 a1.2.1) fun r1 =>
 (some (r1.1, ())))
 (some (false, ())))
def Tz (a b : Ca) : Bool := (a.1 == b.1) && (a.2.1 == b.2.1)
def Uan (c : T Ce → T Ce → Option Bool) (a b : T Ce) : Option Fe := ob (c a b) fun x => some (x, ())
def OC (c : T Ce → T Ce → Option Bool) (t2 : Unit) (t5 : (List (Int × ((T .o) × Unit)))) (t8 : (List (Int × ((T .o) × Unit)))) (t9 : Int) (t10 : Int) (b2 : (Int × ((T .o) × Unit))) : Option (((Unit × ((List (Int × ((T .o) × Unit))) × ((List (Int × ((T .o) × Unit))) × Yb))) × ((Int × ((T .o) × Unit)) × Unit)) ⊕ ((((List (Int × ((T .o) × Unit))) × Unit) × Unit) ⊕ Jg)) :=
 (cond (decide (t10 < t9))
 (ob (Hc t8 t10) fun x7 =>
 (ob (Uan c b2 x7) fun r8 =>
 (cond (!r8.1)
 (cond (bl (ln t5 + ln ([x7] : List (Int × ((T .o) × Unit)))) Oa)
 (some (.inl (((), (ap t5 ([x7] : List (Int × ((T .o) × Unit)))), t8, t9, (wr .i64 (t10 + 1)), ()), (x7, ()))))
 none)
 (some (.inl (((), t5, t8, t9, (wr .i64 (t10 + 1)), ()), (x7, ())))))))
 (some (.inr (.inl ((t5, ()), ())))))
def Su (c : T Ce → T Ce → Option Bool) (x : ((Unit × ((List (Int × ((T .o) × Unit))) × ((List (Int × ((T .o) × Unit))) × Yb))) × ((Int × ((T .o) × Unit)) × Unit))) : Option ((((List (Int × ((T .o) × Unit))) × Unit) × Unit) ⊕ Jg) := Gb (fun x : ((Unit × ((List (Int × ((T .o) × Unit))) × ((List (Int × ((T .o) × Unit))) × Yb))) × ((Int × ((T .o) × Unit)) × Unit)) => OC c x.1.1 x.1.2.1 x.1.2.2.1 x.1.2.2.2.1 x.1.2.2.2.2.1 x.2.1) x
def Iac (c : T Ce → T Ce → Option Bool) (a0 : (Int × ((T .o) × Unit))) (a1 : (List (Int × ((T .o) × Unit)))) : Option ((List (Int × ((T .o) × Unit))) × Unit) :=
 (ob (Su c (((), ([] : List (Int × ((T .o) × Unit))), a1, ((ln a1 : Nat) : Int), 0, ()), (a0, ()))) (se (fun y9 => (some (y9.1.1, ()))) (fun z10 => none)))
def Je (a0 : Ca) (a1 : List Ca) : Option UP := Hac Tz a0 a1
def Sw (a0 : Qb) (a1 : Int) : Option (Qb × UP) :=
 (ob (Gj a0) fun r1 =>
 (ob (SD a0 a1) fun r2 =>
 (cond (Jd (ln r1.1.2.2.2.1) 0 r2.1)
 (cond (Jd (ln r1.1.2.2.2.1) (wr .i64 (r2.1 + 1)) ((ln r1.1.2.2.2.1 : Nat) : Int))
 (cond (bl (ln (Xa r1.1.2.2.2.1 (tn 0) (tn r2.1)) + ln (Xa r1.1.2.2.2.1 (tn (wr .i64 (r2.1 + 1))) (tn ((ln r1.1.2.2.2.1 : Nat) : Int)))) Oa)
 (ob (Cd a0.2.2.2.1) fun r3 =>
 (ob (Cd (ap (Xa r1.1.2.2.2.1 (tn 0) (tn r2.1)) (Xa r1.1.2.2.2.1 (tn (wr .i64 (r2.1 + 1))) (tn ((ln r1.1.2.2.2.1 : Nat) : Int))))) fun r4 =>
 (ob (Je r3.1 ([r4.1] : List Ca)) fun r5 =>
 (some ((r1.1.1, r1.1.2.1, r1.1.2.2.1, (ap (Xa r1.1.2.2.2.1 (tn 0) (tn r2.1)) (Xa r1.1.2.2.2.1 (tn (wr .i64 (r2.1 + 1))) (tn ((ln r1.1.2.2.2.1 : Nat) : Int)))), r1.1.2.2.2.2), r5.1, ())))))
 none)
 none)
 none)))
def Er (t5 : Int) (t21 : Xi) (t22 : Int) (t23 : Int) : Option (HI ⊕ Tab) :=
 (cond (decide (t23 < t22))
 (ob (Hc t21 t23) fun x16 =>
 (cond (x16.2.1.1 == 3)
 (cond (decide (0 ≤ x16.2.1.2.2.2.1))
 (some (.inl (((Xe .i64 t5 (Ke .i64 1 x16.2.1.2.2.2.1)), t21, t22, (wr .i64 (t23 + 1)), ()), ())))
 none)
 (some (.inl ((t5, t21, t22, (wr .i64 (t23 + 1)), ()), ())))))
 (some (.inr (.inl ((t5, ()), ())))))
def Ej := Gb fun x : HI => Er x.1.1 x.1.2.1 x.1.2.2.1 x.1.2.2.2.1
def Wo (a0 : Int) (a1 : Xi) : Option Zi :=
 (cond (decide (a0 ≥ 0))
 (cond (decide (a0 ≤ 15))
 (ob (Uk a1) fun r1 =>
 (cond (!r1.1)
 (some ((Xe .i64 1 a0), ()))
 (ob (Ej (((Xe .i64 1 a0), a1, ((ln a1 : Nat) : Int), 0, ()), ())) (se (fun y5 => (some (y5.1.1, ()))) (fun z6 => none)))))
 (ob (Uk a1) fun r7 =>
 (cond (!r7.1)
 (some (1, ()))
 (ob (Ej ((1, a1, ((ln a1 : Nat) : Int), 0, ()), ())) (se (fun y11 => (some (y11.1.1, ()))) (fun z12 => none))))))
 (ob (Uk a1) fun r13 =>
 (cond (!r13.1)
 (some (1, ()))
 (ob (Ej ((1, a1, ((ln a1 : Nat) : Int), 0, ()), ())) (se (fun y17 => (some (y17.1.1, ()))) (fun z18 => none))))))
def NH (t1 : Int) (t2 : Int) (t3 : Unit) (t7 : Int) (b3 : Ha) : Option (T1 ⊕ QL) :=
 (cond (decide (t7 > 0))
 (ob (Pq t1 t7) fun r7 =>
 (cond (r7.1 == 1)
 (ob (Hc b3.2.1 t7) fun x8 =>
 (ob (Hc x8 t2) fun x9 =>
 (cond (x9.1 != 1)
 (some (.inr (.inr ((t7, ()), ()))))
 (some (.inl ((t1, t2, (), (wr .i64 (t7 - 1)), ()), (b3, ())))))))
 (some (.inl ((t1, t2, (), (wr .i64 (t7 - 1)), ()), (b3, ()))))))
 (some (.inr (.inl ((), ())))))
def Di := Gb fun x : T1 => NH x.1.1 x.1.2.1 x.1.2.2.1 x.1.2.2.2.1 x.2.1
def Ds (a0 : Ha) (a1 : Int) (a2 : Int) : Option Zi :=
 (ob (Di ((a1, a2, (), (wr .i64 (((ln a0.2.1 : Nat) : Int) - 1)), ()), (a0, ()))) (se (fun y10 => (some (0, ()))) (fun z11 => (some (z11.1.1, ())))))
def LH (a0 : Ha) (a1 : Int) (a2 : Int) : Option Zi :=
 (ob (Rj a0) fun r1 =>
 (cond (!r1.1)
 (some ((-1), ()))
 (cond (decide (a2 < 0))
 (some ((-1), ()))
 (cond (decide (a2 ≥ a0.1))
 (some ((-1), ()))
 (ob (Ds a0 a1 a2) fun r2 =>
 (some (r2.1, ())))))))
def Kz (a0 : Ha) (a1 : Int) (a2 : Int) : Option Iz :=
 (ob (LH a0 a1 a2) fun r1 =>
 (cond (decide (r1.1 < 0))
 (some ((0, 0, 0, 0, ()), ()))
 (ob (Hc a0.2.1 r1.1) fun x2 =>
 (ob (Hc x2 a2) fun x3 =>
 (some (x3, ()))))))
def Br (t1 : Int) (t2 : Int) (t4 : Int) (t5 : Unit) (t12 : Int) (t26 : Jq) (t27 : Int) (t28 : Int) (b5 : Lb) : Option (((Int × (Int × (Int × (Unit × RP)))) × HU) ⊕ (((Int × (Int × Jg)) × HU) ⊕ Vab)) :=
 (cond (decide (t28 < t27))
 (ob (Hc t26 t28) fun x10 =>
 (ob (Mw x10) fun r11 =>
 (cond (!r11.1)
 (some (.inr (.inr ((0, 0, ()), ()))))
 (cond (decide (x10.1 ≥ (wr .i64 (t2 + b5.1))))
 (some (.inr (.inr ((2, (wr .i64 (t2 + b5.1)), ()), ()))))
 (cond (x10.2.1 == t1)
 (cond (!x10.2.2.1)
 (some (.inr (.inr ((1, x10.1, ()), ()))))
 (cond (x10.2.1 == t1)
 (some (.inl ((t1, t2, t4, (), t12, t26, t27, (wr .i64 (t28 + 1)), ()), (b5, ()))))
 (cond x10.2.2.1
 (cond (b5.2.2.1 == 1)
 (some (.inr (.inr ((2, x10.1, ()), ()))))
 (cond (decide (0 ≤ x10.2.1))
 (some (.inl ((t1, t2, t4, (), (Xe .i64 t12 (Ke .i64 1 x10.2.1)), t26, t27, (wr .i64 (t28 + 1)), ()), (b5, ()))))
 none))
 (cond (b5.2.2.1 == 2)
 (ob (Pq t12 x10.2.1) fun r12 =>
 (cond (r12.1 == 1)
 (some (.inr (.inr ((2, x10.1, ()), ()))))
 (some (.inl ((t1, t2, t4, (), t12, t26, t27, (wr .i64 (t28 + 1)), ()), (b5, ()))))))
 (some (.inl ((t1, t2, t4, (), t12, t26, t27, (wr .i64 (t28 + 1)), ()), (b5, ()))))))))
 (cond (x10.2.1 == t1)
 (some (.inl ((t1, t2, t4, (), t12, t26, t27, (wr .i64 (t28 + 1)), ()), (b5, ()))))
 (cond x10.2.2.1
 (cond (b5.2.2.1 == 1)
 (some (.inr (.inr ((2, x10.1, ()), ()))))
 (cond (decide (0 ≤ x10.2.1))
 (some (.inl ((t1, t2, t4, (), (Xe .i64 t12 (Ke .i64 1 x10.2.1)), t26, t27, (wr .i64 (t28 + 1)), ()), (b5, ()))))
 none))
 (cond (b5.2.2.1 == 2)
 (ob (Pq t12 x10.2.1) fun r13 =>
 (cond (r13.1 == 1)
 (some (.inr (.inr ((2, x10.1, ()), ()))))
 (some (.inl ((t1, t2, t4, (), t12, t26, t27, (wr .i64 (t28 + 1)), ()), (b5, ()))))))
 (some (.inl ((t1, t2, t4, (), t12, t26, t27, (wr .i64 (t28 + 1)), ()), (b5, ()))))))))))))
 (some (.inr (.inl ((t2, t4, (), ()), (b5, ()))))))
def Lt := Gb fun x : ((Int × (Int × (Int × (Unit × RP)))) × HU) => Br x.1.1 x.1.2.1 x.1.2.2.1 x.1.2.2.2.1 x.1.2.2.2.2.1 x.1.2.2.2.2.2.1 x.1.2.2.2.2.2.2.1 x.1.2.2.2.2.2.2.2.1 x.2.1
def Nu (a0 : Lb) (a1 : Int) (a2 : Int) (a3 : Jq) (a4 : Int) : Option Yb :=
 (ob (Pu a0) fun r1 =>
 (cond (!r1.1)
 (some (0, 0, ()))
 (cond (decide (a2 < 0))
 (some (0, 0, ()))
 (cond (decide (a2 > 1000000))
 (some (0, 0, ()))
 (ob (Lt ((a1, a2, a4, (), 0, a3, ((ln a3 : Nat) : Int), 0, ()), (a0, ()))) (se (fun y14 => (cond (decide (y14.1.2.1 ≥ (wr .i64 (y14.1.1 + y14.2.1.1))))
 (some (2, (wr .i64 (y14.1.1 + y14.2.1.1)), ()))
 (some (0, 0, ())))) (fun z15 => (some z15.1))))))))
def UD (a0 : Ga) : Option Iz :=
 (ob (Cn a0) fun r1 =>
 (cond (!r1.1)
 (some (a0, ()))
 (cond (a0.1 == 6)
 (some ((2, 0, a0.2.2.1, 0, ()), ()))
 (some ((3, 0, 0, a0.2.2.2.1, ()), ())))))
def Nv (a0 : Int) : Option Fe :=
 (cond (decide (a0 ≥ 1))
 (cond (decide (a0 ≤ 36))
 (some (true, ()))
 (cond (a0 == 39)
 (some (true, ()))
 (some ((a0 == 42), ()))))
 (cond (a0 == 39)
 (some (true, ()))
 (some ((a0 == 42), ()))))
def Tq (a0 : Qb) (a1 : Ga) : Option (Qb × Iz) :=
 (cond (a1.1 == 2)
 (cond (a1.2.1 == 0)
 (some (a0, (a1, ())))
 (cond a0.2.2.2.2.2.1
 (ob (Nv a1.2.1) fun r1 =>
 (cond r1.1
 (cond (decide (a1.2.1 ≤ 26))
 (cond ((Sk .i64 (Xe .i64 a1.2.2.1 a0.2.2.2.2.1) 2) == 0)
 (some ((a0.1, a0.2.1, a0.2.2.1, a0.2.2.2.1, 0, r1.1, a0.2.2.2.2.2.2), ((a1.1, a1.2.1, 2, a1.2.2.2), ())))
 (some ((a0.1, a0.2.1, a0.2.2.1, a0.2.2.2.1, 0, r1.1, a0.2.2.2.2.2.2), ((a1.1, a1.2.1, (Xe .i64 a1.2.2.1 a0.2.2.2.2.1), a1.2.2.2), ()))))
 (some ((a0.1, a0.2.1, a0.2.2.1, a0.2.2.2.1, 0, r1.1, a0.2.2.2.2.2.2), ((a1.1, a1.2.1, (Xe .i64 a1.2.2.1 a0.2.2.2.2.1), a1.2.2.2), ()))))
 (some ((a0.1, a0.2.1, a0.2.2.1, a0.2.2.2.1, 0, r1.1, a0.2.2.2.2.2.2), ((a1.1, a1.2.1, (Xe .i64 a1.2.2.1 a0.2.2.2.2.1), a1.2.2.2), ())))))
 (some ((a0.1, a0.2.1, a0.2.2.1, a0.2.2.2.1, 0, false, a0.2.2.2.2.2.2), ((a1.1, a1.2.1, (Xe .i64 a1.2.2.1 a0.2.2.2.2.1), a1.2.2.2), ())))))
 (cond (a1.1 == 4)
 (cond (decide (0 ≤ a1.2.2.2.1))
 (some ((a0.1, a0.2.1, (Yn .i64 a0.2.2.1 (Ke .i64 1 a1.2.2.2.1)), a0.2.2.2), (a1, ())))
 none)
 (cond (a1.1 == 5)
 (cond (decide (0 ≤ a1.2.2.2.1))
 (some ((a0.1, a0.2.1, (Sk .i64 (Ke .i64 1 a1.2.2.2.1) 1), a0.2.2.2), (a1, ())))
 none)
 (cond (a1.1 == 8)
 (cond ((Cl .i64 a0.2.2.2.2.1 a1.2.2.1) == a1.2.2.1)
 (some ((a0.1, a0.2.1, a0.2.2.1, a0.2.2.2.1, (Sk .i64 a0.2.2.2.2.1 a1.2.2.1), a0.2.2.2.2.2), (a1, ())))
 (some ((a0.1, a0.2.1, a0.2.2.1, a0.2.2.2.1, (Xe .i64 a0.2.2.2.2.1 a1.2.2.1), a0.2.2.2.2.2), (a1, ()))))
 (cond (a1.1 == 10)
 (some ((a0.1, a0.2.1, a0.2.2.1, a0.2.2.2.1, a0.2.2.2.2.1, (!a0.2.2.2.2.2.1), a0.2.2.2.2.2.2), (a1, ())))
 (some (a0, (a1, ()))))))))
def Aq (t4 : Unit) (t5 : Unit) (t6 : We) (t15 : FG) (t16 : Int) (t17 : Int) (b4 : Ca) (b5 : Ca) : Option (((Unit × (Unit × (We × I1))) × VR) ⊕ Xan) :=
 (cond (decide (t17 < t16))
 (ob (Hc t15 t17) fun x4 =>
 (cond (bl (ln t6 + ln ([x4.1] : List Int)) Oa)
 (some (.inl (((), (), (ap t6 ([x4.1] : List Int)), t15, t16, (wr .i64 (t17 + 1)), ()), (b4, ((Xe .i64 b5.1 x4.2.1), b5.2.1, ()), ()))))
 none))
 (some (.inr (.inl (((), (), t6, ()), (b4, b5, ()))))))
def Hs := Gb fun x : ((Unit × (Unit × (We × I1))) × VR) => Aq x.1.1 x.1.2.1 x.1.2.2.1 x.1.2.2.2.1 x.1.2.2.2.2.1 x.1.2.2.2.2.2.1 x.2.1 x.2.2.1
def Ff (a0 : Ca) (a1 : FG) : Option Fo :=
 (ob (Hi a0.2.1) fun r1 =>
 (ob (Hs (((), (), r1.1, a1, ((ln a1 : Nat) : Int), 0, ()), ((0, [], ()), (a0.1, [], ()), ()))) (se (fun y5 => (ob (Bs y5.1.2.2.1) fun r7 =>
 (some ((y5.2.2.1.1, r7.1, ()), ())))) (fun z6 => none))))
def Ll (t5 : Unit) (t6 : Gt) (t7 : FG) (t22 : Fi) (t23 : Int) (t24 : Int) (b5 : Ca) : Option (((Unit × (Gt × DU)) × Fo) ⊕ Wan) :=
 (cond (decide (t24 < t23))
 (ob (Hc t22 t24) fun x25 =>
 (cond (x25.1 == 0)
 (cond (bl (ln ([] : List Yb) + ln t7) Oa)
 (cond (bl (ln (ap [] t7) + ln ([x25.2] : List Yb)) Oa)
 (ob (Ff b5 (ap (ap [] t7) ([x25.2] : List Yb))) fun r26 =>
 (cond (bl (ln t6 + ln ([r26.1] : List Ca)) Oa)
 (ob (Ff b5 t7) fun r27 =>
 (cond (bl (ln (ap t6 ([r26.1] : List Ca)) + ln ([r27.1] : List Ca)) Oa)
 (some (.inl (((), (ap (ap t6 ([r26.1] : List Ca)) ([r27.1] : List Ca)), t7, t22, t23, (wr .i64 (t24 + 1)), ()), (b5, ()))))
 none))
 none))
 none)
 none)
 (cond (x25.1 == 1)
 (cond (bl (ln t7 + ln ([x25.2] : List Yb)) Oa)
 (ob (Ff b5 (ap t7 ([x25.2] : List Yb))) fun r28 =>
 (cond (bl (ln t6 + ln ([r28.1] : List Ca)) Oa)
 (some (.inl (((), (ap t6 ([r28.1] : List Ca)), (ap t7 ([x25.2] : List Yb)), t22, t23, (wr .i64 (t24 + 1)), ()), (b5, ()))))
 none))
 none)
 (cond (x25.1 == 2)
 (ob (Az t7 x25.2) fun r29 =>
 (cond (Jd (ln t7) 0 r29.1)
 (cond (Jd (ln t7) (wr .i64 (r29.1 + 1)) ((ln t7 : Nat) : Int))
 (cond (bl (ln (Xa t7 (tn 0) (tn r29.1)) + ln (Xa t7 (tn (wr .i64 (r29.1 + 1))) (tn ((ln t7 : Nat) : Int)))) Oa)
 (ob (Ff b5 (ap (Xa t7 (tn 0) (tn r29.1)) (Xa t7 (tn (wr .i64 (r29.1 + 1))) (tn ((ln t7 : Nat) : Int))))) fun r30 =>
 (cond (bl (ln t6 + ln ([r30.1] : List Ca)) Oa)
 (some (.inl (((), (ap t6 ([r30.1] : List Ca)), (ap (Xa t7 (tn 0) (tn r29.1)) (Xa t7 (tn (wr .i64 (r29.1 + 1))) (tn ((ln t7 : Nat) : Int)))), t22, t23, (wr .i64 (t24 + 1)), ()), (b5, ()))))
 none))
 none)
 none)
 none))
 (ob (Ff b5 t7) fun r31 =>
 (cond (bl (ln t6 + ln ([r31.1] : List Ca)) Oa)
 (some (.inl (((), (ap t6 ([r31.1] : List Ca)), t7, t22, t23, (wr .i64 (t24 + 1)), ()), (b5, ()))))
 none))))))
 (some (.inr (.inl ((t6, ()), ())))))
def Tn := Gb fun x : ((Unit × (Gt × DU)) × Fo) => Ll x.1.1 x.1.2.1 x.1.2.2.1 x.1.2.2.2.1 x.1.2.2.2.2.1 x.1.2.2.2.2.2.1 x.2.1
def Oj (a0 : Xi) (a1 : Fi) : Option UP :=
 (ob (Uk a0) fun r1 =>
 (cond (!r1.1)
 (some ([], ()))
 (ob (Rn a1) fun r2 =>
 (cond (!r2.1)
 (some ([], ()))
 (ob (Cd a0) fun r3 =>
 (ob (Tn (((), [], [], a1, ((ln a1 : Nat) : Int), 0, ()), (r3.1, ()))) (se (fun y32 => (some (y32.1.1, ()))) (fun z33 => none))))))))
def Th (a0 : Qb) (a1 : Int) (a2 : Bool) : Option (Qb × UP) :=
 (ob (Gj a0) fun r1 =>
 (ob (Wo a0.2.2.1 a0.2.2.2.1) fun r2 =>
 (ob (Ds a0.1 r2.1 a1) fun r3 =>
 (ob (Hc a0.1.2.1 r3.1) fun x4 =>
 (ob (Hc x4 a1) fun x5 =>
 (cond a2
 (ob (UD x5) fun r6 =>
 (ob (Tq r1.1 r6.1) fun r7 =>
 (cond (bl (ln r7.1.2.2.2.1 + ln ([(a1, r7.2.1, ())] : List Ma)) Oa)
 (cond (r7.2.1.1 == 9)
 (cond (decide (r7.2.1.2.2.2.1 < ((ln a0.2.1 : Nat) : Int)))
 (ob (Hc a0.2.1 r7.2.1.2.2.2.1) fun x8 =>
 (ob (Oj (ap r7.1.2.2.2.1 ([(a1, r7.2.1, ())] : List Ma)) x8) fun r9 =>
 (ob (Cd (ap r7.1.2.2.2.1 ([(a1, r7.2.1, ())] : List Ma))) fun r10 =>
 (cond (bl (ln r9.1 + ln ([r10.1] : List Ca)) Oa)
 (ob (Cd a0.2.2.2.1) fun r11 =>
 (ob (Je r11.1 (ap r9.1 ([r10.1] : List Ca))) fun r12 =>
 (some ((r7.1.1, r7.1.2.1, r7.1.2.2.1, (ap r7.1.2.2.2.1 ([(a1, r7.2.1, ())] : List Ma)), r7.1.2.2.2.2), r12.1, ()))))
 none))))
 (ob (Cd (ap r7.1.2.2.2.1 ([(a1, r7.2.1, ())] : List Ma))) fun r13 =>
 (cond (bl (ln ([] : List Ca) + ln ([r13.1] : List Ca)) Oa)
 (ob (Cd a0.2.2.2.1) fun r14 =>
 (ob (Je r14.1 (ap [] ([r13.1] : List Ca))) fun r15 =>
 (some ((r7.1.1, r7.1.2.1, r7.1.2.2.1, (ap r7.1.2.2.2.1 ([(a1, r7.2.1, ())] : List Ma)), r7.1.2.2.2.2), r15.1, ()))))
 none)))
 (ob (Cd (ap r7.1.2.2.2.1 ([(a1, r7.2.1, ())] : List Ma))) fun r16 =>
 (cond (bl (ln ([] : List Ca) + ln ([r16.1] : List Ca)) Oa)
 (ob (Cd a0.2.2.2.1) fun r17 =>
 (ob (Je r17.1 (ap [] ([r16.1] : List Ca))) fun r18 =>
 (some ((r7.1.1, r7.1.2.1, r7.1.2.2.1, (ap r7.1.2.2.2.1 ([(a1, r7.2.1, ())] : List Ma)), r7.1.2.2.2.2), r18.1, ()))))
 none)))
 none)))
 (ob (KG x5) fun r19 =>
 (ob (Tq r1.1 r19.1) fun r20 =>
 (cond (bl (ln r20.1.2.2.2.1 + ln ([(a1, r20.2.1, ())] : List Ma)) Oa)
 (cond (r20.2.1.1 == 9)
 (cond (decide (r20.2.1.2.2.2.1 < ((ln a0.2.1 : Nat) : Int)))
 (ob (Hc a0.2.1 r20.2.1.2.2.2.1) fun x21 =>
 (ob (Oj (ap r20.1.2.2.2.1 ([(a1, r20.2.1, ())] : List Ma)) x21) fun r22 =>
 (ob (Cd (ap r20.1.2.2.2.1 ([(a1, r20.2.1, ())] : List Ma))) fun r23 =>
 (cond (bl (ln r22.1 + ln ([r23.1] : List Ca)) Oa)
 (ob (Cd a0.2.2.2.1) fun r24 =>
 (ob (Je r24.1 (ap r22.1 ([r23.1] : List Ca))) fun r25 =>
 (some ((r20.1.1, r20.1.2.1, r20.1.2.2.1, (ap r20.1.2.2.2.1 ([(a1, r20.2.1, ())] : List Ma)), r20.1.2.2.2.2), r25.1, ()))))
 none))))
 (ob (Cd (ap r20.1.2.2.2.1 ([(a1, r20.2.1, ())] : List Ma))) fun r26 =>
 (cond (bl (ln ([] : List Ca) + ln ([r26.1] : List Ca)) Oa)
 (ob (Cd a0.2.2.2.1) fun r27 =>
 (ob (Je r27.1 (ap [] ([r26.1] : List Ca))) fun r28 =>
 (some ((r20.1.1, r20.1.2.1, r20.1.2.2.1, (ap r20.1.2.2.2.1 ([(a1, r20.2.1, ())] : List Ma)), r20.1.2.2.2.2), r28.1, ()))))
 none)))
 (ob (Cd (ap r20.1.2.2.2.1 ([(a1, r20.2.1, ())] : List Ma))) fun r29 =>
 (cond (bl (ln ([] : List Ca) + ln ([r29.1] : List Ca)) Oa)
 (ob (Cd a0.2.2.2.1) fun r30 =>
 (ob (Je r30.1 (ap [] ([r29.1] : List Ca))) fun r31 =>
 (some ((r20.1.1, r20.1.2.1, r20.1.2.2.1, (ap r20.1.2.2.2.1 ([(a1, r20.2.1, ())] : List Ma)), r20.1.2.2.2.2), r31.1, ()))))
 none)))
 none)))))))))
def Rh (a0 : Ib) : Option (Ib × (Gt × Fe)) :=
 (cond (Qd (ln a0.2.2.1) 0)
 (ob a0.2.2.1[(tn 0)]? fun x1 =>
 (cond (Jd (ln a0.2.2.1) 1 ((ln a0.2.2.1 : Nat) : Int))
 (cond (!x1.2.2.1)
 (cond (a0.2.2.2.2.2.1 == (wr .i64 (x1.2.1 + 1)))
 (ob (Sw a0.1 x1.2.1) fun r2 =>
 (cond (bl (ln ([] : List Wa) + ln (Xa a0.2.2.1 (tn 1) (tn ((ln a0.2.2.1 : Nat) : Int)))) Oa)
 (some ((r2.1, a0.2.1, (ap [] (Xa a0.2.2.1 (tn 1) (tn ((ln a0.2.2.1 : Nat) : Int)))), a0.2.2.2.1, (max a0.2.2.2.2.1 x1.1), a0.2.2.2.2.2.1, x1.1, a0.2.2.2.2.2.2.2), (r2.2.1, true, ())))
 none))
 (ob (Sw a0.1 x1.2.1) fun r3 =>
 (cond (bl (ln ([] : List Wa) + ln (Xa a0.2.2.1 (tn 1) (tn ((ln a0.2.2.1 : Nat) : Int)))) Oa)
 (some ((r3.1, a0.2.1, (ap [] (Xa a0.2.2.1 (tn 1) (tn ((ln a0.2.2.1 : Nat) : Int)))), a0.2.2.2.1, (max a0.2.2.2.2.1 x1.1), a0.2.2.2.2.2), (r3.2.1, true, ())))
 none)))
 (ob (Wo a0.1.2.2.1 a0.1.2.2.2.1) fun r4 =>
 (ob (Kz a0.1.1 r4.1 x1.2.1) fun r5 =>
 (ob (Cn r5.1) fun r6 =>
 (cond r6.1
 (cond (a0.2.2.2.2.2.1 != (wr .i64 (x1.2.1 + 1)))
 (ob (Nu a0.2.1 x1.2.1 x1.1 (Xa a0.2.2.1 (tn 1) (tn ((ln a0.2.2.1 : Nat) : Int))) a0.2.2.2.1) fun r7 =>
 (cond (r7.1 == 0)
 (some (a0, ([], false, ())))
 (cond (r7.1 == 1)
 (ob (Th a0.1 x1.2.1 false) fun r8 =>
 (cond (bl (ln ([] : List Wa) + ln (Xa a0.2.2.1 (tn 1) (tn ((ln a0.2.2.1 : Nat) : Int)))) Oa)
 (some ((r8.1, a0.2.1, (ap [] (Xa a0.2.2.1 (tn 1) (tn ((ln a0.2.2.1 : Nat) : Int)))), a0.2.2.2.1, (max (max a0.2.2.2.2.1 x1.1) r7.2.1), (wr .i64 (x1.2.1 + 1)), x1.1, a0.2.2.2.2.2.2.2), (r8.2.1, true, ())))
 none))
 (cond (r7.1 == 2)
 (ob (Th a0.1 x1.2.1 true) fun r9 =>
 (cond (bl (ln ([] : List Wa) + ln (Xa a0.2.2.1 (tn 1) (tn ((ln a0.2.2.1 : Nat) : Int)))) Oa)
 (some ((r9.1, a0.2.1, (ap [] (Xa a0.2.2.1 (tn 1) (tn ((ln a0.2.2.1 : Nat) : Int)))), a0.2.2.2.1, (max (max a0.2.2.2.2.1 x1.1) r7.2.1), 0, a0.2.2.2.2.2.2), (r9.2.1, true, ())))
 none))
 (ob (Th a0.1 x1.2.1 false) fun r10 =>
 (cond (bl (ln ([] : List Wa) + ln (Xa a0.2.2.1 (tn 1) (tn ((ln a0.2.2.1 : Nat) : Int)))) Oa)
 (some ((r10.1, a0.2.1, (ap [] (Xa a0.2.2.1 (tn 1) (tn ((ln a0.2.2.1 : Nat) : Int)))), a0.2.2.2.1, (max (max a0.2.2.2.2.1 x1.1) r7.2.1), a0.2.2.2.2.2), (r10.2.1, true, ())))
 none))))))
 (cond (decide ((wr .i64 (x1.1 - a0.2.2.2.2.2.2.1)) ≥ a0.2.1.2.1))
 (ob (Nu a0.2.1 x1.2.1 x1.1 (Xa a0.2.2.1 (tn 1) (tn ((ln a0.2.2.1 : Nat) : Int))) a0.2.2.2.1) fun r11 =>
 (cond (r11.1 == 0)
 (some (a0, ([], false, ())))
 (cond (r11.1 == 1)
 (ob (Th a0.1 x1.2.1 false) fun r12 =>
 (cond (bl (ln ([] : List Wa) + ln (Xa a0.2.2.1 (tn 1) (tn ((ln a0.2.2.1 : Nat) : Int)))) Oa)
 (some ((r12.1, a0.2.1, (ap [] (Xa a0.2.2.1 (tn 1) (tn ((ln a0.2.2.1 : Nat) : Int)))), a0.2.2.2.1, (max (max a0.2.2.2.2.1 x1.1) r11.2.1), (wr .i64 (x1.2.1 + 1)), x1.1, a0.2.2.2.2.2.2.2), (r12.2.1, true, ())))
 none))
 (cond (r11.1 == 2)
 (ob (Th a0.1 x1.2.1 true) fun r13 =>
 (cond (bl (ln ([] : List Wa) + ln (Xa a0.2.2.1 (tn 1) (tn ((ln a0.2.2.1 : Nat) : Int)))) Oa)
 (some ((r13.1, a0.2.1, (ap [] (Xa a0.2.2.1 (tn 1) (tn ((ln a0.2.2.1 : Nat) : Int)))), a0.2.2.2.1, (max (max a0.2.2.2.2.1 x1.1) r11.2.1), 0, a0.2.2.2.2.2.2), (r13.2.1, true, ())))
 none))
 (ob (Th a0.1 x1.2.1 false) fun r14 =>
 (cond (bl (ln ([] : List Wa) + ln (Xa a0.2.2.1 (tn 1) (tn ((ln a0.2.2.1 : Nat) : Int)))) Oa)
 (some ((r14.1, a0.2.1, (ap [] (Xa a0.2.2.1 (tn 1) (tn ((ln a0.2.2.1 : Nat) : Int)))), a0.2.2.2.1, (max (max a0.2.2.2.2.1 x1.1) r11.2.1), a0.2.2.2.2.2), (r14.2.1, true, ())))
 none))))))
 (cond ((1 : Int) == 0)
 (some (a0, ([], false, ())))
 (cond ((1 : Int) == 1)
 (ob (Th a0.1 x1.2.1 false) fun r15 =>
 (cond (bl (ln ([] : List Wa) + ln (Xa a0.2.2.1 (tn 1) (tn ((ln a0.2.2.1 : Nat) : Int)))) Oa)
 (some ((r15.1, a0.2.1, (ap [] (Xa a0.2.2.1 (tn 1) (tn ((ln a0.2.2.1 : Nat) : Int)))), a0.2.2.2.1, (max (max a0.2.2.2.2.1 x1.1) x1.1), (wr .i64 (x1.2.1 + 1)), x1.1, a0.2.2.2.2.2.2.2), (r15.2.1, true, ())))
 none))
 (cond ((1 : Int) == 2)
 (ob (Th a0.1 x1.2.1 true) fun r16 =>
 (cond (bl (ln ([] : List Wa) + ln (Xa a0.2.2.1 (tn 1) (tn ((ln a0.2.2.1 : Nat) : Int)))) Oa)
 (some ((r16.1, a0.2.1, (ap [] (Xa a0.2.2.1 (tn 1) (tn ((ln a0.2.2.1 : Nat) : Int)))), a0.2.2.2.1, (max (max a0.2.2.2.2.1 x1.1) x1.1), 0, a0.2.2.2.2.2.2), (r16.2.1, true, ())))
 none))
 (ob (Th a0.1 x1.2.1 false) fun r17 =>
 (cond (bl (ln ([] : List Wa) + ln (Xa a0.2.2.1 (tn 1) (tn ((ln a0.2.2.1 : Nat) : Int)))) Oa)
 (some ((r17.1, a0.2.1, (ap [] (Xa a0.2.2.1 (tn 1) (tn ((ln a0.2.2.1 : Nat) : Int)))), a0.2.2.2.1, (max (max a0.2.2.2.2.1 x1.1) x1.1), a0.2.2.2.2.2), (r17.2.1, true, ())))
 none)))))))
 (ob (Th a0.1 x1.2.1 false) fun r18 =>
 (cond (bl (ln ([] : List Wa) + ln (Xa a0.2.2.1 (tn 1) (tn ((ln a0.2.2.1 : Nat) : Int)))) Oa)
 (some ((r18.1, a0.2.1, (ap [] (Xa a0.2.2.1 (tn 1) (tn ((ln a0.2.2.1 : Nat) : Int)))), a0.2.2.2.1, (max a0.2.2.2.2.1 x1.1), a0.2.2.2.2.2), (r18.2.1, true, ())))
 none)))))))
 none))
 none)
def Oz (t0 : Ar) (t1 : Int) (t9 : (Gt × Int)) (t10 : Int) (t11 : Int) : Option (((Ar × (Int × ((Gt × Int) × Yb))) × Unit) ⊕ (((Ar × Unit) × Unit) ⊕ Jg)) :=
 (cond (decide (t11 < t10))
 (cond (Qd (ln t9.1) t11)
 (cond (qw (tn t11) (tn t9.2))
 (ob t9.1[(tn t11)]? fun x4 =>
 (cond (bl (ln t0 + ln ([(t1, x4, ())] : List Xd)) Oa)
 (some (.inl (((ap t0 ([(t1, x4, ())] : List Xd)), t1, (t9.1, ((((tn t11) + 1) : Nat) : Int)), t10, (wr .i64 (t11 + 1)), ()), ())))
 none))
 none)
 none)
 (some (.inr (.inl ((t0, ()), ())))))
def BA := Gb fun x : ((Ar × (Int × ((Gt × Int) × Yb))) × Unit) => Oz x.1.1 x.1.2.1 x.1.2.2.1 x.1.2.2.2.1 x.1.2.2.2.2.1
def JE (a0 : Ar) (a1 : Int) (a2 : Gt) : Option (Ar × Unit) :=
 (ob (BA ((a0, a1, (a2, 0), ((ln a2 : Nat) : Int), 0, ()), ())) (se (fun y5 => (some (y5.1.1, ()))) (fun z6 => none)))
def Vg (t6 : Unit) (t9 : Unit) (t10 : Ar) (b6 : Ib) (b9 : Ib) : Option (Q2 ⊕ (Q2 ⊕ Jg)) :=
 (cond (decide (((ln b9.2.2.1 : Nat) : Int) > 0))
 (ob (Rh b9) fun r25 =>
 (cond (!r25.2.2.1)
 (some (.inr (.inl (((), (), t10, ()), (b6, r25.1, ())))))
 (ob (JE t10 r25.1.2.2.2.2.1 r25.2.1) fun r26 =>
 (some (.inl (((), (), r26.1, ()), (b6, r25.1, ())))))))
 (some (.inr (.inl (((), (), t10, ()), (b6, b9, ()))))))
def Wf := Gb fun x : Q2 => Vg x.1.1 x.1.2.1 x.1.2.2.1 x.2.1 x.2.2.1
def Pp (a0 : Ib) (a1 : Jq) (a2 : Int) : Option (Ib × Yab) :=
 (ob (Bn a0) fun r1 =>
 (cond (!r1.1)
 (some (Oh, [], false, ()))
 (cond (decide (a2 < a0.2.2.2.1))
 (some (Oh, [], false, ()))
 (cond (decide (a2 > 1000000))
 (some (Oh, [], false, ()))
 (cond (decide (((ln a1 : Nat) : Int) > 0))
 (ob (Hc a1 0) fun x2 =>
 (cond (decide (x2.1 < a0.2.2.2.1))
 (some (Oh, [], false, ()))
 (ob (En a1 a2) fun r3 =>
 (cond (!r3.1)
 (some (Oh, [], false, ()))
 (ob (Jk a0) fun r4 =>
 (cond (bl (ln r4.1.2.2.1 + ln a1) Oa)
 (ob (Yo a0.1.2.2.2.1) fun r5 =>
 (ob (Gn (ap r4.1.2.2.1 a1) r5.1 a0.1.1.1) fun r6 =>
 (cond (!r6.1)
 (some (Oh, [], false, ()))
 (ob (Wf (((), (), [], ()), (Oh, (r4.1.1, r4.1.2.1, (ap r4.1.2.2.1 a1), a2, r4.1.2.2.2.2), ()))) (se (fun y15 => (some (y15.2.2.1, y15.1.2.2.1, true, ()))) (fun z16 => none))))))
 none))))))
 (ob (En a1 a2) fun r17 =>
 (cond (!r17.1)
 (some (Oh, [], false, ()))
 (ob (Jk a0) fun r18 =>
 (cond (bl (ln r18.1.2.2.1 + ln a1) Oa)
 (ob (Yo a0.1.2.2.2.1) fun r19 =>
 (ob (Gn (ap r18.1.2.2.1 a1) r19.1 a0.1.1.1) fun r20 =>
 (cond (!r20.1)
 (some (Oh, [], false, ()))
 (ob (Wf (((), (), [], ()), (Oh, (r18.1.1, r18.1.2.1, (ap r18.1.2.2.1 a1), a2, r18.1.2.2.2.2), ()))) (se (fun y27 => (some (y27.2.2.1, y27.1.2.2.1, true, ()))) (fun z28 => none))))))
 none)))))))))
def Dr (t1 : Unit) (t14 : We) (t15 : Int) (t16 : Int) (b1 : Ca) : Option ((S1 × Fo) ⊕ RL) :=
 (cond (decide (t16 < t15))
 (ob (Hc t14 t16) fun x7 =>
 (ob (Vm x7) fun r8 =>
 (cond (!r8.1)
 (some (.inr (.inr ((false, ()), ()))))
 (cond (decide (t16 > 0))
 (ob (Hc b1.2.1 (wr .i64 (t16 - 1))) fun x9 =>
 (cond (decide (x9 ≥ x7))
 (some (.inr (.inr ((false, ()), ()))))
 (some (.inl (((), t14, t15, (wr .i64 (t16 + 1)), ()), (b1, ()))))))
 (some (.inl (((), t14, t15, (wr .i64 (t16 + 1)), ()), (b1, ()))))))))
 (some (.inr (.inl ((), ())))))
def Qt := Gb fun x : (S1 × Fo) => Dr x.1.1 x.1.2.1 x.1.2.2.1 x.1.2.2.2.1 x.2.1
def Wl (a0 : Ca) : Option Fe :=
 (cond (decide (a0.1 < 0))
 (some (false, ()))
 (cond (decide (a0.1 > 15))
 (some (false, ()))
 (ob (Qt (((), a0.2.1, ((ln a0.2.1 : Nat) : Int), 0, ()), (a0, ()))) (se (fun y10 => (some (true, ()))) (fun z11 => (some (z11.1.1, ())))))))
def St (t2 : Unit) (t5 : We) (t17 : We) (t18 : Int) (t19 : Int) (b2 : Ca) : Option (((Unit × VP) × Fo) ⊕ Q1) :=
 (cond (decide (t19 < t18))
 (ob (Hc t17 t19) fun x9 =>
 (ob (Zy b2.2.1 x9) fun r10 =>
 (cond (!r10.1)
 (cond (bl (ln t5 + ln ([x9] : List Int)) Oa)
 (some (.inl (((), (ap t5 ([x9] : List Int)), t17, t18, (wr .i64 (t19 + 1)), ()), (b2, ()))))
 none)
 (some (.inl (((), t5, t17, t18, (wr .i64 (t19 + 1)), ()), (b2, ())))))))
 (some (.inr (.inl ((t5, ()), ())))))
def Cv := Gb fun x : ((Unit × VP) × Fo) => St x.1.1 x.1.2.1 x.1.2.2.1 x.1.2.2.2.1 x.1.2.2.2.2.1 x.2.1
def EB (a0 : Ca) (a1 : Ca) : Option GI :=
 (ob (Wl a0) fun r1 =>
 (cond (!r1.1)
 (some ([], ()))
 (ob (Wl a1) fun r2 =>
 (cond (!r2.1)
 (some ([], ()))
 (ob (Cv (((), [], a1.2.1, ((ln a1.2.1 : Nat) : Int), 0, ()), (a0, ()))) (se (fun y11 => (some (y11.1.1, ()))) (fun z12 => none)))))))
def Up (t2 : Unit) (t5 : Ac) (t7 : Unit) (t10 : Gt) (t11 : Int) (t12 : Int) (t18 : We) (t19 : Int) (t20 : Int) (b2 : Ca) (b7 : Ca) : Option (Rae ⊕ (((Unit × (Ac × (Unit × (Gt × Yb)))) × VR) ⊕ Jg)) :=
 (cond (decide (t20 < t19))
 (cond (Qd (ln t18) t20)
 (ob t18[(tn t20)]? fun x27 =>
 (ob (Tk x27 b7.1) fun r28 =>
 (cond (bl (ln t5 + ln r28.1) Oa)
 (some (.inl (((), (ap t5 r28.1), (), t10, t11, t12, t18, t19, (wr .i64 (t20 + 1)), ()), (b2, b7, ()))))
 none)))
 none)
 (some (.inr (.inl (((), t5, (), t10, t11, t12, ()), (b2, b7, ()))))))
def As := Gb fun x : Rae => Up x.1.1 x.1.2.1 x.1.2.2.1 x.1.2.2.2.1 x.1.2.2.2.2.1 x.1.2.2.2.2.2.1 x.1.2.2.2.2.2.2.1 x.1.2.2.2.2.2.2.2.1 x.1.2.2.2.2.2.2.2.2.1 x.2.1 x.2.2.1
def Tp (t2 : Unit) (t5 : Ac) (t10 : Gt) (t11 : Int) (t12 : Int) (b2 : Ca) : Option (((Unit × (Ac × (Gt × Yb))) × Fo) ⊕ R2) :=
 (cond (decide (t12 < t11))
 (ob (Hc t10 t12) fun x21 =>
 (ob (EB b2 x21) fun r22 =>
 (ob (As (((), t5, (), t10, t11, t12, r22.1, ((ln r22.1 : Nat) : Int), 0, ()), (b2, x21, ()))) (se (fun y29 => (some (.inl (((), y29.1.2.1, y29.1.2.2.2.1, y29.1.2.2.2.2.1, (wr .i64 (y29.1.2.2.2.2.2.1 + 1)), ()), (y29.2.2.1, ()))))) (fun z30 => (some (.inr (.inr ((), ())))))))))
 (some (.inr (.inl ((t5, ()), ())))))
def Zr := Gb fun x : ((Unit × (Ac × (Gt × Yb))) × Fo) => Tp x.1.1 x.1.2.1 x.1.2.2.1 x.1.2.2.2.1 x.1.2.2.2.2.1 x.2.1
def Sx (a0 : Ca) (a1 : Gt) : Option Yg :=
 (ob (Zr (((), [], a1, ((ln a1 : Nat) : Int), 0, ()), (a0, ()))) (se (fun y31 => (some (y31.1.1, ()))) (fun z32 => none)))
def CI (t1 : Int) (t2 : Int) (t3 : Unit) (t7 : Int) (b3 : Ha) : Option (T1 ⊕ QL) :=
 (cond (decide (t7 > 0))
 (cond (decide (0 ≤ t7))
 (cond ((Cl .i64 (Bu .i64 t1 t7) 1) == 1)
 (ob (Hc b3.2.1 t7) fun x7 =>
 (ob (Hc x7 t2) fun x8 =>
 (cond (x8.1 != 1)
 (some (.inr (.inr ((t7, ()), ()))))
 (some (.inl ((t1, t2, (), (wr .i64 (t7 - 1)), ()), (b3, ())))))))
 (some (.inl ((t1, t2, (), (wr .i64 (t7 - 1)), ()), (b3, ())))))
 none)
 (some (.inr (.inl ((), ())))))
def Ek := Gb fun x : T1 => CI x.1.1 x.1.2.1 x.1.2.2.1 x.1.2.2.2.1 x.2.1
def BI (a0 : Ha) (a1 : Int) (a2 : Int) : Option Zi :=
 (ob (Am a0) fun r1 =>
 (cond (!r1.1)
 (some ((-1), ()))
 (ob (Oc a2 0 (wr .i64 (a0.1 - 1))) fun r2 =>
 (cond (!r2.1)
 (some ((-1), ()))
 (ob (Ek ((a1, a2, (), (wr .i64 (((ln a0.2.1 : Nat) : Int) - 1)), ()), (a0, ()))) (se (fun y9 => (some (0, ()))) (fun z10 => (some (z10.1.1, ())))))))))
def DF (a0 : Ha) (a1 : Int) (a2 : Int) : Option Iz :=
 (ob (BI a0 a1 a2) fun r1 =>
 (cond (decide (r1.1 < 0))
 (some ((0, 0, 0, 0, ()), ()))
 (ob (Hc a0.2.1 r1.1) fun x2 =>
 (ob (Hc x2 a2) fun x3 =>
 (some (x3, ()))))))
def RB (a0 : Ha) (a1 : Int) (a2 : Int) : Option Zi :=
 (ob (Ao a0 a1) fun r1 =>
 (cond (!r1.1)
 (some ((-1), ()))
 (ob (Oc a2 0 (wr .i64 (a0.1 - 1))) fun r2 =>
 (cond (!r2.1)
 (some ((-1), ()))
 (ob (DF a0 (Xe .i64 1 a1) a2) fun r3 =>
 (cond (r3.1.1 == 4)
 (cond (decide (0 ≤ r3.1.2.2.2.1))
 (some ((Yn .i64 a1 (Ke .i64 1 r3.1.2.2.2.1)), ()))
 none)
 (cond (r3.1.1 == 5)
 (cond (decide (0 ≤ r3.1.2.2.2.1))
 (some ((Sk .i64 (Ke .i64 1 r3.1.2.2.2.1) 1), ()))
 none)
 (some (a1, ())))))))))
def Yp (a0 : Ha) (a1 : Int) (a2 : Int) : Option Zi :=
 (ob (Ds a0 a1 a2) fun r1 =>
 (ob (Hc a0.2.1 r1.1) fun x2 =>
 (ob (Hc x2 a2) fun x3 =>
 (cond (x3.1 == 4)
 (cond (decide (0 ≤ x3.2.2.2.1))
 (some ((Yn .i64 a1 (Ke .i64 1 x3.2.2.2.1)), ()))
 none)
 (cond (x3.1 == 5)
 (cond (decide (0 ≤ x3.2.2.2.1))
 (some ((Sk .i64 (Ke .i64 1 x3.2.2.2.1) 1), ()))
 none)
 (some (a1, ())))))))
def UI (a0 : Ha) (a1 : Int) (a2 : Int) : Option Zi :=
 (ob (Pg a0 a1) fun r1 =>
 (cond (!r1.1)
 (some ((-1), ()))
 (cond (decide (a2 < 0))
 (some ((-1), ()))
 (cond (decide (a2 ≥ a0.1))
 (some ((-1), ()))
 (ob (Yp a0 a1 a2) fun r2 =>
 (some (r2.1, ())))))))
def ZD (a0 : Zb) (a1 : Int) : Option (Zb × Iz) :=
 (ob (Vb a0 56) fun r1 =>
 (ob (Vb r1.1 15) fun r2 =>
 (ob (Vu r2.1 2) fun r3 =>
 (cond r3.2.1
 (ob (Vb r3.1 (max 1 (wr .i64 (a1 - 1)))) fun r4 =>
 (ob (Vb r4.1 16) fun r5 =>
 (cond (r5.2.1 == 0)
 (some (r5.1, ((2, (wr .i64 (1 + r1.2.1)), 2, 0, ()), ())))
 (cond (r5.2.1 == 1)
 (some (r5.1, ((2, 0, 2, 0, ()), ())))
 (cond (r5.2.1 == 2)
 (some (r5.1, ((6, (wr .i64 (1 + r1.2.1)), 2, 0, ()), ())))
 (cond (r5.2.1 == 3)
 (some (r5.1, ((6, (wr .i64 (1 + r1.2.1)), 2, 0, ()), ())))
 (cond (r5.2.1 == 4)
 (some (r5.1, ((8, 0, 2, 0, ()), ())))
 (cond (r5.2.1 == 5)
 (ob (Vb r5.1 4) fun r6 =>
 (some (r6.1, ((9, 0, 0, r6.2.1, ()), ()))))
 (cond (r5.2.1 == 6)
 (some (r5.1, ((10, 0, 0, 0, ()), ())))
 (cond (r5.2.1 == 7)
 (ob (Vb r5.1 (max 1 a1)) fun r7 =>
 (some (r7.1, ((5, 0, 0, r7.2.1, ()), ()))))
 (cond (r5.2.1 == 8)
 (cond (decide (a1 > 1))
 (ob (Vb r5.1 3) fun r8 =>
 (cond (Qd (ln ([(3, 0, 0, (wr .i64 (1 + r4.2.1)), ()), (4, 0, 0, (wr .i64 (1 + r4.2.1)), ()), (7, (wr .i64 (1 + r1.2.1)), 0, (wr .i64 (1 + r4.2.1)), ())] : List Ga)) r8.2.1)
 (ob ([(3, 0, 0, (wr .i64 (1 + r4.2.1)), ()), (4, 0, 0, (wr .i64 (1 + r4.2.1)), ()), (7, (wr .i64 (1 + r1.2.1)), 0, (wr .i64 (1 + r4.2.1)), ())] : List Ga)[(tn r8.2.1)]? fun x9 =>
 (some (r8.1, (x9, ()))))
 none))
 (some (r5.1, ((2, (wr .i64 (1 + r1.2.1)), 0, 0, ()), ()))))
 (cond (r5.2.1 == 9)
 (cond (decide (a1 > 1))
 (ob (Vb r5.1 3) fun r10 =>
 (cond (Qd (ln ([(3, 0, 0, (wr .i64 (1 + r4.2.1)), ()), (4, 0, 0, (wr .i64 (1 + r4.2.1)), ()), (7, (wr .i64 (1 + r1.2.1)), 0, (wr .i64 (1 + r4.2.1)), ())] : List Ga)) r10.2.1)
 (ob ([(3, 0, 0, (wr .i64 (1 + r4.2.1)), ()), (4, 0, 0, (wr .i64 (1 + r4.2.1)), ()), (7, (wr .i64 (1 + r1.2.1)), 0, (wr .i64 (1 + r4.2.1)), ())] : List Ga)[(tn r10.2.1)]? fun x11 =>
 (some (r10.1, (x11, ()))))
 none))
 (some (r5.1, ((2, (wr .i64 (1 + r1.2.1)), 0, 0, ()), ()))))
 (cond (r5.2.1 == 10)
 (cond (decide (a1 > 1))
 (ob (Vb r5.1 3) fun r12 =>
 (cond (Qd (ln ([(3, 0, 0, (wr .i64 (1 + r4.2.1)), ()), (4, 0, 0, (wr .i64 (1 + r4.2.1)), ()), (7, (wr .i64 (1 + r1.2.1)), 0, (wr .i64 (1 + r4.2.1)), ())] : List Ga)) r12.2.1)
 (ob ([(3, 0, 0, (wr .i64 (1 + r4.2.1)), ()), (4, 0, 0, (wr .i64 (1 + r4.2.1)), ()), (7, (wr .i64 (1 + r1.2.1)), 0, (wr .i64 (1 + r4.2.1)), ())] : List Ga)[(tn r12.2.1)]? fun x13 =>
 (some (r12.1, (x13, ()))))
 none))
 (some (r5.1, ((2, (wr .i64 (1 + r1.2.1)), 0, 0, ()), ()))))
 (some (r5.1, ((2, (wr .i64 (1 + r1.2.1)), 0, 0, ()), ()))))))))))))))))
 (ob (Vb r3.1 (max 1 (wr .i64 (a1 - 1)))) fun r14 =>
 (ob (Vb r14.1 16) fun r15 =>
 (cond (r15.2.1 == 0)
 (some (r15.1, ((2, (wr .i64 (1 + r1.2.1)), (wr .i64 (1 + r2.2.1)), 0, ()), ())))
 (cond (r15.2.1 == 1)
 (some (r15.1, ((2, 0, (wr .i64 (1 + r2.2.1)), 0, ()), ())))
 (cond (r15.2.1 == 2)
 (some (r15.1, ((6, (wr .i64 (1 + r1.2.1)), (wr .i64 (1 + r2.2.1)), 0, ()), ())))
 (cond (r15.2.1 == 3)
 (some (r15.1, ((6, (wr .i64 (1 + r1.2.1)), (wr .i64 (1 + r2.2.1)), 0, ()), ())))
 (cond (r15.2.1 == 4)
 (some (r15.1, ((8, 0, (wr .i64 (1 + r2.2.1)), 0, ()), ())))
 (cond (r15.2.1 == 5)
 (ob (Vb r15.1 4) fun r16 =>
 (some (r16.1, ((9, 0, 0, r16.2.1, ()), ()))))
 (cond (r15.2.1 == 6)
 (some (r15.1, ((10, 0, 0, 0, ()), ())))
 (cond (r15.2.1 == 7)
 (ob (Vb r15.1 (max 1 a1)) fun r17 =>
 (some (r17.1, ((5, 0, 0, r17.2.1, ()), ()))))
 (cond (r15.2.1 == 8)
 (cond (decide (a1 > 1))
 (ob (Vb r15.1 3) fun r18 =>
 (cond (Qd (ln ([(3, 0, 0, (wr .i64 (1 + r14.2.1)), ()), (4, 0, 0, (wr .i64 (1 + r14.2.1)), ()), (7, (wr .i64 (1 + r1.2.1)), 0, (wr .i64 (1 + r14.2.1)), ())] : List Ga)) r18.2.1)
 (ob ([(3, 0, 0, (wr .i64 (1 + r14.2.1)), ()), (4, 0, 0, (wr .i64 (1 + r14.2.1)), ()), (7, (wr .i64 (1 + r1.2.1)), 0, (wr .i64 (1 + r14.2.1)), ())] : List Ga)[(tn r18.2.1)]? fun x19 =>
 (some (r18.1, (x19, ()))))
 none))
 (some (r15.1, ((2, (wr .i64 (1 + r1.2.1)), 0, 0, ()), ()))))
 (cond (r15.2.1 == 9)
 (cond (decide (a1 > 1))
 (ob (Vb r15.1 3) fun r20 =>
 (cond (Qd (ln ([(3, 0, 0, (wr .i64 (1 + r14.2.1)), ()), (4, 0, 0, (wr .i64 (1 + r14.2.1)), ()), (7, (wr .i64 (1 + r1.2.1)), 0, (wr .i64 (1 + r14.2.1)), ())] : List Ga)) r20.2.1)
 (ob ([(3, 0, 0, (wr .i64 (1 + r14.2.1)), ()), (4, 0, 0, (wr .i64 (1 + r14.2.1)), ()), (7, (wr .i64 (1 + r1.2.1)), 0, (wr .i64 (1 + r14.2.1)), ())] : List Ga)[(tn r20.2.1)]? fun x21 =>
 (some (r20.1, (x21, ()))))
 none))
 (some (r15.1, ((2, (wr .i64 (1 + r1.2.1)), 0, 0, ()), ()))))
 (cond (r15.2.1 == 10)
 (cond (decide (a1 > 1))
 (ob (Vb r15.1 3) fun r22 =>
 (cond (Qd (ln ([(3, 0, 0, (wr .i64 (1 + r14.2.1)), ()), (4, 0, 0, (wr .i64 (1 + r14.2.1)), ()), (7, (wr .i64 (1 + r1.2.1)), 0, (wr .i64 (1 + r14.2.1)), ())] : List Ga)) r22.2.1)
 (ob ([(3, 0, 0, (wr .i64 (1 + r14.2.1)), ()), (4, 0, 0, (wr .i64 (1 + r14.2.1)), ()), (7, (wr .i64 (1 + r1.2.1)), 0, (wr .i64 (1 + r14.2.1)), ())] : List Ga)[(tn r22.2.1)]? fun x23 =>
 (some (r22.1, (x23, ()))))
 none))
 (some (r15.1, ((2, (wr .i64 (1 + r1.2.1)), 0, 0, ()), ()))))
 (some (r15.1, ((2, (wr .i64 (1 + r1.2.1)), 0, 0, ()), ()))))))))))))))))))))
def XB (t0 : Unit) (t1 : Int) (t4 : Unit) (t5 : Int) (t6 : Unit) (t7 : Int) (t8 : Ck) (t9 : Int) (b500000 : Zb) (b4 : Ha) (b6 : Ha) : Option (Zan ⊕ (((Unit × (Int × (Unit × (Int × (Unit × (Int × (Ck × Unit))))))) × IU) ⊕ Jg)) :=
 (cond (decide (t9 < t1))
 (ob (ZD b500000 t5) fun r30 =>
 (cond (decide (t7 > 0))
 (ob (Vu r30.1 3) fun r31 =>
 (cond r31.2.1
 (cond (bl (ln t8 + ln ([(1, 0, 0, 0, ())] : List Ga)) Oa)
 (some (.inl (((), t1, (), t5, (), t7, (ap t8 ([(1, 0, 0, 0, ())] : List Ga)), (wr .i64 (t9 + 1)), ()), (r31.1, b4, b6, ()))))
 none)
 (cond (bl (ln t8 + ln ([r30.2.1] : List Ga)) Oa)
 (some (.inl (((), t1, (), t5, (), t7, (ap t8 ([r30.2.1] : List Ga)), (wr .i64 (t9 + 1)), ()), (r31.1, b4, b6, ()))))
 none)))
 (cond (bl (ln t8 + ln ([r30.2.1] : List Ga)) Oa)
 (some (.inl (((), t1, (), t5, (), t7, (ap t8 ([r30.2.1] : List Ga)), (wr .i64 (t9 + 1)), ()), (r30.1, b4, b6, ()))))
 none)))
 (some (.inr (.inl (((), t1, (), t5, (), t7, t8, ()), (b500000, b4, b6, ()))))))
def Jx := Gb fun x : Zan => XB x.1.1 x.1.2.1 x.1.2.2.1 x.1.2.2.2.1 x.1.2.2.2.2.1 x.1.2.2.2.2.2.1 x.1.2.2.2.2.2.2.1 x.1.2.2.2.2.2.2.2.1 x.2.1 x.2.2.1 x.2.2.2.1
def WB (t0 : Unit) (t1 : Int) (t4 : Unit) (t5 : Int) (t6 : Unit) (t7 : Int) (b500000 : Zb) (b4 : Ha) (b6 : Ha) : Option (((Unit × (Int × (Unit × Wab))) × IU) ⊕ ((Yas × IU) ⊕ Jg)) :=
 (cond (decide (t7 < t5))
 (ob (Jx (((), t1, (), t5, (), t7, [], 0, ()), (b500000, b4, b6, ()))) (se (fun y32 => (cond (bl (ln y32.2.2.2.1.2.1 + ln ([y32.1.2.2.2.2.2.2.1] : List Ck)) Oa)
 (some (.inl (((), y32.1.2.1, (), y32.1.2.2.2.1, (), (wr .i64 (y32.1.2.2.2.2.2.1 + 1)), ()), (y32.2.1, y32.2.2.1, (y32.2.2.2.1.1, (ap y32.2.2.2.1.2.1 ([y32.1.2.2.2.2.2.2.1] : List Ck)), ()), ()))))
 none)) (fun z33 => (some (.inr (.inr ((), ())))))))
 (some (.inr (.inl (((), (), (), ()), (b500000, b4, b6, ()))))))
def Ix := Gb fun x : ((Unit × (Int × (Unit × Wab))) × IU) => WB x.1.1 x.1.2.1 x.1.2.2.1 x.1.2.2.2.1 x.1.2.2.2.2.1 x.1.2.2.2.2.2.1 x.2.1 x.2.2.1 x.2.2.2.1
def Ez (a0 : Zb) (a1 : Int) : Option Yaz :=
 (ob (Vb a0 4) fun r1 =>
 (ob (Ix (((), a1, (), (wr .i64 (1 + r1.2.1)), (), 0, ()), (r1.1, (0, [], ()), (a1, [], ()), ()))) (se (fun y34 => (some (y34.2.1, (y34.2.2.2.1, ())))) (fun z35 => none))))
def Av (t0 : Int) (t3 : Ac) (t12 : Dd) (t13 : Int) (t14 : Int) : Option (((Int × (Ac × Ft)) × Unit) ⊕ R2) :=
 (cond (decide (t14 < t13))
 (cond (Qd (ln t12) t14)
 (ob t12[(tn t14)]? fun x5 =>
 (ob (Pq t0 t14) fun r6 =>
 (cond (r6.1 == 1)
 (cond (bl (ln t3 + ln x5) Oa)
 (some (.inl ((t0, (ap t3 x5), t12, t13, (wr .i64 (t14 + 1)), ()), ())))
 none)
 (some (.inl ((t0, t3, t12, t13, (wr .i64 (t14 + 1)), ()), ()))))))
 none)
 (some (.inr (.inl ((t3, ()), ())))))
def Mq := Gb fun x : ((Int × (Ac × Ft)) × Unit) => Av x.1.1 x.1.2.1 x.1.2.2.1 x.1.2.2.2.1 x.1.2.2.2.2.1
def Yh (a0 : Int) : Option Yg :=
 (cond (decide (a0 < 1))
 (some ([], ()))
 (cond (decide (a0 > 15))
 (some ([], ()))
 (ob (Mq ((a0, [], ([([67] : List UInt8), ([83] : List UInt8), ([65] : List UInt8), ([71] : List UInt8)] : List Ac), ((ln ([([67] : List UInt8), ([83] : List UInt8), ([65] : List UInt8), ([71] : List UInt8)] : List Ac) : Nat) : Int), 0, ()), ())) (se (fun y7 => (some (y7.1.1, ()))) (fun z8 => none)))))
def strings_Join (a : List Ac) (b : List UInt8) : Option (List UInt8 × Unit) := D2 a b
def Qf (a0 : Dd) (a1 : Ac) : Option Yg :=
 (ob (strings_Join a0 a1) fun r1 =>
 (some (r1.1, ())))
def Il (t1 : Unit) (t3 : Dd) (t10 : We) (t11 : Int) (t12 : Int) (b1 : Ca) : Option ((EU × Fo) ⊕ (((Unit × KI) × Fo) ⊕ Jg)) :=
 (cond (decide (t12 < t11))
 (ob (Hc t10 t12) fun x8 =>
 (ob (Dc x8) fun r9 =>
 (cond (bl (ln t3 + ln ([r9.1] : List Ac)) Oa)
 (some (.inl (((), (ap t3 ([r9.1] : List Ac)), t10, t11, (wr .i64 (t12 + 1)), ()), (b1, ()))))
 none)))
 (some (.inr (.inl (((), t3, ()), (b1, ()))))))
def Qn := Gb fun x : (EU × Fo) => Il x.1.1 x.1.2.1 x.1.2.2.1 x.1.2.2.2.1 x.1.2.2.2.2.1 x.2.1
def Fm (a0 : Ca) : Option Yg :=
 (ob (Wl a0) fun r1 =>
 (cond (!r1.1)
 (some ([], ()))
 (ob (Qn (((), [], a0.2.1, ((ln a0.2.1 : Nat) : Int), 0, ()), (a0, ()))) (se (fun y10 => (ob (Yh y10.2.1.1) fun r12 =>
 (cond (bl (ln r12.1 + ln ([58] : List UInt8)) Oa)
 (ob (Qf y10.1.2.1 ([44] : List UInt8)) fun r13 =>
 (cond (bl (ln (ap r12.1 ([58] : List UInt8)) + ln r13.1) Oa)
 (some ((ap (ap r12.1 ([58] : List UInt8)) r13.1), ()))
 none))
 none))) (fun z11 => none)))))
def Yv (t0 : Xi) (t3 : Int) (t4 : Int) : Option ((SL × Unit) ⊕ RL) :=
 (cond (decide (t4 < ((ln t0 : Nat) : Int)))
 (ob (Hc t0 t4) fun x15 =>
 (ob (Hc t0 t4) fun x16 =>
 (ob (Oc x16.1 0 31) fun r17 =>
 (cond (!r17.1)
 (some (.inr (.inr ((false, ()), ()))))
 (ob (Hc t0 t4) fun x18 =>
 (cond (decide (0 ≤ x18.1))
 (cond ((Cl .i64 (Bu .i64 t3 x18.1) 1) == 1)
 (some (.inr (.inr ((false, ()), ()))))
 (ob (Ii x15.2.1) fun r19 =>
 (cond (!r19.1)
 (some (.inr (.inr ((false, ()), ()))))
 (cond (x15.2.1.1 == 1)
 (some (.inr (.inr ((false, ()), ()))))
 (ob (DD x15.2.1) fun r20 =>
 (cond r20.1
 (some (.inr (.inr ((false, ()), ()))))
 (ob (Hc t0 t4) fun x21 =>
 (cond (decide (0 ≤ x21.1))
 (some (.inl ((t0, (Xe .i64 t3 (Ke .i64 1 x21.1)), (wr .i64 (t4 + 1)), ()), ())))
 none))))))))
 none))))))
 (some (.inr (.inl ((), ())))))
def QE := Gb fun x : (SL × Unit) => Yv x.1.1 x.1.2.1 x.1.2.2.1
def CK (a0 : Xi) : Option Fe :=
 (ob (QE ((a0, 0, 0, ()), ())) (se (fun y22 => (some (true, ()))) (fun z23 => (some (z23.1.1, ())))))
def Zv (t0 : Xi) (t3 : Unit) (t5 : Int) (b3 : Lb) : Option (((Xi × Dt) × HU) ⊕ QL) :=
 (cond (decide (t5 < ((ln t0 : Nat) : Int)))
 (ob (Hc t0 t5) fun x5 =>
 (cond (x5.2.1.2.1 == b3.2.1)
 (ob (Hc t0 t5) fun x6 =>
 (cond (x6.2.1.2.2.1 == b3.2.2.1)
 (some (.inr (.inr ((t5, ()), ()))))
 (some (.inl ((t0, (), (wr .i64 (t5 + 1)), ()), (b3, ()))))))
 (some (.inl ((t0, (), (wr .i64 (t5 + 1)), ()), (b3, ()))))))
 (some (.inr (.inl ((), ())))))
def RE := Gb fun x : ((Xi × Dt) × HU) => Zv x.1.1 x.1.2.1 x.1.2.2.1 x.2.1
def DK (a0 : Xi) (a1 : Lb) : Option Zi :=
 (ob (RE ((a0, (), 0, ()), (a1, ()))) (se (fun y7 => (some ((-1), ()))) (fun z8 => (some (z8.1.1, ())))))
def HF (a0 : Lb) : Option Iz :=
 (some ((2, a0.2.1, a0.2.2.1, 0, ()), ()))
def Zx (a0 : Xi) (a1 : Int) : Option (Xi × Unit) :=
 (cond (Jd (ln a0) 0 a1)
 (cond (bl (ln ([] : List Ma) + ln (Xa a0 (tn 0) (tn a1))) Oa)
 (cond (Jd (ln a0) (wr .i64 (a1 + 1)) ((ln a0 : Nat) : Int))
 (cond (bl (ln (ap [] (Xa a0 (tn 0) (tn a1))) + ln (Xa a0 (tn (wr .i64 (a1 + 1))) (tn ((ln a0 : Nat) : Int)))) Oa)
 (some ((ap (ap [] (Xa a0 (tn 0) (tn a1))) (Xa a0 (tn (wr .i64 (a1 + 1))) (tn ((ln a0 : Nat) : Int)))), ()))
 none)
 none)
 none)
 none)
def Bo (t0 : Fi) (t3 : Xi) (t4 : Int) : Option (((Fi × (Xi × Zi)) × Unit) ⊕ (((Fi × (Xi × Unit)) × Unit) ⊕ Et)) :=
 (cond (decide (t4 < ((ln t0 : Nat) : Int)))
 (ob (Hc t0 t4) fun x15 =>
 (ob (DK t3 x15) fun r16 =>
 (ob (Oc x15.1 0 2) fun r17 =>
 (cond (!r17.1)
 (some (.inr (.inr ((false, ()), ()))))
 (ob (HF x15) fun r18 =>
 (ob (Ii r18.1) fun r19 =>
 (cond (!r19.1)
 (some (.inr (.inr ((false, ()), ()))))
 (cond ((x15.1 == 2) != (decide (r16.1 ≥ 0)))
 (some (.inr (.inr ((false, ()), ()))))
 (cond (x15.1 == 1)
 (ob (HF x15) fun r20 =>
 (cond (bl (ln t3 + ln ([(0, r20.1, ())] : List Ma)) Oa)
 (some (.inl ((t0, (ap t3 ([(0, r20.1, ())] : List Ma)), (wr .i64 (t4 + 1)), ()), ())))
 none))
 (cond (x15.1 == 2)
 (ob (Zx t3 r16.1) fun r21 =>
 (some (.inl ((t0, r21.1, (wr .i64 (t4 + 1)), ()), ()))))
 (some (.inl ((t0, t3, (wr .i64 (t4 + 1)), ()), ())))))))))))))
 (some (.inr (.inl ((t0, t3, ()), ())))))
def FC := Gb fun x : ((Fi × (Xi × Zi)) × Unit) => Bo x.1.1 x.1.2.1 x.1.2.2.1
def AI (a0 : Fi) : Option Fe :=
 (ob (FC ((a0, [], 0, ()), ())) (se (fun y22 => (cond (decide (((ln y22.1.1 : Nat) : Int) ≤ 8))
 (some ((((ln y22.1.2.1 : Nat) : Int) == 0), ()))
 (some (false, ())))) (fun z23 => (some (z23.1.1, ())))))
def Mr (t1 : Unit) (t3 : Int) (b1 : Qb) : Option ((Dt × Ct) ⊕ ((Jg × Ct) ⊕ Et)) :=
 (cond (decide (t3 < ((ln b1.2.1 : Nat) : Int)))
 (ob (Hc b1.2.1 t3) fun x7 =>
 (ob (AI x7) fun r8 =>
 (cond (!r8.1)
 (some (.inr (.inr ((false, ()), ()))))
 (some (.inl (((), (wr .i64 (t3 + 1)), ()), (b1, ())))))))
 (some (.inr (.inl (((), ()), (b1, ()))))))
def Eu := Gb fun x : (Dt × Ct) => Mr x.1.1 x.1.2.1 x.2.1
def Nr (t1 : Unit) (t4 : Int) (b1 : Qb) : Option ((Dt × Ct) ⊕ ((Jg × Ct) ⊕ Et)) :=
 (cond (decide (t4 < ((ln b1.2.2.2.1 : Nat) : Int)))
 (ob (Hc b1.2.2.2.1 t4) fun x17 =>
 (cond (decide (x17.1 ≥ b1.1.1))
 (some (.inr (.inr ((false, ()), ()))))
 (ob (Hc b1.2.2.2.1 t4) fun x18 =>
 (cond (x18.2.1.1 != 9)
 (ob (Hc b1.2.2.2.1 t4) fun x19 =>
 (cond (decide (x19.2.1.2.2.2.1 ≥ ((ln b1.1.2.1 : Nat) : Int)))
 (some (.inr (.inr ((false, ()), ()))))
 (some (.inl (((), (wr .i64 (t4 + 1)), ()), (b1, ()))))))
 (some (.inl (((), (wr .i64 (t4 + 1)), ()), (b1, ()))))))))
 (some (.inr (.inl (((), ()), (b1, ()))))))
def Fu := Gb fun x : (Dt × Ct) => Nr x.1.1 x.1.2.1 x.2.1
def EF (a0 : Qb) : Option Fe :=
 (ob (Am a0.1) fun r1 =>
 (cond (!r1.1)
 (some (false, ()))
 (cond (decide (((ln a0.2.1 : Nat) : Int) > 4))
 (some (false, ()))
 (ob (CK a0.2.2.2.1) fun r2 =>
 (cond (!r2.1)
 (some (false, ()))
 (ob (Eu (((), 0, ()), (a0, ()))) (se (fun y9 => (ob (Fu (((), 0, ()), (y9.2.1, ()))) (se (fun y20 => (cond (decide (0 ≤ ((ln y20.2.1.1.2.1 : Nat) : Int)))
 (ob (Oc y20.2.1.2.2.1 0 (wr .i64 ((Ke .i64 1 ((ln y20.2.1.1.2.1 : Nat) : Int)) - 1))) fun r22 =>
 (cond r22.1
 (cond ((2 : Int) == 0)
 none
 (cond ((yc y20.2.1.2.2.1 2) == 0)
 (ob (Oc y20.2.1.2.2.2.2.1 0 15) fun r23 =>
 (some (r23.1, ())))
 (some (false, ()))))
 (some (false, ()))))
 none)) (fun z21 => (some (z21.1.1, ())))))) (fun z10 => (some (z10.1.1, ()))))))))))
def Oo (t2 : Unit) (t6 : SP) (t7 : (List Bool)) (t8 : We) (t9 : Int) (t10 : Int) (t11 : Int) (b2 : Ha) : Option (Sae ⊕ (Zab ⊕ Jg)) :=
 (cond (decide (t11 < b2.1))
 (ob (RB b2 t10 t11) fun r49 =>
 (cond (decide (r49.1 ≥ 0))
 (cond (Qd (ln t7) r49.1)
 (ob t7[(tn r49.1)]? fun x50 =>
 (cond (!x50)
 (cond (Qd (ln t7) r49.1)
 (ob t7[(tn r49.1)]? fun x51 =>
 (cond (Qd (ln t6) t10)
 (ob t6[(tn t10)]? fun x52 =>
 (cond (bl (ln ([] : List Int) + ln x52) Oa)
 (cond (bl (ln (ap [] x52) + ln ([t11] : List Int)) Oa)
 (cond (Qd (ln t6) r49.1)
 (ob (ls t6 (tn t10) x52)[(tn r49.1)]? fun x53 =>
 (cond (bl (ln t8 + ln ([r49.1] : List Int)) Oa)
 (some (.inl (((), (ls (ls t6 (tn t10) x52) (tn r49.1) (ap (ap [] x52) ([t11] : List Int))), (ls t7 (tn r49.1) true), (ap t8 ([r49.1] : List Int)), t9, t10, (wr .i64 (t11 + 1)), ()), (b2, ()))))
 none))
 none)
 none)
 none))
 none))
 none)
 (some (.inl (((), t6, t7, t8, t9, t10, (wr .i64 (t11 + 1)), ()), (b2, ()))))))
 none)
 (some (.inl (((), t6, t7, t8, t9, t10, (wr .i64 (t11 + 1)), ()), (b2, ()))))))
 (some (.inr (.inl (((), t6, t7, t8, t9, ()), (b2, ()))))))
def Xq := Gb fun x : Sae => Oo x.1.1 x.1.2.1 x.1.2.2.1 x.1.2.2.2.1 x.1.2.2.2.2.1 x.1.2.2.2.2.2.1 x.1.2.2.2.2.2.2.1 x.2.1
def Hx (t2 : Unit) (t6 : SP) (t7 : (List Bool)) (t8 : We) (t9 : Int) (b2 : Ha) : Option (Zab ⊕ (((SP × ((List Bool) × Unit)) × Unit) ⊕ Jg)) :=
 (cond (decide (t9 < ((ln t8 : Nat) : Int)))
 (cond (Qd (ln t8) t9)
 (ob t8[(tn t9)]? fun x38 =>
 (ob (Xq (((), t6, t7, t8, t9, x38, 0, ()), (b2, ()))) (se (fun y54 => (some (.inl (((), y54.1.2.1, y54.1.2.2.1, y54.1.2.2.2.1, (wr .i64 (y54.1.2.2.2.2.1 + 1)), ()), (y54.2.1, ()))))) (fun z55 => (some (.inr (.inr ((), ()))))))))
 none)
 (some (.inr (.inl ((t6, t7, ()), ())))))
def Sl := Gb fun x : Zab => Hx x.1.1 x.1.2.1 x.1.2.2.1 x.1.2.2.2.1 x.1.2.2.2.2.1 x.2.1
def FD (a0 : Ha) (a1 : Int) : Option (SP × ((List Bool) × Unit)) :=
 (cond (((16 : Int) == 16) && (decide ((0 : Int) ≤ 16) && decide (16 ≤ ((Oa : Nat) : Int))))
 (cond (((16 : Int) == 16) && (decide ((0 : Int) ≤ 16) && decide (16 ≤ ((Oa : Nat) : Int))))
 (cond (Qd (ln (yd (tn 16) false)) a1)
 (ob (yd (tn 16) false)[(tn a1)]? fun x1 =>
 (ob (Sl (((), (yd (tn 16) []), (ls (yd (tn 16) false) (tn a1) true), ([a1] : List Int), 0, ()), (a0, ()))) (se (fun y56 => (some y56.1)) (fun z57 => none))))
 none)
 none)
 none)
def Yx (a0 : Ha) (a1 : Int) (a2 : Int) : Option V1 :=
 (ob (Ao a0 a1) fun r1 =>
 (cond (!r1.1)
 (some ([], false, ()))
 (ob (Ao a0 a2) fun r2 =>
 (cond (!r2.1)
 (some ([], false, ()))
 (ob (FD a0 a1) fun r3 =>
 (cond (Qd (ln r3.2.1) a2)
 (ob r3.2.1[(tn a2)]? fun x4 =>
 (cond (!x4)
 (some ([], false, ()))
 (cond (Qd (ln r3.1) a2)
 (ob r3.1[(tn a2)]? fun x5 =>
 (cond (bl (ln ([] : List Int) + ln x5) Oa)
 (some ((ap [] x5), true, ()))
 none))
 none)))
 none))))))
def Pz (t2 : Unit) (t5 : HG) (t6 : We) (t7 : Int) (t26 : Int) (t27 : Int) (b2 : Ha) : Option (((Unit × (HG × (We × Lb))) × Fk) ⊕ (S2 ⊕ Jg)) :=
 (cond (decide (t27 < t26))
 (ob (Yp b2 t7 t27) fun r24 =>
 (cond (!(Bd t5 r24.1).isSome)
 (ob (Hi ((Bd t5 t7).getD [])) fun r25 =>
 (cond (bl (ln r25.1 + ln ([t27] : List Int)) Oa)
 (cond (Option.isNone (Bd t5 r24.1))
 (cond (bl (ln t6 + ln ([r24.1] : List Int)) Oa)
 (some (.inl (((), (ap t5 [(r24.1, (ap r25.1 ([t27] : List Int)))]), (ap t6 ([r24.1] : List Int)), t7, t26, (wr .i64 (t27 + 1)), ()), (b2, ()))))
 none)
 none)
 none))
 (some (.inl (((), t5, t6, t7, t26, (wr .i64 (t27 + 1)), ()), (b2, ()))))))
 (some (.inr (.inl (((), t5, t6, ()), (b2, ()))))))
def Zt := Gb fun x : ((Unit × (HG × (We × Lb))) × Fk) => Pz x.1.1 x.1.2.1 x.1.2.2.1 x.1.2.2.2.1 x.1.2.2.2.2.1 x.1.2.2.2.2.2.1 x.2.1
def BF (t2 : Unit) (t5 : HG) (t6 : We) (b2 : Ha) : Option (S2 ⊕ (((HG × Unit) × Unit) ⊕ Jg)) :=
 (cond (decide (((ln t6 : Nat) : Int) > 0))
 (cond (Qd (ln t6) 0)
 (ob t6[(tn 0)]? fun x19 =>
 (cond (Jd (ln t6) 1 ((ln t6 : Nat) : Int))
 (ob (Zt (((), t5, (Xa t6 (tn 1) (tn ((ln t6 : Nat) : Int))), x19, b2.1, 0, ()), (b2, ()))) (se (fun y26 => (some (.inl (((), y26.1.2.1, y26.1.2.2.1, ()), (y26.2.1, ()))))) (fun z27 => (some (.inr (.inr ((), ())))))))
 none))
 none)
 (some (.inr (.inl ((t5, ()), ())))))
def Xn := Gb fun x : S2 => BF x.1.1 x.1.2.1 x.1.2.2.1 x.2.1
def ZI (a0 : Ha) (a1 : Int) : Option (HG × Unit) :=
 (cond (Option.isNone (Bd ([] : HG) a1))
 (ob (Xn (((), (ap ([] : HG) [(a1, [])]), ([a1] : List Int), ()), (a0, ()))) (se (fun y28 => (some (y28.1.1, ()))) (fun z29 => none)))
 none)
def Gi (a0 : Ha) (a1 : Int) (a2 : Int) : Option V1 :=
 (ob (Pg a0 a1) fun r1 =>
 (cond (!r1.1)
 (some ([], false, ()))
 (ob (Pg a0 a2) fun r2 =>
 (cond (!r2.1)
 (some ([], false, ()))
 (ob (ZI a0 a1) fun r3 =>
 (some (((Bd r3.1 a2).getD []), (Bd r3.1 a2).isSome, ())))))))
def ZH (a0 : Wa) : Option Fe :=
 (ob (Oc a0.1 0 1000000) fun r1 =>
 (cond r1.1
 (ob (Oc a0.2.1 0 31) fun r2 =>
 (some (r2.1, ())))
 (some (false, ()))))
def No (t0 : Jq) (t1 : Int) (t2 : Int) (t3 : Int) (t9 : Int) : Option (((Jq × Ga) × Unit) ⊕ ((Waz × Unit) ⊕ Et)) :=
 (cond (decide (t9 < ((ln t0 : Nat) : Int)))
 (ob (Hc t0 t9) fun x17 =>
 (ob (ZH x17) fun r18 =>
 (cond (!r18.1)
 (some (.inr (.inr ((false, ()), ()))))
 (ob (Hc t0 t9) fun x19 =>
 (cond (decide (x19.2.1 ≥ t2))
 (some (.inr (.inr ((false, ()), ()))))
 (ob (Hc t0 t9) fun x20 =>
 (cond (decide (x20.1 < t3))
 (some (.inr (.inr ((false, ()), ()))))
 (ob (Hc t0 t9) fun x21 =>
 (ob (Hc t0 t9) fun x22 =>
 (cond (decide (0 ≤ x22.2.1))
 (cond (x21.2.2.1 == ((Cl .i64 (Bu .i64 t1 x22.2.1) 1) == 1))
 (some (.inr (.inr ((false, ()), ()))))
 (ob (Hc t0 t9) fun x23 =>
 (ob (Hc t0 t9) fun x24 =>
 (cond (decide (0 ≤ x24.2.1))
 (some (.inl ((t0, (Yn .i64 t1 (Ke .i64 1 x24.2.1)), t2, x23.1, (wr .i64 (t9 + 1)), ()), ())))
 none))))
 none))))))))))
 (some (.inr (.inl ((t0, ()), ())))))
def Dz := Gb fun x : ((Jq × Ga) × Unit) => No x.1.1 x.1.2.1 x.1.2.2.1 x.1.2.2.2.1 x.1.2.2.2.2.1
def TB (a0 : Jq) (a1 : Int) (a2 : Int) (a3 : Int) : Option Fe :=
 (ob (Dz ((a0, a1, a2, a3, 0, ()), ())) (se (fun y25 => (some ((decide (((ln y25.1.1 : Nat) : Int) ≤ 64)), ()))) (fun z26 => (some (z26.1.1, ())))))
def GF (a0 : Lb) : Option Fe :=
 (ob (Oc a0.1 1 1000) fun r1 =>
 (cond r1.1
 (ob (Oc a0.2.1 0 1000) fun r2 =>
 (cond r2.1
 (ob (Oc a0.2.2.1 0 2) fun r3 =>
 (some (r3.1, ())))
 (some (false, ()))))
 (some (false, ()))))
def NR (a0 : Int) : Option Zi :=
 (ob (Oc a0 0 31) fun r1 =>
 (cond (!r1.1)
 (some (0, ()))
 (cond (decide (0 ≤ a0))
 (some ((Ke .i64 1 a0), ()))
 none)))
def Gu (t1 : Unit) (t3 : Int) (t4 : Int) (b1 : Qb) : Option ((H1 × Ct) ⊕ Tab) :=
 (cond (decide (t4 < ((ln b1.2.2.2.1 : Nat) : Int)))
 (ob (Hc b1.2.2.2.1 t4) fun x5 =>
 (ob (NR x5.1) fun r6 =>
 (some (.inl (((), (Xe .i64 t3 r6.1), (wr .i64 (t4 + 1)), ()), (b1, ()))))))
 (some (.inr (.inl ((t3, ()), ())))))
def GC := Gb fun x : (H1 × Ct) => Gu x.1.1 x.1.2.1 x.1.2.2.1 x.2.1
def DI (a0 : Qb) : Option Zi :=
 (ob (GC (((), 0, 0, ()), (a0, ()))) (se (fun y7 => (some (y7.1.1, ()))) (fun z8 => none)))
def CD (a0 : Ib) : Option Fe :=
 (ob (EF a0.1) fun r1 =>
 (cond (!r1.1)
 (some (false, ()))
 (ob (GF a0.2.1) fun r2 =>
 (cond (!r2.1)
 (some (false, ()))
 (ob (Oc a0.2.2.2.1 0 1000000) fun r3 =>
 (cond (!r3.1)
 (some (false, ()))
 (ob (Oc a0.2.2.2.2.1 0 a0.2.2.2.1) fun r4 =>
 (cond (!r4.1)
 (some (false, ()))
 (ob (DI a0.1) fun r5 =>
 (ob (TB a0.2.2.1 r5.1 a0.1.1.1 0) fun r6 =>
 (cond (!r6.1)
 (some (false, ()))
 (cond (decide (((ln a0.2.2.1 : Nat) : Int) > 0))
 (ob (Hc a0.2.2.1 (wr .i64 (((ln a0.2.2.1 : Nat) : Int) - 1))) fun x7 =>
 (cond (decide (x7.1 > a0.2.2.2.1))
 (some (false, ()))
 (ob (Oc a0.2.2.2.2.2.1 0 a0.1.1.1) fun r8 =>
 (cond r8.1
 (ob (Oc a0.2.2.2.2.2.2.1 0 a0.2.2.2.1) fun r9 =>
 (some (r9.1, ())))
 (some (false, ()))))))
 (ob (Oc a0.2.2.2.2.2.1 0 a0.1.1.1) fun r10 =>
 (cond r10.1
 (ob (Oc a0.2.2.2.2.2.2.1 0 a0.2.2.2.1) fun r11 =>
 (some (r11.1, ())))
 (some (false, ()))))))))))))))))
def Pr (t1 : Unit) (t3 : Int) (b1 : Ca) : Option ((Dt × Fo) ⊕ ((Jg × Fo) ⊕ Et)) :=
 (cond (decide (t3 < ((ln b1.2.1 : Nat) : Int)))
 (ob (Hc b1.2.1 t3) fun x9 =>
 (ob (Oc x9 1 56) fun r10 =>
 (cond (!r10.1)
 (some (.inr (.inr ((false, ()), ()))))
 (cond (decide (t3 > 0))
 (ob (Hc b1.2.1 (wr .i64 (t3 - 1))) fun x11 =>
 (ob (Hc b1.2.1 t3) fun x12 =>
 (cond (decide (x11 ≥ x12))
 (some (.inr (.inr ((false, ()), ()))))
 (some (.inl (((), (wr .i64 (t3 + 1)), ()), (b1, ())))))))
 (some (.inl (((), (wr .i64 (t3 + 1)), ()), (b1, ()))))))))
 (some (.inr (.inl (((), ()), (b1, ()))))))
def SB := Gb fun x : (Dt × Fo) => Pr x.1.1 x.1.2.1 x.2.1
def FF (a0 : Ca) : Option Fe :=
 (ob (SB (((), 0, ()), (a0, ()))) (se (fun y13 => (ob (Oc y13.2.1.1 0 15) fun r15 =>
 (some (r15.1, ())))) (fun z14 => (some (z14.1.1, ())))))
def strconv_Itoa (a : Int) : Option (List UInt8 × Unit) := EQ a
def Fg (a0 : Int) : Option Yg :=
 (ob (strconv_Itoa a0) fun r1 =>
 (some (r1.1, ())))
def Io (t3 : Dd) (t9 : Ar) (t10 : Int) (t11 : Int) : Option (((Dd × LI) × Unit) ⊕ TP) :=
 (cond (decide (t11 < t10))
 (ob (Hc t9 t11) fun x10 =>
 (ob (Fg x10.1) fun r11 =>
 (cond (bl (ln r11.1 + ln ([32] : List UInt8)) Oa)
 (ob (Fm x10.2.1) fun r12 =>
 (cond (bl (ln (ap r11.1 ([32] : List UInt8)) + ln r12.1) Oa)
 (cond (bl (ln t3 + ln ([(ap (ap r11.1 ([32] : List UInt8)) r12.1)] : List Ac)) Oa)
 (some (.inl (((ap t3 ([(ap (ap r11.1 ([32] : List UInt8)) r12.1)] : List Ac)), t9, t10, (wr .i64 (t11 + 1)), ()), ())))
 none)
 none))
 none)))
 (some (.inr (.inl ((t3, ()), ())))))
def Nq := Gb fun x : ((Dd × LI) × Unit) => Io x.1.1 x.1.2.1 x.1.2.2.1 x.1.2.2.2.1
def Jl (a0 : Ar) : Option Yg :=
 (cond (((ln a0 : Nat) : Int) == 0)
 (some (([45] : List UInt8), ()))
 (ob (Nq (([], a0, ((ln a0 : Nat) : Int), 0, ()), ())) (se (fun y13 => (ob (Qf y13.1.1 ([59, 32] : List UInt8)) fun r15 =>
 (some (r15.1, ())))) (fun z14 => none))))
def Gq (t1 : Unit) (t3 : Int) (b1 : Sa) : Option ((Dt × ND) ⊕ ((Jg × ND) ⊕ Et)) :=
 (cond (decide (t3 < ((ln b1.2.1 : Nat) : Int)))
 (ob (Hc b1.2.1 t3) fun x9 =>
 (ob (Oc x9.1 0 1000000) fun r10 =>
 (cond (!r10.1)
 (some (.inr (.inr ((false, ()), ()))))
 (ob (Hc b1.2.1 t3) fun x11 =>
 (ob (FF x11.2.1) fun r12 =>
 (cond (!r12.1)
 (some (.inr (.inr ((false, ()), ()))))
 (some (.inl (((), (wr .i64 (t3 + 1)), ()), (b1, ()))))))))))
 (some (.inr (.inl (((), ()), (b1, ()))))))
def TA := Gb fun x : (Dt × ND) => Gq x.1.1 x.1.2.1 x.2.1
def LL (a0 : Sa) : Option Fe :=
 (ob (TA (((), 0, ()), (a0, ()))) (se (fun y13 => (ob (CD y13.2.1.1) fun r15 =>
 (cond r15.1
 (some ((decide (((ln y13.2.1.2.1 : Nat) : Int) ≤ 200)), ()))
 (some (false, ()))))) (fun z14 => (some (z14.1.1, ())))))
def Mp (t16 : Ar) (t17 : Int) (t18 : Int) : Option ((LI × Unit) ⊕ RL) :=
 (cond (decide (t18 < t17))
 (ob (Hc t16 t18) fun x6 =>
 (cond (decide (x6.1 < 0))
 (some (.inr (.inr ((false, ()), ()))))
 (cond (decide (x6.1 > 1000000))
 (some (.inr (.inr ((false, ()), ()))))
 (ob (Wl x6.2.1) fun r7 =>
 (cond (!r7.1)
 (some (.inr (.inr ((false, ()), ()))))
 (some (.inl ((t16, t17, (wr .i64 (t18 + 1)), ()), ()))))))))
 (some (.inr (.inl ((), ())))))
def Xr := Gb fun x : (LI × Unit) => Mp x.1.1 x.1.2.1 x.1.2.2.1
def Wr (a0 : Sa) : Option Fe :=
 (ob (Bn a0.1) fun r1 =>
 (cond (!r1.1)
 (some (false, ()))
 (cond (decide (((ln a0.2.1 : Nat) : Int) > 200))
 (some (false, ()))
 (ob (Xr ((a0.2.1, ((ln a0.2.1 : Nat) : Int), 0, ()), ())) (se (fun y8 => (some (true, ()))) (fun z9 => (some (z9.1.1, ()))))))))
def Ox (a0 : Ib) (a1 : Wa) : Option (Ib × Yab) :=
 (ob (Pp a0 ([a1] : List Wa) a1.1) fun r1 =>
 (some r1))
def Tx (a0 : Ib) (a1 : Int) : Option (Ib × Yab) :=
 (ob (Pp a0 [] a1) fun r1 =>
 (some r1))
def Sp (t0 : Ac) (t1 : Int) (t5 : Dd) (t6 : Int) (t7 : Int) : Option (U1 ⊕ (((Ac × N1) × Unit) ⊕ Jg)) :=
 (cond (decide (t7 < ((ln t0 : Nat) : Int)))
 (ob (Hc t0 t7) fun c4 =>
 (cond (((UInt8.toNat c4 : Nat) : Int) == t1)
 (cond (Jd (ln t0) t6 t7)
 (cond (bl (ln t5 + ln ([(Xa t0 (tn t6) (tn t7))] : List Ac)) Oa)
 (some (.inl ((t0, t1, (ap t5 ([(Xa t0 (tn t6) (tn t7))] : List Ac)), (wr .i64 (t7 + 1)), (wr .i64 (t7 + 1)), ()), ())))
 none)
 none)
 (some (.inl ((t0, t1, t5, t6, (wr .i64 (t7 + 1)), ()), ())))))
 (some (.inr (.inl ((t0, t5, t6, ()), ())))))
def Si := Gb fun x : U1 => Sp x.1.1 x.1.2.1 x.1.2.2.1 x.1.2.2.2.1 x.1.2.2.2.2.1
def Ik (a0 : Ac) (a1 : Int) : Option KI :=
 (ob (Si ((a0, a1, [], 0, 0, ()), ())) (se (fun y5 => (cond (Jd (ln y5.1.1) y5.1.2.2.1 ((ln y5.1.1 : Nat) : Int))
 (cond (bl (ln y5.1.2.1 + ln ([(Xa y5.1.1 (tn y5.1.2.2.1) (tn ((ln y5.1.1 : Nat) : Int)))] : List Ac)) Oa)
 (some ((ap y5.1.2.1 ([(Xa y5.1.1 (tn y5.1.2.2.1) (tn ((ln y5.1.1 : Nat) : Int)))] : List Ac)), ()))
 none)
 none)) (fun z6 => none)))
def Vk (a0 : Int) : Option Yg :=
 (cond (a0 == 3)
 (some (([109, 111, 58] : List UInt8), ()))
 (cond (a0 == 4)
 (some (([116, 103, 58] : List UInt8), ()))
 (cond (a0 == 5)
 (some (([116, 111, 58] : List UInt8), ()))
 (cond (a0 == 9)
 (some (Lh, ()))
 (some ([], ()))))))
def Vs (a0 : Ac) (a1 : Ac) : Option Fe :=
 (cond (decide (((ln a0 : Nat) : Int) ≥ ((ln a1 : Nat) : Int)))
 (cond (Jd (ln a0) 0 ((ln a1 : Nat) : Int))
 (some (((Xa a0 (tn 0) (tn ((ln a1 : Nat) : Int))) == a1), ()))
 none)
 (some (false, ())))
def Us (a0 : Ac) (a1 : Ac) : Option (Ac × Fe) :=
 (ob (Vs a0 a1) fun r1 =>
 (cond (!r1.1)
 (some (a0, false, ()))
 (cond (Jd (ln a0) ((ln a1 : Nat) : Int) ((ln a0 : Nat) : Int))
 (some ((Xa a0 (tn ((ln a1 : Nat) : Int)) (tn ((ln a0 : Nat) : Int))), true, ()))
 none)))
def Xh (a0 : Ac) (a1 : Ac) : Option (Ac × Fe) :=
 (ob (Us a0 a1) fun r1 =>
 (some r1))
def Xo (a : List UInt8) : Option Uab := Tad a
def Np (t0 : Ac) (t3 : Int) : Option ((GU × Unit) ⊕ QL) :=
 (cond (decide (t3 ≤ 15))
 (ob (Yh t3) fun r3 =>
 (cond (r3.1 == t0)
 (some (.inr (.inr ((t3, ()), ()))))
 (some (.inl ((t0, (wr .i64 (t3 + 1)), ()), ())))))
 (some (.inr (.inl ((), ())))))
def Ri := Gb fun x : (GU × Unit) => Np x.1.1 x.1.2.1
def Dn (a0 : Ac) : Option Zi :=
 (ob (Ri ((a0, 1, ()), ())) (se (fun y4 => (some (0, ()))) (fun z5 => (some (z5.1.1, ())))))
def strings_Cut (a b : List UInt8) : Option (List UInt8 × (List UInt8 × Fe)) := Mac a b
def Jv (t0 : Ac) (t5 : Dd) (t6 : Int) (t7 : Int) : Option (((Ac × Ft) × Unit) ⊕ QL) :=
 (cond (decide (t7 < t6))
 (cond (Qd (ln t5) t7)
 (ob t5[(tn t7)]? fun x4 =>
 (cond (x4 == t0)
 (some (.inr (.inr (((wr .i64 (t7 + 1)), ()), ()))))
 (some (.inl ((t0, t5, t6, (wr .i64 (t7 + 1)), ()), ())))))
 none)
 (some (.inr (.inl ((), ())))))
def Dl := Gb fun x : ((Ac × Ft) × Unit) => Jv x.1.1 x.1.2.1 x.1.2.2.1 x.1.2.2.2.1
def Lq (a0 : Ac) : Option Zi :=
 (ob (strings_Split Vz ([32] : List UInt8)) fun r1 =>
 (ob (Dl ((a0, r1.1, ((ln r1.1 : Nat) : Int), 0, ()), ())) (se (fun y5 => (some (0, ()))) (fun z6 => (some (z6.1.1, ()))))))
def Qm (t0 : Ac) (t2 : Unit) (t29 : We) (t30 : Int) (t31 : Int) (b2 : Ga) : Option (((Ac × S1) × Iz) ⊕ (((Ac × Jg) × Iz) ⊕ (Jg × Iz))) :=
 (cond (decide (t31 < t30))
 (cond (Qd (ln t29) t31)
 (ob t29[(tn t31)]? fun x9 =>
 (ob (Vk x9) fun r10 =>
 (ob (Xh t0 r10.1) fun r11 =>
 (cond r11.2.1
 (ob (Xo r11.1) fun r12 =>
 (some (.inr (.inr (((), ()), ((x9, 0, 0, r12.1, ()), ()))))))
 (some (.inl ((t0, (), t29, t30, (wr .i64 (t31 + 1)), ()), (b2, ()))))))))
 none)
 (some (.inr (.inl ((t0, (), ()), (b2, ()))))))
def Vo := Gb fun x : ((Ac × S1) × Iz) => Qm x.1.1 x.1.2.1 x.1.2.2.1 x.1.2.2.2.1 x.1.2.2.2.2.1 x.2.1
def Vt (a0 : Ac) : Option Iz :=
 (cond (a0 == Eo)
 (some ((0, 0, 0, 0, ()), ()))
 (cond (a0 == Co)
 (some ((1, 0, 0, 0, ()), ()))
 (cond (a0 == Cm)
 (some ((10, 0, 0, 0, ()), ()))
 (ob (Vo ((a0, (), ([3, 4, 5, 9] : List Int), ((ln ([3, 4, 5, 9] : List Int) : Nat) : Int), 0, ()), ((0, 0, 0, 0, ()), ()))) (se (fun y13 => (ob (Xh y13.1.1 Gf) fun r15 =>
 (cond r15.2.1
 (ob (Dn r15.1) fun r16 =>
 (some ((8, 0, r16.1, 0, ()), ())))
 (ob (strings_Cut y13.1.1 ([47] : List UInt8)) fun r17 =>
 (cond r17.2.2.1
 (ob (Xo r17.1) fun r18 =>
 (cond r18.2.1
 (ob (Lq r17.2.1) fun r19 =>
 (some ((7, r19.1, 0, r18.1, ()), ())))
 (ob (Dn r17.1) fun r20 =>
 (ob (Lq r17.2.1) fun r21 =>
 (some ((6, r21.1, r20.1, 0, ()), ()))))))
 (ob (strings_Cut y13.1.1 ([45] : List UInt8)) fun r22 =>
 (cond r22.2.2.1
 (ob (Dn r22.1) fun r23 =>
 (ob (Lq r22.2.1) fun r24 =>
 (some ((2, r24.1, r23.1, 0, ()), ()))))
 (ob (Lq y13.1.1) fun r25 =>
 (some ((2, r25.1, 0, 0, ()), ())))))))))) (fun z14 => (some (z14.2.1, ()))))))))
def Nj (a0 : Ga) : Option Yg :=
 (ob (Jh a0) fun r1 =>
 (cond (!r1.1)
 (some ([], ()))
 (cond (a0.1 == 0)
 (some (Eo, ()))
 (cond (a0.1 == 1)
 (some (Co, ()))
 (cond (a0.1 == 10)
 (some (Cm, ()))
 (cond (a0.1 == 2)
 (cond (a0.2.2.1 != 0)
 (ob (Yh a0.2.2.1) fun r2 =>
 (cond (bl (ln r2.1 + ln ([45] : List UInt8)) Oa)
 (ob (Dc a0.2.1) fun r3 =>
 (cond (bl (ln (ap r2.1 ([45] : List UInt8)) + ln r3.1) Oa)
 (some ((ap (ap r2.1 ([45] : List UInt8)) r3.1), ()))
 none))
 none))
 (ob (Dc a0.2.1) fun r4 =>
 (some (r4.1, ()))))
 (cond (a0.1 == 6)
 (ob (Yh a0.2.2.1) fun r5 =>
 (cond (bl (ln r5.1 + ln ([47] : List UInt8)) Oa)
 (ob (Dc a0.2.1) fun r6 =>
 (cond (bl (ln (ap r5.1 ([47] : List UInt8)) + ln r6.1) Oa)
 (some ((ap (ap r5.1 ([47] : List UInt8)) r6.1), ()))
 none))
 none))
 (cond (a0.1 == 7)
 (ob (Fg a0.2.2.2.1) fun r7 =>
 (cond (bl (ln r7.1 + ln ([47] : List UInt8)) Oa)
 (ob (Dc a0.2.1) fun r8 =>
 (cond (bl (ln (ap r7.1 ([47] : List UInt8)) + ln r8.1) Oa)
 (some ((ap (ap r7.1 ([47] : List UInt8)) r8.1), ()))
 none))
 none))
 (cond (a0.1 == 8)
 (ob (Yh a0.2.2.1) fun r9 =>
 (cond (bl (ln Gf + ln r9.1) Oa)
 (some ((ap Gf r9.1), ()))
 none))
 (ob (Vk a0.1) fun r10 =>
 (ob (Fg a0.2.2.2.1) fun r11 =>
 (cond (bl (ln r10.1 + ln r11.1) Oa)
 (some ((ap r10.1 r11.1), ()))
 none))))))))))))
def Un (a0 : Ac) : Option (Ga × Fe) :=
 (ob (Vt a0) fun r1 =>
 (ob (Jh r1.1) fun r2 =>
 (cond (!r2.1)
 (some ((0, 0, 0, 0, ()), false, ()))
 (ob (Nj r1.1) fun r3 =>
 (cond (r3.1 != a0)
 (some ((0, 0, 0, 0, ()), false, ()))
 (some (r1.1, true, ())))))))
def Hl (t3 : Dd) (t6 : Dd) (t13 : (List Ck)) (t14 : Int) (t15 : Int) (t19 : Ck) (t20 : Int) (t21 : Int) : Option (((Dd × (Dd × K1)) × Unit) ⊕ (((Dd × (Dd × JI)) × Unit) ⊕ Jg)) :=
 (cond (decide (t21 < t20))
 (ob (Hc t19 t21) fun x39 =>
 (ob (Nj x39) fun r40 =>
 (cond (bl (ln t6 + ln ([r40.1] : List Ac)) Oa)
 (some (.inl ((t3, (ap t6 ([r40.1] : List Ac)), t13, t14, t15, t19, t20, (wr .i64 (t21 + 1)), ()), ())))
 none)))
 (some (.inr (.inl ((t3, t6, t13, t14, t15, ()), ())))))
def Pn := Gb fun x : ((Dd × (Dd × K1)) × Unit) => Hl x.1.1 x.1.2.1 x.1.2.2.1 x.1.2.2.2.1 x.1.2.2.2.2.1 x.1.2.2.2.2.2.1 x.1.2.2.2.2.2.2.1 x.1.2.2.2.2.2.2.2.1
def Gl (t3 : Dd) (t13 : (List Ck)) (t14 : Int) (t15 : Int) : Option (((Dd × JI) × Unit) ⊕ TP) :=
 (cond (decide (t15 < t14))
 (ob (Hc t13 t15) fun x34 =>
 (ob (Pn ((t3, [], t13, t14, t15, x34, ((ln x34 : Nat) : Int), 0, ()), ())) (se (fun y41 => (ob (Qf y41.1.2.1 ([32] : List UInt8)) fun r43 =>
 (cond (bl (ln y41.1.1 + ln ([r43.1] : List Ac)) Oa)
 (some (.inl (((ap y41.1.1 ([r43.1] : List Ac)), y41.1.2.2.1, y41.1.2.2.2.1, (wr .i64 (y41.1.2.2.2.2.1 + 1)), ()), ())))
 none))) (fun z42 => (some (.inr (.inr ((), ()))))))))
 (some (.inr (.inl ((t3, ()), ())))))
def On := Gb fun x : ((Dd × JI) × Unit) => Gl x.1.1 x.1.2.1 x.1.2.2.1 x.1.2.2.2.1
def Em (a0 : Ha) : Option Yg :=
 (ob (Rj a0) fun r1 =>
 (cond (!r1.1)
 (some ([], ()))
 (ob (On (([], a0.2.1, ((ln a0.2.1 : Nat) : Int), 0, ()), ())) (se (fun y44 => (ob (Qf y44.1.1 ([32, 124, 32] : List UInt8)) fun r46 =>
 (some (r46.1, ())))) (fun z45 => none)))))
def Om (t0 : Ac) (t2 : Unit) (t4 : Unit) (t7 : Ck) (t13 : Dd) (t14 : Int) (t15 : Int) (t20 : Dd) (t21 : Int) (t22 : Int) (b2 : Ha) (b4 : Ha) : Option (Yan ⊕ (((Ac × (Unit × (Unit × (Ck × Ft)))) × GG) ⊕ ((Unit × Fe) × Fk))) :=
 (cond (decide (t22 < t21))
 (cond (Qd (ln t20) t22)
 (ob t20[(tn t22)]? fun x40 =>
 (ob (Un x40) fun r41 =>
 (cond (!r41.2.1)
 (some (.inr (.inr (((), false, ()), ((0, [], ()), ())))))
 (cond (decide (((ln t7 : Nat) : Int) ≥ 32))
 (some (.inr (.inr (((), false, ()), ((0, [], ()), ())))))
 (cond (decide (((ln b4.2.1 : Nat) : Int) ≥ 4))
 (some (.inr (.inr (((), false, ()), ((0, [], ()), ())))))
 (cond (bl (ln t7 + ln ([r41.1] : List Ga)) Oa)
 (some (.inl ((t0, (), (), (ap t7 ([r41.1] : List Ga)), t13, t14, t15, t20, t21, (wr .i64 (t22 + 1)), ()), (b2, b4, ()))))
 none))))))
 none)
 (some (.inr (.inl ((t0, (), (), t7, t13, t14, t15, ()), (b2, b4, ()))))))
def To := Gb fun x : Yan => Om x.1.1 x.1.2.1 x.1.2.2.1 x.1.2.2.2.1 x.1.2.2.2.2.1 x.1.2.2.2.2.2.1 x.1.2.2.2.2.2.2.1 x.1.2.2.2.2.2.2.2.1 x.1.2.2.2.2.2.2.2.2.1 x.1.2.2.2.2.2.2.2.2.2.1 x.2.1 x.2.2.1
def Nm (t0 : Ac) (t2 : Unit) (t4 : Unit) (t13 : Dd) (t14 : Int) (t15 : Int) (b2 : Ha) (b4 : Ha) : Option (((Ac × (Unit × (Unit × Ft))) × GG) ⊕ (((Ac × M1) × GG) ⊕ ((Unit × Fe) × Fk))) :=
 (cond (decide (t15 < t14))
 (cond (Qd (ln t13) t15)
 (ob t13[(tn t15)]? fun x34 =>
 (ob (Ik x34 32) fun r35 =>
 (ob (To ((t0, (), (), [], t13, t14, t15, r35.1, ((ln r35.1 : Nat) : Int), 0, ()), (b2, b4, ()))) (se (fun y42 => (cond (bl (ln y42.2.2.1.2.1 + ln ([y42.1.2.2.2.1] : List Ck)) Oa)
 (some (.inl ((y42.1.1, (), (), y42.1.2.2.2.2.1, y42.1.2.2.2.2.2.1, (wr .i64 (y42.1.2.2.2.2.2.2.1 + 1)), ()), (y42.2.1, (((ln y42.1.2.2.2.1 : Nat) : Int), (ap y42.2.2.1.2.1 ([y42.1.2.2.2.1] : List Ck)), ()), ()))))
 none)) (fun z43 => (some (.inr (.inr (((), z43.1.2.1, ()), (z43.2.1, ()))))))))))
 none)
 (some (.inr (.inl ((t0, (), (), ()), (b2, b4, ()))))))
def So := Gb fun x : ((Ac × (Unit × (Unit × Ft))) × GG) => Nm x.1.1 x.1.2.1 x.1.2.2.1 x.1.2.2.2.1 x.1.2.2.2.2.1 x.1.2.2.2.2.2.1 x.2.1 x.2.2.1
def Vn (a0 : Ac) : Option (Ha × Fe) :=
 (ob (strings_Split a0 ([32, 124, 32] : List UInt8)) fun r1 =>
 (ob (So ((a0, (), (), r1.1, ((ln r1.1 : Nat) : Int), 0, ()), ((0, [], ()), (0, [], ()), ()))) (se (fun y44 => (ob (Rj y44.2.2.1) fun r46 =>
 (cond (!r46.1)
 (some ((0, [], ()), false, ()))
 (ob (Em y44.2.2.1) fun r47 =>
 (cond (r47.1 != y44.1.1)
 (some ((0, [], ()), false, ()))
 (some (y44.2.2.1, true, ()))))))) (fun z45 => (some (z45.2.1, z45.1.2.1, ()))))))
def Ij (a0 : Ha) (a1 : Fv) (a2 : Lb) : Option (Sa × Fe) :=
 (ob (Qx a0 a1) fun r1 =>
 (cond (!r1.2.1)
 (some (Lx, false, ()))
 (ob (Ov r1.1 a2) fun r2 =>
 (some ((r2.1, [], ()), r2.2.1, ())))))
def Fj : Option ND :=
 (ob (Vn Ru) fun r1 =>
 (ob (Ij r1.1 [] (200, 0, 0, ())) fun r2 =>
 (some (r2.1, ()))))
def Jp (t3 : We) (t9 : We) (t10 : Int) (t11 : Int) : Option (Pae ⊕ Q1) :=
 (cond (decide (t11 < t10))
 (ob (Hc t9 t11) fun x10 =>
 (cond (decide ((0 : Int) ≤ 4))
 (ob (Hc Re (Bu .u8 x10 4)) fun c11 =>
 (ob (Hc Re (Cl .u8 x10 15)) fun c12 =>
 (cond (bl (ln t3 + ln ([((UInt8.toNat c11 : Nat) : Int), ((UInt8.toNat c12 : Nat) : Int)] : List Int)) Oa)
 (some (.inl (((ap t3 ([((UInt8.toNat c11 : Nat) : Int), ((UInt8.toNat c12 : Nat) : Int)] : List Int)), t9, t10, (wr .i64 (t11 + 1)), ()), ())))
 none)))
 none))
 (some (.inr (.inl ((t3, ()), ())))))
def Vr := Gb fun x : Pae => Jp x.1.1 x.1.2.1 x.1.2.2.1 x.1.2.2.2.1
def An (a0 : We) : Option Yg :=
 (cond (decide (((ln a0 : Nat) : Int) > 2000))
 (some ([], ()))
 (ob (Vr (([], a0, ((ln a0 : Nat) : Int), 0, ()), ())) (se (fun y13 => (some ((Po y13.1.1), ()))) (fun z14 => none))))
def Ql (t1 : Unit) (t3 : Dd) (t4 : Int) (t5 : Dd) (t6 : Int) (b1 : Ha) : Option (((Unit × (Dd × (Int × N1))) × Fk) ⊕ (((Unit × (Dd × (Int × KI))) × Fk) ⊕ Jg)) :=
 (cond (decide (t6 < b1.1))
 (ob (Hc b1.2.1 t4) fun x34 =>
 (ob (Hc x34 t6) fun x35 =>
 (ob (Kr x35) fun r36 =>
 (cond (bl (ln t5 + ln ([r36.1] : List Ac)) Oa)
 (some (.inl (((), t3, t4, (ap t5 ([r36.1] : List Ac)), (wr .i64 (t6 + 1)), ()), (b1, ()))))
 none))))
 (some (.inr (.inl (((), t3, t4, t5, ()), (b1, ()))))))
def Lj := Gb fun x : ((Unit × (Dd × (Int × N1))) × Fk) => Ql x.1.1 x.1.2.1 x.1.2.2.1 x.1.2.2.2.1 x.1.2.2.2.2.1 x.2.1
def Vi (t1 : Unit) (t3 : Dd) (t4 : Int) (b1 : Ha) : Option ((CU × Fk) ⊕ TP) :=
 (cond (decide (t4 < ((ln b1.2.1 : Nat) : Int)))
 (ob (Am b1) fun r27 =>
 (cond r27.1
 (ob (Lj (((), t3, t4, [], 0, ()), (b1, ()))) (se (fun y37 => (ob (Zo y37.1.2.2.2.1 ([32] : List UInt8)) fun r39 =>
 (cond (bl (ln y37.1.2.1 + ln ([r39.1] : List Ac)) Oa)
 (some (.inl (((), (ap y37.1.2.1 ([r39.1] : List Ac)), (wr .i64 (y37.1.2.2.1 + 1)), ()), (y37.2.1, ()))))
 none))) (fun z38 => (some (.inr (.inr ((), ())))))))
 (some (.inr (.inl ((t3, ()), ()))))))
 (some (.inr (.inl ((t3, ()), ())))))
def Ih := Gb fun x : (CU × Fk) => Vi x.1.1 x.1.2.1 x.1.2.2.1 x.2.1
def Lr (a0 : Ha) : Option Yg :=
 (ob (Ih (((), [], 0, ()), (a0, ()))) (se (fun y40 => (ob (Zo y40.1.1 ([32, 124, 32] : List UInt8)) fun r42 =>
 (some (r42.1, ())))) (fun z41 => none)))
def UB (a0 : Zb) : Option (Zb × Yg) :=
 (ob (Vb a0 9) fun r1 =>
 (ob (Ug (wr .i64 (r1.2.1 * 60))) fun r2 =>
 (ob (Vb r1.1 7) fun r3 =>
 (ob (Ug r3.2.1) fun r4 =>
 (ob (Vb r3.1 12) fun r5 =>
 (cond (r5.2.1 == 0)
 (cond (bl (ln Ee + ln r4.1) Oa)
 (cond (bl (ln (ap Ee r4.1) + ln ([32] : List UInt8)) Oa)
 (cond (bl (ln (ap (ap Ee r4.1) ([32] : List UInt8)) + ln r2.1) Oa)
 (some (r5.1, ((ap (ap (ap Ee r4.1) ([32] : List UInt8)) r2.1), ())))
 none)
 none)
 none)
 (cond (r5.2.1 == 1)
 (cond (bl (ln Ee + ln r4.1) Oa)
 (cond (bl (ln (ap Ee r4.1) + ln ([32] : List UInt8)) Oa)
 (cond (bl (ln (ap (ap Ee r4.1) ([32] : List UInt8)) + ln r2.1) Oa)
 (some (r5.1, ((ap (ap (ap Ee r4.1) ([32] : List UInt8)) r2.1), ())))
 none)
 none)
 none)
 (cond (r5.2.1 == 2)
 (cond (bl (ln Ee + ln r4.1) Oa)
 (cond (bl (ln (ap Ee r4.1) + ln ([32] : List UInt8)) Oa)
 (cond (bl (ln (ap (ap Ee r4.1) ([32] : List UInt8)) + ln r2.1) Oa)
 (some (r5.1, ((ap (ap (ap Ee r4.1) ([32] : List UInt8)) r2.1), ())))
 none)
 none)
 none)
 (cond (r5.2.1 == 3)
 (cond (bl (ln Ee + ln r4.1) Oa)
 (cond (bl (ln (ap Ee r4.1) + ln ([32] : List UInt8)) Oa)
 (cond (bl (ln (ap (ap Ee r4.1) ([32] : List UInt8)) + ln r2.1) Oa)
 (some (r5.1, ((ap (ap (ap Ee r4.1) ([32] : List UInt8)) r2.1), ())))
 none)
 none)
 none)
 (cond (r5.2.1 == 4)
 (cond (bl (ln ([117, 112, 32] : List UInt8) + ln r4.1) Oa)
 (cond (bl (ln (ap ([117, 112, 32] : List UInt8) r4.1) + ln ([32] : List UInt8)) Oa)
 (cond (bl (ln (ap (ap ([117, 112, 32] : List UInt8) r4.1) ([32] : List UInt8)) + ln r2.1) Oa)
 (some (r5.1, ((ap (ap (ap ([117, 112, 32] : List UInt8) r4.1) ([32] : List UInt8)) r2.1), ())))
 none)
 none)
 none)
 (cond (r5.2.1 == 5)
 (cond (bl (ln ([117, 112, 32] : List UInt8) + ln r4.1) Oa)
 (cond (bl (ln (ap ([117, 112, 32] : List UInt8) r4.1) + ln ([32] : List UInt8)) Oa)
 (cond (bl (ln (ap (ap ([117, 112, 32] : List UInt8) r4.1) ([32] : List UInt8)) + ln r2.1) Oa)
 (some (r5.1, ((ap (ap (ap ([117, 112, 32] : List UInt8) r4.1) ([32] : List UInt8)) r2.1), ())))
 none)
 none)
 none)
 (cond (r5.2.1 == 6)
 (cond (bl (ln Wz + ln r2.1) Oa)
 (some (r5.1, ((ap Wz r2.1), ())))
 none)
 (cond (r5.2.1 == 7)
 (ob (Wu r5.1 ([Ts, Dp, Ep, Bp, Ap] : List Ac)) fun r6 =>
 (some (r6.1, (r6.2.1, ()))))
 (cond (r5.2.1 == 8)
 (ob (Ez r5.1 2) fun r7 =>
 (ob (Lr r7.2.1) fun r8 =>
 (cond (bl (ln Cg + ln r8.1) Oa)
 (some (r7.1, ((ap Cg r8.1), ())))
 none)))
 (cond (r5.2.1 == 9)
 (ob (Wu r5.1 ([GK, FI, XF, LF, JF, NF, RF, SF] : List Ac)) fun r9 =>
 (some (r9.1, (r9.2.1, ()))))
 (ob (Wu r5.1 ([[], YF, Xb, FK, IF, De, Cg, VF, Vj, PF, QF, TF, OF] : List Ac)) fun r10 =>
 (some (r10.1, (r10.2.1, ())))))))))))))))))))
def Gx (t3 : Unit) (t4 : Dd) (t5 : Int) (b7 : Zb) : Option ((CU × P1) ⊕ TP) :=
 (cond (decide (t5 > 0))
 (ob (UB b7) fun r5 =>
 (cond (bl (ln t4 + ln ([r5.2.1] : List Ac)) Oa)
 (some (.inl (((), (ap t4 ([r5.2.1] : List Ac)), (wr .i64 (t5 - 1)), ()), (r5.1, ()))))
 none))
 (some (.inr (.inl ((t4, ()), ())))))
def Rs := Gb fun x : (CU × P1) => Gx x.1.1 x.1.2.1 x.1.2.2.1 x.2.1
def Xx (a0 : We) : Option KI :=
 (ob (YD a0 16) fun r1 =>
 (ob (Vb r1 9) fun r2 =>
 (ob (Rs (((), [], (wr .i64 (1 + r2.2.1)), ()), (r2.1, ()))) (se (fun y6 => (some (y6.1.1, ()))) (fun z7 => none)))))
def Pm (t2 : Unit) (t3 : Unit) (t11 : Ar) (t12 : Int) (t13 : Int) (b2 : Sa) (b3 : Sa) : Option (((Unit × (Unit × LI)) × KK) ⊕ ((M1 × KK) ⊕ Jg)) :=
 (cond (decide (t13 < t12))
 (ob (Hc t11 t13) fun x8 =>
 (ob (Xp x8.2.1) fun r9 =>
 (cond (bl (ln b3.2.1 + ln ([(x8.1, r9.1, ())] : List Xd)) Oa)
 (some (.inl (((), (), t11, t12, (wr .i64 (t13 + 1)), ()), (b2, (b3.1, (ap b3.2.1 ([(x8.1, r9.1, ())] : List Xd)), ()), ()))))
 none)))
 (some (.inr (.inl (((), (), ()), (b2, b3, ()))))))
def Uo := Gb fun x : ((Unit × (Unit × LI)) × KK) => Pm x.1.1 x.1.2.1 x.1.2.2.1 x.1.2.2.2.1 x.1.2.2.2.2.1 x.2.1 x.2.2.1
def Mi (a0 : Sa) : Option ND :=
 (ob (Jk a0.1) fun r1 =>
 (ob (Uo (((), (), a0.2.1, ((ln a0.2.1 : Nat) : Int), 0, ()), (Lx, (r1.1, [], ()), ()))) (se (fun y10 => (some (y10.2.2.1, ()))) (fun z11 => none))))
def Ei (a0 : Sa) (a1 : Sa) (a2 : Bool) : Option (Sa × Yg) :=
 (cond (!a2)
 (some (a0, ([110, 111] : List UInt8), ()))
 (some (a1, ([111, 107] : List UInt8), ())))
def strings_Index (a b : List UInt8) : Option Zi := N4 a b
def Jm (t3 : Dd) (t9 : Fi) (t10 : Int) (t11 : Int) : Option (((Dd × (Fi × Yb)) × Unit) ⊕ TP) :=
 (cond (decide (t11 < t10))
 (ob (Hc t9 t11) fun x8 =>
 (cond (Jd (ln ([116, 100, 117] : List UInt8)) x8.1 (wr .i64 (x8.1 + 1)))
 (cond (bl (ln (Xa ([116, 100, 117] : List UInt8) (tn x8.1) (tn (wr .i64 (x8.1 + 1)))) + ln ([61] : List UInt8)) Oa)
 (ob (Nj (2, x8.2.1, x8.2.2.1, 0, ())) fun r9 =>
 (cond (bl (ln (ap (Xa ([116, 100, 117] : List UInt8) (tn x8.1) (tn (wr .i64 (x8.1 + 1)))) ([61] : List UInt8)) + ln r9.1) Oa)
 (cond (bl (ln t3 + ln ([(ap (ap (Xa ([116, 100, 117] : List UInt8) (tn x8.1) (tn (wr .i64 (x8.1 + 1)))) ([61] : List UInt8)) r9.1)] : List Ac)) Oa)
 (some (.inl (((ap t3 ([(ap (ap (Xa ([116, 100, 117] : List UInt8) (tn x8.1) (tn (wr .i64 (x8.1 + 1)))) ([61] : List UInt8)) r9.1)] : List Ac)), t9, t10, (wr .i64 (t11 + 1)), ()), ())))
 none)
 none))
 none)
 none))
 (some (.inr (.inl ((t3, ()), ())))))
def Ro := Gb fun x : ((Dd × (Fi × Yb)) × Unit) => Jm x.1.1 x.1.2.1 x.1.2.2.1 x.1.2.2.2.1
def Pt (a0 : Fi) : Option Yg :=
 (ob (Rn a0) fun r1 =>
 (cond (!r1.1)
 (some ([], ()))
 (ob (Ro (([], a0, ((ln a0 : Nat) : Int), 0, ()), ())) (se (fun y10 => (ob (Qf y10.1.1 ([32] : List UInt8)) fun r12 =>
 (some (r12.1, ())))) (fun z11 => none)))))
def Jo (t0 : Ac) (t4 : Fi) (t16 : Dd) (t17 : Int) (t18 : Int) : Option (((Ac × (Fi × Ft)) × Unit) ⊕ (((Ac × (Fi × Unit)) × Unit) ⊕ ((Fi × Fe) × Unit))) :=
 (cond (decide (t18 < t17))
 (cond (Qd (ln t16) t18)
 (ob t16[(tn t18)]? fun x14 =>
 (ob (strings_Cut x14 ([61] : List UInt8)) fun r15 =>
 (ob (Un r15.2.1) fun r16 =>
 (ob (strings_Index ([116, 100, 117] : List UInt8) r15.1) fun r17 =>
 (cond (!r15.2.2.1)
 (some (.inr (.inr (([], false, ()), ()))))
 (cond (!r16.2.1)
 (some (.inr (.inr (([], false, ()), ()))))
 (cond (r16.1.1 != 2)
 (some (.inr (.inr (([], false, ()), ()))))
 (cond (((ln r15.1 : Nat) : Int) != 1)
 (some (.inr (.inr (([], false, ()), ()))))
 (cond (decide (r17.1 < 0))
 (some (.inr (.inr (([], false, ()), ()))))
 (cond (bl (ln t4 + ln ([(r17.1, r16.1.2.1, r16.1.2.2.1, ())] : List Lb)) Oa)
 (some (.inl ((t0, (ap t4 ([(r17.1, r16.1.2.1, r16.1.2.2.1, ())] : List Lb)), t16, t17, (wr .i64 (t18 + 1)), ()), ())))
 none))))))))))
 none)
 (some (.inr (.inl ((t0, t4, ()), ())))))
def Oq := Gb fun x : ((Ac × (Fi × Ft)) × Unit) => Jo x.1.1 x.1.2.1 x.1.2.2.1 x.1.2.2.2.1 x.1.2.2.2.2.1
def Pv (a0 : Ac) : Option (Fi × Fe) :=
 (cond (a0 == [])
 (some ([], true, ()))
 (ob (Ik a0 32) fun r1 =>
 (ob (Oq ((a0, [], r1.1, ((ln r1.1 : Nat) : Int), 0, ()), ())) (se (fun y18 => (ob (Rn y18.1.2.1) fun r20 =>
 (cond (!r20.1)
 (some ([], false, ()))
 (ob (Pt y18.1.2.1) fun r21 =>
 (cond (r21.1 != y18.1.1)
 (some ([], false, ()))
 (some (y18.1.2.1, true, ()))))))) (fun z19 => (some z19.1))))))
def Xt (t6 : We) (t17 : Dd) (t18 : Int) (t19 : Int) : Option (((We × Ft) × Unit) ⊕ Zas) :=
 (cond (decide (t19 < t18))
 (ob (Hc t17 t19) fun x7 =>
 (ob (Xo x7) fun r8 =>
 (cond (!r8.2.1)
 (some (.inr (.inr (([], false, ()), ()))))
 (cond (bl (ln t6 + ln ([r8.1] : List Int)) Oa)
 (some (.inl (((ap t6 ([r8.1] : List Int)), t17, t18, (wr .i64 (t19 + 1)), ()), ())))
 none))))
 (some (.inr (.inl ((t6, ()), ())))))
def Ev := Gb fun x : ((We × Ft) × Unit) => Xt x.1.1 x.1.2.1 x.1.2.2.1 x.1.2.2.2.1
def Jf (a0 : Dd) (a1 : Int) : Option V1 :=
 (cond (((ln a0 : Nat) : Int) != (wr .i64 (a1 + 1)))
 (some ([], false, ()))
 (cond (Jd (ln a0) 1 ((ln a0 : Nat) : Int))
 (ob (Ev (([], (Xa a0 (tn 1) (tn ((ln a0 : Nat) : Int))), ((ln (Xa a0 (tn 1) (tn ((ln a0 : Nat) : Int))) : Nat) : Int), 0, ()), ())) (se (fun y9 => (some (y9.1.1, true, ()))) (fun z10 => (some z10.1))))
 none))
def Hj (a0 : Sa) (a1 : Ac) (a2 : We) : Option (Sa × Yg) :=
 (cond (a1 == De)
 (cond (Qd (ln a2) 0)
 (ob a2[(tn 0)]? fun x1 =>
 (ob (Tx a0.1 x1) fun r2 =>
 (cond (!r2.2.2.1)
 (some (a0, ([110, 111] : List UInt8), ()))
 (cond (decide ((wr .i64 (((ln a0.2.1 : Nat) : Int) + ((ln r2.2.1 : Nat) : Int))) > 200))
 (some (a0, ([110, 111] : List UInt8), ()))
 (ob (Jl r2.2.1) fun r3 =>
 (ob (Mi (Oh, r2.2.1, ())) fun r4 =>
 (cond (bl (ln a0.2.1 + ln r4.1.2.1) Oa)
 (some ((r2.1, (ap a0.2.1 r4.1.2.1), ()), r3.1, ()))
 none)))))))
 none)
 (cond (Qd (ln a2) 1)
 (ob a2[(tn 1)]? fun x5 =>
 (cond (Qd (ln a2) 0)
 (ob a2[(tn 0)]? fun x6 =>
 (ob (Ox a0.1 (x5, x6, (a1 == Uj), ())) fun r7 =>
 (cond (!r7.2.2.1)
 (some (a0, ([110, 111] : List UInt8), ()))
 (cond (decide ((wr .i64 (((ln a0.2.1 : Nat) : Int) + ((ln r7.2.1 : Nat) : Int))) > 200))
 (some (a0, ([110, 111] : List UInt8), ()))
 (ob (Jl r7.2.1) fun r8 =>
 (ob (Mi (Oh, r7.2.1, ())) fun r9 =>
 (cond (bl (ln a0.2.1 + ln r9.1.2.1) Oa)
 (some ((r7.1, (ap a0.2.1 r9.1.2.1), ()), r8.1, ()))
 none)))))))
 none))
 none))
def Kh (a0 : Sa) (a1 : Ac) : Option Yg :=
 (cond (a1 == Ts)
 (ob (Em a0.1.1.1) fun r1 =>
 (some (r1.1, ())))
 (cond (a1 == Dp)
 (ob (Wo a0.1.1.2.2.1 a0.1.1.2.2.2.1) fun r2 =>
 (ob (Fg r2.1) fun r3 =>
 (some (r3.1, ()))))
 (cond (a1 == Ep)
 (ob (Cd a0.1.1.2.2.2.1) fun r4 =>
 (ob (Fm r4.1) fun r5 =>
 (some (r5.1, ()))))
 (cond (a1 == Bp)
 (ob (Fg ((ln a0.1.2.2.1 : Nat) : Int)) fun r6 =>
 (some (r6.1, ())))
 (cond (a1 == Ap)
 (ob (Rx a0.2.1) fun r7 =>
 (ob (Sx (0, [], ()) r7.1) fun r8 =>
 (cond (bl (ln r8.1) Oa)
 (ob (An (Yc r8.1)) fun r9 =>
 (some (r9.1, ())))
 none)))
 (some (Xb, ())))))))
def Nt (t2 : Unit) (t4 : Unit) (t32 : Dd) (t211 : We) (t212 : Int) (t213 : Int) (b2 : Sa) (b4 : Sa) : Option (((Unit × EU) × KK) ⊕ (((Unit × (Unit × KI)) × KK) ⊕ Jg)) :=
 (cond (decide (t213 < t212))
 (cond (Qd (ln t211) t213)
 (ob t211[(tn t213)]? fun x79 =>
 (ob (Fg x79) fun r80 =>
 (cond (bl (ln t32 + ln ([r80.1] : List Ac)) Oa)
 (some (.inl (((), (), (ap t32 ([r80.1] : List Ac)), t211, t212, (wr .i64 (t213 + 1)), ()), (b2, b4, ()))))
 none)))
 none)
 (some (.inr (.inl (((), (), t32, ()), (b2, b4, ()))))))
def Ci := Gb fun x : ((Unit × EU) × KK) => Nt x.1.1 x.1.2.1 x.1.2.2.1 x.1.2.2.2.1 x.1.2.2.2.2.1 x.1.2.2.2.2.2.1 x.2.1 x.2.2.1
def Yy (a0 : Sa) (a1 : Ac) : Option (Sa × Yg) :=
 (ob (Wr a0) fun r1 =>
 (cond (!r1.1)
 (some (Lx, ([98, 97, 100] : List UInt8), ()))
 (ob (Mi a0) fun r2 =>
 (cond (a1 == [])
 (some (r2.1, [], ()))
 (ob (Hc a1 0) fun c3 =>
 (cond (((UInt8.toNat c3 : Nat) : Int) == 35)
 (some (r2.1, [], ()))
 (ob (Xh a1 Cg) fun r4 =>
 (cond r4.2.1
 (ob (Vn r4.1) fun r5 =>
 (cond (!r5.2.1)
 (some (r2.1, ([110, 111] : List UInt8), ()))
 (ob (Ij r5.1 r2.1.1.1.2.1 r2.1.1.2.1) fun r6 =>
 (ob (Ei r2.1 r6.1 r6.2.1) fun r7 =>
 (some r7)))))
 (ob (Xh a1 Vj) fun r8 =>
 (cond r8.2.1
 (ob (Pv r8.1) fun r9 =>
 (cond (!r9.2.1)
 (some (r2.1, ([110, 111] : List UInt8), ()))
 (ob (Ml r2.1.1.1.2.1) fun r10 =>
 (cond (bl (ln r10.1 + ln ([r9.1] : List Fi)) Oa)
 (ob (Ij r2.1.1.1.1 (ap r10.1 ([r9.1] : List Fi)) r2.1.1.2.1) fun r11 =>
 (ob (Ei r2.1 r11.1 r11.2.1) fun r12 =>
 (some r12)))
 none))))
 (ob (Ik a1 32) fun r13 =>
 (cond (Qd (ln r13.1) 0)
 (ob r13.1[(tn 0)]? fun x14 =>
 (ob (Jf r13.1 2) fun r15 =>
 (cond (x14 == Uj)
 (cond r15.2.1
 (ob (Hj r2.1 x14 r15.1) fun r16 =>
 (some r16))
 (cond (x14 == De)
 (ob (Jf r13.1 1) fun r17 =>
 (cond r17.2.1
 (ob (Hj r2.1 x14 r17.1) fun r18 =>
 (some r18))
 (some (r2.1, Xb, ()))))
 (cond (x14 == Bm)
 (ob (Jf r13.1 3) fun r19 =>
 (cond r19.2.1
 (cond (Qd (ln r19.1) 0)
 (ob r19.1[(tn 0)]? fun x20 =>
 (cond (Qd (ln r19.1) 1)
 (ob r19.1[(tn 1)]? fun x21 =>
 (cond (Qd (ln r19.1) 2)
 (ob r19.1[(tn 2)]? fun x22 =>
 (ob (Ij r2.1.1.1.1 r2.1.1.1.2.1 (x20, x21, x22, ())) fun r23 =>
 (ob (Ei r2.1 r23.1 r23.2.1) fun r24 =>
 (some r24))))
 none))
 none))
 none)
 (some (r2.1, Xb, ()))))
 (cond (x14 == ([119, 97, 121] : List UInt8))
 (cond r15.2.1
 (cond (Qd (ln r15.1) 0)
 (ob r15.1[(tn 0)]? fun x25 =>
 (cond (Qd (ln r15.1) 1)
 (ob r15.1[(tn 1)]? fun x26 =>
 (ob (Gi r2.1.1.1.1 x25 x26) fun r27 =>
 (cond (!r27.2.1)
 (some (r2.1, ([110, 111] : List UInt8), ()))
 (ob (Ci (((), (), [], r27.1, ((ln r27.1 : Nat) : Int), 0, ()), (r2.1, Lx, ()))) (se (fun y36 => (ob (Qf y36.1.2.2.1 ([32] : List UInt8)) fun r38 =>
 (cond (bl (ln Dg + ln r38.1) Oa)
 (some (y36.2.1, (ap Dg r38.1), ()))
 none))) (fun z37 => none))))))
 none))
 none)
 (cond (((ln r13.1 : Nat) : Int) == 1)
 (ob (Kh r2.1 x14) fun r39 =>
 (some (r2.1, r39.1, ())))
 (some (r2.1, Xb, ()))))
 (cond (((ln r13.1 : Nat) : Int) == 1)
 (ob (Kh r2.1 x14) fun r40 =>
 (some (r2.1, r40.1, ())))
 (some (r2.1, Xb, ())))))))
 (cond (x14 == ([117, 112] : List UInt8))
 (cond r15.2.1
 (ob (Hj r2.1 x14 r15.1) fun r41 =>
 (some r41))
 (cond (x14 == De)
 (ob (Jf r13.1 1) fun r42 =>
 (cond r42.2.1
 (ob (Hj r2.1 x14 r42.1) fun r43 =>
 (some r43))
 (some (r2.1, Xb, ()))))
 (cond (x14 == Bm)
 (ob (Jf r13.1 3) fun r44 =>
 (cond r44.2.1
 (cond (Qd (ln r44.1) 0)
 (ob r44.1[(tn 0)]? fun x45 =>
 (cond (Qd (ln r44.1) 1)
 (ob r44.1[(tn 1)]? fun x46 =>
 (cond (Qd (ln r44.1) 2)
 (ob r44.1[(tn 2)]? fun x47 =>
 (ob (Ij r2.1.1.1.1 r2.1.1.1.2.1 (x45, x46, x47, ())) fun r48 =>
 (ob (Ei r2.1 r48.1 r48.2.1) fun r49 =>
 (some r49))))
 none))
 none))
 none)
 (some (r2.1, Xb, ()))))
 (cond (x14 == ([119, 97, 121] : List UInt8))
 (cond r15.2.1
 (cond (Qd (ln r15.1) 0)
 (ob r15.1[(tn 0)]? fun x50 =>
 (cond (Qd (ln r15.1) 1)
 (ob r15.1[(tn 1)]? fun x51 =>
 (ob (Gi r2.1.1.1.1 x50 x51) fun r52 =>
 (cond (!r52.2.1)
 (some (r2.1, ([110, 111] : List UInt8), ()))
 (ob (Ci (((), (), [], r52.1, ((ln r52.1 : Nat) : Int), 0, ()), (r2.1, Lx, ()))) (se (fun y59 => (ob (Qf y59.1.2.2.1 ([32] : List UInt8)) fun r61 =>
 (cond (bl (ln Dg + ln r61.1) Oa)
 (some (y59.2.1, (ap Dg r61.1), ()))
 none))) (fun z60 => none))))))
 none))
 none)
 (cond (((ln r13.1 : Nat) : Int) == 1)
 (ob (Kh r2.1 x14) fun r62 =>
 (some (r2.1, r62.1, ())))
 (some (r2.1, Xb, ()))))
 (cond (((ln r13.1 : Nat) : Int) == 1)
 (ob (Kh r2.1 x14) fun r63 =>
 (some (r2.1, r63.1, ())))
 (some (r2.1, Xb, ())))))))
 (cond (x14 == De)
 (ob (Jf r13.1 1) fun r64 =>
 (cond r64.2.1
 (ob (Hj r2.1 x14 r64.1) fun r65 =>
 (some r65))
 (some (r2.1, Xb, ()))))
 (cond (x14 == Bm)
 (ob (Jf r13.1 3) fun r66 =>
 (cond r66.2.1
 (cond (Qd (ln r66.1) 0)
 (ob r66.1[(tn 0)]? fun x67 =>
 (cond (Qd (ln r66.1) 1)
 (ob r66.1[(tn 1)]? fun x68 =>
 (cond (Qd (ln r66.1) 2)
 (ob r66.1[(tn 2)]? fun x69 =>
 (ob (Ij r2.1.1.1.1 r2.1.1.1.2.1 (x67, x68, x69, ())) fun r70 =>
 (ob (Ei r2.1 r70.1 r70.2.1) fun r71 =>
 (some r71))))
 none))
 none))
 none)
 (some (r2.1, Xb, ()))))
 (cond (x14 == ([119, 97, 121] : List UInt8))
 (cond r15.2.1
 (cond (Qd (ln r15.1) 0)
 (ob r15.1[(tn 0)]? fun x72 =>
 (cond (Qd (ln r15.1) 1)
 (ob r15.1[(tn 1)]? fun x73 =>
 (ob (Gi r2.1.1.1.1 x72 x73) fun r74 =>
 (cond (!r74.2.1)
 (some (r2.1, ([110, 111] : List UInt8), ()))
 (ob (Ci (((), (), [], r74.1, ((ln r74.1 : Nat) : Int), 0, ()), (r2.1, Lx, ()))) (se (fun y81 => (ob (Qf y81.1.2.2.1 ([32] : List UInt8)) fun r83 =>
 (cond (bl (ln Dg + ln r83.1) Oa)
 (some (y81.2.1, (ap Dg r83.1), ()))
 none))) (fun z82 => none))))))
 none))
 none)
 (cond (((ln r13.1 : Nat) : Int) == 1)
 (ob (Kh r2.1 x14) fun r84 =>
 (some (r2.1, r84.1, ())))
 (some (r2.1, Xb, ()))))
 (cond (((ln r13.1 : Nat) : Int) == 1)
 (ob (Kh r2.1 x14) fun r85 =>
 (some (r2.1, r85.1, ())))
 (some (r2.1, Xb, ()))))))))))
 none))))))))))))
def Hr (t4 : Dd) (t5 : Unit) (t6 : Ac) (t29 : Dd) (t30 : Int) (t31 : Int) (b5 : Sa) : Option (((Dd × (Unit × (Ac × Ft))) × ND) ⊕ (((Dd × Yg) × Unit) ⊕ Jg)) :=
 (cond (decide (t31 < t30))
 (cond (Qd (ln t4) t31)
 (ob t4[(tn t31)]? fun x17 =>
 (ob (Yy b5 x17) fun r18 =>
 (cond (r18.2.1 != [])
 (cond (bl (ln r18.2.1 + ln ([10] : List UInt8)) Oa)
 (cond (bl (ln t6 + ln (ap r18.2.1 ([10] : List UInt8))) Oa)
 (some (.inl ((t4, (), (ap t6 (ap r18.2.1 ([10] : List UInt8))), t4, t30, (wr .i64 (t31 + 1)), ()), (r18.1, ()))))
 none)
 none)
 (some (.inl ((t4, (), t6, t4, t30, (wr .i64 (t31 + 1)), ()), (r18.1, ())))))))
 none)
 (some (.inr (.inl ((t4, t6, ()), ())))))
def Sh := Gb fun x : ((Dd × (Unit × (Ac × Ft))) × ND) => Hr x.1.1 x.1.2.1 x.1.2.2.1 x.1.2.2.2.1 x.1.2.2.2.2.1 x.1.2.2.2.2.2.1 x.2.1
def Lz (a0 : Ac) : Option GU :=
 (ob (Ik a0 10) fun r1 =>
 (cond (Qd (ln r1.1) (wr .i64 (((ln r1.1 : Nat) : Int) - 1)))
 (ob r1.1[(tn (wr .i64 (((ln r1.1 : Nat) : Int) - 1)))]? fun x2 =>
 (cond (x2 == [])
 (cond (Jd (ln r1.1) 0 (wr .i64 (((ln r1.1 : Nat) : Int) - 1)))
 (cond (decide (((ln (Xa r1.1 (tn 0) (tn (wr .i64 (((ln r1.1 : Nat) : Int) - 1)))) : Nat) : Int) > 60))
 (some ([], (-1), ()))
 (ob Fj fun r3 =>
 (ob (Sh (((Xa r1.1 (tn 0) (tn (wr .i64 (((ln r1.1 : Nat) : Int) - 1)))), (), [], (Xa r1.1 (tn 0) (tn (wr .i64 (((ln r1.1 : Nat) : Int) - 1)))), ((ln (Xa r1.1 (tn 0) (tn (wr .i64 (((ln r1.1 : Nat) : Int) - 1)))) : Nat) : Int), 0, ()), (r3.1, ()))) (se (fun y10 => (some (y10.1.2.1, ((ln y10.1.1 : Nat) : Int), ()))) (fun z11 => none)))))
 none)
 (cond (decide (((ln r1.1 : Nat) : Int) > 60))
 (some ([], (-1), ()))
 (ob Fj fun r12 =>
 (ob (Sh ((r1.1, (), [], r1.1, ((ln r1.1 : Nat) : Int), 0, ()), (r12.1, ()))) (se (fun y19 => (some (y19.1.2.1, ((ln y19.1.1 : Nat) : Int), ()))) (fun z20 => none)))))))
 none))
def Bq (t3 : Dd) (t4 : Unit) (t5 : Ac) (t6 : Int) (b4 : Sa) : Option (((Dd × Qae) × ND) ⊕ (((Dd × Yg) × Unit) ⊕ Et)) :=
 (cond (decide (t6 < ((ln t3 : Nat) : Int)))
 (cond (Qd (ln t3) t6)
 (ob t3[(tn t6)]? fun x10 =>
 (ob (Yy b4 x10) fun r11 =>
 (ob (Wr r11.1) fun r12 =>
 (cond (!r12.1)
 (some (.inr (.inr ((false, ()), ()))))
 (cond (r11.2.1 != [])
 (cond (bl (ln t5 + ln r11.2.1) Oa)
 (cond (bl (ln (ap t5 r11.2.1) + ln ([10] : List UInt8)) Oa)
 (some (.inl ((t3, (), (ap (ap t5 r11.2.1) ([10] : List UInt8)), (wr .i64 (t6 + 1)), ()), (r11.1, ()))))
 none)
 none)
 (some (.inl ((t3, (), t5, (wr .i64 (t6 + 1)), ()), (r11.1, ())))))))))
 none)
 (some (.inr (.inl ((t3, t5, ()), ())))))
def Nl := Gb fun x : ((Dd × Qae) × ND) => Bq x.1.1 x.1.2.1 x.1.2.2.1 x.1.2.2.2.1 x.2.1
def Js (a0 : We) : Option Fe :=
 (ob (VC a0) fun r1 =>
 (cond r1.1
 (some (true, ()))
 (ob (Xx a0) fun r2 =>
 (ob Fj fun r3 =>
 (ob (Nl ((r2.1, (), [], 0, ()), (r3.1, ()))) (se (fun y13 => (ob (Qf y13.1.1 ([10] : List UInt8)) fun r15 =>
 (cond (bl (ln r15.1 + ln ([10] : List UInt8)) Oa)
 (ob (Lz (ap r15.1 ([10] : List UInt8))) fun r16 =>
 (cond (r16.1 == y13.1.2.1)
 (some ((r16.2.1 == ((ln y13.1.1 : Nat) : Int)), ()))
 (some (false, ()))))
 none))) (fun z14 => (some (z14.1.1, ())))))))))
end

def Nb (k c m n : Int) : Prop :=
 ((k = 0 ∨ k = 1 ∨ k = 10) ∧ c = 0 ∧ m = 0 ∧ n = 0) ∨
 (k = 2 ∧ n = 0 ∧ (c = 0 ∨ 1 ≤ c ∧ c ≤ 56) ∧ (m = 0 ∨ 1 ≤ m ∧ m ≤ 15) ∧ (c ≠ 0 ∨ m ≠ 0)) ∨
 ((k = 3 ∨ k = 4) ∧ c = 0 ∧ m = 0 ∧ 1 ≤ n ∧ n ≤ 3) ∨
 ((k = 5 ∨ k = 9) ∧ c = 0 ∧ m = 0 ∧ 0 ≤ n ∧ n ≤ 3) ∨
 (k = 6 ∧ 1 ≤ c ∧ c ≤ 56 ∧ 1 ≤ m ∧ m ≤ 15 ∧ n = 0) ∨
 (k = 7 ∧ 1 ≤ c ∧ c ≤ 56 ∧ m = 0 ∧ 1 ≤ n ∧ n ≤ 3) ∨
 (k = 8 ∧ c = 0 ∧ 1 ≤ m ∧ m ≤ 15 ∧ n = 0)
noncomputable def Wb (a : Ga) : Bool := open Classical in decide (Nb a.1 a.2.1 a.2.2.1 a.2.2.2.1)
theorem Db (a : Ga) : Wb a = true ↔ Nb a.1 a.2.1 a.2.2.1 a.2.2.2.1 := by simp [Wb]
theorem Kk (c : Int) : Vm c = some (decide (1 ≤ c ∧ c ≤ 56), ()) := by
 simp only [Vm, Oi, Pi]
 apply Jc; simp only [Ad, decide_eq_true_eq, XG, ZL, jq, and_false, false_and, or_false, false_or, and_true, true_and, not_true_eq_false, not_false_eq_true]; try omega
theorem ZK (c : Int) : Sq c = some (decide (1 ≤ c ∧ c ≤ 15), ()) := by
 simp only [Sq, Oi, Pi]
 apply Jc; simp only [Ad, decide_eq_true_eq, XG, ZL, jq, and_false, false_and, or_false, false_or, and_true, true_and, not_true_eq_false, not_false_eq_true]; try omega
theorem XI (c : Int) : Cs c = some (decide (1 ≤ c ∧ c ≤ 3), ()) := by
 simp only [Cs, Oi, Pi]
 apply Jc; simp only [Ad, decide_eq_true_eq, XG, ZL, jq, and_false, false_and, or_false, false_or, and_true, true_and, not_true_eq_false, not_false_eq_true]; try omega
theorem Rd (c a b : Int) : Oc c a b = some (decide (a ≤ c ∧ c ≤ b), ()) := by
 simp only [Oc, Oi, Pi]
 apply Jc; simp only [Ad, decide_eq_true_eq, XG, ZL, jq, and_false, false_and, or_false, false_or, and_true, true_and, not_true_eq_false, not_false_eq_true]; try omega
theorem Hk (a : Ga) : Jh a = some (Wb a, ()) := by
 obtain ⟨k, c, m, n, u⟩ := a
 have key : ∀ k c m n : Int, Jh (k, c, m, n, u) = some (Wb (k, c, m, n, u), ()) := by
  intro k c m n
  simp only [Jh, Kk, ZK, XI, Rd, jb, Oi, Pi]
  by_cases h0 : k = 0
  ·subst h0; apply Jc; rw [Db]; simp [Nb, Ad]; try omega
  by_cases h1 : k = 1
  ·subst h1; apply Jc; rw [Db]; simp [Nb, Ad]; try omega
  by_cases h2 : k = 2
  ·subst h2; apply Jc; rw [Db]; simp [Nb, Ad]; intro hn; (repeat' split) <;> omega
  by_cases h3 : k = 3
  ·subst h3; apply Jc; rw [Db]; simp [Nb, Ad]; try omega
  by_cases h4 : k = 4
  ·subst h4; apply Jc; rw [Db]; simp [Nb, Ad]; try omega
  by_cases h5 : k = 5
  ·subst h5; apply Jc; rw [Db]; simp [Nb, Ad]; try omega
  by_cases h6 : k = 6
  ·subst h6; apply Jc; rw [Db]; simp [Nb, Ad]; try omega
  by_cases h7 : k = 7
  ·subst h7; apply Jc; rw [Db]; simp [Nb, Ad]; try omega
  by_cases h8 : k = 8
  ·subst h8; apply Jc; rw [Db]; simp [Nb, Ad]; try omega
  by_cases h9 : k = 9
  ·subst h9; apply Jc; rw [Db]; simp [Nb, Ad]; try omega
  by_cases h10 : k = 10
  ·subst h10; apply Jc; rw [Db]; simp [Nb, Ad]; try omega
  have g : ∀ j : Int, (k == j) = decide (k = j) := fun j => by rw [qm]; simp
  apply Jc; rw [Db]; simp [Nb, Ad, h0, h1, h2, h3, h4, h5, h6, h7, h8, h9, h10]
 exact key k c m n
theorem Zn (a : Ga) : Ii a = some (Wb a, ()) := by
 obtain ⟨k, c, m, n, u⟩ := a
 have key : ∀ k c m n : Int, Ii (k, c, m, n, u) = some (Wb (k, c, m, n, u), ()) := by
  intro k c m n
  simp only [Ii, Kk, ZK, XI, Rd, jb, Oi, Pi]
  by_cases h0 : k = 0
  ·subst h0; apply Jc; rw [Db]; simp [Nb, Ad]; try omega
  by_cases h1 : k = 1
  ·subst h1; apply Jc; rw [Db]; simp [Nb, Ad]; try omega
  by_cases h2 : k = 2
  ·subst h2; apply Jc; rw [Db]; simp [Nb, Ad]; intro hn; (repeat' split) <;> omega
  by_cases h3 : k = 3
  ·subst h3; apply Jc; rw [Db]; simp [Nb, Ad]; try omega
  by_cases h4 : k = 4
  ·subst h4; apply Jc; rw [Db]; simp [Nb, Ad]; try omega
  by_cases h5 : k = 5
  ·subst h5; apply Jc; rw [Db]; simp [Nb, Ad]; try omega
  by_cases h6 : k = 6
  ·subst h6; apply Jc; rw [Db]; simp [Nb, Ad]; try omega
  by_cases h7 : k = 7
  ·subst h7; apply Jc; rw [Db]; simp [Nb, Ad]; try omega
  by_cases h8 : k = 8
  ·subst h8; apply Jc; rw [Db]; simp [Nb, Ad]; try omega
  by_cases h9 : k = 9
  ·subst h9; apply Jc; rw [Db]; simp [Nb, Ad]; try omega
  by_cases h10 : k = 10
  ·subst h10; apply Jc; rw [Db]; simp [Nb, Ad]; try omega
  have g : ∀ j : Int, (k == j) = decide (k = j) := fun j => by rw [qm]; simp
  apply Jc; rw [Db]; simp [Nb, Ad, h0, h1, h2, h3, h4, h5, h6, h7, h8, h9, h10]
 exact key k c m n
noncomputable def Tf (nl : Nat) (i : Nat) (a : Ga) : Bool := Wb a && !(((i : Int) == 0) && (a.1 == 1)) && !((a.1 != 9) && decide (a.2.2.2.1 ≥ (nl : Int)))
noncomputable def Wh (keys : Int) (nl : Nat) (i : Nat) (l : List Ga) : Bool := ((ja l : Int) == keys) && Ae (fun _ a => Tf nl i a) 0 l
noncomputable def Gc (m : Ha) : Bool :=
 decide (1 ≤ m.1 ∧ m.1 ≤ 32) && decide (1 ≤ m.2.1.length ∧ m.2.1.length ≤ 4) && Ae (fun i l => Wh m.1 m.2.1.length i l) 0 m.2.1
theorem NS (m : Ha) (i : Nat) (l : List Ga) (L : List (List Ga)) (n : Int) (t : Int) (hl : l.length < 9223372036854775807) :
 Mm (((), (i : Int), L, n, t, l, (l.length : Int), (0 : Int), ()), (m, ())) =
  some (cond (Ae (fun _ a => Tf m.2.1.length i a) 0 l) (.inl (((), L, n, t, ()), (m, ()))) (.inr ((false, ()), ()))) := by
 unfold Mm
 refine Fh (step := _) l (fun _ a => Tf m.2.1.length i a) (fun j => (((), (i : Int), L, n, t, l, (l.length : Int), j, ()), (m, ()))) _ _ ?_ ?_ hl
 ·intro k hk
  simp only [Hy]
  rw [Aa (show (k : Int) < (l.length : Int) by omega), Ec hk]
  simp only [ze, jb, Tf, Hk]
  cases Wb l[k] <;> cases ((i : Int) == 0) <;> cases (l[k].1 == 1) <;> cases (l[k].1 != 9) <;> cases decide (l[k].2.2.2.1 ≥ (m.2.1.length : Int)) <;> rfl
 ·simp [Hy]
theorem Dh (m : Ha) (hz : Eb Ua m ≤ Ka) : Rj m = some (Gc m, ()) := by
 have h20 : Ka = 1048576 := rfl
 have hz' : m.2.1.length + (za (Eb (.sl Bc)) m.2.1).sum ≤ Ka := by
  have : Eb Ua m = Eb (.sl (.sl Bc)) m.2.1 := by simp only [Eb, ya, js]
  rw [this] at hz; exact hz
 have hl : ∀ k (hk : k < m.2.1.length), m.2.1[k].length ≤ Ka := by
  intro k hk
  have := Ay (f := Eb (.sl Bc)) hk
  have h2 : m.2.1[k].length ≤ Eb (.sl Bc) m.2.1[k] := Nat.le_add_right _ _
  omega
 have hloop : Lm (((), m.2.1, ((ja m.2.1 : Nat) : Int), (0 : Int), ()), (m, ())) =
  some (cond (Ae (fun i l => Wh m.1 m.2.1.length i l) 0 m.2.1) (.inl ((), ())) (.inr ((false, ()), ()))) := by
  unfold Lm
  refine Fh (step := _) m.2.1 (fun i l => Wh m.1 m.2.1.length i l) (fun j => (((), m.2.1, ((ja m.2.1 : Nat) : Int), j, ()), (m, ()))) _ _ ?_ ?_ (by omega)
  ·intro k hk
   have := hl k hk
   simp only [Gy]
   rw [Aa (show (k : Int) < (m.2.1.length : Int) by omega), Ec hk]
   simp only [ze, jb, Wh]
   rw [NS m k _ _ _ _ (by omega)]
   show (cond (!((m.2.1[k].length : Int) == m.1)) _ _) = _
   cases ((m.2.1[k].length : Int) == m.1) <;> cases Ae (fun _ a => Tf m.2.1.length k a) 0 m.2.1[k] <;> rfl
  ·simp [Gy]
 unfold Rj
 rw [hloop]
 simp only [jb, TY, Oi, Pi]
 apply Jc
 simp only [Ad, Gc, jd, decide_eq_true_eq, jq, and_false, false_or, and_true, or_false]
 generalize Ae (fun i l => Wh m.1 m.2.1.length i l) 0 m.2.1 = b
 constructor
 ·rintro ⟨h1, h2, h3, h4, h5⟩; exact ⟨⟨by omega, by omega⟩, h5⟩
 ·rintro ⟨⟨h1, h2⟩, h5⟩; exact ⟨by omega, by omega, by omega, by omega, h5⟩
theorem QT (m : Ha) (i : Nat) (hi : i < m.2.1.length) (hl : m.2.1[i].length < 9223372036854775807) :
 Tm (((), (i : Int), (0 : Int), ()), (m, ())) =
  some (cond (Ae (fun _ a => Tf m.2.1.length i a) 0 m.2.1[i]) (.inl (((), (i : Int), ()), (m, ()))) (.inr ((false, ()), ()))) := by
 unfold Tm
 refine Fh (step := _) m.2.1[i] (fun _ a => Tf m.2.1.length i a) (fun j => (((), (i : Int), j, ()), (m, ()))) _ _ ?_ ?_ hl
 ·intro k hk
  simp only [Oy]
  rw [Ec hi]
  simp only [jb]
  rw [Aa (show (k : Int) < (m.2.1[i].length : Int) by omega), Ec hk]
  simp only [ze, jb, Tf, Zn]
  cases Wb m.2.1[i][k] <;> cases ((i : Int) == 0) <;> cases (m.2.1[i][k].1 == 1) <;> cases (m.2.1[i][k].1 != 9) <;> cases decide (m.2.1[i][k].2.2.2.1 ≥ (m.2.1.length : Int)) <;> rfl
 ·simp [Oy, Ec hi]
theorem Pk (m : Ha) (hz : Eb Ua m ≤ Ka) : Am m = some (Gc m, ()) := by
 have h20 : Ka = 1048576 := rfl
 have hz' : m.2.1.length + (za (Eb (.sl Bc)) m.2.1).sum ≤ Ka := by
  have : Eb Ua m = Eb (.sl (.sl Bc)) m.2.1 := by simp only [Eb, ya, js]
  rw [this] at hz; exact hz
 have hl : ∀ k (hk : k < m.2.1.length), m.2.1[k].length ≤ Ka := by
  intro k hk
  have := Ay (f := Eb (.sl Bc)) hk
  have h2 : m.2.1[k].length ≤ Eb (.sl Bc) m.2.1[k] := Nat.le_add_right _ _
  omega
 have hloop : Sm (((), (0 : Int), ()), (m, ())) =
  some (cond (Ae (fun i l => Wh m.1 m.2.1.length i l) 0 m.2.1) (.inl (((), ()), (m, ()))) (.inr ((false, ()), ()))) := by
  unfold Sm
  refine Fh (step := _) m.2.1 (fun i l => Wh m.1 m.2.1.length i l) (fun j => (((), j, ()), (m, ()))) _ _ ?_ ?_ (by omega)
  ·intro k hk
   have := hl k hk
   simp only [Ny]
   rw [Aa (show (k : Int) < (m.2.1.length : Int) by omega), Ec hk]
   simp only [ze, jb, Wh]
   rw [QT m k hk (by omega)]
   show (cond (!((m.2.1[k].length : Int) == m.1)) _ _) = _
   cases ((m.2.1[k].length : Int) == m.1) <;> cases Ae (fun _ a => Tf m.2.1.length k a) 0 m.2.1[k] <;> rfl
  ·simp [Ny]
 unfold Am
 rw [hloop]
 simp only [jb, TY, Oi, Pi, Rd]
 apply Jc
 simp only [Ad, Gc, jd, decide_eq_true_eq, jq, and_false, false_or, and_true, or_false]
 generalize Ae (fun i l => Wh m.1 m.2.1.length i l) 0 m.2.1 = b
 constructor
 ·rintro ⟨h1, h2, h3⟩; exact ⟨⟨by omega, by omega⟩, h1⟩
 ·rintro ⟨⟨h1, h2⟩, h5⟩; exact ⟨h5, by omega, by omega⟩
theorem Uu {n : Nat} (h : n ≤ 62) : Ke .i64 1 (n : Int) = ((2 ^ n : Nat) : Int) := by
 unfold Ke
 have h1 : min (jy (n : Int)) (IntKind.bits .i64) = n := by
  show min (jy (n : Int)) 64 = n
  rw [jn]; omega
 rw [h1, Int.one_mul]
 have h2 : (2 : Int) ^ n = ((2 ^ n : Nat) : Int) := by simp
 have h3 : 2 ^ n ≤ 2 ^ 62 := Nat.pow_le_pow_right (by omega) h
 rw [h2]
 clear h1 h2
 generalize 2 ^ n = z at h3
 rw [Gd (by omega) (by omega)]
structure Bw (m : Ha) : Prop where
 k1 : 1 ≤ m.1
 k2 : m.1 ≤ 32
 l1 : 1 ≤ m.2.1.length
 l2 : m.2.1.length ≤ 4
 row : ∀ i (h : i < m.2.1.length), (m.2.1[i].length : Int) = m.1
 act : ∀ i (h : i < m.2.1.length) k (hk : k < m.2.1[i].length), Tf m.2.1.length i m.2.1[i][k] = true
theorem Hd {m : Ha} (h : Gc m = true) : Bw m := by
 simp only [Gc, jd, decide_eq_true_eq] at h
 obtain ⟨⟨h1, h2⟩, h3⟩ := h
 rw [Fp] at h3
 refine ⟨h1.1, h1.2, h2.1, h2.2, fun i hi => ?_, fun i hi k hk => ?_⟩
 ·have := h3 i hi
  simp only [js, Wh, jd, beq_iff_eq] at this
  exact this.1
 ·have := h3 i hi
  simp only [js, Wh, jd, beq_iff_eq] at this
  have := Fp.1 this.2 k hk
  simpa using this
theorem MB {nl i : Nat} {a : Ga} (h : Tf nl i a = true) : Wb a = true := by
 simp only [Tf, jd] at h
 exact h.1.1
theorem FL {nl i : Nat} {a : Ga} (h : Tf nl i a = true) (hk : a.1 ≠ 9) : a.2.2.2.1 < (nl : Int) := by
 simp only [Tf, jd, yj, Bool.and_eq_false_iff] at h
 rcases h.2 with h | h
 ·simp at h; exact absurd h hk
 ·simpa using h
def Gk (m k : Int) : Int := Cl .i64 (Bu .i64 m k) 1
theorem VD (m : Int) {k : Int} (h : 0 ≤ k) : Pq m k = some (Gk m k, ()) := by
 unfold Pq
 rw [Aa h]; rfl
def DaH : Ga := (0, 0, 0, 0, ())
def Ph (L : List (List Ga)) (i k : Nat) : Ga := (L.getD i []).getD k DaH
theorem IC {L : List (List Ga)} {i k : Nat} (hi : i < L.length) (hk : k < L[i].length) : Ph L i k = L[i][k] := by
 simp [Ph, qf, hi, hk]
theorem AX {α : Type} {L : List (List Ga)} {i k : Nat} (hi : i < L.length) (hk : k < L[i].length) (K : Ga → Option α) :
 (jz (Hc L (i : Int)) fun x => jz (Hc x (k : Int)) K) = K (Ph L i k) := by
 rw [Ec hi]
 simp only [jb]
 rw [Ec hk, IC hi hk]
 rfl
def Le (L : List (List Ga)) (on : Int) (k : Nat) : Nat → Nat
 | 0 => 0
 | n + 1 => cond ((Gk on ((n + 1 : Nat) : Int) == 1) && ((Ph L (n + 1) k).1 != 1)) (n + 1) (Le L on k n)
theorem PO {L : List (List Ga)} {on : Int} {k : Nat} : ∀ n, Le L on k n ≤ n
 | 0 => jo _
 | n + 1 => by
  simp only [Le]
  cases ((Gk on ((n + 1 : Nat) : Int) == 1) && ((Ph L (n + 1) k).1 != 1)) with
  | true => exact jo _
  | false => exact Nat.le_succ_of_le (PO n)
theorem YI {m : Ha} (hm : Bw m) (on : Int) {k : Nat} (hk : (k : Int) < m.1) : ∀ n : Nat, n < m.2.1.length →
 Di ((on, (k : Int), (), (n : Int), ()), (m, ())) = some (cond (Le m.2.1 on k n == 0) (.inl ((), ())) (.inr ((((Le m.2.1 on k n : Nat) : Int), ()), ())))
 | 0, _ => by
  unfold Di
  rw [LB]
  rfl
 | n + 1, h => by
  have hrow := hm.row (n + 1) h
  unfold Di
  rw [LB]
  simp only [NH]
  rw [Aa (show (((n + 1 : Nat) : Int)) > 0 by omega), VD on (show (0 : Int) ≤ ((n + 1 : Nat) : Int) by omega)]
  simp only [ze, jb]
  rw [AX h (by omega), Gd (by have := hm.l2; omega) (by have := hm.l2; omega), show (((n + 1 : Nat) : Int) - 1) = (n : Int) by omega]
  have ih := YI hm on hk n (by omega)
  unfold Di at ih
  simp only [Le]
  cases h1 : (Gk on ((n + 1 : Nat) : Int) == 1) with
  | false =>
   simp only [Bool.false_and, zf, jb, qg]
   exact ih
  | true =>
   cases h2 : ((Ph m.2.1 (n + 1) k).1 != 1) with
   | true => rfl
   | false =>
    simp only [Bool.and_false, ze, zf, jb, qg]
    exact ih
theorem HB {m : Ha} (hm : Bw m) (on : Int) {k : Nat} (hk : (k : Int) < m.1) :
 Ds m on (k : Int) = some (((Le m.2.1 on k (m.2.1.length - 1) : Nat) : Int), ()) := by
 have h1 := hm.l1
 have h2 := hm.l2
 unfold Ds
 rw [Gd (by omega) (by omega), show ((m.2.1.length : Int) - 1) = ((m.2.1.length - 1 : Nat) : Int) by omega, YI hm on hk _ (by omega)]
 cases h : (Le m.2.1 on k (m.2.1.length - 1) == 0) with
 | false => rfl
 | true =>
  have h' : Le m.2.1 on k (m.2.1.length - 1) = 0 := by simpa using h
  rw [h']; rfl
theorem IJ {m : Ha} (hm : Bw m) (on : Int) {k : Nat} (hk : (k : Int) < m.1) : ∀ n : Nat, n < m.2.1.length →
 Ek ((on, (k : Int), (), (n : Int), ()), (m, ())) = some (cond (Le m.2.1 on k n == 0) (.inl ((), ())) (.inr ((((Le m.2.1 on k n : Nat) : Int), ()), ())))
 | 0, _ => by
  unfold Ek
  rw [LB]
  rfl
 | n + 1, h => by
  have hrow := hm.row (n + 1) h
  unfold Ek
  rw [LB]
  simp only [CI]
  rw [Aa (show (((n + 1 : Nat) : Int)) > 0 by omega), Aa (show (0 : Int) ≤ ((n + 1 : Nat) : Int) by omega)]
  simp only [ze]
  rw [AX h (by omega), Gd (by have := hm.l2; omega) (by have := hm.l2; omega), show (((n + 1 : Nat) : Int) - 1) = (n : Int) by omega]
  have ih := IJ hm on hk n (by omega)
  unfold Ek at ih
  simp only [Le]
  show jz (cond (Gk on ((n + 1 : Nat) : Int) == 1) _ _) _ = _
  cases h1 : (Gk on ((n + 1 : Nat) : Int) == 1) with
  | false =>
   simp only [Bool.false_and, zf, jb, qg]
   exact ih
  | true =>
   cases h2 : ((Ph m.2.1 (n + 1) k).1 != 1) with
   | true => rfl
   | false =>
    simp only [Bool.and_false, ze, zf, jb, qg]
    exact ih
def Kf (m : Ha) (on : Int) (k : Nat) : Nat := Le m.2.1 on k (m.2.1.length - 1)
theorem Ww {m : Ha} (hm : Bw m) (on : Int) (k : Nat) : Kf m on k < m.2.1.length := by
 have := PO (L := m.2.1) (on := on) (k := k) (m.2.1.length - 1)
 have := hm.l1
 unfold Kf
 omega
theorem BW {m : Ha} (hz : Eb Ua m ≤ Ka) (hv : Gc m = true) (on : Int) {k : Nat} (hk : (k : Int) < m.1) :
 BI m on (k : Int) = some (((Kf m on k : Nat) : Int), ()) := by
 have hm := Hd hv
 have h1 := hm.l1
 have h2 := hm.l2
 have h3 := hm.k2
 unfold BI
 rw [Pk m hz, hv, Gd (n := m.1 - 1) (by omega) (by omega)]
 simp only [jb, jg, zf, Rd]
 rw [Aa (show (0 : Int) ≤ (k : Int) ∧ (k : Int) ≤ m.1 - 1 by omega), Gd (by omega) (by omega), show ((m.2.1.length : Int) - 1) = ((m.2.1.length - 1 : Nat) : Int) by omega, IJ hm on hk _ (by omega)]
 simp only [jg, zf, jb]
 show _ = some (((Le m.2.1 on k (m.2.1.length - 1) : Nat) : Int), ())
 cases h : (Le m.2.1 on k (m.2.1.length - 1) == 0) with
 | false => rfl
 | true =>
  have h' : Le m.2.1 on k (m.2.1.length - 1) = 0 := by simpa using h
  rw [h']; rfl
theorem NT {m : Ha} (hz : Eb Ua m ≤ Ka) (hv : Gc m = true) (on : Int) {k : Nat} (hk : (k : Int) < m.1) :
 DF m on (k : Int) = some (Ph m.2.1 (Kf m on k) k, ()) := by
 have hm := Hd hv
 have hl := Ww hm on k
 have hrow := hm.row _ hl
 unfold DF
 rw [BW hz hv on hk]
 simp only [jb]
 rw [Ba (by omega)]
 simp only [zf]
 rw [AX hl (by omega)]
def VA (f : Int) (a : Ga) : Int := cond (a.1 == 4) (Yn .i64 f (Ke .i64 1 a.2.2.2.1)) (cond (a.1 == 5) (Sk .i64 (Ke .i64 1 a.2.2.2.1) 1) f)
theorem X1 {nl i : Nat} {a : Ga} (h : Tf nl i a = true) (hk : a.1 = 3 ∨ a.1 = 4 ∨ a.1 = 5 ∨ a.1 = 7) : 0 ≤ a.2.2.2.1 ∧ a.2.2.2.1 < (nl : Int) ∧ a.2.2.2.1 ≤ 3 := by
 have h1 := MB h
 rw [Db] at h1
 have h2 := FL h (by rcases hk with hk | hk | hk | hk <;> rw [hk] <;> decide)
 unfold Nb at h1
 omega
theorem IE {m : Ha} (hm : Bw m) (f : Int) {k : Nat} (hk : (k : Int) < m.1) :
 Yp m f (k : Int) = some (VA f (Ph m.2.1 (Kf m f k) k), ()) := by
 have hl := Ww hm f k
 have hrow := hm.row _ hl
 have hact := hm.act _ hl k (by omega)
 rw [← IC hl (by omega)] at hact
 unfold Yp
 rw [HB hm f hk]
 simp only [jb]
 rw [show Le m.2.1 f k (m.2.1.length - 1) = Kf m f k from rfl, AX hl (by omega)]
 generalize Ph m.2.1 (Kf m f k) k = a at hact
 unfold VA
 cases h4 : (a.1 == 4) with
 | true =>
  rw [Aa (X1 hact (.inr (.inl (by simpa using h4)))).1]; rfl
 | false =>
  cases h5 : (a.1 == 5) with
  | true => rw [Aa (X1 hact (.inr (.inr (.inl (by simpa using h5))))).1]; rfl
  | false => rfl
theorem UU {f : Int} (h0 : 0 ≤ f) (h1 : f < 16) (h2 : f.tmod 2 = 0) : ∀ n : Nat, n < 4 → Gk (Xe .i64 1 f) ((n + 1 : Nat) : Int) = Gk f ((n + 1 : Nat) : Int) := by
 have : f = 0 ∨ f = 1 ∨ f = 2 ∨ f = 3 ∨ f = 4 ∨ f = 5 ∨ f = 6 ∨ f = 7 ∨ f = 8 ∨ f = 9 ∨ f = 10 ∨ f = 11 ∨ f = 12 ∨ f = 13 ∨ f = 14 ∨ f = 15 := by omega
 clear h0 h1 h2
 rcases this with rfl | rfl | rfl | rfl | rfl | rfl | rfl | rfl | rfl | rfl | rfl | rfl | rfl | rfl | rfl | rfl <;> decide
theorem YJ {L : List (List Ga)} {on on' : Int} {k : Nat} : ∀ n : Nat, (∀ j : Nat, j < n → Gk on ((j + 1 : Nat) : Int) = Gk on' ((j + 1 : Nat) : Int)) → Le L on k n = Le L on' k n
 | 0, _ => rfl
 | n + 1, h => by
  simp only [Le]
  rw [h n (by omega), YJ n fun j hj => h j (by omega)]
theorem K6 {m : Ha} {f : Int} {b : Bool} (hz : Eb Ua m ≤ Ka) (h : Pg m f = some (b, ())) (hb : b = true) : Gc m = true ∧ 0 ≤ f ∧ f < 16 ∧ f.tmod 2 = 0 := by
 unfold Pg at h
 rw [Dh m hz] at h
 cases hk : Gc m with
 | false => rw [hk] at h; simp at h; rw [hb] at h; simp at h
 | true =>
  have hm := Hd hk
  rw [hk] at h
  simp only [jb, ze, show ((2 : Int) == 0) = false from rfl, zf] at h
  by_cases h1 : f ≥ 0
  case neg => rw [Ba h1] at h; simp at h; rw [hb] at h; simp at h
  rw [Aa h1] at h
  cases h2 : (f.tmod 2 == 0) with
  | false => rw [h2] at h; simp at h; rw [hb] at h; simp at h
  | true =>
   rw [h2, Aa (show (0 : Int) ≤ (m.2.1.length : Int) by omega), Uu (by have := hm.l2; omega)] at h
   simp only [ze, jc, jh, and_true] at h
   rw [hb, decide_eq_true_eq] at h
   have h3 := hm.l2
   have h4 : 2 ^ m.2.1.length ≤ 2 ^ 4 := Nat.pow_le_pow_right (by omega) h3
   exact ⟨rfl, h1, by omega, by simpa using h2⟩
noncomputable def Mf (a : Ga) : Bool := Wb a && ((a.1 == 6) || (a.1 == 7))
noncomputable def SE (a : Ga) : Ga := cond (Mf a) (2, a.2.1, 0, 0, ()) a
noncomputable def WK (a : Ga) : Ga := cond (Mf a) (cond (a.1 == 6) (2, 0, a.2.2.1, 0, ()) (3, 0, 0, a.2.2.2.1, ())) a
theorem Iy (a : Ga) : Cn a = some (Mf a, ()) := by
 unfold Cn Mf
 rw [Hk]
 cases Wb a <;> cases (a.1 == 6) <;> rfl
theorem SQ (a : Ga) : DD a = some (Mf a, ()) := by
 unfold DD Mf
 rw [Zn]
 cases Wb a <;> cases (a.1 == 6) <;> rfl
theorem ZZ (a : Ga) : KG a = some (SE a, ()) := by
 unfold KG SE
 rw [Iy]
 cases Mf a <;> rfl
def Vd {α : Type} (p : α → Bool) : Nat → List α → Int
 | _, [] => -1
 | k, x :: xs => cond (p x) (k : Int) (Vd p (k + 1) xs)
theorem DJ {X R : Type} {s : X → Option (X ⊕ R)} (I : Nat → X → Prop) (Q : R → Prop)
 (h : ∀ n x, I n x → (∃ r, s x = some (.inr r) ∧ Q r) ∨ (∃ y m, m < n ∧ s x = some (.inl y) ∧ I m y)) : ∀ n x, I n x → ∃ r, Gb s x = some r ∧ Q r := by
 intro n
 induction n using Nat.strongRecOn with
 | _ n ih =>
  intro x hi
  rcases h n x hi with ⟨r, h1, hq⟩ | ⟨y, m, hm, h1, hi'⟩
  ·exact ⟨r, by rw [Xc h1]; rfl, hq⟩
  ·obtain ⟨r, g1, hq⟩ := ih m hm y hi'
   exact ⟨r, by rw [Xc h1]; exact g1, hq⟩
def Is {α β : Type} : α ⊕ β → Bool
 | .inl _ => true
 | .inr _ => false
noncomputable def Ms (s : Int) (x : Ma) : Bool := decide (0 ≤ x.1 ∧ x.1 ≤ 31) && (!(Gk s x.1 == 1) && (Wb x.2.1 && (!(x.2.1.1 == 1) && (!(x.2.1.1 == 6) && !(x.2.1.1 == 7)))))
noncomputable def Kt (s : Int) (x : Ma) : Int ⊕ Unit := cond (Ms s x) (.inl (Xe .i64 s (Ke .i64 1 x.1))) (.inr ())
noncomputable def C2 (l : List Ma) : Int ⊕ Unit := Ob (fun _ s x => Kt s x) 0 0 l
noncomputable def Oe (l : List Ma) : Bool := Is (C2 l)
theorem Px (l : List Ma) (hn : l.length ≤ Ka) : Uk l = some (Oe l, ()) := by
 have h20 : Ka = 1048576 := rfl
 have hl := Tg (step := fun x => Lv x.1.1 x.1.2.1 x.1.2.2.1 x.1.2.2.2.1) l (fun _ s x => Kt s x) (fun s i => ((s, l, ((ja l : Nat) : Int), i, ()), ()))
  (fun _ => .inl ((), ())) (fun _ => .inr ((false, ()), ())) (fun _ _ => True) (by
   intro k hk s _
   refine ⟨?_, fun _ _ => trivial⟩
   simp only [Lv]
   rw [Aa (show (k : Int) < (ja l : Int) by omega), Ec hk]
   simp only [ze, jb]
   generalize l[k] = x
   simp only [Kt, Ms, Hk, jb]
   by_cases h1 : 0 ≤ x.1
   ·rw [Ba (show ¬ x.1 < 0 by omega), VD s h1]
    by_cases h2 : x.1 ≤ 31
    ·rw [Ba (show ¬ x.1 > 31 by omega), Aa (show 0 ≤ x.1 ∧ x.1 ≤ 31 from ⟨h1, h2⟩), Aa h1]
     simp only [jb, zf]
     cases Gk s x.1 == 1 <;> cases Wb x.2.1 <;> cases x.2.1.1 == 1 <;> cases x.2.1.1 == 6 <;> cases x.2.1.1 == 7 <;> rfl
    ·rw [Aa (show x.1 > 31 by omega), Ba (show ¬ (0 ≤ x.1 ∧ x.1 ≤ 31) by omega)]; rfl
   ·rw [Aa (show x.1 < 0 by omega), Ba (show ¬ (0 ≤ x.1 ∧ x.1 ≤ 31) by omega)]; rfl)
  (by
   intro s _
   simp only [Lv]
   rw [Ba (by omega)]; rfl) (by omega) 0 trivial
 unfold Uk Nw
 erw [hl]
 show jz (some _) _ = _
 simp only [jb, Oe, C2]
 cases Ob (fun x s x => Kt s x) 0 0 l <;> rfl
theorem AY (l : List Ma) (hn : l.length ≤ Ka) : CK l = some (Oe l, ()) := by
 have h20 : Ka = 1048576 := rfl
 have hl := Tg (step := fun x => Yv x.1.1 x.1.2.1 x.1.2.2.1) l (fun _ s x => Kt s x) (fun s i => ((l, s, i, ()), ()))
  (fun _ => .inl ((), ())) (fun _ => .inr ((false, ()), ())) (fun _ _ => True) (by
   intro k hk s _
   refine ⟨?_, fun _ _ => trivial⟩
   simp only [Yv]
   rw [Aa (show (k : Int) < (ja l : Int) by omega), Ec hk]
   simp only [ze, jb]
   generalize l[k] = x
   simp only [Kt, Ms, Zn, SQ, Rd, jb, Mf]
   by_cases h1 : 0 ≤ x.1 ∧ x.1 ≤ 31
   ·rw [Aa h1, Aa h1.1]
    simp only [Gk]
    cases Cl .i64 (Bu .i64 s x.1) 1 == 1 <;> cases Wb x.2.1 <;> cases x.2.1.1 == 1 <;> cases x.2.1.1 == 6 <;> cases x.2.1.1 == 7 <;> rfl
   ·rw [Ba h1]; rfl)
  (by
   intro s _
   simp only [Yv]
   rw [Ba (by omega)]; rfl) (by omega) 0 trivial
 unfold CK QE
 erw [hl]
 show jz (some _) _ = _
 simp only [jb, Oe, C2]
 cases Ob (fun x s x => Kt s x) 0 0 l <;> rfl
structure Iu (x : Ma) : Prop where
 lo : 0 ≤ x.1
 hi : x.1 ≤ 31
 act : Wb x.2.1 = true
 n1 : x.2.1.1 ≠ 1
 n6 : x.2.1.1 ≠ 6
 n7 : x.2.1.1 ≠ 7
theorem Fah {s : Int} {x : Ma} (h : Ms s x = true) : Iu x ∧ Gk s x.1 ≠ 1 := by
 simp only [Ms, jd, decide_eq_true_eq, yj, beq_eq_false_iff_ne] at h
 exact ⟨⟨h.1.1, h.1.2, h.2.2.1, h.2.2.2.1, h.2.2.2.2.1, h.2.2.2.2.2⟩, h.2.1⟩
theorem C4 : ∀ {l : List Ma} {k : Nat} {s : Int}, Is (Ob (fun _ s x => Kt s x) k s l) = true → ∀ x ∈ l, Iu x
 | [], _, _, _, x, hx => by simp at hx
 | y :: l, k, s, h, x, hx => by
  simp only [Ob, Kt] at h
  cases hc : Ms s y with
  | false => rw [hc] at h; simp [Is] at h
  | true =>
   rw [hc] at h
   simp only [ze] at h
   rcases jp.1 hx with rfl | hx
   ·exact (Fah hc).1
   ·exact C4 h x hx
theorem Tw {l : List Ma} (h : Oe l = true) : ∀ x ∈ l, Iu x := C4 h
def Tv (l : List Ma) : Int := Lc (fun _ s (x : Ma) => Xe .i64 s (Ke .i64 1 x.1)) 0 0 l
theorem MH (l : List Ma) (hn : l.length ≤ Ka) (hx : ∀ x ∈ l, Iu x) : Yo l = some (Tv l, ()) := by
 have h20 : Ka = 1048576 := rfl
 have hl := (Bg (step := fun x => Ir x.1.1 x.1.2.1 x.1.2.2.1 x.1.2.2.2.1) l (fun _ s (x : Ma) => Xe .i64 s (Ke .i64 1 x.1)) (fun s i => ((s, l, ((ja l : Nat) : Int), i, ()), ()))
  (fun s => .inl ((s, ()), ())) (fun _ _ => True) (by
   intro k hk s _
   refine ⟨?_, trivial⟩
   simp only [Ir]
   rw [Aa (show (k : Int) < (ja l : Int) by omega), Ec hk]
   simp only [ze, jb]
   rw [Aa (hx _ (qi hk)).lo]; rfl)
  (by
   intro s _
   simp only [Ir]
   rw [Ba (by omega)]; rfl) (by omega) 0 trivial).1
 unfold Yo Wt
 erw [hl]
 rfl
theorem TU {α β : Type} (p : β → Bool) (f : α → β) : ∀ (xs : List α) (k : Nat), Vd p k (xs.map f) = Vd (fun x => p (f x)) k xs
 | [], _ => rfl
 | x :: xs, k => by simp only [yi, Vd, TU p f xs]
theorem NA {α : Type} (p : α → Bool) : ∀ (xs : List α) (k : Nat), Vd p k xs = -1 ∨ ∃ j : Nat, j < xs.length ∧ Vd p k xs = ((k + j : Nat) : Int)
 | [], _ => .inl rfl
 | x :: xs, k => by
  simp only [Vd]
  cases p x with
  | true => exact .inr ⟨0, by simp, by simp⟩
  | false =>
   rcases NA p xs (k + 1) with h | ⟨j, h1, h2⟩
   ·exact .inl h
   ·exact .inr ⟨j + 1, by simp; omega, by simp only [zf]; rw [h2]; omega⟩
theorem BO {α : Type} (p : α → Bool) : ∀ (xs : List α) (k : Nat), (Ob (fun k (_ : Unit) x => cond (p x) (.inr (k : Int)) (.inl ())) k () xs : Unit ⊕ Int) = if Vd p k xs = -1 then .inl () else .inr (Vd p k xs)
 | [], _ => rfl
 | x :: xs, k => by
  rcases Bool.eq_false_or_eq_true (p x) with hp | hp
  ·simp only [Ob, Vd, hp, ze]; rw [if_neg (by omega)]
  ·simp only [Ob, Vd, hp, zf]; exact BO p xs (k + 1)
theorem ZJ {X R α : Type} {step : X → Option (X ⊕ R)} (xs : List α) (p : α → Bool) (I : Int → X) (no : R) (yes : Int → R)
 (h : ∀ k (hk : k < xs.length), step (I (k : Int)) = some (cond (p xs[k]) (.inr (yes (k : Int))) (.inl (I (j5 .i64 ((k : Int) + 1))))))
 (he : step (I (xs.length : Int)) = some (.inr no)) (hn : xs.length < 9223372036854775807) :
 Gb step (I 0) = some (if Vd p 0 xs = -1 then no else yes (Vd p 0 xs)) := by
 have := Tg (step := step) xs (fun k (_ : Unit) x => cond (p x) (.inr (k : Int)) (.inl ())) (fun _ i => I i) (fun _ => no) yes (fun _ _ => True) (fun k hk s _ => by
  refine ⟨?_, fun _ _ => trivial⟩
  rw [h k hk]
  cases p xs[k] <;> rfl) (fun _ _ => he) hn () trivial
 rw [this, BO]
 by_cases hc : Vd p 0 xs = -1
 ·rw [if_pos hc, if_pos hc]
 ·rw [if_neg hc, if_neg hc]
def Md (h : Ma) : Yb := (h.2.1.2.1, h.2.1.2.2.1, ())
def Dk (c m : Int) (h : Ma) : Bool := (h.2.1.2.1 == c) && (h.2.1.2.2.1 == m)
theorem AL (l : List Yb) (c : Yb) (hn : l.length ≤ Ka) : Az l c = some (Vd (fun x => Iv Uf x c) 0 l, ()) := by
 have h20 : Ka = 1048576 := rfl
 have hl := ZJ (step := fun x => Sv x.1.1 x.1.2.1 x.1.2.2.1 x.1.2.2.2.1 x.2.1) l (fun x => Iv Uf x c) (fun i => (((), l, ((ja l : Nat) : Int), i, ()), (c, ())))
  (.inl ((), ())) (fun i => .inr ((i, ()), ())) (by
   intro k hk
   simp only [Sv]
   rw [Aa (show (k : Int) < (ja l : Int) by omega), Ec hk]
   simp only [ze, jb]
   cases Iv Uf l[k] c <;> rfl) (by
   simp only [Sv]
   rw [Ba (by omega)]; rfl) (by omega)
 unfold Az Rw
 erw [hl]
 simp only [jb]
 by_cases hc : Vd (fun x => Iv Uf x c) 0 l = -1
 ·rw [if_pos hc, hc]; rfl
 ·rw [if_neg hc]; rfl
theorem BY (l : List Ma) (x : Lb) (hn : l.length ≤ Ka) : DK l x = some (Vd (Dk x.2.1 x.2.2.1) 0 l, ()) := by
 have h20 : Ka = 1048576 := rfl
 have hl := ZJ (step := fun y => Zv y.1.1 y.1.2.1 y.1.2.2.1 y.2.1) l (Dk x.2.1 x.2.2.1) (fun i => ((l, (), i, ()), (x, ())))
  (.inl ((), ())) (fun i => .inr ((i, ()), ())) (by
   intro k hk
   simp only [Zv]
   rw [Aa (show (k : Int) < (ja l : Int) by omega), Ec hk]
   simp only [ze, jb, Dk]
   cases l[k].2.1.2.1 == x.2.1 <;> cases l[k].2.1.2.2.1 == x.2.2.1 <;> rfl) (by
   simp only [Zv]
   rw [Ba (by omega)]; rfl) (by omega)
 unfold DK RE
 erw [hl]
 simp only [jb]
 by_cases hc : Vd (Dk x.2.1 x.2.2.1) 0 l = -1
 ·rw [if_pos hc, hc]; rfl
 ·rw [if_neg hc]; rfl
theorem VV (L : List Ma) (c m : Int) : Vd (fun x => Iv Uf x (c, m, ())) 0 (L.map Md) = Vd (Dk c m) 0 L := by
 rw [TU]
 congr 1
 funext h
 simp only [Md, Iv, Dk, Bool.and_true]
def Ch {α : Type} (l : List α) (r : Nat) : List α := jf (Xa l 0 r) (Xa l (r + 1) l.length)
theorem Y6 {α : Type} {l : List α} {r : Nat} (h : r < l.length) : (Ch l r).length = l.length - 1 := by
 simp [Ch, Xa]; omega
theorem RR {α β : Type} (f : α → β) (l : List α) (r : Nat) : Ch (l.map f) r = (Ch l r).map f := by
 simp [Ch, Xa, List.map_take, List.map_drop]
 rw [List.take_of_length_le (by simp)]
theorem WN {α : Type} {l : List α} {r : Nat} (h : r < l.length) : Jd (ja l) 0 (r : Int) = true ∧ Jd (ja l) ((r + 1 : Nat) : Int) ((ja l : Nat) : Int) = true := by
 simp only [Jd, jd, decide_eq_true_eq]
 omega
theorem UQ (l : List Ma) {r : Nat} (h : r < l.length) (hn : l.length ≤ Ka) : Zx l (r : Int) = some (Ch l r, ()) := by
 have h20 : Ka = 1048576 := rfl
 have hc := WN h
 unfold Zx
 rw [Af (by omega), hc.1, hc.2]
 have e1 : jx (ja ([] : List Ma) + ja (Xa l (jy 0) (jy (r : Int)))) Oa = true := ji (by simp [Xa]; rw [Vh]; omega)
 have e2 : jx (ja (jf ([] : List Ma) (Xa l (jy 0) (jy (r : Int)))) + ja (Xa l (jy ((r + 1 : Nat) : Int)) (jy ((ja l : Nat) : Int)))) Oa = true :=
  ji (by simp [Xa]; rw [Vh]; omega)
 rw [e1, e2]
 simp only [ze]
 rfl
noncomputable def Tl (x : Lb) (r : Int) : Bool := Wb (2, x.2.1, x.2.2.1, 0, ()) && (((x.1 == 0) && !decide (r ≥ 0)) || (((x.1 == 1) && !decide (r ≥ 0)) || ((x.1 == 2) && decide (r ≥ 0))))
def Ip (x : Lb) : Ma := (0, (2, x.2.1, x.2.2.1, 0, ()), ())
def WC (x : Lb) (L : List Ma) (r : Int) : List Ma := cond (x.1 == 1) (jf L [Ip x]) (cond (x.1 == 2) (Ch L r.toNat) L)
noncomputable def Xl (L : List Ma) (x : Lb) : List Ma ⊕ Unit := cond (Tl x (Vd (Dk x.2.1 x.2.2.1) 0 L)) (.inl (WC x L (Vd (Dk x.2.1 x.2.2.1) 0 L))) (.inr ())
theorem KX {L L' : List Ma} {x : Lb} (h : Xl L x = .inl L') : L'.length ≤ L.length + 1 := by
 unfold Xl at h
 cases hc : Tl x (Vd (Dk x.2.1 x.2.2.1) 0 L) with
 | false => rw [hc] at h; simp at h
 | true =>
  rw [hc] at h
  simp only [ze, yz] at h
  rw [← h]
  unfold WC
  cases x.1 == 1 with
  | true => simp
  | false =>
   cases x.1 == 2 with
   | true => simp [Ch, Xa]; omega
   | false => simp
theorem S0 (l : List Lb) (k : Nat) (hk : k < l.length) (L : List Ma) (hL : L.length ≤ k) (hn : l.length ≤ Ka) :
 Bo l L (k : Int) = some (match Xl L l[k] with | .inl L' => .inl ((l, L', j5 .i64 ((k : Int) + 1), ()), ()) | .inr _ => .inr (.inr ((false, ()), ()))) := by
 have h20 : Ka = 1048576 := rfl
 simp only [Bo]
 rw [Aa (show (k : Int) < (ja l : Int) by omega), Ec hk]
 simp only [ze, jb]
 rw [BY L l[k] (by omega)]
 simp only [jb, Rd, HF, Zn, Xl, Tl, WC, Ip]
 generalize hx : l[k] = x
 generalize hr : Vd (Dk x.2.1 x.2.2.1) 0 L = r
 have hble : jx (ja L + ja [Ip x]) Oa = true := ji (by simp [Vh]; omega)
 have hble' : jx (ja L + ja ([((0 : Int), ((2 : Int), x.2.1, x.2.2.1, (0 : Int), ()), ())] : List Ma)) Oa = true := hble
 have hw : decide (r ≥ 0) = true → Zx L r = some (Ch L r.toNat, ()) := by
  intro h
  rcases NA (Dk x.2.1 x.2.2.1) L 0 with h1 | ⟨j, h1, h2⟩
  ·rw [hr] at h1; rw [h1] at h; simp at h
  ·rw [hr] at h2
   have : r = (j : Int) := by omega
   rw [this, UQ L h1 (by omega)]
   simp
 by_cases k0 : x.1 = 0
 ·simp only [k0]
  cases Wb ((2 : Int), x.2.1, x.2.2.1, (0 : Int), ()) <;> cases decide (r ≥ 0) <;> rfl
 by_cases k1 : x.1 = 1
 ·simp only [k1]
  rw [hble']
  cases Wb ((2 : Int), x.2.1, x.2.2.1, (0 : Int), ()) <;> cases decide (r ≥ 0) <;> rfl
 by_cases k2 : x.1 = 2
 ·simp only [k2]
  cases hd : decide (r ≥ 0) with
  | false => cases Wb ((2 : Int), x.2.1, x.2.2.1, (0 : Int), ()) <;> rfl
  | true =>
   rw [hw hd]
   cases Wb ((2 : Int), x.2.1, x.2.2.1, (0 : Int), ()) <;> rfl
 ·have e0 : (x.1 == 0) = false := by simpa using k0
  have e1 : (x.1 == 1) = false := by simpa using k1
  have e2 : (x.1 == 2) = false := by simpa using k2
  rw [Ba (show ¬ (0 ≤ x.1 ∧ x.1 ≤ 2) by omega), e0, e1, e2]
  cases Wb ((2 : Int), x.2.1, x.2.2.1, (0 : Int), ()) <;> rfl
theorem G0 (l : List Lb) (k : Nat) (hk : k < l.length) (L : List Ma) (hL : L.length ≤ k) (hn : l.length ≤ Ka) :
 Sn (L.map Md) l ((ja l : Nat) : Int) (k : Int) =
  some (match Xl L l[k] with | .inl L' => .inl ((L'.map Md, l, ((ja l : Nat) : Int), j5 .i64 ((k : Int) + 1), ()), ()) | .inr _ => .inr (.inr ((false, ()), ()))) := by
 have h20 : Ka = 1048576 := rfl
 simp only [Sn]
 rw [Aa (show (k : Int) < (ja l : Int) by omega), Ec hk]
 simp only [ze, jb]
 rw [AL (L.map Md) _ (by simp; omega), VV]
 simp only [jb, Hk, Xl, Tl, WC, Ip]
 generalize hx : l[k] = x
 generalize hr : Vd (Dk x.2.1 x.2.2.1) 0 L = r
 have hble : jx (ja (L.map Md) + ja ([(x.2.1, x.2.2.1, ())] : List Yb)) Oa = true := ji (by simp [Vh]; omega)
 have happ : jf (L.map Md) ([(x.2.1, x.2.2.1, ())] : List Yb) = (jf L [((0 : Int), ((2 : Int), x.2.1, x.2.2.1, (0 : Int), ()), ())]).map Md := by
  show _ ++ _ = za Md (_ ++ _)
  rw [yu]; rfl
 by_cases k0 : x.1 = 0
 ·simp only [k0]
  cases Wb ((2 : Int), x.2.1, x.2.2.1, (0 : Int), ()) <;> cases decide (r ≥ 0) <;> rfl
 by_cases k1 : x.1 = 1
 ·simp only [k1]
  rw [hble, happ]
  cases Wb ((2 : Int), x.2.1, x.2.2.1, (0 : Int), ()) <;> cases decide (r ≥ 0) <;> rfl
 by_cases k2 : x.1 = 2
 ·simp only [k2]
  rcases NA (Dk x.2.1 x.2.2.1) L 0 with h1 | ⟨j, h1, h2⟩
  ·rw [hr] at h1
   rw [h1]
   cases Wb ((2 : Int), x.2.1, x.2.2.1, (0 : Int), ()) <;> rfl
  ·rw [hr] at h2
   have hrj : r = (j : Int) := by omega
   rw [hrj]
   have hj : j < (L.map Md).length := by simpa using h1
   have hc := WN hj
   rw [Af (k := j) (by omega), hc.1, hc.2, Ba (show ¬ (j : Int) < 0 by omega), Aa (show (j : Int) ≥ 0 by omega)]
   have e1 : jx (ja (Xa (L.map Md) (jy 0) (jy (j : Int))) + ja (Xa (L.map Md) (jy ((j + 1 : Nat) : Int)) (jy ((ja (L.map Md) : Nat) : Int)))) Oa = true :=
    ji (by simp [Xa]; rw [Vh]; omega)
   have e2 : jf (Xa (L.map Md) (jy 0) (jy (j : Int))) (Xa (L.map Md) (jy ((j + 1 : Nat) : Int)) (jy ((ja (L.map Md) : Nat) : Int))) = (Ch L (jy (j : Int))).map Md := by
    rw [← RR]
    simp [Ch]
   rw [e1, e2]
   cases Wb ((2 : Int), x.2.1, x.2.2.1, (0 : Int), ()) <;> rfl
 ·have e0 : (x.1 == 0) = false := by simpa using k0
  have e1 : (x.1 == 1) = false := by simpa using k1
  have e2 : (x.1 == 2) = false := by simpa using k2
  rw [e0, e1, e2]
  cases Wb ((2 : Int), x.2.1, x.2.2.1, (0 : Int), ()) <;> rfl
noncomputable def JX (l : List Lb) : List Ma ⊕ Unit := Ob (fun _ L x => Xl L x) 0 [] l
noncomputable def Vc (l : List Lb) : Bool := decide (l.length ≤ 8) && (match JX l with | .inl L => ((L.length : Int) == 0) | .inr _ => false)
theorem AW (l : List Lb) (hn : l.length ≤ Ka) : AI l = some (Vc l, ()) := by
 have h20 : Ka = 1048576 := rfl
 have hl := Tg (step := fun x => Bo x.1.1 x.1.2.1 x.1.2.2.1) l (fun _ L x => Xl L x) (fun L i => ((l, L, i, ()), ()))
  (fun L => .inl ((l, L, ()), ())) (fun _ => .inr ((false, ()), ())) (fun k L => L.length ≤ k) (by
   intro k hk L hL
   refine ⟨?_, fun L' h => by have := KX h; omega⟩
   rw [S0 l k hk L hL hn]
   cases Xl L l[k] <;> rfl) (by
   intro s _
   simp only [Bo]
   rw [Ba (by omega)]; rfl) (by omega) [] (by simp)
 unfold AI FC
 erw [hl]
 simp only [jb, Vc, JX]
 cases Ob (fun x L x => Xl L x) 0 [] l with
 | inl L =>
  simp only [qg]
  by_cases h : l.length ≤ 8
  ·rw [Aa (show ((ja l : Nat) : Int) ≤ 8 by omega), Aa h]; rfl
  ·rw [Ba (show ¬ ((ja l : Nat) : Int) ≤ 8 by omega), Ba h]; rfl
 | inr u => cases decide (l.length ≤ 8) <;> rfl
theorem Mv (l : List Lb) (hn : l.length ≤ Ka) : Rn l = some (Vc l, ()) := by
 have h20 : Ka = 1048576 := rfl
 unfold Rn Vc
 by_cases h : l.length ≤ 8
 ·rw [Ba (show ¬ ((ja l : Nat) : Int) > 8 by omega), Aa h]
  have hl := Tg (step := fun x => Sn x.1.1 x.1.2.1 x.1.2.2.1 x.1.2.2.2.1) l (fun _ L x => Xl L x) (fun L i => ((L.map Md, l, ((ja l : Nat) : Int), i, ()), ()))
   (fun L => .inl ((L.map Md, ()), ())) (fun _ => .inr ((false, ()), ())) (fun k L => L.length ≤ k) (by
    intro k hk L hL
    refine ⟨?_, fun L' h => by have := KX h; omega⟩
    rw [G0 l k hk L hL hn]
    cases Xl L l[k] <;> rfl) (by
    intro s _
    simp only [Sn]
    rw [Ba (by omega)]; rfl) (by omega) [] (by simp)
  unfold Bv
  erw [hl]
  simp only [JX]
  cases Ob (fun x L x => Xl L x) 0 [] l with
  | inl L =>
   show some _ = some _
   simp only [yp]
   rfl
  | inr u => rfl
 ·rw [Aa (show ((ja l : Nat) : Int) > 8 by omega), Ba h]; rfl
noncomputable def Qi (keys : Int) (nl : Nat) (x : Ma) : Bool := !decide (x.1 ≥ keys) && !((x.2.1.1 != 9) && decide (x.2.1.2.2.2.1 ≥ (nl : Int)))
noncomputable def Ag (e : Qb) : Bool :=
 Gc e.1 && (decide (e.2.1.length ≤ 4) && (Oe e.2.2.2.1 && (Ae (fun _ m => Vc m) 0 e.2.1 && (Ae (fun _ x => Qi e.1.1 e.1.2.1.length x) 0 e.2.2.2.1 &&
  (decide (0 ≤ e.2.2.1 ∧ e.2.2.1 < ((2 ^ e.1.2.1.length : Nat) : Int)) && ((yc e.2.2.1 2 == 0) && decide (0 ≤ e.2.2.2.2.1 ∧ e.2.2.2.2.1 ≤ 15)))))))
theorem Bl (e : Qb) : Eb Rc e = Eb Ua e.1 + (Eb (.sl (.sl Kd)) e.2.1 + Eb (.sl Mj) e.2.2.2.1) := by
 simp only [Eb, ya, js]
theorem Xu (l : List Ma) : Eb (.sl Mj) l = l.length := Yq (e := Mj) rfl l
theorem IY (l : List Lb) : Eb (.sl Kd) l = l.length := Yq (e := Kd) rfl l
theorem HY {e : Ty} (l : List (T e)) : ja l ≤ Eb (.sl e) l := Nat.le_add_right _ _
theorem Zah {e : Ty} {l : List (T e)} {k : Nat} (hk : k < ja l) : Eb e (List.get l ⟨k, hk⟩) ≤ Eb (.sl e) l :=
 qa (Ay (f := Eb e) hk) (Nat.le_add_left _ _)
theorem DV (e : Qb) (hz : Eb Rc e ≤ Ka) : Km (((), e.2.1, ((ja e.2.1 : Nat) : Int), (0 : Int), ()), (e, ())) =
 some (cond (Ae (fun _ m => Vc m) 0 e.2.1) (.inl (((), ()), (e, ()))) (.inr ((false, ()), ()))) := by
 have h20 : Ka = 1048576 := rfl
 rw [Bl] at hz
 have hl := HY (e := .sl Kd) e.2.1
 unfold Km
 refine Fh (step := fun x => Cr x.1.1 x.1.2.1 x.1.2.2.1 x.1.2.2.2.1 x.2.1) e.2.1 (fun _ m => Vc m) (fun i => (((), e.2.1, ((ja e.2.1 : Nat) : Int), i, ()), (e, ()))) _ _ ?_ ?_ (by omega)
 ·intro k hk
  simp only [Cr]
  have hk2 : (k : Int) < ((ja e.2.1 : Nat) : Int) := by omega
  rw [Aa hk2, Ec hk]
  simp only [ze, jb]
  have he := Zah (e := .sl Kd) hk
  rw [IY] at he
  rw [Mv e.2.1[k] (by have : (List.get e.2.1 ⟨k, hk⟩) = e.2.1[k] := rfl; rw [this] at he; omega)]
  simp only [jb]
  cases Vc e.2.1[k] <;> rfl
 ·simp only [Cr]
  rw [Ba (by omega)]; rfl
theorem CW (e : Qb) (hz : Eb Rc e ≤ Ka) : Eu (((), (0 : Int), ()), (e, ())) =
 some (cond (Ae (fun _ m => Vc m) 0 e.2.1) (.inl (((), ()), (e, ()))) (.inr ((false, ()), ()))) := by
 have h20 : Ka = 1048576 := rfl
 rw [Bl] at hz
 have hl := HY (e := .sl Kd) e.2.1
 unfold Eu
 refine Fh (step := fun x => Mr x.1.1 x.1.2.1 x.2.1) e.2.1 (fun _ m => Vc m) (fun i => (((), i, ()), (e, ()))) _ _ ?_ ?_ (by omega)
 ·intro k hk
  simp only [Mr]
  have hk2 : (k : Int) < ((ja e.2.1 : Nat) : Int) := by omega
  rw [Aa hk2, Ec hk]
  simp only [ze, jb]
  have he := Zah (e := .sl Kd) hk
  rw [IY] at he
  rw [AW e.2.1[k] (by have : (List.get e.2.1 ⟨k, hk⟩) = e.2.1[k] := rfl; rw [this] at he; omega)]
  simp only [jb]
  cases Vc e.2.1[k] <;> rfl
 ·simp only [Mr]
  rw [Ba (by omega)]; rfl
theorem D0 (e : Qb) (hz : Eb Rc e ≤ Ka) : Kl (((), ((ja e.1.2.1 : Nat) : Int), e.2.2.2.1, ((ja e.2.2.2.1 : Nat) : Int), (0 : Int), ()), (e, ())) =
 some (cond (Ae (fun _ x => Qi e.1.1 e.1.2.1.length x) 0 e.2.2.2.1) (.inl (((), ((ja e.1.2.1 : Nat) : Int), ()), (e, ()))) (.inr ((false, ()), ()))) := by
 have h20 : Ka = 1048576 := rfl
 rw [Bl, Xu] at hz
 unfold Kl
 refine Fh (step := fun x => Lp x.1.1 x.1.2.1 x.1.2.2.1 x.1.2.2.2.1 x.1.2.2.2.2.1 x.2.1) e.2.2.2.1 (fun _ x => Qi e.1.1 e.1.2.1.length x)
  (fun i => (((), ((ja e.1.2.1 : Nat) : Int), e.2.2.2.1, ((ja e.2.2.2.1 : Nat) : Int), i, ()), (e, ()))) _ _ ?_ ?_ (by omega)
 ·intro k hk
  simp only [Lp]
  have hk2 : (k : Int) < ((ja e.2.2.2.1 : Nat) : Int) := by omega
  rw [Aa hk2, Ec hk]
  simp only [ze, jb, Qi]
  cases decide (e.2.2.2.1[k].1 ≥ e.1.1) <;> cases (e.2.2.2.1[k].2.1.1 != 9) <;> cases decide (e.2.2.2.1[k].2.1.2.2.2.1 ≥ ((ja e.1.2.1 : Nat) : Int)) <;> rfl
 ·simp only [Lp]
  rw [Ba (by omega)]; rfl
theorem Q0 (e : Qb) (hz : Eb Rc e ≤ Ka) : Fu (((), (0 : Int), ()), (e, ())) =
 some (cond (Ae (fun _ x => Qi e.1.1 e.1.2.1.length x) 0 e.2.2.2.1) (.inl (((), ()), (e, ()))) (.inr ((false, ()), ()))) := by
 have h20 : Ka = 1048576 := rfl
 rw [Bl, Xu] at hz
 unfold Fu
 refine Fh (step := fun x => Nr x.1.1 x.1.2.1 x.2.1) e.2.2.2.1 (fun _ x => Qi e.1.1 e.1.2.1.length x) (fun i => (((), i, ()), (e, ()))) _ _ ?_ ?_ (by omega)
 ·intro k hk
  simp only [Nr]
  have hk2 : (k : Int) < ((ja e.2.2.2.1 : Nat) : Int) := by omega
  rw [Aa hk2, Ec hk]
  simp only [ze, jb, Qi]
  cases decide (e.2.2.2.1[k].1 ≥ e.1.1) <;> cases (e.2.2.2.1[k].2.1.1 != 9) <;> cases decide (e.2.2.2.1[k].2.1.2.2.2.1 ≥ ((ja e.1.2.1 : Nat) : Int)) <;> rfl
 ·simp only [Nr]
  rw [Ba (by omega)]; rfl
theorem KH (e : Qb) (hz : Eb Rc e ≤ Ka) : Ou e = some (Ag e, ()) := by
 have h20 : Ka = 1048576 := rfl
 have hz' := hz
 rw [Bl, Xu] at hz'
 unfold Ou Ag
 rw [Dh e.1 (by omega)]
 cases hk : Gc e.1 with
 | false => rfl
 | true =>
  simp only [jb, jg, zf, jk]
  by_cases h4 : e.2.1.length ≤ 4
  ·rw [Ba (show ¬ ((ja e.2.1 : Nat) : Int) > 4 by omega), Aa h4, Px _ (by omega)]
   simp only [jb, zf, jk]
   cases hh : Oe e.2.2.2.1 with
   | false => rfl
   | true =>
    simp only [jg, zf, jk]
    rw [DV e hz]
    have hl := (Hd hk).l2
    by_cases ho : 0 ≤ e.2.2.2.2.1 ∧ e.2.2.2.2.1 ≤ 15
    ·rw [Ba (show ¬ e.2.2.2.2.1 < 0 by omega), Ba (show ¬ e.2.2.2.2.1 > 15 by omega), Aa ho]
     simp only [zf, jb, Bool.and_true]
     cases Ae (fun _ m => Vc m) 0 e.2.1 with
     | false => rfl
     | true =>
      simp only [ze, qg, jk]
      rw [D0 e hz]
      cases Ae (fun _ x => Qi e.1.1 e.1.2.1.length x) 0 e.2.2.2.1 with
      | false => rfl
      | true =>
       simp only [ze, jb, qg, jk]
       rw [Uu (by omega), Aa (show (0 : Int) ≤ ((ja e.1.2.1 : Nat) : Int) by omega)]
       have e2 : ((2 : Int) == 0) = false := rfl
       rw [e2]
       simp only [zf, ze]
       by_cases hf : 0 ≤ e.2.2.1
       ·rw [Aa (show e.2.2.1 ≥ 0 from hf)]
        by_cases hf2 : e.2.2.1 < ((2 ^ e.1.2.1.length : Nat) : Int)
        ·rw [Aa hf2, Aa (show 0 ≤ e.2.2.1 ∧ e.2.2.1 < ((2 ^ e.1.2.1.length : Nat) : Int) from ⟨hf, hf2⟩)]
         cases yc e.2.2.1 2 == 0 <;> rfl
        ·rw [Ba hf2, Ba (show ¬ (0 ≤ e.2.2.1 ∧ e.2.2.1 < ((2 ^ e.1.2.1.length : Nat) : Int)) from fun h => hf2 h.2)]
         cases yc e.2.2.1 2 == 0 <;> rfl
       ·rw [Ba (show ¬ e.2.2.1 ≥ 0 from hf), Ba (show ¬ (0 ≤ e.2.2.1 ∧ e.2.2.1 < ((2 ^ e.1.2.1.length : Nat) : Int)) from fun h => hf h.1)]
        rfl
    ·have hr : (Ae (fun _ m => Vc m) 0 e.2.1 && (Ae (fun _ x => Qi e.1.1 e.1.2.1.length x) 0 e.2.2.2.1 && (decide (0 ≤ e.2.2.1 ∧ e.2.2.1 < ((2 ^ e.1.2.1.length : Nat) : Int)) && ((yc e.2.2.1 2 == 0) && decide (0 ≤ e.2.2.2.2.1 ∧ e.2.2.2.2.1 ≤ 15))))) = false := by
      rw [Ba ho]; simp
     rw [hr]
     by_cases h1 : e.2.2.2.2.1 < 0
     ·rw [Aa h1]; rfl
     ·rw [Ba h1, Aa (show e.2.2.2.2.1 > 15 by omega)]; rfl
  ·rw [Aa (show ((ja e.2.1 : Nat) : Int) > 4 by omega), Ba h4]; rfl
theorem PT (e : Qb) (hz : Eb Rc e ≤ Ka) : EF e = some (Ag e, ()) := by
 have h20 : Ka = 1048576 := rfl
 have hz' := hz
 rw [Bl, Xu] at hz'
 unfold EF Ag
 rw [Pk e.1 (by omega)]
 cases hk : Gc e.1 with
 | false => rfl
 | true =>
  simp only [jb, jg, zf, jk]
  by_cases h4 : e.2.1.length ≤ 4
  ·rw [Ba (show ¬ ((ja e.2.1 : Nat) : Int) > 4 by omega), Aa h4, AY _ (by omega)]
   simp only [jb, zf, jk]
   cases hh : Oe e.2.2.2.1 with
   | false => rfl
   | true =>
    simp only [jg, zf, jk]
    rw [CW e hz]
    have hl := (Hd hk).l2
    cases Ae (fun _ m => Vc m) 0 e.2.1 with
    | false => rfl
    | true =>
     simp only [ze, jb, qg, jk]
     rw [Q0 e hz]
     cases Ae (fun _ x => Qi e.1.1 e.1.2.1.length x) 0 e.2.2.2.1 with
     | false => rfl
     | true =>
      simp only [ze, jb, qg, jk, Rd]
      have hp : (2 ^ e.1.2.1.length : Nat) ≤ 16 := Nat.pow_le_pow_right (n := 2) (by omega) hl
      rw [Uu (by omega), Aa (show (0 : Int) ≤ ((ja e.1.2.1 : Nat) : Int) by omega)]
      generalize (2 ^ e.1.2.1.length : Nat) = P2 at hp ⊢
      rw [Gd (by omega) (by omega)]
      have e2 : ((2 : Int) == 0) = false := rfl
      rw [e2]
      simp only [zf, ze, jb]
      have e3 : decide (0 ≤ e.2.2.1 ∧ e.2.2.1 ≤ (P2 : Int) - 1) = decide (0 ≤ e.2.2.1 ∧ e.2.2.1 < (P2 : Int)) := by
       rw [decide_eq_decide]; omega
      rw [e3]
      cases decide (0 ≤ e.2.2.1 ∧ e.2.2.1 < (P2 : Int)) <;> cases yc e.2.2.1 2 == 0 <;> rfl
  ·rw [Aa (show ((ja e.2.1 : Nat) : Int) > 4 by omega), Ba h4]; rfl
def Ni (x : Wa) : Bool := decide (0 ≤ x.1 ∧ x.1 ≤ 1000000) && decide (0 ≤ x.2.1 ∧ x.2.1 ≤ 31)
theorem VI (x : Wa) : Mw x = some (Ni x, ()) := by
 unfold Mw Ni
 simp only [Oi, Pi]
 apply Jc
 simp only [Ad, decide_eq_true_eq, jq, and_false, or_false, jd]
 omega
theorem ZV (x : Wa) : ZH x = some (Ni x, ()) := by
 unfold ZH Ni
 simp only [Rd, jb, Oi, Pi]
 apply Jc
 simp only [Ad, decide_eq_true_eq, jq, and_false, or_false, jd]
def Hp (s : Int × Int) (x : Wa) : Bool := Ni x && (!decide (s.1 > x.1) && !(x.2.2.1 == (Gk s.2 x.2.1 == 1)))
def Iw (s : Int × Int) (x : Wa) : (Int × Int) ⊕ Unit := cond (Hp s x) (.inl (x.1, Yn .i64 s.2 (Ke .i64 1 x.2.1))) (.inr ())
def A4 (l : List Wa) (d : Int) : (Int × Int) ⊕ Unit := Ob (fun _ s x => Iw s x) 0 (0, d) l
def OA (l : List Wa) (d : Int) : Int × Bool := cond (decide (l.length ≤ 64)) (match A4 l d with | .inl s => (s.2, true) | .inr _ => (0, false)) (0, false)
theorem Gp {x : Wa} (h : Ni x = true) : 0 ≤ x.1 ∧ x.1 ≤ 1000000 ∧ 0 ≤ x.2.1 ∧ x.2.1 ≤ 31 := by
 simp only [Ni, jd, decide_eq_true_eq] at h
 omega
theorem FX (l : List Wa) (d : Int) (hn : l.length ≤ Ka) : WD l d = some ((OA l d).1, (OA l d).2, ()) := by
 have h20 : Ka = 1048576 := rfl
 unfold WD OA
 by_cases h64 : l.length ≤ 64
 ·rw [Ba (show ¬ ((ja l : Nat) : Int) > 64 by omega), Aa h64]
  have hl := Tg (step := fun x => Qv x.1.1 x.1.2.1 x.1.2.2.1 x.1.2.2.2.1 x.1.2.2.2.2.1) l (fun _ s x => Iw s x) (fun s i => ((l, s.2, l, ((ja l : Nat) : Int), i, ()), ()))
   (fun s => .inl ((s.2, ()), ())) (fun _ => .inr (((0 : Int), false, ()), ())) (fun k s => (k = 0 → s.1 = 0) ∧ ∀ hk : k - 1 < l.length, 0 < k → s.1 = l[k - 1].1) (by
    intro k hk s ⟨hs0, hs1⟩
    refine ⟨?_, ?_⟩
    ·simp only [Qv]
     rw [Aa (show (k : Int) < ((ja l : Nat) : Int) by omega), Ec hk]
     simp only [ze, jb, VI, Iw, Hp]
     generalize hx : l[k] = x
     cases hev : Ni x with
     | false => rfl
     | true =>
      have hkey := Gp hev
      simp only [jg, zf, jk]
      rw [VD s.2 hkey.2.2.1, Aa hkey.2.2.1]
      simp only [jb, ze]
      by_cases h0 : k = 0
      ·subst h0
       rw [Ba (show ¬ ((0 : Nat) : Int) > 0 by omega), Ba (show ¬ s.1 > x.1 by rw [hs0 rfl]; omega)]
       cases (x.2.2.1 == (Gk s.2 x.2.1 == 1)) <;> rfl
      ·rw [Aa (show (k : Int) > 0 by omega), Gd (by omega) (by omega), show (k : Int) - 1 = ((k - 1 : Nat) : Int) by omega, Ec (show k - 1 < l.length by omega)]
       rw [hs1 (by omega) (by omega)]
       simp only [jb, ze]
       cases decide (l[k - 1].1 > x.1) <;> cases (x.2.2.1 == (Gk s.2 x.2.1 == 1)) <;> rfl
    ·intro s' h
     unfold Iw at h
     cases hc : Hp s l[k] with
     | false => rw [hc] at h; simp at h
     | true =>
      rw [hc] at h
      simp only [ze, yz] at h
      refine ⟨by omega, fun _ _ => ?_⟩
      rw [← h]
      simp only [Nat.add_sub_cancel])
   (by
    intro s _
    simp only [Qv]
    rw [Ba (by omega)]; rfl) (by omega) (0, d) ⟨fun _ => rfl, fun _ h => absurd h (by omega)⟩
  unfold Pw
  erw [hl]
  simp only [zf, jb, A4, ze]
  cases Ob (fun x s x => Iw s x) 0 (0, d) l <;> rfl
 ·rw [Aa (show ((ja l : Nat) : Int) > 64 by omega), Ba h64]; rfl
def QH (keys : Int) (l : List Wa) : Bool := Ae (fun _ (x : Wa) => !decide (x.2.1 ≥ keys)) 0 l
def Sd (q : List Wa) (d keys : Int) : Bool := QH keys q && (OA q d).2
theorem DG (q : List Wa) (d keys : Int) (hn : q.length ≤ Ka) : Gn q d keys = some (Sd q d keys, ()) := by
 have h20 : Ka = 1048576 := rfl
 have hl := Fh (step := fun x => Zp x.1.1 x.1.2.1 x.1.2.2.1 x.1.2.2.2.1 x.1.2.2.2.2.1 x.1.2.2.2.2.2.1) q (fun _ (x : Wa) => !decide (x.2.1 ≥ keys)) (fun i => ((q, d, keys, q, ((ja q : Nat) : Int), i, ()), ()))
  (.inl ((q, d, ()), ())) (.inr ((false, ()), ())) (by
   intro k hk
   simp only [Zp]
   rw [Aa (show (k : Int) < ((ja q : Nat) : Int) by omega), Ec hk]
   simp only [ze, jb]
   cases decide (q[k].2.1 ≥ keys) <;> rfl) (by
   simp only [Zp]
   rw [Ba (by omega)]; rfl) (by omega)
 unfold Gn Es Sd QH
 erw [hl]
 simp only [jb]
 cases Ae (fun _ (x : Wa) => !decide (x.2.1 ≥ keys)) 0 q with
 | false => rfl
 | true => simp only [ze, qg, FX q d hn, jb]; rfl
def Ho (keys : Int) (s : Int × Int) (x : Wa) : (Int × Int) ⊕ Unit := cond (Hp s x && !decide (x.2.1 ≥ keys)) (.inl (x.1, Yn .i64 s.2 (Ke .i64 1 x.2.1))) (.inr ())
theorem RD (keys : Int) : ∀ (l : List Wa) (k : Nat) (s : Int × Int), Is (Ob (fun _ s x => Ho keys s x) k s l) = (Ae (fun _ (x : Wa) => !decide (x.2.1 ≥ keys)) k l && Is (Ob (fun _ s x => Iw s x) k s l))
 | [], _, _ => rfl
 | x :: l, k, s => by
  simp only [Ob, Ae, Ho, Iw]
  cases Hp s x with
  | false => simp [Is]
  | true =>
   cases decide (x.2.1 ≥ keys) with
   | true => simp [Is]
   | false => simp only [jk, j8, ze]; exact RD keys l (k + 1) _
theorem JP (q : List Wa) (d keys : Int) (hn : q.length ≤ Ka) : TB q d keys 0 = some (Sd q d keys, ()) := by
 have h20 : Ka = 1048576 := rfl
 have hl := Tg (step := fun x => No x.1.1 x.1.2.1 x.1.2.2.1 x.1.2.2.2.1 x.1.2.2.2.2.1) q (fun _ s x => Ho keys s x) (fun s i => ((q, s.2, keys, s.1, i, ()), ()))
  (fun s => .inl ((q, ()), ())) (fun _ => .inr ((false, ()), ())) (fun _ _ => True) (by
   intro k hk s _
   refine ⟨?_, fun _ _ => trivial⟩
   simp only [No]
   rw [Aa (show (k : Int) < ((ja q : Nat) : Int) by omega), Ec hk]
   simp only [ze, jb, ZV, Ho, Hp]
   generalize q[k] = x
   cases hev : Ni x with
   | false => rfl
   | true =>
    have hkey := Gp hev
    simp only [jg, zf, jk, Gk]
    rw [Aa hkey.2.2.1]
    simp only [gt_iff_lt]
    cases decide (x.2.1 ≥ keys) <;> cases decide (x.1 < s.1) <;> cases (x.2.2.1 == (Cl .i64 (Bu .i64 s.2 x.2.1) 1 == 1)) <;> rfl)
  (by
   intro s _
   simp only [No]
   rw [Ba (by omega)]; rfl) (by omega) (0, d) trivial
 unfold TB Dz
 erw [hl]
 have hsp := RD keys q 0 (0, d)
 simp only [jb, Sd, QH, OA, A4]
 by_cases h64 : q.length ≤ 64
 ·rw [Aa h64]
  cases h1 : Ob (fun _ s x => Ho keys s x) 0 (0, d) q with
  | inl s =>
   rw [h1] at hsp
   simp only [Is] at hsp
   cases h2 : Ob (fun _ s x => Iw s x) 0 (0, d) q with
   | inl s2 =>
    rw [h2] at hsp
    simp only [Is, Bool.and_true] at hsp
    rw [← hsp]
    simp only [qg]
    rw [Aa (show ((ja q : Nat) : Int) ≤ 64 by omega)]; rfl
   | inr u => rw [h2] at hsp; simp [Is] at hsp
  | inr u =>
   rw [h1] at hsp
   simp only [Is] at hsp
   cases h2 : Ob (fun _ s x => Iw s x) 0 (0, d) q with
   | inl s2 =>
    rw [h2] at hsp
    simp only [Is, Bool.and_true] at hsp
    rw [← hsp]; rfl
   | inr u => cases Ae (fun _ (x : Wa) => !decide (x.2.1 ≥ keys)) 0 q <;> rfl
 ·rw [Ba h64]
  cases h1 : Ob (fun _ s x => Ho keys s x) 0 (0, d) q with
  | inl s => simp only [qg]; rw [Ba (show ¬ ((ja q : Nat) : Int) ≤ 64 by omega)]; cases Ae (fun _ (x : Wa) => !decide (x.2.1 ≥ keys)) 0 q <;> rfl
  | inr u => cases Ae (fun _ (x : Wa) => !decide (x.2.1 ≥ keys)) 0 q <;> rfl
def Ti (t : HC) : Bool := decide (1 ≤ t.1 ∧ t.1 ≤ 1000) && (decide (0 ≤ t.2.1 ∧ t.2.1 ≤ 1000) && decide (0 ≤ t.2.2.1 ∧ t.2.2.1 ≤ 2))
theorem BG (t : HC) : Pu t = some (Ti t, ()) := by
 unfold Pu Ti
 simp only [Oi, Pi]
 apply Jc
 simp only [Ad, decide_eq_true_eq, jq, and_false, or_false, jd]
 omega
theorem TQ (t : HC) : GF t = some (Ti t, ()) := by
 unfold GF Ti
 simp only [Rd, jb, Oi, Pi]
 apply Jc
 simp only [Ad, decide_eq_true_eq, jq, and_false, or_false, jd]
theorem DW (e : Qb) (hn : e.2.2.2.1.length ≤ Ka) (hx : ∀ x ∈ e.2.2.2.1, Iu x) : DI e = some (Tv e.2.2.2.1, ()) := by
 have h20 : Ka = 1048576 := rfl
 have hl := (Bg (step := fun x => Gu x.1.1 x.1.2.1 x.1.2.2.1 x.2.1) e.2.2.2.1 (fun _ s (x : Ma) => Xe .i64 s (Ke .i64 1 x.1)) (fun s i => (((), s, i, ()), (e, ())))
  (fun s => .inl ((s, ()), ())) (fun _ _ => True) (by
   intro k hk s _
   refine ⟨?_, trivial⟩
   simp only [Gu]
   rw [Aa (show (k : Int) < ((ja e.2.2.2.1 : Nat) : Int) by omega), Ec hk]
   have hk' := hx _ (qi hk)
   simp only [ze, jb, NR, Rd]
   rw [Aa (show 0 ≤ e.2.2.2.1[k].1 ∧ e.2.2.2.1[k].1 ≤ 31 from ⟨hk'.lo, hk'.hi⟩), Aa hk'.lo]; rfl)
  (by
   intro s _
   simp only [Gu]
   rw [Ba (by omega)]; rfl) (by omega) 0 trivial).1
 unfold DI GC
 erw [hl]
 rfl
def Qz (l : List Wa) : Int := (l.getD (l.length - 1) (0, 0, false, ())).1
def Uh (l : List Wa) (t : Int) : Bool := ((l.length : Int) == 0) || decide (Qz l ≤ t)
theorem G4 {l : List Wa} (h : 0 < l.length) (hn : l.length ≤ Ka) : ∃ x, Hc l (j5 .i64 (((ja l : Nat) : Int) - 1)) = some x ∧ x.1 = Qz l := by
 have h20 : Ka = 1048576 := rfl
 refine ⟨l[l.length - 1], ?_, ?_⟩
 ·rw [Gd (by omega) (by omega), show ((ja l : Nat) : Int) - 1 = ((l.length - 1 : Nat) : Int) by omega, Ec (by omega)]
 ·simp [Qz, qs, je (show l.length - 1 < l.length by omega)]
theorem CG (l : List Wa) (t : Int) (hn : l.length ≤ Ka) : En l t = some (Uh l t, ()) := by
 unfold En Uh
 by_cases h0 : l.length = 0
 ·simp [h0]
 ·obtain ⟨x, h1, h2⟩ := G4 (l := l) (by omega) hn
  rw [h1, show (((l.length : Nat) : Int) == 0) = false by simp; intro h; rw [h] at h0; simp at h0]
  simp only [zf, jb, h2, yr]
noncomputable def Pc (d : Ib) : Bool :=
 Ag d.1 && (Ti d.2.1 && (decide (0 ≤ d.2.2.2.1 ∧ d.2.2.2.1 ≤ 1000000) && (decide (0 ≤ d.2.2.2.2.1 ∧ d.2.2.2.2.1 ≤ d.2.2.2.1) && (Sd d.2.2.1 (Tv d.1.2.2.2.1) d.1.1.1 && (Uh d.2.2.1 d.2.2.2.1 &&
  (decide (0 ≤ d.2.2.2.2.2.1 ∧ d.2.2.2.2.2.1 ≤ d.1.1.1) && decide (0 ≤ d.2.2.2.2.2.2.1 ∧ d.2.2.2.2.2.2.1 ≤ d.2.2.2.1)))))))
theorem QK (d : Ib) : Eb Pe d = Eb Rc d.1 + Eb (.sl Ws) d.2.2.1 := by
 simp only [Eb, ya, js]
theorem HD (l : List Wa) : Eb (.sl Ws) l = l.length := Yq (e := Ws) rfl l
theorem WJ {e : Qb} (h : Ag e = true) : Oe e.2.2.2.1 = true := by
 simp only [Ag, jd] at h
 exact h.2.2.1
theorem Ey (d : Ib) (hz : Eb Pe d ≤ Ka) : Bn d = some (Pc d, ()) := by
 have hz' := hz
 rw [QK, HD] at hz'
 have hz2 := hz'
 rw [Bl, Xu] at hz2
 unfold Bn Pc
 rw [KH _ (by omega)]
 cases he : Ag d.1 with
 | false => rfl
 | true =>
  have hh := Tw (WJ he)
  simp only [jb, jg, zf, jk, BG]
  cases Ti d.2.1 with
  | false => rfl
  | true =>
   rw [MH _ (by omega) hh]
   simp only [jb, jg, zf, jk]
   rw [DG _ _ _ (by omega), CG _ _ (by omega)]
   simp only [jb]
   have key : ∀ a b c e f g h i j k : Bool, cond a (some (false, ())) (cond b (some (false, ())) (cond c (some (false, ())) (cond e (some (false, ())) (cond (!f) (some (false, ())) (cond (!g) (some (false, ())) (cond h (cond i (cond j (some (k, ())) (some (false, ()))) (some (false, ()))) (some (false, ())))))))) =
    some ((((!a && !b) && ((!c && !e) && (f && (g && ((h && i) && (j && k)))))), ()) : Bool × Unit) := by
    intro a b c e f g h i j k
    cases a <;> cases b <;> cases c <;> cases e <;> cases f <;> cases g <;> cases h <;> cases i <;> cases j <;> cases k <;> rfl
   erw [key]
   apply Jc
   simp only [jd, yj, decide_eq_true_eq, decide_eq_false_iff_not]
   constructor
   ·rintro ⟨⟨h1, h2⟩, ⟨h3, h4⟩, h5, h6, ⟨h7, h8⟩, h9, h10⟩
    exact ⟨⟨by omega, by omega⟩, ⟨by omega, by omega⟩, h5, h6, ⟨h7, h8⟩, h9, h10⟩
   ·rintro ⟨⟨h1, h2⟩, ⟨h3, h4⟩, h5, h6, ⟨h7, h8⟩, h9, h10⟩
    exact ⟨⟨by omega, by omega⟩, ⟨by omega, by omega⟩, h5, h6, ⟨h7, h8⟩, h9, h10⟩
theorem RQ (d : Ib) (hz : Eb Pe d ≤ Ka) : CD d = some (Pc d, ()) := by
 have hz' := hz
 rw [QK, HD] at hz'
 have hz2 := hz'
 rw [Bl, Xu] at hz2
 unfold CD Pc
 rw [PT _ (by omega)]
 cases he : Ag d.1 with
 | false => rfl
 | true =>
  have hh := Tw (WJ he)
  simp only [jb, jg, zf, jk, TQ, Rd]
  cases Ti d.2.1 with
  | false => rfl
  | true =>
   rw [DW _ (by omega) hh]
   simp only [jb, jg, zf, jk]
   rw [JP _ _ _ (by omega)]
   simp only [jb, Uh]
   by_cases h0 : d.2.2.1.length = 0
   ·rw [Ba (show ¬ ((ja d.2.2.1 : Nat) : Int) > 0 by omega), show (((d.2.2.1.length : Nat) : Int) == 0) = true by simp [h0]]
    simp only [zf, Bool.true_or, jk]
    cases decide (0 ≤ d.2.2.2.1 ∧ d.2.2.2.1 ≤ 1000000) <;> cases decide (0 ≤ d.2.2.2.2.1 ∧ d.2.2.2.2.1 ≤ d.2.2.2.1) <;> cases Sd d.2.2.1 (Tv d.1.2.2.2.1) d.1.1.1 <;> cases decide (0 ≤ d.2.2.2.2.2.1 ∧ d.2.2.2.2.2.1 ≤ d.1.1.1) <;> rfl
   ·obtain ⟨x, h1, h2⟩ := G4 (l := d.2.2.1) (by omega) (by omega)
    rw [Aa (show ((ja d.2.2.1 : Nat) : Int) > 0 by omega), h1, show (((d.2.2.1.length : Nat) : Int) == 0) = false by simp; intro h; rw [h] at h0; simp at h0]
    simp only [ze, jb, yr, h2]
    have e1 : decide (Qz d.2.2.1 > d.2.2.2.1) = !decide (Qz d.2.2.1 ≤ d.2.2.2.1) := by
     rw [qm]; simp only [decide_eq_true_eq, yj, decide_eq_false_iff_not]; omega
    rw [e1]
    cases decide (0 ≤ d.2.2.2.1 ∧ d.2.2.2.1 ≤ 1000000) <;> cases decide (0 ≤ d.2.2.2.2.1 ∧ d.2.2.2.2.1 ≤ d.2.2.2.1) <;> cases Sd d.2.2.1 (Tv d.1.2.2.2.1) d.1.1.1 <;> cases decide (Qz d.2.2.1 ≤ d.2.2.2.1) <;> cases decide (0 ≤ d.2.2.2.2.2.1 ∧ d.2.2.2.2.2.1 ≤ d.1.1.1) <;> rfl

def CA {S : Type} (g : Nat → S → S) : Nat → S → S
 | 0, s => s
 | n + 1, s => g n (CA g n s)
theorem GR {X R S : Type} {step : X → Option (X ⊕ R)} (n : Nat) (hn : n < 9223372036854775807) (g : Nat → S → S) (s0 : S) (I : S → Int → X) (out : S → R)
 (h : ∀ k, k < n → step (I (CA g k s0) (k : Int)) = some (.inl (I (g k (CA g k s0)) (j5 .i64 ((k : Int) + 1))))) (he : step (I (CA g n s0) (n : Int)) = some (.inr (out (CA g n s0)))) :
 Gb step (I s0 0) = some (out (CA g n s0)) := by
 have := HZ (step := step) (fun k => I (CA g k s0) (k : Int)) n (out (CA g n s0)) (fun k hk => by
  rw [h k hk, Af (by omega)]; rfl) he
 exact this
theorem QG {e : Ty} {c : Nat} : ∀ {w : List (T e)}, (∀ x ∈ w, Eb e x ≤ c) → Eb (.sl e) w ≤ (c + 1) * w.length
 | [], _ => by simp [Eb]
 | x :: r, h => by
  have h1 := h x (by simp)
  have h2 : Eb (.sl e) r ≤ (c + 1) * r.length := QG fun y hy => h y (by simp [hy])
  have h3 : Eb (.sl e) r = ja r + (za (Eb e) r).sum := rfl
  have h4 : Eb (.sl e) (x :: r) = (ja r + 1) + (Eb e x + (za (Eb e) r).sum) := by simp [Eb]
  rw [h4, jw, Nat.mul_add]
  omega
theorem Mb {n : Nat} (h : n ≤ 1073741824) : jx n Oa = true := ji h
theorem WU {α β : Type} (f : α → β) : ∀ (xs : List α) (k : Nat) (o : List β), Lc (fun _ o x => jf o [f x]) k o xs = o ++ xs.map f
 | [], _, o => by simp [Lc]
 | x :: r, k, o => by
  simp only [Lc]
  rw [WU f r]
  simp
theorem Wm {X R α β : Type} {step : X → Option (X ⊕ R)} (xs : List α) (f : α → β) (I : List β → Int → X) (out : List β → R) (hn : xs.length ≤ 1073741824)
 (h : ∀ k (hk : k < xs.length) (o : List β), ja o = k → step (I o (k : Int)) = some (.inl (I (jf o [f xs[k]]) (j5 .i64 ((k : Int) + 1)))))
 (he : ∀ o : List β, step (I o (xs.length : Int)) = some (.inr (out o))) : Gb step (I [] 0) = some (out (xs.map f)) := by
 have := (Bg (step := step) xs (fun _ o x => jf o [f x]) I out (fun k o => ja o = k) (fun k hk o ho => ⟨h k hk o ho, by simp [ho]⟩) (fun o _ => he o) (by omega) [] rfl).1
 rw [this, WU]
 rfl
theorem Eav (a : List Int) : Eb (.sl int) a = a.length := Yq (e := int) rfl a
theorem KP (a : List Ga) : Eb (.sl Bc) a = a.length := Yq (e := Bc) rfl a
theorem W5 (r : Ca) : Eb Sc r = r.2.1.length := by
 show 0 + (Eb (.sl int) r.2.1 + 0) = _
 rw [Eav]; omega
theorem AA (l : List Int) (h : l.length ≤ Ka) : Hi l = some (l, ()) := by
 have h20 : Ka = 1048576 := rfl
 unfold Hi
 rw [Mb (by simp; omega)]
 rfl
theorem HE (r : Ca) (h : r.2.1.length ≤ Ka) : Xp r = some (r, ()) := by
 unfold Xp
 rw [AA _ h]
 rfl
theorem KT {a : List Xd} (hz : Eb (.sl Sg) a ≤ Ka) {k : Nat} (hk : k < a.length) : a[k].2.1.2.1.length ≤ Ka := by
 have h1 : Eb (.sl Sg) a = ja a + (za (Eb Sg) a).sum := rfl
 have h2 := Ay (f := Eb Sg) hk
 have h3 : Eb Sg a[k] = Eb Sc a[k].2.1 := by
  show 0 + (Eb Sc a[k].2.1 + 0) = _
  omega
 rw [W5] at h3
 omega
theorem PQ (a : List Xd) (hz : Eb (.sl Sg) a ≤ Ka) : Rx a = some (a.map (fun x => x.2.1), ()) := by
 have h20 : Ka = 1048576 := rfl
 have h1 : Eb (.sl Sg) a = ja a + (za (Eb Sg) a).sum := rfl
 have hl := Wm (step := fun x : (List Ca × List Xd × Int × Int × Unit) × Unit => Qp x.1.1 x.1.2.1 x.1.2.2.1 x.1.2.2.2.1) a (fun x => x.2.1)
  (fun o k => ((o, a, (a.length : Int), k, ()), ())) (fun o => .inl ((o, ()), ())) (by omega) (fun k hk o ho => by
   simp only [Qp]
   rw [Aa (by omega), Ec hk]
   simp only [ze, jb]
   rw [HE _ (KT hz hk)]
   simp only [jb]
   rw [Mb (by simp only [jw, j7]; omega)]
   rfl) (fun o => by
   simp only [Qp]
   rw [Ba (by omega)]
   rfl)
 unfold Rx Yr
 erw [hl]
 rfl
def Zw (l : List Int) (k : Nat) (x : Int) : Bool := decide (1 ≤ x ∧ x ≤ 56) && (decide (k = 0) || !decide (l.getD (k - 1) 0 ≥ x))
def Ic (r : Ca) : Bool := decide (0 ≤ r.1 ∧ r.1 ≤ 15) && Ae (fun k x => Zw r.2.1 k x) 0 r.2.1
theorem K5 {l : List Int} {k : Nat} (h0 : 0 < k) (hk : k ≤ l.length) (hn : l.length ≤ Ka) : Hc l (j5 .i64 ((k : Int) - 1)) = some (l.getD (k - 1) 0) := by
 have h20 : Ka = 1048576 := rfl
 rw [Gd (by omega) (by omega), show (k : Int) - 1 = ((k - 1 : Nat) : Int) by omega, Ec (by omega)]
 simp [qs, je (show k - 1 < l.length by omega)]
theorem Rt (r : Ca) (hn : r.2.1.length ≤ Ka) : Wl r = some (Ic r, ()) := by
 have h20 : Ka = 1048576 := rfl
 have hl := Fh (step := fun x => Dr x.1.1 x.1.2.1 x.1.2.2.1 x.1.2.2.2.1 x.2.1) r.2.1 (fun k x => Zw r.2.1 k x) (fun i => (((), r.2.1, ((ja r.2.1 : Nat) : Int), i, ()), (r, ())))
  (.inl ((), ())) (.inr ((false, ()), ())) (by
   intro k hk
   simp only [Dr]
   rw [Aa (show (k : Int) < ((ja r.2.1 : Nat) : Int) by omega), Ec hk]
   simp only [ze, jb, Kk, Zw]
   by_cases h0 : k = 0
   ·subst h0
    rw [Ba (show ¬ ((0 : Nat) : Int) > 0 by omega)]
    simp only [zf]
    cases decide (1 ≤ r.2.1[0] ∧ r.2.1[0] ≤ 56) <;> rfl
   ·rw [Aa (show (k : Int) > 0 by omega), K5 (by omega) (by omega) hn, Ba h0]
    simp only [ze, jb, yr]
    cases decide (1 ≤ r.2.1[k] ∧ r.2.1[k] ≤ 56) <;> cases decide (r.2.1.getD (k - 1) 0 ≥ r.2.1[k]) <;> rfl) (by
   simp only [Dr]
   rw [Ba (by omega)]; rfl) (by omega)
 unfold Wl Qt Ic
 by_cases h1 : 0 ≤ r.1 ∧ r.1 ≤ 15
 ·rw [Ba (show ¬ r.1 < 0 by omega), Ba (show ¬ r.1 > 15 by omega), Aa h1]
  simp only [zf, jk]
  erw [hl]
  cases Ae (fun k x => Zw r.2.1 k x) 0 r.2.1 <;> rfl
 ·rw [Ba h1]
  by_cases h2 : r.1 < 0
  ·rw [Aa h2]; rfl
  ·rw [Ba h2, Aa (show r.1 > 15 by omega)]; rfl
theorem RT (r : Ca) (hn : r.2.1.length ≤ Ka) : FF r = some (Ic r, ()) := by
 have h20 : Ka = 1048576 := rfl
 have hl := Fh (step := fun x => Pr x.1.1 x.1.2.1 x.2.1) r.2.1 (fun k x => Zw r.2.1 k x) (fun i => (((), i, ()), (r, ())))
  (.inl (((), ()), (r, ()))) (.inr ((false, ()), ())) (by
   intro k hk
   simp only [Pr]
   rw [Aa (show (k : Int) < ((ja r.2.1 : Nat) : Int) by omega), Ec hk]
   simp only [ze, jb, Rd, Zw]
   by_cases h0 : k = 0
   ·subst h0
    rw [Ba (show ¬ ((0 : Nat) : Int) > 0 by omega)]
    simp only [zf]
    cases decide (1 ≤ r.2.1[0] ∧ r.2.1[0] ≤ 56) <;> rfl
   ·rw [Aa (show (k : Int) > 0 by omega), K5 (by omega) (by omega) hn, Ba h0]
    simp only [ze, jb, yr]
    cases decide (1 ≤ r.2.1[k] ∧ r.2.1[k] ≤ 56) <;> cases decide (r.2.1.getD (k - 1) 0 ≥ r.2.1[k]) <;> rfl) (by
   simp only [Pr]
   rw [Ba (by omega)]; rfl) (by omega)
 unfold FF SB Ic
 erw [hl]
 cases Ae (fun k x => Zw r.2.1 k x) 0 r.2.1 with
 | true => simp only [ze, jb, qg, Rd, Bool.and_true]
 | false => cases decide (0 ≤ r.1 ∧ r.1 ≤ 15) <;> rfl
def Qs (x : Xd) : Bool := decide (0 ≤ x.1 ∧ x.1 ≤ 1000000) && Ic x.2.1
noncomputable def Ux (s : Sa) : Bool := Pc s.1 && (decide (s.2.1.length ≤ 200) && Ae (fun _ x => Qs x) 0 s.2.1)
theorem Qah (s : Sa) : Eb Qe s = Eb Pe s.1 + Eb (.sl Sg) s.2.1 := by
 simp only [Eb, ya, js]
theorem DN (s : Sa) (hz : Eb Qe s ≤ Ka) : LL s = some (Ux s, ()) ∧ Wr s = some (Ux s, ()) := by
 have h20 : Ka = 1048576 := rfl
 rw [Qah] at hz
 have hlen := HY (e := Sg) s.2.1
 have hrep : ∀ k (hk : k < s.2.1.length), s.2.1[k].2.1.2.1.length ≤ Ka := fun k hk => KT (by omega) hk
 have hs := Fh (step := fun x => Gq x.1.1 x.1.2.1 x.2.1) s.2.1 (fun _ x => Qs x) (fun i => (((), i, ()), (s, ())))
  (.inl (((), ()), (s, ()))) (.inr ((false, ()), ())) (by
   intro k hk
   simp only [Gq]
   rw [Aa (show (k : Int) < ((ja s.2.1 : Nat) : Int) by omega), Ec hk]
   simp only [ze, jb, Rd, Qs]
   rw [RT _ (hrep k hk)]
   simp only [jb]
   cases decide (0 ≤ s.2.1[k].1 ∧ s.2.1[k].1 ≤ 1000000) <;> cases Ic s.2.1[k].2.1 <;> rfl) (by
   simp only [Gq]
   rw [Ba (by omega)]; rfl) (by omega)
 have hi := Fh (step := fun x => Mp x.1.1 x.1.2.1 x.1.2.2.1) s.2.1 (fun _ x => Qs x) (fun i => ((s.2.1, ((ja s.2.1 : Nat) : Int), i, ()), ()))
  (.inl ((), ())) (.inr ((false, ()), ())) (by
   intro k hk
   simp only [Mp]
   rw [Aa (show (k : Int) < ((ja s.2.1 : Nat) : Int) by omega), Ec hk]
   simp only [ze, jb, Qs]
   rw [Rt _ (hrep k hk)]
   simp only [jb]
   by_cases h1 : 0 ≤ s.2.1[k].1 ∧ s.2.1[k].1 ≤ 1000000
   ·rw [Ba (show ¬ s.2.1[k].1 < 0 by omega), Ba (show ¬ s.2.1[k].1 > 1000000 by omega), Aa h1]
    cases Ic s.2.1[k].2.1 <;> rfl
   ·rw [Ba h1]
    by_cases h2 : s.2.1[k].1 < 0
    ·rw [Aa h2]; rfl
    ·rw [Ba h2, Aa (show s.2.1[k].1 > 1000000 by omega)]; rfl) (by
   simp only [Mp]
   rw [Ba (by omega)]; rfl) (by omega)
 refine ⟨?_, ?_⟩
 ·unfold LL TA Ux
  erw [hs]
  cases Ae (fun _ x => Qs x) 0 s.2.1 with
  | false => cases Pc s.1 <;> cases decide (s.2.1.length ≤ 200) <;> rfl
  | true =>
   simp only [ze, jb, qg]
   rw [RQ _ (by omega)]
   simp only [jb, Bool.and_true]
   have e1 : decide (((ja s.2.1 : Nat) : Int) ≤ 200) = decide (s.2.1.length ≤ 200) := by rw [decide_eq_decide]; omega
   rw [e1]
   cases Pc s.1 <;> rfl
 ·unfold Wr Xr Ux
  rw [Ey _ (by omega)]
  cases Pc s.1 with
  | false => rfl
  | true =>
   simp only [jb, jg, zf, jk]
   by_cases h1 : s.2.1.length ≤ 200
   ·rw [Ba (show ¬ ((ja s.2.1 : Nat) : Int) > 200 by omega), Aa h1]
    simp only [zf, jk]
    erw [hi]
    cases Ae (fun _ x => Qs x) 0 s.2.1 <;> rfl
   ·rw [Aa (show ((ja s.2.1 : Nat) : Int) > 200 by omega), Ba h1]; rfl
theorem p63 : (2 : Nat) ^ 63 = 9223372036854775808 := rfl
theorem PK {a : Nat} (ha : a < 2 ^ 63) : (BitVec.ofInt 64 (a : Int)).toNat = a := by
 rw [BitVec.ofInt_natCast, BitVec.toNat_ofNat, Nat.mod_eq_of_lt (by omega)]
theorem Uaj {a b : Nat} (ha : a < 2 ^ 63) (hb : b < 2 ^ 63) : Cl .i64 (a : Int) (b : Int) = ((a &&& b : Nat) : Int) := by
 have h : (BitVec.ofInt (IntKind.bits .i64) (a : Int) &&& BitVec.ofInt (IntKind.bits .i64) (b : Int)).toNat = a &&& b := by
  rw [BitVec.toNat_and]; erw [PK ha, PK hb]
 unfold Cl
 rw [h]
 have h2 : a &&& b ≤ a := Nat.and_le_left
 have h3 := p63
 exact Gd (by omega) (by omega)
theorem HX {a b : Nat} (ha : a < 2 ^ 63) (hb : b < 2 ^ 63) : Xe .i64 (a : Int) (b : Int) = ((a ||| b : Nat) : Int) := by
 have h : (BitVec.ofInt (IntKind.bits .i64) (a : Int) ||| BitVec.ofInt (IntKind.bits .i64) (b : Int)).toNat = a ||| b := by
  rw [BitVec.toNat_or]; erw [PK ha, PK hb]
 unfold Xe
 rw [h]
 have h2 : a ||| b < 2 ^ 63 := Nat.or_lt_two_pow ha hb
 have h3 := p63
 exact Gd (by omega) (by omega)
theorem SS {a b : Nat} (ha : a < 2 ^ 63) (hb : b < 2 ^ 63) : Yn .i64 (a : Int) (b : Int) = ((a ^^^ b : Nat) : Int) := by
 have h : (BitVec.ofInt (IntKind.bits .i64) (a : Int) ^^^ BitVec.ofInt (IntKind.bits .i64) (b : Int)).toNat = a ^^^ b := by
  rw [BitVec.toNat_xor]; erw [PK ha, PK hb]
 unfold Yn
 rw [h]
 have h2 : a ^^^ b < 2 ^ 63 := Nat.xor_lt_two_pow ha hb
 have h3 := p63
 exact Gd (by omega) (by omega)
theorem Bak (a : Nat) {k : Nat} (hk : k ≤ 64) : Bu .i64 (a : Int) (k : Int) = ((a >>> k : Nat) : Int) := by
 unfold Bu
 have h1 : min (jy (k : Int)) (IntKind.bits .i64) = k := by
  show min (jy (k : Int)) 64 = k
  rw [jn]; omega
 rw [h1, Nat.shiftRight_eq_div_pow]
 have h2 : (2 : Int) ^ k = ((2 ^ k : Nat) : Int) := by simp
 rw [h2]
 exact (Int.fdiv_eq_ediv_of_nonneg _ (Int.natCast_nonneg _)).trans (by simp)
theorem Aak {a k : Nat} (h : a * 2 ^ k < 2 ^ 63) (hk : k ≤ 64) : Ke .i64 (a : Int) (k : Int) = ((a <<< k : Nat) : Int) := by
 unfold Ke
 have h1 : min (jy (k : Int)) (IntKind.bits .i64) = k := by
  show min (jy (k : Int)) 64 = k
  rw [jn]; omega
 have h2 : (2 : Int) ^ k = ((2 ^ k : Nat) : Int) := by simp
 have h4 : (a : Int) * ((2 ^ k : Nat) : Int) = ((a * 2 ^ k : Nat) : Int) := by simp
 rw [h1, Nat.shiftLeft_eq, h2, h4]
 have h3 := p63
 generalize a * 2 ^ k = z at *
 exact Gd (by omega) (by omega)
theorem YG {a k : Nat} (ha : a < 2 ^ 63) (hk : k ≤ 64) : (Gk (a : Int) (k : Int) == 1) = a.testBit k := by
 unfold Gk
 have h1 : a >>> k ≤ a := by rw [Nat.shiftRight_eq_div_pow]; exact Nat.div_le_self _ _
 have h3 := p63
 rw [Bak a hk]
 show (Cl .i64 ((a >>> k : Nat) : Int) ((1 : Nat) : Int) == 1) = _
 rw [Uaj (by omega) (by omega), Nat.and_one_is_mod, Nat.testBit_eq_decide_div_mod_eq, Nat.shiftRight_eq_div_pow]
 have : a / 2 ^ k % 2 = 0 ∨ a / 2 ^ k % 2 = 1 := by omega
 rcases this with h | h <;> rw [h] <;> rfl
theorem NB {k : Nat} (hk : k ≤ 62) : (2 : Nat) ^ k < 2 ^ 63 := Nat.pow_lt_pow_right (by omega) (by omega)
def cnt : Nat → Nat → Nat
 | 0, _ => 0
 | k + 1, n => n % 2 + cnt k (n / 2)
def u1 (a : Nat) : Nat := ((a / 2) &&& 85) + (a &&& 85)
def u2 (a : Nat) : Nat := ((a / 4) &&& 51) + (a &&& 51)
theorem m3 : ∀ a : Fin 64, ∀ c : Fin 4, (a.val &&& 51) = (a.val + 64 * c.val) &&& 51 := by decide +kernel
def M5 : Nat := 6148914691236517205
def M3 : Nat := 3689348814741910323
def MF : Nat := 1085102592571150095
def s1 (n : Nat) : Nat := (n / 2 &&& M5) + (n &&& M5)
def s2 (n : Nat) : Nat := (n / 4 &&& M3) + (n &&& M3)
def s3 (n : Nat) : Nat := (n / 16 + n) &&& MF


def rowN (C m r : Nat) : Nat := (m >>> (r * C)) &&& (2 ^ C - 1)
def LaD (C a b m : Nat) : Nat := cond (rowN C m a &&& rowN C m b != 0) (m ||| rowN C m b <<< (a * C)) m
def g3 (C a : Nat) : Nat → Nat → Nat := fun b m => LaD C a b m
def g2 (C R : Nat) : Nat → Nat → Nat := fun a m => CA (g3 C a) R m
def g1 (C R : Nat) : Nat → Nat → Nat := fun _ m => CA (g2 C R) R m

structure Kn (c : Zb) : Prop where
 lo : 0 ≤ c.2.1
 hi : c.2.1 ≤ (c.1.length : Int)
 len : c.1.length ≤ Ka
theorem Xae (z : Int) : 0 ≤ Cl .i64 z 255 ∧ Cl .i64 z 255 ≤ 255 := by
 have h : (BitVec.ofInt 64 z &&& BitVec.ofInt 64 255).toNat ≤ 255 := by
  rw [BitVec.toNat_and]
  exact Nat.and_le_right
 show 0 ≤ j5 .i64 ((BitVec.ofInt 64 z &&& BitVec.ofInt 64 255).toNat : Int) ∧ j5 .i64 ((BitVec.ofInt 64 z &&& BitVec.ofInt 64 255).toNat : Int) ≤ 255
 rw [Gd (by omega) (by omega)]
 omega
theorem AQ {c : Zb} (h : Kn c) : ∃ (c' : Zb) (x : Int), Ym c = some (c', (x, ())) ∧ Kn c' ∧ 0 ≤ x ∧ x ≤ 255 := by
 have h20 : Ka = 1048576 := rfl
 have h1 := h.lo
 have h2 := h.len
 unfold Ym
 by_cases hi : c.2.1 < ((ja c.1 : Nat) : Int)
 ·obtain ⟨k, hk⟩ := jv h1
  rw [Aa hi, hk, Ec (show k < c.1.length by omega)]
  refine ⟨_, _, rfl, ⟨?_, ?_, h2⟩, Xae _⟩
  ·show 0 ≤ j5 .i64 ((k : Int) + 1)
   rw [Af (by omega)]; omega
  ·show j5 .i64 ((k : Int) + 1) ≤ _
   rw [Af (by omega)]; show _ ≤ ((ja c.1 : Nat) : Int); omega
 ·rw [Ba hi]
  exact ⟨_, _, rfl, ⟨h1, h.hi, h2⟩, Xae _⟩
theorem Gw {c : Zb} (h : Kn c) (n : Int) (hn : 0 < n) : ∃ (c' : Zb) (x : Int), Vb c n = some (c', (x, ())) ∧ Kn c' ∧ 0 ≤ x ∧ x < n := by
 obtain ⟨c1, x1, e1, h1, b1⟩ := AQ h
 unfold Vb
 rw [Ba (show ¬ n ≤ 0 by omega), e1, show (n == 0) = false by simp; omega]
 simp only [zf, jb]
 by_cases h256 : n ≤ 256
 ·rw [Aa h256]
  exact ⟨_, _, rfl, h1, Int.tmod_nonneg _ (by omega), Int.tmod_lt_of_pos _ hn⟩
 ·obtain ⟨c2, x2, e2, h2, b2⟩ := AQ h1
  obtain ⟨c3, x3, e3, h3, b3⟩ := AQ h2
  obtain ⟨c4, x4, e4, h4, b4⟩ := AQ h3
  rw [Ba h256, e2]
  simp only [zf, jb]
  rw [e3]
  simp only [jb]
  rw [e4]
  simp only [jb]
  rw [Gd (n := x1 * 16777216) (by omega) (by omega), Gd (n := x2 * 65536) (by omega) (by omega), Gd (n := x3 * 256) (by omega) (by omega), Gd (n := x1 * 16777216 + x2 * 65536) (by omega) (by omega), Gd (n := x1 * 16777216 + x2 * 65536 + x3 * 256) (by omega) (by omega), Gd (n := x1 * 16777216 + x2 * 65536 + x3 * 256 + x4) (by omega) (by omega)]
  exact ⟨_, _, rfl, h4, Int.tmod_nonneg _ (by omega), Int.tmod_lt_of_pos _ hn⟩
theorem V9 {c : Zb} (h : Kn c) (n : Int) (hn : 0 < n) : ∃ (c' : Zb) (b : Bool), Vu c n = some (c', (b, ())) ∧ Kn c' := by
 obtain ⟨c1, x1, e1, h1, b1⟩ := Gw h n hn
 unfold Vu
 rw [e1]
 exact ⟨_, _, rfl, h1⟩
theorem Rau (a : List Int) (hn : a.length ≤ Ka) : ∃ h : Int, PG a = some (a, (0, (h, ()))) := by
 have h20 : Ka = 1048576 := rfl
 have := DJ (s := fun x : (List Int × (Int × (Int × Unit))) × Unit => GD x.1.1 x.1.2.1 x.1.2.2.1) (fun n x => ∃ (h : Int) (k : Nat), x = ((a, h, (k : Int), ()), ()) ∧ n + k = a.length) (fun r => ∃ h : Int, r = .inl ((a, h, ()), ())) (by
  rintro n x ⟨h, k, rfl, hk⟩
  simp only [GD]
  by_cases h1 : (k : Int) < ((ja a : Nat) : Int)
  ·rw [Aa h1]
   by_cases h2 : (k : Int) < 4000
   ·rw [Aa h2, Ec (show k < a.length by omega), Af (by omega)]
    exact .inr ⟨_, n - 1, by omega, rfl, _, k + 1, rfl, by omega⟩
   ·rw [Ba h2]; exact .inl ⟨_, rfl, _, rfl⟩
  ·rw [Ba h1]; exact .inl ⟨_, rfl, _, rfl⟩) a.length ((a, j5 .i64 (10729 + ((ja a : Nat) : Int)), ((0 : Nat) : Int), ()), ()) ⟨_, 0, rfl, rfl⟩
 obtain ⟨r, h1, h, rfl⟩ := this
 refine ⟨h, ?_⟩
 unfold PG Py
 erw [h1]
 rfl
theorem Kak (a : List Int) (n : Int) (hn : a.length ≤ Ka) : ∃ c : Zb, YD a n = some c ∧ Kn c := by
 obtain ⟨h, e⟩ := Rau a hn
 unfold YD
 rw [e]
 exact ⟨_, rfl, ⟨Int.le_refl _, by show (0 : Int) ≤ _; omega, hn⟩⟩
def UG (n : Int) (a : Ga) : Prop := Wb a = true ∧ a.1 ≠ 1 ∧ (a.1 = 9 ∨ a.2.2.2.1 < n)
theorem Lu {n k c m x : Int} (h : Nb k c m x) (h1 : k ≠ 1) (h2 : k = 9 ∨ x < n) : UG n (k, c, m, x, ()) := ⟨(Db _).2 h, h1, h2⟩
def Zq (n : Int) (o : Option (Zb × (Ga × Unit))) : Prop := ∃ (c : Zb) (a : Ga), o = some (c, (a, ())) ∧ Kn c ∧ UG n a
theorem Jz {n : Int} {c : Zb} {a : Ga} (h : Kn c) (ha : UG n a) : Zq n (some (c, (a, ()))) := ⟨c, a, rfl, h, ha⟩
theorem Ur {n : Int} {b : Bool} {x y : Option (Zb × (Ga × Unit))} (h1 : Zq n x) (h2 : Zq n y) : Zq n (cond b x y) := by cases b <;> assumption
theorem Raj {n : Int} {p : Prop} [Decidable p] {x y : Option (Zb × (Ga × Unit))} (h1 : p → Zq n x) (h2 : Zq n y) : Zq n (cond (decide p) x y) := by
 by_cases h : p
 ·rw [Aa h]; exact h1 h
 ·rw [Ba h]; exact h2
theorem SC {n m : Int} {c : Zb} (hc : Kn c) (hm : 0 < m) {f : (Zb × (Int × Unit)) → Option (Zb × (Ga × Unit))}
 (h : ∀ (c' : Zb) (x : Int), Kn c' → 0 ≤ x → x < m → Zq n (f (c', (x, ())))) : Zq n (jz (Vb c m) f) := by
 obtain ⟨c1, x1, e1, h1, b1⟩ := Gw hc m hm
 rw [e1]
 exact h c1 x1 h1 b1.1 b1.2
theorem Aap {n m : Int} {c : Zb} (hc : Kn c) (hm : 0 < m) {f : (Zb × (Bool × Unit)) → Option (Zb × (Ga × Unit))}
 (h : ∀ (c' : Zb) (x : Bool), Kn c' → Zq n (f (c', (x, ())))) : Zq n (jz (Vu c m) f) := by
 obtain ⟨c1, x1, e1, h1⟩ := V9 hc m hm
 rw [e1]
 exact h c1 x1 h1
theorem NaD {c : Zb} {n x : Int} {a0 a1 a2 : Ga} (hc : Kn c) (h0 : 0 ≤ x) (h3 : x < 3) (g0 : UG n a0) (g1 : UG n a1) (g2 : UG n a2) :
 Zq n (cond (Qd (ja [a0, a1, a2]) x) (jz [a0, a1, a2][(jy x)]? fun y => some (c, (y, ()))) none) := by
 have : x = 0 ∨ x = 1 ∨ x = 2 := by omega
 rcases this with rfl | rfl | rfl
 ·exact Jz hc g0
 ·exact Jz hc g1
 ·exact Jz hc g2
theorem Fag {c : Zb} (h : Kn c) (n : Int) (hn : 1 ≤ n) (hn4 : n ≤ 4) : Zq n (ZD c n) := by
 unfold ZD
 rw [Gd (n := n - 1) (by omega) (by omega)]
 refine SC h (by omega) fun c1 x1 h1 l1 u1 => ?_
 refine SC h1 (by omega) fun c2 x2 h2 l2 u2 => ?_
 refine Aap h2 (by omega) fun c3 x3 h3 => ?_
 simp only
 rw [Gd (n := 1 + x1) (by omega) (by omega), Gd (n := 1 + x2) (by omega) (by omega)]
 have tail : ∀ (md : Int), 1 ≤ md → md ≤ 15 → Zq n (jz (Vb c3 (max (1 : Int) (n - 1))) fun r4 =>
  (jz (Vb r4.1 (16 : Int)) fun r5 =>
  (cond (r5.2.1 == (0 : Int)) (some (r5.1, (((2 : Int), (1 + x1), md, (0 : Int), ()), ())))
  (cond (r5.2.1 == (1 : Int)) (some (r5.1, (((2 : Int), (0 : Int), md, (0 : Int), ()), ())))
  (cond (r5.2.1 == (2 : Int)) (some (r5.1, (((6 : Int), (1 + x1), md, (0 : Int), ()), ())))
  (cond (r5.2.1 == (3 : Int)) (some (r5.1, (((6 : Int), (1 + x1), md, (0 : Int), ()), ())))
  (cond (r5.2.1 == (4 : Int)) (some (r5.1, (((8 : Int), (0 : Int), md, (0 : Int), ()), ())))
  (cond (r5.2.1 == (5 : Int)) (jz (Vb r5.1 (4 : Int)) fun r6 => (some (r6.1, (((9 : Int), (0 : Int), (0 : Int), r6.2.1, ()), ()))))
  (cond (r5.2.1 == (6 : Int)) (some (r5.1, (((10 : Int), (0 : Int), (0 : Int), (0 : Int), ()), ())))
  (cond (r5.2.1 == (7 : Int)) (jz (Vb r5.1 (max (1 : Int) n)) fun r7 => (some (r7.1, (((5 : Int), (0 : Int), (0 : Int), r7.2.1, ()), ()))))
  (cond (r5.2.1 == (8 : Int)) (cond (decide (n > (1 : Int))) (jz (Vb r5.1 (3 : Int)) fun r8 => (cond (Qd (ja ([((3 : Int), (0 : Int), (0 : Int), (j4 .i64 ((1 : Int) + r4.2.1)), ()), ((4 : Int), (0 : Int), (0 : Int), (j4 .i64 ((1 : Int) + r4.2.1)), ()), ((7 : Int), (1 + x1), (0 : Int), (j4 .i64 ((1 : Int) + r4.2.1)), ())] : List Ga)) r8.2.1) (jz ([((3 : Int), (0 : Int), (0 : Int), (j4 .i64 ((1 : Int) + r4.2.1)), ()), ((4 : Int), (0 : Int), (0 : Int), (j4 .i64 ((1 : Int) + r4.2.1)), ()), ((7 : Int), (1 + x1), (0 : Int), (j4 .i64 ((1 : Int) + r4.2.1)), ())] : List Ga)[(jy r8.2.1)]? fun x9 => (some (r8.1, (x9, ())))) none)) (some (r5.1, (((2 : Int), (1 + x1), (0 : Int), (0 : Int), ()), ()))))
  (cond (r5.2.1 == (9 : Int)) (cond (decide (n > (1 : Int))) (jz (Vb r5.1 (3 : Int)) fun r8 => (cond (Qd (ja ([((3 : Int), (0 : Int), (0 : Int), (j4 .i64 ((1 : Int) + r4.2.1)), ()), ((4 : Int), (0 : Int), (0 : Int), (j4 .i64 ((1 : Int) + r4.2.1)), ()), ((7 : Int), (1 + x1), (0 : Int), (j4 .i64 ((1 : Int) + r4.2.1)), ())] : List Ga)) r8.2.1) (jz ([((3 : Int), (0 : Int), (0 : Int), (j4 .i64 ((1 : Int) + r4.2.1)), ()), ((4 : Int), (0 : Int), (0 : Int), (j4 .i64 ((1 : Int) + r4.2.1)), ()), ((7 : Int), (1 + x1), (0 : Int), (j4 .i64 ((1 : Int) + r4.2.1)), ())] : List Ga)[(jy r8.2.1)]? fun x9 => (some (r8.1, (x9, ())))) none)) (some (r5.1, (((2 : Int), (1 + x1), (0 : Int), (0 : Int), ()), ()))))
  (cond (r5.2.1 == (10 : Int)) (cond (decide (n > (1 : Int))) (jz (Vb r5.1 (3 : Int)) fun r8 => (cond (Qd (ja ([((3 : Int), (0 : Int), (0 : Int), (j4 .i64 ((1 : Int) + r4.2.1)), ()), ((4 : Int), (0 : Int), (0 : Int), (j4 .i64 ((1 : Int) + r4.2.1)), ()), ((7 : Int), (1 + x1), (0 : Int), (j4 .i64 ((1 : Int) + r4.2.1)), ())] : List Ga)) r8.2.1) (jz ([((3 : Int), (0 : Int), (0 : Int), (j4 .i64 ((1 : Int) + r4.2.1)), ()), ((4 : Int), (0 : Int), (0 : Int), (j4 .i64 ((1 : Int) + r4.2.1)), ()), ((7 : Int), (1 + x1), (0 : Int), (j4 .i64 ((1 : Int) + r4.2.1)), ())] : List Ga)[(jy r8.2.1)]? fun x9 => (some (r8.1, (x9, ())))) none)) (some (r5.1, (((2 : Int), (1 + x1), (0 : Int), (0 : Int), ()), ()))))
  (some (r5.1, (((2 : Int), (1 + x1), (0 : Int), (0 : Int), ()), ())))))))))))))))) := by
  intro md lm um
  refine SC h3 (by omega) fun c4 x4 h4 l4 u4 => ?_
  refine SC h4 (by omega) fun c5 x5 h5 l5 u5 => ?_
  simp only
  rw [Gd (n := 1 + x4) (by omega) (by omega)]
  have last : Zq n (some (c5, (((2 : Int), (1 + x1), (0 : Int), (0 : Int), ()), ()))) := Jz h5 (Lu (by unfold Nb; omega) (by omega) (by omega))
  have mid : Zq n (cond (decide (n > (1 : Int))) (jz (Vb c5 (3 : Int)) fun r8 => (cond (Qd (ja ([((3 : Int), (0 : Int), (0 : Int), (1 + x4), ()), ((4 : Int), (0 : Int), (0 : Int), (1 + x4), ()), ((7 : Int), (1 + x1), (0 : Int), (1 + x4), ())] : List Ga)) r8.2.1) (jz ([((3 : Int), (0 : Int), (0 : Int), (1 + x4), ()), ((4 : Int), (0 : Int), (0 : Int), (1 + x4), ()), ((7 : Int), (1 + x1), (0 : Int), (1 + x4), ())] : List Ga)[(jy r8.2.1)]? fun x9 => (some (r8.1, (x9, ())))) none)) (some (c5, (((2 : Int), (1 + x1), (0 : Int), (0 : Int), ()), ())))) := by
   refine Raj (fun hn1 => ?_) last
   have hx : 1 + x4 < n := by omega
   refine SC h5 (by omega) fun c6 x6 h6 l6 u6 => ?_
   exact NaD h6 l6 u6 (Lu (by unfold Nb; omega) (by omega) (by omega)) (Lu (by unfold Nb; omega) (by omega) (by omega)) (Lu (by unfold Nb; omega) (by omega) (by omega))
  refine Ur (Jz h5 (Lu (by unfold Nb; omega) (by omega) (by omega))) ?_
  refine Ur (Jz h5 (Lu (by unfold Nb; omega) (by omega) (by omega))) ?_
  refine Ur (Jz h5 (Lu (by unfold Nb; omega) (by omega) (by omega))) ?_
  refine Ur (Jz h5 (Lu (by unfold Nb; omega) (by omega) (by omega))) ?_
  refine Ur (Jz h5 (Lu (by unfold Nb; omega) (by omega) (by omega))) ?_
  refine Ur (SC h5 (by omega) fun c6 x6 h6 l6 u6 => by simp only; exact Jz h6 (Lu (by unfold Nb; omega) (by omega) (by omega))) ?_
  refine Ur (Jz h5 (Lu (by unfold Nb; omega) (by omega) (by omega))) ?_
  refine Ur (SC h5 (by omega) fun c6 x6 h6 l6 u6 => by simp only; exact Jz h6 (Lu (by unfold Nb; omega) (by omega) (by omega))) ?_
  exact Ur mid (Ur mid (Ur mid last))
 cases x3 with
 | true => exact tail 2 (by omega) (by omega)
 | false => exact tail (1 + x2) (by omega) (by omega)

theorem U3 {q : List Wa} {d keys : Int} (h : Sd q d keys = true) : Is (Ob (fun _ s x => Iw s x) 0 (0, d) q) = true := by
 simp only [Sd, OA, A4, jd] at h
 have h2 := h.2
 cases hf : Ob (fun _ s x => Iw s x) 0 (0, d) q with
 | inl s => rfl
 | inr u => rw [hf] at h2; cases hd : decide (q.length ≤ 64) <;> rw [hd] at h2 <;> simp at h2
theorem Dak {m : Ha} (hz : Eb Ua m ≤ Ka) : ja m.2.1 ≤ Ka ∧ ∀ k (hk : k < m.2.1.length), m.2.1[k].length ≤ Ka := by
 have h0 : Eb Ua m = 0 + (Eb (.sl (.sl Bc)) m.2.1 + 0) := rfl
 have h1 : Eb (.sl (.sl Bc)) m.2.1 = ja m.2.1 + (za (Eb (.sl Bc)) m.2.1).sum := rfl
 refine ⟨by omega, fun k hk => ?_⟩
 have h2 := Ay (f := Eb (.sl Bc)) hk
 rw [KP] at h2
 omega
theorem GE (m : Ha) (hz : Eb Ua m ≤ Ka) : Wp m = some (m, ()) := by
 have h20 : Ka = 1048576 := rfl
 obtain ⟨h1, h2⟩ := Dak hz
 have hl := Wm (step := fun x : (Unit × Unit × List (List Ga) × Int × Int × Unit) × Ha × Ha × Unit => Ko x.1.1 x.1.2.1 x.1.2.2.1 x.1.2.2.2.1 x.1.2.2.2.2.1 x.2.1 x.2.2.1) m.2.1 (fun x => x)
  (fun o k => (((), (), m.2.1, (m.2.1.length : Int), k, ()), ((0, [], ()), (m.1, o, ()), ()))) (fun o => .inl (((), (), ()), ((0, [], ()), (m.1, o, ()), ()))) (by omega) (fun k hk o ho => by
   have := h2 k hk
   simp only [Ko]
   rw [Aa (by omega), Ec hk]
   simp only [ze, jb]
   rw [Mb (by simp; omega), Mb (by simp only [jw, j7]; omega)]
   rfl) (fun o => by
   simp only [Ko]
   rw [Ba (by omega)]
   rfl)
 unfold Wp Qq
 erw [hl]
 rw [List.map_id']
 rfl
theorem Xah {L : List (List Lb)} (hz : Eb (.sl (.sl Kd)) L ≤ Ka) : ja L ≤ Ka ∧ ∀ k (hk : k < L.length), L[k].length ≤ Ka := by
 have h1 : Eb (.sl (.sl Kd)) L = ja L + (za (Eb (.sl Kd)) L).sum := rfl
 refine ⟨by omega, fun k hk => ?_⟩
 have h2 := Ay (f := Eb (.sl Kd)) hk
 rw [IY] at h2
 omega
theorem Ow (L : List (List Lb)) (hz : Eb (.sl (.sl Kd)) L ≤ Ka) : Ml L = some (L, ()) := by
 have h20 : Ka = 1048576 := rfl
 obtain ⟨h1, h2⟩ := Xah hz
 have hl := Wm (step := fun x => Lo x.1.1 x.1.2.1 x.1.2.2.1 x.1.2.2.2.1) L (fun x => x)
  (fun o k => ((o, L, ((ja L : Nat) : Int), k, ()), ())) (fun o => .inl ((o, ()), ())) (by omega) (fun k hk o ho => by
   have := h2 k hk
   simp only [Lo]
   rw [Aa (by omega), Ec hk]
   simp only [ze, jb]
   rw [Mb (by simp; omega), Mb (by simp only [jw, j7]; omega)]
   rfl) (fun o => by
   simp only [Lo]
   rw [Ba (by omega)]
   rfl)
 unfold Ml Rq
 erw [hl]
 rw [List.map_id']
 rfl
theorem Vp (e : Qb) (hz : Eb Rc e ≤ Ka) : Gj e = some (e, ()) := by
 have h20 : Ka = 1048576 := rfl
 rw [Bl, Xu] at hz
 unfold Gj
 rw [GE _ (by omega), Ow _ (by omega), Mb (by simp; omega)]
 rfl
theorem DC (d : Ib) (hz : Eb Pe d ≤ Ka) : Jk d = some (d, ()) := by
 have h20 : Ka = 1048576 := rfl
 rw [QK, HD] at hz
 unfold Jk
 rw [Vp _ (by omega), Mb (by simp; omega)]
 rfl
theorem Xaj : ∀ (a b : List Int), a.length = b.length → Ae (fun k x => b.getD k 0 == x) 0 a = (b == a)
 | a, b, h => by
  rw [qm, Fp, beq_iff_eq]
  constructor
  ·intro hj
   apply List.ext_getElem h.symm
   intro i h1 h2
   have := hj i h2
   rw [js, beq_iff_eq, qf, je h1] at this
   exact this
  ·rintro rfl i hi
   rw [js, beq_iff_eq, qf, je hi]; rfl
theorem RS (a b : List Int) (hn : a.length ≤ Oa) : Nz a b = some (a == b, ()) := by
 have hlim := Vh
 unfold Nz
 by_cases h : a.length = b.length
 ·have hl := Fh (step := fun x => Jr x.1.1 x.1.2.1 x.1.2.2.1 x.1.2.2.2.1) a (fun k x => b.getD k 0 == x) (fun i => ((a, b, ((ja a : Nat) : Int), i, ()), ()))
   (.inl ((), ())) (.inr ((false, ()), ())) (by
    intro k hk
    simp only [Jr]
    rw [Aa (show (k : Int) < ((ja a : Nat) : Int) by omega), Ec hk, Ec (show k < b.length by omega), qf, je (show k < b.length by omega)]
    simp only [ze, jb, qz, bne]
    rw [show (a[k] == b[k]) = (b[k] == a[k]) by rw [qm, beq_iff_eq, beq_iff_eq]; exact eq_comm]
    cases b[k] == a[k] <;> rfl) (by
    simp only [Jr]
    rw [Ba (by omega)]; rfl) (by omega)
  have e : (((ja a : Nat) : Int) != ((ja b : Nat) : Int)) = false := by simp [h]
  rw [e]
  simp only [zf]
  unfold Yt
  erw [hl]
  rw [Xaj a b h, show (b == a) = (a == b) by rw [qm, beq_iff_eq, beq_iff_eq]; exact eq_comm]
  cases a == b <;> rfl
 ·have e : (((ja a : Nat) : Int) != ((ja b : Nat) : Int)) = true := by simp; omega
  have e2 : (a == b) = false := by rw [beq_eq_false_iff_ne]; intro hh; exact h (by rw [hh])
  rw [e, e2]; rfl
theorem Dal (a b : T Zf) (h1 : ja a.2.1 ≤ Oa) (_ : ja b.2.1 ≤ Oa) : (fun x : T (.p Zf (.p Zf .u)) => Rp x.1 x.2.1) (a, b, ()) = some (Tz a b, ()) := by
 show Rp a b = _
 unfold Rp
 rw [RS _ _ h1]
 simp only [jb, Tz]
 cases (show Int from a.1) == (show Int from b.1) <;> rfl
theorem Gaf (c : T Ce → T Ce → Option Bool) (l : List (T Ce)) (hl : ja l ≤ Oa) : ∀ (ys : List (T Ce)) (k : Nat) (out q : List (T Ce)) (a : T Ce), l.drop k = ys → k ≤ ja l → ja out + ja ys ≤ Oa →
 BM c a ys = some q → Su c (((), out, l, ((ja l : Nat) : Int), (k : Int), ()), (a, ())) = some (.inl ((jf out q, ()), ())) := by
 have hlim := Vh
 intro ys
 induction ys with
 | nil =>
  intro k out q a hd hk _ hq
  have := FS hd hk
  subst this
  simp only [BM, jc] at hq
  subst hq
  have hs : OC c () out l ((ja l : Nat) : Int) ((ja l : Nat) : Int) a = some (.inr (.inl ((out, ()), ()))) := by
   unfold OC
   rw [Ba (by omega)]; rfl
  unfold Su
  rw [Xc hs]
  simp
 | cons y ys ih =>
  intro k out q a hd hk hlen hq
  obtain ⟨hk', hy, hd'⟩ := YN hd
  simp only [BM] at hq
  cases hc : c a y with
  | none => rw [hc] at hq; simp at hq
  | some b =>
   rw [hc] at hq
   simp only [jb] at hq
   cases hq2 : BM c y ys with
   | none => rw [hq2] at hq; simp at hq
   | some q2 =>
    rw [hq2] at hq
    simp only [jb, jc] at hq
    have hlc : ja (y :: ys) = ja ys + 1 := rfl
    have hs : OC c () out l ((ja l : Nat) : Int) (k : Int) a = some (.inl (((), cond b out (jf out [y]), l, ((ja l : Nat) : Int), ((k + 1 : Nat) : Int), ()), (y, ()))) := by
     unfold OC Uan
     rw [Aa (show (k : Int) < ((ja l : Nat) : Int) by omega), Ec hk', hy]
     simp only [ze, jb, hc]
     rw [Af (by omega)]
     cases b with
     | true => rfl
     | false =>
      rw [show jx (ja out + ja ([y] : List (Int × ((T .o) × Unit)))) Oa = true from ji (by simp only [jw, j7]; omega)]
      rfl
    unfold Su
    rw [Xc hs]
    simp only [jb, qg]
    have := ih (k + 1) (cond b out (jf out [y])) q2 y hd' hk' (by cases b with
     | true => simp only [ze]; omega
     | false => simp only [zf, zb, qd, jw, j7]; omega) hq2
    unfold Su at this
    rw [this, ← hq]
    cases b with
    | true => rfl
    | false => simp
theorem Qao (c : T Ce → T Ce → Option Bool) : ∀ (a : T Ce) (l r : List (T Ce)), ja l ≤ Oa → BM c a l = some r → (fun x : T (.p Ce (.p (.sl Ce) .u)) => Iac c x.1 x.2.1) (a, l, ()) = some (r, ()) := by
 intro a l r hl hq
 show Iac c a l = _
 unfold Iac
 have := Gaf c l hl l 0 [] r a rfl (Nat.zero_le _) (by simpa using hl) hq
 erw [this]
 rfl
theorem VZ : ∀ {a b : List Int}, a.Pairwise (· < ·) → b.Pairwise (· < ·) → (∀ x, x ∈ a ↔ x ∈ b) → a = b
 | [], [], _, _, _ => rfl
 | [], y :: b, _, _, h => by have := (h y).2 (by simp); simp at this
 | x :: a, [], _, _, h => by have := (h x).1 (by simp); simp at this
 | x :: a, y :: b, ha, hb, h => by
  rw [List.pairwise_cons] at ha hb
  have hxy : x = y := by
   rcases jp.1 ((h x).1 (by simp)) with h1 | h1
   ·exact h1
   ·rcases jp.1 ((h y).2 (by simp)) with h2 | h2
    ·exact h2.symm
    ·have := hb.1 x h1; have := ha.1 y h2; omega
  subst hxy
  congr 1
  refine VZ ha.2 hb.2 fun z => ⟨fun hz => ?_, fun hz => ?_⟩
  ·rcases jp.1 ((h z).1 (by simp [hz])) with h1 | h1
   ·have := ha.1 z hz; omega
   ·exact h1
  ·rcases jp.1 ((h z).2 (by simp [hz])) with h1 | h1
   ·have := hb.1 z hz; omega
   ·exact h1
def FN (o : List Int) (x : Int) : List Int := cond ((x != 0) && !o.any (fun y => y == x)) (jf o [x]) o
def I3 (k : Nat) (o l : List Int) : List Int := Lc (fun _ o x => FN o x) k o l
theorem Maf : ∀ (l : List Int) (k : Nat) (o : List Int) (y : Int), y ∈ I3 k o l ↔ y ∈ o ∨ (y ∈ l ∧ y ≠ 0)
 | [], _, o, y => by simp [I3, Lc]
 | x :: l, k, o, y => by
  have := Maf l (k + 1) (FN o x) y
  simp only [I3, Lc] at this ⊢
  rw [this]
  unfold FN
  by_cases h0 : x = 0
  ·subst h0
   simp only [bne_self_eq_false, Bool.false_and, zf, jp]
   constructor
   ·rintro (h | ⟨h1, h2⟩)
    ·exact .inl h
    ·exact .inr ⟨.inr h1, h2⟩
   ·rintro (h | ⟨h1 | h1, h2⟩)
    ·exact .inl h
    ·exact absurd h1 h2
    ·exact .inr ⟨h1, h2⟩
  ·by_cases h1 : o.any (fun y => y == x) = true
   ·rw [h1]
    simp only [jg, Bool.and_false, zf, jp]
    have hx : x ∈ o := by
     obtain ⟨z, hz, e⟩ := qy.1 h1
     rw [beq_iff_eq] at e; rw [← e]; exact hz
    constructor
    ·rintro (h | ⟨h1, h2⟩)
     ·exact .inl h
     ·exact .inr ⟨.inr h1, h2⟩
    ·rintro (h | ⟨h1 | h1, h2⟩)
     ·exact .inl h
     ·exact .inl (h1 ▸ hx)
     ·exact .inr ⟨h1, h2⟩
   ·have e : ((x != 0) && !o.any (fun y => y == x)) = true := by
     simp only [j9] at h1
     rw [h1]; simp [h0]
    rw [e]
    simp only [ze, zb, jl, jp, zd, or_false]
    constructor
    ·rintro ((h | h) | ⟨h1, h2⟩)
     ·exact .inl h
     ·exact .inr ⟨.inl h, by rw [h]; exact h0⟩
     ·exact .inr ⟨.inr h1, h2⟩
    ·rintro (h | ⟨h1 | h1, h2⟩)
     ·exact .inl (.inl h)
     ·exact .inl (.inr h1)
     ·exact .inr ⟨h1, h2⟩
theorem RY : ∀ (l : List Int) (k : Nat) (o : List Int), o.Pairwise (· < ·) → l.Pairwise (· ≤ ·) → (∀ y ∈ o, ∀ x ∈ l, y ≤ x) → (I3 k o l).Pairwise (· < ·)
 | [], _, o, ho, _, _ => by simpa [I3, Lc] using ho
 | x :: l, k, o, ho, hl, h => by
  rw [List.pairwise_cons] at hl
  have key : (FN o x).Pairwise (· < ·) ∧ ∀ y ∈ FN o x, ∀ z ∈ l, y ≤ z := by
   unfold FN
   cases hc : (x != 0) && !o.any (fun y => y == x) with
   | false => exact ⟨ho, fun y hy z hz => h y hy z (by simp [hz])⟩
   | true =>
    simp only [jd, yj, List.any_eq_false, beq_iff_eq] at hc
    simp only [ze, zb]
    refine ⟨?_, ?_⟩
    ·rw [List.pairwise_append]
     refine ⟨ho, by simp, fun y hy z hz => ?_⟩
     simp only [jp, zd, or_false] at hz
     subst hz
     have h1 := h y hy z (by simp)
     have h2 := hc.2 y hy
     omega
    ·intro y hy z hz
     rcases jl.1 hy with hy | hy
     ·exact h y hy z (by simp [hz])
     ·simp only [jp, zd, or_false] at hy
      subst hy
      exact hl.1 z hz
  have := RY l (k + 1) (FN o x) key.1 hl.2 key.2
  simpa [I3, Lc] using this
def Mn (l : List Ma) : Nat → List Int
 | 0 => []
 | n + 1 => cond (l.any fun h => h.2.1.2.1 == ((n + 1 : Nat) : Int)) (Mn l n ++ [((n + 1 : Nat) : Int)]) (Mn l n)
theorem ZA (l : List Ma) : ∀ (n : Nat) (x : Int), x ∈ Mn l n ↔ (1 ≤ x ∧ x ≤ (n : Int)) ∧ ∃ h ∈ l, h.2.1.2.1 = x
 | 0, x => by simp [Mn]; intro h1 h2; omega
 | n + 1, x => by
  simp only [Mn]
  cases hc : (l.any fun h => h.2.1.2.1 == ((n + 1 : Nat) : Int)) with
  | true =>
   simp only [ze, jl, ZA l n x, jp, zd, or_false]
   obtain ⟨h, hh, e⟩ := qy.1 hc
   rw [beq_iff_eq] at e
   constructor
   ·rintro (⟨h1, h2⟩ | rfl)
    ·exact ⟨by omega, h2⟩
    ·exact ⟨by omega, h, hh, e⟩
   ·rintro ⟨h1, h2⟩
    by_cases hx : x = ((n + 1 : Nat) : Int)
    ·exact .inr hx
    ·exact .inl ⟨by omega, h2⟩
  | false =>
   simp only [zf, ZA l n x]
   rw [List.any_eq_false] at hc
   constructor
   ·rintro ⟨h1, h2⟩; exact ⟨by omega, h2⟩
   ·rintro ⟨h1, h, hh, e⟩
    refine ⟨?_, h, hh, e⟩
    have := hc h hh
    rw [beq_iff_eq] at this
    omega
theorem ZE (l : List Ma) : ∀ n, (Mn l n).Pairwise (· < ·)
 | 0 => by simp [Mn]
 | n + 1 => by
  simp only [Mn]
  cases (l.any fun h => h.2.1.2.1 == ((n + 1 : Nat) : Int)) with
  | true =>
   simp only [ze]
   rw [List.pairwise_append]
   refine ⟨ZE l n, by simp, fun y hy z hz => ?_⟩
   simp only [jp, zd, or_false] at hz
   have := (ZA l n y).1 hy
   omega
  | false => exact ZE l n
theorem PU (l : List Ma) : ∀ n, (Mn l n).length ≤ n
 | 0 => by simp [Mn]
 | n + 1 => by
  have := PU l n
  simp only [Mn]
  cases (l.any fun h => h.2.1.2.1 == ((n + 1 : Nat) : Int)) <;> simp <;> omega
def CaA (l : List Ma) : Int := Lc (fun _ s (h : Ma) => cond (h.2.1.1 == 2 || h.2.1.1 == 8) (Xe .i64 s h.2.1.2.2.1) s) 0 0 l
def Qc (l : List Ma) : Ca := (CaA l, Mn l 56, ())
theorem RJ {a : Ga} (h : Wb a = true) : 0 ≤ a.2.1 ∧ a.2.1 ≤ 56 := by
 rw [Db] at h
 unfold Nb at h
 omega
theorem YK (l : List Int) (x : Int) (hn : l.length ≤ Oa) : Zy l x = some (l.any (fun y => y == x), ()) := by
 have hlim := Vh
 have hl := Fh (step := fun y => Rv y.1.1 y.1.2.1 y.1.2.2.1 y.1.2.2.2.1) l (fun _ y => !(y == x)) (fun i => ((x, l, ((ja l : Nat) : Int), i, ()), ()))
  (.inl ((), ())) (.inr ((true, ()), ())) (by
   intro k hk
   simp only [Rv]
   rw [Aa (show (k : Int) < ((ja l : Nat) : Int) by omega), Ec hk]
   simp only [ze, jb]
   cases l[k] == x <;> rfl) (by
   simp only [Rv]
   rw [Ba (by omega)]; rfl) (by omega)
 unfold Zy Qw
 erw [hl]
 have : ∀ (l : List Int) (k : Nat), Ae (fun _ y => !(y == x)) k l = !l.any (fun y => y == x) := by
  intro l
  induction l with
  | nil => intro k; rfl
  | cons y l ih => intro k; simp only [Ae, List.any_cons, ih, Bool.not_or]
 rw [this]
 cases l.any (fun y => y == x) <;> rfl
theorem WI (l : List Ma) (hn : l.length ≤ Ka) (hx : ∀ h ∈ l, 0 ≤ h.2.1.2.1 ∧ h.2.1.2.1 ≤ 56) : Bs (l.map fun h => h.2.1.2.1) = some (Mn l 56, ()) := by
 have h20 : Ka = 1048576 := rfl
 have hlim := Vh
 generalize hcs : (l.map fun h => h.2.1.2.1) = cs
 have hcl : cs.length = l.length := by rw [← hcs]; simp
 unfold Bs
 rw [AA _ (by omega)]
 simp only [jb, sort_Ints, srt]
 rw [show jx (ja cs) Oa = true from ji (by omega)]
 simp only [ze, jb]
 generalize hss : (List.mergeSort cs fun x y => decide (x ≤ y)) = ss
 have hsl : ss.length = cs.length := by rw [← hss]; exact List.length_mergeSort _
 have hsm : ∀ x, x ∈ ss ↔ x ∈ cs := fun x => by rw [← hss]; exact List.mem_mergeSort
 have hsp : ss.Pairwise (· ≤ ·) := by
  rw [← hss]
  have := List.pairwise_mergeSort (le := fun x y : Int => decide (x ≤ y)) (by intro a b c; simp; omega) (by intro a b; simp; omega) cs
  exact this.imp (by intro a b h; simpa using h)
 have hl := (Bg (step := fun x => Ut x.1.1 x.1.2.1 x.1.2.2.1 x.1.2.2.2.1) ss (fun _ o x => FN o x) (fun o i => ((o, ss, ((ja ss : Nat) : Int), i, ()), ())) (fun o => .inl ((o, ()), ())) (fun k o => o.length ≤ k) (by
  intro k hk o ho
  have hd : (FN o ss[k]).length ≤ k + 1 := by
   unfold FN
   cases (ss[k] != 0) && !o.any (fun y => y == ss[k]) <;> simp <;> omega
  refine ⟨?_, hd⟩
  simp only [Ut]
  rw [Aa (show (k : Int) < ((ja ss : Nat) : Int) by omega), show Qd (ja ss) (k : Int) = true by rw [Lg]; exact Aa hk, jn, je hk]
  simp only [ze, jb]
  rw [YK _ _ (by omega), show jx (ja o + ja ([ss[k]] : List Int)) Oa = true from ji (by simp only [jw, j7]; omega)]
  simp only [jb, FN]
  cases ss[k] != 0 <;> cases o.any (fun y => y == ss[k]) <;> rfl)
  (by
   intro o _
   simp only [Ut]
   rw [Ba (by omega)]; rfl) (by omega) [] (jo _)).1
 unfold Dv
 erw [hl]
 simp only [jb, qg]
 congr 2
 refine VZ (RY ss 0 [] (by simp) hsp (by simp)) (ZE l 56) fun x => ?_
 rw [show Lc (fun _ o x => FN o x) 0 [] ss = I3 0 [] ss from rfl, Maf, ZA, hsm, ← hcs]
 simp only [zd, false_or, qk]
 constructor
 ·rintro ⟨⟨h, hh, rfl⟩, h0⟩
  have := hx h hh
  exact ⟨by omega, h, hh, rfl⟩
 ·rintro ⟨h1, h, hh, rfl⟩
  exact ⟨⟨h, hh, rfl⟩, by omega⟩
theorem Wn (l : List Ma) (hn : l.length ≤ Ka) (hv : Oe l = true) : Cd l = some (Qc l, ()) := by
 have h20 : Ka = 1048576 := rfl
 have hlim := Vh
 have hh := Tw hv
 have hl := (Bg (step := fun x => Gr x.1.1 x.1.2.1 x.1.2.2.1 x.1.2.2.2.1 x.1.2.2.2.2.1 x.1.2.2.2.2.2.1 x.2.1 x.2.2.1) l
  (fun _ (s : Int × List Int) (h : Ma) => (cond (h.2.1.1 == 2 || h.2.1.1 == 8) (Xe .i64 s.1 h.2.1.2.2.1) s.1, jf s.2 [h.2.1.2.1])) (fun s i => (((), (), s.2, l, ((ja l : Nat) : Int), i, ()), (((0 : Int), ([] : List Int), ()), (s.1, ([] : List Int), ()), ())))
  (fun s => .inl (((), (), s.2, ()), (((0 : Int), ([] : List Int), ()), (s.1, ([] : List Int), ()), ()))) (fun k s => s.2.length = k) (by
   intro k hk s hs
   refine ⟨?_, by simp [hs]⟩
   simp only [Gr]
   rw [Aa (show (k : Int) < ((ja l : Nat) : Int) by omega), Ec hk]
   simp only [ze, jb]
   rw [show jx (ja s.2 + ja ([l[k].2.1.2.1] : List Int)) Oa = true from ji (by simp only [jw, j7]; omega)]
   cases l[k].2.1.1 == 2 <;> cases l[k].2.1.1 == 8 <;> rfl)
  (by
   intro s _
   simp only [Gr]
   rw [Ba (by omega)]; rfl) (by omega) (0, []) rfl).1
 have key : ∀ (l : List Ma) (k : Nat) (s : Int × List Int), Lc (fun _ (s : Int × List Int) (h : Ma) => (cond (h.2.1.1 == 2 || h.2.1.1 == 8) (Xe .i64 s.1 h.2.1.2.2.1) s.1, jf s.2 [h.2.1.2.1])) k s l =
  (Lc (fun _ s (h : Ma) => cond (h.2.1.1 == 2 || h.2.1.1 == 8) (Xe .i64 s h.2.1.2.2.1) s) k s.1 l, s.2 ++ l.map fun h => h.2.1.2.1) := by
  intro l
  induction l with
  | nil => intro k s; simp [Lc]
  | cons x l ih => intro k s; simp only [Lc]; rw [ih]; simp
 unfold Cd Tt
 rw [Px _ hn, hv]
 simp only [jb, jg, zf]
 erw [hl]
 rw [key]
 simp only [jb, qg, List.nil_append]
 rw [WI l hn (fun h hm => RJ (hh h hm).act)]
 rfl
def SG (c : Int) : Bool := decide (1 ≤ c ∧ c ≤ 36) || ((c == 39) || (c == 42))
theorem JO (c : Int) : Nv c = some (SG c, ()) := by
 unfold Nv SG
 by_cases h1 : c ≥ 1
 ·by_cases h2 : c ≤ 36
  ·rw [Aa h1, Aa h2, Aa (show 1 ≤ c ∧ c ≤ 36 by omega)]; rfl
  ·rw [Aa h1, Ba h2, Ba (show ¬ (1 ≤ c ∧ c ≤ 36) by omega)]
   cases c == 39 <;> rfl
 ·rw [Ba h1, Ba (show ¬ (1 ≤ c ∧ c ≤ 36) by omega)]
  cases c == 39 <;> rfl
def QB (f o : Int) (c : Bool) (a : Ga) : Int × Int × Bool × Ga :=
 cond (a.1 == 2) (cond (a.2.1 == 0) (f, o, c, a) (f, 0, c && SG a.2.1, a.1, a.2.1, cond ((c && SG a.2.1) && (decide (a.2.1 ≤ 26) && (Sk .i64 (Xe .i64 a.2.2.1 o) 2 == 0))) 2 (Xe .i64 a.2.2.1 o), a.2.2.2))
  (cond (a.1 == 4) (Yn .i64 f (Ke .i64 1 a.2.2.2.1), o, c, a) (cond (a.1 == 5) (Sk .i64 (Ke .i64 1 a.2.2.2.1) 1, o, c, a)
   (cond (a.1 == 8) (f, cond (Cl .i64 o a.2.2.1 == a.2.2.1) (Sk .i64 o a.2.2.1) (Xe .i64 o a.2.2.1), c, a) (cond (a.1 == 10) (f, o, !c, a) (f, o, c, a)))))
theorem UL {a : Ga} (h : Wb a = true) : 0 ≤ a.2.2.2.1 := by
 rw [Db] at h
 unfold Nb at h
 omega
theorem BL (m : Ha) (M : List (List Lb)) (f o : Int) (h : List Ma) (c : Bool) (a : Ga) (ha : Wb a = true) :
 Tq (m, M, f, h, o, c, ()) a = some ((m, M, (QB f o c a).1, h, (QB f o c a).2.1, (QB f o c a).2.2.1, ()), (QB f o c a).2.2.2, ()) := by
 have hn := UL ha
 unfold Tq QB
 rw [Aa hn]
 cases a.1 == 2 with
 | true =>
  cases a.2.1 == 0 with
  | true => rfl
  | false =>
   simp only [ze, zf, JO, jb]
   cases c with
   | false => rfl
   | true =>
    cases SG a.2.1 with
    | false => rfl
    | true => cases decide (a.2.1 ≤ 26) <;> cases Sk .i64 (Xe .i64 a.2.2.1 o) 2 == 0 <;> rfl
 | false =>
  cases a.1 == 4 with
  | true => rfl
  | false =>
   cases a.1 == 5 with
   | true => rfl
   | false =>
    cases a.1 == 8 with
    | true => cases Cl .i64 o a.2.2.1 == a.2.2.1 <;> rfl
    | false => cases a.1 == 10 <;> rfl
theorem Zao : ∀ f : Fin 16, ∀ n : Fin 4, ∀ l : Fin 5, 1 ≤ n.val → n.val < l.val → f.val < 2 ^ l.val → f.val % 2 = 0 →
 0 ≤ Yn .i64 (f.val : Int) (Ke .i64 1 (n.val : Int)) ∧ Yn .i64 (f.val : Int) (Ke .i64 1 (n.val : Int)) < ((2 ^ l.val : Nat) : Int) ∧ (Yn .i64 (f.val : Int) (Ke .i64 1 (n.val : Int))).tmod 2 = 0 := by decide +kernel
theorem Var : ∀ n : Fin 4, ∀ l : Fin 5, n.val < l.val →
 0 ≤ Sk .i64 (Ke .i64 1 (n.val : Int)) 1 ∧ Sk .i64 (Ke .i64 1 (n.val : Int)) 1 < ((2 ^ l.val : Nat) : Int) ∧ (Sk .i64 (Ke .i64 1 (n.val : Int)) 1).tmod 2 = 0 := by decide +kernel
theorem U9 : ∀ o m : Fin 16, (0 ≤ Sk .i64 (o.val : Int) (m.val : Int) ∧ Sk .i64 (o.val : Int) (m.val : Int) ≤ 15) ∧ (0 ≤ Xe .i64 (o.val : Int) (m.val : Int) ∧ Xe .i64 (o.val : Int) (m.val : Int) ≤ 15) := by decide +kernel
structure Yk (nl : Nat) (f o : Int) : Prop where
 f0 : 0 ≤ f
 f1 : f < ((2 ^ nl : Nat) : Int)
 f2 : f.tmod 2 = 0
 o0 : 0 ≤ o
 o1 : o ≤ 15
structure PJ (nl : Nat) (a : Ga) : Prop where
 act : Wb a = true
 n1 : a.1 ≠ 1
 n6 : a.1 ≠ 6
 n7 : a.1 ≠ 7
 n : a.1 ≠ 9 → a.2.2.2.1 < (nl : Int)
theorem Zau {a b : Int} (ha : 0 ≤ a ∧ a ≤ 15) (hb : 0 ≤ b ∧ b ≤ 15) : 0 ≤ Xe .i64 a b ∧ Xe .i64 a b ≤ 15 := by
 obtain ⟨n, rfl⟩ := jv ha.1
 obtain ⟨m, rfl⟩ := jv hb.1
 exact (U9 ⟨n, by omega⟩ ⟨m, by omega⟩).2
theorem Fat {a b : Int} (ha : 0 ≤ a ∧ a ≤ 15) (hb : 0 ≤ b ∧ b ≤ 15) : 0 ≤ Sk .i64 a b ∧ Sk .i64 a b ≤ 15 := by
 obtain ⟨n, rfl⟩ := jv ha.1
 obtain ⟨m, rfl⟩ := jv hb.1
 exact (U9 ⟨n, by omega⟩ ⟨m, by omega⟩).1
theorem Aav {nl : Nat} (h : nl ≤ 4) : 2 ^ nl ≤ 16 := Nat.pow_le_pow_right (n := 2) (by omega) h
theorem Sah {nl : Nat} (hnl : nl ≤ 4) {f o : Int} {c : Bool} {a : Ga} (hs : Yk nl f o) (ha : PJ nl a) :
 Yk nl (QB f o c a).1 (QB f o c a).2.1 ∧ PJ nl (QB f o c a).2.2.2 := by
 have hP := ha.act
 rw [Db] at hP
 unfold Nb at hP
 have h16 := Aav hnl
 obtain ⟨k, code, mods, n, u⟩ := a
 have hn1 := ha.n1; have hn6 := ha.n6; have hn7 := ha.n7; have hnn := ha.n
 simp only at hP hn1 hn6 hn7 hnn
 have hf1 := hs.f1
 unfold QB
 simp only
 by_cases h2 : k = 2
 ·subst h2
  by_cases h0 : code = 0
  ·subst h0; exact ⟨hs, ha⟩
  ·rw [show ((2 : Int) == 2) = true from rfl, show (code == 0) = false by simp [h0]]
   simp only [ze, zf]
   refine ⟨⟨hs.f0, hs.f1, hs.f2, by decide, by decide⟩, ?_⟩
   have hm := Zau (a := mods) (b := o) (by omega) ⟨hs.o0, hs.o1⟩
   refine ⟨?_, hn1, hn6, hn7, hnn⟩
   have hn0 : n = 0 := by omega
   have hcd : 1 ≤ code ∧ code ≤ 56 := by omega
   rw [Db]
   cases ((c && SG code) && (decide (code ≤ 26) && (Sk .i64 (Xe .i64 mods o) 2 == 0))) with
   | true => exact .inr (.inl ⟨rfl, hn0, .inr hcd, .inr ⟨by show (1 : Int) ≤ 2; decide, by show (2 : Int) ≤ 15; decide⟩, .inl (by show code ≠ 0; omega)⟩)
   | false =>
    refine .inr (.inl ⟨rfl, hn0, .inr hcd, ?_, .inl (by show code ≠ 0; omega)⟩)
    show Xe .i64 mods o = 0 ∨ 1 ≤ Xe .i64 mods o ∧ Xe .i64 mods o ≤ 15
    omega
 ·rw [show (k == 2) = false by simp [h2]]
  simp only [zf]
  by_cases h4 : k = 4
  ·subst h4
   have hr : 1 ≤ n ∧ n ≤ 3 := by omega
   have hlt := hnn (by omega)
   obtain ⟨fn, hfn⟩ := jv hs.f0
   obtain ⟨nn, hnn'⟩ := jv (show 0 ≤ n by omega)
   have hf2 := hs.f2
   rw [hfn] at hf1 hf2
   have hfl : fn < 2 ^ nl := Int.ofNat_lt.1 hf1
   have := Zao ⟨fn, by omega⟩ ⟨nn, by omega⟩ ⟨nl, by omega⟩ (by show 1 ≤ nn; omega) (by show nn < nl; omega) hfl (by
    rw [Int.tmod_eq_emod_of_nonneg (by omega)] at hf2; show fn % 2 = 0; omega)
   simp only [show ((4 : Int) == 4) = true from rfl, ze]
   rw [hfn, hnn']
   exact ⟨⟨this.1, this.2.1, this.2.2, hs.o0, hs.o1⟩, by rw [← hnn']; exact ha⟩
  ·rw [show (k == 4) = false by simp [h4]]
   simp only [zf]
   by_cases h5 : k = 5
   ·subst h5
    have hr : 0 ≤ n ∧ n ≤ 3 := by omega
    have hlt := hnn (by omega)
    obtain ⟨nn, hnn'⟩ := jv (show 0 ≤ n by omega)
    have := Var ⟨nn, by omega⟩ ⟨nl, by omega⟩ (by show nn < nl; omega)
    simp only [show ((5 : Int) == 5) = true from rfl, ze]
    rw [hnn']
    exact ⟨⟨this.1, this.2.1, this.2.2, hs.o0, hs.o1⟩, by rw [← hnn']; exact ha⟩
   ·rw [show (k == 5) = false by simp [h5]]
    simp only [zf]
    by_cases h8 : k = 8
    ·subst h8
     have hm : 0 ≤ mods ∧ mods ≤ 15 := by omega
     simp only [show ((8 : Int) == 8) = true from rfl, ze]
     cases Cl .i64 o mods == mods with
     | true => have := Fat ⟨hs.o0, hs.o1⟩ hm; exact ⟨⟨hs.f0, hs.f1, hs.f2, this.1, this.2⟩, ha⟩
     | false => have := Zau ⟨hs.o0, hs.o1⟩ hm; exact ⟨⟨hs.f0, hs.f1, hs.f2, this.1, this.2⟩, ha⟩
    ·rw [show (k == 8) = false by simp [h8]]
     simp only [zf]
     cases k == 10 <;> exact ⟨hs, ha⟩
theorem GZ {m : Ha} (hm : Bw m) (on : Int) {k : Nat} (hk : (k : Int) < m.1) : Tf m.2.1.length (Kf m on k) (Ph m.2.1 (Kf m on k) k) = true ∧ (Ph m.2.1 (Kf m on k) k).1 ≠ 1 := by
 have hl := Ww hm on k
 have hrow := hm.row _ hl
 have hk' : k < m.2.1[Kf m on k].length := by omega
 have hact := hm.act _ hl k hk'
 rw [IC hl hk']
 refine ⟨hact, ?_⟩
 have key : ∀ n, Le m.2.1 on k n = 0 ∨ (Ph m.2.1 (Le m.2.1 on k n) k).1 ≠ 1 := by
  intro n
  induction n with
  | zero => exact .inl rfl
  | succ n ih =>
   simp only [Le]
   cases hc : ((Gk on ((n + 1 : Nat) : Int) == 1) && ((Ph m.2.1 (n + 1) k).1 != 1)) with
   | true =>
    simp only [jd, bne_iff_ne] at hc
    exact .inr hc.2
   | false => exact ih
 rcases key (m.2.1.length - 1) with h0 | h1
 ·have h0' : Kf m on k = 0 := h0
  intro h1
  simp only [Tf, jd, yj, Bool.and_eq_false_iff, beq_eq_false_iff_ne] at hact
  rcases hact.1.2 with h2 | h2
  ·exact h2 (by rw [h0']; rfl)
  ·exact h2 h1
 ·have e : Ph m.2.1 (Le m.2.1 on k (m.2.1.length - 1)) k = m.2.1[Kf m on k][k] := IC hl hk'
  rw [e] at h1
  exact h1
theorem Jaa {nl i : Nat} {a : Ga} (h : Tf nl i a = true) (h1 : a.1 ≠ 1) : PJ nl (SE a) := by
 have ha := MB h
 have hP := ha
 rw [Db] at hP
 unfold Nb at hP
 unfold SE Mf
 rw [ha]
 by_cases h67 : a.1 = 6 ∨ a.1 = 7
 ·have e : (true && ((a.1 == 6) || (a.1 == 7))) = true := by rcases h67 with h | h <;> rw [h] <;> rfl
  rw [e]
  simp only [ze]
  refine ⟨?_, by show (2 : Int) ≠ 1; decide, by show (2 : Int) ≠ 6; decide, by show (2 : Int) ≠ 7; decide, fun _ => ?_⟩
  ·rw [Db]
   exact .inr (.inl ⟨rfl, rfl, .inr (by show 1 ≤ a.2.1 ∧ a.2.1 ≤ 56; omega), .inl rfl, .inl (by show a.2.1 ≠ 0; omega)⟩)
  ·show (0 : Int) < (nl : Int)
   have := FL h (by omega)
   omega
 ·have e : (true && ((a.1 == 6) || (a.1 == 7))) = false := by
   rw [jk, yq, beq_eq_false_iff_ne, beq_eq_false_iff_ne]; omega
  rw [e]
  exact ⟨ha, h1, fun h => h67 (.inl h), fun h => h67 (.inr h), fun hk => FL h hk⟩
def N3 (m : Ha) (f o : Int) (c : Bool) (h : List Ma) : Qb := (m, [], f, h, o, c, ())
theorem Bap {nl : Nat} {k : Nat} (hk : k ≤ 31) {a : Ga} (ha : PJ nl a) : Oe [((k : Int), a, ())] = true := by
 have e : Ms 0 ((k : Int), a, ()) = true := by
  simp only [Ms, ha.act, jk]
  rw [Aa (show 0 ≤ (k : Int) ∧ (k : Int) ≤ 31 by omega)]
  have hb : (Gk 0 (k : Int) == 1) = false := by
   have := YG (a := 0) (k := k) (by decide) (by omega)
   rw [Nat.zero_testBit] at this
   exact this
  rw [hb]
  simp [ha.n1, ha.n6, ha.n7]
 show Is (Ob _ 0 0 [_]) = true
 simp only [Ob, Kt, e, ze, Is]
theorem Qac {m : Ha} (hv : Gc m = true) {f o : Int} (hs : Yk m.2.1.length f o) (c : Bool) {h : List Ma} (hh : Oe h = true) (hi : ∀ x ∈ h, Qi m.1 m.2.1.length x = true) : Ag (N3 m f o c h) = true := by
 have hk := Hd hv
 have e1 : Ae (fun _ x => Qi m.1 m.2.1.length x) 0 h = true := Fp.2 fun j hj => hi _ (qi hj)
 show (Gc m && (decide (([] : List (List Lb)).length ≤ 4) && (Oe h && (true && (Ae (fun _ x => Qi m.1 m.2.1.length x) 0 h &&
  (decide (0 ≤ f ∧ f < ((2 ^ m.2.1.length : Nat) : Int)) && ((yc f 2 == 0) && decide (0 ≤ o ∧ o ≤ 15)))))))) = true
 rw [hv, hh, e1, Aa (⟨hs.f0, hs.f1⟩ : 0 ≤ f ∧ f < ((2 ^ m.2.1.length : Nat) : Int)), Aa (⟨hs.o0, hs.o1⟩ : 0 ≤ o ∧ o ≤ 15), hs.f2]
 rfl
theorem Vao (m : Ha) (f o : Int) (c : Bool) (h : List Ma) : Eb Rc (N3 m f o c h) = Eb Ua m + h.length := by
 rw [Bl, Xu]
 have : Eb (.sl (.sl Kd)) (N3 m f o c h).2.1 = 0 := rfl
 rw [this, js]; rfl
theorem Sat {nl : Nat} (h4 : nl ≤ 4) {f o : Int} (hs : Yk nl f o) : 0 ≤ f ∧ f ≤ 15 := by
 have := Aav h4
 have h1 := hs.f1
 have h0 := hs.f0
 omega
theorem CX (e : Qb) (k : Int) (hn : e.2.2.2.1.length ≤ Ka) : SD e k = some (Vd (fun h => h.1 == k) 0 e.2.2.2.1, ()) := by
 have h20 : Ka = 1048576 := rfl
 have hl := ZJ (step := fun x => Kv x.1.1 x.1.2.1 x.1.2.2.1 x.1.2.2.2.1) e.2.2.2.1 (fun h => h.1 == k) (fun i => ((k, e.2.2.2.1, ((ja e.2.2.2.1 : Nat) : Int), i, ()), ())) (.inl ((), ())) (fun i => .inr ((i, ()), ()))
  (by
   intro j hj
   simp only [Kv]
   rw [Aa (show (j : Int) < ((ja e.2.2.2.1 : Nat) : Int) by omega), Ec hj]
   simp only [ze, jb]
   cases e.2.2.2.1[j].1 == k <;> rfl) (by
   simp only [Kv]
   rw [Ba (by omega)]; rfl) (by omega)
 unfold SD Lw
 erw [hl]
 simp only [jb]
 by_cases hc : Vd (fun h : Ma => h.1 == k) 0 e.2.2.2.1 = -1
 ·rw [if_pos hc, hc]; rfl
 ·rw [if_neg hc]; rfl
theorem TI (a : Ca) (l : List Ca) (hn : l.length ≤ Ka) (ha : a.2.1.length ≤ Ka) (hx : ∀ x ∈ l, x.2.1.length ≤ Ka) : Je a l = some (Zz Tz a l, ()) := by
 have h20 : Ka = 1048576 := rfl
 have hlim := Vh
 unfold Je Hac
 have e : (jx (ja l) Oa && (YH a && l.all YH)) = true := by
  rw [jd, jd, yv]
  refine ⟨ji (by omega), ji (by show ja a.2.1 ≤ _; omega), fun x hm => ji ?_⟩
  have := hx x hm
  show ja x.2.1 ≤ _
  omega
 rw [e]; rfl
theorem BH : ∀ (l : List Ca) (a : Ca), (Zz Tz a l).length ≤ l.length
 | [], _ => by simp [Zz]
 | x :: l, a => by
  have := BH l x
  simp only [Zz]
  cases Tz a x <;> simp <;> omega
theorem NG (l : List Ma) : (Qc l).2.1.length ≤ 56 := PU l 56
theorem NC : ∀ (l : List Ca) (a x : Ca), x ∈ Zz Tz a l → x ∈ l
 | [], _, x, h => by simp [Zz] at h
 | y :: l, a, x, h => by
  simp only [Zz] at h
  cases hs : Tz a y with
  | true => rw [hs] at h; exact jr _ (NC l y x h)
  | false =>
   rw [hs] at h
   rcases jp.1 h with h | h
   ·exact h ▸ List.mem_cons_self ..
   ·exact jr _ (NC l y x h)
noncomputable def Baj (m : Ha) (f : Int) (k : Nat) : Ga := SE (Ph m.2.1 (Kf m (Xe .i64 1 f) k) k)
noncomputable def TZ (m : Ha) (f o : Int) (c : Bool) (k : Nat) : Int × Int × Bool × Ga := QB f o c (Baj m f k)
noncomputable def hK (m : Ha) (f o : Int) (c : Bool) (k : Nat) : List Ma := [((k : Int), (TZ m f o c k).2.2.2, ())]
structure Im (m : Ha) : Prop where
 v : Gc m = true
 z : Eb Ua m ≤ Ka - 10
theorem Waq {m : Ha} (hM : Im m) {f o : Int} {c : Bool} (hs : Yk m.2.1.length f o) {k : Nat} (hk : (k : Int) < m.1) :
 PJ m.2.1.length (Baj m f k) ∧ Yk m.2.1.length (TZ m f o c k).1 (TZ m f o c k).2.1 ∧ PJ m.2.1.length (TZ m f o c k).2.2.2 ∧ Oe (hK m f o c k) = true ∧
  (∀ x ∈ hK m f o c k, Qi m.1 m.2.1.length x = true) := by
 have hm := Hd hM.v
 have h1 := GZ hm (Xe .i64 1 f) hk
 have h2 := Jaa h1.1 h1.2
 have h3 := Sah (c := c) hm.l2 hs h2
 refine ⟨h2, h3.1, h3.2, Bap (by have := hm.k2; omega) h3.2, fun x hx => ?_⟩
 simp only [hK, jp, zd, or_false] at hx
 subst hx
 simp only [Qi, jd, yj, Bool.and_eq_false_iff, decide_eq_false_iff_not]
 refine ⟨by omega, ?_⟩
 by_cases h9 : (TZ m f o c k).2.2.2.1 = 9
 ·exact .inl (by show ((TZ m f o c k).2.2.2.1 != 9) = false; simp [h9])
 ·exact .inr (Int.not_le.2 (h3.2.n h9))
theorem z20 {m : Ha} (hM : Im m) (f o : Int) (c : Bool) (h : List Ma) (hh : h.length ≤ 1) : Eb Rc (N3 m f o c h) ≤ Ka := by
 have h20 : Ka = 1048576 := rfl
 have := hM.z
 rw [Vao]; omega
theorem HQ (l : List Ma) : (Qc l).2.1.length ≤ Ka := by
 have h20 : Ka = 1048576 := rfl
 have := NG l
 omega
theorem Zaz : Oe [] = true := rfl
theorem RH {m : Ha} (hv : Gc m = true) : Im m := by
 have hm := Hd hv
 refine ⟨hv, ?_⟩
 have h20 : Ka = 1048576 := rfl
 have h1 : Eb Ua m = 0 + (Eb (.sl (.sl Bc)) m.2.1 + 0) := rfl
 have h2 : Eb (.sl (.sl Bc)) m.2.1 ≤ (32 + 1) * ja m.2.1 := QG (e := .sl Bc) (c := 32) fun x hx => by
  obtain ⟨i, hi, rfl⟩ := qj hx
  rw [KP]
  have := hm.row i hi
  have := hm.k2
  omega
 have := hm.l2
 omega
theorem IR {n i : Nat} {a : Ga} (h : UG (n : Int) a) : Tf n i a = true := by
 obtain ⟨h1, h2, h3⟩ := h
 unfold Tf
 rw [h1]
 have e1 : (a.1 == 1) = false := by simp; exact h2
 rw [e1]
 rcases h3 with h | h
 ·simp [h]
 ·simp; exact .inr h
theorem Nad {n i : Nat} (hi : 0 < i) (hn : 1 ≤ n) : Tf n i ((1 : Int), (0 : Int), (0 : Int), (0 : Int), ()) = true := by
 unfold Tf
 have : Wb ((1 : Int), (0 : Int), (0 : Int), (0 : Int), ()) = true := (Db _).2 (by simp [Nb])
 rw [this]
 have hi' : ((i : Int) == 0) = false := by simp; omega
 rw [hi']
 simp; omega
theorem MY {α : Type} {p : Nat → α → Bool} {xs : List α} {x : α} (h : Ae p 0 xs = true) (hx : p xs.length x = true) : Ae p 0 (xs ++ [x]) = true := by
 rw [Fp] at h ⊢
 intro j hj
 rw [qd, List.length_singleton] at hj
 rw [List.getElem_append]
 split
 ·rename_i h1; exact h j h1
 ·have : j = xs.length := by omega
  subst this
  simpa using hx
theorem Eak {c : Zb} (hc : Kn c) {keys n i : Nat} (hk : keys ≤ 32) (hn : 1 ≤ n) (hn4 : n ≤ 4) (b4 b6 : Ha) :
 ∃ (c' : Zb) (row : List Ga), Jx (((), (keys : Int), (), (n : Int), (), (i : Int), ([] : List Ga), (0 : Int), ()), (c, b4, b6, ())) = some (.inl (((), (keys : Int), (), (n : Int), (), (i : Int), row, ()), (c', b4, b6, ()))) ∧
  Kn c' ∧ row.length = keys ∧ Ae (fun _ a => Tf n i a) 0 row = true := by
 have hlim : Oa = 1073741824 := rfl
 have := DJ (s := fun x : ((Unit × (Int × (Unit × (Int × (Unit × (Int × ((List Ga) × (Int × Unit)))))))) × (Zb × (Ha × (Ha × Unit)))) => XB x.1.1 x.1.2.1 x.1.2.2.1 x.1.2.2.2.1 x.1.2.2.2.2.1 x.1.2.2.2.2.2.1 x.1.2.2.2.2.2.2.1 x.1.2.2.2.2.2.2.2.1 x.2.1 x.2.2.1 x.2.2.2.1)
  (fun m x => ∃ (c' : Zb) (row : List Ga) (k : Nat), x = (((), (keys : Int), (), (n : Int), (), (i : Int), row, (k : Int), ()), (c', b4, b6, ())) ∧ m + k = keys ∧ row.length = k ∧ Kn c' ∧ Ae (fun _ a => Tf n i a) 0 row = true)
  (fun r => ∃ (c' : Zb) (row : List Ga), r = .inl (((), (keys : Int), (), (n : Int), (), (i : Int), row, ()), (c', b4, b6, ())) ∧ Kn c' ∧ row.length = keys ∧ Ae (fun _ a => Tf n i a) 0 row = true) (by
  rintro m x ⟨c', row, k, rfl, hm, hl, hc', hr⟩
  simp only [XB]
  by_cases h1 : (k : Int) < (keys : Int)
  ·rw [Aa h1]
   obtain ⟨c1, a, e1, hc1, ha⟩ := Fag hc' (n : Int) (by omega) (by omega)
   rw [e1]
   simp only [ze, jb]
   have room : ∀ z : Ga, jx (ja row + ja [z]) Oa = true := fun z => ji (by simp; omega)
   rw [Af (by omega)]
   have Zg : ∀ (z : Ga) (c2 : Zb), Tf n i z = true → Kn c2 → ∃ c' row' k', (((), (keys : Int), (), (n : Int), (), (i : Int), jf row [z], ((k + 1 : Nat) : Int), ()), (c2, b4, b6, ())) = (((), (keys : Int), (), (n : Int), (), (i : Int), row', ((k' : Nat) : Int), ()), (c', b4, b6, ())) ∧ (m - 1) + k' = keys ∧ ja row' = k' ∧ Kn c' ∧ Ae (fun _ a => Tf n i a) 0 row' = true :=
    fun z c2 hz h2 => ⟨c2, _, k + 1, rfl, by omega, by simp [hl], h2, MY hr hz⟩
   by_cases h2 : (i : Int) > 0
   ·rw [Aa h2]
    obtain ⟨c2, b, e2, hc2⟩ := V9 hc1 3 (by omega)
    rw [e2]
    simp only [ze, jb, room]
    cases b with
    | true => exact .inr ⟨_, m - 1, by omega, rfl, Zg _ _ (Nad (by omega) hn) hc2⟩
    | false => exact .inr ⟨_, m - 1, by omega, rfl, Zg _ _ (IR ha) hc2⟩
   ·rw [Ba h2]
    simp only [ze, zf, room]
    exact .inr ⟨_, m - 1, by omega, rfl, Zg _ _ (IR ha) hc1⟩
  ·rw [Ba h1]; exact .inl ⟨_, rfl, c', row, rfl, hc', by omega, hr⟩) keys (((), (keys : Int), (), (n : Int), (), (i : Int), ([] : List Ga), ((0 : Nat) : Int), ()), (c, b4, b6, ())) ⟨c, [], 0, rfl, rfl, rfl, hc, rfl⟩
 obtain ⟨r, e, c', row, rfl, h⟩ := this
 exact ⟨c', row, e, h⟩
theorem Gag {c : Zb} (hc : Kn c) {keys : Nat} (hk1 : 1 ≤ keys) (hk : keys ≤ 32) : ∃ (c' : Zb) (m : Ha), Ez c (keys : Int) = some (c', (m, ())) ∧ Kn c' ∧ Gc m = true ∧ m.1 = (keys : Int) := by
 have hlim : Oa = 1073741824 := rfl
 obtain ⟨c1, x1, e1, hc1, b1⟩ := Gw hc 4 (by omega)
 obtain ⟨n0, rfl⟩ := jv b1.1
 obtain ⟨n, hn⟩ : ∃ n : Nat, n = n0 + 1 := ⟨_, rfl⟩
 have hw : j5 .i64 ((1 : Int) + (n0 : Int)) = (n : Int) := by rw [Gd (by omega) (by omega)]; omega
 unfold Ez
 rw [e1]
 simp only [jb, hw]
 have := DJ (s := fun x : ((Unit × (Int × (Unit × (Int × (Unit × (Int × Unit)))))) × (Zb × (Ha × (Ha × Unit)))) => WB x.1.1 x.1.2.1 x.1.2.2.1 x.1.2.2.2.1 x.1.2.2.2.2.1 x.1.2.2.2.2.2.1 x.2.1 x.2.2.1 x.2.2.2.1)
  (fun m x => ∃ (c' : Zb) (L : List (List Ga)) (k : Nat), x = (((), (keys : Int), (), (n : Int), (), (k : Int), ()), (c', ((0 : Int), ([] : List (List Ga)), ()), ((keys : Int), L, ()), ())) ∧ m + k = n ∧ L.length = k ∧ Kn c' ∧ Ae (fun i l => Wh (keys : Int) n i l) 0 L = true)
  (fun r => ∃ (c' : Zb) (L : List (List Ga)), r = .inl (((), (), (), ()), (c', ((0 : Int), ([] : List (List Ga)), ()), ((keys : Int), L, ()), ())) ∧ Kn c' ∧ L.length = n ∧ Ae (fun i l => Wh (keys : Int) n i l) 0 L = true) (by
  rintro m x ⟨c', L, k, rfl, hm, hl, hc', hr⟩
  simp only [WB]
  by_cases h1 : (k : Int) < (n : Int)
  ·rw [Aa h1]
   obtain ⟨c2, row, e2, hc2, hrow, hall⟩ := Eak hc' (i := k) hk (show 1 ≤ n by omega) (show n ≤ 4 by omega) ((0 : Int), ([] : List (List Ga)), ()) ((keys : Int), L, ())
   erw [e2]
   simp only [ze, jb, qg]
   rw [show jx (ja L + ja [row]) Oa = true from ji (by simp; omega), Af (by omega)]
   refine .inr ⟨_, m - 1, by omega, rfl, c2, _, k + 1, rfl, by omega, by simp [hl], hc2, ?_⟩
   refine MY hr ?_
   unfold Wh
   rw [hl, hall, hrow]
   simp
  ·rw [Ba h1]; exact .inl ⟨_, rfl, c', L, rfl, hc', by omega, hr⟩) n (((), (keys : Int), (), (n : Int), (), ((0 : Nat) : Int), ()), (c1, ((0 : Int), ([] : List (List Ga)), ()), ((keys : Int), ([] : List (List Ga)), ()), ())) ⟨c1, [], 0, rfl, rfl, rfl, hc1, rfl⟩
 obtain ⟨r, e, c', L, rfl, hc', hL, hall⟩ := this
 unfold Ix
 erw [e]
 refine ⟨c', ((keys : Int), L, ()), rfl, hc', ?_, rfl⟩
 unfold Gc
 simp only [jd, decide_eq_true_eq]
 refine ⟨⟨by omega, by omega⟩, ?_⟩
 show Ae (fun i l => Wh (keys : Int) L.length i l) 0 L = true
 rw [hL]; exact hall

def Wk (p : Int → Bool) : Nat → List Int
 | 0 => []
 | n + 1 => cond (p ((n + 1 : Nat) : Int)) (Wk p n ++ [((n + 1 : Nat) : Int)]) (Wk p n)
theorem AJ (p : Int → Bool) : ∀ (n : Nat) (x : Int), x ∈ Wk p n ↔ (1 ≤ x ∧ x ≤ (n : Int)) ∧ p x = true
 | 0, x => by simp [Wk]; intro h1 h2; omega
 | n + 1, x => by
  simp only [Wk]
  cases hc : p ((n + 1 : Nat) : Int) with
  | true =>
   simp only [ze, jl, AJ p n x, jp, zd, or_false]
   constructor
   ·rintro (⟨h1, h2⟩ | rfl)
    ·exact ⟨by omega, h2⟩
    ·exact ⟨by omega, hc⟩
   ·rintro ⟨h1, h2⟩
    by_cases hx : x = ((n + 1 : Nat) : Int)
    ·exact .inr hx
    ·exact .inl ⟨by omega, h2⟩
  | false =>
   simp only [zf, AJ p n x]
   constructor
   ·rintro ⟨h1, h2⟩; exact ⟨by omega, h2⟩
   ·rintro ⟨h1, h2⟩
    refine ⟨?_, h2⟩
    by_cases hx : x = ((n + 1 : Nat) : Int)
    ·rw [hx, hc] at h2; simp at h2
    ·omega
theorem FZ (p : Int → Bool) : ∀ n, (Wk p n).length ≤ n
 | 0 => by simp [Wk]
 | n + 1 => by
  have := FZ p n
  simp only [Wk]
  cases p ((n + 1 : Nat) : Int) <;> simp <;> omega
theorem EH (l : List Ma) : ∀ n, Mn l n = Wk (fun c => l.any fun h => h.2.1.2.1 == c) n
 | 0 => rfl
 | n + 1 => by simp only [Mn, Wk, EH l n]
theorem PS (cs : List Int) (hn : cs.length ≤ Ka) (hx : ∀ c ∈ cs, 0 ≤ c ∧ c ≤ 56) : Bs cs = some (Wk (fun c => cs.any (fun y => y == c)) 56, ()) := by
 have := WI (cs.map fun c => ((0, (0, c, 0, 0, ()), ()) : Ma)) (by simpa using hn) (fun h hh => by
  obtain ⟨c, hc, rfl⟩ := qk.1 hh
  exact hx c hc)
 rw [List.map_map] at this
 have e : za ((fun h : Ma => h.2.1.2.1) ∘ fun c => ((0, (0, c, 0, 0, ()), ()) : Ma)) cs = cs := by
  rw [show ((fun h : Ma => h.2.1.2.1) ∘ fun c => ((0, (0, c, 0, 0, ()), ()) : Ma)) = id from rfl, List.map_id]
 rw [e] at this
 rw [this, EH]
 congr 3
 funext c
 rw [List.any_map]
 rfl
def Fao (s : Int) (D : List Yb) : Int := Lc (fun _ s (p : Yb) => Xe .i64 s p.2.1) 0 s D
def OJ (b : Ca) (D : List Yb) : Ca := (Fao b.1 D, Wk (fun c => b.2.1.any (fun y => y == c) || D.any (fun p => p.1 == c)) 56, ())
theorem QQ (b : Ca) (D : List Yb) (hb : b.2.1.length ≤ 56) (hD : D.length ≤ 1000) (hbx : ∀ c ∈ b.2.1, 0 ≤ c ∧ c ≤ 56) (hDx : ∀ p ∈ D, 0 ≤ p.1 ∧ p.1 ≤ 56) :
 Ff b D = some (OJ b D, ()) := by
 have h20 : Ka = 1048576 := rfl
 have hl := (Bg (step := fun x => Aq x.1.1 x.1.2.1 x.1.2.2.1 x.1.2.2.2.1 x.1.2.2.2.2.1 x.1.2.2.2.2.2.1 x.2.1 x.2.2.1) D
  (fun _ (s : Int × List Int) (p : Yb) => (Xe .i64 s.1 p.2.1, jf s.2 [p.1])) (fun s i => (((), (), s.2, D, ((ja D : Nat) : Int), i, ()), (((0 : Int), ([] : List Int), ()), (s.1, ([] : List Int), ()), ())))
  (fun s => .inl (((), (), s.2, ()), (((0 : Int), ([] : List Int), ()), (s.1, ([] : List Int), ()), ()))) (fun k s => s.2.length = b.2.1.length + k) (by
   intro k hk s hs
   refine ⟨?_, by simp [hs]; omega⟩
   simp only [Aq]
   rw [Aa (show (k : Int) < ((ja D : Nat) : Int) by omega), Ec hk]
   simp only [ze, jb]
   rw [show jx (ja s.2 + ja ([D[k].1] : List Int)) Oa = true from ji (by simp only [jw, j7, Vh]; omega)]
   rfl)
  (by
   intro s _
   simp only [Aq]
   rw [Ba (by omega)]; rfl) (by omega) (b.1, b.2.1) (by simp)).1
 have key : ∀ (D : List Yb) (k : Nat) (s : Int × List Int), Lc (fun _ (s : Int × List Int) (p : Yb) => (Xe .i64 s.1 p.2.1, jf s.2 [p.1])) k s D =
  (Lc (fun _ s (p : Yb) => Xe .i64 s p.2.1) k s.1 D, s.2 ++ D.map fun p => p.1) := by
  intro D
  induction D with
  | nil => intro k s; simp [Lc]
  | cons x D ih => intro k s; simp only [Lc]; rw [ih]; simp
 unfold Ff Hs
 rw [AA _ (by omega)]
 simp only [jb]
 erw [hl]
 rw [key]
 simp only [jb, qg]
 rw [PS _ (by simp; omega) (fun c hc => by
  rcases jl.1 hc with h | h
  ·exact hbx c h
  ·obtain ⟨p, hp, rfl⟩ := qk.1 h
   exact hDx p hp)]
 simp only [jb, OJ, Fao]
 congr 4
 apply congrArg (fun p => Wk p 56)
 funext c
 rw [List.any_append, List.any_map]
 rfl

noncomputable def rM (L : List Ma) (x : Lb) : Int := Vd (Dk x.2.1 x.2.2.1) 0 L
noncomputable def RM (b : Ca) (L : List Ma) (x : Lb) : List Ca :=
 cond (x.1 == 0) [OJ b ((jf L [Ip x]).map Md), OJ b (L.map Md)] [OJ b ((WC x L (rM L x)).map Md)]
noncomputable def mG (b : Ca) (s : List Ca × List Ma) (x : Lb) : List Ca × List Ma := (jf s.1 (RM b s.2 x), WC x s.2 (rM s.2 x))
noncomputable def DL (b : Ca) (l : List Lb) : List Ca := (Lc (fun _ s x => mG b s x) 0 ([], []) l).1
structure Rab (l : List Lb) (k : Nat) (s : List Ca × List Ma) : Prop where
 ok : ∃ L', Ob (fun _ L x => Xl L x) k s.2 (l.drop k) = .inl L'
 len : s.2.length ≤ k
 out : s.1.length ≤ 2 * k
 cod : ∀ h ∈ s.2, 0 ≤ h.2.1.2.1 ∧ h.2.1.2.1 ≤ 56
theorem Zaj {l : List Lb} {k : Nat} (hk : k < l.length) {b : Ca} {s : List Ca × List Ma} (hi : Rab l k s) : Tl l[k] (rM s.2 l[k]) = true ∧ Rab l (k + 1) (mG b s l[k]) := by
 obtain ⟨L', hL⟩ := hi.ok
 rw [List.drop_eq_getElem_cons hk] at hL
 simp only [Ob] at hL
 unfold rM
 cases hc : Tl l[k] (Vd (Dk l[k].2.1 l[k].2.2.1) 0 s.2) with
 | false =>
  have : Xl s.2 l[k] = .inr () := by unfold Xl; rw [hc]; rfl
  rw [this] at hL; simp at hL
 | true =>
  have hm : Xl s.2 l[k] = .inl (WC l[k] s.2 (rM s.2 l[k])) := by unfold Xl rM; rw [hc]; rfl
  rw [hm] at hL
  refine ⟨rfl, ⟨L', hL⟩, ?_, ?_, ?_⟩
  ·have := KX hm
   have := hi.len
   show (WC l[k] s.2 (rM s.2 l[k])).length ≤ k + 1
   omega
  ·have := hi.out
   show (jf s.1 (RM b s.2 l[k])).length ≤ _
   unfold RM
   cases l[k].1 == 0 <;> simp <;> omega
  ·have hcode : 0 ≤ l[k].2.1 ∧ l[k].2.1 ≤ 56 := by
    simp only [Tl, jd] at hc
    exact RJ hc.1
   intro h hh
   have hh' : h ∈ WC l[k] s.2 (rM s.2 l[k]) := hh
   unfold WC at hh'
   cases h1 : l[k].1 == 1 with
   | true =>
    rw [h1] at hh'
    rcases jl.1 (show h ∈ s.2 ++ [Ip l[k]] from hh') with hh' | hh'
    ·exact hi.cod h hh'
    ·simp only [jp, zd, or_false] at hh'
     rw [hh']; exact hcode
   | false =>
    rw [h1] at hh'
    cases h2 : l[k].1 == 2 with
    | true =>
     rw [h2] at hh'
     have hsub : h ∈ s.2 := by
      have hw : h ∈ Ch s.2 (rM s.2 l[k]).toNat := hh'
      unfold Ch Xa at hw
      rcases jl.1 (show h ∈ _ ++ _ from hw) with hw | hw
      ·exact List.mem_of_mem_take (List.mem_of_mem_drop hw)
      ·exact List.mem_of_mem_take (List.mem_of_mem_drop hw)
     exact hi.cod h hsub
    | false => rw [h2] at hh'; exact hi.cod h hh'
theorem Lak {x : Lb} {r : Int} (h : Tl x r = true) : (x.1 = 0 ∧ r < 0) ∨ (x.1 = 1 ∧ r < 0) ∨ (x.1 = 2 ∧ r ≥ 0) := by
 simp only [Tl, jd, qx, beq_iff_eq, yj, decide_eq_false_iff_not, decide_eq_true_eq] at h
 omega
theorem Da {n m : Nat} (h : n ≤ 1000) (hm : m ≤ 10) : jx (n + m) Oa = true := ji (by rw [Vh]; omega)
theorem Yak (a : List Ma) : ∀ c ∈ (Qc a).2.1, 0 ≤ c ∧ c ≤ 56 := by
 intro c hc
 have := (ZA a 56 c).1 hc
 omega
theorem FM (a : List Ma) (l : List Lb) (hn : a.length ≤ Ka) (ha : Oe a = true) (hm : Vc l = true) : Oj a l = some (DL (Qc a) l, ()) := by
 have h20 : Ka = 1048576 := rfl
 have hm' := hm
 simp only [Vc, jd, decide_eq_true_eq, JX] at hm'
 have h0 : Rab l 0 ([], []) := ⟨by
  rw [List.drop_zero]
  cases hf : Ob (fun _ L x => Xl L x) 0 [] l with
  | inl L => exact ⟨L, rfl⟩
  | inr u => rw [hf] at hm'; simp at hm', jo _, jo _, by simp⟩
 have hl := (Bg (step := fun x => Ll x.1.1 x.1.2.1 x.1.2.2.1 x.1.2.2.2.1 x.1.2.2.2.2.1 x.1.2.2.2.2.2.1 x.2.1) l (fun _ s x => mG (Qc a) s x) (fun s i => (((), s.1, s.2.map Md, l, ((ja l : Nat) : Int), i, ()), (Qc a, ()))) (fun s => .inl ((s.1, ()), ())) (Rab l) (by
  intro k hk s hi
  obtain ⟨hok, hi'⟩ := Zaj (b := Qc a) hk hi
  refine ⟨?_, hi'⟩
  have hlen := hi.len
  have hout := hi.out
  have hl8 := hm'.1
  have hcode : 0 ≤ l[k].2.1 ∧ l[k].2.1 ≤ 56 := by
   simp only [Tl, jd] at hok
   exact RJ hok.1
  simp only [Ll]
  rw [Aa (show (k : Int) < ((ja l : Nat) : Int) by omega), Ec hk]
  simp only [ze, jb]
  generalize hx : l[k] = x at *
  have hW : ∀ L : List Ma, L.length ≤ 1000 → (∀ h ∈ L, 0 ≤ h.2.1.2.1 ∧ h.2.1.2.1 ≤ 56) → Ff (Qc a) (L.map Md) = some (OJ (Qc a) (L.map Md), ()) := fun L h1 h2 =>
   QQ _ _ (NG a) (by simpa using h1) (Yak a) (fun p hp => by
    obtain ⟨h, hh, rfl⟩ := qk.1 hp
    exact h2 h hh)
  have hcs : ∀ h ∈ jf s.2 [Ip x], 0 ≤ h.2.1.2.1 ∧ h.2.1.2.1 ≤ 56 := by
   intro h hh
   rcases jl.1 (show h ∈ s.2 ++ [Ip x] from hh) with hh | hh
   ·exact hi.cod h hh
   ·simp only [jp, zd, or_false] at hh
    rw [hh]; exact hcode
  have happ : jf (s.2.map Md) ([(x.2.1, x.2.2.1, ())] : List Yb) = (jf s.2 [Ip x]).map Md := by
   show _ ++ _ = za Md (_ ++ _)
   rw [yu]; rfl
  have happ2 : jf (jf ([] : List Yb) (s.2.map Md)) ([(x.2.1, x.2.2.1, ())] : List Yb) = (jf s.2 [Ip x]).map Md := happ
  have hR1 := hW (jf s.2 [Ip x]) (by simp; omega) hcs
  have hR0 := hW s.2 (by omega) hi.cod
  have b1 : jx (ja (s.2.map Md) + ja ([(x.2.1, x.2.2.1, ())] : List Yb)) Oa = true := Da (by simp; omega) (by simp)
  have b0 : jx (ja ([] : List Yb) + ja (s.2.map Md)) Oa = true := ji (by simp [Vh]; omega)
  unfold mG RM WC
  rcases Lak hok with ⟨h0, hr⟩ | ⟨h1, hr⟩ | ⟨h2, hr⟩
  ·rw [h0, b0]
   simp only [show ((0 : Int) == 0) = true from rfl, show ((0 : Int) == 1) = false from rfl, show ((0 : Int) == 2) = false from rfl, ze, zf]
   show cond (jx (ja (s.2.map Md) + ja ([(x.2.1, x.2.2.1, ())] : List Yb)) Oa) _ _ = _
   rw [b1, happ2]
   simp only [ze]
   show jz (Ff (Qc a) _) _ = _
   rw [hR1]
   simp only [jb]
   rw [show ∀ r : Ca, jx (ja s.1 + ja ([r] : List Ca)) Oa = true from fun r => Da (by omega) (by simp)]
   simp only [ze]
   show jz (Ff (Qc a) _) _ = _
   rw [hR0]
   simp only [jb]
   rw [show ∀ r r' : Ca, jx (ja (jf s.1 [r]) + ja ([r'] : List Ca)) Oa = true from fun r r' => Da (by simp; omega) (by simp)]
   simp
  ·rw [h1, b1, happ]
   simp only [show ((1 : Int) == 0) = false from rfl, show ((1 : Int) == 1) = true from rfl, ze, zf]
   show jz (Ff (Qc a) _) _ = _
   rw [hR1]
   simp only [jb]
   rw [show ∀ r : Ca, jx (ja s.1 + ja ([r] : List Ca)) Oa = true from fun r => Da (by omega) (by simp)]
   rfl
  ·rw [h2]
   simp only [show ((2 : Int) == 0) = false from rfl, show ((2 : Int) == 1) = false from rfl, show ((2 : Int) == 2) = true from rfl, ze, zf]
   rcases NA (Dk x.2.1 x.2.2.1) s.2 0 with h | ⟨j, hj, h⟩
   ·unfold rM at hr; omega
   ·rw [js] at h
    rw [AL (s.2.map Md) _ (by simp; omega), VV, h]
    simp only [jb]
    have hj' : j < (s.2.map Md).length := by simpa using hj
    have hc := WN hj'
    have e1 : jx (ja (Xa (s.2.map Md) (jy 0) (jy (j : Int))) + ja (Xa (s.2.map Md) (jy ((j + 1 : Nat) : Int)) (jy ((ja (s.2.map Md) : Nat) : Int)))) Oa = true :=
     ji (by simp [Xa]; rw [Vh]; omega)
    have e2 : jf (Xa (s.2.map Md) (jy 0) (jy (j : Int))) (Xa (s.2.map Md) (jy ((j + 1 : Nat) : Int)) (jy ((ja (s.2.map Md) : Nat) : Int))) = (Ch s.2 j).map Md := by
     rw [← RR]
     simp [Ch]
    have hsub : ∀ h ∈ Ch s.2 j, 0 ≤ h.2.1.2.1 ∧ h.2.1.2.1 ≤ 56 := by
     intro h hw
     unfold Ch Xa at hw
     rcases jl.1 (show h ∈ _ ++ _ from hw) with hw | hw
     ·exact hi.cod h (List.mem_of_mem_take (List.mem_of_mem_drop hw))
     ·exact hi.cod h (List.mem_of_mem_take (List.mem_of_mem_drop hw))
    rw [Af (k := j) (by omega), hc.1, hc.2, e1, e2]
    simp only [ze]
    show jz (Ff (Qc a) _) _ = _
    rw [hW (Ch s.2 j) (by rw [Y6 hj]; omega) hsub]
    simp only [jb]
    rw [show ∀ r : Ca, jx (ja s.1 + ja ([r] : List Ca)) Oa = true from fun r => Da (by omega) (by simp)]
    unfold rM
    rw [h, jn]
    rfl)
  (by
   intro s _
   simp only [Ll]
   rw [Ba (by omega)]; rfl) (by omega) ([], []) h0).1
 unfold Oj Tn
 rw [Px _ hn, ha, Mv _ (by omega), hm, Wn _ hn ha]
 simp only [jb, jg, zf]
 erw [hl]
 rfl
theorem WZ (b : Ca) (D : List Yb) : (OJ b D).2.1.length ≤ 56 := by
 show (Wk (fun c => b.2.1.any (fun y => y == c) || D.any (fun p => p.1 == c)) 56).length ≤ 56
 exact FZ _ 56
theorem X4 (b : Ca) : ∀ (l : List Lb) (k : Nat) (s : List Ca × List Ma), (∀ x ∈ s.1, x.2.1.length ≤ 56) →
 (Lc (fun _ s x => mG b s x) k s l).1.length ≤ s.1.length + 2 * l.length ∧ ∀ x ∈ (Lc (fun _ s x => mG b s x) k s l).1, x.2.1.length ≤ 56
 | [], _, s, h => by simp only [Lc]; exact ⟨by omega, h⟩
 | x :: l, k, s, h => by
  have h1 : (mG b s x).1.length ≤ s.1.length + 2 ∧ ∀ y ∈ (mG b s x).1, y.2.1.length ≤ 56 := by
   unfold mG RM
   cases x.1 == 0 with
   | true =>
    refine ⟨by simp, fun y hy => ?_⟩
    rcases jl.1 (show y ∈ s.1 ++ _ from hy) with hy | hy
    ·exact h y hy
    ·simp only [ze, jp, zd, or_false] at hy
     rcases hy with rfl | rfl <;> exact WZ _ _
   | false =>
    refine ⟨by simp, fun y hy => ?_⟩
    rcases jl.1 (show y ∈ s.1 ++ _ from hy) with hy | hy
    ·exact h y hy
    ·simp only [zf, jp, zd, or_false] at hy
     rw [hy]; exact WZ _ _
  have := X4 b l (k + 1) (mG b s x) h1.2
  simp only [Lc, jw]
  exact ⟨by omega, this.2⟩
def Pj (f : Int) (l : List Ma) : Int := Lc (fun _ s (h : Ma) => cond (h.2.1.1 == 3) (Xe .i64 s (Ke .i64 1 h.2.1.2.2.2.1)) s) 0 (Xe .i64 1 f) l
theorem TC {f : Int} (hf : 0 ≤ f ∧ f ≤ 15) (l : List Ma) (hn : l.length ≤ Ka) (hv : Oe l = true) : Wo f l = some (Pj f l, ()) := by
 have h20 : Ka = 1048576 := rfl
 have hh := Tw hv
 have hl := (Bg (step := fun x => Er x.1.1 x.1.2.1 x.1.2.2.1 x.1.2.2.2.1) l
  (fun _ s (h : Ma) => cond (h.2.1.1 == 3) (Xe .i64 s (Ke .i64 1 h.2.1.2.2.2.1)) s) (fun s i => ((s, l, ((ja l : Nat) : Int), i, ()), ()))
  (fun s => .inl ((s, ()), ())) (fun _ _ => True) (by
   intro k hk s _
   refine ⟨?_, trivial⟩
   simp only [Er]
   rw [Aa (show (k : Int) < (ja l : Int) by omega), Ec hk]
   simp only [ze, jb]
   rw [Aa (UL (hh _ (qi hk)).act)]
   cases l[k].2.1.1 == 3 <;> rfl)
  (by
   intro s _
   simp only [Er]
   rw [Ba (by omega)]; rfl) (by omega) (Xe .i64 1 f) trivial).1
 unfold Wo Ej
 rw [Aa (show f ≥ 0 by omega), Aa hf.2, Px _ hn, hv]
 simp only [ze, jb, jg, zf]
 erw [hl]
 rfl
theorem DX (a : Ga) : UD a = some (WK a, ()) := by
 unfold UD WK
 rw [Iy]
 cases Mf a <;> cases a.1 == 6 <;> rfl
end KF
