/- An evaluator of Go functions on plain data, its soundness, and plain laws on what the functions compute, part 4 (conditions: as each lemma tells). -/
import Derived.Test.YtdgeblmmmffgfaaGreatDoorC
set_option linter.unusedSimpArgs false
set_option linter.unusedVariables false
namespace KF
open Go
open List renaming length → ja, getElem?_eq_getElem → je, append → jf, mem_append → jl, mem_cons → jp, mem_cons_of_mem → jr, length_cons → jv, set → j4, length_nil → j6, length_set → j7, mem_singleton → qb, length_append → qc, getElem?_append_left → qe, getElem?_append_right → qf, getD_eq_getElem?_getD → qg, getElem_mem → qj, getElem_of_mem → qk, mem_map → ql, getElem?_set_self → qm, length_drop → qn, length_take → qo, mem_cons_self → qq
open Option renaming bind_some → jb, bind → jy, map_some → qa, bind_eq_some_iff → qd
open Option.some renaming injEq → jc
open Bool renaming and_eq_true → jd, not_true → jg, true_and → jk, false_eq_true → jq, not_eq_true → j8, eq_iff_iff → qp
open Prod.mk renaming injEq → jh
open Nat renaming ble_eq_true_of_le → ji, mul_le_mul_right → jm, le_refl → jo, zero_add → js, add_assoc → jt, eq_of_beq_eq_true → ju, ble → jw, le_trans → j9, lt_of_lt_of_le → qi
open Int renaming toNat_natCast → jn, toNat → jx
open Go.IntKind renaming wrap → jz
open Sum renaming elim → j5, elim_inl → qh
open Result renaming andThen_ok → qr
open Sem renaming run_bind → qs
def Dc (k c m n : Int) : Prop :=
 ((k = 0 ∨ k = 1 ∨ k = 10) ∧ c = 0 ∧ m = 0 ∧ n = 0) ∨
 (k = 2 ∧ n = 0 ∧ (c = 0 ∨ 1 ≤ c ∧ c ≤ 56) ∧ (m = 0 ∨ 1 ≤ m ∧ m ≤ 15) ∧ (c ≠ 0 ∨ m ≠ 0)) ∨
 ((k = 3 ∨ k = 4) ∧ c = 0 ∧ m = 0 ∧ 1 ≤ n ∧ n ≤ 3) ∨
 ((k = 5 ∨ k = 9) ∧ c = 0 ∧ m = 0 ∧ 0 ≤ n ∧ n ≤ 3) ∨
 (k = 6 ∧ 1 ≤ c ∧ c ≤ 56 ∧ 1 ≤ m ∧ m ≤ 15 ∧ n = 0) ∨
 (k = 7 ∧ 1 ≤ c ∧ c ≤ 56 ∧ m = 0 ∧ 1 ≤ n ∧ n ≤ 3) ∨
 (k = 8 ∧ c = 0 ∧ 1 ≤ m ∧ m ≤ 15 ∧ n = 0)
noncomputable def Sb (a : Ha) : Bool := open Classical in decide (Dc a.1 a.2.1 a.2.2.1 a.2.2.2.1)
theorem Mb (a : Ha) : Sb a = true ↔ Dc a.1 a.2.1 a.2.2.1 a.2.2.2.1 := by simp [Sb]
theorem AA (c : Int) : Kn c = some (decide (1 ≤ c ∧ c ≤ 56), ()) := by
 simp only [Kn, Pg, Qg]
 apply Tb; simp only [Lc, decide_eq_true_eq, TA, UA, jq, and_false, false_and, or_false, false_or, and_true, true_and, not_true_eq_false, not_false_eq_true]; try omega
theorem BA (c : Int) : Dl c = some (decide (1 ≤ c ∧ c ≤ 15), ()) := by
 simp only [Dl, Pg, Qg]
 apply Tb; simp only [Lc, decide_eq_true_eq, TA, UA, jq, and_false, false_and, or_false, false_or, and_true, true_and, not_true_eq_false, not_false_eq_true]; try omega
theorem Bz (c : Int) : Wl c = some (decide (1 ≤ c ∧ c ≤ 3), ()) := by
 simp only [Wl, Pg, Qg]
 apply Tb; simp only [Lc, decide_eq_true_eq, TA, UA, jq, and_false, false_and, or_false, false_or, and_true, true_and, not_true_eq_false, not_false_eq_true]; try omega
theorem Ge (c a b : Int) : Pc c a b = some (decide (a ≤ c ∧ c ≤ b), ()) := by
 simp only [Pc, Pg, Qg]
 apply Tb; simp only [Lc, decide_eq_true_eq, TA, UA, jq, and_false, false_and, or_false, false_or, and_true, true_and, not_true_eq_false, not_false_eq_true]; try omega
theorem Dj (a : Ha) : Uf a = some (Sb a, ()) := by
 obtain ⟨k, c, m, n, u⟩ := a
 have key : ∀ k c m n : Int, Uf (k, c, m, n, u) = some (Sb (k, c, m, n, u), ()) := by
  intro k c m n
  simp only [Uf, AA, BA, Bz, Ge, jb, Pg, Qg]
  by_cases h0 : k = 0
  ·subst h0; apply Tb; rw [Mb]; simp [Dc, Lc]; try omega
  by_cases h1 : k = 1
  ·subst h1; apply Tb; rw [Mb]; simp [Dc, Lc]; try omega
  by_cases h2 : k = 2
  ·subst h2; apply Tb; rw [Mb]; simp [Dc, Lc]; intro hn; (repeat' split) <;> omega
  by_cases h3 : k = 3
  ·subst h3; apply Tb; rw [Mb]; simp [Dc, Lc]; try omega
  by_cases h4 : k = 4
  ·subst h4; apply Tb; rw [Mb]; simp [Dc, Lc]; try omega
  by_cases h5 : k = 5
  ·subst h5; apply Tb; rw [Mb]; simp [Dc, Lc]; try omega
  by_cases h6 : k = 6
  ·subst h6; apply Tb; rw [Mb]; simp [Dc, Lc]; try omega
  by_cases h7 : k = 7
  ·subst h7; apply Tb; rw [Mb]; simp [Dc, Lc]; try omega
  by_cases h8 : k = 8
  ·subst h8; apply Tb; rw [Mb]; simp [Dc, Lc]; try omega
  by_cases h9 : k = 9
  ·subst h9; apply Tb; rw [Mb]; simp [Dc, Lc]; try omega
  by_cases h10 : k = 10
  ·subst h10; apply Tb; rw [Mb]; simp [Dc, Lc]; try omega
  have g : ∀ j : Int, (k == j) = decide (k = j) := fun j => by rw [qp]; simp
  apply Tb; rw [Mb]; simp [Dc, Lc, h0, h1, h2, h3, h4, h5, h6, h7, h8, h9, h10]
 exact key k c m n
theorem Gj (a : Ha) : Vf a = some (Sb a, ()) := by
 obtain ⟨k, c, m, n, u⟩ := a
 have key : ∀ k c m n : Int, Vf (k, c, m, n, u) = some (Sb (k, c, m, n, u), ()) := by
  intro k c m n
  simp only [Vf, AA, BA, Bz, Ge, jb, Pg, Qg]
  by_cases h0 : k = 0
  ·subst h0; apply Tb; rw [Mb]; simp [Dc, Lc]; try omega
  by_cases h1 : k = 1
  ·subst h1; apply Tb; rw [Mb]; simp [Dc, Lc]; try omega
  by_cases h2 : k = 2
  ·subst h2; apply Tb; rw [Mb]; simp [Dc, Lc]; intro hn; (repeat' split) <;> omega
  by_cases h3 : k = 3
  ·subst h3; apply Tb; rw [Mb]; simp [Dc, Lc]; try omega
  by_cases h4 : k = 4
  ·subst h4; apply Tb; rw [Mb]; simp [Dc, Lc]; try omega
  by_cases h5 : k = 5
  ·subst h5; apply Tb; rw [Mb]; simp [Dc, Lc]; try omega
  by_cases h6 : k = 6
  ·subst h6; apply Tb; rw [Mb]; simp [Dc, Lc]; try omega
  by_cases h7 : k = 7
  ·subst h7; apply Tb; rw [Mb]; simp [Dc, Lc]; try omega
  by_cases h8 : k = 8
  ·subst h8; apply Tb; rw [Mb]; simp [Dc, Lc]; try omega
  by_cases h9 : k = 9
  ·subst h9; apply Tb; rw [Mb]; simp [Dc, Lc]; try omega
  by_cases h10 : k = 10
  ·subst h10; apply Tb; rw [Mb]; simp [Dc, Lc]; try omega
  have g : ∀ j : Int, (k == j) = decide (k = j) := fun j => by rw [qp]; simp
  apply Tb; rw [Mb]; simp [Dc, Lc, h0, h1, h2, h3, h4, h5, h6, h7, h8, h9, h10]
 exact key k c m n
noncomputable def Rp (nl : Nat) (i : Nat) (a : Ha) : Bool := Sb a && !(((i : Int) == 0) && (a.1 == 1)) && !((a.1 != 9) && decide (a.2.2.2.1 ≥ (nl : Int)))
noncomputable def Zh (keys : Int) (nl : Nat) (i : Nat) (l : List Ha) : Bool := ((ja l : Int) == keys) && Zd (fun _ a => Rp nl i a) 0 l
noncomputable def Yb (m : Ka) : Bool :=
 decide (1 ≤ m.1 ∧ m.1 ≤ 32) && decide (1 ≤ m.2.1.length ∧ m.2.1.length ≤ 4) && Zd (fun i l => Zh m.1 m.2.1.length i l) 0 m.2.1
theorem UG (m : Ka) (i : Nat) (l : List Ha) (L : List (List Ha)) (n : Int) (t : Int) (hl : l.length < 9223372036854775807) :
 Hi (((), (i : Int), L, n, t, l, (l.length : Int), (0 : Int), ()), (m, ())) =
  some (cond (Zd (fun _ a => Rp m.2.1.length i a) 0 l) (.inl (((), L, n, t, ()), (m, ()))) (.inr ((false, ()), ()))) := by
 unfold Hi
 refine Sk (step := _) l (fun _ a => Rp m.2.1.length i a) (fun j => (((), (i : Int), L, n, t, l, (l.length : Int), j, ()), (m, ()))) _ _ ?_ ?_ hl
 ·intro k hk
  simp only [Ar]
  rw [Ba (show (k : Int) < (l.length : Int) by omega), Ic hk]
  simp only [cond_true, jb, Rp, Dj]
  cases Sb l[k] <;> cases ((i : Int) == 0) <;> cases (l[k].1 == 1) <;> cases (l[k].1 != 9) <;> cases decide (l[k].2.2.2.1 ≥ (m.2.1.length : Int)) <;> rfl
 ·simp [Ar]
theorem Ct (m : Ka) (hz : Ja Ua m ≤ Wa) : Vj m = some (Yb m, ()) := by
 have h20 : Wa = 1048576 := rfl
 have hz' : m.2.1.length + (List.map (Ja (.sl Xa)) m.2.1).sum ≤ Wa := by
  have : Ja Ua m = Ja (.sl (.sl Xa)) m.2.1 := by simp only [Ja, Nat.add_zero, js]
  rw [this] at hz; exact hz
 have hl : ∀ k (hk : k < m.2.1.length), m.2.1[k].length ≤ Wa := by
  intro k hk
  have := Sq (f := Ja (.sl Xa)) hk
  have h2 : m.2.1[k].length ≤ Ja (.sl Xa) m.2.1[k] := Nat.le_add_right _ _
  omega
 have hloop : Gi (((), m.2.1, ((ja m.2.1 : Nat) : Int), (0 : Int), ()), (m, ())) =
  some (cond (Zd (fun i l => Zh m.1 m.2.1.length i l) 0 m.2.1) (.inl ((), ())) (.inr ((false, ()), ()))) := by
  unfold Gi
  refine Sk (step := _) m.2.1 (fun i l => Zh m.1 m.2.1.length i l) (fun j => (((), m.2.1, ((ja m.2.1 : Nat) : Int), j, ()), (m, ()))) _ _ ?_ ?_ (by omega)
  ·intro k hk
   have := hl k hk
   simp only [Zq]
   rw [Ba (show (k : Int) < (m.2.1.length : Int) by omega), Ic hk]
   simp only [cond_true, jb, Zh]
   rw [UG m k _ _ _ _ (by omega)]
   show (cond (!((m.2.1[k].length : Int) == m.1)) _ _) = _
   cases ((m.2.1[k].length : Int) == m.1) <;> cases Zd (fun _ a => Rp m.2.1.length k a) 0 m.2.1[k] <;> rfl
  ·simp [Zq]
 unfold Vj
 rw [hloop]
 simp only [jb, NL, Pg, Qg]
 apply Tb
 simp only [Lc, Yb, jd, decide_eq_true_eq, jq, and_false, false_or, and_true, or_false]
 generalize Zd (fun i l => Zh m.1 m.2.1.length i l) 0 m.2.1 = b
 constructor
 ·rintro ⟨h1, h2, h3, h4, h5⟩; exact ⟨⟨by omega, by omega⟩, h5⟩
 ·rintro ⟨⟨h1, h2⟩, h5⟩; exact ⟨by omega, by omega, by omega, by omega, h5⟩
theorem PH (m : Ka) (i : Nat) (hi : i < m.2.1.length) (hl : m.2.1[i].length < 9223372036854775807) :
 Ri (((), (i : Int), (0 : Int), ()), (m, ())) =
  some (cond (Zd (fun _ a => Rp m.2.1.length i a) 0 m.2.1[i]) (.inl (((), (i : Int), ()), (m, ()))) (.inr ((false, ()), ()))) := by
 unfold Ri
 refine Sk (step := _) m.2.1[i] (fun _ a => Rp m.2.1.length i a) (fun j => (((), (i : Int), j, ()), (m, ()))) _ _ ?_ ?_ hl
 ·intro k hk
  simp only [Ir]
  rw [Ic hi]
  simp only [jb]
  rw [Ba (show (k : Int) < (m.2.1[i].length : Int) by omega), Ic hk]
  simp only [cond_true, jb, Rp, Gj]
  cases Sb m.2.1[i][k] <;> cases ((i : Int) == 0) <;> cases (m.2.1[i][k].1 == 1) <;> cases (m.2.1[i][k].1 != 9) <;> cases decide (m.2.1[i][k].2.2.2.1 ≥ (m.2.1.length : Int)) <;> rfl
 ·simp [Ir, Ic hi]
theorem Oy (m : Ka) (hz : Ja Ua m ≤ Wa) : Hn m = some (Yb m, ()) := by
 have h20 : Wa = 1048576 := rfl
 have hz' : m.2.1.length + (List.map (Ja (.sl Xa)) m.2.1).sum ≤ Wa := by
  have : Ja Ua m = Ja (.sl (.sl Xa)) m.2.1 := by simp only [Ja, Nat.add_zero, js]
  rw [this] at hz; exact hz
 have hl : ∀ k (hk : k < m.2.1.length), m.2.1[k].length ≤ Wa := by
  intro k hk
  have := Sq (f := Ja (.sl Xa)) hk
  have h2 : m.2.1[k].length ≤ Ja (.sl Xa) m.2.1[k] := Nat.le_add_right _ _
  omega
 have hloop : Qi (((), (0 : Int), ()), (m, ())) =
  some (cond (Zd (fun i l => Zh m.1 m.2.1.length i l) 0 m.2.1) (.inl (((), ()), (m, ()))) (.inr ((false, ()), ()))) := by
  unfold Qi
  refine Sk (step := _) m.2.1 (fun i l => Zh m.1 m.2.1.length i l) (fun j => (((), j, ()), (m, ()))) _ _ ?_ ?_ (by omega)
  ·intro k hk
   have := hl k hk
   simp only [Hr]
   rw [Ba (show (k : Int) < (m.2.1.length : Int) by omega), Ic hk]
   simp only [cond_true, jb, Zh]
   rw [PH m k hk (by omega)]
   show (cond (!((m.2.1[k].length : Int) == m.1)) _ _) = _
   cases ((m.2.1[k].length : Int) == m.1) <;> cases Zd (fun _ a => Rp m.2.1.length k a) 0 m.2.1[k] <;> rfl
  ·simp [Hr]
 unfold Hn
 rw [hloop]
 simp only [jb, NL, Pg, Qg, Ge]
 apply Tb
 simp only [Lc, Yb, jd, decide_eq_true_eq, jq, and_false, false_or, and_true, or_false]
 generalize Zd (fun i l => Zh m.1 m.2.1.length i l) 0 m.2.1 = b
 constructor
 ·rintro ⟨h1, h2, h3⟩; exact ⟨⟨by omega, by omega⟩, h1⟩
 ·rintro ⟨⟨h1, h2⟩, h5⟩; exact ⟨h5, by omega, by omega⟩
theorem ZK {n : Nat} (h : n ≤ 62) : Mh .i64 1 (n : Int) = ((2 ^ n : Nat) : Int) := by
 unfold Mh
 have h1 : min (jx (n : Int)) (IntKind.bits .i64) = n := by
  show min (jx (n : Int)) 64 = n
  rw [jn]; omega
 rw [h1, Int.one_mul]
 have h2 : (2 : Int) ^ n = ((2 ^ n : Nat) : Int) := by simp
 have h3 : 2 ^ n ≤ 2 ^ 62 := Nat.pow_le_pow_right (by omega) h
 rw [h2]
 clear h1 h2
 generalize 2 ^ n = z at h3
 rw [Og (by omega) (by omega)]
structure C1 (m : Ka) : Prop where
 k1 : 1 ≤ m.1
 k2 : m.1 ≤ 32
 l1 : 1 ≤ m.2.1.length
 l2 : m.2.1.length ≤ 4
 row : ∀ i (h : i < m.2.1.length), (m.2.1[i].length : Int) = m.1
 act : ∀ i (h : i < m.2.1.length) k (hk : k < m.2.1[i].length), Rp m.2.1.length i m.2.1[i][k] = true
theorem Pt {m : Ka} (h : Yb m = true) : C1 m := by
 simp only [Yb, jd, decide_eq_true_eq] at h
 obtain ⟨⟨h1, h2⟩, h3⟩ := h
 rw [Rw] at h3
 refine ⟨h1.1, h1.2, h2.1, h2.2, fun i hi => ?_, fun i hi k hk => ?_⟩
 ·have := h3 i hi
  simp only [js, Zh, jd, beq_iff_eq] at this
  exact this.1
 ·have := h3 i hi
  simp only [js, Zh, jd, beq_iff_eq] at this
  have := Rw.1 this.2 k hk
  simpa using this
def Dx (m k : Int) : Int := Gu .i64 (Iy .i64 m k) 1
theorem AG (m : Int) {k : Int} (h : 0 ≤ k) : Dt m k = some (Dx m k, ()) := by
 unfold Dt
 rw [Ba h]; rfl
def Bao : Ha := (0, 0, 0, 0, ())
def SN (L : List (List Ha)) (i k : Nat) : Ha := (L.getD i []).getD k Bao
def TL (L : List (List Ha)) (on : Int) (k : Nat) : Nat → Nat
 | 0 => 0
 | n + 1 => cond ((Dx on ((n + 1 : Nat) : Int) == 1) && ((SN L (n + 1) k).1 != 1)) (n + 1) (TL L on k n)
def NP (m : Ka) (on : Int) (k : Nat) : Nat := TL m.2.1 on k (m.2.1.length - 1)
noncomputable def Ku (a : Ha) : Bool := Sb a && ((a.1 == 6) || (a.1 == 7))
noncomputable def C0 (a : Ha) : Ha := cond (Ku a) (2, a.2.1, 0, 0, ()) a
noncomputable def H5 (a : Ha) : Ha := cond (Ku a) (cond (a.1 == 6) (2, 0, a.2.2.1, 0, ()) (3, 0, 0, a.2.2.2.1, ())) a
theorem NF (a : Ha) : Qq a = some (Ku a, ()) := by
 unfold Qq Ku
 rw [Gj]
 cases Sb a <;> cases (a.1 == 6) <;> rfl
def Fe {α : Type} (p : α → Bool) : Nat → List α → Int
 | _, [] => -1
 | k, x :: xs => cond (p x) (k : Int) (Fe p (k + 1) xs)
def Tw {α β : Type} : α ⊕ β → Bool
 | .inl _ => true
 | .inr _ => false
def WK {X R : Type} (step : X → Option (X ⊕ R)) : Nat → X → Option R
 | 0, _ => none
 | n + 1, x => match step x with
  | some (.inl y) => WK step n y
  | some (.inr r) => some r
  | none => none
theorem YE {X R : Type} {step : X → Option (X ⊕ R)} : ∀ (n : Nat) {x : X} {r : R}, WK step n x = some r → Cb step x = some r
 | 0, _, _, h => by simp [WK] at h
 | n + 1, x, r, h => by
  unfold WK at h
  cases hs : step x with
  | none => rw [hs] at h; simp at h
  | some z =>
   rw [hs] at h
   rw [Ub hs]
   cases z with
   | inl y => exact YE n h
   | inr r' => exact h
def Wn : List (List UInt8) := [[97], [98], [99], [100], [101], [102], [103], [104], [105], [106], [107], [108], [109], [110], [111], [112], [113], [114], [115], [116], [117], [118], [119], [120], [121], [122], [49], [50], [51], [52], [53], [54], [55], [56], [57], [48], [101, 110, 116, 101, 114], [101, 115, 99], [98, 97, 99, 107], [116, 97, 98], [115, 112, 97, 99, 101], [109, 105, 110, 117, 115], [101, 113, 117, 97, 108], [108, 101, 102, 116], [114, 105, 103, 104, 116], [117, 112], [100, 111, 119, 110], [102, 49], [102, 50], [102, 51], [102, 52], [102, 53], [102, 54], [102, 55], [102, 56], [102, 57]]
theorem XW : Ev = some (Wn, ()) := by
 unfold Ev Gf Te
 erw [YE 400 (r := .inl ((Wn, ()), ())) (by kernel_rfl)]
 rfl
theorem YI : strings_Split Ys [32] = some (Wn, ()) := by kernel_rfl
def Ff (c : Int) : List UInt8 := cond (decide (1 ≤ c ∧ c ≤ 56)) (Wn.getD (c - 1).toNat []) []
theorem Wy : Wn.length = 56 := by decide +kernel
theorem RK {c : Int} (h : 1 ≤ c ∧ c ≤ 56) : Wn[(c - 1).toNat]? = some (Ff c) ∧ Je Wn.length (c - 1) = true := by
 have hl : (c - 1).toNat < Wn.length := by rw [Wy]; omega
 constructor
 ·unfold Ff
  rw [Ba h, cond_true, qg, je hl]; rfl
 ·have : c - 1 = (((c - 1).toNat : Nat) : Int) := by omega
  rw [this, Wi]; exact Ba hl
theorem TG (c : Int) : Wh c = some (Ff c, ()) := by
 unfold Wh
 by_cases h1 : c < 1
 ·rw [Ba h1]; unfold Ff; rw [Aa (show ¬ (1 ≤ c ∧ c ≤ 56) by omega)]; rfl
 rw [Aa h1]
 by_cases h2 : c > 56
 ·rw [Ba h2]; unfold Ff; rw [Aa (show ¬ (1 ≤ c ∧ c ≤ 56) by omega)]; rfl
 rw [Aa h2, YI]
 obtain ⟨e1, e2⟩ := RK (c := c) (by omega)
 simp only [cond_false, jb]
 rw [Og (by omega) (by omega), e1, e2]
 rfl
theorem Kt (c : Int) : Ug c = some (Ff c, ()) := by
 unfold Ug
 rw [Ge]
 by_cases h : 1 ≤ c ∧ c ≤ 56
 ·rw [Ba h, XW]
  obtain ⟨e1, e2⟩ := RK h
  simp only [jg, cond_false, jb]
  rw [Og (by omega) (by omega), e1, e2]
  rfl
 ·rw [Aa h]; unfold Ff; rw [Aa h]; rfl
noncomputable def Kq (s : Int) (x : Ib) : Bool := decide (0 ≤ x.1 ∧ x.1 ≤ 31) && (!(Dx s x.1 == 1) && (Sb x.2.1 && (!(x.2.1.1 == 1) && (!(x.2.1.1 == 6) && !(x.2.1.1 == 7)))))
noncomputable def Yn (s : Int) (x : Ib) : Int ⊕ Unit := cond (Kq s x) (.inl (En .i64 s (Mh .i64 1 x.1))) (.inr ())
noncomputable def UN (l : List Ib) : Int ⊕ Unit := Nc (fun _ s x => Yn s x) 0 0 l
noncomputable def Bg (l : List Ib) : Bool := Tw (UN l)
theorem IK (l : List Ib) (hn : l.length ≤ Wa) : Cw l = some (Bg l, ()) := by
 have h20 : Wa = 1048576 := rfl
 have hl := Rf (step := fun x => Ao x.1.1 x.1.2.1 x.1.2.2.1 x.1.2.2.2.1) l (fun _ s x => Yn s x) (fun s i => ((s, l, ((ja l : Nat) : Int), i, ()), ()))
  (fun _ => .inl ((), ())) (fun _ => .inr ((false, ()), ())) (fun _ _ => True) (by
   intro k hk s _
   refine ⟨?_, fun _ _ => trivial⟩
   simp only [Ao]
   rw [Ba (show (k : Int) < (ja l : Int) by omega), Ic hk]
   simp only [cond_true, jb]
   generalize l[k] = x
   simp only [Yn, Kq, Dj, jb]
   by_cases h1 : 0 ≤ x.1
   ·rw [Aa (show ¬ x.1 < 0 by omega), AG s h1]
    by_cases h2 : x.1 ≤ 31
    ·rw [Aa (show ¬ x.1 > 31 by omega), Ba (show 0 ≤ x.1 ∧ x.1 ≤ 31 from ⟨h1, h2⟩), Ba h1]
     simp only [jb, cond_false]
     cases Dx s x.1 == 1 <;> cases Sb x.2.1 <;> cases x.2.1.1 == 1 <;> cases x.2.1.1 == 6 <;> cases x.2.1.1 == 7 <;> rfl
    ·rw [Ba (show x.1 > 31 by omega), Aa (show ¬ (0 ≤ x.1 ∧ x.1 ≤ 31) by omega)]; rfl
   ·rw [Ba (show x.1 < 0 by omega), Aa (show ¬ (0 ≤ x.1 ∧ x.1 ≤ 31) by omega)]; rfl)
  (by
   intro s _
   simp only [Ao]
   rw [Aa (by omega)]; rfl) (by omega) 0 trivial
 unfold Cw Fp
 erw [hl]
 show jy (some _) _ = _
 simp only [jb, Bg, UN]
 cases Nc (fun x s x => Yn s x) 0 0 l <;> rfl
theorem AL (l : List Ib) (hn : l.length ≤ Wa) : Kw l = some (Bg l, ()) := by
 have h20 : Wa = 1048576 := rfl
 have hl := Rf (step := fun x => Oo x.1.1 x.1.2.1 x.1.2.2.1) l (fun _ s x => Yn s x) (fun s i => ((l, s, i, ()), ()))
  (fun _ => .inl ((), ())) (fun _ => .inr ((false, ()), ())) (fun _ _ => True) (by
   intro k hk s _
   refine ⟨?_, fun _ _ => trivial⟩
   simp only [Oo]
   rw [Ba (show (k : Int) < (ja l : Int) by omega), Ic hk]
   simp only [cond_true, jb]
   generalize l[k] = x
   simp only [Yn, Kq, Gj, NF, Ge, jb, Ku]
   by_cases h1 : 0 ≤ x.1 ∧ x.1 ≤ 31
   ·rw [Ba h1, Ba h1.1]
    simp only [Dx]
    cases Gu .i64 (Iy .i64 s x.1) 1 == 1 <;> cases Sb x.2.1 <;> cases x.2.1.1 == 1 <;> cases x.2.1.1 == 6 <;> cases x.2.1.1 == 7 <;> rfl
   ·rw [Aa h1]; rfl)
  (by
   intro s _
   simp only [Oo]
   rw [Aa (by omega)]; rfl) (by omega) 0 trivial
 unfold Kw Wp
 erw [hl]
 show jy (some _) _ = _
 simp only [jb, Bg, UN]
 cases Nc (fun x s x => Yn s x) 0 0 l <;> rfl
structure Ow (x : Ib) : Prop where
 lo : 0 ≤ x.1
 hi : x.1 ≤ 31
 act : Sb x.2.1 = true
 n1 : x.2.1.1 ≠ 1
 n6 : x.2.1.1 ≠ 6
 n7 : x.2.1.1 ≠ 7
theorem SZ {s : Int} {x : Ib} (h : Kq s x = true) : Ow x ∧ Dx s x.1 ≠ 1 := by
 simp only [Kq, jd, decide_eq_true_eq, Bool.not_eq_true', beq_eq_false_iff_ne] at h
 exact ⟨⟨h.1.1, h.1.2, h.2.2.1, h.2.2.2.1, h.2.2.2.2.1, h.2.2.2.2.2⟩, h.2.1⟩
theorem AP : ∀ {l : List Ib} {k : Nat} {s : Int}, Tw (Nc (fun _ s x => Yn s x) k s l) = true → ∀ x ∈ l, Ow x
 | [], _, _, _, x, hx => by simp at hx
 | y :: l, k, s, h, x, hx => by
  simp only [Nc, Yn] at h
  cases hc : Kq s y with
  | false => rw [hc] at h; simp [Tw] at h
  | true =>
   rw [hc] at h
   simp only [cond_true] at h
   rcases jp.1 hx with rfl | hx
   ·exact (SZ hc).1
   ·exact AP h x hx
theorem SL {l : List Ib} (h : Bg l = true) : ∀ x ∈ l, Ow x := AP h
def WE (l : List Ib) : Int := Wg (fun _ s (x : Ib) => En .i64 s (Mh .i64 1 x.1)) 0 0 l
theorem VG (l : List Ib) (hn : l.length ≤ Wa) (hx : ∀ x ∈ l, Ow x) : Is l = some (WE l, ()) := by
 have h20 : Wa = 1048576 := rfl
 have hl := (Vu (step := fun x => Nl x.1.1 x.1.2.1 x.1.2.2.1 x.1.2.2.2.1) l (fun _ s (x : Ib) => En .i64 s (Mh .i64 1 x.1)) (fun s i => ((s, l, ((ja l : Nat) : Int), i, ()), ()))
  (fun s => .inl ((s, ()), ())) (fun _ _ => True) (by
   intro k hk s _
   refine ⟨?_, trivial⟩
   simp only [Nl]
   rw [Ba (show (k : Int) < (ja l : Int) by omega), Ic hk]
   simp only [cond_true, jb]
   rw [Ba (hx _ (qj hk)).lo]; rfl)
  (by
   intro s _
   simp only [Nl]
   rw [Aa (by omega)]; rfl) (by omega) 0 trivial).1
 unfold Is Qm
 erw [hl]
 rfl
theorem PI {α β : Type} (p : β → Bool) (f : α → β) : ∀ (xs : List α) (k : Nat), Fe p k (xs.map f) = Fe (fun x => p (f x)) k xs
 | [], _ => rfl
 | x :: xs, k => by simp only [List.map_cons, Fe, PI p f xs]
theorem YC {α : Type} (p : α → Bool) : ∀ (xs : List α) (k : Nat), Fe p k xs = -1 ∨ ∃ j : Nat, j < xs.length ∧ Fe p k xs = ((k + j : Nat) : Int)
 | [], _ => .inl rfl
 | x :: xs, k => by
  simp only [Fe]
  cases p x with
  | true => exact .inr ⟨0, by simp, by simp⟩
  | false =>
   rcases YC p xs (k + 1) with h | ⟨j, h1, h2⟩
   ·exact .inl h
   ·exact .inr ⟨j + 1, by simp; omega, by simp only [cond_false]; rw [h2]; omega⟩
theorem AD {α : Type} (p : α → Bool) : ∀ (xs : List α) (k : Nat), (Nc (fun k (_ : Unit) x => cond (p x) (.inr (k : Int)) (.inl ())) k () xs : Unit ⊕ Int) = if Fe p k xs = -1 then .inl () else .inr (Fe p k xs)
 | [], _ => rfl
 | x :: xs, k => by
  rcases Bool.eq_false_or_eq_true (p x) with hp | hp
  ·simp only [Nc, Fe, hp, cond_true]; rw [if_neg (by omega)]
  ·simp only [Nc, Fe, hp, cond_false]; exact AD p xs (k + 1)
theorem DG {X R α : Type} {step : X → Option (X ⊕ R)} (xs : List α) (p : α → Bool) (I : Int → X) (no : R) (yes : Int → R)
 (h : ∀ k (hk : k < xs.length), step (I (k : Int)) = some (cond (p xs[k]) (.inr (yes (k : Int))) (.inl (I (jz .i64 ((k : Int) + 1))))))
 (he : step (I (xs.length : Int)) = some (.inr no)) (hn : xs.length < 9223372036854775807) :
 Cb step (I 0) = some (if Fe p 0 xs = -1 then no else yes (Fe p 0 xs)) := by
 have := Rf (step := step) xs (fun k (_ : Unit) x => cond (p x) (.inr (k : Int)) (.inl ())) (fun _ i => I i) (fun _ => no) yes (fun _ _ => True) (fun k hk s _ => by
  refine ⟨?_, fun _ _ => trivial⟩
  rw [h k hk]
  cases p xs[k] <;> rfl) (fun _ _ => he) hn () trivial
 rw [this, AD]
 by_cases hc : Fe p 0 xs = -1
 ·rw [if_pos hc, if_pos hc]
 ·rw [if_neg hc, if_neg hc]
def Hf (h : Ib) : Gc := (h.2.1.2.1, h.2.1.2.2.1, ())
def Lk (c m : Int) (h : Ib) : Bool := (h.2.1.2.1 == c) && (h.2.1.2.2.1 == m)
theorem KK (l : List Gc) (c : Gc) (hn : l.length ≤ Wa) : Ew l c = some (Fe (fun x => Xn Xg x c) 0 l, ()) := by
 have h20 : Wa = 1048576 := rfl
 have hl := DG (step := fun x => Fo x.1.1 x.1.2.1 x.1.2.2.1 x.1.2.2.2.1 x.2.1) l (fun x => Xn Xg x c) (fun i => (((), l, ((ja l : Nat) : Int), i, ()), (c, ())))
  (.inl ((), ())) (fun i => .inr ((i, ()), ())) (by
   intro k hk
   simp only [Fo]
   rw [Ba (show (k : Int) < (ja l : Int) by omega), Ic hk]
   simp only [cond_true, jb]
   cases Xn Xg l[k] c <;> rfl) (by
   simp only [Fo]
   rw [Aa (by omega)]; rfl) (by omega)
 unfold Ew Jp
 erw [hl]
 simp only [jb]
 by_cases hc : Fe (fun x => Xn Xg x c) 0 l = -1
 ·rw [if_pos hc, hc]; rfl
 ·rw [if_neg hc]; rfl
theorem DL (l : List Ib) (x : Qb) (hn : l.length ≤ Wa) : Nw l x = some (Fe (Lk x.2.1 x.2.2.1) 0 l, ()) := by
 have h20 : Wa = 1048576 := rfl
 have hl := DG (step := fun y => To y.1.1 y.1.2.1 y.1.2.2.1 y.2.1) l (Lk x.2.1 x.2.2.1) (fun i => ((l, (), i, ()), (x, ())))
  (.inl ((), ())) (fun i => .inr ((i, ()), ())) (by
   intro k hk
   simp only [To]
   rw [Ba (show (k : Int) < (ja l : Int) by omega), Ic hk]
   simp only [cond_true, jb, Lk]
   cases l[k].2.1.2.1 == x.2.1 <;> cases l[k].2.1.2.2.1 == x.2.2.1 <;> rfl) (by
   simp only [To]
   rw [Aa (by omega)]; rfl) (by omega)
 unfold Nw Yp
 erw [hl]
 simp only [jb]
 by_cases hc : Fe (Lk x.2.1 x.2.2.1) 0 l = -1
 ·rw [if_pos hc, hc]; rfl
 ·rw [if_neg hc]; rfl
theorem NW (L : List Ib) (c m : Int) : Fe (fun x => Xn Xg x (c, m, ())) 0 (L.map Hf) = Fe (Lk c m) 0 L := by
 rw [PI]
 congr 1
 funext h
 simp only [Hf, Xn, Lk, Bool.and_true]
def Tq {α : Type} (l : List α) (r : Nat) : List α := jf (Ob l 0 r) (Ob l (r + 1) l.length)
theorem BR {α β : Type} (f : α → β) (l : List α) (r : Nat) : Tq (l.map f) r = (Tq l r).map f := by
 simp [Tq, Ob, List.map_take, List.map_drop]
 rw [List.take_of_length_le (by simp)]
theorem LL {α : Type} {l : List α} {r : Nat} (h : r < l.length) : Ae (ja l) 0 (r : Int) = true ∧ Ae (ja l) ((r + 1 : Nat) : Int) ((ja l : Nat) : Int) = true := by
 simp only [Ae, jd, decide_eq_true_eq]
 omega
theorem PF (l : List Ib) {r : Nat} (h : r < l.length) (hn : l.length ≤ Wa) : Dm l (r : Int) = some (Tq l r, ()) := by
 have h20 : Wa = 1048576 := rfl
 have hc := LL h
 unfold Dm
 rw [Pb (by omega), hc.1, hc.2]
 have e1 : jw (ja ([] : List Ib) + ja (Ob l (jx 0) (jx (r : Int)))) Id = true := ji (by simp [Ob]; rw [CA]; omega)
 have e2 : jw (ja (jf ([] : List Ib) (Ob l (jx 0) (jx (r : Int)))) + ja (Ob l (jx ((r + 1 : Nat) : Int)) (jx ((ja l : Nat) : Int)))) Id = true :=
  ji (by simp [Ob]; rw [CA]; omega)
 rw [e1, e2]
 simp only [cond_true]
 rfl
noncomputable def AF (x : Qb) (r : Int) : Bool := Sb (2, x.2.1, x.2.2.1, 0, ()) && (((x.1 == 0) && !decide (r ≥ 0)) || (((x.1 == 1) && !decide (r ≥ 0)) || ((x.1 == 2) && decide (r ≥ 0))))
def BD (x : Qb) : Ib := (0, (2, x.2.1, x.2.2.1, 0, ()), ())
def NK (x : Qb) (L : List Ib) (r : Int) : List Ib := cond (x.1 == 1) (jf L [BD x]) (cond (x.1 == 2) (Tq L r.toNat) L)
noncomputable def Wu (L : List Ib) (x : Qb) : List Ib ⊕ Unit := cond (AF x (Fe (Lk x.2.1 x.2.2.1) 0 L)) (.inl (NK x L (Fe (Lk x.2.1 x.2.2.1) 0 L))) (.inr ())
theorem AT {L L' : List Ib} {x : Qb} (h : Wu L x = .inl L') : L'.length ≤ L.length + 1 := by
 unfold Wu at h
 cases hc : AF x (Fe (Lk x.2.1 x.2.2.1) 0 L) with
 | false => rw [hc] at h; simp at h
 | true =>
  rw [hc] at h
  simp only [cond_true, Sum.inl.injEq] at h
  rw [← h]
  unfold NK
  cases x.1 == 1 with
  | true => simp
  | false =>
   cases x.1 == 2 with
   | true => simp [Tq, Ob]; omega
   | false => simp
theorem BN (l : List Qb) (k : Nat) (hk : k < l.length) (L : List Ib) (hL : L.length ≤ k) (hn : l.length ≤ Wa) :
 Hj l L (k : Int) = some (match Wu L l[k] with | .inl L' => .inl ((l, L', jz .i64 ((k : Int) + 1), ()), ()) | .inr _ => .inr (.inr ((false, ()), ()))) := by
 have h20 : Wa = 1048576 := rfl
 simp only [Hj]
 rw [Ba (show (k : Int) < (ja l : Int) by omega), Ic hk]
 simp only [cond_true, jb]
 rw [DL L l[k] (by omega)]
 simp only [jb, Ge, Ws, Gj, Wu, AF, NK, BD]
 generalize hx : l[k] = x
 generalize hr : Fe (Lk x.2.1 x.2.2.1) 0 L = r
 have hble : jw (ja L + ja [BD x]) Id = true := ji (by simp [CA]; omega)
 have hble' : jw (ja L + ja ([((0 : Int), ((2 : Int), x.2.1, x.2.2.1, (0 : Int), ()), ())] : List Ib)) Id = true := hble
 have hw : decide (r ≥ 0) = true → Dm L r = some (Tq L r.toNat, ()) := by
  intro h
  rcases YC (Lk x.2.1 x.2.2.1) L 0 with h1 | ⟨j, h1, h2⟩
  ·rw [hr] at h1; rw [h1] at h; simp at h
  ·rw [hr] at h2
   have : r = (j : Int) := by omega
   rw [this, PF L h1 (by omega)]
   simp
 by_cases k0 : x.1 = 0
 ·simp only [k0]
  cases Sb ((2 : Int), x.2.1, x.2.2.1, (0 : Int), ()) <;> cases decide (r ≥ 0) <;> rfl
 by_cases k1 : x.1 = 1
 ·simp only [k1]
  rw [hble']
  cases Sb ((2 : Int), x.2.1, x.2.2.1, (0 : Int), ()) <;> cases decide (r ≥ 0) <;> rfl
 by_cases k2 : x.1 = 2
 ·simp only [k2]
  cases hd : decide (r ≥ 0) with
  | false => cases Sb ((2 : Int), x.2.1, x.2.2.1, (0 : Int), ()) <;> rfl
  | true =>
   rw [hw hd]
   cases Sb ((2 : Int), x.2.1, x.2.2.1, (0 : Int), ()) <;> rfl
 ·have e0 : (x.1 == 0) = false := by simpa using k0
  have e1 : (x.1 == 1) = false := by simpa using k1
  have e2 : (x.1 == 2) = false := by simpa using k2
  rw [Aa (show ¬ (0 ≤ x.1 ∧ x.1 ≤ 2) by omega), e0, e1, e2]
  cases Sb ((2 : Int), x.2.1, x.2.2.1, (0 : Int), ()) <;> rfl
theorem OM (l : List Qb) (k : Nat) (hk : k < l.length) (L : List Ib) (hL : L.length ≤ k) (hn : l.length ≤ Wa) :
 Ej (L.map Hf) l ((ja l : Nat) : Int) (k : Int) =
  some (match Wu L l[k] with | .inl L' => .inl ((L'.map Hf, l, ((ja l : Nat) : Int), jz .i64 ((k : Int) + 1), ()), ()) | .inr _ => .inr (.inr ((false, ()), ()))) := by
 have h20 : Wa = 1048576 := rfl
 simp only [Ej]
 rw [Ba (show (k : Int) < (ja l : Int) by omega), Ic hk]
 simp only [cond_true, jb]
 rw [KK (L.map Hf) _ (by simp; omega), NW]
 simp only [jb, Dj, Wu, AF, NK, BD]
 generalize hx : l[k] = x
 generalize hr : Fe (Lk x.2.1 x.2.2.1) 0 L = r
 have hble : jw (ja (L.map Hf) + ja ([(x.2.1, x.2.2.1, ())] : List Gc)) Id = true := ji (by simp [CA]; omega)
 have happ : jf (L.map Hf) ([(x.2.1, x.2.2.1, ())] : List Gc) = (jf L [((0 : Int), ((2 : Int), x.2.1, x.2.2.1, (0 : Int), ()), ())]).map Hf := by
  show _ ++ _ = List.map Hf (_ ++ _)
  rw [List.map_append]; rfl
 by_cases k0 : x.1 = 0
 ·simp only [k0]
  cases Sb ((2 : Int), x.2.1, x.2.2.1, (0 : Int), ()) <;> cases decide (r ≥ 0) <;> rfl
 by_cases k1 : x.1 = 1
 ·simp only [k1]
  rw [hble, happ]
  cases Sb ((2 : Int), x.2.1, x.2.2.1, (0 : Int), ()) <;> cases decide (r ≥ 0) <;> rfl
 by_cases k2 : x.1 = 2
 ·simp only [k2]
  rcases YC (Lk x.2.1 x.2.2.1) L 0 with h1 | ⟨j, h1, h2⟩
  ·rw [hr] at h1
   rw [h1]
   cases Sb ((2 : Int), x.2.1, x.2.2.1, (0 : Int), ()) <;> rfl
  ·rw [hr] at h2
   have hrj : r = (j : Int) := by omega
   rw [hrj]
   have hj : j < (L.map Hf).length := by simpa using h1
   have hc := LL hj
   rw [Pb (k := j) (by omega), hc.1, hc.2, Aa (show ¬ (j : Int) < 0 by omega), Ba (show (j : Int) ≥ 0 by omega)]
   have e1 : jw (ja (Ob (L.map Hf) (jx 0) (jx (j : Int))) + ja (Ob (L.map Hf) (jx ((j + 1 : Nat) : Int)) (jx ((ja (L.map Hf) : Nat) : Int)))) Id = true :=
    ji (by simp [Ob]; rw [CA]; omega)
   have e2 : jf (Ob (L.map Hf) (jx 0) (jx (j : Int))) (Ob (L.map Hf) (jx ((j + 1 : Nat) : Int)) (jx ((ja (L.map Hf) : Nat) : Int))) = (Tq L (jx (j : Int))).map Hf := by
    rw [← BR]
    simp [Tq]
   rw [e1, e2]
   cases Sb ((2 : Int), x.2.1, x.2.2.1, (0 : Int), ()) <;> rfl
 ·have e0 : (x.1 == 0) = false := by simpa using k0
  have e1 : (x.1 == 1) = false := by simpa using k1
  have e2 : (x.1 == 2) = false := by simpa using k2
  rw [e0, e1, e2]
  cases Sb ((2 : Int), x.2.1, x.2.2.1, (0 : Int), ()) <;> rfl
noncomputable def Y1 (l : List Qb) : List Ib ⊕ Unit := Nc (fun _ L x => Wu L x) 0 [] l
noncomputable def Kf (l : List Qb) : Bool := decide (l.length ≤ 8) && (match Y1 l with | .inl L => ((L.length : Int) == 0) | .inr _ => false)
theorem LJ (l : List Qb) (hn : l.length ≤ Wa) : Cv l = some (Kf l, ()) := by
 have h20 : Wa = 1048576 := rfl
 have hl := Rf (step := fun x => Hj x.1.1 x.1.2.1 x.1.2.2.1) l (fun _ L x => Wu L x) (fun L i => ((l, L, i, ()), ()))
  (fun L => .inl ((l, L, ()), ())) (fun _ => .inr ((false, ()), ())) (fun k L => L.length ≤ k) (by
   intro k hk L hL
   refine ⟨?_, fun L' h => by have := AT h; omega⟩
   rw [BN l k hk L hL hn]
   cases Wu L l[k] <;> rfl) (by
   intro s _
   simp only [Hj]
   rw [Aa (by omega)]; rfl) (by omega) [] (by simp)
 unfold Cv Tn
 erw [hl]
 simp only [jb, Kf, Y1]
 cases Nc (fun x L x => Wu L x) 0 [] l with
 | inl L =>
  simp only [qh]
  by_cases h : l.length ≤ 8
  ·rw [Ba (show ((ja l : Nat) : Int) ≤ 8 by omega), Ba h]; rfl
  ·rw [Aa (show ¬ ((ja l : Nat) : Int) ≤ 8 by omega), Aa h]; rfl
 | inr u => cases decide (l.length ≤ 8) <;> rfl
theorem WI (l : List Qb) (hn : l.length ≤ Wa) : Ju l = some (Kf l, ()) := by
 have h20 : Wa = 1048576 := rfl
 unfold Ju Kf
 by_cases h : l.length ≤ 8
 ·rw [Aa (show ¬ ((ja l : Nat) : Int) > 8 by omega), Ba h]
  have hl := Rf (step := fun x => Ej x.1.1 x.1.2.1 x.1.2.2.1 x.1.2.2.2.1) l (fun _ L x => Wu L x) (fun L i => ((L.map Hf, l, ((ja l : Nat) : Int), i, ()), ()))
   (fun L => .inl ((L.map Hf, ()), ())) (fun _ => .inr ((false, ()), ())) (fun k L => L.length ≤ k) (by
    intro k hk L hL
    refine ⟨?_, fun L' h => by have := AT h; omega⟩
    rw [OM l k hk L hL hn]
    cases Wu L l[k] <;> rfl) (by
    intro s _
    simp only [Ej]
    rw [Aa (by omega)]; rfl) (by omega) [] (by simp)
  unfold Sn
  erw [hl]
  simp only [Y1]
  cases Nc (fun x L x => Wu L x) 0 [] l with
  | inl L =>
   show some _ = some _
   simp only [List.length_map]
   rfl
  | inr u => rfl
 ·rw [Ba (show ((ja l : Nat) : Int) > 8 by omega), Aa h]; rfl
noncomputable def Qh (keys : Int) (nl : Nat) (x : Ib) : Bool := !decide (x.1 ≥ keys) && !((x.2.1.1 != 9) && decide (x.2.1.2.2.2.1 ≥ (nl : Int)))
noncomputable def Of (e : Bb) : Bool :=
 Yb e.1 && (decide (e.2.1.length ≤ 4) && (Bg e.2.2.2.1 && (Zd (fun _ m => Kf m) 0 e.2.1 && (Zd (fun _ x => Qh e.1.1 e.1.2.1.length x) 0 e.2.2.2.1 &&
  (decide (0 ≤ e.2.2.1 ∧ e.2.2.1 < ((2 ^ e.1.2.1.length : Nat) : Int)) && ((Int.tmod e.2.2.1 2 == 0) && decide (0 ≤ e.2.2.2.2.1 ∧ e.2.2.2.2.1 ≤ 15)))))))
theorem Cn (e : Bb) : Ja Jb e = Ja Ua e.1 + (Ja (.sl (.sl Ac)) e.2.1 + Ja (.sl Mg) e.2.2.2.1) := by
 simp only [Ja, Nat.add_zero, js]
theorem Mn (l : List Ib) : Ja (.sl Mg) l = l.length := Mt (e := Mg) rfl l
theorem FL (l : List Qb) : Ja (.sl Ac) l = l.length := Mt (e := Ac) rfl l
theorem OT {e : Ty} (l : List (T e)) : ja l ≤ Ja (.sl e) l := Nat.le_add_right _ _
theorem B0 {e : Ty} {l : List (T e)} {k : Nat} (hk : k < ja l) : Ja e (List.get l ⟨k, hk⟩) ≤ Ja (.sl e) l :=
 j9 (Sq (f := Ja e) hk) (Nat.le_add_left _ _)
theorem XI (e : Bb) (hz : Ja Jb e ≤ Wa) : Fi (((), e.2.1, ((ja e.2.1 : Nat) : Int), (0 : Int), ()), (e, ())) =
 some (cond (Zd (fun _ m => Kf m) 0 e.2.1) (.inl (((), ()), (e, ()))) (.inr ((false, ()), ()))) := by
 have h20 : Wa = 1048576 := rfl
 rw [Cn] at hz
 have hl := OT (e := .sl Ac) e.2.1
 unfold Fi
 refine Sk (step := fun x => Ml x.1.1 x.1.2.1 x.1.2.2.1 x.1.2.2.2.1 x.2.1) e.2.1 (fun _ m => Kf m) (fun i => (((), e.2.1, ((ja e.2.1 : Nat) : Int), i, ()), (e, ()))) _ _ ?_ ?_ (by omega)
 ·intro k hk
  simp only [Ml]
  have hk2 : (k : Int) < ((ja e.2.1 : Nat) : Int) := by omega
  rw [Ba hk2, Ic hk]
  simp only [cond_true, jb]
  have he := B0 (e := .sl Ac) hk
  rw [FL] at he
  rw [WI e.2.1[k] (by have : (List.get e.2.1 ⟨k, hk⟩) = e.2.1[k] := rfl; rw [this] at he; omega)]
  simp only [jb]
  cases Kf e.2.1[k] <;> rfl
 ·simp only [Ml]
  rw [Aa (by omega)]; rfl
theorem MJ (e : Bb) (hz : Ja Jb e ≤ Wa) : Oi (((), (0 : Int), ()), (e, ())) =
 some (cond (Zd (fun _ m => Kf m) 0 e.2.1) (.inl (((), ()), (e, ()))) (.inr ((false, ()), ()))) := by
 have h20 : Wa = 1048576 := rfl
 rw [Cn] at hz
 have hl := OT (e := .sl Ac) e.2.1
 unfold Oi
 refine Sk (step := fun x => Ql x.1.1 x.1.2.1 x.2.1) e.2.1 (fun _ m => Kf m) (fun i => (((), i, ()), (e, ()))) _ _ ?_ ?_ (by omega)
 ·intro k hk
  simp only [Ql]
  have hk2 : (k : Int) < ((ja e.2.1 : Nat) : Int) := by omega
  rw [Ba hk2, Ic hk]
  simp only [cond_true, jb]
  have he := B0 (e := .sl Ac) hk
  rw [FL] at he
  rw [LJ e.2.1[k] (by have : (List.get e.2.1 ⟨k, hk⟩) = e.2.1[k] := rfl; rw [this] at he; omega)]
  simp only [jb]
  cases Kf e.2.1[k] <;> rfl
 ·simp only [Ql]
  rw [Aa (by omega)]; rfl
theorem MM (e : Bb) (hz : Ja Jb e ≤ Wa) : Th (((), ((ja e.1.2.1 : Nat) : Int), e.2.2.2.1, ((ja e.2.2.2.1 : Nat) : Int), (0 : Int), ()), (e, ())) =
 some (cond (Zd (fun _ x => Qh e.1.1 e.1.2.1.length x) 0 e.2.2.2.1) (.inl (((), ((ja e.1.2.1 : Nat) : Int), ()), (e, ()))) (.inr ((false, ()), ()))) := by
 have h20 : Wa = 1048576 := rfl
 rw [Cn, Mn] at hz
 unfold Th
 refine Sk (step := fun x => Ek x.1.1 x.1.2.1 x.1.2.2.1 x.1.2.2.2.1 x.1.2.2.2.2.1 x.2.1) e.2.2.2.1 (fun _ x => Qh e.1.1 e.1.2.1.length x)
  (fun i => (((), ((ja e.1.2.1 : Nat) : Int), e.2.2.2.1, ((ja e.2.2.2.1 : Nat) : Int), i, ()), (e, ()))) _ _ ?_ ?_ (by omega)
 ·intro k hk
  simp only [Ek]
  have hk2 : (k : Int) < ((ja e.2.2.2.1 : Nat) : Int) := by omega
  rw [Ba hk2, Ic hk]
  simp only [cond_true, jb, Qh]
  cases decide (e.2.2.2.1[k].1 ≥ e.1.1) <;> cases (e.2.2.2.1[k].2.1.1 != 9) <;> cases decide (e.2.2.2.1[k].2.1.2.2.2.1 ≥ ((ja e.1.2.1 : Nat) : Int)) <;> rfl
 ·simp only [Ek]
  rw [Aa (by omega)]; rfl
theorem AN (e : Bb) (hz : Ja Jb e ≤ Wa) : Pi (((), (0 : Int), ()), (e, ())) =
 some (cond (Zd (fun _ x => Qh e.1.1 e.1.2.1.length x) 0 e.2.2.2.1) (.inl (((), ()), (e, ()))) (.inr ((false, ()), ()))) := by
 have h20 : Wa = 1048576 := rfl
 rw [Cn, Mn] at hz
 unfold Pi
 refine Sk (step := fun x => Rl x.1.1 x.1.2.1 x.2.1) e.2.2.2.1 (fun _ x => Qh e.1.1 e.1.2.1.length x) (fun i => (((), i, ()), (e, ()))) _ _ ?_ ?_ (by omega)
 ·intro k hk
  simp only [Rl]
  have hk2 : (k : Int) < ((ja e.2.2.2.1 : Nat) : Int) := by omega
  rw [Ba hk2, Ic hk]
  simp only [cond_true, jb, Qh]
  cases decide (e.2.2.2.1[k].1 ≥ e.1.1) <;> cases (e.2.2.2.1[k].2.1.1 != 9) <;> cases decide (e.2.2.2.1[k].2.1.2.2.2.1 ≥ ((ja e.1.2.1 : Nat) : Int)) <;> rfl
 ·simp only [Rl]
  rw [Aa (by omega)]; rfl
theorem Bt (e : Bb) (hz : Ja Jb e ≤ Wa) : Xh e = some (Of e, ()) := by
 have h20 : Wa = 1048576 := rfl
 have hz' := hz
 rw [Cn, Mn] at hz'
 unfold Xh Of
 rw [Ct e.1 (by omega)]
 cases hk : Yb e.1 with
 | false => rfl
 | true =>
  simp only [jb, jg, cond_false, jk]
  by_cases h4 : e.2.1.length ≤ 4
  ·rw [Aa (show ¬ ((ja e.2.1 : Nat) : Int) > 4 by omega), Ba h4, IK _ (by omega)]
   simp only [jb, cond_false, jk]
   cases hh : Bg e.2.2.2.1 with
   | false => rfl
   | true =>
    simp only [jg, cond_false, jk]
    rw [XI e hz]
    have hl := (Pt hk).l2
    by_cases ho : 0 ≤ e.2.2.2.2.1 ∧ e.2.2.2.2.1 ≤ 15
    ·rw [Aa (show ¬ e.2.2.2.2.1 < 0 by omega), Aa (show ¬ e.2.2.2.2.1 > 15 by omega), Ba ho]
     simp only [cond_false, jb, Bool.and_true]
     cases Zd (fun _ m => Kf m) 0 e.2.1 with
     | false => rfl
     | true =>
      simp only [cond_true, qh, jk]
      rw [MM e hz]
      cases Zd (fun _ x => Qh e.1.1 e.1.2.1.length x) 0 e.2.2.2.1 with
      | false => rfl
      | true =>
       simp only [cond_true, jb, qh, jk]
       rw [ZK (by omega), Ba (show (0 : Int) ≤ ((ja e.1.2.1 : Nat) : Int) by omega)]
       have e2 : ((2 : Int) == 0) = false := rfl
       rw [e2]
       simp only [cond_false, cond_true]
       by_cases hf : 0 ≤ e.2.2.1
       ·rw [Ba (show e.2.2.1 ≥ 0 from hf)]
        by_cases hf2 : e.2.2.1 < ((2 ^ e.1.2.1.length : Nat) : Int)
        ·rw [Ba hf2, Ba (show 0 ≤ e.2.2.1 ∧ e.2.2.1 < ((2 ^ e.1.2.1.length : Nat) : Int) from ⟨hf, hf2⟩)]
         cases Int.tmod e.2.2.1 2 == 0 <;> rfl
        ·rw [Aa hf2, Aa (show ¬ (0 ≤ e.2.2.1 ∧ e.2.2.1 < ((2 ^ e.1.2.1.length : Nat) : Int)) from fun h => hf2 h.2)]
         cases Int.tmod e.2.2.1 2 == 0 <;> rfl
       ·rw [Aa (show ¬ e.2.2.1 ≥ 0 from hf), Aa (show ¬ (0 ≤ e.2.2.1 ∧ e.2.2.1 < ((2 ^ e.1.2.1.length : Nat) : Int)) from fun h => hf h.1)]
        rfl
    ·have hr : (Zd (fun _ m => Kf m) 0 e.2.1 && (Zd (fun _ x => Qh e.1.1 e.1.2.1.length x) 0 e.2.2.2.1 && (decide (0 ≤ e.2.2.1 ∧ e.2.2.1 < ((2 ^ e.1.2.1.length : Nat) : Int)) && ((Int.tmod e.2.2.1 2 == 0) && decide (0 ≤ e.2.2.2.2.1 ∧ e.2.2.2.2.1 ≤ 15))))) = false := by
      rw [Aa ho]; simp
     rw [hr]
     by_cases h1 : e.2.2.2.2.1 < 0
     ·rw [Ba h1]; rfl
     ·rw [Aa h1, Ba (show e.2.2.2.2.1 > 15 by omega)]; rfl
  ·rw [Ba (show ((ja e.2.1 : Nat) : Int) > 4 by omega), Aa h4]; rfl
theorem Ny (e : Bb) (hz : Ja Jb e ≤ Wa) : Yj e = some (Of e, ()) := by
 have h20 : Wa = 1048576 := rfl
 have hz' := hz
 rw [Cn, Mn] at hz'
 unfold Yj Of
 rw [Oy e.1 (by omega)]
 cases hk : Yb e.1 with
 | false => rfl
 | true =>
  simp only [jb, jg, cond_false, jk]
  by_cases h4 : e.2.1.length ≤ 4
  ·rw [Aa (show ¬ ((ja e.2.1 : Nat) : Int) > 4 by omega), Ba h4, AL _ (by omega)]
   simp only [jb, cond_false, jk]
   cases hh : Bg e.2.2.2.1 with
   | false => rfl
   | true =>
    simp only [jg, cond_false, jk]
    rw [MJ e hz]
    have hl := (Pt hk).l2
    cases Zd (fun _ m => Kf m) 0 e.2.1 with
    | false => rfl
    | true =>
     simp only [cond_true, jb, qh, jk]
     rw [AN e hz]
     cases Zd (fun _ x => Qh e.1.1 e.1.2.1.length x) 0 e.2.2.2.1 with
     | false => rfl
     | true =>
      simp only [cond_true, jb, qh, jk, Ge]
      have hp : (2 ^ e.1.2.1.length : Nat) ≤ 16 := Nat.pow_le_pow_right (n := 2) (by omega) hl
      rw [ZK (by omega), Ba (show (0 : Int) ≤ ((ja e.1.2.1 : Nat) : Int) by omega)]
      generalize (2 ^ e.1.2.1.length : Nat) = P2 at hp ⊢
      rw [Og (by omega) (by omega)]
      have e2 : ((2 : Int) == 0) = false := rfl
      rw [e2]
      simp only [cond_false, cond_true, jb]
      have e3 : decide (0 ≤ e.2.2.1 ∧ e.2.2.1 ≤ (P2 : Int) - 1) = decide (0 ≤ e.2.2.1 ∧ e.2.2.1 < (P2 : Int)) := by
       rw [decide_eq_decide]; omega
      rw [e3]
      cases decide (0 ≤ e.2.2.1 ∧ e.2.2.1 < (P2 : Int)) <;> cases Int.tmod e.2.2.1 2 == 0 <;> rfl
  ·rw [Ba (show ((ja e.2.1 : Nat) : Int) > 4 by omega), Aa h4]; rfl
def Fl (x : Lb) : Bool := decide (0 ≤ x.1 ∧ x.1 ≤ 1000000) && decide (0 ≤ x.2.1 ∧ x.2.1 ≤ 31)
theorem VI (x : Lb) : Iu x = some (Fl x, ()) := by
 unfold Iu Fl
 simp only [Pg, Qg]
 apply Tb
 simp only [Lc, decide_eq_true_eq, jq, and_false, or_false, jd]
 omega
theorem KJ (x : Lb) : Bv x = some (Fl x, ()) := by
 unfold Bv Fl
 simp only [Ge, jb, Pg, Qg]
 apply Tb
 simp only [Lc, decide_eq_true_eq, jq, and_false, or_false, jd]
def Xz (s : Int × Int) (x : Lb) : Bool := Fl x && (!decide (s.1 > x.1) && !(x.2.2.1 == (Dx s.2 x.2.1 == 1)))
def Oz (s : Int × Int) (x : Lb) : (Int × Int) ⊕ Unit := cond (Xz s x) (.inl (x.1, CB .i64 s.2 (Mh .i64 1 x.2.1))) (.inr ())
def P1 (l : List Lb) (d : Int) : (Int × Int) ⊕ Unit := Nc (fun _ s x => Oz s x) 0 (0, d) l
def Zz (l : List Lb) (d : Int) : Int × Bool := cond (decide (l.length ≤ 64)) (match P1 l d with | .inl s => (s.2, true) | .inr _ => (0, false)) (0, false)
theorem OL {x : Lb} (h : Fl x = true) : 0 ≤ x.1 ∧ x.1 ≤ 1000000 ∧ 0 ≤ x.2.1 ∧ x.2.1 ≤ 31 := by
 simp only [Fl, jd, decide_eq_true_eq] at h
 omega
theorem JK (l : List Lb) (d : Int) (hn : l.length ≤ Wa) : Dw l d = some ((Zz l d).1, (Zz l d).2, ()) := by
 have h20 : Wa = 1048576 := rfl
 unfold Dw Zz
 by_cases h64 : l.length ≤ 64
 ·rw [Aa (show ¬ ((ja l : Nat) : Int) > 64 by omega), Ba h64]
  have hl := Rf (step := fun x => Eo x.1.1 x.1.2.1 x.1.2.2.1 x.1.2.2.2.1 x.1.2.2.2.2.1) l (fun _ s x => Oz s x) (fun s i => ((l, s.2, l, ((ja l : Nat) : Int), i, ()), ()))
   (fun s => .inl ((s.2, ()), ())) (fun _ => .inr (((0 : Int), false, ()), ())) (fun k s => (k = 0 → s.1 = 0) ∧ ∀ hk : k - 1 < l.length, 0 < k → s.1 = l[k - 1].1) (by
    intro k hk s ⟨hs0, hs1⟩
    refine ⟨?_, ?_⟩
    ·simp only [Eo]
     rw [Ba (show (k : Int) < ((ja l : Nat) : Int) by omega), Ic hk]
     simp only [cond_true, jb, VI, Oz, Xz]
     generalize hx : l[k] = x
     cases hev : Fl x with
     | false => rfl
     | true =>
      have hkey := OL hev
      simp only [jg, cond_false, jk]
      rw [AG s.2 hkey.2.2.1, Ba hkey.2.2.1]
      simp only [jb, cond_true]
      by_cases h0 : k = 0
      ·subst h0
       rw [Aa (show ¬ ((0 : Nat) : Int) > 0 by omega), Aa (show ¬ s.1 > x.1 by rw [hs0 rfl]; omega)]
       cases (x.2.2.1 == (Dx s.2 x.2.1 == 1)) <;> rfl
      ·rw [Ba (show (k : Int) > 0 by omega), Og (by omega) (by omega), show (k : Int) - 1 = ((k - 1 : Nat) : Int) by omega, Ic (show k - 1 < l.length by omega)]
       rw [hs1 (by omega) (by omega)]
       simp only [jb, cond_true]
       cases decide (l[k - 1].1 > x.1) <;> cases (x.2.2.1 == (Dx s.2 x.2.1 == 1)) <;> rfl
    ·intro s' h
     unfold Oz at h
     cases hc : Xz s l[k] with
     | false => rw [hc] at h; simp at h
     | true =>
      rw [hc] at h
      simp only [cond_true, Sum.inl.injEq] at h
      refine ⟨by omega, fun _ _ => ?_⟩
      rw [← h]
      simp only [Nat.add_sub_cancel])
   (by
    intro s _
    simp only [Eo]
    rw [Aa (by omega)]; rfl) (by omega) (0, d) ⟨fun _ => rfl, fun _ h => absurd h (by omega)⟩
  unfold Ip
  erw [hl]
  simp only [cond_false, jb, P1, cond_true]
  cases Nc (fun x s x => Oz s x) 0 (0, d) l <;> rfl
 ·rw [Ba (show ((ja l : Nat) : Int) > 64 by omega), Aa h64]; rfl
def JP (keys : Int) (l : List Lb) : Bool := Zd (fun _ (x : Lb) => !decide (x.2.1 ≥ keys)) 0 l
def Tk (q : List Lb) (d keys : Int) : Bool := JP keys q && (Zz q d).2
theorem HF (q : List Lb) (d keys : Int) (hn : q.length ≤ Wa) : Iq q d keys = some (Tk q d keys, ()) := by
 have h20 : Wa = 1048576 := rfl
 have hl := Sk (step := fun x => Kk x.1.1 x.1.2.1 x.1.2.2.1 x.1.2.2.2.1 x.1.2.2.2.2.1 x.1.2.2.2.2.2.1) q (fun _ (x : Lb) => !decide (x.2.1 ≥ keys)) (fun i => ((q, d, keys, q, ((ja q : Nat) : Int), i, ()), ()))
  (.inl ((q, d, ()), ())) (.inr ((false, ()), ())) (by
   intro k hk
   simp only [Kk]
   rw [Ba (show (k : Int) < ((ja q : Nat) : Int) by omega), Ic hk]
   simp only [cond_true, jb]
   cases decide (q[k].2.1 ≥ keys) <;> rfl) (by
   simp only [Kk]
   rw [Aa (by omega)]; rfl) (by omega)
 unfold Iq Xl Tk JP
 erw [hl]
 simp only [jb]
 cases Zd (fun _ (x : Lb) => !decide (x.2.1 ≥ keys)) 0 q with
 | false => rfl
 | true => simp only [cond_true, qh, JK q d hn, jb]; rfl
def PE (keys : Int) (s : Int × Int) (x : Lb) : (Int × Int) ⊕ Unit := cond (Xz s x && !decide (x.2.1 ≥ keys)) (.inl (x.1, CB .i64 s.2 (Mh .i64 1 x.2.1))) (.inr ())
theorem YF (keys : Int) : ∀ (l : List Lb) (k : Nat) (s : Int × Int), Tw (Nc (fun _ s x => PE keys s x) k s l) = (Zd (fun _ (x : Lb) => !decide (x.2.1 ≥ keys)) k l && Tw (Nc (fun _ s x => Oz s x) k s l))
 | [], _, _ => rfl
 | x :: l, k, s => by
  simp only [Nc, Zd, PE, Oz]
  cases Xz s x with
  | false => simp [Tw]
  | true =>
   cases decide (x.2.1 ≥ keys) with
   | true => simp [Tw]
   | false => simp only [jk, Bool.not_false, cond_true]; exact YF keys l (k + 1) _
theorem WD (q : List Lb) (d keys : Int) (hn : q.length ≤ Wa) : Ro q d keys 0 = some (Tk q d keys, ()) := by
 have h20 : Wa = 1048576 := rfl
 have hl := Rf (step := fun x => Pj x.1.1 x.1.2.1 x.1.2.2.1 x.1.2.2.2.1 x.1.2.2.2.2.1) q (fun _ s x => PE keys s x) (fun s i => ((q, s.2, keys, s.1, i, ()), ()))
  (fun s => .inl ((q, ()), ())) (fun _ => .inr ((false, ()), ())) (fun _ _ => True) (by
   intro k hk s _
   refine ⟨?_, fun _ _ => trivial⟩
   simp only [Pj]
   rw [Ba (show (k : Int) < ((ja q : Nat) : Int) by omega), Ic hk]
   simp only [cond_true, jb, KJ, PE, Xz]
   generalize q[k] = x
   cases hev : Fl x with
   | false => rfl
   | true =>
    have hkey := OL hev
    simp only [jg, cond_false, jk, Dx]
    rw [Ba hkey.2.2.1]
    simp only [gt_iff_lt]
    cases decide (x.2.1 ≥ keys) <;> cases decide (x.1 < s.1) <;> cases (x.2.2.1 == (Gu .i64 (Iy .i64 s.2 x.2.1) 1 == 1)) <;> rfl)
  (by
   intro s _
   simp only [Pj]
   rw [Aa (by omega)]; rfl) (by omega) (0, d) trivial
 unfold Ro Jl
 erw [hl]
 have hsp := YF keys q 0 (0, d)
 simp only [jb, Tk, JP, Zz, P1]
 by_cases h64 : q.length ≤ 64
 ·rw [Ba h64]
  cases h1 : Nc (fun _ s x => PE keys s x) 0 (0, d) q with
  | inl s =>
   rw [h1] at hsp
   simp only [Tw] at hsp
   cases h2 : Nc (fun _ s x => Oz s x) 0 (0, d) q with
   | inl s2 =>
    rw [h2] at hsp
    simp only [Tw, Bool.and_true] at hsp
    rw [← hsp]
    simp only [qh]
    rw [Ba (show ((ja q : Nat) : Int) ≤ 64 by omega)]; rfl
   | inr u => rw [h2] at hsp; simp [Tw] at hsp
  | inr u =>
   rw [h1] at hsp
   simp only [Tw] at hsp
   cases h2 : Nc (fun _ s x => Oz s x) 0 (0, d) q with
   | inl s2 =>
    rw [h2] at hsp
    simp only [Tw, Bool.and_true] at hsp
    rw [← hsp]; rfl
   | inr u => cases Zd (fun _ (x : Lb) => !decide (x.2.1 ≥ keys)) 0 q <;> rfl
 ·rw [Aa h64]
  cases h1 : Nc (fun _ s x => PE keys s x) 0 (0, d) q with
  | inl s => simp only [qh]; rw [Aa (show ¬ ((ja q : Nat) : Int) ≤ 64 by omega)]; cases Zd (fun _ (x : Lb) => !decide (x.2.1 ≥ keys)) 0 q <;> rfl
  | inr u => cases Zd (fun _ (x : Lb) => !decide (x.2.1 ≥ keys)) 0 q <;> rfl
def Kp (t : XJ) : Bool := decide (1 ≤ t.1 ∧ t.1 ≤ 1000) && (decide (0 ≤ t.2.1 ∧ t.2.1 ≤ 1000) && decide (0 ≤ t.2.2.1 ∧ t.2.2.1 ≤ 2))
theorem FF (t : XJ) : Es t = some (Kp t, ()) := by
 unfold Es Kp
 simp only [Pg, Qg]
 apply Tb
 simp only [Lc, decide_eq_true_eq, jq, and_false, or_false, jd]
 omega
theorem OF (t : XJ) : Us t = some (Kp t, ()) := by
 unfold Us Kp
 simp only [Ge, jb, Pg, Qg]
 apply Tb
 simp only [Lc, decide_eq_true_eq, jq, and_false, or_false, jd]
theorem OJ (e : Bb) (hn : e.2.2.2.1.length ≤ Wa) (hx : ∀ x ∈ e.2.2.2.1, Ow x) : Dv e = some (WE e.2.2.2.1, ()) := by
 have h20 : Wa = 1048576 := rfl
 have hl := (Vu (step := fun x => Zm x.1.1 x.1.2.1 x.1.2.2.1 x.2.1) e.2.2.2.1 (fun _ s (x : Ib) => En .i64 s (Mh .i64 1 x.1)) (fun s i => (((), s, i, ()), (e, ())))
  (fun s => .inl ((s, ()), ())) (fun _ _ => True) (by
   intro k hk s _
   refine ⟨?_, trivial⟩
   simp only [Zm]
   rw [Ba (show (k : Int) < ((ja e.2.2.2.1 : Nat) : Int) by omega), Ic hk]
   have hk' := hx _ (qj hk)
   simp only [cond_true, jb, Qz, Ge]
   rw [Ba (show 0 ≤ e.2.2.2.1[k].1 ∧ e.2.2.2.1[k].1 ≤ 31 from ⟨hk'.lo, hk'.hi⟩), Ba hk'.lo]; rfl)
  (by
   intro s _
   simp only [Zm]
   rw [Aa (by omega)]; rfl) (by omega) 0 trivial).1
 unfold Dv Un
 erw [hl]
 rfl
def VE (l : List Lb) : Int := (l.getD (l.length - 1) (0, 0, false, ())).1
def Yu (l : List Lb) (t : Int) : Bool := ((l.length : Int) == 0) || decide (VE l ≤ t)
theorem BP {l : List Lb} (h : 0 < l.length) (hn : l.length ≤ Wa) : ∃ x, Cc l (jz .i64 (((ja l : Nat) : Int) - 1)) = some x ∧ x.1 = VE l := by
 have h20 : Wa = 1048576 := rfl
 refine ⟨l[l.length - 1], ?_, ?_⟩
 ·rw [Og (by omega) (by omega), show ((ja l : Nat) : Int) - 1 = ((l.length - 1 : Nat) : Int) by omega, Ic (by omega)]
 ·simp [VE, List.getD, je (show l.length - 1 < l.length by omega)]
theorem GF (l : List Lb) (t : Int) (hn : l.length ≤ Wa) : Hq l t = some (Yu l t, ()) := by
 unfold Hq Yu
 by_cases h0 : l.length = 0
 ·simp [h0]
 ·obtain ⟨x, h1, h2⟩ := BP (l := l) (by omega) hn
  rw [h1, show (((l.length : Nat) : Int) == 0) = false by simp; intro h; rw [h] at h0; simp at h0]
  simp only [cond_false, jb, h2, Bool.false_or]
noncomputable def Hh (d : Pd) : Bool :=
 Of d.1 && (Kp d.2.1 && (decide (0 ≤ d.2.2.2.1 ∧ d.2.2.2.1 ≤ 1000000) && (decide (0 ≤ d.2.2.2.2.1 ∧ d.2.2.2.2.1 ≤ d.2.2.2.1) && (Tk d.2.2.1 (WE d.1.2.2.2.1) d.1.1.1 && (Yu d.2.2.1 d.2.2.2.1 &&
  (decide (0 ≤ d.2.2.2.2.2.1 ∧ d.2.2.2.2.2.1 ≤ d.1.1.1) && decide (0 ≤ d.2.2.2.2.2.2.1 ∧ d.2.2.2.2.2.2.1 ≤ d.2.2.2.1)))))))
theorem NO (d : Pd) : Ja Dd d = Ja Jb d.1 + Ja (.sl Qe) d.2.2.1 := by
 simp only [Ja, Nat.add_zero, js]
theorem UH (l : List Lb) : Ja (.sl Qe) l = l.length := Mt (e := Qe) rfl l
theorem RF {e : Bb} (h : Of e = true) : Bg e.2.2.2.1 = true := by
 simp only [Of, jd] at h
 exact h.2.2.1
theorem EF (d : Pd) (hz : Ja Dd d ≤ Wa) : Fq d = some (Hh d, ()) := by
 have hz' := hz
 rw [NO, UH] at hz'
 have hz2 := hz'
 rw [Cn, Mn] at hz2
 unfold Fq Hh
 rw [Bt _ (by omega)]
 cases he : Of d.1 with
 | false => rfl
 | true =>
  have hh := SL (RF he)
  simp only [jb, jg, cond_false, jk, FF]
  cases Kp d.2.1 with
  | false => rfl
  | true =>
   rw [VG _ (by omega) hh]
   simp only [jb, jg, cond_false, jk]
   rw [HF _ _ _ (by omega), GF _ _ (by omega)]
   simp only [jb]
   have key : ∀ a b c e f g h i j k : Bool, cond a (some (false, ())) (cond b (some (false, ())) (cond c (some (false, ())) (cond e (some (false, ())) (cond (!f) (some (false, ())) (cond (!g) (some (false, ())) (cond h (cond i (cond j (some (k, ())) (some (false, ()))) (some (false, ()))) (some (false, ())))))))) =
    some ((((!a && !b) && ((!c && !e) && (f && (g && ((h && i) && (j && k)))))), ()) : Bool × Unit) := by
    intro a b c e f g h i j k
    cases a <;> cases b <;> cases c <;> cases e <;> cases f <;> cases g <;> cases h <;> cases i <;> cases j <;> cases k <;> rfl
   erw [key]
   apply Tb
   simp only [jd, Bool.not_eq_true', decide_eq_true_eq, decide_eq_false_iff_not]
   constructor
   ·rintro ⟨⟨h1, h2⟩, ⟨h3, h4⟩, h5, h6, ⟨h7, h8⟩, h9, h10⟩
    exact ⟨⟨by omega, by omega⟩, ⟨by omega, by omega⟩, h5, h6, ⟨h7, h8⟩, h9, h10⟩
   ·rintro ⟨⟨h1, h2⟩, ⟨h3, h4⟩, h5, h6, ⟨h7, h8⟩, h9, h10⟩
    exact ⟨⟨by omega, by omega⟩, ⟨by omega, by omega⟩, h5, h6, ⟨h7, h8⟩, h9, h10⟩
theorem LF (d : Pd) (hz : Ja Dd d ≤ Wa) : Pq d = some (Hh d, ()) := by
 have hz' := hz
 rw [NO, UH] at hz'
 have hz2 := hz'
 rw [Cn, Mn] at hz2
 unfold Pq Hh
 rw [Ny _ (by omega)]
 cases he : Of d.1 with
 | false => rfl
 | true =>
  have hh := SL (RF he)
  simp only [jb, jg, cond_false, jk, OF, Ge]
  cases Kp d.2.1 with
  | false => rfl
  | true =>
   rw [OJ _ (by omega) hh]
   simp only [jb, jg, cond_false, jk]
   rw [WD _ _ _ (by omega)]
   simp only [jb, Yu]
   by_cases h0 : d.2.2.1.length = 0
   ·rw [Aa (show ¬ ((ja d.2.2.1 : Nat) : Int) > 0 by omega), show (((d.2.2.1.length : Nat) : Int) == 0) = true by simp [h0]]
    simp only [cond_false, Bool.true_or, jk]
    cases decide (0 ≤ d.2.2.2.1 ∧ d.2.2.2.1 ≤ 1000000) <;> cases decide (0 ≤ d.2.2.2.2.1 ∧ d.2.2.2.2.1 ≤ d.2.2.2.1) <;> cases Tk d.2.2.1 (WE d.1.2.2.2.1) d.1.1.1 <;> cases decide (0 ≤ d.2.2.2.2.2.1 ∧ d.2.2.2.2.2.1 ≤ d.1.1.1) <;> rfl
   ·obtain ⟨x, h1, h2⟩ := BP (l := d.2.2.1) (by omega) (by omega)
    rw [Ba (show ((ja d.2.2.1 : Nat) : Int) > 0 by omega), h1, show (((d.2.2.1.length : Nat) : Int) == 0) = false by simp; intro h; rw [h] at h0; simp at h0]
    simp only [cond_true, jb, Bool.false_or, h2]
    have e1 : decide (VE d.2.2.1 > d.2.2.2.1) = !decide (VE d.2.2.1 ≤ d.2.2.2.1) := by
     rw [qp]; simp only [decide_eq_true_eq, Bool.not_eq_true', decide_eq_false_iff_not]; omega
    rw [e1]
    cases decide (0 ≤ d.2.2.2.1 ∧ d.2.2.2.1 ≤ 1000000) <;> cases decide (0 ≤ d.2.2.2.2.1 ∧ d.2.2.2.2.1 ≤ d.2.2.2.1) <;> cases Tk d.2.2.1 (WE d.1.2.2.2.1) d.1.1.1 <;> cases decide (VE d.2.2.1 ≤ d.2.2.2.1) <;> cases decide (0 ≤ d.2.2.2.2.2.1 ∧ d.2.2.2.2.2.1 ≤ d.1.1.1) <;> rfl

def LK {S : Type} (g : Nat → S → S) : Nat → S → S
 | 0, s => s
 | n + 1, s => g n (LK g n s)
theorem YN {e : Ty} {c : Nat} : ∀ {w : List (T e)}, (∀ x ∈ w, Ja e x ≤ c) → Ja (.sl e) w ≤ (c + 1) * w.length
 | [], _ => by simp [Ja]
 | x :: r, h => by
  have h1 := h x (by simp)
  have h2 : Ja (.sl e) r ≤ (c + 1) * r.length := YN fun y hy => h y (by simp [hy])
  have h3 : Ja (.sl e) r = ja r + (List.map (Ja e) r).sum := rfl
  have h4 : Ja (.sl e) (x :: r) = (ja r + 1) + (Ja e x + (List.map (Ja e) r).sum) := by simp [Ja]
  rw [h4, jv, Nat.mul_add]
  omega
theorem Oc {n : Nat} (h : n ≤ 1073741824) : jw n Id = true := ji h
theorem RI {α β : Type} (f : α → β) : ∀ (xs : List α) (k : Nat) (o : List β), Wg (fun _ o x => jf o [f x]) k o xs = o ++ xs.map f
 | [], _, o => by simp [Wg]
 | x :: r, k, o => by
  simp only [Wg]
  rw [RI f r]
  simp
theorem Gz {X R α β : Type} {step : X → Option (X ⊕ R)} (xs : List α) (f : α → β) (I : List β → Int → X) (out : List β → R) (hn : xs.length ≤ 1073741824)
 (h : ∀ k (hk : k < xs.length) (o : List β), ja o = k → step (I o (k : Int)) = some (.inl (I (jf o [f xs[k]]) (jz .i64 ((k : Int) + 1)))))
 (he : ∀ o : List β, step (I o (xs.length : Int)) = some (.inr (out o))) : Cb step (I [] 0) = some (out (xs.map f)) := by
 have := (Vu (step := step) xs (fun _ o x => jf o [f x]) I out (fun k o => ja o = k) (fun k hk o ho => ⟨h k hk o ho, by simp [ho]⟩) (fun o _ => he o) (by omega) [] rfl).1
 rw [this, RI]
 rfl
theorem JQ (a : List Ha) : Ja (.sl Xa) a = a.length := Mt (e := Xa) rfl a
theorem Hab (s : Zg) : Ja Lf s = Ja Dd s.1 + Ja (.sl Qf) s.2.1 := by
 simp only [Ja, Nat.add_zero, js]
theorem C5 (u : Nat) (h : ¬ u < 10) : Lib.decDigits u = Lib.decDigits (u / 10) ++ [UInt8.ofNat (48 + u % 10)] := by rw [Lib.decDigits, dif_neg h]
theorem RX (u : Nat) (h : u < 10) : Lib.decDigits u = [UInt8.ofNat (48 + u)] := by rw [Lib.decDigits, dif_pos h]
theorem CT (u : Nat) (h : u < 10 ^ 20) : Lib.nDigits u ≤ 20 := by
 apply Classical.byContradiction
 intro hn
 have h2 : ∀ k u, 10 ^ k ≤ u ∨ Lib.nDigits u ≤ k ∨ k = 0 := by
  intro k
  induction k with
  | zero => intro u; right; right; rfl
  | succ k ih =>
   intro u
   by_cases hu : u < 10
   ·right; left; rw [Lib.nDigits_small hu]; omega
   ·rcases ih (u / 10) with h | h | h
    ·left; rw [Nat.pow_succ]; omega
    ·right; left; rw [Lib.nDigits_big hu]; omega
    ·subst h; left; simpa using Nat.le_of_not_lt hu
 rcases h2 20 u with h3 | h3 | h3 <;> omega
theorem CK {d : Int} (h : 0 ≤ d ∧ d ≤ 9) : Zs [jz .u8 (jz .i64 (48 + d))] = [UInt8.ofNat (48 + d.toNat)] := by
 rw [Og (by omega) (by omega), Kai (by omega) (by omega)]
 show [UInt8.ofNat (48 + d).toNat] = _
 rw [show (48 + d).toNat = 48 + d.toNat by omega]
theorem YQ (n : Int) : ∀ (v : Nat) (x : Int) (acc : List UInt8), 1 ≤ v → (x = (v : Int) ∨ x = -(v : Int)) → v ≤ 9223372036854775808 → acc.length + Lib.nDigits v ≤ 100 →
 Se ((n, acc, x, ()), ()) = some (.inl ((n, Lib.decDigits v ++ acc, ()), ())) := by
 intro v
 induction v using Nat.strongRecOn with
 | _ v ih =>
 intro x acc hv hx hb hl
 unfold Se
 have hd := Lib.nDigits_pos v
 obtain ⟨d, hdd⟩ : ∃ d, v % 10 = d := ⟨_, rfl⟩
 have hs : Vk n acc x = some (.inl ((n, UInt8.ofNat (48 + d) :: acc, Int.tdiv x 10, ()), ())) := by
  unfold Vk
  rw [show (x != 0) = true by rw [bne_iff_ne]; omega]
  simp only [cond_true, show ((10 : Int) == 0) = false from rfl, cond_false]
  rcases hx with rfl | rfl
  ·have e : Int.tmod (v : Int) 10 = (d : Int) := by rw [Int.tmod_eq_emod_of_nonneg (by omega)]; omega
   have e2 : Int.tdiv (v : Int) 10 = ((v / 10 : Nat) : Int) := by rw [Int.tdiv_eq_ediv_of_nonneg (by omega)]; omega
   rw [e, e2, Aa (show ¬ (d : Int) < 0 by omega), cond_false, CK (d := (d : Int)) (by omega), Og (n := ((v / 10 : Nat) : Int)) (by omega) (by omega)]
   simp only [jv, j6]
   rw [Oc (by omega)]
   rfl
  ·have e : Int.tmod (-(v : Int)) 10 = -(d : Int) := by rw [Int.neg_tmod, Int.tmod_eq_emod_of_nonneg (by omega)]; omega
   have e2 : Int.tdiv (-(v : Int)) 10 = -((v / 10 : Nat) : Int) := by rw [Int.neg_tdiv, Int.tdiv_eq_ediv_of_nonneg (by omega)]; omega
   rw [e, e2]
   by_cases h0 : d = 0
   ·subst h0
    rw [show (-((0 : Nat) : Int)) = 0 by omega, Aa (show ¬ (0 : Int) < 0 by omega), cond_false, CK (d := 0) (by omega), Og (n := -((v / 10 : Nat) : Int)) (by omega) (by omega)]
    simp only [jv, j6]
    rw [Oc (by omega)]
    rfl
   ·rw [Ba (show -(d : Int) < 0 by omega), cond_true, Og (n := 0 - -(d : Int)) (by omega) (by omega), show (0 : Int) - -(d : Int) = (d : Int) by omega, CK (d := (d : Int)) (by omega), Og (n := -((v / 10 : Nat) : Int)) (by omega) (by omega)]
    simp only [jv, j6]
    rw [Oc (by omega)]
    rfl
 rw [Ub hs]
 show Se ((n, UInt8.ofNat (48 + d) :: acc, Int.tdiv x 10, ()), ()) = _
 have hx2 : Int.tdiv x 10 = ((v / 10 : Nat) : Int) ∨ Int.tdiv x 10 = -((v / 10 : Nat) : Int) := by
  rcases hx with rfl | rfl
  ·left; rw [Int.tdiv_eq_ediv_of_nonneg (by omega)]; omega
  ·right; rw [Int.neg_tdiv, Int.tdiv_eq_ediv_of_nonneg (by omega)]; omega
 by_cases hten : v < 10
 ·have hz : Int.tdiv x 10 = 0 := by
   rw [show v / 10 = 0 by omega] at hx2
   omega
  rw [hz, RX v hten]
  unfold Se
  rw [Ub (z := some (.inr (.inl ((n, UInt8.ofNat (48 + d) :: acc, ()), ())))) (by simp [Vk])]
  rw [show d = v by omega]
  rfl
 ·rw [ih (v / 10) (by omega) _ _ (by omega) hx2 (by omega) (by
   have := Lib.nDigits_big hten
   simp only [jv]; omega), C5 v hten, hdd]
  simp
theorem Gr {n : Int} (h : -9223372036854775808 ≤ n ∧ n ≤ 9223372036854775807) : Zc n = some (Lib.itoa n, ()) := by
 unfold Zc
 by_cases h0 : n = 0
 ·subst h0
  have : Lib.itoa 0 = [48] := by
   unfold Lib.itoa
   rw [if_neg (by omega)]
   show Lib.decDigits 0 = _
   rw [RX 0 (by omega)]
   rfl
  rw [this]
  rfl
 ·have hN := CT n.natAbs (by omega)
  have hl := Lib.decDigits_length n.natAbs
  rw [show (n == 0) = false by simpa using h0, YQ n n.natAbs n [] (by omega) (by omega) (by omega) (by simp; omega)]
  simp only [cond_false, jb, qh, List.append_nil]
  unfold Lib.itoa
  by_cases hneg : n < 0
  ·rw [Ba hneg, if_pos hneg, Oc (by simp only [jv, j6]; omega)]
   rfl
  ·rw [Aa hneg, if_neg hneg, show n.toNat = n.natAbs by omega]
   rfl
theorem DF {n : Int} (h : -9223372036854775808 ≤ n ∧ n ≤ 9223372036854775807) : Bh n = some (Lib.itoa n, ()) := by
 unfold Bh strconv_Itoa UE
 rw [Ba h.1, Ba h.2]
 rfl
theorem X1 {n : Int} (h : -9223372036854775808 ≤ n ∧ n ≤ 9223372036854775807) : (Lib.itoa n).length ≤ 21 := by
 have hN := CT n.natAbs (by omega)
 have hl := Lib.decDigits_length n.natAbs
 unfold Lib.itoa
 by_cases hneg : n < 0
 ·rw [if_pos hneg]; simp only [jv]; omega
 ·rw [if_neg hneg, show n.toNat = n.natAbs by omega]; omega
theorem Gy {l : List (List UInt8)} {by_ : List UInt8} (h1 : l.length ≤ 1073741824) (h2 : (Lib.join l by_).length ≤ 1073741824) : Dn l by_ = some (Lib.join l by_, ()) := by
 unfold Dn strings_Join VN
 rw [ji h1, ji h2]
 rfl
theorem IP (l : List (List UInt8)) (s : List UInt8) (c : Nat) (h : ∀ x ∈ l, x.length ≤ c) : (Lib.join l s).length ≤ (c + s.length) * l.length := by
 cases l with
 | nil => simp [Lib.join_nil]
 | cons x r =>
  rw [Lib.join_cons, qc, Lib.joinTail_length]
  have h1 := h x (by simp)
  have h2 : Lib.lens r ≤ c * r.length := by
   clear h1
   induction r with
   | nil => simp [Lib.lens]
   | cons y r ih =>
    have := ih (fun z hz => h z (by simp at hz ⊢; rcases hz with hz | hz <;> simp [hz]))
    have h3 := h y (by simp)
    simp only [Lib.lens, List.map_cons, List.sum_cons, jv] at this ⊢
    rw [Nat.mul_succ]
    omega
  simp only [jv]
  rw [Nat.mul_succ, Nat.add_mul]
  omega
def Oe (m : Int) : List UInt8 := [[], [67], [83], [67, 83], [65], [67, 65], [83, 65], [67, 83, 65], [71], [67, 71], [83, 71], [67, 83, 71], [65, 71], [67, 65, 71], [83, 65, 71], [67, 83, 65, 71]].getD m.toNat []
theorem QM : ∀ m : Fin 16, WK (fun x : (Int × List UInt8 × List (List UInt8) × Int × Int × Unit) × Unit => Rn x.1.1 x.1.2.1 x.1.2.2.1 x.1.2.2.2.1 x.1.2.2.2.2.1) 10 (((m.val : Int), [], [[67], [83], [65], [71]], 4, 0, ()), ()) = some (.inl ((Oe m.val, ()), ())) := by
 intro m
 simp only [Rn]
 revert m
 decide +kernel
theorem CN : ∀ m : Fin 16, WK (fun x : (Int × List UInt8 × Int × Unit) × Unit => Oj x.1.1 x.1.2.1 x.1.2.2.1) 10 (((m.val : Int), [], 0, ()), ()) = some (.inl ((Oe m.val, ()), ())) := by
 intro m
 simp only [Oj, Ge]
 revert m
 decide +kernel
theorem FB {m : Int} (h : ¬ (1 ≤ m ∧ m ≤ 15)) : Oe m = [] := by
 unfold Oe
 by_cases hm : m < 1
 ·rw [show m.toNat = 0 by omega]; rfl
 ·rw [qg, List.getElem?_eq_none (by simp; omega)]; rfl
theorem Ep (m : Int) : Kg m = some (Oe m, ()) := by
 unfold Kg
 by_cases h1 : m < 1
 ·rw [Ba h1, FB (by omega)]; rfl
 rw [Aa h1, cond_false]
 by_cases h2 : m > 15
 ·rw [Ba h2, FB (by omega)]; rfl
 rw [Aa h2, cond_false]
 have := YE 10 (QM ⟨m.toNat, by omega⟩)
 rw [show (((⟨m.toNat, by omega⟩ : Fin 16).val : Nat) : Int) = m by show ((m.toNat : Nat) : Int) = m; omega] at this
 unfold Al
 erw [this]
 rfl
theorem Vp (m : Int) : Lg m = some (Oe m, ()) := by
 unfold Lg Il
 by_cases h : 1 ≤ m ∧ m ≤ 15
 ·have := YE 10 (CN ⟨m.toNat, by omega⟩)
  rw [show (((⟨m.toNat, by omega⟩ : Fin 16).val : Nat) : Int) = m by show ((m.toNat : Nat) : Int) = m; omega] at this
  erw [this]
  rfl
 ·rw [Ub (z := some (.inr (.inl (([], ()), ())))) (by
   simp only [Oj]
   rw [Ge, Aa h]
   rfl), FB h]
  rfl
theorem BH (m : Int) : (Oe m).length ≤ 4 := by
 by_cases h : 1 ≤ m ∧ m ≤ 15
 ·have : ∀ m : Fin 16, (Oe m.val).length ≤ 4 := by decide +kernel
  have := this ⟨m.toNat, by omega⟩
  rwa [show (((⟨m.toNat, by omega⟩ : Fin 16).val : Nat) : Int) = m by show ((m.toNat : Nat) : Int) = m; omega] at this
 ·rw [FB h]; simp
theorem ZC (c : Int) : (Ff c).length ≤ 5 := by
 unfold Ff
 cases decide (1 ≤ c ∧ c ≤ 56) with
 | false => simp
 | true =>
  have h : ∀ x ∈ Wn, x.length ≤ 5 := by decide +kernel
  rw [cond_true, qg]
  cases hc : Wn[(c - 1).toNat]? with
  | none => simp
  | some y => exact h y (List.mem_of_getElem? hc)
def Wb (b : Int) : List UInt8 → List UInt8 → List (List UInt8)
 | cur, [] => [cur]
 | cur, c :: l => cond (((UInt8.toNat c : Nat) : Int) == b) (cur :: Wb b [] l) (Wb b (cur ++ [c]) l)
theorem Lz (b : Int) : ∀ (l cur : List UInt8), (Wb b cur l).length ≤ l.length + 1
 | [], _ => by simp [Wb]
 | c :: l, cur => by
  have h1 := Lz b l []
  have h2 := Lz b l (cur ++ [c])
  simp only [Wb]
  cases ((UInt8.toNat c : Nat) : Int) == b
  ·simp only [cond_false, jv]; omega
  ·simp only [cond_true, jv]; omega
theorem Fv (b : Int) : ∀ (l cur : List UInt8), ∀ x ∈ Wb b cur l, x.length ≤ cur.length + l.length
 | [], cur => by simp [Wb]
 | c :: l, cur => by
  have h1 := Fv b l []
  have h2 := Fv b l (cur ++ [c])
  simp only [Wb]
  cases ((UInt8.toNat c : Nat) : Int) == b
  ·simp only [cond_false]
   intro x hx
   have := h2 x hx
   simp at this ⊢; omega
  ·simp only [cond_true]
   intro x hx
   rcases jp.1 hx with rfl | hx
   ·omega
   ·have := h1 x hx
    simp at this ⊢; omega
theorem ML {l : List UInt8} {i j : Nat} (h : i ≤ j) (hj : j < l.length) : Ob l i (j + 1) = Ob l i j ++ [l[j]] := by
 unfold Ob
 rw [List.take_add_one, List.drop_append, je hj]
 simp only [Option.toList_some, qo]
 rw [show i - min j l.length = 0 by omega]; rfl
theorem Yy {l : List UInt8} {i : Nat} : Ob l i i = [] := by simp [Ob]
theorem Lx (s : List UInt8) (b : Int) (hs : s.length ≤ 100000000) : ∀ (n i fr : Nat) (o : List (List UInt8)), i + n = s.length → fr ≤ i → o.length ≤ i →
 Te ((s, b, o, (fr : Int), (i : Int), ()), ()) = some (.inl ((o ++ Wb b (Ob s fr i) (s.drop i), ()), ()))
 | 0, i, fr, o, hn, hf, ho => by
  have : i = s.length := by omega
  subst this
  unfold Te
  refine (Ub (z := some (Sum.inl ((s, b, o ++ [Ob s fr s.length], ((s.length + 1 : Nat) : Int), ((s.length + 1 : Nat) : Int), ()), ()))) ?_).trans ?_
  ·simp only [Oh]
   rw [Ba (by omega), show (((s.length : Nat) : Int) == ((ja s : Nat) : Int)) = true by simp, Ap (by omega) (by omega), Oc (by simp; omega), Pb (by omega)]
   rfl
  ·refine (Ub (z := some (Sum.inr (.inl ((o ++ [Ob s fr s.length], ()), ())))) ?_).trans ?_
   ·simp only [Oh]
    rw [Aa (by omega)]; rfl
   ·simp [Wb]
 | n + 1, i, fr, o, hn, hf, ho => by
  have hi : i < s.length := by omega
  have hd : s.drop i = s[i] :: s.drop (i + 1) := List.drop_eq_getElem_cons hi
  unfold Te
  rw [hd, Wb]
  by_cases hc : (((UInt8.toNat s[i] : Nat) : Int) == b) = true
  ·refine (Ub (z := some (Sum.inl ((s, b, o ++ [Ob s fr i], ((i + 1 : Nat) : Int), ((i + 1 : Nat) : Int), ()), ()))) ?_).trans ?_
   ·simp only [Oh]
    rw [Ba (by omega), show ((i : Int) == ((ja s : Nat) : Int)) = false by simp; omega, Ic hi]
    simp only [cond_true, cond_false, jb]
    rw [hc, Ap (by omega) (by omega), Oc (by simp; omega), Pb (by omega)]
    rfl
   ·rw [hc, cond_true]
    have := Lx s b hs n (i + 1) (i + 1) (o ++ [Ob s fr i]) (by omega) (by omega) (by simp; omega)
    rw [Yy] at this
    refine this.trans ?_
    simp
  ·have hc' : (((UInt8.toNat s[i] : Nat) : Int) == b) = false := by simpa using hc
   refine (Ub (z := some (Sum.inl ((s, b, o, (fr : Int), ((i + 1 : Nat) : Int), ()), ()))) ?_).trans ?_
   ·simp only [Oh]
    rw [Ba (by omega), show ((i : Int) == ((ja s : Nat) : Int)) = false by simp; omega, Ic hi]
    simp only [cond_true, cond_false, jb]
    rw [hc', Pb (by omega)]
    rfl
   ·rw [hc', cond_false]
    have := Lx s b hs n (i + 1) fr o (by omega) (by omega) (by omega)
    rw [ML hf hi] at this
    exact this
theorem Vs {s : List UInt8} (b : Int) (hs : s.length ≤ 100000000) : Gf s b = some (Wb b [] s, ()) := by
 have := Lx s b hs s.length 0 0 [] (by omega) (by omega) (by simp)
 unfold Gf
 rw [show (0 : Int) = ((0 : Nat) : Int) from rfl, this]
 simp [Yy]
theorem Gx (s : List UInt8) (b : Int) (hs : s.length ≤ 100000000) : ∀ (n i fr : Nat) (o : List (List UInt8)), i + n = s.length → fr ≤ i → o.length ≤ i →
 ∃ (o' : List (List UInt8)) (fr' : Nat), fr' ≤ s.length ∧ o'.length ≤ s.length ∧ o' ++ [Ob s fr' s.length] = o ++ Wb b (Ob s fr i) (s.drop i) ∧
 Ag ((s, b, o, (fr : Int), (i : Int), ()), ()) = some (.inl ((s, o', (fr' : Int), ()), ()))
 | 0, i, fr, o, hn, hf, ho => by
  have : i = s.length := by omega
  subst this
  refine ⟨o, fr, hf, ho, by simp [Wb], ?_⟩
  unfold Ag
  refine (Ub (z := some (Sum.inr (.inl ((s, o, (fr : Int), ()), ())))) ?_).trans rfl
  simp only [Hk]
  rw [Aa (by omega)]; rfl
 | n + 1, i, fr, o, hn, hf, ho => by
  have hi : i < s.length := by omega
  have hd : s.drop i = s[i] :: s.drop (i + 1) := List.drop_eq_getElem_cons hi
  unfold Ag
  rw [hd, Wb]
  by_cases hc : (((UInt8.toNat s[i] : Nat) : Int) == b) = true
  ·obtain ⟨o', fr', h1, h2, h3, h4⟩ := Gx s b hs n (i + 1) (i + 1) (o ++ [Ob s fr i]) (by omega) (by omega) (by simp; omega)
   refine ⟨o', fr', h1, h2, ?_, ?_⟩
   ·rw [h3, hc, cond_true, Yy]; simp
   ·refine (Ub (z := some (Sum.inl ((s, b, o ++ [Ob s fr i], ((i + 1 : Nat) : Int), ((i + 1 : Nat) : Int), ()), ()))) ?_).trans h4
    simp only [Hk]
    rw [Ba (by omega), Ic hi]
    simp only [cond_true, cond_false, jb]
    rw [hc, Ap (by omega) (by omega), Oc (by simp; omega), Pb (by omega)]
    rfl
  ·have hc' : (((UInt8.toNat s[i] : Nat) : Int) == b) = false := by simpa using hc
   obtain ⟨o', fr', h1, h2, h3, h4⟩ := Gx s b hs n (i + 1) fr o (by omega) (by omega) (by omega)
   refine ⟨o', fr', h1, h2, ?_, ?_⟩
   ·rw [h3, hc', cond_false, ML hf hi]
   ·refine (Ub (z := some (Sum.inl ((s, b, o, (fr : Int), ((i + 1 : Nat) : Int), ()), ()))) ?_).trans h4
    simp only [Hk]
    rw [Ba (by omega), Ic hi]
    simp only [cond_true, cond_false, jb]
    rw [hc', Pb (by omega)]
    rfl
theorem LM {s : List UInt8} (b : Int) (hs : s.length ≤ 100000000) : Gq s b = some (Wb b [] s, ()) := by
 obtain ⟨o, fr, h1, h2, h3, h4⟩ := Gx s b hs s.length 0 0 [] (by omega) (by omega) (by simp)
 unfold Gq
 rw [show (0 : Int) = ((0 : Nat) : Int) from rfl, h4]
 simp only [jb, qh]
 rw [Ap h1 (by omega), Oc (by simp; omega)]
 simp only [cond_true, jn]
 rw [show jf o [Ob s fr s.length] = o ++ [Ob s fr s.length] from rfl, h3]
 simp [Yy]
def Mm (f : Int → List UInt8) (s : List UInt8) : Nat → Nat → Option Nat
 | 0, _ => none
 | n + 1, c => cond (f (c : Int) == s) (some c) (Mm f s n (c + 1))
def Q4 : Option Nat → Int
 | some k => (k : Int)
 | none => 0
def Ss (s : List UInt8) : Int := Q4 (Mm Ff s 56 1)
def Iw (s : List UInt8) : Int := Q4 (Mm Oe s 15 1)
theorem VD (s : List UInt8) : ∀ (n c : Nat), c + n = 57 → Nh ((s, (c : Int), ()), ()) = some (match Mm Ff s n c with | some k => .inr (((k : Int), ()), ()) | none => .inl ((), ()))
 | 0, c, h => by
  unfold Nh
  refine (Ub (z := some (Sum.inr (.inl ((), ())))) ?_).trans rfl
  simp only [No]
  rw [Aa (by omega)]; rfl
 | n + 1, c, h => by
  have ih := VD s n (c + 1) (by omega)
  unfold Nh at ih ⊢
  rw [Mm]
  cases hc : Ff (c : Int) == s with
  | true =>
   refine (Ub (z := some (Sum.inr (.inr (((c : Int), ()), ())))) ?_).trans rfl
   simp only [No]
   rw [Ba (by omega), Kt]
   simp only [cond_true, jb]
   rw [hc]; rfl
  | false =>
   refine (Ub (z := some (Sum.inl ((s, ((c + 1 : Nat) : Int), ()), ()))) ?_).trans ih
   simp only [No]
   rw [Ba (by omega), Kt]
   simp only [cond_true, jb]
   rw [hc, Pb (by omega)]; rfl
theorem Uv (s : List UInt8) : Hl s = some (Ss s, ()) := by
 have := VD s 56 1 rfl
 unfold Hl Ss
 rw [show (1 : Int) = ((1 : Nat) : Int) from rfl, this]
 cases Mm Ff s 56 1 <;> rfl
theorem ED (s : List UInt8) : ∀ (n c : Nat), c + n = 57 → 1 ≤ c → Lh ((s, Wn, ((ja Wn : Nat) : Int), ((c - 1 : Nat) : Int), ()), ()) = some (match Mm Ff s n c with | some k => .inr (((k : Int), ()), ()) | none => .inl ((), ()))
 | 0, c, h, h1 => by
  unfold Lh
  refine (Ub (z := some (Sum.inr (.inl ((), ())))) ?_).trans rfl
  simp only [Zn]
  rw [Wy, Aa (by omega)]; rfl
 | n + 1, c, h, h1 => by
  have ih := ED s n (c + 1) (by omega) (by omega)
  obtain ⟨a1, a2⟩ := RK (c := (c : Int)) (by omega)
  rw [show (c : Int) - 1 = ((c - 1 : Nat) : Int) by omega] at a1 a2
  unfold Lh at ih ⊢
  rw [Mm]
  cases hc : Ff (c : Int) == s with
  | true =>
   refine (Ub (z := some (Sum.inr (.inr (((c : Int), ()), ())))) ?_).trans rfl
   simp only [Zn]
   rw [Ba (by rw [Wy]; omega), a2, a1]
   simp only [cond_true, jb]
   rw [hc, Pb (by omega), show c - 1 + 1 = c by omega]; rfl
  | false =>
   refine (Ub (z := some (Sum.inl ((s, Wn, ((ja Wn : Nat) : Int), ((c + 1 - 1 : Nat) : Int), ()), ()))) ?_).trans ih
   simp only [Zn]
   rw [Ba (by rw [Wy]; omega), a2, a1]
   simp only [cond_true, jb]
   rw [hc, Pb (by omega), show c - 1 + 1 = c + 1 - 1 by omega]; rfl
theorem Dq (s : List UInt8) : Zk s = some (Ss s, ()) := by
 have := ED s 56 1 rfl (by omega)
 unfold Zk Ss
 rw [YI]
 simp only [jb]
 rw [show (0 : Int) = ((1 - 1 : Nat) : Int) from rfl, this]
 cases Mm Ff s 56 1 <;> rfl
theorem YB (s : List UInt8) : ∀ (n c : Nat), c + n = 16 → Dg ((s, (c : Int), ()), ()) = some (match Mm Oe s n c with | some k => .inr (((k : Int), ()), ()) | none => .inl ((), ()))
 | 0, c, h => by
  unfold Dg
  refine (Ub (z := some (Sum.inr (.inl ((), ())))) ?_).trans rfl
  simp only [Wk]
  rw [Aa (by omega)]; rfl
 | n + 1, c, h => by
  have ih := YB s n (c + 1) (by omega)
  unfold Dg at ih ⊢
  rw [Mm]
  cases hc : Oe (c : Int) == s with
  | true =>
   refine (Ub (z := some (Sum.inr (.inr (((c : Int), ()), ())))) ?_).trans rfl
   simp only [Wk]
   rw [Ba (by omega), Vp]
   simp only [cond_true, jb]
   rw [hc]; rfl
  | false =>
   refine (Ub (z := some (Sum.inl ((s, ((c + 1 : Nat) : Int), ()), ()))) ?_).trans ih
   simp only [Wk]
   rw [Ba (by omega), Vp]
   simp only [cond_true, jb]
   rw [hc, Pb (by omega)]; rfl
theorem Jr (s : List UInt8) : Xi s = some (Iw s, ()) := by
 have := YB s 15 1 rfl
 unfold Xi Iw
 rw [show (1 : Int) = ((1 : Nat) : Int) from rfl, this]
 cases Mm Oe s 15 1 <;> rfl
theorem XB (s : List UInt8) : ∀ (n c : Nat), c + n = 16 → Zf ((s, (c : Int), ()), ()) = some (match Mm Oe s n c with | some k => .inr (((k : Int), ()), ()) | none => .inl ((), ()))
 | 0, c, h => by
  unfold Zf
  refine (Ub (z := some (Sum.inr (.inl ((), ())))) ?_).trans rfl
  simp only [Gk]
  rw [Aa (by omega)]; rfl
 | n + 1, c, h => by
  have ih := XB s n (c + 1) (by omega)
  unfold Zf at ih ⊢
  rw [Mm]
  cases hc : Oe (c : Int) == s with
  | true =>
   refine (Ub (z := some (Sum.inr (.inr (((c : Int), ()), ())))) ?_).trans rfl
   simp only [Gk]
   rw [Ba (by omega), Ep]
   simp only [cond_true, jb]
   rw [hc]; rfl
  | false =>
   refine (Ub (z := some (Sum.inl ((s, ((c + 1 : Nat) : Int), ()), ()))) ?_).trans ih
   simp only [Gk]
   rw [Ba (by omega), Ep]
   simp only [cond_true, jb]
   rw [hc, Pb (by omega)]; rfl
theorem Br (s : List UInt8) : Vi s = some (Iw s, ()) := by
 have := XB s 15 1 rfl
 unfold Vi Iw
 rw [show (1 : Int) = ((1 : Nat) : Int) from rfl, this]
 cases Mm Oe s 15 1 <;> rfl
theorem p10 {i : Nat} (h : i ≤ 9) : (10 : Int) ^ i ≤ 1000000000 := by
 have : i = 0 ∨ i = 1 ∨ i = 2 ∨ i = 3 ∨ i = 4 ∨ i = 5 ∨ i = 6 ∨ i = 7 ∨ i = 8 ∨ i = 9 := by omega
 rcases this with rfl | rfl | rfl | rfl | rfl | rfl | rfl | rfl | rfl | rfl <;> decide
theorem Sal {i : Nat} (h : i ≤ 8) : (10 : Int) ^ i ≤ 100000000 := by
 have : i = 0 ∨ i = 1 ∨ i = 2 ∨ i = 3 ∨ i = 4 ∨ i = 5 ∨ i = 6 ∨ i = 7 ∨ i = 8 := by omega
 rcases this with rfl | rfl | rfl | rfl | rfl | rfl | rfl | rfl | rfl <;> decide
def XA : List UInt8 → Int → Option Int
 | [], v => some v
 | c :: l, v => cond (decide (((UInt8.toNat c : Nat) : Int) < 48) || decide (((UInt8.toNat c : Nat) : Int) > 57)) none (XA l (10 * v + ((UInt8.toNat c : Nat) : Int) - 48))
theorem GR : ∀ (l : List UInt8) (v w : Int) (k : Nat), 0 ≤ v → v < (10 : Int) ^ k → XA l v = some w → 0 ≤ w ∧ w < (10 : Int) ^ (k + l.length)
 | [], v, w, k, h0, h1, h => by simp only [XA, jc] at h; subst h; exact ⟨h0, h1⟩
 | c :: l, v, w, k, h0, h1, h => by
  simp only [XA] at h
  revert h
  by_cases hc : ((UInt8.toNat c : Nat) : Int) < 48 ∨ ((UInt8.toNat c : Nat) : Int) > 57
  ·have : (decide (((UInt8.toNat c : Nat) : Int) < 48) || decide (((UInt8.toNat c : Nat) : Int) > 57)) = true := by simpa using hc
   rw [this]; intro h; simp at h
  ·have : (decide (((UInt8.toNat c : Nat) : Int) < 48) || decide (((UInt8.toNat c : Nat) : Int) > 57)) = false := by simpa using hc
   rw [this]
   intro h
   have hp : (10 : Int) ^ (k + 1) = 10 ^ k * 10 := Int.pow_succ 10 k
   have := GR l (10 * v + ((UInt8.toNat c : Nat) : Int) - 48) w (k + 1) (by omega) (by rw [hp]; omega) h
   rw [jv, show k + (l.length + 1) = k + 1 + l.length by omega]
   exact this
theorem IG (s t : List UInt8) (ht : t.length ≤ 9) : ∀ (n i : Nat) (v : Int), i + n = t.length → 0 ≤ v → v < (10 : Int) ^ i →
 Be ((s, t, v, (i : Int), ()), ()) = some (match XA (t.drop i) v with | some w => .inl ((s, t, w, ()), ()) | none => .inr (((0 : Int), false, ()), ()))
 | 0, i, v, hn, h0, h1 => by
  have : i = t.length := by omega
  subst this
  unfold Be
  refine (Ub (z := some (Sum.inr (.inl ((s, t, v, ()), ())))) ?_).trans ?_
  ·simp only [Di]
   rw [Aa (by omega)]; rfl
  ·simp [XA]
 | n + 1, i, v, hn, h0, h1 => by
  have hi : i < t.length := by omega
  have hd : t.drop i = t[i] :: t.drop (i + 1) := List.drop_eq_getElem_cons hi
  have hp : (10 : Int) ^ i ≤ 100000000 := Sal (by omega)
  have hp1 : (10 : Int) ^ (i + 1) = 10 ^ i * 10 := Int.pow_succ 10 i
  have hc := UInt8.toNat_lt t[i]
  unfold Be
  rw [hd, XA]
  by_cases c1 : ((UInt8.toNat t[i] : Nat) : Int) < 48
  ·refine (Ub (z := some (Sum.inr (.inr (((0 : Int), false, ()), ())))) ?_).trans ?_
   ·simp only [Di]
    rw [Ba (by omega), Ic hi]
    simp only [cond_true, jb]
    rw [Ba c1]; rfl
   ·rw [Ba c1]; rfl
  ·by_cases c2 : ((UInt8.toNat t[i] : Nat) : Int) > 57
   ·refine (Ub (z := some (Sum.inr (.inr (((0 : Int), false, ()), ())))) ?_).trans ?_
    ·simp only [Di]
     rw [Ba (by omega), Ic hi]
     simp only [cond_true, jb]
     rw [Aa c1, Ba c2]; rfl
    ·rw [Ba c2, Aa c1]; rfl
   ·refine (Ub (z := some (Sum.inl ((s, t, 10 * v + ((UInt8.toNat t[i] : Nat) : Int) - 48, ((i + 1 : Nat) : Int), ()), ()))) ?_).trans ?_
    ·simp only [Di]
     rw [Ba (by omega), Ic hi]
     simp only [cond_true, jb]
     rw [Aa c1, Aa c2, Pb (by omega), Og (n := 10 * v) (by omega) (by omega), Og (n := ((UInt8.toNat t[i] : Nat) : Int)) (by omega) (by omega),
      Og (n := 10 * v + ((UInt8.toNat t[i] : Nat) : Int)) (by omega) (by omega), Og (by omega) (by omega)]
     rfl
    ·rw [Aa c1, Aa c2]
     exact IG s t ht n (i + 1) _ (by omega) (by omega) (by omega)
def ND (t s : List UInt8) : Int × (Bool × Unit) :=
 cond (decide (((ja t : Nat) : Int) < 1)) ((0 : Int), false, ()) (cond (decide (((ja t : Nat) : Int) > 9)) ((0 : Int), false, ())
  (match XA t 0 with
  | none => ((0 : Int), false, ())
  | some v => cond (Lib.itoa (cond (decide (((ja t : Nat) : Int) < ((ja s : Nat) : Int))) (-v) v) != s) ((0 : Int), false, ()) (cond (decide (((ja t : Nat) : Int) < ((ja s : Nat) : Int))) (-v) v, true, ())))
def Zu : List UInt8 → Int × (Bool × Unit)
 | [] => ((0 : Int), false, ())
 | c :: l => cond (((UInt8.toNat c : Nat) : Int) == 45) (ND l (c :: l)) (ND (c :: l) (c :: l))
theorem NJ (s t : List UInt8) (h2 : ¬ ((ja t : Nat) : Int) > 9) (h1 : ¬ ((ja t : Nat) : Int) < 1) :
 (jy (Be ((s, t, (0 : Int), (0 : Int), ()), ())) (j5 (fun y11 => (cond (decide (((ja y11.1.2.1 : Nat) : Int) < ((ja y11.1.1 : Nat) : Int)))
 (jy (Zc (Go.IntKind.wrap .i64 ((0 : Int) - y11.1.2.2.1))) fun r13 =>
 (cond (r13.1 != y11.1.1)
 (some ((0 : Int), false, ()))
 (some ((Go.IntKind.wrap .i64 ((0 : Int) - y11.1.2.2.1)), true, ()))))
 (jy (Zc y11.1.2.2.1) fun r14 =>
 (cond (r14.1 != y11.1.1)
 (some ((0 : Int), false, ()))
 (
  some (y11.1.2.2.1, true, ())))))) (fun z12 => (some (z12.1.1, z12.1.2.1, ()))))) = some (ND t s) := by
  have := IG s t (by omega) t.length 0 0 (by omega) (by omega) (by decide)
  rw [show ((0 : Nat) : Int) = 0 from rfl] at this
  rw [this, List.drop_zero]
  unfold ND
  rw [Aa h1, Aa h2]
  cases hg : XA t 0 with
  | none => rfl
  | some v =>
   have hb := GR t 0 v 0 (by omega) (by decide) hg
   have hp := p10 (show 0 + t.length ≤ 9 by omega)
   simp only [jb, qh, cond_false]
   cases decide (((ja t : Nat) : Int) < ((ja s : Nat) : Int)) with
   | true =>
    simp only [cond_true]
    rw [Og (n := 0 - v) (by omega) (by omega), Gr (by omega), show (0 : Int) - v = -v by omega]
    simp only [jb]
    cases Lib.itoa (-v) != s <;> rfl
   | false =>
    simp only [cond_false]
    rw [Gr (by omega)]
    simp only [jb]
    cases Lib.itoa v != s <;> rfl
theorem Py {s : List UInt8} (hs : s.length ≤ 100000000) : Jn s = some (Zu s) := by
 unfold Jn
 cases s with
 | nil => rfl
 | cons c l =>
  rw [Ba (by rw [jv]; omega)]
  rw [show Cc (c :: l) 0 = some c from rfl]
  simp only [cond_true, jb, Zu]
  have hcut : Ob (c :: l) (jx 1) (jx ((ja (c :: l) : Nat) : Int)) = l := by
   rw [show jx 1 = 1 from rfl, jn]
   unfold Ob
   rw [List.take_length]; rfl
  have hok : Ae (ja (c :: l)) 1 ((ja (c :: l) : Nat) : Int) = true := Ap (lo := 1) (by rw [jv]; omega) (jo _)
  cases ((UInt8.toNat c : Nat) : Int) == 45 with
  | true =>
   simp only [cond_true]
   rw [hok, hcut]
   simp only [cond_true]
   by_cases h1 : ((ja l : Nat) : Int) < 1
   ·unfold ND; rw [Ba h1]; rfl
   ·by_cases h2 : ((ja l : Nat) : Int) > 9
    ·unfold ND; rw [Ba h2, Aa h1]; rfl
    ·rw [Aa h1, Aa h2]
     simp only [cond_false]
     exact NJ (c :: l) l h2 h1
  | false =>
   simp only [cond_false]
   by_cases h1 : ((ja (c :: l) : Nat) : Int) < 1
   ·unfold ND; rw [Ba h1]; rfl
   ·by_cases h2 : ((ja (c :: l) : Nat) : Int) > 9
    ·unfold ND; rw [Ba h2, Aa h1]; rfl
    ·rw [Aa h1, Aa h2]
     simp only [cond_false]
     exact NJ (c :: l) (c :: l) h2 h1
def JV (a : Ha) : List UInt8 :=
 cond (a.1 == 0) Tf (cond (a.1 == 1) Sf (cond (a.1 == 3) ([109, 111, 58] ++ Lib.itoa a.2.2.2.1) (cond (a.1 == 4) ([116, 103, 58] ++ Lib.itoa a.2.2.2.1) (cond (a.1 == 5) ([116, 111, 58] ++ Lib.itoa a.2.2.2.1)
  (cond (a.1 == 6) (Oe a.2.2.1 ++ [47] ++ Ff a.2.1) (cond (a.1 == 7) (Lib.itoa a.2.2.2.1 ++ [47] ++ Ff a.2.1) (cond (a.1 == 8) (Ud ++ Oe a.2.2.1) (cond (a.1 == 9) (Ze ++ Lib.itoa a.2.2.2.1)
  (cond (a.1 == 10) Ye (cond (a.2.2.1 == 0) (Ff a.2.1) (Oe a.2.2.1 ++ [45] ++ Ff a.2.1)))))))))))
noncomputable def Nn (a : Ha) : List UInt8 := cond (Sb a) (JV a) []
theorem Uz {a : Ha} (h : Sb a = true) : 0 ≤ a.2.2.2.1 ∧ a.2.2.2.1 ≤ 3 := by
 rw [Mb] at h
 unfold Dc at h
 omega
theorem Z4 {a : Ha} (h : Sb a = true) : 0 ≤ a.1 ∧ a.1 ≤ 10 := by
 rw [Mb] at h
 unfold Dc at h
 omega
theorem HP {n : Int} (h : 0 ≤ n ∧ n ≤ 3) : (Lib.itoa n).length ≤ 21 := X1 (by omega)
theorem Mal {b : Bool} {x y : List UInt8} {n : Nat} (hx : x.length ≤ n) (hy : y.length ≤ n) : (cond b x y).length ≤ n := by cases b <;> assumption
theorem D1 (a : Ha) : (Nn a).length ≤ 50 := by
 unfold Nn
 cases h : Sb a with
 | false => simp
 | true =>
  have h1 := HP (Uz h)
  have h2 := BH a.2.2.1
  have h3 := ZC a.2.1
  simp only [cond_true, JV]
  generalize Ff a.2.1 = N at h3 ⊢
  generalize Oe a.2.2.1 = M at h2 ⊢
  generalize Lib.itoa a.2.2.2.1 = I at h1 ⊢
  repeat' apply Mal
  all_goals try simp only [Tf, Sf, Ud, Ze, Ye, qc, jv, j6]
  all_goals omega
theorem csp {b : Bool} {x y : List UInt8} {z : Option (List UInt8 × Unit)} (h : z = some (y, ())) : cond b (some (x, ())) z = some (cond b x y, ()) := by cases b <;> simp [h]
theorem RB (a : Ha) : Fd a = some (Nn a, ()) := by
 unfold Fd Nn
 rw [Gj]
 cases h : Sb a with
 | false => rfl
 | true =>
  have h1 := HP (Uz h)
  have h2 := BH a.2.2.1
  have h3 := ZC a.2.1
  have h4 := Uz h
  simp only [jb, jg, cond_false, cond_true, JV]
  rw [Gr (by omega), Vp, Kt]
  simp only [jb]
  rw [Oc (n := ja ([109, 111, 58] : List UInt8) + ja (Lib.itoa a.2.2.2.1)) (by simp; omega), Oc (n := ja ([116, 103, 58] : List UInt8) + ja (Lib.itoa a.2.2.2.1)) (by simp; omega),
   Oc (n := ja ([116, 111, 58] : List UInt8) + ja (Lib.itoa a.2.2.2.1)) (by simp; omega), Oc (n := ja (Oe a.2.2.1) + ja ([47] : List UInt8)) (by simp; omega),
   Oc (n := ja (jf (Oe a.2.2.1) [47]) + ja (Ff a.2.1)) (by simp; omega), Oc (n := ja (Lib.itoa a.2.2.2.1) + ja ([47] : List UInt8)) (by simp; omega),
   Oc (n := ja (jf (Lib.itoa a.2.2.2.1) [47]) + ja (Ff a.2.1)) (by simp; omega), Oc (n := ja Ud + ja (Oe a.2.2.1)) (by simp [Ud]; omega),
   Oc (n := ja Ze + ja (Lib.itoa a.2.2.2.1)) (by simp [Ze]; omega), Oc (n := ja (Oe a.2.2.1) + ja ([45] : List UInt8)) (by simp; omega),
   Oc (n := ja (jf (Oe a.2.2.1) [45]) + ja (Ff a.2.1)) (by simp; omega)]
  simp only [cond_true]
  iterate 11 refine csp ?_
  rfl
theorem Hu (a : Ha) : Ci a = some (Nn a, ()) := by
 unfold Ci Nn
 rw [Dj]
 cases h : Sb a with
 | false => rfl
 | true =>
  have h1 := HP (Uz h)
  have h2 := BH a.2.2.1
  have h3 := ZC a.2.1
  have h4 := Uz h
  have h5 := Z4 h
  obtain ⟨k, c, m, n, u⟩ := a
  simp only at h1 h2 h3 h4 h5
  simp only [jb, jg, cond_false, cond_true, JV]
  rw [DF (by omega), Ep, TG]
  simp only [jb]
  rw [Oc (n := ja (Oe m) + ja ([47] : List UInt8)) (by simp; omega),
   Oc (n := ja (jf (Oe m) [47]) + ja (Ff c)) (by simp; omega), Oc (n := ja (Lib.itoa n) + ja ([47] : List UInt8)) (by simp; omega),
   Oc (n := ja (jf (Lib.itoa n) [47]) + ja (Ff c)) (by simp; omega), Oc (n := ja Ud + ja (Oe m)) (by simp [Ud]; omega),
   Oc (n := ja (Oe m) + ja ([45] : List UInt8)) (by simp; omega),
   Oc (n := ja (jf (Oe m) [45]) + ja (Ff c)) (by simp; omega)]
  simp only [cond_true]
  have : k = 0 ∨ k = 1 ∨ k = 2 ∨ k = 3 ∨ k = 4 ∨ k = 5 ∨ k = 6 ∨ k = 7 ∨ k = 8 ∨ k = 9 ∨ k = 10 := by omega
  have lw : ∀ w : List UInt8, w.length ≤ 10 → jw (ja w + ja (Lib.itoa n)) Id = true := fun w hw => Oc (by omega)
  rcases this with rfl | rfl | rfl | rfl | rfl | rfl | rfl | rfl | rfl | rfl | rfl
  ·rfl
  ·rfl
  ·show (cond (m != 0) _ _) = some (cond (m == 0) _ _, ())
   unfold bne
   cases m == 0 <;> rfl
  ·simp only [Int.reduceBEq, cond_false, cond_true]
   rw [show Gh 3 = some ([109, 111, 58], ()) from rfl]
   simp only [jb]
   rw [lw _ (by simp)]; rfl
  ·simp only [Int.reduceBEq, cond_false, cond_true]
   rw [show Gh 4 = some ([116, 103, 58], ()) from rfl]
   simp only [jb]
   rw [lw _ (by simp)]; rfl
  ·simp only [Int.reduceBEq, cond_false, cond_true]
   rw [show Gh 5 = some ([116, 111, 58], ()) from rfl]
   simp only [jb]
   rw [lw _ (by simp)]; rfl
  ·rfl
  ·rfl
  ·rfl
  ·simp only [Int.reduceBEq, cond_false, cond_true]
   rw [show Gh 9 = some (Ze, ()) from rfl]
   simp only [jb]
   rw [lw _ (by simp [Ze])]; rfl
  ·rfl
theorem p63 : (2 : Nat) ^ 63 = 9223372036854775808 := rfl
theorem MI {a : Nat} (ha : a < 2 ^ 63) : (BitVec.ofInt 64 (a : Int)).toNat = a := by
 rw [BitVec.ofInt_natCast, BitVec.toNat_ofNat, Nat.mod_eq_of_lt (by omega)]
theorem R1 {a b : Nat} (ha : a < 2 ^ 63) (hb : b < 2 ^ 63) : Gu .i64 (a : Int) (b : Int) = ((a &&& b : Nat) : Int) := by
 have h : (BitVec.ofInt (IntKind.bits .i64) (a : Int) &&& BitVec.ofInt (IntKind.bits .i64) (b : Int)).toNat = a &&& b := by
  rw [BitVec.toNat_and]; erw [MI ha, MI hb]
 unfold Gu
 rw [h]
 have h2 : a &&& b ≤ a := Nat.and_le_left
 have h3 := p63
 exact Og (by omega) (by omega)
theorem J5 {a b : Nat} (ha : a < 2 ^ 63) (hb : b < 2 ^ 63) : En .i64 (a : Int) (b : Int) = ((a ||| b : Nat) : Int) := by
 have h : (BitVec.ofInt (IntKind.bits .i64) (a : Int) ||| BitVec.ofInt (IntKind.bits .i64) (b : Int)).toNat = a ||| b := by
  rw [BitVec.toNat_or]; erw [MI ha, MI hb]
 unfold En
 rw [h]
 have h2 : a ||| b < 2 ^ 63 := Nat.or_lt_two_pow ha hb
 have h3 := p63
 exact Og (by omega) (by omega)
theorem V1 (a : Nat) {k : Nat} (hk : k ≤ 64) : Iy .i64 (a : Int) (k : Int) = ((a >>> k : Nat) : Int) := by
 unfold Iy
 have h1 : min (jx (k : Int)) (IntKind.bits .i64) = k := by
  show min (jx (k : Int)) 64 = k
  rw [jn]; omega
 rw [h1, Nat.shiftRight_eq_div_pow]
 have h2 : (2 : Int) ^ k = ((2 ^ k : Nat) : Int) := by simp
 rw [h2]
 exact (Int.fdiv_eq_ediv_of_nonneg _ (Int.natCast_nonneg _)).trans (by simp)
theorem JO {a k : Nat} (ha : a < 2 ^ 63) (hk : k ≤ 64) : (Dx (a : Int) (k : Int) == 1) = a.testBit k := by
 unfold Dx
 have h1 : a >>> k ≤ a := by rw [Nat.shiftRight_eq_div_pow]; exact Nat.div_le_self _ _
 have h3 := p63
 rw [V1 a hk]
 show (Gu .i64 ((a >>> k : Nat) : Int) ((1 : Nat) : Int) == 1) = _
 rw [R1 (by omega) (by omega), Nat.and_one_is_mod, Nat.testBit_eq_decide_div_mod_eq, Nat.shiftRight_eq_div_pow]
 have : a / 2 ^ k % 2 = 0 ∨ a / 2 ^ k % 2 = 1 := by omega
 rcases this with h | h <;> rw [h] <;> rfl
theorem TZ {k : Nat} (hk : k ≤ 62) : (2 : Nat) ^ k < 2 ^ 63 := Nat.pow_lt_pow_right (by omega) (by omega)
def cnt : Nat → Nat → Nat
 | 0, _ => 0
 | k + 1, n => n % 2 + cnt k (n / 2)
def u1 (a : Nat) : Nat := ((a / 2) &&& 85) + (a &&& 85)
def u2 (a : Nat) : Nat := ((a / 4) &&& 51) + (a &&& 51)
theorem m3 : ∀ a : Fin 64, ∀ c : Fin 4, (a.val &&& 51) = (a.val + 64 * c.val) &&& 51 := by decide +kernel
def M5 : Nat := 6148914691236517205
def M3 : Nat := 3689348814741910323
def MF : Nat := 1085102592571150095
def s1 (n : Nat) : Nat := (n / 2 &&& M5) + (n &&& M5)
def s2 (n : Nat) : Nat := (n / 4 &&& M3) + (n &&& M3)
def s3 (n : Nat) : Nat := (n / 16 + n) &&& MF
def HD (m : EE) : Bool := decide (1 ≤ m.1 ∧ m.1 ≤ 4 ∧ 1 ≤ m.2.1 ∧ m.2.1 ≤ 6)
def Cz (m : EE) : Int := cond (HD m) (m.1 * m.2.1) 0
def Ux (k x : Int) : Bool := decide (0 ≤ x ∧ x < ((2 ^ k.toNat : Nat) : Int))
def TE (m : EE) (x : Int) : Bool := HD m && Ux (Cz m) x
def Maf (l : List Int) : Bool := Zd (fun _ x => decide ((0 : Int) ≤ x ∧ x ≤ 99)) 0 l
def GD (d : Qx) : Bool :=
 decide (0 ≤ d.1 ∧ d.1 ≤ 2) && (decide (1 ≤ d.2.1 ∧ d.2.1 ≤ 20) && (decide (1 ≤ d.2.2.1 ∧ d.2.2.1 ≤ 24) && ((((ja d.2.2.2.2.2.1 : Nat) : Int) == d.2.2.1) && (Ux d.2.2.1 d.2.2.2.1 && (Ux d.2.2.1 d.2.2.2.2.1 && Maf d.2.2.2.2.2.1)))))
def H1 (L : List Gc) (i : Nat) (x : Gc) : Bool :=
 decide (0 ≤ x.1 ∧ x.1 ≤ 16777215) && (decide (24 ≤ x.2.1 ∧ x.2.1 ≤ 31) && (decide (2 ≤ ((cnt 32 x.1.toNat : Nat) : Int) ∧ ((cnt 32 x.1.toNat : Nat) : Int) ≤ 4) && Zd (fun _ (y : Gc) => !(y.1 == x.1) && !(y.2.1 == x.2.1)) 0 (L.take i)))
def FR (L : List Gc) : Bool := decide (L.length ≤ 8) && Zd (fun i x => H1 L i x) 0 L
def Oab : Gc := (0, 0, ())
def OX (L : List Gc) (o : Int) : Option Gc := L.find? (fun c => c.2.1 == o)
def okA (K : Int) (x : Lb) : Bool := !decide (x.2.1 ≤ 0) && (!(QE .i64 x.2.1 K != 0) && !(x.2.2.1 != (x.2.1 == K)))
def Qal (L : List Gc) (o : Int) : Int := ((OX L o).getD Oab).1
def okF (L : List Gc) (x : Lb) : Bool := (OX L x.1).isSome && okA (Qal L x.1) x
def Xaa (pre : List Lb) (x : Lb) : Bool := Zd (fun _ (y : Lb) => !(y.1 == x.1)) 0 pre
def JX (L : List Gc) : List Lb → List Lb → Bool
 | _, [] => true
 | pre, x :: r => (okF L x && Xaa pre x) && JX L (pre ++ [x]) r
def X4 (c : Ck) : Bool := JX c.1 [] c.2.2.2.2.2.2.1
def swG (s : Int) (x : Lb) : Int ⊕ Unit := cond (Gu .i64 s x.2.1 != 0) (.inr ()) (.inl (En .i64 s x.2.1))
def swB (c : Ck) : Bool := Tw (Nc (fun _ s x => swG s x) 0 c.2.2.2.2.2.1 c.2.2.2.2.2.2.1)
def orK (k : Nat) (s : Int) (l : List Lb) : Int := Wg (fun _ s (x : Lb) => En .i64 s x.2.1) k s l
def O4 (c : Ck) : Int := orK 0 c.2.2.2.2.2.1 c.2.2.2.2.2.2.1
def BG (c : Ck) : Bool :=
 FR c.1 && (decide (1 ≤ c.2.1 ∧ c.2.1 ≤ 200) && (decide (0 ≤ c.2.2.2.1 ∧ c.2.2.2.1 ≤ 1000000) && (decide (0 ≤ c.2.2.2.2.1 ∧ c.2.2.2.2.1 ≤ c.2.2.2.1) && ((decide (0 ≤ c.2.2.2.2.2.1 ∧ c.2.2.2.2.2.1 ≤ 16777215) && (X4 c && swB c)) &&
  (Tk c.2.2.1 (O4 c) 24 && Yu c.2.2.1 c.2.2.2.1)))))
structure RT (c : Ck) : Prop where
 a : c.1.length ≤ Wa
 q : c.2.2.1.length ≤ Wa
 e : c.2.2.2.2.2.2.1.length ≤ Wa
 r : ∀ x ∈ c.2.2.2.2.2.2.1, x.2.1 ≤ 9223372036854775807
def tgG (s : Int) (x : Lb) : Int := CB .i64 s (Mh .i64 1 x.2.1)
def tgI (d : Int) (q : List Lb) : Int := Wg (fun _ s x => tgG s x) 0 d q
structure Hap (x : Lb) : Prop where
 lo : 0 ≤ x.1
 hi : x.1 ≤ 31
 left : 0 ≤ x.2.1
def gvG (s : Int) (x : Lb) : Int := cond x.2.2.1 (En .i64 s (Mh .i64 1 x.1)) s
def gvI (c : Ck) : Int := Wg (fun _ s x => gvG s x) 0 c.2.2.2.2.2.1 c.2.2.2.2.2.2.1
def S1 (m : EE) (keys : Int) (L : List Gc) : Bool := Zd (fun _ (x : Gc) => TE m x.1 && !decide (x.2.1 ≥ keys)) 0 L
noncomputable def U1 (b : ZH) : Bool :=
 HD b.1 && (GD b.2.1 && (BG b.2.2.1 && (Hh b.2.2.2.1 && ((b.2.1.2.2.1 == Cz b.1) && (!decide (b.2.2.2.1.1.1.1 < Cz b.1) && (TE b.1 b.2.2.2.2.1 &&
  (S1 b.1 b.2.2.2.1.1.1.1 b.2.2.1.1 && (decide (0 ≤ b.2.2.2.2.2.1 ∧ b.2.2.2.2.2.1 ≤ 1000000) && (!decide (b.2.2.1.2.2.2.1 > b.2.2.2.2.2.1) && (!decide (b.2.2.2.1.2.2.2.1 > b.2.2.2.2.2.1) &&
  ((tgI (O4 b.2.2.1) b.2.2.1.2.2.1 == b.2.1.2.2.2.1) && (tgI (WE b.2.2.2.1.1.2.2.2.1) b.2.2.2.1.2.2.1 == gvI b.2.2.1))))))))))))
structure U4 (b : ZH) : Prop where
 d : b.2.1.2.2.2.2.2.1.length ≤ Wa
 c : RT b.2.2.1
 x : Ja Dd b.2.2.2.1 ≤ Wa
theorem LP {m : Ka} (hz : Ja Ua m ≤ Wa) : ja m.2.1 ≤ Wa ∧ ∀ k (hk : k < m.2.1.length), m.2.1[k].length ≤ Wa := by
 have h0 : Ja Ua m = 0 + (Ja (.sl (.sl Xa)) m.2.1 + 0) := rfl
 have h1 : Ja (.sl (.sl Xa)) m.2.1 = ja m.2.1 + (List.map (Ja (.sl Xa)) m.2.1).sum := rfl
 refine ⟨by omega, fun k hk => ?_⟩
 have h2 := Sq (f := Ja (.sl Xa)) hk
 rw [JQ] at h2
 omega
theorem Gp (m : Ka) (hz : Ja Ua m ≤ Wa) : Ik m = some (m, ()) := by
 have h20 : Wa = 1048576 := rfl
 obtain ⟨h1, h2⟩ := LP hz
 have hl := Gz (step := fun x : (Unit × Unit × List (List Ha) × Int × Int × Unit) × Ka × Ka × Unit => Ij x.1.1 x.1.2.1 x.1.2.2.1 x.1.2.2.2.1 x.1.2.2.2.2.1 x.2.1 x.2.2.1) m.2.1 (fun x => x)
  (fun o k => (((), (), m.2.1, (m.2.1.length : Int), k, ()), ((0, [], ()), (m.1, o, ()), ()))) (fun o => .inl (((), (), ()), ((0, [], ()), (m.1, o, ()), ()))) (by omega) (fun k hk o ho => by
   have := h2 k hk
   simp only [Ij]
   rw [Ba (by omega), Ic hk]
   simp only [cond_true, jb]
   rw [Oc (by simp; omega), Oc (by simp only [jv, j6]; omega)]
   rfl) (fun o => by
   simp only [Ij]
   rw [Aa (by omega)]
   rfl)
 unfold Ik Bl
 erw [hl]
 rw [List.map_id']
 rfl
theorem CL (m : Ka) (hz : Ja Ua m ≤ Wa) : Mw m = some (m, ()) := by
 have h20 : Wa = 1048576 := rfl
 obtain ⟨h1, h2⟩ := LP hz
 have hl := Gz (step := fun x : (Unit × Unit × Unit × Int × Unit) × Ka × Ka × Ka × Unit => So x.1.1 x.1.2.1 x.1.2.2.1 x.1.2.2.2.1 x.2.1 x.2.2.1 x.2.2.2.1) m.2.1 (fun x => x)
  (fun o k => (((), (), (), k, ()), (m, (0, [], ()), (m.1, o, ()), ()))) (fun o => .inl (((), (), ()), ((0, [], ()), (m.1, o, ()), ()))) (by omega) (fun k hk o ho => by
   have := h2 k hk
   simp only [So]
   rw [Ba (by omega), Ic hk]
   simp only [cond_true, jb]
   rw [Oc (by simp; omega), Oc (by simp only [jv, j6]; omega)]
   rfl) (fun o => by
   simp only [So]
   rw [Aa (by omega)]
   rfl)
 unfold Mw Xp
 erw [hl]
 rw [List.map_id']
 rfl
theorem GM {L : List (List Qb)} (hz : Ja (.sl (.sl Ac)) L ≤ Wa) : ja L ≤ Wa ∧ ∀ k (hk : k < L.length), L[k].length ≤ Wa := by
 have h1 : Ja (.sl (.sl Ac)) L = ja L + (List.map (Ja (.sl Ac)) L).sum := rfl
 refine ⟨by omega, fun k hk => ?_⟩
 have h2 := Sq (f := Ja (.sl Ac)) hk
 rw [FL] at h2
 omega
theorem Hp (L : List (List Qb)) (hz : Ja (.sl (.sl Ac)) L ≤ Wa) : Jk L = some (L, ()) := by
 have h20 : Wa = 1048576 := rfl
 obtain ⟨h1, h2⟩ := GM hz
 have hl := Gz (step := fun x => Jj x.1.1 x.1.2.1 x.1.2.2.1 x.1.2.2.2.1) L (fun x => x)
  (fun o k => ((o, L, ((ja L : Nat) : Int), k, ()), ())) (fun o => .inl ((o, ()), ())) (by omega) (fun k hk o ho => by
   have := h2 k hk
   simp only [Jj]
   rw [Ba (by omega), Ic hk]
   simp only [cond_true, jb]
   rw [Oc (by simp; omega), Oc (by simp only [jv, j6]; omega)]
   rfl) (fun o => by
   simp only [Jj]
   rw [Aa (by omega)]
   rfl)
 unfold Jk Cl
 erw [hl]
 rw [List.map_id']
 rfl
theorem FD (e : Bb) (hz : Ja Jb e ≤ Wa) : Co e = some (e, ()) := by
 have h20 : Wa = 1048576 := rfl
 rw [Cn, Mn] at hz
 unfold Co
 rw [Gp _ (by omega), Hp _ (by omega), Oc (by simp; omega)]
 rfl
theorem JA (e : Bb) (hz : Ja Jb e ≤ Wa) : Zr e = some (e, ()) := by
 have h20 : Wa = 1048576 := rfl
 rw [Cn, Mn] at hz
 obtain ⟨h1, h2⟩ := GM (L := e.2.1) (by omega)
 have hl := Gz (step := fun x => Uo x.1.1 x.1.2.1 x.1.2.2.1 x.1.2.2.2.1 x.2.1 x.2.2.1 x.2.2.2.1) e.2.1 (fun x => x)
  (fun o k => (((), (), (), k, ()), (e, (((0 : Int), ([] : List (List Ha)), ()), ([] : List (List Qb)), (0 : Int), ([] : List Ib), (0 : Int), false, ()), (e.1, o, e.2.2), ())))
  (fun o => .inl (((), (), (), ()), (e, (((0 : Int), ([] : List (List Ha)), ()), ([] : List (List Qb)), (0 : Int), ([] : List Ib), (0 : Int), false, ()), (e.1, o, e.2.2), ()))) (by omega) (fun k hk o ho => by
   have := h2 k hk
   simp only [Uo]
   rw [Ba (by omega), Ic hk]
   simp only [cond_true, jb]
   rw [Oc (by simp; omega), Oc (by simp only [jv, j6]; omega)]
   rfl) (fun o => by
   simp only [Uo]
   rw [Aa (by omega)]
   rfl)
 unfold Zr Zp
 rw [CL _ (by omega)]
 simp only [jb]
 erw [hl]
 rw [List.map_id']
 simp only [jb, qh]
 rw [Oc (by simp; omega)]
 rfl

def MO (l : List Ib) : Nat → List Int
 | 0 => []
 | n + 1 => cond (l.any fun h => h.2.1.2.1 == ((n + 1 : Nat) : Int)) (MO l n ++ [((n + 1 : Nat) : Int)]) (MO l n)
def Raf (l : List Ib) : Int := Wg (fun _ s (h : Ib) => cond (h.2.1.1 == 2 || h.2.1.1 == 8) (En .i64 s h.2.1.2.2.1) s) 0 0 l
def G7 (l : List Ib) : Af := (Raf l, MO l 56, ())
def LR (c : Int) : Bool := decide (1 ≤ c ∧ c ≤ 36) || ((c == 39) || (c == 42))
def Iab (f o : Int) (c : Bool) (a : Ha) : Int × Int × Bool × Ha :=
 cond (a.1 == 2) (cond (a.2.1 == 0) (f, o, c, a) (f, 0, c && LR a.2.1, a.1, a.2.1, cond ((c && LR a.2.1) && (decide (a.2.1 ≤ 26) && (QE .i64 (En .i64 a.2.2.1 o) 2 == 0))) 2 (En .i64 a.2.2.1 o), a.2.2.2))
  (cond (a.1 == 4) (CB .i64 f (Mh .i64 1 a.2.2.2.1), o, c, a) (cond (a.1 == 5) (QE .i64 (Mh .i64 1 a.2.2.2.1) 1, o, c, a)
   (cond (a.1 == 8) (f, cond (Gu .i64 o a.2.2.1 == a.2.2.1) (QE .i64 o a.2.2.1) (En .i64 o a.2.2.1), c, a) (cond (a.1 == 10) (f, o, !c, a) (f, o, c, a)))))
structure DV (nl : Nat) (f o : Int) : Prop where
 f0 : 0 ≤ f
 f1 : f < ((2 ^ nl : Nat) : Int)
 f2 : f.tmod 2 = 0
 o0 : 0 ≤ o
 o1 : o ≤ 15
structure L7 (nl : Nat) (a : Ha) : Prop where
 act : Sb a = true
 n1 : a.1 ≠ 1
 n6 : a.1 ≠ 6
 n7 : a.1 ≠ 7
 n : a.1 ≠ 9 → a.2.2.2.1 < (nl : Int)
def Yq (m : Ka) (f o : Int) (c : Bool) (h : List Ib) : Bb := (m, [], f, h, o, c, ())
theorem QV {m : Ka} (hv : Yb m = true) {f o : Int} (hs : DV m.2.1.length f o) (c : Bool) {h : List Ib} (hh : Bg h = true) (hi : ∀ x ∈ h, Qh m.1 m.2.1.length x = true) : Of (Yq m f o c h) = true := by
 have hk := Pt hv
 have e1 : Zd (fun _ x => Qh m.1 m.2.1.length x) 0 h = true := Rw.2 fun j hj => hi _ (qj hj)
 show (Yb m && (decide (([] : List (List Qb)).length ≤ 4) && (Bg h && (true && (Zd (fun _ x => Qh m.1 m.2.1.length x) 0 h &&
  (decide (0 ≤ f ∧ f < ((2 ^ m.2.1.length : Nat) : Int)) && ((Int.tmod f 2 == 0) && decide (0 ≤ o ∧ o ≤ 15)))))))) = true
 rw [hv, hh, e1, Ba (⟨hs.f0, hs.f1⟩ : 0 ≤ f ∧ f < ((2 ^ m.2.1.length : Nat) : Int)), Ba (⟨hs.o0, hs.o1⟩ : 0 ≤ o ∧ o ≤ 15), hs.f2]
 rfl
theorem NE (m : Ka) (f o : Int) (c : Bool) (h : List Ib) : Ja Jb (Yq m f o c h) = Ja Ua m + h.length := by
 rw [Cn, Mn]
 have : Ja (.sl (.sl Ac)) (Yq m f o c h).2.1 = 0 := rfl
 rw [this, js]; rfl
noncomputable def Jal (m : Ka) (f : Int) (k : Nat) : Ha := C0 (SN m.2.1 (NP m (En .i64 1 f) k) k)
noncomputable def stK (m : Ka) (f o : Int) (c : Bool) (k : Nat) : Int × Int × Bool × Ha := Iab f o c (Jal m f k)
noncomputable def hK (m : Ka) (f o : Int) (c : Bool) (k : Nat) : List Ib := [((k : Int), (stK m f o c k).2.2.2, ())]
structure D4 (m : Ka) : Prop where
 v : Yb m = true
 z : Ja Ua m ≤ Wa - 10
theorem z20 {m : Ka} (hM : D4 m) (f o : Int) (c : Bool) (h : List Ib) (hh : h.length ≤ 1) : Ja Jb (Yq m f o c h) ≤ Wa := by
 have h20 : Wa = 1048576 := rfl
 have := hM.z
 rw [NE]; omega
theorem Paf : Bg [] = true := rfl
theorem OZ {m : Ka} (hv : Yb m = true) : D4 m := by
 have hm := Pt hv
 refine ⟨hv, ?_⟩
 have h20 : Wa = 1048576 := rfl
 have h1 : Ja Ua m = 0 + (Ja (.sl (.sl Xa)) m.2.1 + 0) := rfl
 have h2 : Ja (.sl (.sl Xa)) m.2.1 ≤ (32 + 1) * ja m.2.1 := YN (e := .sl Xa) (c := 32) fun x hx => by
  obtain ⟨i, hi, rfl⟩ := qk hx
  rw [JQ]
  have := hm.row i hi
  have := hm.k2
  omega
 have := hm.l2
 omega
abbrev St := (Int × Int × Bool) × List Af
structure Qap (m : Ka) (k : Nat) (s : St) : Prop where
 st : DV m.2.1.length s.1.1 s.1.2.1
 len : s.2.length ≤ 2 * k
 rep : ∀ x ∈ s.2, x.2.1.length ≤ 56
def DW (p : Int → Bool) : Nat → List Int
 | 0 => []
 | n + 1 => cond (p ((n + 1 : Nat) : Int)) (DW p n ++ [((n + 1 : Nat) : Int)]) (DW p n)
def Saf (s : Int) (D : List Gc) : Int := Wg (fun _ s (p : Gc) => En .i64 s p.2.1) 0 s D
def CX (b : Af) (D : List Gc) : Af := (Saf b.1 D, DW (fun c => b.2.1.any (fun y => y == c) || D.any (fun p => p.1 == c)) 56, ())

noncomputable def rM (L : List Ib) (x : Qb) : Int := Fe (Lk x.2.1 x.2.2.1) 0 L
noncomputable def Taf (b : Af) (L : List Ib) (x : Qb) : List Af :=
 cond (x.1 == 0) [CX b ((jf L [BD x]).map Hf), CX b (L.map Hf)] [CX b ((NK x L (rM L x)).map Hf)]
noncomputable def mG (b : Af) (s : List Af × List Ib) (x : Qb) : List Af × List Ib := (jf s.1 (Taf b s.2 x), NK x s.2 (rM s.2 x))
noncomputable def Vaa (b : Af) (l : List Qb) : List Af := (Wg (fun _ s x => mG b s x) 0 ([], []) l).1
structure Oap (l : List Qb) (k : Nat) (s : List Af × List Ib) : Prop where
 ok : ∃ L', Nc (fun _ L x => Wu L x) k s.2 (l.drop k) = .inl L'
 len : s.2.length ≤ k
 out : s.1.length ≤ 2 * k
 cod : ∀ h ∈ s.2, 0 ≤ h.2.1.2.1 ∧ h.2.1.2.1 ≤ 56
theorem Ga {n m : Nat} (h : n ≤ 1000) (hm : m ≤ 10) : jw (n + m) Id = true := ji (by rw [CA]; omega)

def WS (f : Int) (l : List Ib) : Int := Wg (fun _ s (h : Ib) => cond (h.2.1.1 == 3) (En .i64 s (Mh .i64 1 h.2.1.2.2.2.1)) s) 0 (En .i64 1 f) l
theorem HJ {a : Nat} (ha : a < 2 ^ 63) (x : Ib) : Kq (a : Int) x = true ↔ Ow x ∧ a.testBit x.1.toNat = false := by
 constructor
 ·intro h
  obtain ⟨h1, h2⟩ := SZ h
  refine ⟨h1, ?_⟩
  have hx : x.1 = ((x.1.toNat : Nat) : Int) := (Int.toNat_of_nonneg h1.lo).symm
  have := JO (a := a) (k := x.1.toNat) ha (by have := h1.hi; omega)
  rw [← hx] at this
  rw [← this]
  simp [h2]
 ·rintro ⟨h1, h2⟩
  have hx : x.1 = ((x.1.toNat : Nat) : Int) := (Int.toNat_of_nonneg h1.lo).symm
  have := JO (a := a) (k := x.1.toNat) ha (by have := h1.hi; omega)
  rw [← hx, h2] at this
  simp only [Kq, jd, decide_eq_true_eq, Bool.not_eq_true', beq_eq_false_iff_ne]
  exact ⟨⟨h1.lo, h1.hi⟩, by rw [beq_eq_false_iff_ne] at this; exact this, h1.act, h1.n1, h1.n6, h1.n7⟩
theorem ZF : ∀ (l : List Ib) (k a : Nat), a < 2 ^ 63 → (Tw (Nc (fun _ s x => Yn s x) k (a : Int) l) = true ↔
 (∀ x ∈ l, Ow x ∧ a.testBit x.1.toNat = false) ∧ l.Pairwise (fun x y => x.1 ≠ y.1))
 | [], k, a, ha => by simp [Nc, Tw]
 | y :: l, k, a, ha => by
  simp only [Nc]
  cases hc : Kq (a : Int) y with
  | false =>
   rw [show Yn (a : Int) y = .inr () by unfold Yn; rw [hc]; rfl]
   simp only [Tw, jq, false_iff]
   rintro ⟨h, _⟩
   have := (HJ ha y).2 (h y (qq ..))
   rw [hc] at this; cases this
  | true =>
   rw [show Yn (a : Int) y = .inl (En .i64 (a : Int) (Mh .i64 1 y.1)) by unfold Yn; rw [hc]; rfl]
   simp only []
   obtain ⟨hy, hb⟩ := (HJ ha y).1 hc
   have h1 := hy.lo; have h2 := hy.hi
   have hyx : y.1 = ((y.1.toNat : Nat) : Int) := (Int.toNat_of_nonneg h1).symm
   have e : En .i64 (a : Int) (Mh .i64 1 y.1) = ((a ||| 2 ^ y.1.toNat : Nat) : Int) := by
    conv => lhs; rw [hyx]
    rw [ZK (by omega), J5 ha (TZ (by omega))]
   rw [e, ZF l (k + 1) _ (Nat.or_lt_two_pow ha (TZ (by omega)))]
   have tb : ∀ n, (a ||| 2 ^ y.1.toNat).testBit n = false ↔ a.testBit n = false ∧ y.1.toNat ≠ n := by
    intro n
    rw [Nat.testBit_or, Nat.testBit_two_pow, Bool.or_eq_false_iff, decide_eq_false_iff_not]
   simp only [jp, List.pairwise_cons, forall_eq_or_imp]
   constructor
   ·rintro ⟨h, hp⟩
    refine ⟨⟨⟨hy, hb⟩, fun x hx => ⟨(h x hx).1, ((tb _).1 (h x hx).2).1⟩⟩, fun x hx hxy => ?_, hp⟩
    exact ((tb _).1 (h x hx).2).2 (by rw [hxy])
   ·rintro ⟨⟨_, h⟩, hq, hp⟩
    refine ⟨fun x hx => ⟨(h x hx).1, (tb _).2 ⟨(h x hx).2, fun hn => hq x hx ?_⟩⟩, hp⟩
    have := (h x hx).1.lo
    omega
theorem Q1 (l : List Ib) : Bg l = true ↔ (∀ x ∈ l, Ow x) ∧ l.Pairwise (fun x y => x.1 ≠ y.1) := by
 have := ZF l 0 0 (by decide)
 unfold Bg UN
 erw [this]
 simp
theorem TP : ∀ (n : Nat) (l : List Nat), l.Nodup → (∀ x ∈ l, x < n) → l.length ≤ n
 | 0, l, _, h => by
  cases l with
  | nil => exact jo _
  | cons x l => exact absurd (h x (qq ..)) (Nat.not_lt_zero _)
 | n + 1, l, hn, h => by
  have := TP n (l.erase n) (hn.erase n) (fun x hx => by
   have h1 := (hn.mem_erase_iff).1 hx
   have := h x h1.2
   have := h1.1
   omega)
  have h2 := List.length_erase (a := n) (l := l)
  split at h2 <;> omega
theorem G5 {l : List Ib} (h : Bg l = true) : l.length ≤ 32 := by
 rw [Q1] at h
 have hn : (l.map fun x => x.1.toNat).Nodup := by
  rw [List.Nodup, List.pairwise_map]
  refine (List.Pairwise.and_mem.1 h.2).imp ?_
  rintro x y ⟨hx, hy, hxy⟩ he
  have h1 := (h.1 x hx).lo; have h2 := (h.1 y hy).lo
  omega
 have hs : ∀ y ∈ (l.map fun x => x.1.toNat), y < 32 := by
  intro y hy
  obtain ⟨x, hx, rfl⟩ := ql.1 hy
  have := (h.1 x hx).hi; have := (h.1 x hx).lo
  omega
 have := TP 32 _ hn hs
 simpa using this
structure VH (e : Bb) : Prop where
 km : Yb e.1 = true
 m4 : e.2.1.length ≤ 4
 hd : Bg e.2.2.2.1 = true
 mac : ∀ x ∈ e.2.1, Kf x = true
 hin : ∀ x ∈ e.2.2.2.1, Qh e.1.1 e.1.2.1.length x = true
 st : DV e.1.2.1.length e.2.2.1 e.2.2.2.2.1
theorem E1 {α : Type} {p : α → Bool} {l : List α} : Zd (fun _ x => p x) 0 l = true ↔ ∀ x ∈ l, p x = true := by
 rw [Rw]
 constructor
 ·intro h x hx
  obtain ⟨i, hi, rfl⟩ := qk hx
  exact h i hi
 ·intro h j hj
  exact h _ (qj hj)
theorem EK (e : Bb) : Of e = true ↔ VH e := by
 unfold Of
 simp only [jd, decide_eq_true_eq, beq_iff_eq, E1]
 constructor
 ·rintro ⟨h1, h2, h3, h4, h5, h6, h7, h8⟩
  exact ⟨h1, h2, h3, h4, h5, ⟨h6.1, h6.2, h7, h8.1, h8.2⟩⟩
 ·rintro ⟨h1, h2, h3, h4, h5, h6⟩
  exact ⟨h1, h2, h3, h4, h5, ⟨h6.f0, h6.f1⟩, h6.f2, h6.o0, h6.o1⟩
theorem Naf {e : Bb} (h : VH e) : Ja Jb e ≤ Wa - 5 := by
 have h20 : Wa = 1048576 := rfl
 have h1 := (OZ h.km).z
 have hh := G5 h.hd
 have h2 : Ja (.sl (.sl Ac)) e.2.1 ≤ (8 + 1) * e.2.1.length := YN (e := .sl Ac) (c := 8) fun x hx => by
  have := h.mac x hx
  simp only [Kf, jd, decide_eq_true_eq] at this
  have e2 : Ja (.sl Ac) x = x.length := Mt (e := Ac) rfl x
  omega
 have := h.m4
 have hm := Pt h.km
 have h3 : Ja Ua e.1 ≤ 200 := by
  have h1 : Ja Ua e.1 = 0 + (Ja (.sl (.sl Xa)) e.1.2.1 + 0) := rfl
  have h2 : Ja (.sl (.sl Xa)) e.1.2.1 ≤ (32 + 1) * ja e.1.2.1 := YN (e := .sl Xa) (c := 32) fun x hx => by
   obtain ⟨i, hi, rfl⟩ := qk hx
   rw [JQ]
   have := hm.row i hi
   have := hm.k2
   omega
  have := hm.l2
  omega
 rw [Cn, Mn]
 omega
noncomputable def Eab (e : Bb) (k : Nat) (b : Bool) : Ha :=
 cond b (H5 (SN e.1.2.1 (NP e.1 (WS e.2.2.1 e.2.2.2.1) k) k)) (C0 (SN e.1.2.1 (NP e.1 (WS e.2.2.1 e.2.2.2.1) k) k))
noncomputable def AM (e : Bb) (k : Nat) (b : Bool) : Int × Int × Bool × Ha := Iab e.2.2.1 e.2.2.2.2.1 e.2.2.2.2.2.1 (Eab e k b)
noncomputable def pH (e : Bb) (k : Nat) (b : Bool) : List Ib := jf e.2.2.2.1 [((k : Int), (AM e k b).2.2.2, ())]
noncomputable def pE (e : Bb) (k : Nat) (b : Bool) : Bb := (e.1, e.2.1, (AM e k b).1, pH e k b, (AM e k b).2.1, (AM e k b).2.2.1, ())
noncomputable def pM (e : Bb) (k : Nat) (b : Bool) : List Af :=
 cond ((AM e k b).2.2.2.1 == 9) (cond (decide ((AM e k b).2.2.2.2.2.2.1 < ((ja e.2.1 : Nat) : Int))) (Vaa (G7 (pH e k b)) (e.2.1.getD (AM e k b).2.2.2.2.2.2.1.toNat [])) []) []
structure Nao (e : Bb) (k : Nat) (b : Bool) : Prop where
 act : L7 e.1.2.1.length (Eab e k b)
 ah : L7 e.1.2.1.length (AM e k b).2.2.2
 hd : Bg (pH e k b) = true
 ok : VH (pE e k b)
 ml : (pM e k b).length ≤ 16
 mx : ∀ x ∈ pM e k b, x.2.1.length ≤ 56



def Oal (l : List Ib) (j : Nat) : Bool := l.any (fun h => h.1 == (j : Int))
structure B9 (l : List Ib) (m : Nat) : Prop where
 lt : m < 2 ^ 63
 bit : ∀ j, m.testBit j = Oal l j
structure Rap (d : Pd) : Prop where
 eng : VH d.1
 len : d.2.2.1.length ≤ 64
 key : ∀ x ∈ d.2.2.1, x.2.1 < d.1.1.1
 fol : ∃ (m : Nat) (t : Int), B9 d.1.2.2.2.1 m ∧ Tw (Nc (fun _ s x => Oz s x) 0 (t, (m : Int)) d.2.2.1) = true
def P9 (e : Bb) (k : Int) : Nat := (Fe (fun h : Ib => h.1 == k) 0 e.2.2.2.1).toNat
structure Eao (d : Pd) (x : Lb) (r : List Lb) : Prop where
 ev : Fl x = true
 key : x.2.1 < d.1.1.1
 up : x.2.2.1 = false → ∃ hi : P9 d.1 x.2.1 < d.1.2.2.2.1.length, Fe (fun h : Ib => h.1 == x.2.1) 0 d.1.2.2.2.1 = ((P9 d.1 x.2.1 : Nat) : Int) ∧ (d.1.2.2.2.1[P9 d.1 x.2.1]'hi).1 = x.2.1
 down : x.2.2.1 = true → ∀ y ∈ d.1.2.2.2.1, y.1 ≠ x.2.1


def Cao : Pd := ((((0 : Int), ([] : List (List Ha)), ()), ([] : List (List Qb)), (0 : Int), ([] : List Ib), (0 : Int), false, ()), ((0 : Int), (0 : Int), (0 : Int), ()), ([] : List Lb), (0 : Int), (0 : Int), (0 : Int), (0 : Int), ())
def rowN (C m r : Nat) : Nat := (m >>> (r * C)) &&& (2 ^ C - 1)
def TB (C a b m : Nat) : Nat := cond (rowN C m a &&& rowN C m b != 0) (m ||| rowN C m b <<< (a * C)) m
def g3 (C a : Nat) : Nat → Nat → Nat := fun b m => TB C a b m
def g2 (C R : Nat) : Nat → Nat → Nat := fun a m => LK (g3 C a) R m
def g1 (C R : Nat) : Nat → Nat → Nat := fun _ m => LK (g2 C R) R m
structure Dim (C R : Nat) : Prop where
 c1 : 1 ≤ C
 c2 : C ≤ 6
 r1 : 1 ≤ R
 r2 : R ≤ 4

structure Nap (d : Qx) : Prop where
 k1 : 1 ≤ d.2.2.1
 k2 : d.2.2.1 ≤ 24
 len : ((ja d.2.2.2.2.2.1 : Nat) : Int) = d.2.2.1
 sh : Ux d.2.2.1 d.2.2.2.1 = true
 la : Ux d.2.2.1 d.2.2.2.2.1 = true
structure Map (d : Qx) (k : Nat) (s : Int × List Int) : Prop where
 len : s.2.length = k
 sh : Ux d.2.2.1 s.1 = true

abbrev Lal (c : Ck) : List Lb := c.2.2.2.2.2.2.1
structure Lap (c : Ck) : Prop where
 len : c.2.2.1.length ≤ 64
 ev : ∀ x ∈ c.2.2.1, 0 ≤ x.2.1
 L : c.1.length ≤ 8
 cb : FR c.1 = true
 r : ∀ x ∈ Lal c, x.2.1 ≤ 9223372036854775807

def tri (i j : Nat) : Nat := if i ≤ j then j * (j + 1) / 2 + i else i * (i + 1) / 2 + j
def Px (e i j : Nat) : Bool := e.testBit (tri i j)
def Qaf (e s t : Nat) : Bool :=
 (s.testBit 0 && (t.testBit 0 && Px e 0 0 || t.testBit 1 && Px e 0 1 || (t.testBit 2 && Px e 0 2 || t.testBit 3 && Px e 0 3)) || s.testBit 1 && (t.testBit 0 && Px e 1 0 || t.testBit 1 && Px e 1 1 || (t.testBit 2 && Px e 1 2 || t.testBit 3 && Px e 1 3))) ||
 (s.testBit 2 && (t.testBit 0 && Px e 2 0 || t.testBit 1 && Px e 2 1 || (t.testBit 2 && Px e 2 2 || t.testBit 3 && Px e 2 3)) || s.testBit 3 && (t.testBit 0 && Px e 3 0 || t.testBit 1 && Px e 3 1 || (t.testBit 2 && Px e 3 2 || t.testBit 3 && Px e 3 3)))
def Gai (e a b s : Nat) : Nat := cond (Qaf e (rowN 4 s a) (rowN 4 s b)) (s ||| rowN 4 s b <<< (a * 4)) s
def a3 (e a : Nat) : Nat → Nat → Nat := fun b s => Gai e a b s
def a2 (e R : Nat) : Nat → Nat → Nat := fun a s => LK (a3 e a) R s
def a1 (e R : Nat) : Nat → Nat → Nat := fun _ s => LK (a2 e R) R s
structure Kap (b : ZH) (x : Int) : Prop where
 bd : U1 b = true
 msk : TE b.1 x = true
 old : TE b.1 b.2.2.2.2.1 = true
 dk : b.2.1.2.2.1 = Cz b.1
 db : GD b.2.1 = true
 cb : BG b.2.2.1 = true
 dc : Hh b.2.2.2.1 = true
 t : 0 ≤ b.2.2.2.2.2.1 ∧ b.2.2.2.2.2.1 ≤ 1000000
structure Pap (k : Nat) (s : ZH × List Zv) : Prop where
 sz : U4 s.1
 len : s.2.length ≤ 1088 * k
 rep : ∀ y ∈ s.2, y.2.1.2.1.length ≤ 56
def BF : Ha := ((0 : Int), (0 : Int), (0 : Int), (0 : Int), ())
def FW (k : Int) (l r : List UInt8) : Ha :=
 cond (l == [109, 111]) ((3 : Int), (0 : Int), (0 : Int), (Zu r).1, ()) (cond (l == [116, 103]) ((4 : Int), (0 : Int), (0 : Int), (Zu r).1, ()) (cond (l == [116, 111]) ((5 : Int), (0 : Int), (0 : Int), (Zu r).1, ())
  (cond (l == Nx) ((9 : Int), (0 : Int), (0 : Int), (Zu r).1, ()) (k, (0 : Int), Iw r, (0 : Int), ()))))
theorem BL (k : Int) (l : List UInt8) {r : List UInt8} (hr : r.length ≤ 100000000) : Lw k l r = some (FW k l r, ()) := by
 unfold Lw FW
 rw [Py hr, Jr]
 simp only [jb]
 cases l == [109, 111] with
 | true => rfl
 | false =>
  cases l == [116, 103] with
  | true => rfl
  | false =>
   cases l == [116, 111] with
   | true => rfl
   | false => cases l == Nx <;> rfl
noncomputable def WV (s : List UInt8) (g : Ha) : Ha × (Bool × Unit) := cond (s == ([] : List UInt8) || Nn g != s) (BF, false, ()) (g, true, ())
theorem Sw (s : List UInt8) (g : Ha) : (cond (s == ([] : List UInt8)) (some (((0 : Int), (0 : Int), (0 : Int), (0 : Int), ()), false, ())) (jy (Fd g) fun r =>
 (cond (r.1 != s) (some (((0 : Int), (0 : Int), (0 : Int), (0 : Int), ()), false, ())) (some (g, true, ())))) : Option (Ha × (Bool × Unit))) = some (WV s g) := by
 unfold WV
 cases s == ([] : List UInt8) with
 | true => rfl
 | false =>
  rw [RB]
  simp only [cond_false, jb, Bool.false_or]
  cases Nn g != s <;> rfl
def AE (l : List (List UInt8)) : Bool := ((ja l : Nat) : Int) == 2
def DY (s : List UInt8) : Ha :=
 cond (s == Tf) BF (cond (s == Sf) ((1 : Int), (0 : Int), (0 : Int), (0 : Int), ()) (cond (s == Ye) ((10 : Int), (0 : Int), (0 : Int), (0 : Int), ())
  (cond (AE (Wb 58 [] s)) (FW 8 ((Wb 58 [] s).getD 0 []) ((Wb 58 [] s).getD 1 []))
  (cond (AE (Wb 47 [] s)) (cond (Zu ((Wb 47 [] s).getD 0 [])).2.1 ((7 : Int), Ss ((Wb 47 [] s).getD 1 []), (0 : Int), (Zu ((Wb 47 [] s).getD 0 [])).1, ())
   ((6 : Int), Ss ((Wb 47 [] s).getD 1 []), Iw ((Wb 47 [] s).getD 0 []), (0 : Int), ()))
  (cond (AE (Wb 45 [] s)) ((2 : Int), Ss ((Wb 45 [] s).getD 1 []), Iw ((Wb 45 [] s).getD 0 []), (0 : Int), ()) ((2 : Int), Ss s, (0 : Int), (0 : Int), ()))))))
noncomputable def KB (s : List UInt8) : Ha × (Bool × Unit) := WV s (DY s)
theorem GL {l : List (List UInt8)} (h : AE l = true) : Je l.length 0 = true ∧ Je l.length 1 = true ∧ l[jx 0]? = some (l.getD 0 []) ∧ l[jx 1]? = some (l.getD 1 []) := by
 unfold AE at h
 have h2 : l.length = 2 := by simp at h; omega
 match l, h2 with
 | [x, y], _ => exact ⟨rfl, rfl, rfl, rfl⟩
theorem GC {s : List UInt8} (hs : s.length ≤ 100000000) : Xm s = some (KB s) := by
 unfold Xm KB DY
 rw [Uv, Vs 58 hs, Vs 47 hs, Vs 45 hs]
 simp only [jb]
 cases s == Tf with
 | true => exact Sw s _
 | false =>
 cases s == Sf with
 | true => exact Sw s _
 | false =>
 cases s == Ye with
 | true => exact Sw s _
 | false =>
 simp only [cond_false]
 rw [show (((ja (Wb 58 [] s) : Nat) : Int) == 2) = AE (Wb 58 [] s) from rfl, show (((ja (Wb 47 [] s) : Nat) : Int) == 2) = AE (Wb 47 [] s) from rfl, show (((ja (Wb 45 [] s) : Nat) : Int) == 2) = AE (Wb 45 [] s) from rfl]
 have hp : ∀ (b : Int) (n : Nat), ((Wb b [] s).getD n []).length ≤ 100000000 := fun b n => by
  rw [qg]
  cases h : (Wb b [] s)[n]? with
  | none => simp
  | some x =>
   have := Fv b s [] x (List.mem_of_getElem? h)
   simp only [Option.getD_some]
   simp at this; omega
 cases h1 : AE (Wb 58 [] s) with
 | true =>
  obtain ⟨a1, a2, a3, a4⟩ := GL h1
  rw [a1, a2, a3, a4]
  simp only [cond_true, jb]
  rw [BL _ _ (hp 58 1)]
  simp only [jb]
  exact Sw s _
 | false =>
 cases h2 : AE (Wb 47 [] s) with
 | true =>
  obtain ⟨a1, a2, a3, a4⟩ := GL h2
  rw [a1, a2, a3, a4]
  simp only [cond_true, cond_false, jb]
  rw [Py (hp 47 0), Uv, Jr]
  simp only [jb]
  cases (Zu ((Wb 47 [] s).getD 0 [])).2.1
  ·exact Sw s _
  ·exact Sw s _
 | false =>
 cases h3 : AE (Wb 45 [] s) with
 | true =>
  obtain ⟨a1, a2, a3, a4⟩ := GL h3
  rw [a1, a2, a3, a4]
  simp only [cond_true, cond_false, jb]
  rw [Uv, Jr]
  simp only [jb]
  exact Sw s _
 | false => exact Sw s _
noncomputable def OD (s : Ka × List Ha) (w : List UInt8) : (Ka × List Ha) ⊕ Unit :=
 cond (w == [124]) (.inl ((((ja s.2 : Nat) : Int), jf s.1.2.1 [s.2], ()), [])) (cond (KB w).2.1 (.inl (s.1, jf s.2 [(KB w).1])) (.inr ()))
def Gg : Ka := ((0 : Int), ([] : List (List Ha)), ())
noncomputable def XN (s : List UInt8) : Ka × (Bool × Unit) :=
 match Nc (fun _ s w => OD s w) 0 (Gg, []) (jf (Wb 32 [] s) [[124]]) with
 | .inl r => cond (Yb r.1) (r.1, true, ()) (Gg, false, ())
 | .inr _ => (Gg, false, ())
structure DX (k : Nat) (s : Ka × List Ha) : Prop where
 z : Ja Ua s.1 + s.2.length ≤ k
theorem ZW (m : Ka) : Ja Ua m = Ja (.sl (.sl Xa)) m.2.1 := by
 show 0 + (Ja (.sl (.sl Xa)) m.2.1 + 0) = _
 omega
theorem AX (l : List (List Ha)) (r : List Ha) : Ja (.sl (.sl Xa)) (l ++ [r]) = Ja (.sl (.sl Xa)) l + 1 + r.length := by
 have hr : Ja (.sl Xa) r = r.length := Mt (e := Xa) rfl r
 show (l ++ [r]).length + (List.map (Ja (.sl Xa)) (l ++ [r])).sum = (l.length + (List.map (Ja (.sl Xa)) l).sum) + 1 + r.length
 rw [List.map_append, List.sum_append, qc]
 simp only [List.map_cons, List.map_nil, List.sum_cons, List.sum_nil, jv, j6]
 omega
theorem IT {k : Nat} {s s' : Ka × List Ha} {w : List UInt8} (h : DX k s) (hs : OD s w = .inl s') : DX (k + 1) s' := by
 have hz := h.z
 unfold OD at hs
 revert hs
 cases w == [124] with
 | true =>
  intro hs
  simp only [cond_true, Sum.inl.injEq] at hs
  subst hs
  refine ⟨?_⟩
  have := AX s.1.2.1 s.2
  rw [ZW] at hz ⊢
  show Ja (.sl (.sl Xa)) (s.1.2.1 ++ [s.2]) + 0 ≤ _
  omega
 | false =>
  cases (KB w).2.1 with
  | false => intro hs; simp at hs
  | true =>
   intro hs
   simp only [cond_true, cond_false, Sum.inl.injEq] at hs
   subst hs
   refine ⟨?_⟩
   show Ja Ua s.1 + (s.2 ++ [_]).length ≤ _
   rw [qc]; simp; omega
theorem HC {s : List UInt8} (hs : s.length ≤ 1000000) : Ym s = some (XN s) := by
 have h20 : Wa = 1048576 := rfl
 have hl := Lz 32 s []
 have hp := Fv 32 s []
 unfold Ym XN
 rw [Vs 32 (by omega)]
 simp only [jb]
 rw [Oc (by simp; omega)]
 simp only [cond_true]
 have hw : ∀ x ∈ jf (Wb 32 [] s) [[124]], x.length ≤ 100000000 := by
  intro x hx
  rcases jl.1 hx with h | h
  ·have := hp x h; simp at this; omega
  ·simp at h; subst h; simp
 have hn : (jf (Wb 32 [] s) [[124]]).length ≤ 1000002 := by
  rw [List.append_eq, qc]; simp; omega
 generalize jf (Wb 32 [] s) [[124]] = W at hw hn
 have hi : ∀ s' : Ka × List Ha, Nc (fun _ s w => OD s w) 0 (Gg, []) W = .inl s' → Ja Ua s'.1 ≤ Wa := by
  have key : ∀ (l : List (List UInt8)) (k : Nat) (s0 s' : Ka × List Ha), DX k s0 → Nc (fun _ s w => OD s w) k s0 l = .inl s' → DX (k + l.length) s' := by
   intro l
   induction l with
   | nil => intro k s0 s' h hf; simp only [Nc, Sum.inl.injEq] at hf; subst hf; exact h
   | cons w l ih =>
    intro k s0 s' h hf
    simp only [Nc] at hf
    revert hf
    cases hg : OD s0 w with
    | inr u => intro hf; simp at hf
    | inl s1 =>
     intro hf
     have := ih (k + 1) s1 s' (IT h hg) hf
     rw [jv, show k + (l.length + 1) = k + 1 + l.length by omega]
     exact this
  intro s' hf
  have := (key W 0 (Gg, []) s' ⟨by decide⟩ hf).z
  omega
 have h := Rf (step := fun x : (Unit × Unit × List Ha × List (List UInt8) × Int × Unit) × Ka × Ka × Unit => Si x.1.1 x.1.2.1 x.1.2.2.1 x.1.2.2.2.1 x.1.2.2.2.2.1 x.2.1 x.2.2.1) W (fun _ s w => OD s w)
  (fun s i => (((), (), s.2, W, i, ()), (Gg, s.1, ()))) (fun s => .inl (((), (), ()), (Gg, s.1, ()))) (fun _ => .inr (((), false, ()), (Gg, ()))) (fun k s => DX k s) (by
   intro k hk s hs
   have hz := hs.z
   refine ⟨?_, fun s' h' => IT hs h'⟩
   have hx := hw W[k] (qj hk)
   simp only [Si]
   rw [Ba (by omega), Wi, Ba hk]
   simp only [cond_true, jn]
   rw [je hk]
   simp only [jb]
   unfold OD
   cases W[k] == ([124] : List UInt8) with
   | true =>
    simp only [cond_true]
    have : s.1.2.1.length ≤ Ja Ua s.1 := by rw [ZW]; exact Nat.le_add_right _ _
    rw [Oc (by simp; omega)]
    rfl
   | false =>
    simp only [cond_false]
    rw [GC hx]
    simp only [jb]
    cases (KB W[k]).2.1 with
    | false => rfl
    | true =>
     simp only [jg, cond_false, cond_true]
     rw [Oc (by simp; omega)]
     rfl) (by
   intro s hs
   simp only [Si]
   rw [Aa (by omega)]; rfl) (by omega) (Gg, []) ⟨by decide⟩
 unfold Tj
 erw [h]
 revert hi
 cases Nc (fun _ s w => OD s w) 0 (Gg, []) W with
 | inr u => intro hi; rfl
 | inl r =>
  intro hi
  simp only [jb, qh]
  have := Oy r.1 (hi r rfl)
  erw [this]
  simp only [jb]
  cases Yb r.1 <;> rfl
def HH (s p : List UInt8) : Bool := decide (p.length ≤ s.length) && (s.take p.length == p)
theorem VC (s p : List UInt8) : Ei s p = some (cond (HH s p) (s.drop p.length) s, HH s p, ()) := by
 unfold Ei Em Fm HH
 by_cases h : p.length ≤ s.length
 ·have e0 : Ob s (jx 0) (jx ((ja p : Nat) : Int)) = s.take p.length := by simp [Ob]
  have e1 : Ob s (jx ((ja p : Nat) : Int)) (jx ((ja s : Nat) : Int)) = s.drop p.length := by
   rw [jn, jn]
   unfold Ob
   rw [List.take_length]
  rw [Ba (show ((ja s : Nat) : Int) ≥ ((ja p : Nat) : Int) by omega), show Ae (ja s) 0 ((ja p : Nat) : Int) = true from Ap (lo := 0) (by omega) h, e0, e1, Ba h]
  simp only [cond_true, jb, jk]
  cases s.take p.length == p with
  | false => rfl
  | true =>
   simp only [jg, cond_false]
   rw [Ap h (jo _)]
   rfl
 ·rw [Aa (show ¬ ((ja s : Nat) : Int) ≥ ((ja p : Nat) : Int) by omega), Aa h]
  rfl
def VJ (k : Int) : List UInt8 := cond (k == 3) [109, 111, 58] (cond (k == 4) [116, 103, 58] (cond (k == 5) [116, 111, 58] (cond (k == 9) Ze [])))
theorem H0 (k : Int) : Gh k = some (VJ k, ()) := by
 unfold Gh VJ
 cases k == 3 with
 | true => rfl
 | false =>
  cases k == 4 with
  | true => rfl
  | false =>
   cases k == 5 with
   | true => rfl
   | false => cases k == 9 <;> rfl
noncomputable def TI (s : List UInt8) (k : Int) : Unit ⊕ Ha := cond (HH s (VJ k)) (.inr (k, (0 : Int), (0 : Int), (Mq (s.drop (VJ k).length)).1, ())) (.inl ())
noncomputable def Dy (s : List UInt8) : Ha :=
 cond (s == Tf) BF (cond (s == Sf) ((1 : Int), (0 : Int), (0 : Int), (0 : Int), ()) (cond (s == Ye) ((10 : Int), (0 : Int), (0 : Int), (0 : Int), ())
  (match Nc (fun _ (_ : Unit) k => TI s k) 0 () [(3 : Int), 4, 5, 9] with
  | .inr a => a
  | .inl _ => cond (HH s Ud) ((8 : Int), (0 : Int), Iw (s.drop Ud.length), (0 : Int), ())
   (cond (Lib.cut s [47]).2.2 (cond (Mq (Lib.cut s [47]).1).2.1 ((7 : Int), Ss (Lib.cut s [47]).2.1, (0 : Int), (Mq (Lib.cut s [47]).1).1, ()) ((6 : Int), Ss (Lib.cut s [47]).2.1, Iw (Lib.cut s [47]).1, (0 : Int), ()))
   (cond (Lib.cut s [45]).2.2 ((2 : Int), Ss (Lib.cut s [45]).2.1, Iw (Lib.cut s [45]).1, (0 : Int), ()) ((2 : Int), Ss s, (0 : Int), (0 : Int), ()))))))
theorem PX {s : List UInt8} (p : List UInt8) (hs : s.length ≤ 100000000) : strings_Cut s p = some ((Lib.cut s p).1, (Lib.cut s p).2.1, (Lib.cut s p).2.2, ()) := by
 unfold strings_Cut OV
 rw [show jw (ja s) 4294967280 = true from ji (by omega)]
 rfl
theorem NM {s : List UInt8} (hs : s.length ≤ 100000000) : Pm s = some (Dy s, ()) := by
 unfold Pm Dy
 cases s == Tf with
 | true => rfl
 | false =>
 cases s == Sf with
 | true => rfl
 | false =>
 cases s == Ye with
 | true => rfl
 | false =>
 simp only [cond_false]
 have hl := Rf (step := fun x : (List UInt8 × Unit × List Int × Int × Int × Unit) × Ha × Unit => Ki x.1.1 x.1.2.1 x.1.2.2.1 x.1.2.2.2.1 x.1.2.2.2.2.1 x.2.1) [(3 : Int), 4, 5, 9] (fun _ (_ : Unit) k => TI s k)
  (fun _ i => ((s, (), [(3 : Int), 4, 5, 9], ((ja ([(3 : Int), 4, 5, 9] : List Int) : Nat) : Int), i, ()), (BF, ()))) (fun _ => .inl ((s, (), ()), (BF, ()))) (fun a => .inr (((), ()), (a, ()))) (fun _ _ => True) (by
   intro k hk u _
   refine ⟨?_, fun _ _ => trivial⟩
   simp only [Ki]
   rw [Ba (by omega), Wi, Ba hk]
   simp only [cond_true, jn]
   rw [je hk]
   simp only [jb]
   generalize ([(3 : Int), 4, 5, 9] : List Int)[k] = x
   rw [H0]
   simp only [jb]
   rw [VC]
   simp only [jb]
   unfold TI
   cases HH s (VJ x) <;> rfl) (by
   intro u _
   simp only [Ki]
   rw [Aa (by omega)]; rfl) (by simp) () trivial
 unfold Sj
 erw [hl]
 cases Nc (fun _ (_ : Unit) k => TI s k) 0 () [(3 : Int), 4, 5, 9] with
 | inr a => rfl
 | inl u =>
  simp only [jb, qh]
  rw [VC]
  simp only [jb]
  cases HH s Ud with
  | true =>
   simp only [cond_true]
   rw [Br]; rfl
  | false =>
   simp only [cond_false]
   rw [PX _ hs]
   simp only [jb]
   cases (Lib.cut s [47]).2.2 with
   | true =>
    simp only [cond_true]
    rw [show Hs (Lib.cut s [47]).1 = some (Mq (Lib.cut s [47]).1) from rfl]
    simp only [jb]
    cases (Mq (Lib.cut s [47]).1).2.1 with
    | true => simp only [cond_true]; rw [Dq]; rfl
    | false => simp only [cond_false]; rw [Br, Dq]; rfl
   | false =>
    simp only [cond_false]
    rw [PX _ hs]
    simp only [jb]
    cases (Lib.cut s [45]).2.2 with
    | true => simp only [cond_true]; rw [Br, Dq]; rfl
    | false => simp only [cond_false]; rw [Dq]; rfl
noncomputable def JB (s : List UInt8) : Ha × (Bool × Unit) := cond (!Sb (Dy s) || Nn (Dy s) != s) (BF, false, ()) (Dy s, true, ())
theorem CC {s : List UInt8} (hs : s.length ≤ 100000000) : Nm s = some (JB s) := by
 unfold Nm JB
 rw [NM hs]
 simp only [jb]
 rw [Dj]
 simp only [jb]
 cases Sb (Dy s) with
 | false => rfl
 | true =>
  simp only [jg, cond_false, Bool.false_or]
  rw [Hu]
  simp only [jb]
  cases Nn (Dy s) != s <;> rfl
noncomputable def RD (l : List Ha) : List UInt8 := Lib.join (l.map Nn) [32]
noncomputable def AH (m : Ka) : List UInt8 := cond (Yb m) (Lib.join (m.2.1.map RD) [32, 124, 32]) []
theorem DQ (l : List Ha) : (RD l).length ≤ 51 * l.length := by
 have := IP (l.map Nn) [32] 50 (fun x hx => by
  obtain ⟨a, _, rfl⟩ := ql.1 hx
  exact D1 a)
 rw [List.length_map] at this
 exact this
theorem ZA {m : Ka} (hz : Ja Ua m ≤ Wa) : Ll m = some (AH m, ()) := by
 unfold Ll AH
 rw [Ct m hz]
 cases hv : Yb m with
 | false => rfl
 | true =>
  have hm := Pt hv
  have hk2 := hm.k2
  have hl2 := hm.l2
  simp only [jb, jg, cond_false, cond_true]
  have hrow : ∀ k (hk : k < m.2.1.length), m.2.1[k].length ≤ 32 := fun k hk => by have := hm.row k hk; omega
  have hl := Vu (step := fun x : (List (List UInt8) × List (List Ha) × Int × Int × Unit) × Unit => Rh x.1.1 x.1.2.1 x.1.2.2.1 x.1.2.2.2.1) m.2.1 (fun _ (o : List (List UInt8)) l => o ++ [RD l])
   (fun o i => ((o, m.2.1, ((ja m.2.1 : Nat) : Int), i, ()), ())) (fun o => .inl ((o, ()), ())) (fun k o => o.length = k) (by
    intro k hk o ho
    refine ⟨?_, by simp [ho]⟩
    have hr := hrow k hk
    simp only [Rh]
    rw [Ba (by omega), Ic hk]
    simp only [cond_true, jb]
    generalize m.2.1[k] = r at hr
    have hin := (Vu (step := fun x : (List (List UInt8) × List (List UInt8) × List (List Ha) × Int × Int × List Ha × Int × Int × Unit) × Unit => Sh x.1.1 x.1.2.1 x.1.2.2.1 x.1.2.2.2.1 x.1.2.2.2.2.1 x.1.2.2.2.2.2.1 x.1.2.2.2.2.2.2.1 x.1.2.2.2.2.2.2.2.1) r (fun _ (p : List (List UInt8)) a => p ++ [Nn a])
     (fun p i => ((o, p, m.2.1, ((ja m.2.1 : Nat) : Int), (k : Int), r, ((ja r : Nat) : Int), i, ()), ())) (fun p => .inl ((o, p, m.2.1, ((ja m.2.1 : Nat) : Int), (k : Int), ()), ())) (fun j p => p.length = j) (by
      intro j hj p hp
      refine ⟨?_, by simp [hp]⟩
      simp only [Sh]
      rw [Ba (by omega), Ic hj]
      simp only [cond_true, jb]
      rw [Hu]
      simp only [jb]
      rw [Oc (by simp; omega)]
      rfl) (by
      intro p hp
      simp only [Sh]
      rw [Aa (by omega)]; rfl) (by omega) [] rfl).1
    have hf : ∀ (ys : List Ha) (j : Nat) (p : List (List UInt8)), Wg (fun _ (p : List (List UInt8)) a => p ++ [Nn a]) j p ys = p ++ ys.map Nn := by
     intro ys
     induction ys with
     | nil => intro j p; simp [Wg]
     | cons y ys ih => intro j p; rw [Wg, ih]; simp
    rw [hf] at hin
    have hjl := DQ r
    unfold RD at hjl
    unfold Cj
    erw [hin]
    simp only [jb, qh, List.nil_append]
    rw [Gy (by simp; omega) (by omega)]
    simp only [jb]
    rw [Oc (by simp; omega)]
    rfl) (by
    intro o ho
    simp only [Rh]
    rw [Aa (by omega)]; rfl) (by omega) [] rfl
  have hf : ∀ (ys : List (List Ha)) (j : Nat) (p : List (List UInt8)), Wg (fun _ (p : List (List UInt8)) a => p ++ [RD a]) j p ys = p ++ ys.map RD := by
   intro ys
   induction ys with
   | nil => intro j p; simp [Wg]
   | cons y ys ih => intro j p; rw [Wg, ih]; simp
  rw [hf] at hl
  unfold Bj
  erw [hl.1]
  simp only [jb, qh, List.nil_append]
  have hjl := IP (m.2.1.map RD) [32, 124, 32] 1632 (fun x hx => by
   obtain ⟨l, hl', rfl⟩ := ql.1 hx
   obtain ⟨i, hi, rfl⟩ := qk hl'
   have := DQ m.2.1[i]
   have := hrow i hi
   omega)
  rw [List.length_map] at hjl
  rw [Gy (by simp; omega) (by
   have : (1632 + ([32, 124, 32] : List UInt8).length) * m.2.1.length ≤ 1635 * 4 := Nat.mul_le_mul (by simp) hl2
   omega)]
  rfl
structure Tap (k : Nat) (s : Af × List UInt8) : Prop where
 r : s.1.2.1.length ≤ Wa
 t : s.2.length ≤ 56 * k

structure Cur (c : C9) : Prop where
 lo : 0 ≤ c.2.1
 hi : c.2.1 ≤ (c.1.length : Int)
 len : c.1.length ≤ Wa



def I0 (p : List Int) : Bool := Zd (fun _ w => decide (0 ≤ w ∧ w ≤ 65535)) 0 p
def T4 (p : List Int) (e : Int) : Bool := ((p.length : Int) == 19) && decide (0 ≤ e ∧ e ≤ 1000) && I0 p
def EP (f : Vd) : Bool := match f.1, f.2.1 with
 | [p, q], [d, e] => T4 p d && T4 q e
 | _, _ => false
def R4 (h : Int) : Bool := decide (1 ≤ h ∧ h ≤ 60000)
def Y4 (h0 h1 : Int) : Int := cond (R4 h1) (cond (R4 h0) (cond (decide (h1 > h0)) 1 0) 1) (cond (R4 h0) 0 (-1))
def Sl (f : Vd) : Int := cond (EP f) (match f.1 with
 | [h0 :: _, h1 :: _] => Y4 h0 h1
 | _ => -1) (-1)
def BB (s v : Int) : Bool := decide (0 ≤ s ∧ s ≤ 3 ∧ 0 ≤ v ∧ v ≤ 9999)
def NX (s v h : Int) : Int := cond (BB s v && R4 h) ((7 * s + 13 * v + 31 * h + 5).tmod 60000) 65535
def wd (w : List Int) (n : Nat) : Int := w.getD n 0
def Waa (s : Int) (w : List Int) (i : Nat) : Bool :=
 BB (wd w (1 + 3 * i)) (wd w (2 + 3 * i)) && (wd w (1 + 3 * i) == s) && (wd w (3 + 3 * i) == NX (wd w (1 + 3 * i)) (wd w (2 + 3 * i)) (wd w 0))
def AQ (s : Int) (w : List Int) : Nat → Option Int
 | 0 => none
 | n + 1 => cond (Waa s w n) (some (wd w (2 + 3 * n))) (AQ s w n)
def NB (f : Vd) (s : Int) : Option Int := cond (decide (Sl f < 0)) none (AQ s ((f.1.getD (Sl f).toNat [])) 6)
def Cab (o : Option Int) : Int × Bool := match o with
 | some v => (v, true)
 | none => (0, false)
structure V4 (f : Vd) : Prop where
 l1 : f.1.length = 2
 l2 : f.2.1.length = 2
 pg : ∀ i (h1 : i < f.1.length) (h2 : i < f.2.1.length), f.1[i].length = 19 ∧ 0 ≤ f.2.1[i] ∧ f.2.1[i] ≤ 1000 ∧ I0 f.1[i] = true
def zF : Vd := ([], [], ())
def GH (o : Yg) : Nat := o.2.1.toNat
def doB (f : Vd) (o : Yg) : Bool :=
 EP f && (decide (0 ≤ o.2.1 ∧ o.2.1 ≤ 1) && cond o.1 (decide (o.2.2.1 = 0 ∧ o.2.2.2.1 = 0 ∧ f.2.1.getD (GH o) 0 < 1000))
  (decide (0 ≤ o.2.2.1 ∧ o.2.2.1 ≤ 18 ∧ 0 ≤ o.2.2.2.1 ∧ o.2.2.2.1 ≤ 65534 ∧ (f.1.getD (GH o) []).getD o.2.2.1.toNat 0 = 65535)))
def doF (f : Vd) (o : Yg) : Vd :=
 cond o.1 (f.1.set (GH o) (List.replicate 19 65535), f.2.1.set (GH o) (f.2.1.getD (GH o) 0 + 1), ())
  (f.1.set (GH o) ((f.1.getD (GH o) []).set o.2.2.1.toNat o.2.2.2.1), f.2.1, ())

def YP (f : Vd) (ops : List Yg) : Vd ⊕ Unit := Nc (fun _ s o => cond (doB s o) (.inl (doF s o)) (.inr ())) 0 f ops
def Ral (r : Vd ⊕ Unit) : Vd × Bool × Unit := r.elim (fun g => (g, true, ())) (fun _ => (zF, false, ()))
def Fab (page : Int) (at' : Nat) (s v h : Int) : List Yg :=
 [(false, page, ((1 + 3 * at' : Nat) : Int), s, ()), (false, page, ((2 + 3 * at' : Nat) : Int), v, ()), (false, page, ((3 + 3 * at' : Nat) : Int), NX s v h, ())]
def E5 (w : List Int) (n : Nat) : Bool := (wd w (3 * n + 1) == 65535) && ((wd w (3 * n + 2) == 65535) && (wd w (3 * n + 3) == 65535))
def RG (w : List Int) : Nat → Nat
 | 0 => 0
 | n + 1 => cond (E5 w n) (RG w n) (n + 1)
def Xan (f : Vd) (s v : Int) (k : Nat) : Option Int := cond ((k : Int) == s) (some v) (NB f (k : Int))
def Ual (f : Vd) (s v page h : Int) (k : Nat) (st : List Yg × Nat) : List Yg × Nat := match Xan f s v k with
 | some x => (jf st.1 (Fab page st.2 (k : Int) x h), st.2 + 1)
 | none => st
def M9 (page : Int) : Yg := (true, page, 0, 0, ())
def X6 (f : Vd) (s v page h : Int) : List Yg × Nat := LK (Ual f s v page h) 4 ([M9 page], 0)
def Oaf (page h : Int) : Yg := (false, page, 0, h, ())
def HT (f : Vd) : List Int := f.1.getD (Sl f).toNat []
def HQ (f : Vd) (s v : Int) : List Yg × Bool :=
 cond (decide (Sl f < 0)) ([], false) (cond (!BB s v) ([], false)
  (cond (decide (RG (HT f) 6 < 6)) (Fab (Sl f) (RG (HT f) 6) s v (wd (HT f) 0), true)
   (cond (decide (wd (HT f) 0 ≥ 60000)) ([], false) (cond (decide (f.2.1.getD (1 - Sl f).toNat 0 ≥ 1000)) ([], false)
    (jf (X6 f s v (1 - Sl f) (wd (HT f) 0 + 1)).1 [Oaf (1 - Sl f) (wd (HT f) 0 + 1)], true)))))
def Tal (f : Vd) (P : Int) : List Int := f.1.getD P.toNat []
def Wan (t : Qb) : Bool := decide (1 ≤ t.1 ∧ t.1 ≤ 1000 ∧ 0 ≤ t.2.1 ∧ t.2.1 ≤ 1000 ∧ 0 ≤ t.2.2.1 ∧ t.2.2.1 ≤ 2)
abbrev E4 : Type := List Yg × Vd
def Hai (k : Nat) (st : E4) (x : Int) : E4 ⊕ Unit :=
 cond ((Cab (NB st.2 (k : Int))).2 && ((Cab (NB st.2 (k : Int))).1 == x)) (.inl st)
  (cond (HQ st.2 (k : Int) x).2 (.inl (jf st.1 (HQ st.2 (k : Int) x).1, (Ral (YP st.2 (HQ st.2 (k : Int) x).1)).1)) (.inr ()))
def Kab (t : Qb) : List Int := [t.1, t.2.1, t.2.2.1]
def VW (f : Vd) (t : Qb) : List Yg × Bool := cond (!Wan t) ([], false) (cond (decide (Sl f < 0)) ([], false) ((Nc Hai 0 (([], f) : E4) (Kab t)).elim (fun st => (st.1, true)) (fun _ => ([], false))))
def Nal (f : Vd) (P : Int) : Int := f.2.1.getD P.toNat 0
def Pal (f : Vd) (P : Int) : Int := wd (Tal f P) 0
def isP (P : Int) : Prop := P = 0 ∨ P = 1
structure WH (f : Vd) (c : Int) : Prop where
 ok : V4 f
 pg : isP (Sl f)
 hd : Pal f (Sl f) ≤ c + 1
 er : ∀ P, isP P → Nal f P ≤ c
structure Sap (f g : Vd) (s v c : Int) (whole : Bool) : Prop where
 good : WH g (c + 1)
 rd : ∀ σ : Int, 0 ≤ σ ∧ σ ≤ 3 → NB g σ = cond (whole && (σ == s)) (some v) (NB f σ)
def CV (f : Vd) (t : Qb) (j : Nat) (g : Vd) : Prop := ∀ σ : Nat, σ ≤ 3 → NB g (σ : Int) = if σ < j then some ((Kab t).getD σ 0) else NB f (σ : Int)
structure Iap (f : Vd) (t : Qb) (c : Int) (k : Nat) (st : E4) : Prop where
 run : YP f st.1 = .inl st.2
 good : WH st.2 (c + k)
 prog : CV f t k st.2
 cut : ∀ n, ∃ (x : Vd) (j : Nat), YP f (st.1.take n) = .inl x ∧ WH x (c + k) ∧ j ≤ k ∧ CV f t j x
structure Jap (f : Vd) (t : Qb) (c : Int) (g : Vd) : Prop where
 ok : (VW f t).2 = true
 run : YP f (VW f t).1 = .inl g
 good : WH g (c + 3)
 prog : CV f t 3 g
 cut : ∀ n, ∃ (x : Vd) (j : Nat), YP f ((VW f t).1.take n) = .inl x ∧ WH x (c + 3) ∧ j ≤ 3 ∧ CV f t j x



theorem Uan (n : Nat) : DV n 0 0 := ⟨by omega, by have := Nat.two_pow_pos n; omega, by decide, by omega, by omega⟩
theorem HR {m : Ka} (hm : Yb m = true) : VH (Yq m 0 0 false []) :=
 (EK _).1 (QV hm (Uan _) false Paf (by simp))
theorem HM {m : Ka} (hm : Yb m = true) : Ui m [] = some (Yq m 0 0 false [], true, ()) := by
 have h20 : Wa = 1048576 := rfl
 have hz := (OZ hm).z
 have he := HR hm
 have hz2 := Naf he
 unfold Ui
 rw [Gp _ (by omega), Hp [] (by show (0 : Nat) ≤ _; omega)]
 simp only [jb]
 have : Xh (m, ([] : List (List Qb)), (0 : Int), ([] : List Ib), (0 : Int), false, ()) = some (true, ()) := by
  rw [← (EK _).2 he]
  exact Bt (Yq m 0 0 false []) (by omega)
 rw [this]
 rfl
def Ay (e : Bb) (t : Qb) : Pd := (e, t, ([] : List Lb), (0 : Int), (0 : Int), (0 : Int), (0 : Int), ())
theorem UX {m : Ka} : Of (Yq m 0 0 false []) = Yb m := by
 cases hm : Yb m with
 | true => exact (EK _).2 (HR hm)
 | false => unfold Of; simp [Yq, hm]
def Dao : Bb := (((0 : Int), ([] : List (List Ha)), ()), ([] : List (List Qb)), (0 : Int), ([] : List Ib), (0 : Int), false, ())
noncomputable def Yr (m : Ka) : Bb × (Bool × Unit) := cond (Yb m) (Yq m 0 0 false [], true, ()) (Dao, false, ())
theorem DD (m : Ka) (hz : Ja Ua m ≤ Wa) : Ui m [] = some (Yr m) := by
 have h20 : Wa = 1048576 := rfl
 unfold Yr
 cases hm : Yb m with
 | true => exact HM hm
 | false =>
  unfold Ui
  rw [Gp _ hz, Hp [] (by show (0 : Nat) ≤ _; omega)]
  simp only [jb]
  have : Xh (m, ([] : List (List Qb)), (0 : Int), ([] : List Ib), (0 : Int), false, ()) = some (false, ()) := by
   have h := Bt (Yq m 0 0 false []) (by rw [NE]; simpa using hz)
   rw [UX, hm] at h
   exact h
  rw [this]
  rfl
theorem UD (m : Ka) (hz : Ja Ua m ≤ Wa) : Rq m [] = some (Yr m) := by
 have h20 : Wa = 1048576 := rfl
 have hs : Ja Jb (Yq m 0 0 false []) ≤ Wa := by rw [NE]; simpa using hz
 unfold Yr Rq
 have h1 : Yj (m, ([] : List (List Qb)), (0 : Int), ([] : List Ib), (0 : Int), false, ()) = some (Yb m, ()) := by
  have h := Ny (Yq m 0 0 false []) hs
  rw [UX] at h
  exact h
 rw [h1]
 cases hm : Yb m with
 | true =>
  simp only [jb, jg, cond_false, cond_true]
  have := JA (Yq m 0 0 false []) hs
  unfold Yq at this
  rw [this]
  rfl
 | false => rfl
noncomputable def Uw (e : Bb) (t : Qb) : Pd × (Bool × Unit) := cond (Hh (Ay e t)) (Ay e t, true, ()) (Cao, false, ())
theorem DK (e : Bb) (t : Qb) : Ja Dd (Ay e t) = Ja Jb e := by
 rw [NO]
 show Ja Jb e + Ja (.sl Qe) [] = _
 rw [UH]; rfl
theorem BC (e : Bb) (t : Qb) (hz : Ja Jb e ≤ Wa) : Bo e t = some (Uw e t) := by
 unfold Bo Uw
 rw [FD _ hz]
 simp only [jb]
 have := EF (Ay e t) (by rw [DK]; exact hz)
 unfold Ay at this
 rw [this]
 unfold Ay
 cases Hh (e, t, ([] : List Lb), (0 : Int), (0 : Int), (0 : Int), (0 : Int), ()) <;> rfl
theorem FC (e : Bb) (t : Qb) (hz : Ja Jb e ≤ Wa) : Po e t = some (Uw e t) := by
 unfold Po Uw
 have := LF (Ay e t) (by rw [DK]; exact hz)
 unfold Ay at this
 rw [this]
 simp only [jb]
 unfold Ay
 cases Hh (e, t, ([] : List Lb), (0 : Int), (0 : Int), (0 : Int), (0 : Int), ()) with
 | false => rfl
 | true =>
  simp only [jg, cond_false, cond_true]
  rw [JA _ hz]
  rfl
theorem RZ {m : Ka} (hz : Ja Ua m ≤ Wa) : Ja Jb (Yr m).1 ≤ Wa := by
 unfold Yr
 cases Yb m with
 | true => show Ja Jb (Yq m 0 0 false []) ≤ _; rw [NE]; simpa using hz
 | false => show (0 : Nat) ≤ _; omega
theorem QZ {e : Bb} {t : Qb} (hz : Ja Jb e ≤ Wa) : Ja Dd (Uw e t).1 ≤ Wa := by
 unfold Uw
 cases Hh (Ay e t) with
 | true => show Ja Dd (Ay e t) ≤ _; rw [DK]; exact hz
 | false => show (0 : Nat) ≤ _; omega
theorem QJ (sep : List UInt8) : ∀ (k : Nat) (s : List UInt8), (Lib.splitK sep 0 k s).length ≤ k + 1 ∧ ∀ x ∈ Lib.splitK sep 0 k s, x.length ≤ s.length
 | 0, s => by simp [Lib.splitK]
 | k + 1, s => by
  unfold Lib.splitK
  split
  ·simp
  ·have ih := QJ sep k (s.drop ((Lib.index s sep).toNat + sep.length))
   refine ⟨by simp; exact ih.1, fun x hx => ?_⟩
   rcases jp.1 hx with rfl | hx
   ·rw [qo]; omega
   ·have := ih.2 x hx
    rw [qn] at this
    omega
theorem UC (sub : List UInt8) : ∀ (f : Nat) (s : List UInt8), Lib.countFrom sub f s ≤ f
 | 0, s => by simp [Lib.countFrom]
 | f + 1, s => by
  unfold Lib.countFrom
  split
  ·omega
  ·have := UC sub f (s.drop ((Lib.index s sub).toNat + sub.length)); omega
theorem HW (s sep : List UInt8) : (Lib.split s sep).length ≤ s.length + 2 ∧ ∀ x ∈ Lib.split s sep, x.length ≤ s.length := by
 have h := QJ sep (Lib.count s sep) s
 have := UC sep (s.length + 1) s
 unfold Lib.split
 exact ⟨j9 h.1 (by unfold Lib.count; omega), h.2⟩
noncomputable def PB (n : Nat) (l : List Ha) (w : List UInt8) : List Ha ⊕ Unit :=
 cond (!(JB w).2.1) (.inr ()) (cond (decide (32 ≤ l.length)) (.inr ()) (cond (decide (4 ≤ n)) (.inr ()) (.inl (jf l [(JB w).1]))))
noncomputable def Hw (m : Ka) (p : List UInt8) : Ka ⊕ Unit :=
 match Nc (fun _ l w => PB m.2.1.length l w) 0 [] (Wb 32 [] p) with
 | .inl r => .inl (((ja r : Nat) : Int), jf m.2.1 [r], ())
 | .inr _ => .inr ()
noncomputable def WN (s : List UInt8) : Ka × (Bool × Unit) :=
 match Nc (fun _ m p => Hw m p) 0 Gg (Lib.split s [32, 124, 32]) with
 | .inl m => cond (!Yb m || AH m != s) (Gg, false, ()) (m, true, ())
 | .inr _ => (Gg, false, ())
theorem EM (b : Int) : ∀ (l cur : List UInt8), Wb b cur l ≠ []
 | [], cur => by simp [Wb]
 | c :: l, cur => by
  simp only [Wb]
  cases ((UInt8.toNat c : Nat) : Int) == b with
  | true => simp
  | false => exact EM b l _
theorem EQ (n : Nat) : ∀ (W : List (List UInt8)) (k : Nat) (l r : List Ha), l.length ≤ 32 → Nc (fun _ l w => PB n l w) k l W = .inl r → r.length ≤ 32 ∧ (W ≠ [] → n < 4)
 | [], k, l, r, hl, h => by simp only [Nc, Sum.inl.injEq] at h; subst h; exact ⟨hl, fun h => absurd rfl h⟩
 | w :: W, k, l, r, hl, h => by
  simp only [Nc] at h
  revert h
  cases hx : PB n l w with
  | inr u => intro h; simp at h
  | inl l' =>
   intro h
   have hl' : l'.length ≤ 32 ∧ n < 4 := by
    unfold PB at hx
    revert hx
    cases (JB w).2.1 with
    | false => intro h; simp at h
    | true =>
     by_cases h1 : 32 ≤ l.length
     ·rw [Ba h1]; intro h; simp at h
     by_cases h2 : 4 ≤ n
     ·rw [Aa h1, Ba h2]; intro h; simp at h
     rw [Aa h1, Aa h2]
     intro h
     simp only [jg, cond_false, Sum.inl.injEq] at h
     subst h
     refine ⟨?_, by omega⟩
     rw [List.append_eq, qc]; simp; omega
   have := EQ n W (k + 1) _ r hl'.1 h
   exact ⟨this.1, fun _ => hl'.2⟩
structure WJ (m : Ka) : Prop where
 n : m.2.1.length ≤ 4
 r : ∀ l ∈ m.2.1, l.length ≤ 32
theorem XS {m m' : Ka} {p : List UInt8} (h : WJ m) (hl : Hw m p = .inl m') : WJ m' := by
 unfold Hw at hl
 revert hl
 cases hf : Nc (fun _ l w => PB m.2.1.length l w) 0 [] (Wb 32 [] p) with
 | inr u => intro hl; simp at hl
 | inl r =>
  intro hl
  simp only [Sum.inl.injEq] at hl
  subst hl
  obtain ⟨h1, h2⟩ := EQ _ _ _ _ _ (by simp) hf
  have h2 := h2 (EM _ _ _)
  refine ⟨?_, ?_⟩
  ·show (jf m.2.1 [r]).length ≤ 4
   rw [List.append_eq, qc]; simp; omega
  ·intro l hl
   rcases jl.1 (show l ∈ m.2.1 ++ [r] from hl) with h' | h'
   ·exact h.r l h'
   ·simp at h'; subst h'; exact h1
theorem W6 {m : Ka} (h : WJ m) : Ja Ua m ≤ 136 := by
 rw [ZW]
 have key : ∀ (L : List (List Ha)), (∀ l ∈ L, l.length ≤ 32) → Ja (.sl (.sl Xa)) L ≤ 33 * L.length := by
  intro L
  induction L with
  | nil => intro _; show (0 : Nat) + 0 ≤ _; omega
  | cons l L ih =>
   intro hL
   have h1 := ih (fun x hx => hL x (jr _ hx))
   have h2 := hL l (qq ..)
   have hr : Ja (.sl Xa) l = l.length := Mt (e := Xa) rfl l
   show (l :: L).length + (List.map (Ja (.sl Xa)) (l :: L)).sum ≤ _
   have h1' : L.length + (List.map (Ja (.sl Xa)) L).sum ≤ 33 * L.length := h1
   simp only [List.map_cons, List.sum_cons, jv] at *
   rw [hr]
   omega
 have := key m.2.1 h.r
 have := h.n
 omega
theorem DC {s : List UInt8} (hs : s.length ≤ 1000000) : Om s = some (WN s) := by
 have h20 : Wa = 1048576 := rfl
 obtain ⟨hn, hp⟩ := HW s [32, 124, 32]
 unfold Om WN
 rw [show strings_Split s ([32, 124, 32] : List UInt8) = some (Lib.split s [32, 124, 32], ()) from by
  unfold strings_Split PJ IQ
  rw [show jw (ja s) 1048576 = true from ji (by omega)]
  rfl]
 simp only [jb]
 generalize Lib.split s [32, 124, 32] = T at hn hp
 have hl := Rf (step := fun x : (List UInt8 × Unit × Unit × List (List UInt8) × Int × Int × Unit) × Ka × Ka × Unit => Ii x.1.1 x.1.2.1 x.1.2.2.1 x.1.2.2.2.1 x.1.2.2.2.2.1 x.1.2.2.2.2.2.1 x.2.1 x.2.2.1) T (fun _ m p => Hw m p)
  (fun m i => ((s, (), (), T, ((ja T : Nat) : Int), i, ()), (Gg, (m.1, m.2.1, ()), ()))) (fun m => .inl ((s, (), (), ()), (Gg, (m.1, m.2.1, ()), ()))) (fun _ => .inr (((), false, ()), (Gg, ()))) (fun _ m => WJ m) (by
   intro k hk m hm
   refine ⟨?_, fun s' hs' => XS hm hs'⟩
   have hpk := hp _ (qj hk)
   simp only [Ii]
   rw [Ba (by omega), Wi, Ba hk]
   simp only [cond_true, jn]
   rw [je hk]
   simp only [jb]
   generalize T[k] = p at hpk
   rw [LM 32 (by omega)]
   simp only [jb]
   unfold Hw
   have hwl := Lz 32 p []
   have hwp := Fv 32 p []
   generalize Wb 32 [] p = W at hwl hwp
   have hin := Rf (step := fun x : (List UInt8 × Unit × Unit × List Ha × List (List UInt8) × Int × Int × List (List UInt8) × Int × Int × Unit) × Ka × Ka × Unit => Ji x.1.1 x.1.2.1 x.1.2.2.1 x.1.2.2.2.1 x.1.2.2.2.2.1 x.1.2.2.2.2.2.1 x.1.2.2.2.2.2.2.1 x.1.2.2.2.2.2.2.2.1 x.1.2.2.2.2.2.2.2.2.1 x.1.2.2.2.2.2.2.2.2.2.1 x.2.1 x.2.2.1) W (fun _ l w => PB m.2.1.length l w)
    (fun l i => ((s, (), (), l, T, ((ja T : Nat) : Int), (k : Int), W, ((ja W : Nat) : Int), i, ()), (Gg, (m.1, m.2.1, ()), ()))) (fun l => .inl ((s, (), (), l, T, ((ja T : Nat) : Int), (k : Int), ()), (Gg, (m.1, m.2.1, ()), ()))) (fun _ => .inr (((), false, ()), (Gg, ()))) (fun j l => l.length ≤ 32) (by
     intro j hj l hl32
     have hwj := hwp _ (qj hj)
     simp only [Ji]
     rw [Ba (by omega), Wi, Ba hj]
     simp only [cond_true, jn]
     rw [je hj]
     simp only [jb]
     generalize W[j] = w at hwj
     rw [CC (by simp at hwj; omega)]
     simp only [jb]
     unfold PB
     cases (JB w).2.1 with
     | false => exact ⟨rfl, fun s' h => by simp at h⟩
     | true =>
      simp only [jg, cond_false]
      by_cases h1 : 32 ≤ l.length
      ·rw [Ba (show ((ja l : Nat) : Int) ≥ 32 by omega), Ba h1]
       exact ⟨rfl, fun s' h => by simp at h⟩
      rw [Aa (show ¬ ((ja l : Nat) : Int) ≥ 32 by omega), Aa h1]
      by_cases h2 : 4 ≤ m.2.1.length
      ·rw [Ba (show ((ja m.2.1 : Nat) : Int) ≥ 4 by omega), Ba h2]
       exact ⟨rfl, fun s' h => by simp at h⟩
      rw [Aa (show ¬ ((ja m.2.1 : Nat) : Int) ≥ 4 by omega), Aa h2]
      simp only [cond_false]
      rw [Oc (by simp; omega)]
      refine ⟨rfl, fun s' h => ?_⟩
      simp only [Sum.inl.injEq] at h
      subst h
      simp; omega) (by
     intro l hl32
     simp only [Ji]
     rw [Aa (by omega)]; rfl) (by omega) [] (by simp)
   unfold Rj
   erw [hin]
   cases Nc (fun _ l w => PB m.2.1.length l w) 0 [] W with
   | inr u => rfl
   | inl r =>
    simp only [jb, qh]
    have := hm.n
    have e : ([r] : List (List Ha)).length = 1 := rfl
    rw [Oc (by omega)]
    rfl) (by
   intro m hm
   simp only [Ii]
   rw [Aa (by omega)]; rfl) (by omega) Gg ⟨by simp [Gg], by simp [Gg]⟩
 have key : ∀ (L : List (List UInt8)) (k : Nat) (m m' : Ka), WJ m → Nc (fun _ m p => Hw m p) k m L = .inl m' → WJ m' := by
  intro L
  induction L with
  | nil => intro k m m' h hf; simp only [Nc, Sum.inl.injEq] at hf; subst hf; exact h
  | cons p L ih =>
   intro k m m' h hf
   simp only [Nc] at hf
   revert hf
   cases hx : Hw m p with
   | inr u => intro hf; simp at hf
   | inl m1 => intro hf; exact ih (k + 1) m1 m' (XS h hx) hf
 unfold Qj
 erw [hl]
 cases hf : Nc (fun _ m p => Hw m p) 0 Gg T with
 | inr u => rfl
 | inl m =>
  have hm := W6 (key T 0 Gg m ⟨by simp [Gg], by simp [Gg]⟩ hf)
  simp only [jb, qh]
  have hi := Ct m (by omega)
  erw [hi]
  simp only [jb]
  cases Yb m with
  | false => rfl
  | true =>
   simp only [jg, cond_false, Bool.false_or]
   have hfk := ZA (m := m) (by omega)
   erw [hfk]
   simp only [jb]
   cases AH m != s <;> rfl
instance Fao (k c m n : Int) : Decidable (Dc k c m n) := by unfold Dc; infer_instance
def H9 (a : Ha) : Bool := decide (Dc a.1 a.2.1 a.2.2.1 a.2.2.2.1)
theorem HI : Sb = H9 := by
 funext a
 rw [qp, Mb]
 simp [H9]
def wm : Ka := ((6 : Int), ([[((2 : Int), (1 : Int), (0 : Int), (0 : Int), ()), ((2 : Int), (2 : Int), (0 : Int), (0 : Int), ()), ((3 : Int), (0 : Int), (0 : Int), (1 : Int), ()), ((6 : Int), (3 : Int), (2 : Int), (0 : Int), ()), ((7 : Int), (4 : Int), (0 : Int), (2 : Int), ()), ((8 : Int), (0 : Int), (2 : Int), (0 : Int), ())],
 [((2 : Int), (27 : Int), (0 : Int), (0 : Int), ()), ((1 : Int), (0 : Int), (0 : Int), (0 : Int), ()), ((1 : Int), (0 : Int), (0 : Int), (0 : Int), ()), ((2 : Int), (28 : Int), (0 : Int), (0 : Int), ()), ((4 : Int), (0 : Int), (0 : Int), (2 : Int), ()), ((10 : Int), (0 : Int), (0 : Int), (0 : Int), ())],
 [((2 : Int), (48 : Int), (0 : Int), (0 : Int), ()), ((5 : Int), (0 : Int), (0 : Int), (0 : Int), ()), ((1 : Int), (0 : Int), (0 : Int), (0 : Int), ()), ((1 : Int), (0 : Int), (0 : Int), (0 : Int), ()), ((2 : Int), (44 : Int), (0 : Int), (0 : Int), ()), ((4 : Int), (0 : Int), (0 : Int), (2 : Int), ())]] : List (List Ha)), ())
theorem BO : Yb wm = true := by
 unfold Yb Zh Rp
 rw [HI]
 kernel_rfl
theorem Jai : Ja Ua wm ≤ 136 := by
 have : Ja Ua wm = 21 := by kernel_rfl
 omega
theorem Zan : XN Xf = (wm, true, ()) := by
 have h : Nc (fun _ s w => OD s w) 0 (Gg, []) (jf (Wb 32 [] Xf) [[124]]) = .inl (wm, []) := by
  unfold OD KB WV Nn
  rw [HI]
  kernel_rfl
 unfold XN
 rw [h]
 show cond (Yb wm) (wm, true, ()) (Gg, false, ()) = _
 rw [BO]; rfl
theorem Yan : WN Xf = (wm, true, ()) := by
 have h : Nc (fun _ m p => Hw m p) 0 Gg (Lib.split Xf [32, 124, 32]) = .inl wm := by
  unfold Hw PB JB Nn
  rw [HI]
  kernel_rfl
 unfold WN
 rw [h]
 show cond (!Yb wm || AH wm != Xf) (Gg, false, ()) (wm, true, ()) = _
 have ht : AH wm = Xf := by
  unfold AH
  rw [BO]
  unfold RD Nn
  rw [HI]
  kernel_rfl
 rw [BO, ht]
 simp
theorem XH : ∃ w, Qo = some (w, ()) ∧ Fk = some (w, ()) ∧ Ja Lf w ≤ 4 * Wa := by
 have h20 : Wa = 1048576 := rfl
 have hz : Ja Ua wm ≤ Wa := by have := Jai; omega
 have hl : Xf.length ≤ 1000000 := by decide
 have he := RZ hz
 have hd := QZ (t := ((200 : Int), (0 : Int), (0 : Int), ())) he
 have ht : (Yr wm).2.1 = true := by unfold Yr; rw [BO]; rfl
 refine ⟨((Uw (Yr wm).1 ((200 : Int), (0 : Int), (0 : Int), ())).1, ([] : List Zv), ()), ?_, ?_, ?_⟩
 ·unfold Qo
  rw [HC hl, Zan]
  simp only [jb]
  rw [UD _ hz]
  simp only [jb]
  rw [FC _ _ he]
  rfl
 ·unfold Fk AB
  rw [DC hl, Yan]
  simp only [jb]
  rw [DD _ hz]
  simp only [jb]
  rw [ht, BC _ _ he]
  rfl
 ·rw [Hab]
  show Ja Dd (Uw (Yr wm).1 ((200 : Int), (0 : Int), (0 : Int), ())).1 + 0 ≤ _
  omega
theorem MK   : Ih  = some (true, ()) := by
 have h20 : Wa = 1048576 := rfl
 have h40 : Kc = 1099511627776 := rfl
 unfold Ih
 obtain ⟨w0, e1, e2, b0⟩ := XH
 obtain ⟨x0, k0, g0, i0, m0, n0, f0⟩ := QK w0 1 (by omega)
 simp only [kf, true_and, and_true] at f0
 have q0 : (((((w0.1.1.1.1, x0.1.1.1.2.1, ()), x0.1.1.2.1, w0.1.1.2.2.1, x0.1.1.2.2.2.1, w0.1.1.2.2.2.2), w0.1.2.1, x0.1.2.2.1, w0.1.2.2.2), x0.2.1, ()) : Zg) = x0 := by simp only [Prod.ext_iff, f0, and_self]
 rw [show ((1 : Nat) : Int) = 1 from rfl] at m0 n0
 have d0 : decide ((k0 : Int) < 0) = false := Aa (by omega)
 simp only [e1, e2, SO w0 (by omega), q0, m0, d0, n0, jb, bne_self_eq_false', bne_self_eq_false, jg, cond_false]
end KF
