/- An evaluator of Go functions on plain data, its soundness, and plain laws on what the functions compute, part 5 (conditions: as each lemma tells). -/
import Derived.Test.YtoncbegnhhcgmaaGreatD
set_option linter.unusedSimpArgs false
set_option linter.unusedVariables false
namespace KF
open Go
open List renaming length → ja, getElem?_eq_getElem → je, append → jf, mem_append → jl, mem_cons → jp, mem_cons_of_mem → jr, length_cons → jw, set → j6, length_nil → j8, length_set → j9, mem_singleton → qe, length_append → qf, getElem?_append_left → qh, getElem?_append_right → qi, getD_eq_getElem?_getD → qj, getElem_mem → qr, mem_of_mem_drop → qs, getElem_of_mem → qt, mem_map → qu, getElem?_set_self → qv, length_drop → qw, mem_cons_self → qy
open Option renaming bind_some → jb, bind → jz, map_some → qd, bind_eq_some_iff → qg
open Option.some renaming injEq → jc
open Bool renaming and_eq_true → jd, not_true → jg, true_and → jk, false_eq_true → jq, not_false → qa, not_eq_true → qb, false_and → qp, eq_iff_iff → qx
open Prod.mk renaming injEq → jh
open Nat renaming ble_eq_true_of_le → ji, mul_le_mul_right → jm, le_refl → jo, zero_add → js, add_assoc → jt, eq_of_beq_eq_true → ju, ble → jx, le_trans → qc, lt_of_lt_of_le → ql, pow_le_pow_right → qm, testBit_xor → qn, testBit_two_pow → qo, xor_lt_two_pow → qq
open Int renaming toNat_natCast → jn, eq_ofNat_of_zero_le → jv, toNat → jy
open Go.IntKind renaming wrap → j5
open Sum renaming elim → j7, elim_inl → qk
open Result renaming andThen_ok → qz
open Sem renaming run_bind → q0
def Sd (k c m n : Int) : Prop :=
 ((k = 0 ∨ k = 1 ∨ k = 10) ∧ c = 0 ∧ m = 0 ∧ n = 0) ∨
 (k = 2 ∧ n = 0 ∧ (c = 0 ∨ 1 ≤ c ∧ c ≤ 56) ∧ (m = 0 ∨ 1 ≤ m ∧ m ≤ 15) ∧ (c ≠ 0 ∨ m ≠ 0)) ∨
 ((k = 3 ∨ k = 4) ∧ c = 0 ∧ m = 0 ∧ 1 ≤ n ∧ n ≤ 3) ∨
 ((k = 5 ∨ k = 9) ∧ c = 0 ∧ m = 0 ∧ 0 ≤ n ∧ n ≤ 3) ∨
 (k = 6 ∧ 1 ≤ c ∧ c ≤ 56 ∧ 1 ≤ m ∧ m ≤ 15 ∧ n = 0) ∨
 (k = 7 ∧ 1 ≤ c ∧ c ≤ 56 ∧ m = 0 ∧ 1 ≤ n ∧ n ≤ 3) ∨
 (k = 8 ∧ c = 0 ∧ 1 ≤ m ∧ m ≤ 15 ∧ n = 0)
noncomputable def Gd (a : Bb) : Bool := open Classical in decide (Sd a.1 a.2.1 a.2.2.1 a.2.2.2.1)
theorem Hc (a : Bb) : Gd a = true ↔ Sd a.1 a.2.1 a.2.2.1 a.2.2.2.1 := by simp [Gd]
theorem ZR (c : Int) : Tx c = some (decide (1 ≤ c ∧ c ≤ 56), ()) := by
 simp only [Tx, Ci, Di]
 apply Uc; simp only [Rd, decide_eq_true_eq, DT, ET, jq, and_false, false_and, or_false, false_or, and_true, true_and, not_true_eq_false, not_false_eq_true]; try omega
theorem BS (c : Int) : Er c = some (decide (1 ≤ c ∧ c ≤ 15), ()) := by
 simp only [Er, Ci, Di]
 apply Uc; simp only [Rd, decide_eq_true_eq, DT, ET, jq, and_false, false_and, or_false, false_or, and_true, true_and, not_true_eq_false, not_false_eq_true]; try omega
theorem MQ (c : Int) : Pt c = some (decide (1 ≤ c ∧ c ≤ 3), ()) := by
 simp only [Pt, Ci, Di]
 apply Uc; simp only [Rd, decide_eq_true_eq, DT, ET, jq, and_false, false_and, or_false, false_or, and_true, true_and, not_true_eq_false, not_false_eq_true]; try omega
theorem Vc (c a b : Int) : Ac c a b = some (decide (a ≤ c ∧ c ≤ b), ()) := by
 simp only [Ac, Ci, Di]
 apply Uc; simp only [Rd, decide_eq_true_eq, DT, ET, jq, and_false, false_and, or_false, false_or, and_true, true_and, not_true_eq_false, not_false_eq_true]; try omega
theorem Ev (a : Bb) : Rj a = some (Gd a, ()) := by
 obtain ⟨k, c, m, n, u⟩ := a
 have key : ∀ k c m n : Int, Rj (k, c, m, n, u) = some (Gd (k, c, m, n, u), ()) := by
  intro k c m n
  simp only [Rj, ZR, BS, MQ, Vc, jb, Ci, Di]
  by_cases h0 : k = 0
  ·subst h0; apply Uc; rw [Hc]; simp [Sd, Rd]; try omega
  by_cases h1 : k = 1
  ·subst h1; apply Uc; rw [Hc]; simp [Sd, Rd]; try omega
  by_cases h2 : k = 2
  ·subst h2; apply Uc; rw [Hc]; simp [Sd, Rd]; intro hn; (repeat' split) <;> omega
  by_cases h3 : k = 3
  ·subst h3; apply Uc; rw [Hc]; simp [Sd, Rd]; try omega
  by_cases h4 : k = 4
  ·subst h4; apply Uc; rw [Hc]; simp [Sd, Rd]; try omega
  by_cases h5 : k = 5
  ·subst h5; apply Uc; rw [Hc]; simp [Sd, Rd]; try omega
  by_cases h6 : k = 6
  ·subst h6; apply Uc; rw [Hc]; simp [Sd, Rd]; try omega
  by_cases h7 : k = 7
  ·subst h7; apply Uc; rw [Hc]; simp [Sd, Rd]; try omega
  by_cases h8 : k = 8
  ·subst h8; apply Uc; rw [Hc]; simp [Sd, Rd]; try omega
  by_cases h9 : k = 9
  ·subst h9; apply Uc; rw [Hc]; simp [Sd, Rd]; try omega
  by_cases h10 : k = 10
  ·subst h10; apply Uc; rw [Hc]; simp [Sd, Rd]; try omega
  have g : ∀ j : Int, (k == j) = decide (k = j) := fun j => by rw [qx]; simp
  apply Uc; rw [Hc]; simp [Sd, Rd, h0, h1, h2, h3, h4, h5, h6, h7, h8, h9, h10]
 exact key k c m n
theorem Aw (a : Bb) : Uj a = some (Gd a, ()) := by
 obtain ⟨k, c, m, n, u⟩ := a
 have key : ∀ k c m n : Int, Uj (k, c, m, n, u) = some (Gd (k, c, m, n, u), ()) := by
  intro k c m n
  simp only [Uj, ZR, BS, MQ, Vc, jb, Ci, Di]
  by_cases h0 : k = 0
  ·subst h0; apply Uc; rw [Hc]; simp [Sd, Rd]; try omega
  by_cases h1 : k = 1
  ·subst h1; apply Uc; rw [Hc]; simp [Sd, Rd]; try omega
  by_cases h2 : k = 2
  ·subst h2; apply Uc; rw [Hc]; simp [Sd, Rd]; intro hn; (repeat' split) <;> omega
  by_cases h3 : k = 3
  ·subst h3; apply Uc; rw [Hc]; simp [Sd, Rd]; try omega
  by_cases h4 : k = 4
  ·subst h4; apply Uc; rw [Hc]; simp [Sd, Rd]; try omega
  by_cases h5 : k = 5
  ·subst h5; apply Uc; rw [Hc]; simp [Sd, Rd]; try omega
  by_cases h6 : k = 6
  ·subst h6; apply Uc; rw [Hc]; simp [Sd, Rd]; try omega
  by_cases h7 : k = 7
  ·subst h7; apply Uc; rw [Hc]; simp [Sd, Rd]; try omega
  by_cases h8 : k = 8
  ·subst h8; apply Uc; rw [Hc]; simp [Sd, Rd]; try omega
  by_cases h9 : k = 9
  ·subst h9; apply Uc; rw [Hc]; simp [Sd, Rd]; try omega
  by_cases h10 : k = 10
  ·subst h10; apply Uc; rw [Hc]; simp [Sd, Rd]; try omega
  have g : ∀ j : Int, (k == j) = decide (k = j) := fun j => by rw [qx]; simp
  apply Uc; rw [Hc]; simp [Sd, Rd, h0, h1, h2, h3, h4, h5, h6, h7, h8, h9, h10]
 exact key k c m n
noncomputable def Bk (nl : Nat) (i : Nat) (a : Bb) : Bool := Gd a && !(((i : Int) == 0) && (a.1 == 1)) && !((a.1 != 9) && decide (a.2.2.2.1 ≥ (nl : Int)))
noncomputable def Yn (keys : Int) (nl : Nat) (i : Nat) (l : List Bb) : Bool := ((ja l : Int) == keys) && Yd (fun _ a => Bk nl i a) 0 l
noncomputable def Lh (m : Sb) : Bool :=
 decide (1 ≤ m.1 ∧ m.1 ≤ 32) && decide (1 ≤ m.2.1.length ∧ m.2.1.length ≤ 4) && Yd (fun i l => Yn m.1 m.2.1.length i l) 0 m.2.1
theorem E1 (m : Sb) (i : Nat) (l : List Bb) (L : List (List Bb)) (n : Int) (t : Int) (hl : l.length < 9223372036854775807) :
 Lm (((), (i : Int), L, n, t, l, (l.length : Int), (0 : Int), ()), (m, ())) =
  some (cond (Yd (fun _ a => Bk m.2.1.length i a) 0 l) (.inl (((), L, n, t, ()), (m, ()))) (.inr ((false, ()), ()))) := by
 unfold Lm
 refine Ye (step := _) l (fun _ a => Bk m.2.1.length i a) (fun j => (((), (i : Int), L, n, t, l, (l.length : Int), j, ()), (m, ()))) _ _ ?_ ?_ hl
 ·intro k hk
  simp only [RD]
  rw [Aa (show (k : Int) < (l.length : Int) by omega), Mb hk]
  simp only [cond_true, jb, Bk, Ev]
  cases Gd l[k] <;> cases ((i : Int) == 0) <;> cases (l[k].1 == 1) <;> cases (l[k].1 != 9) <;> cases decide (l[k].2.2.2.1 ≥ (m.2.1.length : Int)) <;> rfl
 ·simp [RD]
theorem DP (m : Sb) (hz : Ja Ub m ≤ Ea) : Xw m = some (Lh m, ()) := by
 have h20 : Ea = 1048576 := rfl
 have hz' : m.2.1.length + (List.map (Ja (.sl Rb)) m.2.1).sum ≤ Ea := by
  have : Ja Ub m = Ja (.sl (.sl Rb)) m.2.1 := by simp only [Ja, Nat.add_zero, js]
  rw [this] at hz; exact hz
 have hl : ∀ k (hk : k < m.2.1.length), m.2.1[k].length ≤ Ea := by
  intro k hk
  have := Qw (f := Ja (.sl Rb)) hk
  have h2 : m.2.1[k].length ≤ Ja (.sl Rb) m.2.1[k] := Nat.le_add_right _ _
  omega
 have hloop : Km (((), m.2.1, ((ja m.2.1 : Nat) : Int), (0 : Int), ()), (m, ())) =
  some (cond (Yd (fun i l => Yn m.1 m.2.1.length i l) 0 m.2.1) (.inl ((), ())) (.inr ((false, ()), ()))) := by
  unfold Km
  refine Ye (step := _) m.2.1 (fun i l => Yn m.1 m.2.1.length i l) (fun j => (((), m.2.1, ((ja m.2.1 : Nat) : Int), j, ()), (m, ()))) _ _ ?_ ?_ (by omega)
  ·intro k hk
   have := hl k hk
   simp only [QD]
   rw [Aa (show (k : Int) < (m.2.1.length : Int) by omega), Mb hk]
   simp only [cond_true, jb, Yn]
   rw [E1 m k _ _ _ _ (by omega)]
   show (cond (!((m.2.1[k].length : Int) == m.1)) _ _) = _
   cases ((m.2.1[k].length : Int) == m.1) <;> cases Yd (fun _ a => Bk m.2.1.length k a) 0 m.2.1[k] <;> rfl
  ·simp [QD]
 unfold Xw
 rw [hloop]
 simp only [jb, Q7, Ci, Di]
 apply Uc
 simp only [Rd, Lh, jd, decide_eq_true_eq, jq, and_false, false_or, and_true, or_false]
 generalize Yd (fun i l => Yn m.1 m.2.1.length i l) 0 m.2.1 = b
 constructor
 ·rintro ⟨h1, h2, h3, h4, h5⟩; exact ⟨⟨by omega, by omega⟩, h5⟩
 ·rintro ⟨⟨h1, h2⟩, h5⟩; exact ⟨by omega, by omega, by omega, by omega, h5⟩
theorem H2 (m : Sb) (i : Nat) (hi : i < m.2.1.length) (hl : m.2.1[i].length < 9223372036854775807) :
 Xm (((), (i : Int), (0 : Int), ()), (m, ())) =
  some (cond (Yd (fun _ a => Bk m.2.1.length i a) 0 m.2.1[i]) (.inl (((), (i : Int), ()), (m, ()))) (.inr ((false, ()), ()))) := by
 unfold Xm
 refine Ye (step := _) m.2.1[i] (fun _ a => Bk m.2.1.length i a) (fun j => (((), (i : Int), j, ()), (m, ()))) _ _ ?_ ?_ hl
 ·intro k hk
  simp only [DE]
  rw [Mb hi]
  simp only [jb]
  rw [Aa (show (k : Int) < (m.2.1[i].length : Int) by omega), Mb hk]
  simp only [cond_true, jb, Bk, Aw]
  cases Gd m.2.1[i][k] <;> cases ((i : Int) == 0) <;> cases (m.2.1[i][k].1 == 1) <;> cases (m.2.1[i][k].1 != 9) <;> cases decide (m.2.1[i][k].2.2.2.1 ≥ (m.2.1.length : Int)) <;> rfl
 ·simp [DE, Mb hi]
theorem TP (m : Sb) (hz : Ja Ub m ≤ Ea) : Kx m = some (Lh m, ()) := by
 have h20 : Ea = 1048576 := rfl
 have hz' : m.2.1.length + (List.map (Ja (.sl Rb)) m.2.1).sum ≤ Ea := by
  have : Ja Ub m = Ja (.sl (.sl Rb)) m.2.1 := by simp only [Ja, Nat.add_zero, js]
  rw [this] at hz; exact hz
 have hl : ∀ k (hk : k < m.2.1.length), m.2.1[k].length ≤ Ea := by
  intro k hk
  have := Qw (f := Ja (.sl Rb)) hk
  have h2 : m.2.1[k].length ≤ Ja (.sl Rb) m.2.1[k] := Nat.le_add_right _ _
  omega
 have hloop : Wm (((), (0 : Int), ()), (m, ())) =
  some (cond (Yd (fun i l => Yn m.1 m.2.1.length i l) 0 m.2.1) (.inl (((), ()), (m, ()))) (.inr ((false, ()), ()))) := by
  unfold Wm
  refine Ye (step := _) m.2.1 (fun i l => Yn m.1 m.2.1.length i l) (fun j => (((), j, ()), (m, ()))) _ _ ?_ ?_ (by omega)
  ·intro k hk
   have := hl k hk
   simp only [CE]
   rw [Aa (show (k : Int) < (m.2.1.length : Int) by omega), Mb hk]
   simp only [cond_true, jb, Yn]
   rw [H2 m k hk (by omega)]
   show (cond (!((m.2.1[k].length : Int) == m.1)) _ _) = _
   cases ((m.2.1[k].length : Int) == m.1) <;> cases Yd (fun _ a => Bk m.2.1.length k a) 0 m.2.1[k] <;> rfl
  ·simp [CE]
 unfold Kx
 rw [hloop]
 simp only [jb, Q7, Ci, Di, Vc]
 apply Uc
 simp only [Rd, Lh, jd, decide_eq_true_eq, jq, and_false, false_or, and_true, or_false]
 generalize Yd (fun i l => Yn m.1 m.2.1.length i l) 0 m.2.1 = b
 constructor
 ·rintro ⟨h1, h2, h3⟩; exact ⟨⟨by omega, by omega⟩, h1⟩
 ·rintro ⟨⟨h1, h2⟩, h5⟩; exact ⟨h5, by omega, by omega⟩
theorem Ek {n : Nat} (h : n ≤ 62) : Sa .i64 1 (n : Int) = ((2 ^ n : Nat) : Int) := by
 unfold Sa
 have h1 : min (jy (n : Int)) (IntKind.bits .i64) = n := by
  show min (jy (n : Int)) 64 = n
  rw [jn]; omega
 rw [h1, Int.one_mul]
 have h2 : (2 : Int) ^ n = ((2 ^ n : Nat) : Int) := by simp
 have h3 : 2 ^ n ≤ 2 ^ 62 := qm (by omega) h
 rw [h2]
 clear h1 h2
 generalize 2 ^ n = z at h3
 rw [Tg (by omega) (by omega)]
structure KK (m : Sb) : Prop where
 k1 : 1 ≤ m.1
 k2 : m.1 ≤ 32
 l1 : 1 ≤ m.2.1.length
 l2 : m.2.1.length ≤ 4
 row : ∀ i (h : i < m.2.1.length), (m.2.1[i].length : Int) = m.1
 act : ∀ i (h : i < m.2.1.length) k (hk : k < m.2.1[i].length), Bk m.2.1.length i m.2.1[i][k] = true
theorem Xi {m : Sb} (h : Lh m = true) : KK m := by
 simp only [Lh, jd, decide_eq_true_eq] at h
 obtain ⟨⟨h1, h2⟩, h3⟩ := h
 rw [PA] at h3
 refine ⟨h1.1, h1.2, h2.1, h2.2, fun i hi => ?_, fun i hi k hk => ?_⟩
 ·have := h3 i hi
  simp only [js, Yn, jd, beq_iff_eq] at this
  exact this.1
 ·have := h3 i hi
  simp only [js, Yn, jd, beq_iff_eq] at this
  have := PA.1 this.2 k hk
  simpa using this
theorem RW {nl i : Nat} {a : Bb} (h : Bk nl i a = true) : Gd a = true := by
 simp only [Bk, jd] at h
 exact h.1.1
theorem GY {nl i : Nat} {a : Bb} (h : Bk nl i a = true) (hk : a.1 ≠ 9) : a.2.2.2.1 < (nl : Int) := by
 simp only [Bk, jd, Bool.not_eq_true', Bool.and_eq_false_iff] at h
 rcases h.2 with h | h
 ·simp at h; exact absurd h hk
 ·simpa using h
def Bd (m k : Int) : Int := Wa .i64 (Yb .i64 m k) 1
theorem Ok (m : Int) {k : Int} (h : 0 ≤ k) : Le m k = some (Bd m k, ()) := by
 unfold Le
 rw [Aa h]; rfl
def Ka9 : Bb := (0, 0, 0, 0, ())
def Lk (L : List (List Bb)) (i k : Nat) : Bb := (L.getD i []).getD k Ka9
theorem D0 {L : List (List Bb)} {i k : Nat} (hi : i < L.length) (hk : k < L[i].length) : Lk L i k = L[i][k] := by
 simp [Lk, qj, hi, hk]
theorem Iac {α : Type} {L : List (List Bb)} {i k : Nat} (hi : i < L.length) (hk : k < L[i].length) (K : Bb → Option α) :
 (jz (Ab L (i : Int)) fun x => jz (Ab x (k : Int)) K) = K (Lk L i k) := by
 rw [Mb hi]
 simp only [jb]
 rw [Mb hk, D0 hi hk]
 rfl
def Yf (L : List (List Bb)) (on : Int) (k : Nat) : Nat → Nat
 | 0 => 0
 | n + 1 => cond ((Bd on ((n + 1 : Nat) : Int) == 1) && ((Lk L (n + 1) k).1 != 1)) (n + 1) (Yf L on k n)
theorem MW {L : List (List Bb)} {on : Int} {k : Nat} : ∀ n, Yf L on k n ≤ n
 | 0 => jo _
 | n + 1 => by
  simp only [Yf]
  cases ((Bd on ((n + 1 : Nat) : Int) == 1) && ((Lk L (n + 1) k).1 != 1)) with
  | true => exact jo _
  | false => exact Nat.le_succ_of_le (MW n)
theorem OQ {m : Sb} (hm : KK m) (on : Int) {k : Nat} (hk : (k : Int) < m.1) : ∀ n : Nat, n < m.2.1.length →
 Hi ((on, (k : Int), (), (n : Int), ()), (m, ())) = some (cond (Yf m.2.1 on k n == 0) (.inl ((), ())) (.inr ((((Yf m.2.1 on k n : Nat) : Int), ()), ())))
 | 0, _ => by
  unfold Hi
  rw [OJ]
  rfl
 | n + 1, h => by
  have hrow := hm.row (n + 1) h
  unfold Hi
  rw [OJ]
  simp only [HP]
  rw [Aa (show (((n + 1 : Nat) : Int)) > 0 by omega), Ok on (show (0 : Int) ≤ ((n + 1 : Nat) : Int) by omega)]
  simp only [cond_true, jb]
  rw [Iac h (by omega), Tg (by have := hm.l2; omega) (by have := hm.l2; omega), show (((n + 1 : Nat) : Int) - 1) = (n : Int) by omega]
  have ih := OQ hm on hk n (by omega)
  unfold Hi at ih
  simp only [Yf]
  cases h1 : (Bd on ((n + 1 : Nat) : Int) == 1) with
  | false =>
   simp only [qp, cond_false, jb, qk]
   exact ih
  | true =>
   cases h2 : ((Lk m.2.1 (n + 1) k).1 != 1) with
   | true => rfl
   | false =>
    simp only [Bool.and_false, cond_true, cond_false, jb, qk]
    exact ih
theorem NQ {m : Sb} (hm : KK m) (on : Int) {k : Nat} (hk : (k : Int) < m.1) :
 AB m on (k : Int) = some (((Yf m.2.1 on k (m.2.1.length - 1) : Nat) : Int), ()) := by
 have h1 := hm.l1
 have h2 := hm.l2
 unfold AB
 rw [Tg (by omega) (by omega), show ((m.2.1.length : Int) - 1) = ((m.2.1.length - 1 : Nat) : Int) by omega, OQ hm on hk _ (by omega)]
 cases h : (Yf m.2.1 on k (m.2.1.length - 1) == 0) with
 | false => rfl
 | true =>
  have h' : Yf m.2.1 on k (m.2.1.length - 1) = 0 := by simpa using h
  rw [h']; rfl
theorem AR {m : Sb} (hm : KK m) (on : Int) {k : Nat} (hk : (k : Int) < m.1) : ∀ n : Nat, n < m.2.1.length →
 Ii ((on, (k : Int), (), (n : Int), ()), (m, ())) = some (cond (Yf m.2.1 on k n == 0) (.inl ((), ())) (.inr ((((Yf m.2.1 on k n : Nat) : Int), ()), ())))
 | 0, _ => by
  unfold Ii
  rw [OJ]
  rfl
 | n + 1, h => by
  have hrow := hm.row (n + 1) h
  unfold Ii
  rw [OJ]
  simp only [VP]
  rw [Aa (show (((n + 1 : Nat) : Int)) > 0 by omega), Aa (show (0 : Int) ≤ ((n + 1 : Nat) : Int) by omega)]
  simp only [cond_true]
  rw [Iac h (by omega), Tg (by have := hm.l2; omega) (by have := hm.l2; omega), show (((n + 1 : Nat) : Int) - 1) = (n : Int) by omega]
  have ih := AR hm on hk n (by omega)
  unfold Ii at ih
  simp only [Yf]
  show jz (cond (Bd on ((n + 1 : Nat) : Int) == 1) _ _) _ = _
  cases h1 : (Bd on ((n + 1 : Nat) : Int) == 1) with
  | false =>
   simp only [qp, cond_false, jb, qk]
   exact ih
  | true =>
   cases h2 : ((Lk m.2.1 (n + 1) k).1 != 1) with
   | true => rfl
   | false =>
    simp only [Bool.and_false, cond_true, cond_false, jb, qk]
    exact ih
def Yi (m : Sb) (on : Int) (k : Nat) : Nat := Yf m.2.1 on k (m.2.1.length - 1)
theorem PQ {m : Sb} (hm : KK m) (on : Int) (k : Nat) : Yi m on k < m.2.1.length := by
 have := MW (L := m.2.1) (on := on) (k := k) (m.2.1.length - 1)
 have := hm.l1
 unfold Yi
 omega
theorem V4 {m : Sb} (hz : Ja Ub m ≤ Ea) (hv : Lh m = true) (on : Int) {k : Nat} (hk : (k : Int) < m.1) :
 VJ m on (k : Int) = some (((Yi m on k : Nat) : Int), ()) := by
 have hm := Xi hv
 have h1 := hm.l1
 have h2 := hm.l2
 have h3 := hm.k2
 unfold VJ
 rw [TP m hz, hv, Tg (n := m.1 - 1) (by omega) (by omega)]
 simp only [jb, jg, cond_false, Vc]
 rw [Aa (show (0 : Int) ≤ (k : Int) ∧ (k : Int) ≤ m.1 - 1 by omega), Tg (by omega) (by omega), show ((m.2.1.length : Int) - 1) = ((m.2.1.length - 1 : Nat) : Int) by omega, AR hm on hk _ (by omega)]
 simp only [jg, cond_false, jb]
 show _ = some (((Yf m.2.1 on k (m.2.1.length - 1) : Nat) : Int), ())
 cases h : (Yf m.2.1 on k (m.2.1.length - 1) == 0) with
 | false => rfl
 | true =>
  have h' : Yf m.2.1 on k (m.2.1.length - 1) = 0 := by simpa using h
  rw [h']; rfl
theorem RP {m : Sb} (hz : Ja Ub m ≤ Ea) (hv : Lh m = true) (on : Int) {k : Nat} (hk : (k : Int) < m.1) :
 Ix m on (k : Int) = some (Lk m.2.1 (Yi m on k) k, ()) := by
 have hm := Xi hv
 have hl := PQ hm on k
 have hrow := hm.row _ hl
 unfold Ix
 rw [V4 hz hv on hk]
 simp only [jb]
 rw [Ba (by omega)]
 simp only [cond_false]
 rw [Iac hl (by omega)]
noncomputable def Wf (a : Bb) : Bool := Gd a && ((a.1 == 6) || (a.1 == 7))
noncomputable def CN (a : Bb) : Bb := cond (Wf a) (2, a.2.1, 0, 0, ()) a
noncomputable def WK (a : Bb) : Bb := cond (Wf a) (cond (a.1 == 6) (2, 0, a.2.2.1, 0, ()) (3, 0, 0, a.2.2.2.1, ())) a
theorem UD (a : Bb) : Gn a = some (Wf a, ()) := by
 unfold Gn Wf
 rw [Ev]
 cases Gd a <;> cases (a.1 == 6) <;> rfl
theorem Vs (a : Bb) : Fk a = some (Wf a, ()) := by
 unfold Fk Wf
 rw [Aw]
 cases Gd a <;> cases (a.1 == 6) <;> rfl
theorem R8 (a : Bb) : AO a = some (CN a, ()) := by
 unfold AO CN
 rw [UD]
 cases Wf a <;> rfl
theorem E9 (a : Bb) : GO a = some (CN a, ()) := by
 unfold GO CN
 rw [Vs]
 cases Wf a <;> rfl
theorem V6 (a : Bb) : FM a = some (WK a, ()) := by
 unfold FM WK
 rw [Vs]
 cases Wf a <;> cases (a.1 == 6) <;> rfl
def Ed {α : Type} (p : α → Bool) : Nat → List α → Int
 | _, [] => -1
 | k, x :: xs => cond (p x) (k : Int) (Ed p (k + 1) xs)
def Bm {α β : Type} : α ⊕ β → Bool
 | .inl _ => true
 | .inr _ => false
noncomputable def CD (s : Int) (x : Pa) : Bool := decide (0 ≤ x.1 ∧ x.1 ≤ 31) && (!(Bd s x.1 == 1) && (Gd x.2.1 && (!(x.2.1.1 == 1) && (!(x.2.1.1 == 6) && !(x.2.1.1 == 7)))))
noncomputable def Qy (s : Int) (x : Pa) : Int ⊕ Unit := cond (CD s x) (.inl (Oc .i64 s (Sa .i64 1 x.1))) (.inr ())
noncomputable def Paa (l : List Pa) : Int ⊕ Unit := Pc (fun _ s x => Qy s x) 0 0 l
noncomputable def Gf (l : List Pa) : Bool := Bm (Paa l)
theorem OC (l : List Pa) (hn : l.length ≤ Ea) : Nk l = some (Gf l, ()) := by
 have h20 : Ea = 1048576 := rfl
 have hl := Wg (step := fun x => Sy x.1.1 x.1.2.1 x.1.2.2.1 x.1.2.2.2.1) l (fun _ s x => Qy s x) (fun s i => ((s, l, ((ja l : Nat) : Int), i, ()), ()))
  (fun _ => .inl ((), ())) (fun _ => .inr ((false, ()), ())) (fun _ _ => True) (by
   intro k hk s _
   refine ⟨?_, fun _ _ => trivial⟩
   simp only [Sy]
   rw [Aa (show (k : Int) < (ja l : Int) by omega), Mb hk]
   simp only [cond_true, jb]
   generalize l[k] = x
   simp only [Qy, CD, Ev, jb]
   by_cases h1 : 0 ≤ x.1
   ·rw [Ba (show ¬ x.1 < 0 by omega), Ok s h1]
    by_cases h2 : x.1 ≤ 31
    ·rw [Ba (show ¬ x.1 > 31 by omega), Aa (show 0 ≤ x.1 ∧ x.1 ≤ 31 from ⟨h1, h2⟩), Aa h1]
     simp only [jb, cond_false]
     cases Bd s x.1 == 1 <;> cases Gd x.2.1 <;> cases x.2.1.1 == 1 <;> cases x.2.1.1 == 6 <;> cases x.2.1.1 == 7 <;> rfl
    ·rw [Aa (show x.1 > 31 by omega), Ba (show ¬ (0 ≤ x.1 ∧ x.1 ≤ 31) by omega)]; rfl
   ·rw [Aa (show x.1 < 0 by omega), Ba (show ¬ (0 ≤ x.1 ∧ x.1 ≤ 31) by omega)]; rfl)
  (by
   intro s _
   simp only [Sy]
   rw [Ba (by omega)]; rfl) (by omega) 0 trivial
 unfold Nk UA
 erw [hl]
 show jz (some _) _ = _
 simp only [jb, Gf, Paa]
 cases Pc (fun x s x => Qy s x) 0 0 l <;> rfl
theorem HD (l : List Pa) (hn : l.length ≤ Ea) : Jr l = some (Gf l, ()) := by
 have h20 : Ea = 1048576 := rfl
 have hl := Wg (step := fun x => Vz x.1.1 x.1.2.1 x.1.2.2.1) l (fun _ s x => Qy s x) (fun s i => ((l, s, i, ()), ()))
  (fun _ => .inl ((), ())) (fun _ => .inr ((false, ()), ())) (fun _ _ => True) (by
   intro k hk s _
   refine ⟨?_, fun _ _ => trivial⟩
   simp only [Vz]
   rw [Aa (show (k : Int) < (ja l : Int) by omega), Mb hk]
   simp only [cond_true, jb]
   generalize l[k] = x
   simp only [Qy, CD, Aw, Vs, Vc, jb, Wf]
   by_cases h1 : 0 ≤ x.1 ∧ x.1 ≤ 31
   ·rw [Aa h1, Aa h1.1]
    simp only [Bd]
    cases Wa .i64 (Yb .i64 s x.1) 1 == 1 <;> cases Gd x.2.1 <;> cases x.2.1.1 == 1 <;> cases x.2.1.1 == 6 <;> cases x.2.1.1 == 7 <;> rfl
   ·rw [Ba h1]; rfl)
  (by
   intro s _
   simp only [Vz]
   rw [Ba (by omega)]; rfl) (by omega) 0 trivial
 unfold Jr TB
 erw [hl]
 show jz (some _) _ = _
 simp only [jb, Gf, Paa]
 cases Pc (fun x s x => Qy s x) 0 0 l <;> rfl
structure Bt (x : Pa) : Prop where
 lo : 0 ≤ x.1
 hi : x.1 ≤ 31
 act : Gd x.2.1 = true
 n1 : x.2.1.1 ≠ 1
 n6 : x.2.1.1 ≠ 6
 n7 : x.2.1.1 ≠ 7
theorem Zat {s : Int} {x : Pa} (h : CD s x = true) : Bt x ∧ Bd s x.1 ≠ 1 := by
 simp only [CD, jd, decide_eq_true_eq, Bool.not_eq_true', beq_eq_false_iff_ne] at h
 exact ⟨⟨h.1.1, h.1.2, h.2.2.1, h.2.2.2.1, h.2.2.2.2.1, h.2.2.2.2.2⟩, h.2.1⟩
theorem Hac : ∀ {l : List Pa} {k : Nat} {s : Int}, Bm (Pc (fun _ s x => Qy s x) k s l) = true → ∀ x ∈ l, Bt x
 | [], _, _, _, x, hx => by simp at hx
 | y :: l, k, s, h, x, hx => by
  simp only [Pc, Qy] at h
  cases hc : CD s y with
  | false => rw [hc] at h; simp [Bm] at h
  | true =>
   rw [hc] at h
   simp only [cond_true] at h
   rcases jp.1 hx with rfl | hx
   ·exact (Zat hc).1
   ·exact Hac h x hx
theorem An {l : List Pa} (h : Gf l = true) : ∀ x ∈ l, Bt x := Hac h
def Ns (l : List Pa) : Int := Jd (fun _ s (x : Pa) => Oc .i64 s (Sa .i64 1 x.1)) 0 0 l
theorem XG (l : List Pa) (hn : l.length ≤ Ea) (hx : ∀ x ∈ l, Bt x) : Sl l = some (Ns l, ()) := by
 have h20 : Ea = 1048576 := rfl
 have hl := (Pe (step := fun x => Bs x.1.1 x.1.2.1 x.1.2.2.1 x.1.2.2.2.1) l (fun _ s (x : Pa) => Oc .i64 s (Sa .i64 1 x.1)) (fun s i => ((s, l, ((ja l : Nat) : Int), i, ()), ()))
  (fun s => .inl ((s, ()), ())) (fun _ _ => True) (by
   intro k hk s _
   refine ⟨?_, trivial⟩
   simp only [Bs]
   rw [Aa (show (k : Int) < (ja l : Int) by omega), Mb hk]
   simp only [cond_true, jb]
   rw [Aa (hx _ (qr hk)).lo]; rfl)
  (by
   intro s _
   simp only [Bs]
   rw [Ba (by omega)]; rfl) (by omega) 0 trivial).1
 unfold Sl Mv
 erw [hl]
 rfl
theorem Q3 {α β : Type} (p : β → Bool) (f : α → β) : ∀ (xs : List α) (k : Nat), Ed p k (xs.map f) = Ed (fun x => p (f x)) k xs
 | [], _ => rfl
 | x :: xs, k => by simp only [List.map_cons, Ed, Q3 p f xs]
theorem Qu {α : Type} (p : α → Bool) : ∀ (xs : List α) (k : Nat), Ed p k xs = -1 ∨ ∃ j : Nat, j < xs.length ∧ Ed p k xs = ((k + j : Nat) : Int)
 | [], _ => .inl rfl
 | x :: xs, k => by
  simp only [Ed]
  cases p x with
  | true => exact .inr ⟨0, by simp, by simp⟩
  | false =>
   rcases Qu p xs (k + 1) with h | ⟨j, h1, h2⟩
   ·exact .inl h
   ·exact .inr ⟨j + 1, by simp; omega, by simp only [cond_false]; rw [h2]; omega⟩
theorem XV {α : Type} (p : α → Bool) : ∀ (xs : List α) (k : Nat), (Pc (fun k (_ : Unit) x => cond (p x) (.inr (k : Int)) (.inl ())) k () xs : Unit ⊕ Int) = if Ed p k xs = -1 then .inl () else .inr (Ed p k xs)
 | [], _ => rfl
 | x :: xs, k => by
  rcases Bool.eq_false_or_eq_true (p x) with hp | hp
  ·simp only [Pc, Ed, hp, cond_true]; rw [if_neg (by omega)]
  ·simp only [Pc, Ed, hp, cond_false]; exact XV p xs (k + 1)
theorem Ux {X R α : Type} {step : X → Option (X ⊕ R)} (xs : List α) (p : α → Bool) (I : Int → X) (no : R) (yes : Int → R)
 (h : ∀ k (hk : k < xs.length), step (I (k : Int)) = some (cond (p xs[k]) (.inr (yes (k : Int))) (.inl (I (j5 .i64 ((k : Int) + 1))))))
 (he : step (I (xs.length : Int)) = some (.inr no)) (hn : xs.length < 9223372036854775807) :
 Ua step (I 0) = some (if Ed p 0 xs = -1 then no else yes (Ed p 0 xs)) := by
 have := Wg (step := step) xs (fun k (_ : Unit) x => cond (p x) (.inr (k : Int)) (.inl ())) (fun _ i => I i) (fun _ => no) yes (fun _ _ => True) (fun k hk s _ => by
  refine ⟨?_, fun _ _ => trivial⟩
  rw [h k hk]
  cases p xs[k] <;> rfl) (fun _ _ => he) hn () trivial
 rw [this, XV]
 by_cases hc : Ed p 0 xs = -1
 ·rw [if_pos hc, if_pos hc]
 ·rw [if_neg hc, if_neg hc]
def Td (h : Pa) : Va := (h.2.1.2.1, h.2.1.2.2.1, ())
def Li (c m : Int) (h : Pa) : Bool := (h.2.1.2.1 == c) && (h.2.1.2.2.1 == m)
theorem CS (l : List Va) (c : Va) (hn : l.length ≤ Ea) : NE l c = some (Ed (fun x => Py Wb x c) 0 l, ()) := by
 have h20 : Ea = 1048576 := rfl
 have hl := Ux (step := fun x => Cz x.1.1 x.1.2.1 x.1.2.2.1 x.1.2.2.2.1 x.2.1) l (fun x => Py Wb x c) (fun i => (((), l, ((ja l : Nat) : Int), i, ()), (c, ())))
  (.inl ((), ())) (fun i => .inr ((i, ()), ())) (by
   intro k hk
   simp only [Cz]
   rw [Aa (show (k : Int) < (ja l : Int) by omega), Mb hk]
   simp only [cond_true, jb]
   cases Py Wb l[k] c <;> rfl) (by
   simp only [Cz]
   rw [Ba (by omega)]; rfl) (by omega)
 unfold NE BB
 erw [hl]
 simp only [jb]
 by_cases hc : Ed (fun x => Py Wb x c) 0 l = -1
 ·rw [if_pos hc, hc]; rfl
 ·rw [if_neg hc]; rfl
theorem JL (l : List Pa) (x : Qc) (hn : l.length ≤ Ea) : Dn l x = some (Ed (Li x.2.1 x.2.2.1) 0 l, ()) := by
 have h20 : Ea = 1048576 := rfl
 have hl := Ux (step := fun y => HA y.1.1 y.1.2.1 y.1.2.2.1 y.2.1) l (Li x.2.1 x.2.2.1) (fun i => ((l, (), i, ()), (x, ())))
  (.inl ((), ())) (fun i => .inr ((i, ()), ())) (by
   intro k hk
   simp only [HA]
   rw [Aa (show (k : Int) < (ja l : Int) by omega), Mb hk]
   simp only [cond_true, jb, Li]
   cases l[k].2.1.2.1 == x.2.1 <;> cases l[k].2.1.2.2.1 == x.2.2.1 <;> rfl) (by
   simp only [HA]
   rw [Ba (by omega)]; rfl) (by omega)
 unfold Dn EC
 erw [hl]
 simp only [jb]
 by_cases hc : Ed (Li x.2.1 x.2.2.1) 0 l = -1
 ·rw [if_pos hc, hc]; rfl
 ·rw [if_neg hc]; rfl
theorem N4 (L : List Pa) (c m : Int) : Ed (fun x => Py Wb x (c, m, ())) 0 (L.map Td) = Ed (Li c m) 0 L := by
 rw [Q3]
 congr 1
 funext h
 simp only [Td, Py, Li, Bool.and_true]
def Ih {α : Type} (l : List α) (r : Nat) : List α := jf (Eb l 0 r) (Eb l (r + 1) l.length)
theorem YZ {α : Type} {l : List α} {r : Nat} (h : r < l.length) : (Ih l r).length = l.length - 1 := by
 simp [Ih, Eb]; omega
theorem ZZ {α β : Type} (f : α → β) (l : List α) (r : Nat) : Ih (l.map f) r = (Ih l r).map f := by
 simp [Ih, Eb, List.map_take, List.map_drop]
 rw [List.take_of_length_le (by simp)]
theorem RV {α : Type} {l : List α} {r : Nat} (h : r < l.length) : Md (ja l) 0 (r : Int) = true ∧ Md (ja l) ((r + 1 : Nat) : Int) ((ja l : Nat) : Int) = true := by
 simp only [Md, jd, decide_eq_true_eq]
 omega
theorem FE (l : List Pa) {r : Nat} (h : r < l.length) (hn : l.length ≤ Ea) : Eg l (r : Int) = some (Ih l r, ()) := by
 have h20 : Ea = 1048576 := rfl
 have hc := RV h
 unfold Eg
 rw [Gc (by omega), hc.1, hc.2]
 have e1 : jx (ja ([] : List Pa) + ja (Eb l (jy 0) (jy (r : Int)))) Ta = true := ji (by simp [Eb]; rw [Ee]; omega)
 have e2 : jx (ja (jf ([] : List Pa) (Eb l (jy 0) (jy (r : Int)))) + ja (Eb l (jy ((r + 1 : Nat) : Int)) (jy ((ja l : Nat) : Int)))) Ta = true :=
  ji (by simp [Eb]; rw [Ee]; omega)
 rw [e1, e2]
 simp only [cond_true]
 rfl
noncomputable def Yx (x : Qc) (r : Int) : Bool := Gd (2, x.2.1, x.2.2.1, 0, ()) && (((x.1 == 0) && !decide (r ≥ 0)) || (((x.1 == 1) && !decide (r ≥ 0)) || ((x.1 == 2) && decide (r ≥ 0))))
def Wh (x : Qc) : Pa := (0, (2, x.2.1, x.2.2.1, 0, ()), ())
def MN (x : Qc) (L : List Pa) (r : Int) : List Pa := cond (x.1 == 1) (jf L [Wh x]) (cond (x.1 == 2) (Ih L r.toNat) L)
noncomputable def Au (L : List Pa) (x : Qc) : List Pa ⊕ Unit := cond (Yx x (Ed (Li x.2.1 x.2.2.1) 0 L)) (.inl (MN x L (Ed (Li x.2.1 x.2.2.1) 0 L))) (.inr ())
theorem J6 {L L' : List Pa} {x : Qc} (h : Au L x = .inl L') : L'.length ≤ L.length + 1 := by
 unfold Au at h
 cases hc : Yx x (Ed (Li x.2.1 x.2.2.1) 0 L) with
 | false => rw [hc] at h; simp at h
 | true =>
  rw [hc] at h
  simp only [cond_true, Sum.inl.injEq] at h
  rw [← h]
  unfold MN
  cases x.1 == 1 with
  | true => simp
  | false =>
   cases x.1 == 2 with
   | true => simp [Ih, Eb]; omega
   | false => simp
theorem G9 (l : List Qc) (k : Nat) (hk : k < l.length) (L : List Pa) (hL : L.length ≤ k) (hn : l.length ≤ Ea) :
 Co l L (k : Int) = some (match Au L l[k] with | .inl L' => .inl ((l, L', j5 .i64 ((k : Int) + 1), ()), ()) | .inr _ => .inr (.inr ((false, ()), ()))) := by
 have h20 : Ea = 1048576 := rfl
 simp only [Co]
 rw [Aa (show (k : Int) < (ja l : Int) by omega), Mb hk]
 simp only [cond_true, jb]
 rw [JL L l[k] (by omega)]
 simp only [jb, Vc, Jp, Aw, Au, Yx, MN, Wh]
 generalize hx : l[k] = x
 generalize hr : Ed (Li x.2.1 x.2.2.1) 0 L = r
 have hble : jx (ja L + ja [Wh x]) Ta = true := ji (by simp [Ee]; omega)
 have hble' : jx (ja L + ja ([((0 : Int), ((2 : Int), x.2.1, x.2.2.1, (0 : Int), ()), ())] : List Pa)) Ta = true := hble
 have hw : decide (r ≥ 0) = true → Eg L r = some (Ih L r.toNat, ()) := by
  intro h
  rcases Qu (Li x.2.1 x.2.2.1) L 0 with h1 | ⟨j, h1, h2⟩
  ·rw [hr] at h1; rw [h1] at h; simp at h
  ·rw [hr] at h2
   have : r = (j : Int) := by omega
   rw [this, FE L h1 (by omega)]
   simp
 by_cases k0 : x.1 = 0
 ·simp only [k0]
  cases Gd ((2 : Int), x.2.1, x.2.2.1, (0 : Int), ()) <;> cases decide (r ≥ 0) <;> rfl
 by_cases k1 : x.1 = 1
 ·simp only [k1]
  rw [hble']
  cases Gd ((2 : Int), x.2.1, x.2.2.1, (0 : Int), ()) <;> cases decide (r ≥ 0) <;> rfl
 by_cases k2 : x.1 = 2
 ·simp only [k2]
  cases hd : decide (r ≥ 0) with
  | false => cases Gd ((2 : Int), x.2.1, x.2.2.1, (0 : Int), ()) <;> rfl
  | true =>
   rw [hw hd]
   cases Gd ((2 : Int), x.2.1, x.2.2.1, (0 : Int), ()) <;> rfl
 ·have e0 : (x.1 == 0) = false := by simpa using k0
  have e1 : (x.1 == 1) = false := by simpa using k1
  have e2 : (x.1 == 2) = false := by simpa using k2
  rw [Ba (show ¬ (0 ≤ x.1 ∧ x.1 ≤ 2) by omega), e0, e1, e2]
  cases Gd ((2 : Int), x.2.1, x.2.2.1, (0 : Int), ()) <;> rfl
theorem U8 (l : List Qc) (k : Nat) (hk : k < l.length) (L : List Pa) (hL : L.length ≤ k) (hn : l.length ≤ Ea) :
 Rn (L.map Td) l ((ja l : Nat) : Int) (k : Int) =
  some (match Au L l[k] with | .inl L' => .inl ((L'.map Td, l, ((ja l : Nat) : Int), j5 .i64 ((k : Int) + 1), ()), ()) | .inr _ => .inr (.inr ((false, ()), ()))) := by
 have h20 : Ea = 1048576 := rfl
 simp only [Rn]
 rw [Aa (show (k : Int) < (ja l : Int) by omega), Mb hk]
 simp only [cond_true, jb]
 rw [CS (L.map Td) _ (by simp; omega), N4]
 simp only [jb, Ev, Au, Yx, MN, Wh]
 generalize hx : l[k] = x
 generalize hr : Ed (Li x.2.1 x.2.2.1) 0 L = r
 have hble : jx (ja (L.map Td) + ja ([(x.2.1, x.2.2.1, ())] : List Va)) Ta = true := ji (by simp [Ee]; omega)
 have happ : jf (L.map Td) ([(x.2.1, x.2.2.1, ())] : List Va) = (jf L [((0 : Int), ((2 : Int), x.2.1, x.2.2.1, (0 : Int), ()), ())]).map Td := by
  show _ ++ _ = List.map Td (_ ++ _)
  rw [List.map_append]; rfl
 by_cases k0 : x.1 = 0
 ·simp only [k0]
  cases Gd ((2 : Int), x.2.1, x.2.2.1, (0 : Int), ()) <;> cases decide (r ≥ 0) <;> rfl
 by_cases k1 : x.1 = 1
 ·simp only [k1]
  rw [hble, happ]
  cases Gd ((2 : Int), x.2.1, x.2.2.1, (0 : Int), ()) <;> cases decide (r ≥ 0) <;> rfl
 by_cases k2 : x.1 = 2
 ·simp only [k2]
  rcases Qu (Li x.2.1 x.2.2.1) L 0 with h1 | ⟨j, h1, h2⟩
  ·rw [hr] at h1
   rw [h1]
   cases Gd ((2 : Int), x.2.1, x.2.2.1, (0 : Int), ()) <;> rfl
  ·rw [hr] at h2
   have hrj : r = (j : Int) := by omega
   rw [hrj]
   have hj : j < (L.map Td).length := by simpa using h1
   have hc := RV hj
   rw [Gc (k := j) (by omega), hc.1, hc.2, Ba (show ¬ (j : Int) < 0 by omega), Aa (show (j : Int) ≥ 0 by omega)]
   have e1 : jx (ja (Eb (L.map Td) (jy 0) (jy (j : Int))) + ja (Eb (L.map Td) (jy ((j + 1 : Nat) : Int)) (jy ((ja (L.map Td) : Nat) : Int)))) Ta = true :=
    ji (by simp [Eb]; rw [Ee]; omega)
   have e2 : jf (Eb (L.map Td) (jy 0) (jy (j : Int))) (Eb (L.map Td) (jy ((j + 1 : Nat) : Int)) (jy ((ja (L.map Td) : Nat) : Int))) = (Ih L (jy (j : Int))).map Td := by
    rw [← ZZ]
    simp [Ih]
   rw [e1, e2]
   cases Gd ((2 : Int), x.2.1, x.2.2.1, (0 : Int), ()) <;> rfl
 ·have e0 : (x.1 == 0) = false := by simpa using k0
  have e1 : (x.1 == 1) = false := by simpa using k1
  have e2 : (x.1 == 2) = false := by simpa using k2
  rw [e0, e1, e2]
  cases Gd ((2 : Int), x.2.1, x.2.2.1, (0 : Int), ()) <;> rfl
noncomputable def Ead (l : List Qc) : List Pa ⊕ Unit := Pc (fun _ L x => Au L x) 0 [] l
noncomputable def Uf (l : List Qc) : Bool := decide (l.length ≤ 8) && (match Ead l with | .inl L => ((L.length : Int) == 0) | .inr _ => false)
theorem YQ (l : List Qc) (hn : l.length ≤ Ea) : UB l = some (Uf l, ()) := by
 have h20 : Ea = 1048576 := rfl
 have hl := Wg (step := fun x => Co x.1.1 x.1.2.1 x.1.2.2.1) l (fun _ L x => Au L x) (fun L i => ((l, L, i, ()), ()))
  (fun L => .inl ((l, L, ()), ())) (fun _ => .inr ((false, ()), ())) (fun k L => L.length ≤ k) (by
   intro k hk L hL
   refine ⟨?_, fun L' h => by have := J6 h; omega⟩
   rw [G9 l k hk L hL hn]
   cases Au L l[k] <;> rfl) (by
   intro s _
   simp only [Co]
   rw [Ba (by omega)]; rfl) (by omega) [] (by simp)
 unfold UB Iy
 erw [hl]
 simp only [jb, Uf, Ead]
 cases Pc (fun x L x => Au L x) 0 [] l with
 | inl L =>
  simp only [qk]
  by_cases h : l.length ≤ 8
  ·rw [Aa (show ((ja l : Nat) : Int) ≤ 8 by omega), Aa h]; rfl
  ·rw [Ba (show ¬ ((ja l : Nat) : Int) ≤ 8 by omega), Ba h]; rfl
 | inr u => cases decide (l.length ≤ 8) <;> rfl
theorem JQ (l : List Qc) (hn : l.length ≤ Ea) : VA l = some (Uf l, ()) := by
 have h20 : Ea = 1048576 := rfl
 unfold VA Uf
 by_cases h : l.length ≤ 8
 ·rw [Ba (show ¬ ((ja l : Nat) : Int) > 8 by omega), Aa h]
  have hl := Wg (step := fun x => Rn x.1.1 x.1.2.1 x.1.2.2.1 x.1.2.2.2.1) l (fun _ L x => Au L x) (fun L i => ((L.map Td, l, ((ja l : Nat) : Int), i, ()), ()))
   (fun L => .inl ((L.map Td, ()), ())) (fun _ => .inr ((false, ()), ())) (fun k L => L.length ≤ k) (by
    intro k hk L hL
    refine ⟨?_, fun L' h => by have := J6 h; omega⟩
    rw [U8 l k hk L hL hn]
    cases Au L l[k] <;> rfl) (by
    intro s _
    simp only [Rn]
    rw [Ba (by omega)]; rfl) (by omega) [] (by simp)
  unfold Dy
  erw [hl]
  simp only [Ead]
  cases Pc (fun x L x => Au L x) 0 [] l with
  | inl L =>
   show some _ = some _
   simp only [List.length_map]
   rfl
  | inr u => rfl
 ·rw [Aa (show ((ja l : Nat) : Int) > 8 by omega), Ba h]; rfl
noncomputable def Dp (keys : Int) (nl : Nat) (x : Pa) : Bool := !decide (x.1 ≥ keys) && !((x.2.1.1 != 9) && decide (x.2.1.2.2.2.1 ≥ (nl : Int)))
noncomputable def Vi (e : Gb) : Bool :=
 Lh e.1 && (decide (e.2.1.length ≤ 4) && (Gf e.2.2.2.1 && (Yd (fun _ m => Uf m) 0 e.2.1 && (Yd (fun _ x => Dp e.1.1 e.1.2.1.length x) 0 e.2.2.2.1 &&
  (decide (0 ≤ e.2.2.1 ∧ e.2.2.1 < ((2 ^ e.1.2.1.length : Nat) : Int)) && ((Int.tmod e.2.2.1 2 == 0) && decide (0 ≤ e.2.2.2.2.1 ∧ e.2.2.2.2.1 ≤ 15)))))))
theorem Vk (e : Gb) : Ja Xb e = Ja Ub e.1 + (Ja (.sl (.sl Bc)) e.2.1 + Ja (.sl Bf) e.2.2.2.1) := by
 simp only [Ja, Nat.add_zero, js]
theorem Hk (l : List Pa) : Ja (.sl Bf) l = l.length := Fo (e := Bf) rfl l
theorem G7 (l : List Qc) : Ja (.sl Bc) l = l.length := Fo (e := Bc) rfl l
theorem Yak {e : Ty} (l : List (T e)) : ja l ≤ Ja (.sl e) l := Nat.le_add_right _ _
theorem Rau {e : Ty} {l : List (T e)} {k : Nat} (hk : k < ja l) : Ja e (List.get l ⟨k, hk⟩) ≤ Ja (.sl e) l :=
 qc (Qw (f := Ja e) hk) (Nat.le_add_left _ _)
theorem Y3 (e : Gb) (hz : Ja Xb e ≤ Ea) : Jm (((), e.2.1, ((ja e.2.1 : Nat) : Int), (0 : Int), ()), (e, ())) =
 some (cond (Yd (fun _ m => Uf m) 0 e.2.1) (.inl (((), ()), (e, ()))) (.inr ((false, ()), ()))) := by
 have h20 : Ea = 1048576 := rfl
 rw [Vk] at hz
 have hl := Yak (e := .sl Bc) e.2.1
 unfold Jm
 refine Ye (step := fun x => Yr x.1.1 x.1.2.1 x.1.2.2.1 x.1.2.2.2.1 x.2.1) e.2.1 (fun _ m => Uf m) (fun i => (((), e.2.1, ((ja e.2.1 : Nat) : Int), i, ()), (e, ()))) _ _ ?_ ?_ (by omega)
 ·intro k hk
  simp only [Yr]
  have hk2 : (k : Int) < ((ja e.2.1 : Nat) : Int) := by omega
  rw [Aa hk2, Mb hk]
  simp only [cond_true, jb]
  have he := Rau (e := .sl Bc) hk
  rw [G7] at he
  rw [JQ e.2.1[k] (by have : (List.get e.2.1 ⟨k, hk⟩) = e.2.1[k] := rfl; rw [this] at he; omega)]
  simp only [jb]
  cases Uf e.2.1[k] <;> rfl
 ·simp only [Yr]
  rw [Ba (by omega)]; rfl
theorem X4 (e : Gb) (hz : Ja Xb e ≤ Ea) : Um (((), (0 : Int), ()), (e, ())) =
 some (cond (Yd (fun _ m => Uf m) 0 e.2.1) (.inl (((), ()), (e, ()))) (.inr ((false, ()), ()))) := by
 have h20 : Ea = 1048576 := rfl
 rw [Vk] at hz
 have hl := Yak (e := .sl Bc) e.2.1
 unfold Um
 refine Ye (step := fun x => Ss x.1.1 x.1.2.1 x.2.1) e.2.1 (fun _ m => Uf m) (fun i => (((), i, ()), (e, ()))) _ _ ?_ ?_ (by omega)
 ·intro k hk
  simp only [Ss]
  have hk2 : (k : Int) < ((ja e.2.1 : Nat) : Int) := by omega
  rw [Aa hk2, Mb hk]
  simp only [cond_true, jb]
  have he := Rau (e := .sl Bc) hk
  rw [G7] at he
  rw [YQ e.2.1[k] (by have : (List.get e.2.1 ⟨k, hk⟩) = e.2.1[k] := rfl; rw [this] at he; omega)]
  simp only [jb]
  cases Uf e.2.1[k] <;> rfl
 ·simp only [Ss]
  rw [Ba (by omega)]; rfl
theorem S8 (e : Gb) (hz : Ja Xb e ≤ Ea) : Dl (((), ((ja e.1.2.1 : Nat) : Int), e.2.2.2.1, ((ja e.2.2.2.1 : Nat) : Int), (0 : Int), ()), (e, ())) =
 some (cond (Yd (fun _ x => Dp e.1.1 e.1.2.1.length x) 0 e.2.2.2.1) (.inl (((), ((ja e.1.2.1 : Nat) : Int), ()), (e, ()))) (.inr ((false, ()), ()))) := by
 have h20 : Ea = 1048576 := rfl
 rw [Vk, Hk] at hz
 unfold Dl
 refine Ye (step := fun x => Tp x.1.1 x.1.2.1 x.1.2.2.1 x.1.2.2.2.1 x.1.2.2.2.2.1 x.2.1) e.2.2.2.1 (fun _ x => Dp e.1.1 e.1.2.1.length x)
  (fun i => (((), ((ja e.1.2.1 : Nat) : Int), e.2.2.2.1, ((ja e.2.2.2.1 : Nat) : Int), i, ()), (e, ()))) _ _ ?_ ?_ (by omega)
 ·intro k hk
  simp only [Tp]
  have hk2 : (k : Int) < ((ja e.2.2.2.1 : Nat) : Int) := by omega
  rw [Aa hk2, Mb hk]
  simp only [cond_true, jb, Dp]
  cases decide (e.2.2.2.1[k].1 ≥ e.1.1) <;> cases (e.2.2.2.1[k].2.1.1 != 9) <;> cases decide (e.2.2.2.1[k].2.1.2.2.2.1 ≥ ((ja e.1.2.1 : Nat) : Int)) <;> rfl
 ·simp only [Tp]
  rw [Ba (by omega)]; rfl
theorem F9 (e : Gb) (hz : Ja Xb e ≤ Ea) : Vm (((), (0 : Int), ()), (e, ())) =
 some (cond (Yd (fun _ x => Dp e.1.1 e.1.2.1.length x) 0 e.2.2.2.1) (.inl (((), ()), (e, ()))) (.inr ((false, ()), ()))) := by
 have h20 : Ea = 1048576 := rfl
 rw [Vk, Hk] at hz
 unfold Vm
 refine Ye (step := fun x => Ts x.1.1 x.1.2.1 x.2.1) e.2.2.2.1 (fun _ x => Dp e.1.1 e.1.2.1.length x) (fun i => (((), i, ()), (e, ()))) _ _ ?_ ?_ (by omega)
 ·intro k hk
  simp only [Ts]
  have hk2 : (k : Int) < ((ja e.2.2.2.1 : Nat) : Int) := by omega
  rw [Aa hk2, Mb hk]
  simp only [cond_true, jb, Dp]
  cases decide (e.2.2.2.1[k].1 ≥ e.1.1) <;> cases (e.2.2.2.1[k].2.1.1 != 9) <;> cases decide (e.2.2.2.1[k].2.1.2.2.2.1 ≥ ((ja e.1.2.1 : Nat) : Int)) <;> rfl
 ·simp only [Ts]
  rw [Ba (by omega)]; rfl
theorem D1 (e : Gb) (hz : Ja Xb e ≤ Ea) : PF e = some (Vi e, ()) := by
 have h20 : Ea = 1048576 := rfl
 have hz' := hz
 rw [Vk, Hk] at hz'
 unfold PF Vi
 rw [DP e.1 (by omega)]
 cases hk : Lh e.1 with
 | false => rfl
 | true =>
  simp only [jb, jg, cond_false, jk]
  by_cases h4 : e.2.1.length ≤ 4
  ·rw [Ba (show ¬ ((ja e.2.1 : Nat) : Int) > 4 by omega), Aa h4, OC _ (by omega)]
   simp only [jb, cond_false, jk]
   cases hh : Gf e.2.2.2.1 with
   | false => rfl
   | true =>
    simp only [jg, cond_false, jk]
    rw [Y3 e hz]
    have hl := (Xi hk).l2
    by_cases ho : 0 ≤ e.2.2.2.2.1 ∧ e.2.2.2.2.1 ≤ 15
    ·rw [Ba (show ¬ e.2.2.2.2.1 < 0 by omega), Ba (show ¬ e.2.2.2.2.1 > 15 by omega), Aa ho]
     simp only [cond_false, jb, Bool.and_true]
     cases Yd (fun _ m => Uf m) 0 e.2.1 with
     | false => rfl
     | true =>
      simp only [cond_true, qk, jk]
      rw [S8 e hz]
      cases Yd (fun _ x => Dp e.1.1 e.1.2.1.length x) 0 e.2.2.2.1 with
      | false => rfl
      | true =>
       simp only [cond_true, jb, qk, jk]
       rw [Ek (by omega), Aa (show (0 : Int) ≤ ((ja e.1.2.1 : Nat) : Int) by omega)]
       have e2 : ((2 : Int) == 0) = false := rfl
       rw [e2]
       simp only [cond_false, cond_true]
       by_cases hf : 0 ≤ e.2.2.1
       ·rw [Aa (show e.2.2.1 ≥ 0 from hf)]
        by_cases hf2 : e.2.2.1 < ((2 ^ e.1.2.1.length : Nat) : Int)
        ·rw [Aa hf2, Aa (show 0 ≤ e.2.2.1 ∧ e.2.2.1 < ((2 ^ e.1.2.1.length : Nat) : Int) from ⟨hf, hf2⟩)]
         cases Int.tmod e.2.2.1 2 == 0 <;> rfl
        ·rw [Ba hf2, Ba (show ¬ (0 ≤ e.2.2.1 ∧ e.2.2.1 < ((2 ^ e.1.2.1.length : Nat) : Int)) from fun h => hf2 h.2)]
         cases Int.tmod e.2.2.1 2 == 0 <;> rfl
       ·rw [Ba (show ¬ e.2.2.1 ≥ 0 from hf), Ba (show ¬ (0 ≤ e.2.2.1 ∧ e.2.2.1 < ((2 ^ e.1.2.1.length : Nat) : Int)) from fun h => hf h.1)]
        rfl
    ·have hr : (Yd (fun _ m => Uf m) 0 e.2.1 && (Yd (fun _ x => Dp e.1.1 e.1.2.1.length x) 0 e.2.2.2.1 && (decide (0 ≤ e.2.2.1 ∧ e.2.2.1 < ((2 ^ e.1.2.1.length : Nat) : Int)) && ((Int.tmod e.2.2.1 2 == 0) && decide (0 ≤ e.2.2.2.2.1 ∧ e.2.2.2.2.1 ≤ 15))))) = false := by
      rw [Ba ho]; simp
     rw [hr]
     by_cases h1 : e.2.2.2.2.1 < 0
     ·rw [Aa h1]; rfl
     ·rw [Ba h1, Aa (show e.2.2.2.2.1 > 15 by omega)]; rfl
  ·rw [Aa (show ((ja e.2.1 : Nat) : Int) > 4 by omega), Ba h4]; rfl
theorem HH (e : Gb) (hz : Ja Xb e ≤ Ea) : Ip e = some (Vi e, ()) := by
 have h20 : Ea = 1048576 := rfl
 have hz' := hz
 rw [Vk, Hk] at hz'
 unfold Ip Vi
 rw [TP e.1 (by omega)]
 cases hk : Lh e.1 with
 | false => rfl
 | true =>
  simp only [jb, jg, cond_false, jk]
  by_cases h4 : e.2.1.length ≤ 4
  ·rw [Ba (show ¬ ((ja e.2.1 : Nat) : Int) > 4 by omega), Aa h4, HD _ (by omega)]
   simp only [jb, cond_false, jk]
   cases hh : Gf e.2.2.2.1 with
   | false => rfl
   | true =>
    simp only [jg, cond_false, jk]
    rw [X4 e hz]
    have hl := (Xi hk).l2
    cases Yd (fun _ m => Uf m) 0 e.2.1 with
    | false => rfl
    | true =>
     simp only [cond_true, jb, qk, jk]
     rw [F9 e hz]
     cases Yd (fun _ x => Dp e.1.1 e.1.2.1.length x) 0 e.2.2.2.1 with
     | false => rfl
     | true =>
      simp only [cond_true, jb, qk, jk, Vc]
      have hp : (2 ^ e.1.2.1.length : Nat) ≤ 16 := qm (n := 2) (by omega) hl
      rw [Ek (by omega), Aa (show (0 : Int) ≤ ((ja e.1.2.1 : Nat) : Int) by omega)]
      generalize (2 ^ e.1.2.1.length : Nat) = P2 at hp ⊢
      rw [Tg (by omega) (by omega)]
      have e2 : ((2 : Int) == 0) = false := rfl
      rw [e2]
      simp only [cond_false, cond_true, jb]
      have e3 : decide (0 ≤ e.2.2.1 ∧ e.2.2.1 ≤ (P2 : Int) - 1) = decide (0 ≤ e.2.2.1 ∧ e.2.2.1 < (P2 : Int)) := by
       rw [decide_eq_decide]; omega
      rw [e3]
      cases decide (0 ≤ e.2.2.1 ∧ e.2.2.1 < (P2 : Int)) <;> cases Int.tmod e.2.2.1 2 == 0 <;> rfl
  ·rw [Aa (show ((ja e.2.1 : Nat) : Int) > 4 by omega), Ba h4]; rfl
def Gh (x : Ca) : Bool := decide (0 ≤ x.1 ∧ x.1 ≤ 1000000) && decide (0 ≤ x.2.1 ∧ x.2.1 ≤ 31)
theorem VI (x : Ca) : Mt x = some (Gh x, ()) := by
 unfold Mt Gh
 simp only [Ci, Di]
 apply Uc
 simp only [Rd, decide_eq_true_eq, jq, and_false, or_false, jd]
 omega
theorem UJ (x : Ca) : Fu x = some (Gh x, ()) := by
 unfold Fu Gh
 simp only [Vc, jb, Ci, Di]
 apply Uc
 simp only [Rd, decide_eq_true_eq, jq, and_false, or_false, jd]
def It (s : Int × Int) (x : Ca) : Bool := Gh x && (!decide (s.1 > x.1) && !(x.2.2.1 == (Bd s.2 x.2.1 == 1)))
def Ht (s : Int × Int) (x : Ca) : (Int × Int) ⊕ Unit := cond (It s x) (.inl (x.1, Me .i64 s.2 (Sa .i64 1 x.2.1))) (.inr ())
def Vap (l : List Ca) (d : Int) : (Int × Int) ⊕ Unit := Pc (fun _ s x => Ht s x) 0 (0, d) l
def UK (l : List Ca) (d : Int) : Int × Bool := cond (decide (l.length ≤ 64)) (match Vap l d with | .inl s => (s.2, true) | .inr _ => (0, false)) (0, false)
theorem Qj {x : Ca} (h : Gh x = true) : 0 ≤ x.1 ∧ x.1 ≤ 1000000 ∧ 0 ≤ x.2.1 ∧ x.2.1 ≤ 31 := by
 simp only [Gh, jd, decide_eq_true_eq] at h
 omega
theorem F6 (l : List Ca) (d : Int) (hn : l.length ≤ Ea) : ZL l d = some ((UK l d).1, (UK l d).2, ()) := by
 have h20 : Ea = 1048576 := rfl
 unfold ZL UK
 by_cases h64 : l.length ≤ 64
 ·rw [Ba (show ¬ ((ja l : Nat) : Int) > 64 by omega), Aa h64]
  have hl := Wg (step := fun x => Az x.1.1 x.1.2.1 x.1.2.2.1 x.1.2.2.2.1 x.1.2.2.2.2.1) l (fun _ s x => Ht s x) (fun s i => ((l, s.2, l, ((ja l : Nat) : Int), i, ()), ()))
   (fun s => .inl ((s.2, ()), ())) (fun _ => .inr (((0 : Int), false, ()), ())) (fun k s => (k = 0 → s.1 = 0) ∧ ∀ hk : k - 1 < l.length, 0 < k → s.1 = l[k - 1].1) (by
    intro k hk s ⟨hs0, hs1⟩
    refine ⟨?_, ?_⟩
    ·simp only [Az]
     rw [Aa (show (k : Int) < ((ja l : Nat) : Int) by omega), Mb hk]
     simp only [cond_true, jb, VI, Ht, It]
     generalize hx : l[k] = x
     cases hev : Gh x with
     | false => rfl
     | true =>
      have hkey := Qj hev
      simp only [jg, cond_false, jk]
      rw [Ok s.2 hkey.2.2.1, Aa hkey.2.2.1]
      simp only [jb, cond_true]
      by_cases h0 : k = 0
      ·subst h0
       rw [Ba (show ¬ ((0 : Nat) : Int) > 0 by omega), Ba (show ¬ s.1 > x.1 by rw [hs0 rfl]; omega)]
       cases (x.2.2.1 == (Bd s.2 x.2.1 == 1)) <;> rfl
      ·rw [Aa (show (k : Int) > 0 by omega), Tg (by omega) (by omega), show (k : Int) - 1 = ((k - 1 : Nat) : Int) by omega, Mb (show k - 1 < l.length by omega)]
       rw [hs1 (by omega) (by omega)]
       simp only [jb, cond_true]
       cases decide (l[k - 1].1 > x.1) <;> cases (x.2.2.1 == (Bd s.2 x.2.1 == 1)) <;> rfl
    ·intro s' h
     unfold Ht at h
     cases hc : It s l[k] with
     | false => rw [hc] at h; simp at h
     | true =>
      rw [hc] at h
      simp only [cond_true, Sum.inl.injEq] at h
      refine ⟨by omega, fun _ _ => ?_⟩
      rw [← h]
      simp only [Nat.add_sub_cancel])
   (by
    intro s _
    simp only [Az]
    rw [Ba (by omega)]; rfl) (by omega) (0, d) ⟨fun _ => rfl, fun _ h => absurd h (by omega)⟩
  unfold YA
  erw [hl]
  simp only [cond_false, jb, Vap, cond_true]
  cases Pc (fun x s x => Ht s x) 0 (0, d) l <;> rfl
 ·rw [Aa (show ((ja l : Nat) : Int) > 64 by omega), Ba h64]; rfl
def E4 (keys : Int) (l : List Ca) : Bool := Yd (fun _ (x : Ca) => !decide (x.2.1 ≥ keys)) 0 l
def Fd (q : List Ca) (d keys : Int) : Bool := E4 keys q && (UK q d).2
theorem Ds (q : List Ca) (d keys : Int) (hn : q.length ≤ Ea) : Uh q d keys = some (Fd q d keys, ()) := by
 have h20 : Ea = 1048576 := rfl
 have hl := Ye (step := fun x => Xp x.1.1 x.1.2.1 x.1.2.2.1 x.1.2.2.2.1 x.1.2.2.2.2.1 x.1.2.2.2.2.2.1) q (fun _ (x : Ca) => !decide (x.2.1 ≥ keys)) (fun i => ((q, d, keys, q, ((ja q : Nat) : Int), i, ()), ()))
  (.inl ((q, d, ()), ())) (.inr ((false, ()), ())) (by
   intro k hk
   simp only [Xp]
   rw [Aa (show (k : Int) < ((ja q : Nat) : Int) by omega), Mb hk]
   simp only [cond_true, jb]
   cases decide (q[k].2.1 ≥ keys) <;> rfl) (by
   simp only [Xp]
   rw [Ba (by omega)]; rfl) (by omega)
 unfold Uh Tt Fd E4
 erw [hl]
 simp only [jb]
 cases Yd (fun _ (x : Ca) => !decide (x.2.1 ≥ keys)) 0 q with
 | false => rfl
 | true => simp only [cond_true, qk, F6 q d hn, jb]; rfl
def ZX (keys : Int) (s : Int × Int) (x : Ca) : (Int × Int) ⊕ Unit := cond (It s x && !decide (x.2.1 ≥ keys)) (.inl (x.1, Me .i64 s.2 (Sa .i64 1 x.2.1))) (.inr ())
theorem FZ (keys : Int) : ∀ (l : List Ca) (k : Nat) (s : Int × Int), Bm (Pc (fun _ s x => ZX keys s x) k s l) = (Yd (fun _ (x : Ca) => !decide (x.2.1 ≥ keys)) k l && Bm (Pc (fun _ s x => Ht s x) k s l))
 | [], _, _ => rfl
 | x :: l, k, s => by
  simp only [Pc, Yd, ZX, Ht]
  cases It s x with
  | false => simp [Bm]
  | true =>
   cases decide (x.2.1 ≥ keys) with
   | true => simp [Bm]
   | false => simp only [jk, qa, cond_true]; exact FZ keys l (k + 1) _
theorem Qq (q : List Ca) (d keys : Int) (hn : q.length ≤ Ea) : Mj q d keys 0 = some (Fd q d keys, ()) := by
 have h20 : Ea = 1048576 := rfl
 have hl := Wg (step := fun x => Uo x.1.1 x.1.2.1 x.1.2.2.1 x.1.2.2.2.1 x.1.2.2.2.2.1) q (fun _ s x => ZX keys s x) (fun s i => ((q, s.2, keys, s.1, i, ()), ()))
  (fun s => .inl ((q, ()), ())) (fun _ => .inr ((false, ()), ())) (fun _ _ => True) (by
   intro k hk s _
   refine ⟨?_, fun _ _ => trivial⟩
   simp only [Uo]
   rw [Aa (show (k : Int) < ((ja q : Nat) : Int) by omega), Mb hk]
   simp only [cond_true, jb, UJ, ZX, It]
   generalize q[k] = x
   cases hev : Gh x with
   | false => rfl
   | true =>
    have hkey := Qj hev
    simp only [jg, cond_false, jk, Bd]
    rw [Aa hkey.2.2.1]
    simp only [gt_iff_lt]
    cases decide (x.2.1 ≥ keys) <;> cases decide (x.1 < s.1) <;> cases (x.2.2.1 == (Wa .i64 (Yb .i64 s.2 x.2.1) 1 == 1)) <;> rfl)
  (by
   intro s _
   simp only [Uo]
   rw [Ba (by omega)]; rfl) (by omega) (0, d) trivial
 unfold Mj Mr
 erw [hl]
 have hsp := FZ keys q 0 (0, d)
 simp only [jb, Fd, E4, UK, Vap]
 by_cases h64 : q.length ≤ 64
 ·rw [Aa h64]
  cases h1 : Pc (fun _ s x => ZX keys s x) 0 (0, d) q with
  | inl s =>
   rw [h1] at hsp
   simp only [Bm] at hsp
   cases h2 : Pc (fun _ s x => Ht s x) 0 (0, d) q with
   | inl s2 =>
    rw [h2] at hsp
    simp only [Bm, Bool.and_true] at hsp
    rw [← hsp]
    simp only [qk]
    rw [Aa (show ((ja q : Nat) : Int) ≤ 64 by omega)]; rfl
   | inr u => rw [h2] at hsp; simp [Bm] at hsp
  | inr u =>
   rw [h1] at hsp
   simp only [Bm] at hsp
   cases h2 : Pc (fun _ s x => Ht s x) 0 (0, d) q with
   | inl s2 =>
    rw [h2] at hsp
    simp only [Bm, Bool.and_true] at hsp
    rw [← hsp]; rfl
   | inr u => cases Yd (fun _ (x : Ca) => !decide (x.2.1 ≥ keys)) 0 q <;> rfl
 ·rw [Ba h64]
  cases h1 : Pc (fun _ s x => ZX keys s x) 0 (0, d) q with
  | inl s => simp only [qk]; rw [Ba (show ¬ ((ja q : Nat) : Int) ≤ 64 by omega)]; cases Yd (fun _ (x : Ca) => !decide (x.2.1 ≥ keys)) 0 q <;> rfl
  | inr u => cases Yd (fun _ (x : Ca) => !decide (x.2.1 ≥ keys)) 0 q <;> rfl
def Xk (t : MK) : Bool := decide (1 ≤ t.1 ∧ t.1 ≤ 1000) && (decide (0 ≤ t.2.1 ∧ t.2.1 ≤ 1000) && decide (0 ≤ t.2.2.1 ∧ t.2.2.1 ≤ 2))
theorem RN (t : MK) : Yw t = some (Xk t, ()) := by
 unfold Yw Xk
 simp only [Ci, Di]
 apply Uc
 simp only [Rd, decide_eq_true_eq, jq, and_false, or_false, jd]
 omega
theorem UN (t : MK) : Mx t = some (Xk t, ()) := by
 unfold Mx Xk
 simp only [Vc, jb, Ci, Di]
 apply Uc
 simp only [Rd, decide_eq_true_eq, jq, and_false, or_false, jd]
theorem WJ (e : Gb) (hn : e.2.2.2.1.length ≤ Ea) (hx : ∀ x ∈ e.2.2.2.1, Bt x) : Ju e = some (Ns e.2.2.2.1, ()) := by
 have h20 : Ea = 1048576 := rfl
 have hl := (Pe (step := fun x => Gw x.1.1 x.1.2.1 x.1.2.2.1 x.2.1) e.2.2.2.1 (fun _ s (x : Pa) => Oc .i64 s (Sa .i64 1 x.1)) (fun s i => (((), s, i, ()), (e, ())))
  (fun s => .inl ((s, ()), ())) (fun _ _ => True) (by
   intro k hk s _
   refine ⟨?_, trivial⟩
   simp only [Gw]
   rw [Aa (show (k : Int) < ((ja e.2.2.2.1 : Nat) : Int) by omega), Mb hk]
   have hk' := hx _ (qr hk)
   simp only [cond_true, jb, Lr, Vc]
   rw [Aa (show 0 ≤ e.2.2.2.1[k].1 ∧ e.2.2.2.1[k].1 ≤ 31 from ⟨hk'.lo, hk'.hi⟩), Aa hk'.lo]; rfl)
  (by
   intro s _
   simp only [Gw]
   rw [Ba (by omega)]; rfl) (by omega) 0 trivial).1
 unfold Ju Jy
 erw [hl]
 rfl
def DY (l : List Ca) : Int := (l.getD (l.length - 1) (0, 0, false, ())).1
def Hf (l : List Ca) (t : Int) : Bool := ((l.length : Int) == 0) || decide (DY l ≤ t)
theorem BP {l : List Ca} (h : 0 < l.length) (hn : l.length ≤ Ea) : ∃ x, Ab l (j5 .i64 (((ja l : Nat) : Int) - 1)) = some x ∧ x.1 = DY l := by
 have h20 : Ea = 1048576 := rfl
 refine ⟨l[l.length - 1], ?_, ?_⟩
 ·rw [Tg (by omega) (by omega), show ((ja l : Nat) : Int) - 1 = ((l.length - 1 : Nat) : Int) by omega, Mb (by omega)]
 ·simp [DY, List.getD, je (show l.length - 1 < l.length by omega)]
theorem Cs (l : List Ca) (t : Int) (hn : l.length ≤ Ea) : Sh l t = some (Hf l t, ()) := by
 unfold Sh Hf
 by_cases h0 : l.length = 0
 ·simp [h0]
 ·obtain ⟨x, h1, h2⟩ := BP (l := l) (by omega) hn
  rw [h1, show (((l.length : Nat) : Int) == 0) = false by simp; intro h; rw [h] at h0; simp at h0]
  simp only [cond_false, jb, h2, Bool.false_or]
noncomputable def Af (d : Hb) : Bool :=
 Vi d.1 && (Xk d.2.1 && (decide (0 ≤ d.2.2.2.1 ∧ d.2.2.2.1 ≤ 1000000) && (decide (0 ≤ d.2.2.2.2.1 ∧ d.2.2.2.2.1 ≤ d.2.2.2.1) && (Fd d.2.2.1 (Ns d.1.2.2.2.1) d.1.1.1 && (Hf d.2.2.1 d.2.2.2.1 &&
  (decide (0 ≤ d.2.2.2.2.2.1 ∧ d.2.2.2.2.2.1 ≤ d.1.1.1) && decide (0 ≤ d.2.2.2.2.2.2.1 ∧ d.2.2.2.2.2.2.1 ≤ d.2.2.2.1)))))))
theorem MM (d : Hb) : Ja Cc d = Ja Xb d.1 + Ja (.sl Za) d.2.2.1 := by
 simp only [Ja, Nat.add_zero, js]
theorem HC (l : List Ca) : Ja (.sl Za) l = l.length := Fo (e := Za) rfl l
theorem Sx {e : Gb} (h : Vi e = true) : Gf e.2.2.2.1 = true := by
 simp only [Vi, jd] at h
 exact h.2.2.1
theorem QN (d : Hb) (hz : Ja Cc d ≤ Ea) : Lt d = some (Af d, ()) := by
 have hz' := hz
 rw [MM, HC] at hz'
 have hz2 := hz'
 rw [Vk, Hk] at hz2
 unfold Lt Af
 rw [D1 _ (by omega)]
 cases he : Vi d.1 with
 | false => rfl
 | true =>
  have hh := An (Sx he)
  simp only [jb, jg, cond_false, jk, RN]
  cases Xk d.2.1 with
  | false => rfl
  | true =>
   rw [XG _ (by omega) hh]
   simp only [jb, jg, cond_false, jk]
   rw [Ds _ _ _ (by omega), Cs _ _ (by omega)]
   simp only [jb]
   have key : ∀ a b c e f g h i j k : Bool, cond a (some (false, ())) (cond b (some (false, ())) (cond c (some (false, ())) (cond e (some (false, ())) (cond (!f) (some (false, ())) (cond (!g) (some (false, ())) (cond h (cond i (cond j (some (k, ())) (some (false, ()))) (some (false, ()))) (some (false, ())))))))) =
    some ((((!a && !b) && ((!c && !e) && (f && (g && ((h && i) && (j && k)))))), ()) : Bool × Unit) := by
    intro a b c e f g h i j k
    cases a <;> cases b <;> cases c <;> cases e <;> cases f <;> cases g <;> cases h <;> cases i <;> cases j <;> cases k <;> rfl
   erw [key]
   apply Uc
   simp only [jd, Bool.not_eq_true', decide_eq_true_eq, decide_eq_false_iff_not]
   constructor
   ·rintro ⟨⟨h1, h2⟩, ⟨h3, h4⟩, h5, h6, ⟨h7, h8⟩, h9, h10⟩
    exact ⟨⟨by omega, by omega⟩, ⟨by omega, by omega⟩, h5, h6, ⟨h7, h8⟩, h9, h10⟩
   ·rintro ⟨⟨h1, h2⟩, ⟨h3, h4⟩, h5, h6, ⟨h7, h8⟩, h9, h10⟩
    exact ⟨⟨by omega, by omega⟩, ⟨by omega, by omega⟩, h5, h6, ⟨h7, h8⟩, h9, h10⟩
theorem TN (d : Hb) (hz : Ja Cc d ≤ Ea) : Eu d = some (Af d, ()) := by
 have hz' := hz
 rw [MM, HC] at hz'
 have hz2 := hz'
 rw [Vk, Hk] at hz2
 unfold Eu Af
 rw [HH _ (by omega)]
 cases he : Vi d.1 with
 | false => rfl
 | true =>
  have hh := An (Sx he)
  simp only [jb, jg, cond_false, jk, UN, Vc]
  cases Xk d.2.1 with
  | false => rfl
  | true =>
   rw [WJ _ (by omega) hh]
   simp only [jb, jg, cond_false, jk]
   rw [Qq _ _ _ (by omega)]
   simp only [jb, Hf]
   by_cases h0 : d.2.2.1.length = 0
   ·rw [Ba (show ¬ ((ja d.2.2.1 : Nat) : Int) > 0 by omega), show (((d.2.2.1.length : Nat) : Int) == 0) = true by simp [h0]]
    simp only [cond_false, Bool.true_or, jk]
    cases decide (0 ≤ d.2.2.2.1 ∧ d.2.2.2.1 ≤ 1000000) <;> cases decide (0 ≤ d.2.2.2.2.1 ∧ d.2.2.2.2.1 ≤ d.2.2.2.1) <;> cases Fd d.2.2.1 (Ns d.1.2.2.2.1) d.1.1.1 <;> cases decide (0 ≤ d.2.2.2.2.2.1 ∧ d.2.2.2.2.2.1 ≤ d.1.1.1) <;> rfl
   ·obtain ⟨x, h1, h2⟩ := BP (l := d.2.2.1) (by omega) (by omega)
    rw [Aa (show ((ja d.2.2.1 : Nat) : Int) > 0 by omega), h1, show (((d.2.2.1.length : Nat) : Int) == 0) = false by simp; intro h; rw [h] at h0; simp at h0]
    simp only [cond_true, jb, Bool.false_or, h2]
    have e1 : decide (DY d.2.2.1 > d.2.2.2.1) = !decide (DY d.2.2.1 ≤ d.2.2.2.1) := by
     rw [qx]; simp only [decide_eq_true_eq, Bool.not_eq_true', decide_eq_false_iff_not]; omega
    rw [e1]
    cases decide (0 ≤ d.2.2.2.1 ∧ d.2.2.2.1 ≤ 1000000) <;> cases decide (0 ≤ d.2.2.2.2.1 ∧ d.2.2.2.2.1 ≤ d.2.2.2.1) <;> cases Fd d.2.2.1 (Ns d.1.2.2.2.1) d.1.1.1 <;> cases decide (DY d.2.2.1 ≤ d.2.2.2.1) <;> cases decide (0 ≤ d.2.2.2.2.2.1 ∧ d.2.2.2.2.2.1 ≤ d.1.1.1) <;> rfl

def Se {S : Type} (g : Nat → S → S) : Nat → S → S
 | 0, s => s
 | n + 1, s => g n (Se g n s)
theorem Nh {X R S : Type} {step : X → Option (X ⊕ R)} (n : Nat) (hn : n < 9223372036854775807) (g : Nat → S → S) (s0 : S) (I : S → Int → X) (out : S → R)
 (h : ∀ k, k < n → step (I (Se g k s0) (k : Int)) = some (.inl (I (g k (Se g k s0)) (j5 .i64 ((k : Int) + 1))))) (he : step (I (Se g n s0) (n : Int)) = some (.inr (out (Se g n s0)))) :
 Ua step (I s0 0) = some (out (Se g n s0)) := by
 have := PB (step := step) (fun k => I (Se g k s0) (k : Int)) n (out (Se g n s0)) (fun k hk => by
  rw [h k hk, Gc (by omega)]; rfl) he
 exact this
theorem NU {e : Ty} {c : Nat} : ∀ {w : List (T e)}, (∀ x ∈ w, Ja e x ≤ c) → Ja (.sl e) w ≤ (c + 1) * w.length
 | [], _ => by simp [Ja]
 | x :: r, h => by
  have h1 := h x (by simp)
  have h2 : Ja (.sl e) r ≤ (c + 1) * r.length := NU fun y hy => h y (by simp [hy])
  have h3 : Ja (.sl e) r = ja r + (List.map (Ja e) r).sum := rfl
  have h4 : Ja (.sl e) (x :: r) = (ja r + 1) + (Ja e x + (List.map (Ja e) r).sum) := by simp [Ja]
  rw [h4, jw, Nat.mul_add]
  omega
theorem Lj {n : Nat} (h : n ≤ 1073741824) : jx n Ta = true := ji h
theorem T3 {α β : Type} (f : α → β) : ∀ (xs : List α) (k : Nat) (o : List β), Jd (fun _ o x => jf o [f x]) k o xs = o ++ xs.map f
 | [], _, o => by simp [Jd]
 | x :: r, k, o => by
  simp only [Jd]
  rw [T3 f r]
  simp
theorem SQ {X R α β : Type} {step : X → Option (X ⊕ R)} (xs : List α) (f : α → β) (I : List β → Int → X) (out : List β → R) (hn : xs.length ≤ 1073741824)
 (h : ∀ k (hk : k < xs.length) (o : List β), ja o = k → step (I o (k : Int)) = some (.inl (I (jf o [f xs[k]]) (j5 .i64 ((k : Int) + 1)))))
 (he : ∀ o : List β, step (I o (xs.length : Int)) = some (.inr (out o))) : Ua step (I [] 0) = some (out (xs.map f)) := by
 have := (Pe (step := step) xs (fun _ o x => jf o [f x]) I out (fun k o => ja o = k) (fun k hk o ho => ⟨h k hk o ho, by simp [ho]⟩) (fun o _ => he o) (by omega) [] rfl).1
 rw [this, T3]
 rfl
theorem Qau (a : List Int) : Ja (.sl int) a = a.length := Fo (e := int) rfl a
theorem G5 (a : List Bb) : Ja (.sl Rb) a = a.length := Fo (e := Rb) rfl a
theorem Hay (r : Ha) : Ja Zb r = r.2.1.length := by
 show 0 + (Ja (.sl int) r.2.1 + 0) = _
 rw [Qau]; omega
theorem B7 (r : Ha) (h : r.2.1.length ≤ Ea) : JM r = some (r, ()) := by
 have h20 : Ea = 1048576 := rfl
 unfold JM
 rw [Lj (by simp; omega)]
 rfl
theorem GP (l : List Int) (h : l.length ≤ Ea) : Ax l = some (l, ()) := by
 have h20 : Ea = 1048576 := rfl
 unfold Ax
 rw [Lj (by simp; omega)]
 rfl

theorem GK : (2 : Nat) ^ 63 = 9223372036854775808 := rfl
theorem KI {a : Nat} (ha : a < 2 ^ 63) : (BitVec.ofInt 64 (a : Int)).toNat = a := by
 rw [BitVec.ofInt_natCast, BitVec.toNat_ofNat, Nat.mod_eq_of_lt (by omega)]
theorem XK {a b : Nat} (ha : a < 2 ^ 63) (hb : b < 2 ^ 63) : Wa .i64 (a : Int) (b : Int) = ((a &&& b : Nat) : Int) := by
 have h : (BitVec.ofInt (IntKind.bits .i64) (a : Int) &&& BitVec.ofInt (IntKind.bits .i64) (b : Int)).toNat = a &&& b := by
  rw [BitVec.toNat_and]; erw [KI ha, KI hb]
 unfold Wa
 rw [h]
 have h2 : a &&& b ≤ a := Nat.and_le_left
 have h3 := GK
 exact Tg (by omega) (by omega)
theorem TC {a b : Nat} (ha : a < 2 ^ 63) (hb : b < 2 ^ 63) : Oc .i64 (a : Int) (b : Int) = ((a ||| b : Nat) : Int) := by
 have h : (BitVec.ofInt (IntKind.bits .i64) (a : Int) ||| BitVec.ofInt (IntKind.bits .i64) (b : Int)).toNat = a ||| b := by
  rw [BitVec.toNat_or]; erw [KI ha, KI hb]
 unfold Oc
 rw [h]
 have h2 : a ||| b < 2 ^ 63 := Nat.or_lt_two_pow ha hb
 have h3 := GK
 exact Tg (by omega) (by omega)
theorem ZK {a b : Nat} (ha : a < 2 ^ 63) (hb : b < 2 ^ 63) : Me .i64 (a : Int) (b : Int) = ((a ^^^ b : Nat) : Int) := by
 have h : (BitVec.ofInt (IntKind.bits .i64) (a : Int) ^^^ BitVec.ofInt (IntKind.bits .i64) (b : Int)).toNat = a ^^^ b := by
  rw [BitVec.toNat_xor]; erw [KI ha, KI hb]
 unfold Me
 rw [h]
 have h2 : a ^^^ b < 2 ^ 63 := qq ha hb
 have h3 := GK
 exact Tg (by omega) (by omega)
theorem BaD {w : Nat} (x y : BitVec w) : x &&& ~~~y = x ^^^ (x &&& y) := by
 ext i hi
 simp only [BitVec.getElem_and, BitVec.getElem_not, BitVec.getElem_xor]
 cases x[i] <;> cases y[i] <;> rfl
theorem AW {a b : Nat} (ha : a < 2 ^ 63) (hb : b < 2 ^ 63) : Jb .i64 (a : Int) (b : Int) = ((a ^^^ (a &&& b) : Nat) : Int) := by
 have h : (BitVec.ofInt (IntKind.bits .i64) (a : Int) &&& ~~~ BitVec.ofInt (IntKind.bits .i64) (b : Int)).toNat = a ^^^ (a &&& b) := by
  rw [BaD, BitVec.toNat_xor, BitVec.toNat_and]; erw [KI ha, KI hb]
 unfold Jb
 rw [h]
 have h1 : a &&& b ≤ a := Nat.and_le_left
 have h2 : a ^^^ (a &&& b) < 2 ^ 63 := qq ha (by omega)
 have h3 := GK
 exact Tg (by omega) (by omega)
theorem YT (a : Nat) {k : Nat} (hk : k ≤ 64) : Yb .i64 (a : Int) (k : Int) = ((a >>> k : Nat) : Int) := by
 unfold Yb
 have h1 : min (jy (k : Int)) (IntKind.bits .i64) = k := by
  show min (jy (k : Int)) 64 = k
  rw [jn]; omega
 rw [h1, Nat.shiftRight_eq_div_pow]
 have h2 : (2 : Int) ^ k = ((2 ^ k : Nat) : Int) := by simp
 rw [h2]
 exact (Int.fdiv_eq_ediv_of_nonneg _ (Int.natCast_nonneg _)).trans (by simp)
theorem Qaw {a k : Nat} (h : a * 2 ^ k < 2 ^ 63) (hk : k ≤ 64) : Sa .i64 (a : Int) (k : Int) = ((a <<< k : Nat) : Int) := by
 unfold Sa
 have h1 : min (jy (k : Int)) (IntKind.bits .i64) = k := by
  show min (jy (k : Int)) 64 = k
  rw [jn]; omega
 have h2 : (2 : Int) ^ k = ((2 ^ k : Nat) : Int) := by simp
 have h4 : (a : Int) * ((2 ^ k : Nat) : Int) = ((a * 2 ^ k : Nat) : Int) := by simp
 rw [h1, Nat.shiftLeft_eq, h2, h4]
 have h3 := GK
 generalize a * 2 ^ k = z at *
 exact Tg (by omega) (by omega)
theorem Zq {a k : Nat} (ha : a < 2 ^ 63) (hk : k ≤ 64) : (Bd (a : Int) (k : Int) == 1) = a.testBit k := by
 unfold Bd
 have h1 : a >>> k ≤ a := by rw [Nat.shiftRight_eq_div_pow]; exact Nat.div_le_self _ _
 have h3 := GK
 rw [YT a hk]
 show (Wa .i64 ((a >>> k : Nat) : Int) ((1 : Nat) : Int) == 1) = _
 rw [XK (by omega) (by omega), Nat.and_one_is_mod, Nat.testBit_eq_decide_div_mod_eq, Nat.shiftRight_eq_div_pow]
 have : a / 2 ^ k % 2 = 0 ∨ a / 2 ^ k % 2 = 1 := by omega
 rcases this with h | h <;> rw [h] <;> rfl
theorem Ni {k : Nat} (hk : k ≤ 62) : (2 : Nat) ^ k < 2 ^ 63 := Nat.pow_lt_pow_right (by omega) (by omega)
theorem MaL {a k : Nat} (ha : a < 2 ^ 63) (hk : k ≤ 62) (h : (Bd (a : Int) (k : Int) == 1) = false) :
 Oc .i64 (a : Int) (Sa .i64 1 (k : Int)) = Me .i64 (a : Int) (Sa .i64 1 (k : Int)) := by
 rw [Zq ha (by omega)] at h
 rw [Ek (by omega), TC ha (Ni hk), ZK ha (Ni hk)]
 congr 1
 apply Nat.eq_of_testBit_eq
 intro i
 rw [Nat.testBit_or, qn, qo]
 by_cases hi : k = i
 ·subst hi; rw [h, Aa rfl]; rfl
 ·rw [Ba hi]; cases a.testBit i <;> rfl
theorem Yav {a k : Nat} (ha : a < 2 ^ 63) (hk : k ≤ 62) (h : (Bd (a : Int) (k : Int) == 1) = true) :
 Jb .i64 (a : Int) (Sa .i64 1 (k : Int)) = Me .i64 (a : Int) (Sa .i64 1 (k : Int)) := by
 rw [Zq ha (by omega)] at h
 rw [Ek (by omega), AW ha (Ni hk), ZK ha (Ni hk)]
 congr 1
 apply Nat.eq_of_testBit_eq
 intro i
 rw [qn, qn, Nat.testBit_and, qo]
 by_cases hi : k = i
 ·subst hi; rw [h, Aa rfl]; rfl
 ·rw [Ba hi]; cases a.testBit i <;> rfl
theorem Raf {a k : Nat} (ha : a < 2 ^ 63) (hk : k ≤ 62) : ∃ b : Nat, Me .i64 (a : Int) (Sa .i64 1 (k : Int)) = (b : Int) ∧ b < 2 ^ 63 := by
 rw [Ek (by omega), ZK ha (Ni hk)]
 exact ⟨_, rfl, qq ha (Ni hk)⟩
theorem CaK {a k n : Nat} (ha : a < 2 ^ 63) (hk : k ≤ 62) (hn : n ≤ 64) :
 (Bd (Oc .i64 (a : Int) (Sa .i64 1 (k : Int))) (n : Int) == 1) = ((Bd (a : Int) (n : Int) == 1) || decide (k = n)) := by
 rw [Ek (by omega), TC ha (Ni hk), Zq (Nat.or_lt_two_pow ha (Ni hk)) hn, Zq ha hn, Nat.testBit_or, qo]
theorem Waf {a : Nat} (ha : a < 2 ^ 64) : (BitVec.ofInt 64 (a : Int)).toNat = a := by
 rw [BitVec.ofInt_natCast, BitVec.toNat_ofNat, Nat.mod_eq_of_lt (by omega)]
theorem ER {a : Nat} (h : a < 2 ^ 64) : j5 .u64 (a : Int) = (a : Int) := by
 have h2 : (2 : Nat) ^ 64 = 18446744073709551616 := by decide
 exact IntWalk.u64_in _ ⟨by omega, by omega⟩
theorem Tas {a b : Nat} (ha : a < 2 ^ 64) (hb : b < 2 ^ 64) : Wa .u64 (a : Int) (b : Int) = ((a &&& b : Nat) : Int) := by
 have h : (BitVec.ofInt (IntKind.bits .u64) (a : Int) &&& BitVec.ofInt (IntKind.bits .u64) (b : Int)).toNat = a &&& b := by
  rw [BitVec.toNat_and]; erw [Waf ha, Waf hb]
 unfold Wa
 rw [h]
 have h2 : a &&& b ≤ a := Nat.and_le_left
 exact ER (by omega)
theorem Yas (a : Nat) {k : Nat} (hk : k ≤ 64) : Yb .u64 (a : Int) (k : Int) = ((a / 2 ^ k : Nat) : Int) := by
 unfold Yb
 have h1 : min (jy (k : Int)) (IntKind.bits .u64) = k := by
  show min (jy (k : Int)) 64 = k
  rw [jn]; omega
 rw [h1]
 have h2 : (2 : Int) ^ k = ((2 ^ k : Nat) : Int) := by simp
 rw [h2]
 exact (Int.fdiv_eq_ediv_of_nonneg _ (Int.natCast_nonneg _)).trans (by simp)
def cnt : Nat → Nat → Nat
 | 0, _ => 0
 | k + 1, n => n % 2 + cnt k (n / 2)
theorem J3 : ∀ k n, cnt k n ≤ k
 | 0, _ => jo _
 | k + 1, n => by have := J3 k (n / 2); simp only [cnt]; omega
theorem UX : ∀ j k n, cnt (j + k) n = cnt j n + cnt k (n / 2 ^ j)
 | 0, k, n => by simp [cnt]
 | j + 1, k, n => by
  have h := UX j k (n / 2)
  rw [show j + 1 + k = (j + k) + 1 by omega]
  simp only [cnt, h, Nat.div_div_eq_div_mul, Nat.pow_succ, Nat.mul_comm]
  omega
theorem T5 : ∀ j n, cnt j (n % 2 ^ j) = cnt j n
 | 0, _ => rfl
 | j + 1, n => by
  have h := T5 j (n / 2)
  have e1 : n % 2 ^ (j + 1) % 2 = n % 2 := Nat.mod_mod_of_dvd _ (by rw [Nat.pow_succ]; exact ⟨2 ^ j, Nat.mul_comm _ _⟩)
  have e2 : n % 2 ^ (j + 1) / 2 = n / 2 % 2 ^ j := by
   rw [Nat.pow_succ, Nat.mul_comm, Nat.mod_mul_right_div_self]
  simp only [cnt, e1, e2, h]
theorem Uab : ∀ k, cnt k 0 = 0
 | 0 => rfl
 | k + 1 => by have := Uab k; simp [cnt, this]
def u1 (a : Nat) : Nat := ((a / 2) &&& 85) + (a &&& 85)
def u2 (a : Nat) : Nat := ((a / 4) &&& 51) + (a &&& 51)
theorem Iar : ∀ a : Fin 256, u1 a.val < 256 := by decide +kernel
theorem Jar : ∀ a : Fin 256, u2 (u1 a.val) % 16 ≤ 4 ∧ u2 (u1 a.val) / 16 ≤ 4 := by decide +kernel
theorem Kar : ∀ a : Fin 256, (u2 (u1 a.val) / 16 + u2 (u1 a.val)) % 16 = cnt 8 a.val := by decide +kernel
theorem m5 : ∀ a : Fin 128, (a.val &&& 85) = (a.val + 128 * 1) &&& 85 := by decide +kernel
theorem m3 : ∀ a : Fin 64, ∀ c : Fin 4, (a.val &&& 51) = (a.val + 64 * c.val) &&& 51 := by decide +kernel
theorem m5' {a c : Nat} (h : a < 128) (hc : c < 2) : (a + 128 * c) &&& 85 = a &&& 85 := by
 have : c = 0 ∨ c = 1 := by omega
 rcases this with rfl | rfl
 ·rfl
 ·exact (m5 ⟨a, h⟩).symm
theorem m3' {a c : Nat} (h : a < 64) (hc : c < 4) : (a + 64 * c) &&& 51 = a &&& 51 := (m3 ⟨a, h⟩ ⟨c, hc⟩).symm
theorem KV {a b m p : Nat} (ha : a < 256) (hp : p < 256) : (a + 256 * b) &&& (p + 256 * m) = (a &&& p) + 256 * (b &&& m) := by
 have h1 : ((a + 256 * b) &&& (p + 256 * m)) % 2 ^ 8 = a &&& p := by
  rw [Nat.and_mod_two_pow]
  congr 1 <;> omega
 have h2 : ((a + 256 * b) &&& (p + 256 * m)) / 2 ^ 8 = b &&& m := by
  rw [← Nat.shiftRight_eq_div_pow, Nat.shiftRight_and_distrib, Nat.shiftRight_eq_div_pow, Nat.shiftRight_eq_div_pow]
  congr 1 <;> omega
 generalize (a + 256 * b) &&& (p + 256 * m) = z at *
 rw [← h1, ← h2]
 omega
theorem Jab {a b c M m : Nat} (ha : a < 256) (hb : b < 256) (hc : c < 256) (hm : m < 256) (hM : M = m + 256 * (m + 256 * (m + 256 * (M / 16777216)))) :
 (a + 256 * (b + 256 * c)) &&& M = (a &&& m) + 256 * ((b &&& m) + 256 * (c &&& m)) := by
 rw [hM, show c = c + 256 * 0 by omega, KV ha hm, KV hb hm, KV hc hm]
 simp
def M5 : Nat := 6148914691236517205
def M3 : Nat := 3689348814741910323
def MF : Nat := 1085102592571150095
def s1 (n : Nat) : Nat := (n / 2 &&& M5) + (n &&& M5)
def s2 (n : Nat) : Nat := (n / 4 &&& M3) + (n &&& M3)
def s3 (n : Nat) : Nat := (n / 16 + n) &&& MF
theorem PaW {a b c : Nat} (ha : a < 256) (hb : b < 256) (hc : c < 256) : s1 (a + 256 * (b + 256 * c)) = u1 a + 256 * (u1 b + 256 * u1 c) := by
 unfold s1
 have h : (a + 256 * (b + 256 * c)) / 2 = (a / 2 + 128 * (b % 2)) + 256 * ((b / 2 + 128 * (c % 2)) + 256 * (c / 2 + 128 * 0)) := by omega
 rw [h, Jab (m := 85) (by omega) (by omega) (by omega) (by omega) rfl, Jab (m := 85) ha hb hc (by omega) rfl, m5' (by omega) (by omega), m5' (by omega) (by omega), m5' (by omega) (by omega)]
 unfold u1
 omega
theorem RaW {a b c : Nat} (ha : a < 256) (hb : b < 256) (hc : c < 256) : s2 (a + 256 * (b + 256 * c)) = u2 a + 256 * (u2 b + 256 * u2 c) := by
 unfold s2
 have h : (a + 256 * (b + 256 * c)) / 4 = (a / 4 + 64 * (b % 4)) + 256 * ((b / 4 + 64 * (c % 4)) + 256 * (c / 4 + 64 * 0)) := by omega
 rw [h, Jab (m := 51) (by omega) (by omega) (by omega) (by omega) rfl, Jab (m := 51) ha hb hc (by omega) rfl, m3' (by omega) (by omega), m3' (by omega) (by omega), m3' (by omega) (by omega)]
 unfold u2
 omega
theorem Aap (x : Nat) : x &&& 15 = x % 16 := by
 have := Nat.and_two_pow_sub_one_eq_mod x 4
 exact this
theorem TaW {a b c : Nat} (ha : a % 16 ≤ 4 ∧ a / 16 ≤ 4) (hb : b % 16 ≤ 4 ∧ b / 16 ≤ 4) (hc : c % 16 ≤ 4 ∧ c / 16 ≤ 4) :
 s3 (a + 256 * (b + 256 * c)) = (a / 16 + a) % 16 + 256 * ((b / 16 + b) % 16 + 256 * ((c / 16 + c) % 16)) := by
 unfold s3
 have h : (a + 256 * (b + 256 * c)) / 16 + (a + 256 * (b + 256 * c)) = (a / 16 + a + 16 * (b % 16)) + 256 * ((b / 16 + b + 16 * (c % 16)) + 256 * (c / 16 + c)) := by omega
 rw [h, Jab (m := 15) (by omega) (by omega) (by omega) (by omega) rfl, Aap, Aap, Aap]
 omega
def Pax (z : Nat) : Nat := (z + z / 256 + (z + z / 256) / 65536 + (z + z / 256 + (z + z / 256) / 65536) / 4294967296) % 128
theorem NaL {n : Nat} (h : n < 16777216) : Pax (s3 (s2 (s1 n))) = cnt 32 n := by
 have e : n = n % 256 + 256 * (n / 256 % 256 + 256 * (n / 65536)) := by omega
 have ha : n % 256 < 256 := by omega
 have hb : n / 256 % 256 < 256 := by omega
 have hc : n / 65536 < 256 := by omega
 have hcnt : cnt 32 n = cnt 8 (n % 256) + (cnt 8 (n / 256 % 256) + cnt 8 (n / 65536)) := by
  rw [show (32 : Nat) = 8 + (8 + (8 + 8)) from rfl, UX, UX, UX]
  have e1 := T5 8 n
  have e2 := T5 8 (n / 2 ^ 8)
  rw [← e1, ← e2]
  have e3 : n / 2 ^ 8 / 2 ^ 8 = n / 65536 := by omega
  have e4 : n / 65536 / 2 ^ 8 = 0 := by omega
  rw [e3, e4, Uab]
  simp
 rw [hcnt]
 generalize n % 256 = a at *
 generalize n / 256 % 256 = b at *
 generalize n / 65536 = c at *
 rw [e, PaW ha hb hc, RaW (Iar ⟨a, ha⟩) (Iar ⟨b, hb⟩) (Iar ⟨c, hc⟩), TaW (Jar ⟨a, ha⟩) (Jar ⟨b, hb⟩) (Jar ⟨c, hc⟩), Kar ⟨a, ha⟩, Kar ⟨b, hb⟩, Kar ⟨c, hc⟩]
 have h1 := J3 8 a
 have h2 := J3 8 b
 have h3 := J3 8 c
 show Pax (cnt 8 a + 256 * (cnt 8 b + 256 * cnt 8 c)) = _
 unfold Pax
 generalize cnt 8 a = i at *
 generalize cnt 8 b = j at *
 generalize cnt 8 c = k at *
 have g1 : (i + 256 * (j + 256 * k)) / 256 = j + 256 * k := by omega
 rw [g1]
 have g2 : (i + 256 * (j + 256 * k) + (j + 256 * k)) / 65536 = k := by omega
 rw [g2]
 have g3 : (i + 256 * (j + 256 * k) + (j + 256 * k) + k) / 4294967296 = 0 := by omega
 rw [g3]
 omega
theorem OaW {n : Nat} (h : n < 16777216) : s1 n < 33554432 := by
 have h1 : n / 2 &&& M5 ≤ n / 2 := Nat.and_le_left
 have h2 : n &&& M5 ≤ n := Nat.and_le_left
 unfold s1; omega
theorem QaW {n : Nat} (h : n < 33554432) : s2 n < 67108864 := by
 have h1 : n / 4 &&& M3 ≤ n / 4 := Nat.and_le_left
 have h2 : n &&& M3 ≤ n := Nat.and_le_left
 unfold s2; omega
theorem SaW {n : Nat} (h : n < 67108864) : s3 n < 134217728 := by
 have h1 : (n / 16 + n) &&& MF ≤ n / 16 + n := Nat.and_le_left
 unfold s3; omega
theorem AaK (x : Nat) : x &&& 127 = x % 128 := by
 have := Nat.and_two_pow_sub_one_eq_mod x 7
 exact this
theorem Yaa {n : Nat} (h : n < 16777216) : MC (n : Int) = some (((cnt 32 n : Nat) : Int), ()) := by
 unfold MC RG
 have p64 : (2 : Nat) ^ 64 = 18446744073709551616 := by decide
 have sh : ∀ (x : Nat) (k : Int) (j : Nat), k = (j : Int) → j ≤ 64 → Yb .u64 (x : Int) k = ((x / 2 ^ j : Nat) : Int) := fun x k j hk hj => by rw [hk]; exact Yas x hj
 have an : ∀ (x : Nat) (k : Int) (j : Nat), x < 2 ^ 64 → k = (j : Int) → j < 2 ^ 64 → Wa .u64 (x : Int) k = ((x &&& j : Nat) : Int) := fun x k j hx hk hj => by rw [hk]; exact Tas hx hj
 have ad : ∀ x y : Nat, (x : Int) + (y : Int) = ((x + y : Nat) : Int) := fun x y => (Int.natCast_add x y).symm
 have b1 := OaW h
 have b2 := QaW b1
 have b3 := SaW b2
 have h1 : j5 .u64 ((Wa .u64 (Yb .u64 (n : Int) 1) 6148914691236517205) + (Wa .u64 (n : Int) 6148914691236517205)) = ((s1 n : Nat) : Int) := by
  rw [sh n 1 1 rfl (by omega), an _ 6148914691236517205 M5 (by omega) rfl (by decide), an _ 6148914691236517205 M5 (by omega) rfl (by decide), ad]
  exact ER (a := s1 n) (by omega)
 rw [h1]
 have h2 : j5 .u64 ((Wa .u64 (Yb .u64 ((s1 n : Nat) : Int) 2) 3689348814741910323) + (Wa .u64 ((s1 n : Nat) : Int) 3689348814741910323)) = ((s2 (s1 n) : Nat) : Int) := by
  rw [sh _ 2 2 rfl (by omega), an _ 3689348814741910323 M3 (by omega) rfl (by decide), an _ 3689348814741910323 M3 (by omega) rfl (by decide), ad]
  exact ER (a := s2 (s1 n)) (by omega)
 rw [h2]
 have h3 : Wa .u64 (j5 .u64 ((Yb .u64 ((s2 (s1 n) : Nat) : Int) 4) + ((s2 (s1 n) : Nat) : Int))) 1085102592571150095 = ((s3 (s2 (s1 n)) : Nat) : Int) := by
  rw [sh _ 4 4 rfl (by omega), ad, ER (by omega), an _ 1085102592571150095 MF (by omega) rfl (by decide)]
  rfl
 rw [h3]
 have hp := NaL h
 generalize s3 (s2 (s1 n)) = z at *
 have g1 : j5 .u64 ((z : Int) + Yb .u64 (z : Int) 8) = ((z + z / 256 : Nat) : Int) := by
  rw [sh _ 8 8 rfl (by omega), ad, ER (by omega)]
 rw [g1]
 have g2 : j5 .u64 (((z + z / 256 : Nat) : Int) + Yb .u64 ((z + z / 256 : Nat) : Int) 16) = ((z + z / 256 + (z + z / 256) / 65536 : Nat) : Int) := by
  rw [sh _ 16 16 rfl (by omega), ad, ER (by omega)]
 rw [g2]
 have g3 : j5 .u64 (((z + z / 256 + (z + z / 256) / 65536 : Nat) : Int) + Yb .u64 ((z + z / 256 + (z + z / 256) / 65536 : Nat) : Int) 32) = ((z + z / 256 + (z + z / 256) / 65536 + (z + z / 256 + (z + z / 256) / 65536) / 4294967296 : Nat) : Int) := by
  rw [sh _ 32 32 rfl (by omega), ad, ER (by omega)]
 rw [g3, Tg (by omega) (by omega)]
 show jz (some (Wa .i64 _ ((127 : Nat) : Int), ())) _ = _
 rw [XK (by rw [GK]; omega) (by decide), AaK]
 rw [← hp]
 rfl
theorem J2 {n : Nat} (h : n < 16777216) : Ox (n : Int) = some (((cnt 32 n : Nat) : Int), ()) := by
 have hl := Nh (step := fun x => Ys x.1.1 x.1.2.1 x.1.2.2.1) 32 (by omega) (fun k s => j5 .i64 (s + Wa .i64 (Yb .i64 (n : Int) (k : Int)) 1)) 0 (fun s i => (((n : Int), s, i, ()), ())) (fun s => .inl ((s, ()), ()))
  (by
   intro k hk
   simp only [Ys]
   rw [Aa (show (k : Int) ≤ 31 by omega), Aa (show (0 : Int) ≤ (k : Int) by omega)]; rfl)
  (by
   simp only [Ys]
   rw [Ba (by decide)]; rfl)
 generalize hC : cnt 32 n = C
 have hi : ∀ k : Nat, k ≤ 32 → ∃ c : Nat, Se (fun k s => j5 .i64 (s + Wa .i64 (Yb .i64 (n : Int) (k : Int)) 1)) k (0 : Int) = (c : Int) ∧ c ≤ k ∧ c + cnt (32 - k) (n / 2 ^ k) = C := by
  intro k
  induction k with
  | zero => intro _; exact ⟨0, rfl, jo _, by rw [← hC, Nat.sub_zero, Nat.pow_zero, Nat.div_one, js]⟩
  | succ k ih =>
   intro hk
   obtain ⟨c, h1, h2, h3⟩ := ih (by omega)
   refine ⟨c + n / 2 ^ k % 2, ?_, by omega, ?_⟩
   ·simp only [Se, h1]
    rw [YT n (by omega), Nat.shiftRight_eq_div_pow]
    have hd : n / 2 ^ k ≤ n := Nat.div_le_self _ _
    have e : Wa .i64 ((n / 2 ^ k : Nat) : Int) 1 = ((n / 2 ^ k % 2 : Nat) : Int) := by
     show Wa .i64 ((n / 2 ^ k : Nat) : Int) ((1 : Nat) : Int) = _
     rw [XK (by rw [GK]; omega) (by decide), Nat.and_one_is_mod]
    rw [e, ← Int.natCast_add, Tg (by omega) (by omega)]
   ·rw [show 32 - k = (32 - (k + 1)) + 1 by omega] at h3
    have h4 : cnt (32 - (k + 1) + 1) (n / 2 ^ k) = n / 2 ^ k % 2 + cnt (32 - (k + 1)) (n / 2 ^ k / 2) := rfl
    rw [h4] at h3
    rw [Nat.pow_succ, ← Nat.div_div_eq_div_mul]
    omega
 obtain ⟨c, h1, _, h3⟩ := hi 32 (jo _)
 have h4 : cnt (32 - 32) (n / 2 ^ 32) = 0 := rfl
 rw [h4, Nat.add_zero] at h3
 rw [h1] at hl
 unfold Ox Iw
 erw [hl]
 rw [← h3]
 rfl
def Fg (m : Zd) : Bool := decide (1 ≤ m.1 ∧ m.1 ≤ 4 ∧ 1 ≤ m.2.1 ∧ m.2.1 ≤ 6)
theorem VG (m : Zd) : Fp m = some (Fg m, ()) := by
 unfold Fp Fg
 simp only [Ci, Di]
 apply Uc
 simp only [Rd, decide_eq_true_eq, jq, and_false, or_false]
theorem UP (m : Zd) : Lx m = some (Fg m, ()) := by
 unfold Lx Fg
 simp only [Vc, jb, Ci, Di]
 apply Uc
 simp only [Rd, decide_eq_true_eq, jq, and_false, or_false]
 omega
def Dd (m : Zd) : Int := cond (Fg m) (m.1 * m.2.1) 0
theorem PW {m : Zd} (h : Fg m = true) : 1 ≤ m.1 * m.2.1 ∧ m.1 * m.2.1 ≤ 24 := by
 simp only [Fg, decide_eq_true_eq] at h
 obtain ⟨r, c, d, u⟩ := m
 obtain ⟨h1, h2, h3, h4⟩ := h
 simp only at h1 h2 h3 h4 ⊢
 have : r = 1 ∨ r = 2 ∨ r = 3 ∨ r = 4 := by omega
 rcases this with rfl | rfl | rfl | rfl <;> omega
theorem Hv (m : Zd) : Sj m = some (Dd m, ()) := by
 unfold Sj Dd
 rw [VG]
 cases h : Fg m with
 | false => rfl
 | true => simp only [jb, jg, cond_false, cond_true]; rw [Tg (by have := PW h; omega) (by have := PW h; omega)]
theorem Gk (m : Zd) : Wl m = some (Dd m, ()) := by
 unfold Wl Dd
 rw [UP]
 cases h : Fg m with
 | false => rfl
 | true => simp only [jb, jg, cond_false, cond_true]; rw [Tg (by have := PW h; omega) (by have := PW h; omega)]
theorem Bv {α : Type} (x lo hi : Int) (X r : α) : cond (decide (x < lo)) X (cond (decide (x > hi)) X r) = cond (decide (lo ≤ x ∧ x ≤ hi)) r X := by
 by_cases h1 : x < lo
 ·rw [Aa h1, Ba (show ¬ (lo ≤ x ∧ x ≤ hi) by omega)]; rfl
 ·rw [Ba h1]
  by_cases h2 : x > hi
  ·rw [Aa h2, Ba (show ¬ (lo ≤ x ∧ x ≤ hi) by omega)]; rfl
  ·rw [Ba h2, Aa (show lo ≤ x ∧ x ≤ hi by omega)]; rfl
theorem Mp {α : Type} (b : Bool) (x y : α) : cond (!b) x y = cond b y x := by cases b <;> rfl
theorem Das (a b : Bool) : cond a (some (b, ())) (some (false, ())) = some ((a && b, ()) : Bool × Unit) := by cases a <;> rfl
theorem LY {k : Int} (h : 0 ≤ k ∧ k ≤ 62) : Sa .i64 1 k = ((2 ^ k.toNat : Nat) : Int) := by
 have : k = ((k.toNat : Nat) : Int) := by omega
 rw [this, Ek (by omega)]; rfl
theorem Sad {k : Nat} (h : k ≤ 62) : 1 ≤ 2 ^ k ∧ 2 ^ k ≤ 4611686018427387904 := by
 refine ⟨Nat.one_le_two_pow, ?_⟩
 have := qm (n := 2) (by omega) h
 exact this
def Ff (k x : Int) : Bool := decide (0 ≤ x ∧ x < ((2 ^ k.toNat : Nat) : Int))
def Yc (m : Zd) (x : Int) : Bool := Fg m && Ff (Dd m) x
theorem Qaa {m : Zd} (h : Fg m = true) : 1 ≤ Dd m ∧ Dd m ≤ 24 := by
 unfold Dd; rw [h]; exact PW h
theorem Nt (m : Zd) (x : Int) : Zm m x = some (Yc m x, ()) := by
 unfold Zm Yc
 rw [VG]
 cases h : Fg m with
 | false => rfl
 | true =>
  have := Qaa h
  rw [Hv]
  simp only [jb, cond_true, jk]
  rw [Aa (show 0 ≤ Dd m by omega), LY (by omega)]
  simp only [cond_true, Das, Ff]
  apply Uc
  simp only [jd, decide_eq_true_eq]
theorem BY (k x : Int) (h : 0 ≤ k ∧ k ≤ 62) : decide (0 ≤ x ∧ x ≤ j5 .i64 (Sa .i64 1 k - 1)) = Ff k x := by
 have hp := Sad (k := k.toNat) (by omega)
 rw [LY h]
 unfold Ff
 generalize 2 ^ k.toNat = z at hp
 rw [Tg (by omega) (by omega)]
 rw [decide_eq_decide]
 omega
theorem Gu (m : Zd) (x : Int) : Cn m x = some (Yc m x, ()) := by
 unfold Cn Yc
 rw [UP]
 cases h : Fg m with
 | false => rfl
 | true =>
  have := Qaa h
  rw [Gk]
  simp only [jb, cond_true, jk, Vc]
  rw [Aa (show 0 ≤ Dd m by omega), BY _ _ (by omega)]
  rfl
def Zao (l : List Int) : Bool := Yd (fun _ x => decide ((0 : Int) ≤ x ∧ x ≤ 99)) 0 l
def Qg (d : Ob) : Bool :=
 decide (0 ≤ d.1 ∧ d.1 ≤ 2) && (decide (1 ≤ d.2.1 ∧ d.2.1 ≤ 20) && (decide (1 ≤ d.2.2.1 ∧ d.2.2.1 ≤ 24) && ((((ja d.2.2.2.2.2.1 : Nat) : Int) == d.2.2.1) && (Ff d.2.2.1 d.2.2.2.1 && (Ff d.2.2.1 d.2.2.2.2.1 && Zao d.2.2.2.2.2.1)))))
theorem AK (d : Ob) (hn : d.2.2.2.2.2.1.length ≤ Ea) : Qn d = some (Qg d, ()) := by
 have h20 : Ea = 1048576 := rfl
 have hl := Ye (step := fun x => Im x.1.1 x.1.2.1 x.1.2.2.1) d.2.2.2.2.2.1 (fun _ x => decide ((0 : Int) ≤ x ∧ x ≤ 99)) (fun i => ((d.2.2.2.2.2.1, ((ja d.2.2.2.2.2.1 : Nat) : Int), i, ()), ()))
  (.inl ((), ())) (.inr ((false, ()), ())) (by
   intro k hk
   simp only [Im]
   rw [Aa (show (k : Int) < ((ja d.2.2.2.2.2.1 : Nat) : Int) by omega), Mb hk]
   simp only [cond_true, jb, Bv]
   cases decide ((0 : Int) ≤ d.2.2.2.2.2.1[k] ∧ d.2.2.2.2.2.1[k] ≤ 99) <;> rfl) (by
   simp only [Im]
   rw [Ba (by omega)]; rfl) (by omega)
 unfold Qn Zo Qg
 simp only [Bv]
 cases decide (0 ≤ d.1 ∧ d.1 ≤ 2) with
 | false => rfl
 | true =>
  cases decide (1 ≤ d.2.1 ∧ d.2.1 ≤ 20) with
  | false => rfl
  | true =>
   by_cases h3 : 1 ≤ d.2.2.1 ∧ d.2.2.1 ≤ 24
   ·have hp := Sad (k := d.2.2.1.toNat) (by omega)
    rw [Aa h3, Aa (show 0 ≤ d.2.2.1 by omega), LY (by omega)]
    simp only [cond_true, jk]
    simp only [bne, Mp]
    cases (((ja d.2.2.2.2.2.1 : Nat) : Int) == d.2.2.1) with
    | false => rfl
    | true =>
     simp only [cond_true, jk, Ff]
     have key : ∀ (s z : Int) (X r : Option (Bool × Unit)), cond (decide (s < 0)) X (cond (decide (s ≥ z)) X r) = cond (decide (0 ≤ s ∧ s < z)) r X := by
      intro s z X r
      by_cases h1 : s < 0
      ·rw [Aa h1, Ba (show ¬ (0 ≤ s ∧ s < z) by omega)]; rfl
      ·rw [Ba h1]
       by_cases h2 : s ≥ z
       ·rw [Aa h2, Ba (show ¬ (0 ≤ s ∧ s < z) by omega)]; rfl
       ·rw [Ba h2, Aa (show 0 ≤ s ∧ s < z by omega)]; rfl
     erw [key, key, hl]
     unfold Zao
     cases Yd (fun _ x => decide ((0 : Int) ≤ x ∧ x ≤ 99)) 0 d.2.2.2.2.2.1 <;> cases decide (0 ≤ d.2.2.2.1 ∧ d.2.2.2.1 < ((2 ^ d.2.2.1.toNat : Nat) : Int)) <;> cases decide (0 ≤ d.2.2.2.2.1 ∧ d.2.2.2.2.1 < ((2 ^ d.2.2.1.toNat : Nat) : Int)) <;> rfl
   ·rw [Ba h3]; rfl
theorem HK (d : Ob) (hn : d.2.2.2.2.2.1.length ≤ Ea) : Bo d = some (Qg d, ()) := by
 have h20 : Ea = 1048576 := rfl
 have hl := Ye (step := fun x => Tm x.1.1 x.1.2.1 x.2.1) d.2.2.2.2.2.1 (fun _ x => decide ((0 : Int) ≤ x ∧ x ≤ 99)) (fun i => (((), i, ()), (d, ())))
  (.inl (((), ()), (d, ()))) (.inr ((false, ()), ())) (by
   intro k hk
   simp only [Tm]
   rw [Aa (show (k : Int) < ((ja d.2.2.2.2.2.1 : Nat) : Int) by omega), Mb hk]
   simp only [cond_true, jb, Vc]
   cases decide ((0 : Int) ≤ d.2.2.2.2.2.1[k] ∧ d.2.2.2.2.2.1[k] ≤ 99) <;> rfl) (by
   simp only [Tm]
   rw [Ba (by omega)]; rfl) (by omega)
 unfold Bo Ap Qg
 simp only [Vc, jb, Mp]
 cases decide (0 ≤ d.1 ∧ d.1 ≤ 2) with
 | false => rfl
 | true =>
  cases decide (1 ≤ d.2.1 ∧ d.2.1 ≤ 20) with
  | false => rfl
  | true =>
   by_cases h3 : 1 ≤ d.2.2.1 ∧ d.2.2.1 ≤ 24
   ·rw [Aa h3]
    simp only [cond_true, jk]
    simp only [bne, Mp]
    cases (((ja d.2.2.2.2.2.1 : Nat) : Int) == d.2.2.1) with
    | false => rfl
    | true =>
     simp only [cond_true, jk]
     erw [hl]
     unfold Zao
     cases Yd (fun _ x => decide ((0 : Int) ≤ x ∧ x ≤ 99)) 0 d.2.2.2.2.2.1 with
     | false => cases Ff d.2.2.1 d.2.2.2.1 <;> cases Ff d.2.2.1 d.2.2.2.2.1 <;> rfl
     | true =>
      simp only [cond_true, jb, qk]
      rw [Aa (show 0 ≤ d.2.2.1 by omega), BY _ _ (by omega), BY _ _ (by omega)]
      cases Ff d.2.2.1 d.2.2.2.1 <;> cases Ff d.2.2.1 d.2.2.2.2.1 <;> rfl
   ·rw [Ba h3]; rfl
def Av (L : List Va) (i : Nat) (x : Va) : Bool :=
 decide (0 ≤ x.1 ∧ x.1 ≤ 16777215) && (decide (24 ≤ x.2.1 ∧ x.2.1 ≤ 31) && (decide (2 ≤ ((cnt 32 x.1.toNat : Nat) : Int) ∧ ((cnt 32 x.1.toNat : Nat) : Int) ≤ 4) && Yd (fun _ (y : Va) => !(y.1 == x.1) && !(y.2.1 == x.2.1)) 0 (L.take i)))
def Yg (L : List Va) : Bool := decide (L.length ≤ 8) && Yd (fun i x => Av L i x) 0 L
theorem F8 {α : Type} {L : List α} {i k : Nat} (h : k < (L.take i).length) : (L.take i)[k] = L[k]'(by simp at h; omega) := by simp
theorem CP (L : List Va) (hn : L.length ≤ Ea) : Ww L = some (Yg L, ()) := by
 have h20 : Ea = 1048576 := rfl
 have hl := Ye (step := fun x => Xr x.1.1 x.1.2.1 x.1.2.2.1 x.1.2.2.2.1) L (fun i x => Av L i x) (fun i => ((L, L, ((ja L : Nat) : Int), i, ()), ()))
  (.inl ((), ())) (.inr ((false, ()), ())) (by
   intro k hk
   simp only [Xr]
   rw [Aa (show (k : Int) < ((ja L : Nat) : Int) by omega), Mb hk]
   simp only [cond_true, jb, Bv, Av]
   generalize hx : L[k] = x
   by_cases h1 : 0 ≤ x.1 ∧ x.1 ≤ 16777215
   ·rw [Aa h1]
    cases decide (24 ≤ x.2.1 ∧ x.2.1 ≤ 31) with
    | false => rfl
    | true =>
     have e : j5 .u64 x.1 = ((x.1.toNat : Nat) : Int) := by
      have : x.1 = ((x.1.toNat : Nat) : Int) := by omega
      rw [this, ER (by
       have : (2 : Nat) ^ 64 = 18446744073709551616 := by decide
       omega)]
      simp
     rw [e, Yaa (by omega)]
     simp only [cond_true, jb, jk, Bv]
     cases decide (2 ≤ ((cnt 32 x.1.toNat : Nat) : Int) ∧ ((cnt 32 x.1.toNat : Nat) : Int) ≤ 4) with
     | false => rfl
     | true =>
      have hcut : Md (ja L) 0 (k : Int) = true := Ti (lo := 0) (Nat.zero_le _) (by omega)
      rw [hcut]
      simp only [cond_true, jk]
      have hin := Ye (step := fun y => Sp y.1.1 y.1.2.1 y.1.2.2.1 y.1.2.2.2.1 y.1.2.2.2.2.1 y.1.2.2.2.2.2.1 y.1.2.2.2.2.2.2.1 y.1.2.2.2.2.2.2.2.1 y.2.1) (L.take k) (fun _ (y : Va) => !(y.1 == x.1) && !(y.2.1 == x.2.1)) (fun i => ((L, (), L, ((ja L : Nat) : Int), (k : Int), L.take k, ((ja (L.take k) : Nat) : Int), i, ()), (x, ())))
       (.inl ((L, L, ((ja L : Nat) : Int), (k : Int), ()), ())) (.inr ((false, ()), ())) (by
        intro j hj
        simp only [Sp]
        rw [Aa (show (j : Int) < ((ja (L.take k) : Nat) : Int) by omega), Mb hj]
        simp only [cond_true, jb]
        cases ((L.take k)[j].1 == x.1) <;> cases ((L.take k)[j].2.1 == x.2.1) <;> rfl) (by
        simp only [Sp]
        rw [Ba (by omega)]; rfl) (by simp; omega)
      have hc : Eb L (jy (0 : Int)) (jy (k : Int)) = L.take k := by simp [Eb]
      rw [hc]
      unfold Kt
      erw [hin]
      cases Yd (fun _ (y : Va) => !(y.1 == x.1) && !(y.2.1 == x.2.1)) 0 (L.take k) <;> rfl
   ·rw [Ba h1]; rfl) (by
   simp only [Xr]
   rw [Ba (by omega)]; rfl) (by omega)
 unfold Ww Gv Yg
 by_cases h8 : L.length ≤ 8
 ·rw [Ba (show ¬ ((ja L : Nat) : Int) > 8 by omega), Aa h8]
  simp only [cond_false, jk]
  erw [hl]
  cases Yd (fun i x => Av L i x) 0 L <;> rfl
 ·rw [Aa (show ((ja L : Nat) : Int) > 8 by omega), Ba h8]; rfl
theorem SP (L : List Va) (hn : L.length ≤ Ea) : Jx L = some (Yg L, ()) := by
 have h20 : Ea = 1048576 := rfl
 have hl := Ye (step := fun x => Qs x.1.1 x.1.2.1) L (fun i x => Av L i x) (fun i => ((L, i, ()), ()))
  (.inl ((L, ()), ())) (.inr ((false, ()), ())) (by
   intro k hk
   simp only [Qs]
   rw [Aa (show (k : Int) < ((ja L : Nat) : Int) by omega), Mb hk]
   simp only [cond_true, jb, Vc, Mp, Av]
   generalize hx : L[k] = x
   by_cases h1 : 0 ≤ x.1 ∧ x.1 ≤ 16777215
   ·rw [Aa h1]
    have e : Ox x.1 = some (((cnt 32 x.1.toNat : Nat) : Int), ()) := by
     obtain ⟨n, hnn⟩ := jv h1.1
     rw [hnn, jn]
     exact J2 (by omega)
    rw [e]
    simp only [cond_true, jb, jk]
    cases decide (2 ≤ ((cnt 32 x.1.toNat : Nat) : Int) ∧ ((cnt 32 x.1.toNat : Nat) : Int) ≤ 4) with
    | false => cases decide (24 ≤ x.2.1 ∧ x.2.1 ≤ 31) <;> rfl
    | true =>
     cases decide (24 ≤ x.2.1 ∧ x.2.1 ≤ 31) with
     | false => rfl
     | true =>
      simp only [cond_true, jk]
      have hin := Ye (step := fun y => Rs y.1.1 y.1.2.1 y.1.2.2.1) (L.take k) (fun _ (y : Va) => !(y.1 == x.1) && !(y.2.1 == x.2.1)) (fun i => ((L, (k : Int), i, ()), ()))
       (.inl ((L, (k : Int), ()), ())) (.inr ((false, ()), ())) (by
        intro j hj
        have hj2 : j < k := by simp at hj; omega
        simp only [Rs]
        rw [Aa (show (j : Int) < (k : Int) by omega), Mb (show j < L.length by omega), Mb hk, hx, F8 hj]
        simp only [cond_true, jb]
        cases (L[j].1 == x.1) <;> cases (L[j].2.1 == x.2.1) <;> rfl) (by
        have : ((ja (L.take k) : Nat) : Int) = (k : Int) := by simp; omega
        simp only [Rs]
        rw [Ba (by omega)]; rfl) (by simp; omega)
      unfold Dw
      erw [hin]
      cases Yd (fun _ (y : Va) => !(y.1 == x.1) && !(y.2.1 == x.2.1)) 0 (L.take k) <;> rfl
   ·rw [Ba h1]; rfl) (by
   simp only [Qs]
   rw [Ba (by omega)]; rfl) (by omega)
 unfold Jx Cw Yg
 erw [hl]
 cases Yd (fun i x => Av L i x) 0 L with
 | true =>
  simp only [cond_true, jb, qk, Bool.and_true]
  apply Uc
  simp only [decide_eq_true_eq]; omega
 | false => cases decide (L.length ≤ 8) <;> rfl
def JF : Va := (0, 0, ())
def Jj (L : List Va) (o : Int) : Option Va := L.find? (fun c => c.2.1 == o)
theorem ST {α : Type} (p : α → Bool) : ∀ (xs : List α) (k : Nat), (Pc (fun _ (_ : Unit) x => cond (p x) (.inr x) (.inl ())) k () xs : Unit ⊕ α) = match xs.find? p with | some x => .inr x | none => .inl ()
 | [], _ => rfl
 | x :: xs, k => by
  rcases Bool.eq_false_or_eq_true (p x) with hp | hp
  ·simp only [Pc, hp, cond_true, List.find?_cons]
  ·simp only [Pc, hp, cond_false, List.find?_cons]; exact ST p xs (k + 1)
theorem LQ (L : List Va) (o : Int) (hn : L.length ≤ Ea) : WA L o = some ((Jj L o).getD JF, (Jj L o).isSome, ()) := by
 have h20 : Ea = 1048576 := rfl
 have hl := Wg (step := fun x => Lv x.1.1 x.1.2.1 x.1.2.2.1 x.1.2.2.2.1 x.1.2.2.2.2.1 x.2.1) L (fun _ (_ : Unit) (x : Va) => cond (x.2.1 == o) (.inr x) (.inl ())) (fun _ i => ((o, (), L, ((ja L : Nat) : Int), i, ()), (((0 : Int), (0 : Int), ()), ())))
  (fun _ => .inl (((), ()), (((0 : Int), (0 : Int), ()), ()))) (fun x => .inr (((), true, ()), (x, ()))) (fun _ _ => True) (by
   intro k hk s _
   refine ⟨?_, fun _ _ => trivial⟩
   simp only [Lv]
   rw [Aa (show (k : Int) < ((ja L : Nat) : Int) by omega), Mb hk]
   simp only [cond_true, jb]
   cases (L[k].2.1 == o) <;> rfl) (by
   intro s _
   simp only [Lv]
   rw [Ba (by omega)]; rfl) (by omega) () trivial
 unfold WA Gy Jj
 erw [hl, ST]
 cases List.find? (fun c => c.2.1 == o) L <;> rfl
theorem ZQ (L : List Va) (o : Int) (hn : L.length ≤ Ea) : YB L o = some (((Jj L o).getD JF).1, ()) := by
 have h20 : Ea = 1048576 := rfl
 have hl := Wg (step := fun x => Lw x.1.1 x.1.2.1 x.1.2.2.1) L (fun _ (_ : Unit) (x : Va) => cond (x.2.1 == o) (.inr x) (.inl ())) (fun _ i => ((L, o, i, ()), ()))
  (fun _ => .inl ((), ())) (fun x => .inr ((x.1, ()), ())) (fun _ _ => True) (by
   intro k hk s _
   refine ⟨?_, fun _ _ => trivial⟩
   simp only [Lw]
   rw [Aa (show (k : Int) < ((ja L : Nat) : Int) by omega), Mb hk]
   simp only [cond_true, jb]
   cases (L[k].2.1 == o) <;> rfl) (by
   intro s _
   simp only [Lw]
   rw [Ba (by omega)]; rfl) (by omega) () trivial
 unfold YB My Jj
 erw [hl, ST]
 cases List.find? (fun c => c.2.1 == o) L <;> rfl
theorem MT {L : List Va} {o : Int} (h : Yg L = true) (hs : (Jj L o).isSome = true) : 24 ≤ o ∧ o ≤ 31 ∧ 0 ≤ ((Jj L o).getD JF).1 ∧ ((Jj L o).getD JF).1 ≤ 16777215 := by
 unfold Jj at *
 cases hc : List.find? (fun c => c.2.1 == o) L with
 | none => rw [hc] at hs; simp at hs
 | some c =>
  have h1 := List.find?_some hc
  have h2 := List.mem_of_find?_eq_some hc
  obtain ⟨i, hi, rfl⟩ := qt h2
  simp only [Yg, jd] at h
  have h3 := PA.1 h.2 i hi
  simp only [Av, jd, decide_eq_true_eq] at h3
  simp only [beq_iff_eq] at h1
  simp only [Option.getD_some]
  omega
def okA (K : Int) (x : Ca) : Bool := !decide (x.2.1 ≤ 0) && (!(Jb .i64 x.2.1 K != 0) && !(x.2.2.1 != (x.2.1 == K)))
def BU (L : List Va) (o : Int) : Int := ((Jj L o).getD JF).1
def NZ (L : List Va) (x : Ca) : Bool := (Jj L x.1).isSome && okA (BU L x.1) x
theorem Sar {x : Int} (h0 : 0 < x) (h1 : x ≤ 9223372036854775807) : Jb .i64 x 0 = x := by
 obtain ⟨n, rfl⟩ := jv (show 0 ≤ x by omega)
 show Jb .i64 (n : Int) ((0 : Nat) : Int) = _
 rw [AW (by rw [GK]; omega) (by decide), Nat.and_zero, Nat.xor_zero]
theorem MaW {L : List Va} {x : Ca} (h1 : x.2.1 ≤ 9223372036854775807) : okA (BU L x.1) x = NZ L x := by
 unfold NZ BU
 cases hc : Jj L x.1 with
 | some c => rfl
 | none =>
  simp only [Option.getD_none, Option.isSome_none, qp, okA, JF]
  by_cases h0 : x.2.1 ≤ 0
  ·rw [Aa h0]; rfl
  ·rw [Sar (by omega) h1, Ba h0]
   have : (x.2.1 != 0) = true := by simp; omega
   rw [this]; rfl
def QB (pre : List Ca) (x : Ca) : Bool := Yd (fun _ (y : Ca) => !(y.1 == x.1)) 0 pre
def IE (L : List Va) : List Ca → List Ca → Bool
 | _, [] => true
 | pre, x :: r => (NZ L x && QB pre x) && IE L (pre ++ [x]) r
def OK (c : Oa) : Bool := IE c.1 [] c.2.2.2.2.2.2.1
theorem D3 {α : Type} (p : α → Bool) : ∀ (xs : List α) (k j : Nat), Yd (fun _ x => p x) k xs = Yd (fun _ x => p x) j xs
 | [], _, _ => rfl
 | x :: xs, k, j => by simp only [Yd]; rw [D3 p xs (k + 1) (j + 1)]
theorem Iab {α : Type} (p : α → Bool) : ∀ (xs ys : List α) (k : Nat), Yd (fun _ x => p x) k (xs ++ ys) = (Yd (fun _ x => p x) k xs && Yd (fun _ x => p x) k ys)
 | [], ys, k => by simp [Yd]
 | x :: xs, ys, k => by
  simp only [List.cons_append, Yd]
  rw [Iab p xs ys (k + 1), Bool.and_assoc, D3 p ys (k + 1) k]
theorem Yat (pre : List Ca) (y x : Ca) : QB (pre ++ [y]) x = (QB pre x && !(y.1 == x.1)) := by
 unfold QB
 rw [Iab]
 simp [Yd]
def Fab (L : List Va) (s : Int) (x : Ca) : Int ⊕ Unit := cond (NZ L x && !(Bd s x.1 == 1)) (.inl (Oc .i64 s (Sa .i64 1 x.1))) (.inr ())
theorem Gab {L : List Va} (hL : Yg L = true) : ∀ (l pre : List Ca) (k : Nat) (s : Nat), s < 2 ^ 63 →
 (∀ x : Ca, 24 ≤ x.1 → x.1 ≤ 31 → (Bd (s : Int) x.1 == 1) = !QB pre x) → Bm (Pc (fun _ s x => Fab L s x) k (s : Int) l) = IE L pre l
 | [], _, _, _, _, _ => rfl
 | x :: l, pre, k, s, hs, hb => by
  simp only [Pc, IE, Fab]
  cases ho : NZ L x with
  | false => rfl
  | true =>
   have hk : 24 ≤ x.1 ∧ x.1 ≤ 31 := by
    simp only [NZ, jd] at ho
    have := MT hL ho.1
    omega
   rw [hb x hk.1 hk.2]
   simp only [Bool.not_not, jk]
   cases hn : QB pre x with
   | false => rfl
   | true =>
    simp only [cond_true, jk]
    obtain ⟨n, hn2⟩ := jv (show 0 ≤ x.1 by omega)
    have hor : Oc .i64 (s : Int) (Sa .i64 1 x.1) = ((s ||| 2 ^ n : Nat) : Int) := by
     rw [hn2, Ek (by omega), TC hs (Ni (by omega))]
    rw [hor]
    refine Gab hL l (pre ++ [x]) (k + 1) _ (Nat.or_lt_two_pow hs (Ni (by omega))) fun y h1 h2 => ?_
    obtain ⟨m, hm⟩ := jv (show 0 ≤ y.1 by omega)
    rw [← hor, hm, hn2, CaK hs (by omega) (by omega), ← hm, hb y h1 h2, Yat]
    have : (x.1 == y.1) = decide (n = m) := by rw [hm, hn2, qx, beq_iff_eq, decide_eq_true_eq]; omega
    rw [this]
    cases QB pre y <;> cases decide (n = m) <;> rfl
theorem DW (c : Oa) (hc : Yg c.1 = true) (hn : c.2.2.2.2.2.2.1.length ≤ Ea) (hn1 : c.1.length ≤ Ea) : Xy c = some (OK c, ()) := by
 have h20 : Ea = 1048576 := rfl
 have hl := Wg (step := fun x => Ho x.1.1 x.1.2.1 x.1.2.2.1 x.1.2.2.2.1 x.1.2.2.2.2.1 x.2.1) c.2.2.2.2.2.2.1 (fun _ s x => Fab c.1 s x) (fun s i => (((), s, c.2.2.2.2.2.2.1, ((ja c.2.2.2.2.2.2.1 : Nat) : Int), i, ()), (c, ())))
  (fun _ => .inl ((), ())) (fun _ => .inr ((false, ()), ())) (fun _ _ => True) (by
   intro k hk s _
   refine ⟨?_, fun _ _ => trivial⟩
   simp only [Ho]
   rw [Aa (show (k : Int) < ((ja c.2.2.2.2.2.2.1 : Nat) : Int) by omega), Mb hk]
   simp only [cond_true, jb]
   generalize c.2.2.2.2.2.2.1[k] = x
   rw [LQ _ _ hn1]
   simp only [jb, Fab, NZ]
   cases hsome : (Jj c.1 x.1).isSome with
   | false => rfl
   | true =>
    have hk := MT hc hsome
    simp only [jg, cond_false, jk]
    rw [Ok s (by omega), Aa (show 0 ≤ x.1 by omega)]
    simp only [jb, cond_true, okA, BU]
    cases Bd s x.1 == 1 <;> cases decide (x.2.1 ≤ 0) <;> cases (Jb .i64 x.2.1 ((Jj c.1 x.1).getD JF).1 != 0) <;> cases (x.2.2.1 != (x.2.1 == ((Jj c.1 x.1).getD JF).1)) <;> rfl) (by
   intro s _
   simp only [Ho]
   rw [Ba (by omega)]; rfl) (by omega) 0 trivial
 unfold Xy Br OK
 erw [hl]
 rw [← Gab hc c.2.2.2.2.2.2.1 [] 0 0 (by decide) (fun x h1 h2 => by
  obtain ⟨m, hm⟩ := jv (show 0 ≤ x.1 by omega)
  rw [hm, Zq (by decide) (by omega), Nat.zero_testBit]; rfl)]
 show jz (some _) _ = _
 simp only [jb]
 show j7 _ _ _ = _
 cases Pc (fun x s x => Fab c.1 s x) 0 ((0 : Nat) : Int) c.2.2.2.2.2.2.1 <;> rfl
def E5 (s : Int) (x : Ca) : Int ⊕ Unit := cond (Wa .i64 s x.2.1 != 0) (.inr ()) (.inl (Oc .i64 s x.2.1))
def D5 (c : Oa) : Bool := Bm (Pc (fun _ s x => E5 s x) 0 c.2.2.2.2.2.1 c.2.2.2.2.2.2.1)
def orK (k : Nat) (s : Int) (l : List Ca) : Int := Jd (fun _ s (x : Ca) => Oc .i64 s x.2.1) k s l
def Cl (c : Oa) : Int := orK 0 c.2.2.2.2.2.1 c.2.2.2.2.2.2.1
theorem WaC : ∀ (l : List Ca) (k : Nat) (s : Int), Pc (fun _ s x => E5 s x) k s l = cond (Bm (Pc (fun _ s x => E5 s x) k s l)) (.inl (orK k s l)) (.inr ())
 | [], _, _ => rfl
 | x :: l, k, s => by
  simp only [Pc, orK, Jd, E5]
  cases Wa .i64 s x.2.1 != 0 with
  | true => rfl
  | false => simp only [cond_false]; exact WaC l (k + 1) _
theorem Ov (c : Oa) (hn : c.2.2.2.2.2.2.1.length ≤ Ea) : Yh c = some (cond (D5 c) (Cl c) 0, D5 c, ()) := by
 have h20 : Ea = 1048576 := rfl
 have hl := Wg (step := fun x => Hl x.1.1 x.1.2.1 x.1.2.2.1 x.1.2.2.2.1) c.2.2.2.2.2.2.1 (fun _ s x => E5 s x) (fun s i => ((s, c.2.2.2.2.2.2.1, ((ja c.2.2.2.2.2.2.1 : Nat) : Int), i, ()), ()))
  (fun s => .inl ((s, ()), ())) (fun _ => .inr (((0 : Int), false, ()), ())) (fun _ _ => True) (by
   intro k hk s _
   refine ⟨?_, fun _ _ => trivial⟩
   simp only [Hl]
   rw [Aa (show (k : Int) < ((ja c.2.2.2.2.2.2.1 : Nat) : Int) by omega), Mb hk]
   simp only [cond_true, jb, E5]
   cases (Wa .i64 s c.2.2.2.2.2.2.1[k].2.1 != 0) <;> rfl) (by
   intro s _
   simp only [Hl]
   rw [Ba (by omega)]; rfl) (by omega) c.2.2.2.2.2.1 trivial
 unfold Yh Un D5 Cl
 erw [hl, WaC]
 show jz (some _) _ = _
 cases Bm (Pc (fun _ s x => E5 s x) 0 c.2.2.2.2.2.1 c.2.2.2.2.2.2.1) <;> rfl
theorem XJ (c : Oa) (hn : c.2.2.2.2.2.2.1.length ≤ Ea) : Lu c = some (Cl c, ()) := by
 have h20 : Ea = 1048576 := rfl
 have hl := (Pe (step := fun x => Kw x.1.1 x.1.2.1 x.1.2.2.1 x.2.1) c.2.2.2.2.2.2.1 (fun _ s (x : Ca) => Oc .i64 s x.2.1) (fun s i => (((), s, i, ()), (c, ())))
  (fun s => .inl ((s, ()), ())) (fun _ _ => True) (by
   intro k hk s _
   refine ⟨?_, trivial⟩
   simp only [Kw]
   rw [Aa (show (k : Int) < ((ja c.2.2.2.2.2.2.1 : Nat) : Int) by omega), Mb hk]; rfl) (by
   intro s _
   simp only [Kw]
   rw [Ba (by omega)]; rfl) (by omega) c.2.2.2.2.2.1 trivial).1
 unfold Lu Ly Cl orK
 erw [hl]; rfl
def Hab (L : List Va) (l : List Ca) (k : Nat) (s : Int) (x : Ca) : Int ⊕ Unit :=
 cond (okA (BU L x.1) x && (!(Wa .i64 x.2.1 s != 0) && QB (l.take k) x)) (.inl (Oc .i64 s x.2.1)) (.inr ())
theorem Sas (x y : Int) : Wa .i64 x y = Wa .i64 y x := by unfold Wa; rw [BitVec.and_comm]
theorem Z2 (L : List Va) (l : List Ca) : ∀ (r : List Ca) (k : Nat) (s : Int), l.drop k = r → k ≤ l.length → (∀ x ∈ r, x.2.1 ≤ 9223372036854775807) →
 Bm (Pc (Hab L l) k s r) = (IE L (l.take k) r && Bm (Pc (fun _ s x => E5 s x) k s r))
 | [], _, _, _, _, _ => rfl
 | x :: r, k, s, hd, hle, hr => by
  obtain ⟨hk, hx, hd'⟩ := NM hd
  have ht : l.take (k + 1) = l.take k ++ [x] := by rw [G8 hk, hx]
  simp only [Pc, IE, Hab, E5]
  rw [MaW (hr x (by simp)), Sas x.2.1 s]
  cases NZ L x with
  | false => rfl
  | true =>
   cases (Wa .i64 s x.2.1 != 0) with
   | true => simp [Bm]
   | false =>
    cases QB (l.take k) x with
    | false => rfl
    | true =>
     simp only [qa, jk, cond_true, cond_false]
     rw [Z2 L l r (k + 1) _ hd' hk (fun y hy => hr y (by simp [hy])), ht]; rfl
theorem YY (c : Oa) (hr : ∀ x ∈ c.2.2.2.2.2.2.1, x.2.1 ≤ 9223372036854775807) (hn : c.2.2.2.2.2.2.1.length ≤ Ea) (hn1 : c.1.length ≤ Ea) :
 ID c = some (decide (0 ≤ c.2.2.2.2.2.1 ∧ c.2.2.2.2.2.1 ≤ 16777215) && (OK c && D5 c), ()) := by
 have h20 : Ea = 1048576 := rfl
 have hl := Wg (step := fun x => Rq x.1.1 x.1.2.1 x.1.2.2.1 x.2.1) c.2.2.2.2.2.2.1 (Hab c.1 c.2.2.2.2.2.2.1) (fun s i => (((), s, i, ()), (c, ())))
  (fun _ => .inl (((), ()), (c, ()))) (fun _ => .inr ((false, ()), ())) (fun _ _ => True) (by
   intro k hk s _
   refine ⟨?_, fun _ _ => trivial⟩
   simp only [Rq]
   rw [Aa (show (k : Int) < ((ja c.2.2.2.2.2.2.1 : Nat) : Int) by omega), Mb hk]
   simp only [cond_true, jb]
   rw [ZQ _ _ hn1]
   generalize hx : c.2.2.2.2.2.2.1[k] = x
   simp only [jb, Hab, okA, BU]
   have hin := Ye (step := fun y => Vo y.1.1 y.1.2.1 y.1.2.2.1 y.1.2.2.2.1 y.1.2.2.2.2.1 y.2.1 y.2.2.1) (c.2.2.2.2.2.2.1.take k) (fun _ (y : Ca) => !(y.1 == x.1)) (fun i => (((), s, (k : Int), (), i, ()), (c, x, ())))
    (.inl (((), s, (k : Int), (), ()), (c, x, ()))) (.inr ((false, ()), ())) (by
     intro j hj
     have hj2 : j < k := by simp at hj; omega
     simp only [Vo]
     rw [Aa (show (j : Int) < (k : Int) by omega), Mb (show j < c.2.2.2.2.2.2.1.length by omega), F8 hj]
     simp only [cond_true, jb]
     cases (c.2.2.2.2.2.2.1[j].1 == x.1) <;> rfl) (by
     have : ((ja (c.2.2.2.2.2.2.1.take k) : Nat) : Int) = (k : Int) := by simp; omega
     simp only [Vo]
     rw [Ba (by omega)]; rfl) (by simp; omega)
   unfold Nr QB
   erw [hin]
   cases decide (x.2.1 ≤ 0) with
   | true => rfl
   | false =>
    cases (Jb .i64 x.2.1 ((Jj c.1 x.1).getD JF).1 != 0) with
    | true => rfl
    | false =>
     cases (x.2.2.1 != (x.2.1 == ((Jj c.1 x.1).getD JF).1)) with
     | true => rfl
     | false =>
      cases (Wa .i64 x.2.1 s != 0) with
      | true => rfl
      | false => cases Yd (fun _ (y : Ca) => !(y.1 == x.1)) 0 (c.2.2.2.2.2.2.1.take k) <;> rfl) (by
   intro s _
   simp only [Rq]
   rw [Ba (by omega)]; rfl) (by omega) c.2.2.2.2.2.1 trivial
 unfold ID Ku OK D5
 erw [hl]
 have hs := Z2 c.1 c.2.2.2.2.2.2.1 c.2.2.2.2.2.2.1 0 c.2.2.2.2.2.1 rfl (Nat.zero_le _) hr
 rw [List.take_zero] at hs
 rw [← hs]
 show jz (some _) _ = _
 cases Pc (Hab c.1 c.2.2.2.2.2.2.1) 0 c.2.2.2.2.2.1 c.2.2.2.2.2.2.1 with
 | inl s =>
  simp only [jb, qk, Vc, Bm, Bool.and_true]
 | inr u => simp only [jb, Sum.elim_inr, Bm, Bool.and_false]
def Pd (c : Oa) : Bool :=
 Yg c.1 && (decide (1 ≤ c.2.1 ∧ c.2.1 ≤ 200) && (decide (0 ≤ c.2.2.2.1 ∧ c.2.2.2.1 ≤ 1000000) && (decide (0 ≤ c.2.2.2.2.1 ∧ c.2.2.2.2.1 ≤ c.2.2.2.1) && ((decide (0 ≤ c.2.2.2.2.2.1 ∧ c.2.2.2.2.2.1 ≤ 16777215) && (OK c && D5 c)) &&
  (Fd c.2.2.1 (Cl c) 24 && Hf c.2.2.1 c.2.2.2.1)))))
structure Oi (c : Oa) : Prop where
 a : c.1.length ≤ Ea
 q : c.2.2.1.length ≤ Ea
 e : c.2.2.2.2.2.2.1.length ≤ Ea
 r : ∀ x ∈ c.2.2.2.2.2.2.1, x.2.1 ≤ 9223372036854775807
theorem OM (c : Oa) (h : Oi c) : Rp c = some (Pd c, ()) := by
 unfold Rp Pd
 rw [CP _ h.a]
 cases hc : Yg c.1 with
 | false => rfl
 | true =>
  rw [DW c hc h.e h.a, Ov c h.e]
  simp only [jb, Mp, cond_true, jk, Bv]
  cases decide (1 ≤ c.2.1 ∧ c.2.1 ≤ 200) with
  | false => rfl
  | true =>
   cases decide (0 ≤ c.2.2.2.1 ∧ c.2.2.2.1 ≤ 1000000) with
   | false => rfl
   | true =>
    cases decide (0 ≤ c.2.2.2.2.1 ∧ c.2.2.2.2.1 ≤ c.2.2.2.1) with
    | false => rfl
    | true =>
     cases decide (0 ≤ c.2.2.2.2.2.1 ∧ c.2.2.2.2.2.1 ≤ 16777215) with
     | false => rfl
     | true =>
      cases OK c with
      | false => rfl
      | true =>
       cases D5 c with
       | false => rfl
       | true =>
        simp only [cond_true, jk]
        rw [Ds _ _ _ h.q, Cs _ _ h.q]
        cases Fd c.2.2.1 (Cl c) 24 <;> rfl
theorem AN (c : Oa) (h : Oi c) : Nq c = some (Pd c, ()) := by
 have h20 : Ea = 1048576 := rfl
 unfold Nq Pd
 rw [SP _ h.a]
 cases hc : Yg c.1 with
 | false => rfl
 | true =>
  rw [YY c h.r h.e h.a, XJ c h.e]
  simp only [jb, Mp, cond_true, jk, Vc]
  cases decide (1 ≤ c.2.1 ∧ c.2.1 ≤ 200) with
  | false => rfl
  | true =>
   cases decide (0 ≤ c.2.2.2.1 ∧ c.2.2.2.1 ≤ 1000000) with
   | false => rfl
   | true =>
    cases decide (0 ≤ c.2.2.2.2.1 ∧ c.2.2.2.2.1 ≤ c.2.2.2.1) with
    | false => rfl
    | true =>
     cases (decide (0 ≤ c.2.2.2.2.2.1 ∧ c.2.2.2.2.2.1 ≤ 16777215) && (OK c && D5 c)) with
     | false => rfl
     | true =>
      simp only [cond_true, jk]
      rw [Qq _ _ _ h.q]
      simp only [jb]
      cases Fd c.2.2.1 (Cl c) 24 with
      | false => rfl
      | true =>
       simp only [cond_true, jk, Hf]
       by_cases h0 : c.2.2.1.length = 0
       ·have : (((c.2.2.1.length : Nat) : Int) == 0) = true := by simp [h0]
        rw [this]; rfl
       ·obtain ⟨x, h1, h2⟩ := BP (l := c.2.2.1) (by omega) h.q
        have : (((c.2.2.1.length : Nat) : Int) == 0) = false := by
         rw [beq_eq_false_iff_ne]; omega
        rw [this, h1]
        simp only [cond_false, jb, Bool.false_or, h2]
def qdG (s : Int) (x : Ca) : Int := cond x.2.2.1 (Oc .i64 s (Sa .i64 1 x.2.1)) (Jb .i64 s (Sa .i64 1 x.2.1))
def qdI (d : Int) (q : List Ca) : Int := Jd (fun _ s x => qdG s x) 0 d q
def tgG (s : Int) (x : Ca) : Int := Me .i64 s (Sa .i64 1 x.2.1)
def tgI (d : Int) (q : List Ca) : Int := Jd (fun _ s x => tgG s x) 0 d q
theorem SN (d : Int) (q : List Ca) (hn : q.length ≤ Ea) (hx : ∀ x ∈ q, 0 ≤ x.2.1) : Qt d q = some (qdI d q, ()) := by
 have h20 : Ea = 1048576 := rfl
 have hl := (Pe (step := fun x => Wp x.1.1 x.1.2.1 x.1.2.2.1 x.1.2.2.2.1) q (fun _ s x => qdG s x) (fun s i => ((s, q, ((ja q : Nat) : Int), i, ()), ()))
  (fun s => .inl ((s, ()), ())) (fun _ _ => True) (by
   intro k hk s _
   refine ⟨?_, trivial⟩
   simp only [Wp]
   rw [Aa (show (k : Int) < ((ja q : Nat) : Int) by omega), Mb hk]
   simp only [cond_true, jb]
   rw [Aa (hx _ (qr hk))]
   unfold qdG
   cases q[k].2.2.1 <;> rfl) (by
   intro s _
   simp only [Wp]
   rw [Ba (by omega)]; rfl) (by omega) d trivial).1
 unfold Qt Rt qdI
 erw [hl]; rfl
theorem QS {k : Int} (h : 0 ≤ k ∧ k ≤ 31) : Lr k = some (Sa .i64 1 k, ()) := by
 unfold Lr
 rw [Vc, Aa h, Aa h.1]; rfl
theorem BN (d : Int) (q : List Ca) (hn : q.length ≤ Ea) (hx : ∀ x ∈ q, 0 ≤ x.2.1 ∧ x.2.1 ≤ 31) : Tq d q = some (tgI d q, ()) := by
 have h20 : Ea = 1048576 := rfl
 have hl := (Pe (step := fun x => Wo x.1.1 x.1.2.1 x.1.2.2.1) q (fun _ s x => tgG s x) (fun s i => ((s, q, i, ()), ()))
  (fun s => .inl ((s, ()), ())) (fun _ _ => True) (by
   intro k hk s _
   refine ⟨?_, trivial⟩
   simp only [Wo]
   rw [Aa (show (k : Int) < ((ja q : Nat) : Int) by omega), Mb hk]
   simp only [cond_true, jb]
   rw [QS (hx _ (qr hk))]; rfl) (by
   intro s _
   simp only [Wo]
   rw [Ba (by omega)]; rfl) (by omega) d trivial).1
 unfold Tq Pr tgI
 erw [hl]; rfl
theorem RT : ∀ {q : List Ca} {k : Nat} {s : Int × Int}, Bm (Pc (fun _ s x => Ht s x) k s q) = true → ∀ x ∈ q, Gh x = true
 | [], _, _, _, x, hx => by simp at hx
 | y :: q, k, s, h, x, hx => by
  simp only [Pc, Ht] at h
  cases hc : It s y with
  | false => rw [hc] at h; simp [Bm] at h
  | true =>
   rw [hc] at h
   rcases jp.1 hx with rfl | hx
   ·simp only [It, jd] at hc; exact hc.1
   ·exact RT h x hx
theorem TaC : ∀ (q : List Ca) (k : Nat) (t : Int) (d : Nat), d < 2 ^ 63 → Bm (Pc (fun _ s x => Ht s x) k (t, (d : Int)) q) = true →
 Jd (fun _ s x => qdG s x) k (d : Int) q = Jd (fun _ s x => tgG s x) k (d : Int) q
 | [], _, _, _, _, _ => rfl
 | x :: q, k, t, d, hd, h => by
  simp only [Pc, Ht] at h
  cases hc : It (t, (d : Int)) x with
  | false => rw [hc] at h; simp [Bm] at h
  | true =>
   rw [hc] at h
   simp only [cond_true] at h
   simp only [It, jd, Bool.not_eq_true'] at hc
   have hk := Qj hc.1
   obtain ⟨n, hn⟩ := jv hk.2.2.1
   have hn31 : n ≤ 31 := by omega
   have e : qdG (d : Int) x = tgG (d : Int) x := by
    unfold qdG tgG
    have hb := hc.2.2
    rw [hn] at hb ⊢
    cases hp : x.2.2.1 with
    | true =>
     rw [hp] at hb
     exact MaL hd (by omega) (by cases hz : (Bd (d : Int) (n : Int) == 1) with
      | false => rfl
      | true => rw [hz] at hb; simp at hb)
    | false =>
     rw [hp] at hb
     exact Yav hd (by omega) (by cases hz : (Bd (d : Int) (n : Int) == 1) with
      | true => rfl
      | false => rw [hz] at hb; simp at hb)
   obtain ⟨b, hb1, hb2⟩ := Raf (a := d) (k := n) hd (by omega)
   have hg : tgG (d : Int) x = (b : Int) := by unfold tgG; rw [hn]; exact hb1
   simp only [Jd]
   rw [e, hg]
   rw [hn, hb1] at h
   exact TaC q (k + 1) x.1 b hb2 h
theorem Z0 {q : List Ca} {d keys : Int} (h : Fd q d keys = true) : Bm (Pc (fun _ s x => Ht s x) 0 (0, d) q) = true := by
 simp only [Fd, UK, Vap, jd] at h
 have h2 := h.2
 cases hf : Pc (fun _ s x => Ht s x) 0 (0, d) q with
 | inl s => rfl
 | inr u => rw [hf] at h2; cases hd : decide (q.length ≤ 64) <;> rw [hd] at h2 <;> simp at h2
theorem YX {q : List Ca} {d keys : Int} (hd : 0 ≤ d ∧ d ≤ 9223372036854775807) (h : Fd q d keys = true) : (∀ x ∈ q, 0 ≤ x.2.1 ∧ x.2.1 ≤ 31) ∧ qdI d q = tgI d q := by
 have hf := Z0 h
 refine ⟨fun x hx => ?_, ?_⟩
 ·have := Qj (RT hf x hx); omega
 ·obtain ⟨n, rfl⟩ := jv hd.1
  exact TaC q 0 0 n (by rw [GK]; omega) hf
theorem S1 : ∀ (l : List Pa) (k : Nat) (s : Nat), s < 2 ^ 63 → (∀ x ∈ l, Bt x) → ∃ m : Nat, Jd (fun _ s (x : Pa) => Oc .i64 s (Sa .i64 1 x.1)) k (s : Int) l = (m : Int) ∧ m < 2 ^ 63
 | [], _, s, hs, _ => ⟨s, rfl, hs⟩
 | x :: l, k, s, hs, h => by
  have hx := h x (by simp)
  obtain ⟨n, hn⟩ := jv hx.lo
  have := hx.hi
  simp only [Jd]
  rw [hn, Ek (by omega), TC hs (Ni (by omega))]
  exact S1 l (k + 1) _ (Nat.or_lt_two_pow hs (Ni (by omega))) (fun y hy => h y (by simp [hy]))
theorem Dau : ∀ (l : List Ca) (k : Nat) (s : Nat), s < 2 ^ 63 → (∀ x ∈ l, 0 ≤ x.2.1 ∧ x.2.1 ≤ 9223372036854775807) → ∃ m : Nat, orK k (s : Int) l = (m : Int) ∧ m < 2 ^ 63
 | [], _, s, hs, _ => ⟨s, rfl, hs⟩
 | x :: l, k, s, hs, h => by
  have hx := h x (by simp)
  obtain ⟨n, hn⟩ := jv hx.1
  have hn2 : n < 2 ^ 63 := by rw [GK]; omega
  have := Dau l (k + 1) (s ||| n) (Nat.or_lt_two_pow hs hn2) (fun y hy => h y (by simp [hy]))
  simp only [orK, Jd] at this ⊢
  rw [hn, TC hs hn2]
  exact this
theorem Uaf {L : List Va} : ∀ {l pre : List Ca}, IE L pre l = true → ∀ x ∈ l, NZ L x = true
 | [], _, _, x, hx => by simp at hx
 | y :: l, pre, h, x, hx => by
  simp only [IE, jd] at h
  rcases jp.1 hx with rfl | hx
  ·exact h.1.1
  ·exact Uaf h.2 x hx
structure Cal (x : Ca) : Prop where
 lo : 0 ≤ x.1
 hi : x.1 ≤ 31
 left : 0 ≤ x.2.1
theorem NF {c : Oa} (h : Pd c = true) : ∀ x ∈ c.2.2.2.2.2.2.1, Cal x := by
 intro x hx
 simp only [Pd, jd] at h
 have h1 := Uaf (l := c.2.2.2.2.2.2.1) h.2.2.2.2.1.2.1 x hx
 simp only [NZ, jd] at h1
 have h2 := MT h.1 h1.1
 have h3 := h1.2
 simp only [okA, jd, Bool.not_eq_true', decide_eq_false_iff_not] at h3
 exact ⟨by omega, by omega, by omega⟩
theorem WU {c : Oa} (hz : Oi c) (h : Pd c = true) : 0 ≤ Cl c ∧ Cl c ≤ 9223372036854775807 := by
 have ha := NF h
 simp only [Pd, jd, decide_eq_true_eq] at h
 have h1 := h.2.2.2.2.1.1
 obtain ⟨n, hn⟩ := jv h1.1
 obtain ⟨m, hm, hm2⟩ := Dau c.2.2.2.2.2.2.1 0 n (by rw [GK]; omega) (fun x hx => ⟨(ha x hx).left, hz.r x hx⟩)
 rw [GK] at hm2
 unfold Cl
 rw [hn, hm]
 omega
def gvG (s : Int) (x : Ca) : Int := cond x.2.2.1 (Oc .i64 s (Sa .i64 1 x.1)) s
def gvI (c : Oa) : Int := Jd (fun _ s x => gvG s x) 0 c.2.2.2.2.2.1 c.2.2.2.2.2.2.1
theorem Z6 (c : Oa) (hn : c.2.2.2.2.2.2.1.length ≤ Ea) (ha : ∀ x ∈ c.2.2.2.2.2.2.1, Cal x) : GM c = some (gvI c, ()) := by
 have h20 : Ea = 1048576 := rfl
 have hl := (Pe (step := fun x => CA x.1.1 x.1.2.1 x.1.2.2.1 x.2.1) c.2.2.2.2.2.2.1 (fun _ s x => gvG s x) (fun s i => (((), s, i, ()), (c, ())))
  (fun s => .inl ((s, ()), ())) (fun _ _ => True) (by
   intro k hk s _
   refine ⟨?_, trivial⟩
   have hx := ha _ (qr hk)
   simp only [CA]
   rw [Aa (show (k : Int) < ((ja c.2.2.2.2.2.2.1 : Nat) : Int) by omega), Mb hk]
   simp only [cond_true, jb]
   rw [QS ⟨hx.lo, hx.hi⟩]
   unfold gvG
   cases c.2.2.2.2.2.2.1[k].2.2.1 <;> rfl) (by
   intro s _
   simp only [CA]
   rw [Ba (by omega)]; rfl) (by omega) c.2.2.2.2.2.1 trivial).1
 unfold GM AC gvI
 erw [hl]; rfl
theorem T8 (b : Zc) (t : Int) (hn : b.2.2.1.2.2.2.2.2.2.1.length ≤ Ea) (ha : ∀ x ∈ b.2.2.1.2.2.2.2.2.2.1, Cal x) :
 Hm (((), t, b.2.2.1.2.2.2.2.2.1, b.2.2.1.2.2.2.2.2.2.1, ((ja b.2.2.1.2.2.2.2.2.2.1 : Nat) : Int), (0 : Int), ()), (b, ())) = some (.inl (((), t, gvI b.2.2.1, ()), (b, ()))) := by
 have h20 : Ea = 1048576 := rfl
 have hl := (Pe (step := fun x => Wr x.1.1 x.1.2.1 x.1.2.2.1 x.1.2.2.2.1 x.1.2.2.2.2.1 x.1.2.2.2.2.2.1 x.2.1) b.2.2.1.2.2.2.2.2.2.1 (fun _ s x => gvG s x) (fun s i => (((), t, s, b.2.2.1.2.2.2.2.2.2.1, ((ja b.2.2.1.2.2.2.2.2.2.1 : Nat) : Int), i, ()), (b, ())))
  (fun s => .inl (((), t, s, ()), (b, ()))) (fun _ _ => True) (by
   intro k hk s _
   refine ⟨?_, trivial⟩
   have hx := ha _ (qr hk)
   simp only [Wr]
   rw [Aa (show (k : Int) < ((ja b.2.2.1.2.2.2.2.2.2.1 : Nat) : Int) by omega), Mb hk]
   simp only [cond_true, jb]
   rw [Aa hx.lo]
   unfold gvG
   cases b.2.2.1.2.2.2.2.2.2.1[k].2.2.1 <;> rfl) (by
   intro s _
   simp only [Wr]
   rw [Ba (by omega)]; rfl) (by omega) b.2.2.1.2.2.2.2.2.1 trivial).1
 unfold Hm gvI
 exact hl
def K1 (m : Zd) (keys : Int) (L : List Va) : Bool := Yd (fun _ (x : Va) => Yc m x.1 && !decide (x.2.1 ≥ keys)) 0 L
noncomputable def Ir (b : Zc) : Bool :=
 Fg b.1 && (Qg b.2.1 && (Pd b.2.2.1 && (Af b.2.2.2.1 && ((b.2.1.2.2.1 == Dd b.1) && (!decide (b.2.2.2.1.1.1.1 < Dd b.1) && (Yc b.1 b.2.2.2.2.1 &&
  (K1 b.1 b.2.2.2.1.1.1.1 b.2.2.1.1 && (decide (0 ≤ b.2.2.2.2.2.1 ∧ b.2.2.2.2.2.1 ≤ 1000000) && (!decide (b.2.2.1.2.2.2.1 > b.2.2.2.2.2.1) && (!decide (b.2.2.2.1.2.2.2.1 > b.2.2.2.2.2.1) &&
  ((tgI (Cl b.2.2.1) b.2.2.1.2.2.1 == b.2.1.2.2.2.1) && (tgI (Ns b.2.2.2.1.1.2.2.2.1) b.2.2.2.1.2.2.1 == gvI b.2.2.1))))))))))))
structure IK (b : Zc) : Prop where
 d : b.2.1.2.2.2.2.2.1.length ≤ Ea
 c : Oi b.2.2.1
 x : Ja Cc b.2.2.2.1 ≤ Ea
theorem W3 (b : Zc) (h : IK b) : UI b = some (Ir b, ()) := by
 have h20 : Ea = 1048576 := rfl
 have hq := h.x
 rw [MM, HC, Vk, Hk] at hq
 have hn1 := h.c.a
 have hl := Ye (step := fun x => Fv x.1.1 x.1.2.1 x.1.2.2.1 x.1.2.2.2.1 x.1.2.2.2.2.1 x.2.1) b.2.2.1.1 (fun _ (x : Va) => Yc b.1 x.1 && !decide (x.2.1 ≥ b.2.2.2.1.1.1.1)) (fun i => (((), b.2.2.2.1.1.1.1, b.2.2.1.1, ((ja b.2.2.1.1 : Nat) : Int), i, ()), (b, ())))
  (.inl (((), ()), (b, ()))) (.inr ((false, ()), ())) (by
   intro k hk
   simp only [Fv]
   rw [Aa (show (k : Int) < ((ja b.2.2.1.1 : Nat) : Int) by omega), Mb hk]
   simp only [cond_true, jb, Nt]
   cases Yc b.1 b.2.2.1.1[k].1 <;> cases decide (b.2.2.1.1[k].2.1 ≥ b.2.2.2.1.1.1.1) <;> rfl) (by
   simp only [Fv]
   rw [Ba (by omega)]; rfl) (by omega)
 unfold UI Cy Ir
 rw [VG, AK _ h.d, OM _ h.c, QN _ h.x, Hv, Nt]
 simp only [jb, Mp, bne]
 cases Fg b.1 with
 | false => rfl
 | true =>
  cases Qg b.2.1 with
  | false => rfl
  | true =>
   cases hc : Pd b.2.2.1 with
   | false => rfl
   | true =>
    cases hd : Af b.2.2.2.1 with
    | false => rfl
    | true =>
     cases b.2.1.2.2.1 == Dd b.1 with
     | false => rfl
     | true =>
      cases decide (b.2.2.2.1.1.1.1 < Dd b.1) with
      | true => rfl
      | false =>
       cases Yc b.1 b.2.2.2.2.1 with
       | false => rfl
       | true =>
        simp only [cond_true, cond_false, jk, qa]
        erw [hl]
        unfold K1
        cases Yd (fun _ (x : Va) => Yc b.1 x.1 && !decide (x.2.1 ≥ b.2.2.2.1.1.1.1)) 0 b.2.2.1.1 with
        | false => rfl
        | true =>
         have ha := NF hc
         have hdn := WU h.c hc
         have hc2 := hc
         simp only [Pd, jd] at hc2
         have hf := YX hdn hc2.2.2.2.2.2.1
         have hd2 := hd
         simp only [Af, jd] at hd2
         have hh := An (Sx hd2.1)
         obtain ⟨m, hm, hm2⟩ := S1 b.2.2.2.1.1.2.2.2.1 0 0 (by decide) hh
         rw [GK] at hm2
         have hm' : Ns b.2.2.2.1.1.2.2.2.1 = (m : Int) := hm
         have hf2 := YX (by rw [hm']; omega) hd2.2.2.2.2.1
         simp only [cond_true, jb, qk, Bv]
         rw [Ov _ h.c.e, hc2.2.2.2.2.1.2.2]
         simp only [cond_true, jb]
         rw [T8 _ _ h.c.e ha]
         simp only [jb, qk]
         rw [SN _ _ h.c.q (fun x hx => (hf.1 x hx).1), hf.2]
         simp only [jb]
         rw [XG _ (by omega) hh]
         simp only [jb]
         rw [SN _ _ (by omega) (fun x hx => (hf2.1 x hx).1), hf2.2]
         simp only [jb, jk]
         cases decide (0 ≤ b.2.2.2.2.2.1 ∧ b.2.2.2.2.2.1 ≤ 1000000) <;> cases decide (b.2.2.1.2.2.2.1 > b.2.2.2.2.2.1) <;> cases decide (b.2.2.2.1.2.2.2.1 > b.2.2.2.2.2.1) <;> cases (tgI (Cl b.2.2.1) b.2.2.1.2.2.1 == b.2.1.2.2.2.1) <;> rfl
theorem U4 (b : Zc) (h : IK b) : TJ b = some (Ir b, ()) := by
 have h20 : Ea = 1048576 := rfl
 have hq := h.x
 rw [MM, HC, Vk, Hk] at hq
 have hn1 := h.c.a
 have hl := Ye (step := fun x => Bw x.1.1 x.1.2.1 x.1.2.2.1 x.2.1) b.2.2.1.1 (fun _ (x : Va) => Yc b.1 x.1 && !decide (x.2.1 ≥ b.2.2.2.1.1.1.1)) (fun i => (((), b.2.2.2.1.1.1.1, i, ()), (b, ())))
  (.inl (((), ()), (b, ()))) (.inr ((false, ()), ())) (by
   intro k hk
   simp only [Bw]
   rw [Aa (show (k : Int) < ((ja b.2.2.1.1 : Nat) : Int) by omega), Mb hk]
   simp only [cond_true, jb, Gu]
   cases Yc b.1 b.2.2.1.1[k].1 <;> cases decide (b.2.2.1.1[k].2.1 ≥ b.2.2.2.1.1.1.1) <;> rfl) (by
   simp only [Bw]
   rw [Ba (by omega)]; rfl) (by omega)
 unfold TJ Hy Ir
 rw [HK _ h.d, AN _ h.c, TN _ h.x, Gk, Gu]
 simp only [jb, Mp, bne]
 cases hmat : Fg b.1 with
 | false =>
  have : Dd b.1 = 0 := by unfold Dd; rw [hmat]; rfl
  rw [this]; rfl
 | true =>
  have hk := Qaa hmat
  have : (Dd b.1 == 0) = false := by rw [beq_eq_false_iff_ne]; omega
  rw [this]
  cases Qg b.2.1 with
  | false => rfl
  | true =>
   cases b.2.1.2.2.1 == Dd b.1 with
   | false => cases Pd b.2.2.1 <;> cases Af b.2.2.2.1 <;> rfl
   | true =>
    cases Yc b.1 b.2.2.2.2.1 with
    | false => cases Pd b.2.2.1 <;> cases Af b.2.2.2.1 <;> cases decide (b.2.2.2.1.1.1.1 < Dd b.1) <;> rfl
    | true =>
     cases hc : Pd b.2.2.1 with
     | false => rfl
     | true =>
      cases hd : Af b.2.2.2.1 with
      | false => rfl
      | true =>
       cases decide (b.2.2.2.1.1.1.1 < Dd b.1) with
       | true => rfl
       | false =>
        simp only [cond_true, cond_false, jk, qa]
        erw [hl]
        unfold K1
        cases Yd (fun _ (x : Va) => Yc b.1 x.1 && !decide (x.2.1 ≥ b.2.2.2.1.1.1.1)) 0 b.2.2.1.1 with
        | false => rfl
        | true =>
         have ha := NF hc
         have hdn := WU h.c hc
         have hc2 := hc
         simp only [Pd, jd] at hc2
         have hf := YX hdn hc2.2.2.2.2.2.1
         have hd2 := hd
         simp only [Af, jd] at hd2
         have hh := An (Sx hd2.1)
         obtain ⟨m, hm, hm2⟩ := S1 b.2.2.2.1.1.2.2.2.1 0 0 (by decide) hh
         rw [GK] at hm2
         have hm' : Ns b.2.2.2.1.1.2.2.2.1 = (m : Int) := hm
         have hf2 := YX (by rw [hm']; omega) hd2.2.2.2.2.1
         simp only [cond_true, jb, qk, Vc, Mp]
         rw [XJ _ h.c.e]
         simp only [cond_true, jb]
         rw [BN _ _ h.c.q hf.1]
         simp only [jb]
         rw [WJ _ (by omega) hh]
         simp only [jb]
         rw [BN _ _ (by omega) hf2.1, Z6 _ h.c.e ha]
         simp only [jb, jk]
         cases decide (0 ≤ b.2.2.2.2.2.1 ∧ b.2.2.2.2.2.1 ≤ 1000000) <;> cases decide (b.2.2.1.2.2.2.1 > b.2.2.2.2.2.1) <;> cases decide (b.2.2.2.1.2.2.2.1 > b.2.2.2.2.2.1) <;> cases (tgI (Cl b.2.2.1) b.2.2.1.2.2.1 == b.2.1.2.2.2.1) <;> rfl
theorem Has (d : Ob) : Ja Kb d = d.2.2.2.2.2.1.length := by
 have := Qau d.2.2.2.2.2.1
 simp only [Ja, Nat.add_zero, js] at this ⊢
 exact this
theorem Yaf (c : Oa) : Ja Nb c = c.1.length + (c.2.2.1.length + c.2.2.2.2.2.2.1.length) := by
 have h1 := Fo (e := Wb) rfl c.1
 have h2 := Fo (e := Za) rfl c.2.2.1
 have h3 := Fo (e := Za) rfl c.2.2.2.2.2.2.1
 simp only [Ja, Nat.add_zero, js] at h1 h2 h3 ⊢
 rw [h1, h2, h3]
theorem HaD (c : Oa) (hr : Yl Nb c) (hz : Ja Nb c ≤ Ea) : Oi c := by
 rw [Yaf] at hz
 refine ⟨by omega, by omega, by omega, fun x hx => ?_⟩
 obtain ⟨i, hi, rfl⟩ := qt hx
 have h1 := hr.2.2.2.2.2.2.1.2 i hi
 exact h1.2.1.2
theorem Mab (b : Zc) : Ja Ad b = Ja Kb b.2.1 + (Ja Nb b.2.2.1 + Ja Cc b.2.2.2.1) := by
 simp only [Ja, Nat.add_zero, js]
theorem Aaw (b : Zc) (hr : Yl Ad b) (hz : Ja Ad b ≤ Ea) : IK b := by
 rw [Mab, Has] at hz
 exact ⟨by omega, HaD _ hr.2.2.1 (by omega), by omega⟩
theorem Sac {m : Sb} (hz : Ja Ub m ≤ Ea) : ja m.2.1 ≤ Ea ∧ ∀ k (hk : k < m.2.1.length), m.2.1[k].length ≤ Ea := by
 have h0 : Ja Ub m = 0 + (Ja (.sl (.sl Rb)) m.2.1 + 0) := rfl
 have h1 : Ja (.sl (.sl Rb)) m.2.1 = ja m.2.1 + (List.map (Ja (.sl Rb)) m.2.1).sum := rfl
 refine ⟨by omega, fun k hk => ?_⟩
 have h2 := Qw (f := Ja (.sl Rb)) hk
 rw [G5] at h2
 omega
theorem EW (m : Sb) (hz : Ja Ub m ≤ Ea) : Yy m = some (m, ()) := by
 have h20 : Ea = 1048576 := rfl
 obtain ⟨h1, h2⟩ := Sac hz
 have hl := SQ (step := fun x : (Unit × Unit × List (List Bb) × Int × Int × Unit) × Sb × Sb × Unit => Io x.1.1 x.1.2.1 x.1.2.2.1 x.1.2.2.2.1 x.1.2.2.2.2.1 x.2.1 x.2.2.1) m.2.1 (fun x => x)
  (fun o k => (((), (), m.2.1, (m.2.1.length : Int), k, ()), ((0, [], ()), (m.1, o, ()), ()))) (fun o => .inl (((), (), ()), ((0, [], ()), (m.1, o, ()), ()))) (by omega) (fun k hk o ho => by
   have := h2 k hk
   simp only [Io]
   rw [Aa (by omega), Mb hk]
   simp only [cond_true, jb]
   rw [Lj (by simp; omega), Lj (by simp only [jw, j8]; omega)]
   rfl) (fun o => by
   simp only [Io]
   rw [Ba (by omega)]
   rfl)
 unfold Yy Cr
 erw [hl]
 rw [List.map_id']
 rfl
theorem A7 (m : Sb) (hz : Ja Ub m ≤ Ea) : HM m = some (m, ()) := by
 have h20 : Ea = 1048576 := rfl
 obtain ⟨h1, h2⟩ := Sac hz
 have hl := SQ (step := fun x : (Unit × Unit × Unit × Int × Unit) × Sb × Sb × Sb × Unit => FA x.1.1 x.1.2.1 x.1.2.2.1 x.1.2.2.2.1 x.2.1 x.2.2.1 x.2.2.2.1) m.2.1 (fun x => x)
  (fun o k => (((), (), (), k, ()), (m, (0, [], ()), (m.1, o, ()), ()))) (fun o => .inl (((), (), ()), ((0, [], ()), (m.1, o, ()), ()))) (by omega) (fun k hk o ho => by
   have := h2 k hk
   simp only [FA]
   rw [Aa (by omega), Mb hk]
   simp only [cond_true, jb]
   rw [Lj (by simp; omega), Lj (by simp only [jw, j8]; omega)]
   rfl) (fun o => by
   simp only [FA]
   rw [Ba (by omega)]
   rfl)
 unfold HM DC
 erw [hl]
 rw [List.map_id']
 rfl
theorem D8 {L : List (List Qc)} (hz : Ja (.sl (.sl Bc)) L ≤ Ea) : ja L ≤ Ea ∧ ∀ k (hk : k < L.length), L[k].length ≤ Ea := by
 have h1 : Ja (.sl (.sl Bc)) L = ja L + (List.map (Ja (.sl Bc)) L).sum := rfl
 refine ⟨by omega, fun k hk => ?_⟩
 have h2 := Qw (f := Ja (.sl Bc)) hk
 rw [G7] at h2
 omega
theorem FW (L : List (List Qc)) (hz : Ja (.sl (.sl Bc)) L ≤ Ea) : Zy L = some (L, ()) := by
 have h20 : Ea = 1048576 := rfl
 obtain ⟨h1, h2⟩ := D8 hz
 have hl := SQ (step := fun x => Jo x.1.1 x.1.2.1 x.1.2.2.1 x.1.2.2.2.1) L (fun x => x)
  (fun o k => ((o, L, ((ja L : Nat) : Int), k, ()), ())) (fun o => .inl ((o, ()), ())) (by omega) (fun k hk o ho => by
   have := h2 k hk
   simp only [Jo]
   rw [Aa (by omega), Mb hk]
   simp only [cond_true, jb]
   rw [Lj (by simp; omega), Lj (by simp only [jw, j8]; omega)]
   rfl) (fun o => by
   simp only [Jo]
   rw [Ba (by omega)]
   rfl)
 unfold Zy Dr
 erw [hl]
 rw [List.map_id']
 rfl
theorem XA (e : Gb) (hz : Ja Xb e ≤ Ea) : Gl e = some (e, ()) := by
 have h20 : Ea = 1048576 := rfl
 rw [Vk, Hk] at hz
 unfold Gl
 rw [EW _ (by omega), FW _ (by omega), Lj (by simp; omega)]
 rfl
theorem DV (d : Hb) (hz : Ja Cc d ≤ Ea) : Tn d = some (d, ()) := by
 have h20 : Ea = 1048576 := rfl
 rw [MM, HC] at hz
 unfold Tn
 rw [XA _ (by omega), Lj (by simp; omega)]
 rfl
theorem XT (c : Oa) (h : Oi c) : Am c = some (c, ()) := by
 have h20 : Ea = 1048576 := rfl
 have h1 := h.a
 have h2 := h.q
 have h3 := h.e
 unfold Am
 rw [Lj (by simp; omega), Lj (by simp; omega), Lj (by simp; omega)]
 rfl
theorem Y4 (c : Oa) (h : Oi c) : WB c = some (c, ()) := by
 have h20 : Ea = 1048576 := rfl
 have h1 := h.a
 have h2 := h.q
 have h3 := h.e
 unfold WB
 rw [Lj (by simp; omega), Lj (by simp; omega), Lj (by simp; omega)]
 rfl
theorem KL (e : Gb) (hz : Ja Xb e ≤ Ea) : Rr e = some (e, ()) := by
 have h20 : Ea = 1048576 := rfl
 rw [Vk, Hk] at hz
 obtain ⟨h1, h2⟩ := D8 (L := e.2.1) (by omega)
 have hl := SQ (step := fun x => IA x.1.1 x.1.2.1 x.1.2.2.1 x.1.2.2.2.1 x.2.1 x.2.2.1 x.2.2.2.1) e.2.1 (fun x => x)
  (fun o k => (((), (), (), k, ()), (e, (((0 : Int), ([] : List (List Bb)), ()), ([] : List (List Qc)), (0 : Int), ([] : List Pa), (0 : Int), false, ()), (e.1, o, e.2.2), ())))
  (fun o => .inl (((), (), (), ()), (e, (((0 : Int), ([] : List (List Bb)), ()), ([] : List (List Qc)), (0 : Int), ([] : List Pa), (0 : Int), false, ()), (e.1, o, e.2.2), ()))) (by omega) (fun k hk o ho => by
   have := h2 k hk
   simp only [IA]
   rw [Aa (by omega), Mb hk]
   simp only [cond_true, jb]
   rw [Lj (by simp; omega), Lj (by simp only [jw, j8]; omega)]
   rfl) (fun o => by
   simp only [IA]
   rw [Ba (by omega)]
   rfl)
 unfold Rr FC
 rw [A7 _ (by omega)]
 simp only [jb]
 erw [hl]
 rw [List.map_id']
 simp only [jb, qk]
 rw [Lj (by simp; omega)]
 rfl
def J5 : Zc := (((0 : Int), (0 : Int), false, ()), ((0 : Int), (0 : Int), (0 : Int), (0 : Int), (0 : Int), ([] : List Int), ()), (([] : List Va), (0 : Int), ([] : List Ca), (0 : Int), (0 : Int), (0 : Int), ([] : List Ca), ()), ((((0 : Int), ([] : List (List Bb)), ()), ([] : List (List Qc)), (0 : Int), ([] : List Pa), (0 : Int), false, ()), ((0 : Int), (0 : Int), (0 : Int), ()), ([] : List Ca), (0 : Int), (0 : Int), (0 : Int), (0 : Int), ()), (0 : Int), (0 : Int), ())
theorem Pac : ∀ (a b : List Int), a.length = b.length → Yd (fun k x => b.getD k 0 == x) 0 a = (b == a)
 | a, b, h => by
  rw [qx, PA, beq_iff_eq]
  constructor
  ·intro hj
   apply List.ext_getElem h.symm
   intro i h1 h2
   have := hj i h2
   rw [js, beq_iff_eq, qj, je h1] at this
   exact this
  ·rintro rfl i hi
   rw [js, beq_iff_eq, qj, je hi]; rfl
theorem J1 (a b : List Int) (hn : a.length ≤ Ta) : RF a b = some (a == b, ()) := by
 have hlim := Ee
 unfold RF
 by_cases h : a.length = b.length
 ·have hl := Ye (step := fun x => Es x.1.1 x.1.2.1 x.1.2.2.1 x.1.2.2.2.1) a (fun k x => b.getD k 0 == x) (fun i => ((a, b, ((ja a : Nat) : Int), i, ()), ()))
   (.inl ((), ())) (.inr ((false, ()), ())) (by
    intro k hk
    simp only [Es]
    rw [Aa (show (k : Int) < ((ja a : Nat) : Int) by omega), Mb hk, Mb (show k < b.length by omega), qj, je (show k < b.length by omega)]
    simp only [cond_true, jb, Option.getD_some, bne]
    rw [show (a[k] == b[k]) = (b[k] == a[k]) by rw [qx, beq_iff_eq, beq_iff_eq]; exact eq_comm]
    cases b[k] == a[k] <;> rfl) (by
    simp only [Es]
    rw [Ba (by omega)]; rfl) (by omega)
  have e : (((ja a : Nat) : Int) != ((ja b : Nat) : Int)) = false := by simp [h]
  rw [e]
  simp only [cond_false]
  unfold Nv
  erw [hl]
  rw [Pac a b h, show (b == a) = (a == b) by rw [qx, beq_iff_eq, beq_iff_eq]; exact eq_comm]
  cases a == b <;> rfl
 ·have e : (((ja a : Nat) : Int) != ((ja b : Nat) : Int)) = true := by simp; omega
  have e2 : (a == b) = false := by rw [beq_eq_false_iff_ne]; intro hh; exact h (by rw [hh])
  rw [e, e2]; rfl
theorem Zax (a b : T Kg) (h1 : ja a.2.1 ≤ Ta) (_ : ja b.2.1 ≤ Ta) : (fun x : T (.p Kg (.p Kg .u)) => Up x.1 x.2.1) (a, b, ()) = some (Zj a b, ()) := by
 show Up a b = _
 unfold Up
 rw [J1 _ _ h1]
 simp only [jb, Zj]
 cases (show Int from a.1) == (show Int from b.1) <;> rfl
theorem Cas (c : T Re → T Re → Option Bool) (l : List (T Re)) (hl : ja l ≤ Ta) : ∀ (ys : List (T Re)) (k : Nat) (out q : List (T Re)) (a : T Re), l.drop k = ys → k ≤ ja l → ja out + ja ys ≤ Ta →
 KT c a ys = some q → Qx c (((), out, l, ((ja l : Nat) : Int), (k : Int), ()), (a, ())) = some (.inl ((jf out q, ()), ())) := by
 have hlim := Ee
 intro ys
 induction ys with
 | nil =>
  intro k out q a hd hk _ hq
  have := PT hd hk
  subst this
  simp only [KT, jc] at hq
  subst hq
  have hs : SK c () out l ((ja l : Nat) : Int) ((ja l : Nat) : Int) a = some (.inr (.inl ((out, ()), ()))) := by
   unfold SK
   rw [Ba (by omega)]; rfl
  unfold Qx
  rw [Oe hs]
  simp
 | cons y ys ih =>
  intro k out q a hd hk hlen hq
  obtain ⟨hk', hy, hd'⟩ := NM hd
  simp only [KT] at hq
  cases hc : c a y with
  | none => rw [hc] at hq; simp at hq
  | some b =>
   rw [hc] at hq
   simp only [jb] at hq
   cases hq2 : KT c y ys with
   | none => rw [hq2] at hq; simp at hq
   | some q2 =>
    rw [hq2] at hq
    simp only [jb, jc] at hq
    have hlc : ja (y :: ys) = ja ys + 1 := rfl
    have hs : SK c () out l ((ja l : Nat) : Int) (k : Int) a = some (.inl (((), cond b out (jf out [y]), l, ((ja l : Nat) : Int), ((k + 1 : Nat) : Int), ()), (y, ()))) := by
     unfold SK GaC
     rw [Aa (show (k : Int) < ((ja l : Nat) : Int) by omega), Mb hk', hy]
     simp only [cond_true, jb, hc]
     rw [Gc (by omega)]
     cases b with
     | true => rfl
     | false =>
      rw [show jx (ja out + ja ([y] : List (Int × ((T .o) × Unit)))) Ta = true from ji (by simp only [jw, j8]; omega)]
      rfl
    unfold Qx
    rw [Oe hs]
    simp only [jb, qk]
    have := ih (k + 1) (cond b out (jf out [y])) q2 y hd' hk' (by cases b with
     | true => simp only [cond_true]; omega
     | false => simp only [cond_false, List.append_eq, qf, jw, j8]; omega) hq2
    unfold Qx at this
    rw [this, ← hq]
    cases b with
    | true => rfl
    | false => simp
theorem CaD (c : T Re → T Re → Option Bool) : ∀ (a : T Re) (l r : List (T Re)), ja l ≤ Ta → KT c a l = some r → (fun x : T (.p Re (.p (.sl Re) .u)) => Hap c x.1 x.2.1) (a, l, ()) = some (r, ()) := by
 intro a l r hl hq
 show Hap c a l = _
 unfold Hap
 have := Cas c l hl l 0 [] r a rfl (Nat.zero_le _) (by simpa using hl) hq
 erw [this]
 rfl
theorem E8 : ∀ {a b : List Int}, a.Pairwise (· < ·) → b.Pairwise (· < ·) → (∀ x, x ∈ a ↔ x ∈ b) → a = b
 | [], [], _, _, _ => rfl
 | [], y :: b, _, _, h => by have := (h y).2 (by simp); simp at this
 | x :: a, [], _, _, h => by have := (h x).1 (by simp); simp at this
 | x :: a, y :: b, ha, hb, h => by
  rw [List.pairwise_cons] at ha hb
  have hxy : x = y := by
   rcases jp.1 ((h x).1 (by simp)) with h1 | h1
   ·exact h1
   ·rcases jp.1 ((h y).2 (by simp)) with h2 | h2
    ·exact h2.symm
    ·have := hb.1 x h1; have := ha.1 y h2; omega
  subst hxy
  congr 1
  refine E8 ha.2 hb.2 fun z => ⟨fun hz => ?_, fun hz => ?_⟩
  ·rcases jp.1 ((h z).1 (by simp [hz])) with h1 | h1
   ·have := ha.1 z hz; omega
   ·exact h1
  ·rcases jp.1 ((h z).2 (by simp [hz])) with h1 | h1
   ·have := hb.1 z hz; omega
   ·exact h1
def XU (o : List Int) (x : Int) : List Int := cond ((x != 0) && !o.any (fun y => y == x)) (jf o [x]) o
def ddK (k : Nat) (o l : List Int) : List Int := Jd (fun _ o x => XU o x) k o l
theorem Gas : ∀ (l : List Int) (k : Nat) (o : List Int) (y : Int), y ∈ ddK k o l ↔ y ∈ o ∨ (y ∈ l ∧ y ≠ 0)
 | [], _, o, y => by simp [ddK, Jd]
 | x :: l, k, o, y => by
  have := Gas l (k + 1) (XU o x) y
  simp only [ddK, Jd] at this ⊢
  rw [this]
  unfold XU
  by_cases h0 : x = 0
  ·subst h0
   simp only [bne_self_eq_false, qp, cond_false, jp]
   constructor
   ·rintro (h | ⟨h1, h2⟩)
    ·exact .inl h
    ·exact .inr ⟨.inr h1, h2⟩
   ·rintro (h | ⟨h1 | h1, h2⟩)
    ·exact .inl h
    ·exact absurd h1 h2
    ·exact .inr ⟨h1, h2⟩
  ·by_cases h1 : o.any (fun y => y == x) = true
   ·rw [h1]
    simp only [jg, Bool.and_false, cond_false, jp]
    have hx : x ∈ o := by
     obtain ⟨z, hz, e⟩ := List.any_eq_true.1 h1
     rw [beq_iff_eq] at e; rw [← e]; exact hz
    constructor
    ·rintro (h | ⟨h1, h2⟩)
     ·exact .inl h
     ·exact .inr ⟨.inr h1, h2⟩
    ·rintro (h | ⟨h1 | h1, h2⟩)
     ·exact .inl h
     ·exact .inl (h1 ▸ hx)
     ·exact .inr ⟨h1, h2⟩
   ·have e : ((x != 0) && !o.any (fun y => y == x)) = true := by
     simp only [qb] at h1
     rw [h1]; simp [h0]
    rw [e]
    simp only [cond_true, List.append_eq, jl, jp, List.not_mem_nil, or_false]
    constructor
    ·rintro ((h | h) | ⟨h1, h2⟩)
     ·exact .inl h
     ·exact .inr ⟨.inl h, by rw [h]; exact h0⟩
     ·exact .inr ⟨.inr h1, h2⟩
    ·rintro (h | ⟨h1 | h1, h2⟩)
     ·exact .inl (.inl h)
     ·exact .inl (.inr h1)
     ·exact .inr ⟨h1, h2⟩
theorem P7 : ∀ (l : List Int) (k : Nat) (o : List Int), o.Pairwise (· < ·) → l.Pairwise (· ≤ ·) → (∀ y ∈ o, ∀ x ∈ l, y ≤ x) → (ddK k o l).Pairwise (· < ·)
 | [], _, o, ho, _, _ => by simpa [ddK, Jd] using ho
 | x :: l, k, o, ho, hl, h => by
  rw [List.pairwise_cons] at hl
  have key : (XU o x).Pairwise (· < ·) ∧ ∀ y ∈ XU o x, ∀ z ∈ l, y ≤ z := by
   unfold XU
   cases hc : (x != 0) && !o.any (fun y => y == x) with
   | false => exact ⟨ho, fun y hy z hz => h y hy z (by simp [hz])⟩
   | true =>
    simp only [jd, Bool.not_eq_true', List.any_eq_false, beq_iff_eq] at hc
    simp only [cond_true, List.append_eq]
    refine ⟨?_, ?_⟩
    ·rw [List.pairwise_append]
     refine ⟨ho, by simp, fun y hy z hz => ?_⟩
     simp only [jp, List.not_mem_nil, or_false] at hz
     subst hz
     have h1 := h y hy z (by simp)
     have h2 := hc.2 y hy
     omega
    ·intro y hy z hz
     rcases jl.1 hy with hy | hy
     ·exact h y hy z (by simp [hz])
     ·simp only [jp, List.not_mem_nil, or_false] at hy
      subst hy
      exact hl.1 z hz
  have := P7 l (k + 1) (XU o x) key.1 hl.2 key.2
  simpa [ddK, Jd] using this
def Ak (l : List Pa) : Nat → List Int
 | 0 => []
 | n + 1 => cond (l.any fun h => h.2.1.2.1 == ((n + 1 : Nat) : Int)) (Ak l n ++ [((n + 1 : Nat) : Int)]) (Ak l n)
theorem RI (l : List Pa) : ∀ (n : Nat) (x : Int), x ∈ Ak l n ↔ (1 ≤ x ∧ x ≤ (n : Int)) ∧ ∃ h ∈ l, h.2.1.2.1 = x
 | 0, x => by simp [Ak]; intro h1 h2; omega
 | n + 1, x => by
  simp only [Ak]
  cases hc : (l.any fun h => h.2.1.2.1 == ((n + 1 : Nat) : Int)) with
  | true =>
   simp only [cond_true, jl, RI l n x, jp, List.not_mem_nil, or_false]
   obtain ⟨h, hh, e⟩ := List.any_eq_true.1 hc
   rw [beq_iff_eq] at e
   constructor
   ·rintro (⟨h1, h2⟩ | rfl)
    ·exact ⟨by omega, h2⟩
    ·exact ⟨by omega, h, hh, e⟩
   ·rintro ⟨h1, h2⟩
    by_cases hx : x = ((n + 1 : Nat) : Int)
    ·exact .inr hx
    ·exact .inl ⟨by omega, h2⟩
  | false =>
   simp only [cond_false, RI l n x]
   rw [List.any_eq_false] at hc
   constructor
   ·rintro ⟨h1, h2⟩; exact ⟨by omega, h2⟩
   ·rintro ⟨h1, h, hh, e⟩
    refine ⟨?_, h, hh, e⟩
    have := hc h hh
    rw [beq_iff_eq] at this
    omega
theorem IN (l : List Pa) : ∀ n, (Ak l n).Pairwise (· < ·)
 | 0 => by simp [Ak]
 | n + 1 => by
  simp only [Ak]
  cases (l.any fun h => h.2.1.2.1 == ((n + 1 : Nat) : Int)) with
  | true =>
   simp only [cond_true]
   rw [List.pairwise_append]
   refine ⟨IN l n, by simp, fun y hy z hz => ?_⟩
   simp only [jp, List.not_mem_nil, or_false] at hz
   have := (RI l n y).1 hy
   omega
  | false => exact IN l n
theorem LT (l : List Pa) : ∀ n, (Ak l n).length ≤ n
 | 0 => by simp [Ak]
 | n + 1 => by
  have := LT l n
  simp only [Ak]
  cases (l.any fun h => h.2.1.2.1 == ((n + 1 : Nat) : Int)) <;> simp <;> omega
def Raa (l : List Pa) : Int := Jd (fun _ s (h : Pa) => cond (h.2.1.1 == 2 || h.2.1.1 == 8) (Oc .i64 s h.2.1.2.2.1) s) 0 0 l
def Wc (l : List Pa) : Ha := (Raa l, Ak l 56, ())
theorem TL {a : Bb} (h : Gd a = true) : 0 ≤ a.2.1 ∧ a.2.1 ≤ 56 := by
 rw [Hc] at h
 unfold Sd at h
 omega
theorem G6 (l : List Int) (x : Int) (hn : l.length ≤ Ta) : AM l x = some (l.any (fun y => y == x), ()) := by
 have hlim := Ee
 have hl := Ye (step := fun y => Bz y.1.1 y.1.2.1 y.1.2.2.1 y.1.2.2.2.1) l (fun _ y => !(y == x)) (fun i => ((x, l, ((ja l : Nat) : Int), i, ()), ()))
  (.inl ((), ())) (.inr ((true, ()), ())) (by
   intro k hk
   simp only [Bz]
   rw [Aa (show (k : Int) < ((ja l : Nat) : Int) by omega), Mb hk]
   simp only [cond_true, jb]
   cases l[k] == x <;> rfl) (by
   simp only [Bz]
   rw [Ba (by omega)]; rfl) (by omega)
 unfold AM ZA
 erw [hl]
 have : ∀ (l : List Int) (k : Nat), Yd (fun _ y => !(y == x)) k l = !l.any (fun y => y == x) := by
  intro l
  induction l with
  | nil => intro k; rfl
  | cons y l ih => intro k; simp only [Yd, List.any_cons, ih, Bool.not_or]
 rw [this]
 cases l.any (fun y => y == x) <;> rfl
theorem KQ (l : List Pa) (hn : l.length ≤ Ea) (hx : ∀ h ∈ l, 0 ≤ h.2.1.2.1 ∧ h.2.1.2.1 ≤ 56) : Ot (l.map fun h => h.2.1.2.1) = some (Ak l 56, ()) := by
 have h20 : Ea = 1048576 := rfl
 have hlim := Ee
 generalize hcs : (l.map fun h => h.2.1.2.1) = cs
 have hcl : cs.length = l.length := by rw [← hcs]; simp
 unfold Ot
 rw [GP _ (by omega)]
 simp only [jb, sort_Ints, srt]
 rw [show jx (ja cs) Ta = true from ji (by omega)]
 simp only [cond_true, jb]
 generalize hss : (List.mergeSort cs fun x y => decide (x ≤ y)) = ss
 have hsl : ss.length = cs.length := by rw [← hss]; exact List.length_mergeSort _
 have hsm : ∀ x, x ∈ ss ↔ x ∈ cs := fun x => by rw [← hss]; exact List.mem_mergeSort
 have hsp : ss.Pairwise (· ≤ ·) := by
  rw [← hss]
  have := List.pairwise_mergeSort (le := fun x y : Int => decide (x ≤ y)) (by intro a b c; simp; omega) (by intro a b; simp; omega) cs
  exact this.imp (by intro a b h; simpa using h)
 have hl := (Pe (step := fun x => Kv x.1.1 x.1.2.1 x.1.2.2.1 x.1.2.2.2.1) ss (fun _ o x => XU o x) (fun o i => ((o, ss, ((ja ss : Nat) : Int), i, ()), ())) (fun o => .inl ((o, ()), ())) (fun k o => o.length ≤ k) (by
  intro k hk o ho
  have hd : (XU o ss[k]).length ≤ k + 1 := by
   unfold XU
   cases (ss[k] != 0) && !o.any (fun y => y == ss[k]) <;> simp <;> omega
  refine ⟨?_, hd⟩
  simp only [Kv]
  rw [Aa (show (k : Int) < ((ja ss : Nat) : Int) by omega), show Xe (ja ss) (k : Int) = true by rw [Ig]; exact Aa hk, jn, je hk]
  simp only [cond_true, jb]
  rw [G6 _ _ (by omega), show jx (ja o + ja ([ss[k]] : List Int)) Ta = true from ji (by simp only [jw, j8]; omega)]
  simp only [jb, XU]
  cases ss[k] != 0 <;> cases o.any (fun y => y == ss[k]) <;> rfl)
  (by
   intro o _
   simp only [Kv]
   rw [Ba (by omega)]; rfl) (by omega) [] (jo _)).1
 unfold Ey
 erw [hl]
 simp only [jb, qk]
 congr 2
 refine E8 (P7 ss 0 [] (by simp) hsp (by simp)) (IN l 56) fun x => ?_
 rw [show Jd (fun _ o x => XU o x) 0 [] ss = ddK 0 [] ss from rfl, Gas, RI, hsm, ← hcs]
 simp only [List.not_mem_nil, false_or, qu]
 constructor
 ·rintro ⟨⟨h, hh, rfl⟩, h0⟩
  have := hx h hh
  exact ⟨by omega, h, hh, rfl⟩
 ·rintro ⟨h1, h, hh, rfl⟩
  exact ⟨⟨h, hh, rfl⟩, by omega⟩
theorem Jv (l : List Pa) (hn : l.length ≤ Ea) (hv : Gf l = true) : Ae l = some (Wc l, ()) := by
 have h20 : Ea = 1048576 := rfl
 have hlim := Ee
 have hh := An hv
 have hl := (Pe (step := fun x => As x.1.1 x.1.2.1 x.1.2.2.1 x.1.2.2.2.1 x.1.2.2.2.2.1 x.1.2.2.2.2.2.1 x.2.1 x.2.2.1) l
  (fun _ (s : Int × List Int) (h : Pa) => (cond (h.2.1.1 == 2 || h.2.1.1 == 8) (Oc .i64 s.1 h.2.1.2.2.1) s.1, jf s.2 [h.2.1.2.1])) (fun s i => (((), (), s.2, l, ((ja l : Nat) : Int), i, ()), (((0 : Int), ([] : List Int), ()), (s.1, ([] : List Int), ()), ())))
  (fun s => .inl (((), (), s.2, ()), (((0 : Int), ([] : List Int), ()), (s.1, ([] : List Int), ()), ()))) (fun k s => s.2.length = k) (by
   intro k hk s hs
   refine ⟨?_, by simp [hs]⟩
   simp only [As]
   rw [Aa (show (k : Int) < ((ja l : Nat) : Int) by omega), Mb hk]
   simp only [cond_true, jb]
   rw [show jx (ja s.2 + ja ([l[k].2.1.2.1] : List Int)) Ta = true from ji (by simp only [jw, j8]; omega)]
   cases l[k].2.1.1 == 2 <;> cases l[k].2.1.1 == 8 <;> rfl)
  (by
   intro s _
   simp only [As]
   rw [Ba (by omega)]; rfl) (by omega) (0, []) rfl).1
 have key : ∀ (l : List Pa) (k : Nat) (s : Int × List Int), Jd (fun _ (s : Int × List Int) (h : Pa) => (cond (h.2.1.1 == 2 || h.2.1.1 == 8) (Oc .i64 s.1 h.2.1.2.2.1) s.1, jf s.2 [h.2.1.2.1])) k s l =
  (Jd (fun _ s (h : Pa) => cond (h.2.1.1 == 2 || h.2.1.1 == 8) (Oc .i64 s h.2.1.2.2.1) s) k s.1 l, s.2 ++ l.map fun h => h.2.1.2.1) := by
  intro l
  induction l with
  | nil => intro k s; simp [Jd]
  | cons x l ih => intro k s; simp only [Jd]; rw [ih]; simp
 unfold Ae Iv
 rw [OC _ hn, hv]
 simp only [jb, jg, cond_false]
 erw [hl]
 rw [key]
 simp only [jb, qk, List.nil_append]
 rw [KQ l hn (fun h hm => TL (hh h hm).act)]
 rfl
theorem I2 (l : List Pa) (hn : l.length ≤ Ea) (c : Nat) (hc : c ≤ 56) (m : Int) (o : List Int) (ho : o.length ≤ 56) :
 Ol ((l, (), (), (c : Int), (0 : Int), ()), (((0 : Int), ([] : List Int), ()), (m, o, ()), ())) =
  some (.inl ((l, (), (), (c : Int), ()), (((0 : Int), ([] : List Int), ()), (m, cond (l.any fun h => h.2.1.2.1 == (c : Int)) (jf o [(c : Int)]) o, ()), ()))) := by
 have h20 : Ea = 1048576 := rfl
 have hl := Ye (step := fun x => Pq x.1.1 x.1.2.1 x.1.2.2.1 x.1.2.2.2.1 x.1.2.2.2.2.1 x.2.1 x.2.2.1) l (fun _ (h : Pa) => !(h.2.1.2.1 == (c : Int))) (fun i => ((l, (), (), (c : Int), i, ()), (((0 : Int), ([] : List Int), ()), (m, o, ()), ())))
  (.inl ((l, (), (), (c : Int), ()), (((0 : Int), ([] : List Int), ()), (m, o, ()), ()))) (.inl ((l, (), (), (c : Int), ()), (((0 : Int), ([] : List Int), ()), (m, jf o [(c : Int)], ()), ()))) (by
   intro k hk
   simp only [Pq]
   rw [Aa (show (k : Int) < ((ja l : Nat) : Int) by omega), Mb hk]
   simp only [cond_true, jb]
   rw [show jx (ja o + ja ([(c : Int)] : List Int)) Ta = true from ji (by simp only [jw, j8, Ee]; omega)]
   cases l[k].2.1.2.1 == (c : Int) <;> rfl) (by
   simp only [Pq]
   rw [Ba (by omega)]; rfl) (by omega)
 have e : ∀ (l : List Pa) (k : Nat), Yd (fun _ (h : Pa) => !(h.2.1.2.1 == (c : Int))) k l = !l.any fun h => h.2.1.2.1 == (c : Int) := by
  intro l
  induction l with
  | nil => intro k; rfl
  | cons y l ih => intro k; simp only [Yd, List.any_cons, ih, Bool.not_or]
 unfold Ol
 erw [hl]
 rw [e]
 cases l.any fun h => h.2.1.2.1 == (c : Int) <;> rfl
theorem Fw (l : List Pa) (hn : l.length ≤ Ea) (hv : Gf l = true) : Ke l = some (Wc l, ()) := by
 have h20 : Ea = 1048576 := rfl
 have h1 := (Pe (step := fun x => Xs x.1.1 x.1.2.1 x.1.2.2.1 x.1.2.2.2.1 x.2.1 x.2.2.1) l
  (fun _ s (h : Pa) => cond (h.2.1.1 == 2 || h.2.1.1 == 8) (Oc .i64 s h.2.1.2.2.1) s) (fun s i => ((l, (), (), i, ()), (((0 : Int), ([] : List Int), ()), (s, ([] : List Int), ()), ())))
  (fun s => .inl ((l, (), (), ()), (((0 : Int), ([] : List Int), ()), (s, ([] : List Int), ()), ()))) (fun _ _ => True) (by
   intro k hk s _
   refine ⟨?_, trivial⟩
   simp only [Xs]
   rw [Aa (show (k : Int) < ((ja l : Nat) : Int) by omega), Mb hk]
   simp only [cond_true, jb]
   cases l[k].2.1.1 == 2 <;> cases l[k].2.1.1 == 8 <;> rfl)
  (by
   intro s _
   simp only [Xs]
   rw [Ba (by omega)]; rfl) (by omega) 0 trivial).1
 have h2 := PB (step := fun x => Oq x.1.1 x.1.2.1 x.1.2.2.1 x.1.2.2.2.1 x.2.1 x.2.2.1) (fun k => ((l, (), (), ((k + 1 : Nat) : Int), ()), (((0 : Int), ([] : List Int), ()), (Raa l, Ak l k, ()), ()))) 56
  (.inl (((), (), ()), (((0 : Int), ([] : List Int), ()), (Raa l, Ak l 56, ()), ()))) (by
   intro k hk
   simp only [Oq]
   have hlen := LT l k
   rw [Aa (show ((k + 1 : Nat) : Int) ≤ 56 by omega), I2 l hn (k + 1) (by omega) (Raa l) (Ak l k) (by omega)]
   simp only [cond_true, jb, qk]
   rw [Gc (by omega)]
   rfl) (by
   simp only [Oq]
   rw [Ba (by decide)]; rfl)
 unfold Ke Ew Hu
 rw [HD _ hn, hv]
 simp only [jb, jg, cond_false]
 erw [h1]
 simp only [jb, qk]
 erw [h2]
 rfl
def UC (c : Int) : Bool := decide (1 ≤ c ∧ c ≤ 36) || ((c == 39) || (c == 42))
theorem BW (c : Int) : Uy c = some (UC c, ()) := by
 unfold Uy UC
 by_cases h1 : c ≥ 1
 ·by_cases h2 : c ≤ 36
  ·rw [Aa h1, Aa h2, Aa (show 1 ≤ c ∧ c ≤ 36 by omega)]; rfl
  ·rw [Aa h1, Ba h2, Ba (show ¬ (1 ≤ c ∧ c ≤ 36) by omega)]
   cases c == 39 <;> rfl
 ·rw [Ba h1, Ba (show ¬ (1 ≤ c ∧ c ≤ 36) by omega)]
  cases c == 39 <;> rfl
theorem AX (c : Int) : Wz c = some (UC c, ()) := by
 unfold Wz UC
 rw [Vc]
 cases decide (1 ≤ c ∧ c ≤ 36) <;> cases c == 39 <;> rfl
def BE (f o : Int) (c : Bool) (a : Bb) : Int × Int × Bool × Bb :=
 cond (a.1 == 2) (cond (a.2.1 == 0) (f, o, c, a) (f, 0, c && UC a.2.1, a.1, a.2.1, cond ((c && UC a.2.1) && (decide (a.2.1 ≤ 26) && (Jb .i64 (Oc .i64 a.2.2.1 o) 2 == 0))) 2 (Oc .i64 a.2.2.1 o), a.2.2.2))
  (cond (a.1 == 4) (Me .i64 f (Sa .i64 1 a.2.2.2.1), o, c, a) (cond (a.1 == 5) (Jb .i64 (Sa .i64 1 a.2.2.2.1) 1, o, c, a)
   (cond (a.1 == 8) (f, cond (Wa .i64 o a.2.2.1 == a.2.2.1) (Jb .i64 o a.2.2.1) (Oc .i64 o a.2.2.1), c, a) (cond (a.1 == 10) (f, o, !c, a) (f, o, c, a)))))
theorem NK {a : Bb} (h : Gd a = true) : 0 ≤ a.2.2.2.1 := by
 rw [Hc] at h
 unfold Sd at h
 omega
theorem DS (m : Sb) (M : List (List Qc)) (f o : Int) (h : List Pa) (c : Bool) (a : Bb) (ha : Gd a = true) :
 Gr (m, M, f, h, o, c, ()) a = some ((m, M, (BE f o c a).1, h, (BE f o c a).2.1, (BE f o c a).2.2.1, ()), (BE f o c a).2.2.2, ()) := by
 have hn := NK ha
 unfold Gr BE
 rw [Aa hn]
 cases a.1 == 2 with
 | true =>
  cases a.2.1 == 0 with
  | true => rfl
  | false =>
   simp only [cond_true, cond_false, BW, jb]
   cases c with
   | false => rfl
   | true =>
    cases UC a.2.1 with
    | false => rfl
    | true => cases decide (a.2.1 ≤ 26) <;> cases Jb .i64 (Oc .i64 a.2.2.1 o) 2 == 0 <;> rfl
 | false =>
  cases a.1 == 4 with
  | true => rfl
  | false =>
   cases a.1 == 5 with
   | true => rfl
   | false =>
    cases a.1 == 8 with
    | true => cases Wa .i64 o a.2.2.1 == a.2.2.1 <;> rfl
    | false => cases a.1 == 10 <;> rfl
theorem RS (m : Sb) (M : List (List Qc)) (f o : Int) (h : List Pa) (c : Bool) (a : Bb) (ha : Gd a = true) :
 Xl (m, M, f, h, o, c, ()) a = some ((m, M, (BE f o c a).1, h, (BE f o c a).2.1, (BE f o c a).2.2.1, ()), (BE f o c a).2.2.2, ()) := by
 have hn := NK ha
 have hcode := TL ha
 unfold Xl BE KU
 rw [Aa hn]
 cases a.1 == 2 with
 | true =>
  by_cases h0 : a.2.1 = 0
  ·rw [Ba (show ¬ a.2.1 > 0 by omega), show (a.2.1 == 0) = true by simp [h0]]; rfl
  ·rw [Aa (show a.2.1 > 0 by omega), show (a.2.1 == 0) = false by simp [h0]]
   simp only [cond_true, cond_false, AX, jb]
   cases UC a.2.1 with
   | false => cases c <;> rfl
   | true =>
    cases c with
    | false => rfl
    | true => cases decide (a.2.1 ≤ 26) <;> cases Jb .i64 (Oc .i64 a.2.2.1 o) 2 == 0 <;> rfl
 | false =>
  cases a.1 == 4 with
  | true => rfl
  | false =>
   cases a.1 == 5 with
   | true => rfl
   | false =>
    cases a.1 == 8 with
    | true => cases Wa .i64 o a.2.2.1 == a.2.2.1 <;> rfl
    | false => cases a.1 == 10 <;> rfl
theorem LaD : ∀ f : Fin 16, ∀ n : Fin 4, ∀ l : Fin 5, 1 ≤ n.val → n.val < l.val → f.val < 2 ^ l.val → f.val % 2 = 0 →
 0 ≤ Me .i64 (f.val : Int) (Sa .i64 1 (n.val : Int)) ∧ Me .i64 (f.val : Int) (Sa .i64 1 (n.val : Int)) < ((2 ^ l.val : Nat) : Int) ∧ (Me .i64 (f.val : Int) (Sa .i64 1 (n.val : Int))).tmod 2 = 0 := by decide +kernel
theorem KaI : ∀ n : Fin 4, ∀ l : Fin 5, n.val < l.val →
 0 ≤ Jb .i64 (Sa .i64 1 (n.val : Int)) 1 ∧ Jb .i64 (Sa .i64 1 (n.val : Int)) 1 < ((2 ^ l.val : Nat) : Int) ∧ (Jb .i64 (Sa .i64 1 (n.val : Int)) 1).tmod 2 = 0 := by decide +kernel
theorem Nak : ∀ o m : Fin 16, (0 ≤ Jb .i64 (o.val : Int) (m.val : Int) ∧ Jb .i64 (o.val : Int) (m.val : Int) ≤ 15) ∧ (0 ≤ Oc .i64 (o.val : Int) (m.val : Int) ∧ Oc .i64 (o.val : Int) (m.val : Int) ≤ 15) := by decide +kernel
structure Zaa (nl : Nat) (f o : Int) : Prop where
 f0 : 0 ≤ f
 f1 : f < ((2 ^ nl : Nat) : Int)
 f2 : f.tmod 2 = 0
 o0 : 0 ≤ o
 o1 : o ≤ 15
structure B0 (nl : Nat) (a : Bb) : Prop where
 act : Gd a = true
 n1 : a.1 ≠ 1
 n6 : a.1 ≠ 6
 n7 : a.1 ≠ 7
 n : a.1 ≠ 9 → a.2.2.2.1 < (nl : Int)
theorem LaL {a b : Int} (ha : 0 ≤ a ∧ a ≤ 15) (hb : 0 ≤ b ∧ b ≤ 15) : 0 ≤ Oc .i64 a b ∧ Oc .i64 a b ≤ 15 := by
 obtain ⟨n, rfl⟩ := jv ha.1
 obtain ⟨m, rfl⟩ := jv hb.1
 exact (Nak ⟨n, by omega⟩ ⟨m, by omega⟩).2
theorem BaK {a b : Int} (ha : 0 ≤ a ∧ a ≤ 15) (hb : 0 ≤ b ∧ b ≤ 15) : 0 ≤ Jb .i64 a b ∧ Jb .i64 a b ≤ 15 := by
 obtain ⟨n, rfl⟩ := jv ha.1
 obtain ⟨m, rfl⟩ := jv hb.1
 exact (Nak ⟨n, by omega⟩ ⟨m, by omega⟩).1
theorem OaL {nl : Nat} (h : nl ≤ 4) : 2 ^ nl ≤ 16 := qm (n := 2) (by omega) h
theorem QaL {nl : Nat} (hnl : nl ≤ 4) {f o : Int} {c : Bool} {a : Bb} (hs : Zaa nl f o) (ha : B0 nl a) :
 Zaa nl (BE f o c a).1 (BE f o c a).2.1 ∧ B0 nl (BE f o c a).2.2.2 := by
 have hP := ha.act
 rw [Hc] at hP
 unfold Sd at hP
 have h16 := OaL hnl
 obtain ⟨k, code, mods, n, u⟩ := a
 have hn1 := ha.n1; have hn6 := ha.n6; have hn7 := ha.n7; have hnn := ha.n
 simp only at hP hn1 hn6 hn7 hnn
 have hf1 := hs.f1
 unfold BE
 simp only
 by_cases h2 : k = 2
 ·subst h2
  by_cases h0 : code = 0
  ·subst h0; exact ⟨hs, ha⟩
  ·rw [show ((2 : Int) == 2) = true from rfl, show (code == 0) = false by simp [h0]]
   simp only [cond_true, cond_false]
   refine ⟨⟨hs.f0, hs.f1, hs.f2, by decide, by decide⟩, ?_⟩
   have hm := LaL (a := mods) (b := o) (by omega) ⟨hs.o0, hs.o1⟩
   refine ⟨?_, hn1, hn6, hn7, hnn⟩
   have hn0 : n = 0 := by omega
   have hcd : 1 ≤ code ∧ code ≤ 56 := by omega
   rw [Hc]
   cases ((c && UC code) && (decide (code ≤ 26) && (Jb .i64 (Oc .i64 mods o) 2 == 0))) with
   | true => exact .inr (.inl ⟨rfl, hn0, .inr hcd, .inr ⟨by show (1 : Int) ≤ 2; decide, by show (2 : Int) ≤ 15; decide⟩, .inl (by show code ≠ 0; omega)⟩)
   | false =>
    refine .inr (.inl ⟨rfl, hn0, .inr hcd, ?_, .inl (by show code ≠ 0; omega)⟩)
    show Oc .i64 mods o = 0 ∨ 1 ≤ Oc .i64 mods o ∧ Oc .i64 mods o ≤ 15
    omega
 ·rw [show (k == 2) = false by simp [h2]]
  simp only [cond_false]
  by_cases h4 : k = 4
  ·subst h4
   have hr : 1 ≤ n ∧ n ≤ 3 := by omega
   have hlt := hnn (by omega)
   obtain ⟨fn, hfn⟩ := jv hs.f0
   obtain ⟨nn, hnn'⟩ := jv (show 0 ≤ n by omega)
   have hf2 := hs.f2
   rw [hfn] at hf1 hf2
   have hfl : fn < 2 ^ nl := Int.ofNat_lt.1 hf1
   have := LaD ⟨fn, by omega⟩ ⟨nn, by omega⟩ ⟨nl, by omega⟩ (by show 1 ≤ nn; omega) (by show nn < nl; omega) hfl (by
    rw [Int.tmod_eq_emod_of_nonneg (by omega)] at hf2; show fn % 2 = 0; omega)
   simp only [show ((4 : Int) == 4) = true from rfl, cond_true]
   rw [hfn, hnn']
   exact ⟨⟨this.1, this.2.1, this.2.2, hs.o0, hs.o1⟩, by rw [← hnn']; exact ha⟩
  ·rw [show (k == 4) = false by simp [h4]]
   simp only [cond_false]
   by_cases h5 : k = 5
   ·subst h5
    have hr : 0 ≤ n ∧ n ≤ 3 := by omega
    have hlt := hnn (by omega)
    obtain ⟨nn, hnn'⟩ := jv (show 0 ≤ n by omega)
    have := KaI ⟨nn, by omega⟩ ⟨nl, by omega⟩ (by show nn < nl; omega)
    simp only [show ((5 : Int) == 5) = true from rfl, cond_true]
    rw [hnn']
    exact ⟨⟨this.1, this.2.1, this.2.2, hs.o0, hs.o1⟩, by rw [← hnn']; exact ha⟩
   ·rw [show (k == 5) = false by simp [h5]]
    simp only [cond_false]
    by_cases h8 : k = 8
    ·subst h8
     have hm : 0 ≤ mods ∧ mods ≤ 15 := by omega
     simp only [show ((8 : Int) == 8) = true from rfl, cond_true]
     cases Wa .i64 o mods == mods with
     | true => have := BaK ⟨hs.o0, hs.o1⟩ hm; exact ⟨⟨hs.f0, hs.f1, hs.f2, this.1, this.2⟩, ha⟩
     | false => have := LaL ⟨hs.o0, hs.o1⟩ hm; exact ⟨⟨hs.f0, hs.f1, hs.f2, this.1, this.2⟩, ha⟩
    ·rw [show (k == 8) = false by simp [h8]]
     simp only [cond_false]
     cases k == 10 <;> exact ⟨hs, ha⟩
theorem Tat {m : Sb} (hm : KK m) (on : Int) {k : Nat} (hk : (k : Int) < m.1) : Bk m.2.1.length (Yi m on k) (Lk m.2.1 (Yi m on k) k) = true ∧ (Lk m.2.1 (Yi m on k) k).1 ≠ 1 := by
 have hl := PQ hm on k
 have hrow := hm.row _ hl
 have hk' : k < m.2.1[Yi m on k].length := by omega
 have hact := hm.act _ hl k hk'
 rw [D0 hl hk']
 refine ⟨hact, ?_⟩
 have key : ∀ n, Yf m.2.1 on k n = 0 ∨ (Lk m.2.1 (Yf m.2.1 on k n) k).1 ≠ 1 := by
  intro n
  induction n with
  | zero => exact .inl rfl
  | succ n ih =>
   simp only [Yf]
   cases hc : ((Bd on ((n + 1 : Nat) : Int) == 1) && ((Lk m.2.1 (n + 1) k).1 != 1)) with
   | true =>
    simp only [jd, bne_iff_ne] at hc
    exact .inr hc.2
   | false => exact ih
 rcases key (m.2.1.length - 1) with h0 | h1
 ·have h0' : Yi m on k = 0 := h0
  intro h1
  simp only [Bk, jd, Bool.not_eq_true', Bool.and_eq_false_iff, beq_eq_false_iff_ne] at hact
  rcases hact.1.2 with h2 | h2
  ·exact h2 (by rw [h0']; rfl)
  ·exact h2 h1
 ·have e : Lk m.2.1 (Yf m.2.1 on k (m.2.1.length - 1)) k = m.2.1[Yi m on k][k] := D0 hl hk'
  rw [e] at h1
  exact h1
theorem IaI {nl i : Nat} {a : Bb} (h : Bk nl i a = true) (h1 : a.1 ≠ 1) : B0 nl (CN a) := by
 have ha := RW h
 have hP := ha
 rw [Hc] at hP
 unfold Sd at hP
 unfold CN Wf
 rw [ha]
 by_cases h67 : a.1 = 6 ∨ a.1 = 7
 ·have e : (true && ((a.1 == 6) || (a.1 == 7))) = true := by rcases h67 with h | h <;> rw [h] <;> rfl
  rw [e]
  simp only [cond_true]
  refine ⟨?_, by show (2 : Int) ≠ 1; decide, by show (2 : Int) ≠ 6; decide, by show (2 : Int) ≠ 7; decide, fun _ => ?_⟩
  ·rw [Hc]
   exact .inr (.inl ⟨rfl, rfl, .inr (by show 1 ≤ a.2.1 ∧ a.2.1 ≤ 56; omega), .inl rfl, .inl (by show a.2.1 ≠ 0; omega)⟩)
  ·show (0 : Int) < (nl : Int)
   have := GY h (by omega)
   omega
 ·have e : (true && ((a.1 == 6) || (a.1 == 7))) = false := by
   rw [jk, Bool.or_eq_false_iff, beq_eq_false_iff_ne, beq_eq_false_iff_ne]; omega
  rw [e]
  exact ⟨ha, h1, fun h => h67 (.inl h), fun h => h67 (.inr h), fun hk => GY h hk⟩
def Haw (m : Sb) (f o : Int) (c : Bool) (h : List Pa) : Gb := (m, [], f, h, o, c, ())
theorem JaD (m : Sb) (f o : Int) (c : Bool) (h : List Pa) : Ja Xb (Haw m f o c h) = Ja Ub m + h.length := by
 rw [Vk, Hk]
 have : Ja (.sl (.sl Bc)) (Haw m f o c h).2.1 = 0 := rfl
 rw [this, js]; rfl
theorem Sap {nl : Nat} (h4 : nl ≤ 4) {f o : Int} (hs : Zaa nl f o) : 0 ≤ f ∧ f ≤ 15 := by
 have := OaL h4
 have h1 := hs.f1
 have h0 := hs.f0
 omega
theorem C6 (e : Gb) (k : Int) (hn : e.2.2.2.1.length ≤ Ea) : XL e k = some (Ed (fun h => h.1 == k) 0 e.2.2.2.1, ()) := by
 have h20 : Ea = 1048576 := rfl
 have hl := Ux (step := fun x => Ry x.1.1 x.1.2.1 x.1.2.2.1 x.1.2.2.2.1) e.2.2.2.1 (fun h => h.1 == k) (fun i => ((k, e.2.2.2.1, ((ja e.2.2.2.1 : Nat) : Int), i, ()), ())) (.inl ((), ())) (fun i => .inr ((i, ()), ()))
  (by
   intro j hj
   simp only [Ry]
   rw [Aa (show (j : Int) < ((ja e.2.2.2.1 : Nat) : Int) by omega), Mb hj]
   simp only [cond_true, jb]
   cases e.2.2.2.1[j].1 == k <;> rfl) (by
   simp only [Ry]
   rw [Ba (by omega)]; rfl) (by omega)
 unfold XL TA
 erw [hl]
 simp only [jb]
 by_cases hc : Ed (fun h : Pa => h.1 == k) 0 e.2.2.2.1 = -1
 ·rw [if_pos hc, hc]; rfl
 ·rw [if_neg hc]; rfl
theorem OS (e : Gb) (k : Int) (hn : e.2.2.2.1.length ≤ Ea) : EF e k = some (Ed (fun h => h.1 == k) 0 e.2.2.2.1, ()) := by
 have h20 : Ea = 1048576 := rfl
 have hl := Ux (step := fun x => Uz x.1.1 x.1.2.1 x.1.2.2.1 x.2.1) e.2.2.2.1 (fun h => h.1 == k) (fun i => ((k, (), i, ()), (e, ()))) (.inl ((), ())) (fun i => .inr ((i, ()), ()))
  (by
   intro j hj
   simp only [Uz]
   rw [Aa (show (j : Int) < ((ja e.2.2.2.1 : Nat) : Int) by omega), Mb hj]
   simp only [cond_true, jb]
   cases e.2.2.2.1[j].1 == k <;> rfl) (by
   simp only [Uz]
   rw [Ba (by omega)]; rfl) (by omega)
 unfold EF SB
 erw [hl]
 simp only [jb]
 by_cases hc : Ed (fun h : Pa => h.1 == k) 0 e.2.2.2.1 = -1
 ·rw [if_pos hc, hc]; rfl
 ·rw [if_neg hc]; rfl
theorem DX (a b : Ha) (hn : a.2.1.length ≤ Ta) : AA a b = some (Zj a b, ()) := by
 have hlim := Ee
 unfold AA Zj
 simp only [bne]
 cases (show Int from a.1) == (show Int from b.1) with
 | false => rfl
 | true =>
  by_cases h : a.2.1.length = b.2.1.length
  ·have hl := Ye (step := fun x => To x.1.1 x.1.2.1 x.1.2.2.1 x.2.1 x.2.2.1) a.2.1 (fun k x => b.2.1.getD k 0 == x) (fun i => (((), (), i, ()), (a, b, ())))
    (.inl ((), ())) (.inr ((false, ()), ())) (by
     intro k hk
     simp only [To]
     rw [Aa (show (k : Int) < ((ja a.2.1 : Nat) : Int) by omega), Mb hk, Mb (show k < b.2.1.length by omega), qj, je (show k < b.2.1.length by omega)]
     simp only [cond_true, jb, Option.getD_some, bne]
     rw [show (a.2.1[k] == b.2.1[k]) = (b.2.1[k] == a.2.1[k]) by rw [qx, beq_iff_eq, beq_iff_eq]; exact eq_comm]
     cases b.2.1[k] == a.2.1[k] <;> rfl) (by
     simp only [To]
     rw [Ba (by omega)]; rfl) (by omega)
   have e : (((ja a.2.1 : Nat) : Int) == ((ja b.2.1 : Nat) : Int)) = true := by simp [h]
   rw [e]
   simp only [jg, cond_false, jk]
   unfold Kr
   erw [hl]
   rw [Pac a.2.1 b.2.1 h, show (b.2.1 == a.2.1) = (a.2.1 == b.2.1) by rw [qx, beq_iff_eq, beq_iff_eq]; exact eq_comm]
   cases a.2.1 == b.2.1 <;> rfl
  ·have e : (((ja a.2.1 : Nat) : Int) == ((ja b.2.1 : Nat) : Int)) = false := by simp; omega
   have e2 : (a.2.1 == b.2.1) = false := by rw [beq_eq_false_iff_ne]; intro hh; exact h (by rw [hh])
   rw [e, e2]; rfl
def chF (s : Ha × List Ha) (x : Ha) : Ha × List Ha := (x, cond (Zj s.1 x) s.2 (jf s.2 [x]))
theorem Sab : ∀ (l : List Ha) (k : Nat) (a : Ha) (o : List Ha), (Jd (fun _ s x => chF s x) k (a, o) l).2 = jf o (Zu Zj a l)
 | [], _, _, o => by simp [Jd, Zu]
 | x :: l, k, a, o => by
  have ih := Sab l (k + 1) x (cond (Zj a x) o (jf o [x]))
  show (Jd (fun _ s x => chF s x) (k + 1) (x, cond (Zj a x) o (jf o [x])) l).2 = _
  rw [ih]
  simp only [Zu]
  cases Zj a x <;> simp
theorem XQ (a : Ha) (l : List Ha) (hn : l.length ≤ Ea) (ha : a.2.1.length ≤ Ea) (hx : ∀ x ∈ l, x.2.1.length ≤ Ea) : Sg a l = some (Zu Zj a l, ()) := by
 have h20 : Ea = 1048576 := rfl
 have hlim := Ee
 have hl := (Pe (step := fun x => Wq x.1.1 x.1.2.1 x.1.2.2.1 x.1.2.2.2.1 x.2.1) l (fun _ s x => chF s x) (fun s i => ((l, (), s.2, i, ()), (s.1, ()))) (fun s => .inl ((s.2, ()), ())) (fun k s => s.2.length ≤ k ∧ s.1.2.1.length ≤ Ea) (by
  intro k hk s ⟨hs1, hs2⟩
  have hxk := hx _ (qr hk)
  refine ⟨?_, ?_, hxk⟩
  ·simp only [Wq]
   rw [Aa (show (k : Int) < ((ja l : Nat) : Int) by omega), Mb hk]
   simp only [cond_true, jb]
   rw [DX _ _ (by omega), B7 _ hxk]
   simp only [jb, chF]
   rw [show jx (ja s.2 + ja ([l[k]] : List Ha)) Ta = true from ji (by simp only [jw, j8]; omega)]
   cases Zj s.1 l[k] <;> rfl
  ·unfold chF
   cases Zj s.1 l[k] with
   | true => show s.2.length ≤ k + 1; omega
   | false => show (jf s.2 [l[k]]).length ≤ k + 1; simp; omega)
  (by
   intro s _
   simp only [Wq]
   rw [Ba (by omega)]; rfl) (by omega) (a, []) ⟨jo _, ha⟩).1
 unfold Sg Nu
 erw [hl]
 have := Sab l 0 a []
 simp only [jb, qk]
 rw [this]; simp
theorem IQ (a : Ha) (l : List Ha) (hn : l.length ≤ Ea) (ha : a.2.1.length ≤ Ea) (hx : ∀ x ∈ l, x.2.1.length ≤ Ea) : Ve a l = some (Zu Zj a l, ()) := by
 have h20 : Ea = 1048576 := rfl
 have hlim := Ee
 unfold Ve Gap
 have e : (jx (ja l) Ta && (QP a && l.all QP)) = true := by
  rw [jd, jd, List.all_eq_true]
  refine ⟨ji (by omega), ji (by show ja a.2.1 ≤ _; omega), fun x hm => ji ?_⟩
  have := hx x hm
  show ja x.2.1 ≤ _
  omega
 rw [e]; rfl
theorem N0 : ∀ (l : List Ha) (a : Ha), (Zu Zj a l).length ≤ l.length
 | [], _ => by simp [Zu]
 | x :: l, a => by
  have := N0 l x
  simp only [Zu]
  cases Zj a x <;> simp <;> omega
theorem SJ (l : List Pa) : (Wc l).2.1.length ≤ 56 := LT l 56
theorem JT : ∀ (l : List Ha) (a x : Ha), x ∈ Zu Zj a l → x ∈ l
 | [], _, x, h => by simp [Zu] at h
 | y :: l, a, x, h => by
  simp only [Zu] at h
  cases hs : Zj a y with
  | true => rw [hs] at h; exact jr _ (JT l y x h)
  | false =>
   rw [hs] at h
   rcases jp.1 h with h | h
   ·exact h ▸ qy ..
   ·exact jr _ (JT l y x h)
noncomputable def Za6 (m : Sb) (f : Int) (k : Nat) : Bb := CN (Lk m.2.1 (Yi m (Oc .i64 1 f) k) k)
noncomputable def stK (m : Sb) (f o : Int) (c : Bool) (k : Nat) : Int × Int × Bool × Bb := BE f o c (Za6 m f k)
noncomputable def hK (m : Sb) (f o : Int) (c : Bool) (k : Nat) : List Pa := [((k : Int), (stK m f o c k).2.2.2, ())]
structure FaC (m : Sb) : Prop where
 v : Lh m = true
 z : Ja Ub m ≤ Ea - 10
theorem z20 {m : Sb} (hM : FaC m) (f o : Int) (c : Bool) (h : List Pa) (hh : h.length ≤ 1) : Ja Xb (Haw m f o c h) ≤ Ea := by
 have h20 : Ea = 1048576 := rfl
 have := hM.z
 rw [JaD]; omega
theorem UQ (l : List Pa) : (Wc l).2.1.length ≤ Ea := by
 have h20 : Ea = 1048576 := rfl
 have := SJ l
 omega
theorem H4 {m : Sb} (hv : Lh m = true) : FaC m := by
 have hm := Xi hv
 refine ⟨hv, ?_⟩
 have h20 : Ea = 1048576 := rfl
 have h1 : Ja Ub m = 0 + (Ja (.sl (.sl Rb)) m.2.1 + 0) := rfl
 have h2 : Ja (.sl (.sl Rb)) m.2.1 ≤ (32 + 1) * ja m.2.1 := NU (e := .sl Rb) (c := 32) fun x hx => by
  obtain ⟨i, hi, rfl⟩ := qt hx
  rw [G5]
  have := hm.row i hi
  have := hm.k2
  omega
 have := hm.l2
 omega
abbrev St := (Int × Int × Bool) × List Ha
structure Sa9 (m : Sb) (k : Nat) (s : St) : Prop where
 st : Zaa m.2.1.length s.1.1 s.1.2.1
 len : s.2.length ≤ 2 * k
 rep : ∀ x ∈ s.2, x.2.1.length ≤ 56
def Hs (p : Int → Bool) : Nat → List Int
 | 0 => []
 | n + 1 => cond (p ((n + 1 : Nat) : Int)) (Hs p n ++ [((n + 1 : Nat) : Int)]) (Hs p n)
theorem HW (p : Int → Bool) : ∀ n, (Hs p n).length ≤ n
 | 0 => by simp [Hs]
 | n + 1 => by
  have := HW p n
  simp only [Hs]
  cases p ((n + 1 : Nat) : Int) <;> simp <;> omega
theorem OV (l : List Pa) : ∀ n, Ak l n = Hs (fun c => l.any fun h => h.2.1.2.1 == c) n
 | 0 => rfl
 | n + 1 => by simp only [Ak, Hs, OV l n]
theorem H1 (cs : List Int) (hn : cs.length ≤ Ea) (hx : ∀ c ∈ cs, 0 ≤ c ∧ c ≤ 56) : Ot cs = some (Hs (fun c => cs.any (fun y => y == c)) 56, ()) := by
 have := KQ (cs.map fun c => ((0, (0, c, 0, 0, ()), ()) : Pa)) (by simpa using hn) (fun h hh => by
  obtain ⟨c, hc, rfl⟩ := qu.1 hh
  exact hx c hc)
 rw [List.map_map] at this
 have e : List.map ((fun h : Pa => h.2.1.2.1) ∘ fun c => ((0, (0, c, 0, 0, ()), ()) : Pa)) cs = cs := by
  rw [show ((fun h : Pa => h.2.1.2.1) ∘ fun c => ((0, (0, c, 0, 0, ()), ()) : Pa)) = id from rfl, List.map_id]
 rw [e] at this
 rw [this, OV]
 congr 3
 funext c
 rw [List.any_map]
 rfl
def Iaq (s : Int) (D : List Va) : Int := Jd (fun _ s (p : Va) => Oc .i64 s p.2.1) 0 s D
def ZJ (b : Ha) (D : List Va) : Ha := (Iaq b.1 D, Hs (fun c => b.2.1.any (fun y => y == c) || D.any (fun p => p.1 == c)) 56, ())
theorem PY (b : Ha) (D : List Va) (hb : b.2.1.length ≤ 56) (hD : D.length ≤ 1000) (hbx : ∀ c ∈ b.2.1, 0 ≤ c ∧ c ≤ 56) (hDx : ∀ p ∈ D, 0 ≤ p.1 ∧ p.1 ≤ 56) :
 Qf b D = some (ZJ b D, ()) := by
 have h20 : Ea = 1048576 := rfl
 have hl := (Pe (step := fun x => Yp x.1.1 x.1.2.1 x.1.2.2.1 x.1.2.2.2.1 x.1.2.2.2.2.1 x.1.2.2.2.2.2.1 x.2.1 x.2.2.1) D
  (fun _ (s : Int × List Int) (p : Va) => (Oc .i64 s.1 p.2.1, jf s.2 [p.1])) (fun s i => (((), (), s.2, D, ((ja D : Nat) : Int), i, ()), (((0 : Int), ([] : List Int), ()), (s.1, ([] : List Int), ()), ())))
  (fun s => .inl (((), (), s.2, ()), (((0 : Int), ([] : List Int), ()), (s.1, ([] : List Int), ()), ()))) (fun k s => s.2.length = b.2.1.length + k) (by
   intro k hk s hs
   refine ⟨?_, by simp [hs]; omega⟩
   simp only [Yp]
   rw [Aa (show (k : Int) < ((ja D : Nat) : Int) by omega), Mb hk]
   simp only [cond_true, jb]
   rw [show jx (ja s.2 + ja ([D[k].1] : List Int)) Ta = true from ji (by simp only [jw, j8, Ee]; omega)]
   rfl)
  (by
   intro s _
   simp only [Yp]
   rw [Ba (by omega)]; rfl) (by omega) (b.1, b.2.1) (by simp)).1
 have key : ∀ (D : List Va) (k : Nat) (s : Int × List Int), Jd (fun _ (s : Int × List Int) (p : Va) => (Oc .i64 s.1 p.2.1, jf s.2 [p.1])) k s D =
  (Jd (fun _ s (p : Va) => Oc .i64 s p.2.1) k s.1 D, s.2 ++ D.map fun p => p.1) := by
  intro D
  induction D with
  | nil => intro k s; simp [Jd]
  | cons x D ih => intro k s; simp only [Jd]; rw [ih]; simp
 unfold Qf Ut
 rw [GP _ (by omega)]
 simp only [jb]
 erw [hl]
 rw [key]
 simp only [jb, qk]
 rw [H1 _ (by simp; omega) (fun c hc => by
  rcases jl.1 hc with h | h
  ·exact hbx c h
  ·obtain ⟨p, hp, rfl⟩ := qu.1 h
   exact hDx p hp)]
 simp only [jb, ZJ, Iaq]
 congr 4
 apply congrArg (fun p => Hs p 56)
 funext c
 rw [List.any_append, List.any_map]
 rfl
abbrev zR : Ha := ((0 : Int), ([] : List Int), ())
theorem WV {α : Type} (p : α → Bool) : ∀ (l : List α) (k : Nat) (b : Bool), Jd (fun _ b x => cond b true (p x)) k b l = (b || l.any p)
 | [], _, b => by simp [Jd]
 | x :: l, k, b => by
  simp only [Jd, List.any_cons]
  rw [WV p l (k + 1)]
  cases b <;> cases p x <;> rfl
theorem Bae (D : List Pa) (b : Ha) (K : List Int) (c : Int) (has : Bool) (hb : b.2.1.length ≤ Ea) :
 Pl ((D, (), (), K, c, has, (0 : Int), ()), (zR, b, ())) = some (.inl ((D, (), (), K, c, has || b.2.1.any (fun y => y == c), ()), (zR, b, ()))) := by
 have h20 : Ea = 1048576 := rfl
 have hl := (Pe (step := fun x => Uq x.1.1 x.1.2.1 x.1.2.2.1 x.1.2.2.2.1 x.1.2.2.2.2.1 x.1.2.2.2.2.2.1 x.1.2.2.2.2.2.2.1 x.2.1 x.2.2.1) b.2.1 (fun _ s y => cond s true (y == c)) (fun s i => ((D, (), (), K, c, s, i, ()), (zR, b, ())))
  (fun s => .inl ((D, (), (), K, c, s, ()), (zR, b, ()))) (fun _ _ => True) (by
   intro k hk s _
   refine ⟨?_, trivial⟩
   simp only [Uq]
   rw [Aa (show (k : Int) < ((ja b.2.1 : Nat) : Int) by omega), show Xe (ja b.2.1) (k : Int) = true by rw [Ig]; exact Aa hk, jn, je hk]
   simp only [cond_true, jb]
   cases s <;> rfl)
  (by
   intro s _
   simp only [Uq]
   rw [Ba (by omega)]; rfl) (by omega) has trivial).1
 unfold Pl
 erw [hl]
 rw [WV (fun y : Int => y == c)]
theorem Aae (D : List Pa) (b : Ha) (K : List Int) (c : Int) (has : Bool) (hD : D.length ≤ Ea) :
 Ql ((D, (), (), K, c, has, (0 : Int), ()), (zR, b, ())) = some (.inl ((D, (), (), K, c, has || D.any (fun h => h.2.1.2.1 == c), ()), (zR, b, ()))) := by
 have h20 : Ea = 1048576 := rfl
 have hl := (Pe (step := fun x => Vq x.1.1 x.1.2.1 x.1.2.2.1 x.1.2.2.2.1 x.1.2.2.2.2.1 x.1.2.2.2.2.2.1 x.1.2.2.2.2.2.2.1 x.2.1 x.2.2.1) D (fun _ s (h : Pa) => cond s true (h.2.1.2.1 == c)) (fun s i => ((D, (), (), K, c, s, i, ()), (zR, b, ())))
  (fun s => .inl ((D, (), (), K, c, s, ()), (zR, b, ()))) (fun _ _ => True) (by
   intro k hk s _
   refine ⟨?_, trivial⟩
   simp only [Vq]
   rw [Aa (show (k : Int) < ((ja D : Nat) : Int) by omega), Mb hk]
   simp only [cond_true, jb]
   cases s <;> rfl)
  (by
   intro s _
   simp only [Vq]
   rw [Ba (by omega)]; rfl) (by omega) has trivial).1
 unfold Ql
 erw [hl]
 rw [WV (fun h : Pa => h.2.1.2.1 == c)]
theorem JH (l D : List Pa) (hn : l.length ≤ Ea) (hv : Gf l = true) (hD : D.length ≤ 1000) : Oh l D = some (ZJ (Wc l) (D.map Td), ()) := by
 have h20 : Ea = 1048576 := rfl
 have h1 := (Pe (step := fun x => Zs x.1.1 x.1.2.1 x.1.2.2.1 x.1.2.2.2.1 x.2.1 x.2.2.1) D (fun _ s (h : Pa) => Oc .i64 s h.2.1.2.2.1) (fun s i => ((D, (), (), i, ()), (zR, ((s, (Wc l).2.1, ()) : Ha), ())))
  (fun s => .inl ((D, (), (), ()), (zR, ((s, (Wc l).2.1, ()) : Ha), ()))) (fun _ _ => True) (by
   intro k hk s _
   refine ⟨?_, trivial⟩
   simp only [Zs]
   rw [Aa (show (k : Int) < ((ja D : Nat) : Int) by omega), Mb hk]; rfl)
  (by
   intro s _
   simp only [Zs]
   rw [Ba (by omega)]; rfl) (by omega) (Wc l).1 trivial).1
 have hm : ∀ (D : List Pa) (k : Nat) (s : Int), Jd (fun _ s (h : Pa) => Oc .i64 s h.2.1.2.2.1) k s D = Jd (fun _ s (p : Va) => Oc .i64 s p.2.1) k s (D.map Td) := by
  intro D
  induction D with
  | nil => intro k s; rfl
  | cons x D ih => intro k s; simp only [Jd, List.map_cons]; exact ih _ _
 generalize hms : Jd (fun _ s (h : Pa) => Oc .i64 s h.2.1.2.2.1) 0 (Wc l).1 D = ms at h1
 have hms' : Iaq (Wc l).1 (D.map Td) = ms := by rw [← hms, hm]; rfl
 let pr : Int → Bool := fun c => (Wc l).2.1.any (fun y => y == c) || D.any (fun h => h.2.1.2.1 == c)
 have h2 := PB (step := fun x => At x.1.1 x.1.2.1 x.1.2.2.1 x.1.2.2.2.1 x.1.2.2.2.2.1 x.2.1 x.2.2.1) (fun k => ((D, (), (), Hs pr k, ((k + 1 : Nat) : Int), ()), (zR, ((ms, (Wc l).2.1, ()) : Ha), ()))) 56
  (.inl (((), (), Hs pr 56, ()), (zR, ((ms, (Wc l).2.1, ()) : Ha), ()))) (by
   intro k hk
   simp only [At]
   have hlen := HW pr k
   rw [Aa (show ((k + 1 : Nat) : Int) ≤ 56 by omega), Bae D _ _ _ _ (by have := SJ l; show (Wc l).2.1.length ≤ _; omega)]
   simp only [cond_true, jb, qk]
   rw [Aae D _ _ _ _ (by omega)]
   simp only [jb, qk]
   rw [show jx (ja (Hs pr k) + ja ([((k + 1 : Nat) : Int)] : List Int)) Ta = true from ji (by simp only [jw, j8, Ee]; omega), Gc (by omega)]
   simp only [Hs, pr, Bool.false_or, cond_true]
   cases ((Wc l).2.1.any (fun y => y == ((k + 1 : Nat) : Int)) || D.any (fun h => h.2.1.2.1 == ((k + 1 : Nat) : Int))) <;> rfl) (by
   simp only [At]
   rw [Ba (by decide)]; rfl)
 unfold Oh Nw Ow
 rw [Fw l hn hv]
 simp only [jb]
 erw [h1]
 simp only [jb, qk]
 erw [h2]
 simp only [jb, qk]
 unfold ZJ
 rw [hms']
 congr 4
 apply congrArg (fun p => Hs p 56)
 funext c
 simp only [pr, List.any_map]
 rfl
noncomputable def rM (L : List Pa) (x : Qc) : Int := Ed (Li x.2.1 x.2.2.1) 0 L
noncomputable def IY (b : Ha) (L : List Pa) (x : Qc) : List Ha :=
 cond (x.1 == 0) [ZJ b ((jf L [Wh x]).map Td), ZJ b (L.map Td)] [ZJ b ((MN x L (rM L x)).map Td)]
noncomputable def mG (b : Ha) (s : List Ha × List Pa) (x : Qc) : List Ha × List Pa := (jf s.1 (IY b s.2 x), MN x s.2 (rM s.2 x))
noncomputable def IS (b : Ha) (l : List Qc) : List Ha := (Jd (fun _ s x => mG b s x) 0 ([], []) l).1
theorem EZ {α : Type} (p : α → Bool) : ∀ (xs : List α) (k : Nat) (y : α), Ed p k xs = -1 → p y = true → Ed p k (xs ++ [y]) = ((k + xs.length : Nat) : Int)
 | [], k, y, _, hy => by simp only [List.nil_append, Ed, hy, cond_true]; simp
 | x :: xs, k, y, h, hy => by
  simp only [Ed] at h
  simp only [List.cons_append, Ed]
  cases hx : p x with
  | true => rw [hx] at h; simp only [cond_true] at h; omega
  | false =>
   rw [hx] at h
   simp only [cond_false] at h ⊢
   rw [EZ p xs (k + 1) y h hy, jw]
   omega
structure N5 (l : List Qc) (k : Nat) (s : List Ha × List Pa) : Prop where
 ok : ∃ L', Pc (fun _ L x => Au L x) k s.2 (l.drop k) = .inl L'
 len : s.2.length ≤ k
 out : s.1.length ≤ 2 * k
 cod : ∀ h ∈ s.2, 0 ≤ h.2.1.2.1 ∧ h.2.1.2.1 ≤ 56
theorem Qac {l : List Qc} {k : Nat} (hk : k < l.length) {b : Ha} {s : List Ha × List Pa} (hi : N5 l k s) : Yx l[k] (rM s.2 l[k]) = true ∧ N5 l (k + 1) (mG b s l[k]) := by
 obtain ⟨L', hL⟩ := hi.ok
 rw [List.drop_eq_getElem_cons hk] at hL
 simp only [Pc] at hL
 unfold rM
 cases hc : Yx l[k] (Ed (Li l[k].2.1 l[k].2.2.1) 0 s.2) with
 | false =>
  have : Au s.2 l[k] = .inr () := by unfold Au; rw [hc]; rfl
  rw [this] at hL; simp at hL
 | true =>
  have hm : Au s.2 l[k] = .inl (MN l[k] s.2 (rM s.2 l[k])) := by unfold Au rM; rw [hc]; rfl
  rw [hm] at hL
  refine ⟨rfl, ⟨L', hL⟩, ?_, ?_, ?_⟩
  ·have := J6 hm
   have := hi.len
   show (MN l[k] s.2 (rM s.2 l[k])).length ≤ k + 1
   omega
  ·have := hi.out
   show (jf s.1 (IY b s.2 l[k])).length ≤ _
   unfold IY
   cases l[k].1 == 0 <;> simp <;> omega
  ·have hcode : 0 ≤ l[k].2.1 ∧ l[k].2.1 ≤ 56 := by
    simp only [Yx, jd] at hc
    exact TL hc.1
   intro h hh
   have hh' : h ∈ MN l[k] s.2 (rM s.2 l[k]) := hh
   unfold MN at hh'
   cases h1 : l[k].1 == 1 with
   | true =>
    rw [h1] at hh'
    rcases jl.1 (show h ∈ s.2 ++ [Wh l[k]] from hh') with hh' | hh'
    ·exact hi.cod h hh'
    ·simp only [jp, List.not_mem_nil, or_false] at hh'
     rw [hh']; exact hcode
   | false =>
    rw [h1] at hh'
    cases h2 : l[k].1 == 2 with
    | true =>
     rw [h2] at hh'
     have hsub : h ∈ s.2 := by
      have hw : h ∈ Ih s.2 (rM s.2 l[k]).toNat := hh'
      unfold Ih Eb at hw
      rcases jl.1 (show h ∈ _ ++ _ from hw) with hw | hw
      ·exact List.mem_of_mem_take (qs hw)
      ·exact List.mem_of_mem_take (qs hw)
     exact hi.cod h hsub
    | false => rw [h2] at hh'; exact hi.cod h hh'
theorem Mad {x : Qc} {r : Int} (h : Yx x r = true) : (x.1 = 0 ∧ r < 0) ∨ (x.1 = 1 ∧ r < 0) ∨ (x.1 = 2 ∧ r ≥ 0) := by
 simp only [Yx, jd, Bool.or_eq_true, beq_iff_eq, Bool.not_eq_true', decide_eq_false_iff_not, decide_eq_true_eq] at h
 omega
theorem Na {n m : Nat} (h : n ≤ 1000) (hm : m ≤ 10) : jx (n + m) Ta = true := ji (by rw [Ee]; omega)
theorem Mae (L : List Pa) (h : Pa) : Ih (jf L [h]) L.length = L := by
 simp [Ih, Eb]
theorem JU (a : List Pa) (l : List Qc) (hn : a.length ≤ Ea) (ha : Gf a = true) (hm : Uf l = true) : Pj a l = some (IS (Wc a) l, ()) := by
 have h20 : Ea = 1048576 := rfl
 have hm' := hm
 simp only [Uf, jd, decide_eq_true_eq, Ead] at hm'
 have h0 : N5 l 0 ([], []) := ⟨by
  rw [List.drop_zero]
  cases hf : Pc (fun _ L x => Au L x) 0 [] l with
  | inl L => exact ⟨L, rfl⟩
  | inr u => rw [hf] at hm'; simp at hm', jo _, jo _, by simp⟩
 have hl := (Pe (step := fun x => Nl x.1.1 x.1.2.1 x.1.2.2.1 x.1.2.2.2.1 x.1.2.2.2.2.1) l (fun _ s x => mG (Wc a) s x) (fun s i => ((a, l, s.1, s.2, i, ()), ())) (fun s => .inl ((s.1, ()), ())) (N5 l) (by
  intro k hk s hi
  obtain ⟨hok, hi'⟩ := Qac (b := Wc a) hk hi
  refine ⟨?_, hi'⟩
  have hlen := hi.len
  have hout := hi.out
  have hl8 := hm'.1
  simp only [Nl]
  rw [Aa (show (k : Int) < ((ja l : Nat) : Int) by omega), Mb hk]
  simp only [cond_true, jb, Jp]
  generalize hx : l[k] = x at *
  have e1 : jx (ja s.2 + ja ([((0 : Int), ((2 : Int), x.2.1, x.2.2.1, (0 : Int), ()), ())] : List Pa)) Ta = true := Na (by omega) (by simp)
  have hR1 : Oh a (jf s.2 [Wh x]) = some (ZJ (Wc a) ((jf s.2 [Wh x]).map Td), ()) := JH a _ hn ha (by simp; omega)
  have hR0 : Oh a s.2 = some (ZJ (Wc a) (s.2.map Td), ()) := JH a _ hn ha (by omega)
  unfold mG IY MN
  rcases Mad hok with ⟨h0, hr⟩ | ⟨h1, hr⟩ | ⟨h2, hr⟩
  ·rw [h0, e1]
   simp only [show ((0 : Int) != 2) = true from rfl, show ((0 : Int) != 1) = true from rfl, show ((0 : Int) == 0) = true from rfl, show ((0 : Int) == 1) = false from rfl, show ((0 : Int) == 2) = false from rfl, cond_true, cond_false]
   show jz (Oh a (jf s.2 [Wh x])) _ = _
   rw [hR1]
   simp only [jb]
   rw [show ∀ r : Ha, jx (ja s.1 + ja ([r] : List Ha)) Ta = true from fun r => Na (by omega) (by simp)]
   simp only [cond_true]
   have hF : Dn (jf s.2 [Wh x]) x = some (((s.2.length : Nat) : Int), ()) := by
    rw [JL _ _ (by simp; omega)]
    have hm1 : Ed (Li x.2.1 x.2.2.1) 0 s.2 = -1 := by
     rcases Qu (Li x.2.1 x.2.2.1) s.2 0 with h | ⟨j, _, h⟩
     ·exact h
     ·unfold rM at hr; omega
    have := EZ (Li x.2.1 x.2.2.1) s.2 0 (Wh x) hm1 (by simp [Li, Wh])
    rw [js] at this
    show some (Ed _ 0 (s.2 ++ [Wh x]), ()) = _
    rw [this]
   have hW : Eg (jf s.2 [Wh x]) ((s.2.length : Nat) : Int) = some (s.2, ()) := by
    rw [FE _ (by simp) (by simp; omega), Mae]
   show jz (Dn (jf s.2 [Wh x]) x) _ = _
   rw [hF]
   simp only [jb]
   show jz (Eg (jf s.2 [Wh x]) ((s.2.length : Nat) : Int)) _ = _
   rw [hW]
   simp only [jb]
   rw [hR0]
   simp only [jb]
   rw [show ∀ r r' : Ha, jx (ja (jf s.1 [r]) + ja ([r'] : List Ha)) Ta = true from fun r r' => Na (by simp; omega) (by simp)]
   simp
  ·rw [h1, e1]
   simp only [show ((1 : Int) != 2) = true from rfl, show ((1 : Int) != 1) = false from rfl, show ((1 : Int) == 0) = false from rfl, show ((1 : Int) == 1) = true from rfl, cond_true, cond_false]
   show jz (Oh a (jf s.2 [Wh x])) _ = _
   rw [hR1]
   simp only [jb]
   rw [show ∀ r : Ha, jx (ja s.1 + ja ([r] : List Ha)) Ta = true from fun r => Na (by omega) (by simp)]
   rfl
  ·rw [h2]
   simp only [show ((2 : Int) != 2) = false from rfl, show ((2 : Int) != 1) = true from rfl, show ((2 : Int) == 0) = false from rfl, show ((2 : Int) == 1) = false from rfl, show ((2 : Int) == 2) = true from rfl, cond_true, cond_false]
   rcases Qu (Li x.2.1 x.2.2.1) s.2 0 with h | ⟨j, hj, h⟩
   ·unfold rM at hr; omega
   ·rw [js] at h
    rw [JL _ _ (by omega), h]
    simp only [jb]
    rw [FE _ hj (by omega)]
    simp only [jb]
    rw [JH a _ hn ha (by rw [YZ hj]; omega)]
    simp only [jb]
    rw [show ∀ r : Ha, jx (ja s.1 + ja ([r] : List Ha)) Ta = true from fun r => Na (by omega) (by simp)]
    unfold rM
    rw [h, jn]
    rfl)
  (by
   intro s _
   simp only [Nl]
   rw [Ba (by omega)]; rfl) (by omega) ([], []) h0).1
 unfold Pj Eo
 rw [HD _ hn, ha, YQ _ (by omega), hm]
 simp only [jb, jg, cond_false]
 erw [hl]
 rfl
theorem Uax (a : List Pa) : ∀ c ∈ (Wc a).2.1, 0 ≤ c ∧ c ≤ 56 := by
 intro c hc
 have := (RI a 56 c).1 hc
 omega
theorem WT (a : List Pa) (l : List Qc) (hn : a.length ≤ Ea) (ha : Gf a = true) (hm : Uf l = true) : Oj a l = some (IS (Wc a) l, ()) := by
 have h20 : Ea = 1048576 := rfl
 have hm' := hm
 simp only [Uf, jd, decide_eq_true_eq, Ead] at hm'
 have h0 : N5 l 0 ([], []) := ⟨by
  rw [List.drop_zero]
  cases hf : Pc (fun _ L x => Au L x) 0 [] l with
  | inl L => exact ⟨L, rfl⟩
  | inr u => rw [hf] at hm'; simp at hm', jo _, jo _, by simp⟩
 have hl := (Pe (step := fun x => Fl x.1.1 x.1.2.1 x.1.2.2.1 x.1.2.2.2.1 x.1.2.2.2.2.1 x.1.2.2.2.2.2.1 x.2.1) l (fun _ s x => mG (Wc a) s x) (fun s i => (((), s.1, s.2.map Td, l, ((ja l : Nat) : Int), i, ()), (Wc a, ()))) (fun s => .inl ((s.1, ()), ())) (N5 l) (by
  intro k hk s hi
  obtain ⟨hok, hi'⟩ := Qac (b := Wc a) hk hi
  refine ⟨?_, hi'⟩
  have hlen := hi.len
  have hout := hi.out
  have hl8 := hm'.1
  have hcode : 0 ≤ l[k].2.1 ∧ l[k].2.1 ≤ 56 := by
   simp only [Yx, jd] at hok
   exact TL hok.1
  simp only [Fl]
  rw [Aa (show (k : Int) < ((ja l : Nat) : Int) by omega), Mb hk]
  simp only [cond_true, jb]
  generalize hx : l[k] = x at *
  have hW : ∀ L : List Pa, L.length ≤ 1000 → (∀ h ∈ L, 0 ≤ h.2.1.2.1 ∧ h.2.1.2.1 ≤ 56) → Qf (Wc a) (L.map Td) = some (ZJ (Wc a) (L.map Td), ()) := fun L h1 h2 =>
   PY _ _ (SJ a) (by simpa using h1) (Uax a) (fun p hp => by
    obtain ⟨h, hh, rfl⟩ := qu.1 hp
    exact h2 h hh)
  have hcs : ∀ h ∈ jf s.2 [Wh x], 0 ≤ h.2.1.2.1 ∧ h.2.1.2.1 ≤ 56 := by
   intro h hh
   rcases jl.1 (show h ∈ s.2 ++ [Wh x] from hh) with hh | hh
   ·exact hi.cod h hh
   ·simp only [jp, List.not_mem_nil, or_false] at hh
    rw [hh]; exact hcode
  have happ : jf (s.2.map Td) ([(x.2.1, x.2.2.1, ())] : List Va) = (jf s.2 [Wh x]).map Td := by
   show _ ++ _ = List.map Td (_ ++ _)
   rw [List.map_append]; rfl
  have happ2 : jf (jf ([] : List Va) (s.2.map Td)) ([(x.2.1, x.2.2.1, ())] : List Va) = (jf s.2 [Wh x]).map Td := happ
  have hR1 := hW (jf s.2 [Wh x]) (by simp; omega) hcs
  have hR0 := hW s.2 (by omega) hi.cod
  have b1 : jx (ja (s.2.map Td) + ja ([(x.2.1, x.2.2.1, ())] : List Va)) Ta = true := Na (by simp; omega) (by simp)
  have b0 : jx (ja ([] : List Va) + ja (s.2.map Td)) Ta = true := ji (by simp [Ee]; omega)
  unfold mG IY MN
  rcases Mad hok with ⟨h0, hr⟩ | ⟨h1, hr⟩ | ⟨h2, hr⟩
  ·rw [h0, b0]
   simp only [show ((0 : Int) == 0) = true from rfl, show ((0 : Int) == 1) = false from rfl, show ((0 : Int) == 2) = false from rfl, cond_true, cond_false]
   show cond (jx (ja (s.2.map Td) + ja ([(x.2.1, x.2.2.1, ())] : List Va)) Ta) _ _ = _
   rw [b1, happ2]
   simp only [cond_true]
   show jz (Qf (Wc a) _) _ = _
   rw [hR1]
   simp only [jb]
   rw [show ∀ r : Ha, jx (ja s.1 + ja ([r] : List Ha)) Ta = true from fun r => Na (by omega) (by simp)]
   simp only [cond_true]
   show jz (Qf (Wc a) _) _ = _
   rw [hR0]
   simp only [jb]
   rw [show ∀ r r' : Ha, jx (ja (jf s.1 [r]) + ja ([r'] : List Ha)) Ta = true from fun r r' => Na (by simp; omega) (by simp)]
   simp
  ·rw [h1, b1, happ]
   simp only [show ((1 : Int) == 0) = false from rfl, show ((1 : Int) == 1) = true from rfl, cond_true, cond_false]
   show jz (Qf (Wc a) _) _ = _
   rw [hR1]
   simp only [jb]
   rw [show ∀ r : Ha, jx (ja s.1 + ja ([r] : List Ha)) Ta = true from fun r => Na (by omega) (by simp)]
   rfl
  ·rw [h2]
   simp only [show ((2 : Int) == 0) = false from rfl, show ((2 : Int) == 1) = false from rfl, show ((2 : Int) == 2) = true from rfl, cond_true, cond_false]
   rcases Qu (Li x.2.1 x.2.2.1) s.2 0 with h | ⟨j, hj, h⟩
   ·unfold rM at hr; omega
   ·rw [js] at h
    rw [CS (s.2.map Td) _ (by simp; omega), N4, h]
    simp only [jb]
    have hj' : j < (s.2.map Td).length := by simpa using hj
    have hc := RV hj'
    have e1 : jx (ja (Eb (s.2.map Td) (jy 0) (jy (j : Int))) + ja (Eb (s.2.map Td) (jy ((j + 1 : Nat) : Int)) (jy ((ja (s.2.map Td) : Nat) : Int)))) Ta = true :=
     ji (by simp [Eb]; rw [Ee]; omega)
    have e2 : jf (Eb (s.2.map Td) (jy 0) (jy (j : Int))) (Eb (s.2.map Td) (jy ((j + 1 : Nat) : Int)) (jy ((ja (s.2.map Td) : Nat) : Int))) = (Ih s.2 j).map Td := by
     rw [← ZZ]
     simp [Ih]
    have hsub : ∀ h ∈ Ih s.2 j, 0 ≤ h.2.1.2.1 ∧ h.2.1.2.1 ≤ 56 := by
     intro h hw
     unfold Ih Eb at hw
     rcases jl.1 (show h ∈ _ ++ _ from hw) with hw | hw
     ·exact hi.cod h (List.mem_of_mem_take (qs hw))
     ·exact hi.cod h (List.mem_of_mem_take (qs hw))
    rw [Gc (k := j) (by omega), hc.1, hc.2, e1, e2]
    simp only [cond_true]
    show jz (Qf (Wc a) _) _ = _
    rw [hW (Ih s.2 j) (by rw [YZ hj]; omega) hsub]
    simp only [jb]
    rw [show ∀ r : Ha, jx (ja s.1 + ja ([r] : List Ha)) Ta = true from fun r => Na (by omega) (by simp)]
    unfold rM
    rw [h, jn]
    rfl)
  (by
   intro s _
   simp only [Fl]
   rw [Ba (by omega)]; rfl) (by omega) ([], []) h0).1
 unfold Oj Sn
 rw [OC _ hn, ha, JQ _ (by omega), hm, Jv _ hn ha]
 simp only [jb, jg, cond_false]
 erw [hl]
 rfl
theorem K8 (b : Ha) (D : List Va) : (ZJ b D).2.1.length ≤ 56 := by
 show (Hs (fun c => b.2.1.any (fun y => y == c) || D.any (fun p => p.1 == c)) 56).length ≤ 56
 exact HW _ 56
theorem Fad (b : Ha) : ∀ (l : List Qc) (k : Nat) (s : List Ha × List Pa), (∀ x ∈ s.1, x.2.1.length ≤ 56) →
 (Jd (fun _ s x => mG b s x) k s l).1.length ≤ s.1.length + 2 * l.length ∧ ∀ x ∈ (Jd (fun _ s x => mG b s x) k s l).1, x.2.1.length ≤ 56
 | [], _, s, h => by simp only [Jd]; exact ⟨by omega, h⟩
 | x :: l, k, s, h => by
  have h1 : (mG b s x).1.length ≤ s.1.length + 2 ∧ ∀ y ∈ (mG b s x).1, y.2.1.length ≤ 56 := by
   unfold mG IY
   cases x.1 == 0 with
   | true =>
    refine ⟨by simp, fun y hy => ?_⟩
    rcases jl.1 (show y ∈ s.1 ++ _ from hy) with hy | hy
    ·exact h y hy
    ·simp only [cond_true, jp, List.not_mem_nil, or_false] at hy
     rcases hy with rfl | rfl <;> exact K8 _ _
   | false =>
    refine ⟨by simp, fun y hy => ?_⟩
    rcases jl.1 (show y ∈ s.1 ++ _ from hy) with hy | hy
    ·exact h y hy
    ·simp only [cond_false, jp, List.not_mem_nil, or_false] at hy
     rw [hy]; exact K8 _ _
  have := Fad b l (k + 1) (mG b s x) h1.2
  simp only [Jd, jw]
  exact ⟨by omega, this.2⟩
def Hn (f : Int) (l : List Pa) : Int := Jd (fun _ s (h : Pa) => cond (h.2.1.1 == 3) (Oc .i64 s (Sa .i64 1 h.2.1.2.2.2.1)) s) 0 (Oc .i64 1 f) l
theorem YR {f : Int} (hf : 0 ≤ f ∧ f ≤ 15) (l : List Pa) (hn : l.length ≤ Ea) (hv : Gf l = true) : Zw f l = some (Hn f l, ()) := by
 have h20 : Ea = 1048576 := rfl
 have hh := An hv
 have hl := (Pe (step := fun x => Zr x.1.1 x.1.2.1 x.1.2.2.1 x.1.2.2.2.1) l
  (fun _ s (h : Pa) => cond (h.2.1.1 == 3) (Oc .i64 s (Sa .i64 1 h.2.1.2.2.2.1)) s) (fun s i => ((s, l, ((ja l : Nat) : Int), i, ()), ()))
  (fun s => .inl ((s, ()), ())) (fun _ _ => True) (by
   intro k hk s _
   refine ⟨?_, trivial⟩
   simp only [Zr]
   rw [Aa (show (k : Int) < (ja l : Int) by omega), Mb hk]
   simp only [cond_true, jb]
   rw [Aa (NK (hh _ (qr hk)).act)]
   cases l[k].2.1.1 == 3 <;> rfl)
  (by
   intro s _
   simp only [Zr]
   rw [Ba (by omega)]; rfl) (by omega) (Oc .i64 1 f) trivial).1
 unfold Zw Kj
 rw [Aa (show f ≥ 0 by omega), Aa hf.2, OC _ hn, hv]
 simp only [cond_true, jb, jg, cond_false]
 erw [hl]
 rfl
theorem PS {f : Int} (hf : 0 ≤ f ∧ f ≤ 15) (l : List Pa) (hn : l.length ≤ Ea) (hv : Gf l = true) : Nx f l = some (Hn f l, ()) := by
 have h20 : Ea = 1048576 := rfl
 have hh := An hv
 have hl := (Pe (step := fun x => Ws x.1.1 x.1.2.1 x.1.2.2.1) l
  (fun _ s (h : Pa) => cond (h.2.1.1 == 3) (Oc .i64 s (Sa .i64 1 h.2.1.2.2.2.1)) s) (fun s i => ((l, s, i, ()), ()))
  (fun s => .inl ((s, ()), ())) (fun _ _ => True) (by
   intro k hk s _
   refine ⟨?_, trivial⟩
   simp only [Ws]
   rw [Aa (show (k : Int) < ((ja l : Nat) : Int) by omega), Mb hk, HD _ hn, hv]
   simp only [cond_true, jb]
   rw [Aa (NK (hh _ (qr hk)).act)]
   cases l[k].2.1.1 == 3 <;> rfl)
  (by
   intro s _
   simp only [Ws]
   rw [Ba (by omega)]; rfl) (by omega) (Oc .i64 1 f) trivial).1
 unfold Nx Ym
 rw [Vc, Aa hf]
 simp only [cond_true, jb]
 erw [hl]
 rfl
theorem D6 (a : Bb) : YL a = some (WK a, ()) := by
 unfold YL WK
 rw [UD]
 cases Wf a <;> cases a.1 == 6 <;> rfl
theorem M4 {a : Nat} (ha : a < 2 ^ 63) (x : Pa) : CD (a : Int) x = true ↔ Bt x ∧ a.testBit x.1.toNat = false := by
 constructor
 ·intro h
  obtain ⟨h1, h2⟩ := Zat h
  refine ⟨h1, ?_⟩
  have hx : x.1 = ((x.1.toNat : Nat) : Int) := (Int.toNat_of_nonneg h1.lo).symm
  have := Zq (a := a) (k := x.1.toNat) ha (by have := h1.hi; omega)
  rw [← hx] at this
  rw [← this]
  simp [h2]
 ·rintro ⟨h1, h2⟩
  have hx : x.1 = ((x.1.toNat : Nat) : Int) := (Int.toNat_of_nonneg h1.lo).symm
  have := Zq (a := a) (k := x.1.toNat) ha (by have := h1.hi; omega)
  rw [← hx, h2] at this
  simp only [CD, jd, decide_eq_true_eq, Bool.not_eq_true', beq_eq_false_iff_ne]
  exact ⟨⟨h1.lo, h1.hi⟩, by rw [beq_eq_false_iff_ne] at this; exact this, h1.act, h1.n1, h1.n6, h1.n7⟩
theorem HZ : ∀ (l : List Pa) (k a : Nat), a < 2 ^ 63 → (Bm (Pc (fun _ s x => Qy s x) k (a : Int) l) = true ↔
 (∀ x ∈ l, Bt x ∧ a.testBit x.1.toNat = false) ∧ l.Pairwise (fun x y => x.1 ≠ y.1))
 | [], k, a, ha => by simp [Pc, Bm]
 | y :: l, k, a, ha => by
  simp only [Pc]
  cases hc : CD (a : Int) y with
  | false =>
   rw [show Qy (a : Int) y = .inr () by unfold Qy; rw [hc]; rfl]
   simp only [Bm, jq, false_iff]
   rintro ⟨h, _⟩
   have := (M4 ha y).2 (h y (qy ..))
   rw [hc] at this; cases this
  | true =>
   rw [show Qy (a : Int) y = .inl (Oc .i64 (a : Int) (Sa .i64 1 y.1)) by unfold Qy; rw [hc]; rfl]
   simp only []
   obtain ⟨hy, hb⟩ := (M4 ha y).1 hc
   have h1 := hy.lo; have h2 := hy.hi
   have hyx : y.1 = ((y.1.toNat : Nat) : Int) := (Int.toNat_of_nonneg h1).symm
   have e : Oc .i64 (a : Int) (Sa .i64 1 y.1) = ((a ||| 2 ^ y.1.toNat : Nat) : Int) := by
    conv => lhs; rw [hyx]
    rw [Ek (by omega), TC ha (Ni (by omega))]
   rw [e, HZ l (k + 1) _ (Nat.or_lt_two_pow ha (Ni (by omega)))]
   have tb : ∀ n, (a ||| 2 ^ y.1.toNat).testBit n = false ↔ a.testBit n = false ∧ y.1.toNat ≠ n := by
    intro n
    rw [Nat.testBit_or, qo, Bool.or_eq_false_iff, decide_eq_false_iff_not]
   simp only [jp, List.pairwise_cons, forall_eq_or_imp]
   constructor
   ·rintro ⟨h, hp⟩
    refine ⟨⟨⟨hy, hb⟩, fun x hx => ⟨(h x hx).1, ((tb _).1 (h x hx).2).1⟩⟩, fun x hx hxy => ?_, hp⟩
    exact ((tb _).1 (h x hx).2).2 (by rw [hxy])
   ·rintro ⟨⟨_, h⟩, hq, hp⟩
    refine ⟨fun x hx => ⟨(h x hx).1, (tb _).2 ⟨(h x hx).2, fun hn => hq x hx ?_⟩⟩, hp⟩
    have := (h x hx).1.lo
    omega
theorem UT (l : List Pa) : Gf l = true ↔ (∀ x ∈ l, Bt x) ∧ l.Pairwise (fun x y => x.1 ≠ y.1) := by
 have := HZ l 0 0 (by decide)
 unfold Gf Paa
 erw [this]
 simp
theorem Qas {l : List Pa} (h : Gf l = true) {x : Pa} (hx : Bt x) (hn : ∀ y ∈ l, y.1 ≠ x.1) : Gf (jf l [x]) = true := by
 rw [UT] at h ⊢
 obtain ⟨h1, h2⟩ := h
 refine ⟨fun y hy => ?_, ?_⟩
 ·rcases jl.1 (show y ∈ l ++ [x] from hy) with hy | hy
  ·exact h1 y hy
  ·rw [qe.1 hy]; exact hx
 ·show (l ++ [x]).Pairwise _
  rw [List.pairwise_append]
  exact ⟨h2, List.pairwise_singleton _ _, fun y hy z hz => by rw [qe.1 hz]; exact hn y hy⟩
theorem A1 {l r : List Pa} (h : Gf l = true) (hs : r.Sublist l) : Gf r = true := by
 rw [UT] at h ⊢
 exact ⟨fun y hy => h.1 y (hs.subset hy), h.2.sublist hs⟩
theorem V1 : ∀ (n : Nat) (l : List Nat), l.Nodup → (∀ x ∈ l, x < n) → l.length ≤ n
 | 0, l, _, h => by
  cases l with
  | nil => exact jo _
  | cons x l => exact absurd (h x (qy ..)) (Nat.not_lt_zero _)
 | n + 1, l, hn, h => by
  have := V1 n (l.erase n) (hn.erase n) (fun x hx => by
   have h1 := (hn.mem_erase_iff).1 hx
   have := h x h1.2
   have := h1.1
   omega)
  have h2 := List.length_erase (a := n) (l := l)
  split at h2 <;> omega
theorem Ep {l : List Pa} (h : Gf l = true) : l.length ≤ 32 := by
 rw [UT] at h
 have hn : (l.map fun x => x.1.toNat).Nodup := by
  rw [List.Nodup, List.pairwise_map]
  refine (List.Pairwise.and_mem.1 h.2).imp ?_
  rintro x y ⟨hx, hy, hxy⟩ he
  have h1 := (h.1 x hx).lo; have h2 := (h.1 y hy).lo
  omega
 have hs : ∀ y ∈ (l.map fun x => x.1.toNat), y < 32 := by
  intro y hy
  obtain ⟨x, hx, rfl⟩ := qu.1 hy
  have := (h.1 x hx).hi; have := (h.1 x hx).lo
  omega
 have := V1 32 _ hn hs
 simpa using this
structure Su (e : Gb) : Prop where
 km : Lh e.1 = true
 m4 : e.2.1.length ≤ 4
 hd : Gf e.2.2.2.1 = true
 mac : ∀ x ∈ e.2.1, Uf x = true
 hin : ∀ x ∈ e.2.2.2.1, Dp e.1.1 e.1.2.1.length x = true
 st : Zaa e.1.2.1.length e.2.2.1 e.2.2.2.2.1
theorem G0 {α : Type} {p : α → Bool} {l : List α} : Yd (fun _ x => p x) 0 l = true ↔ ∀ x ∈ l, p x = true := by
 rw [PA]
 constructor
 ·intro h x hx
  obtain ⟨i, hi, rfl⟩ := qt hx
  exact h i hi
 ·intro h j hj
  exact h _ (qr hj)
theorem W5 (e : Gb) : Vi e = true ↔ Su e := by
 unfold Vi
 simp only [jd, decide_eq_true_eq, beq_iff_eq, G0]
 constructor
 ·rintro ⟨h1, h2, h3, h4, h5, h6, h7, h8⟩
  exact ⟨h1, h2, h3, h4, h5, ⟨h6.1, h6.2, h7, h8.1, h8.2⟩⟩
 ·rintro ⟨h1, h2, h3, h4, h5, h6⟩
  exact ⟨h1, h2, h3, h4, h5, ⟨h6.f0, h6.f1⟩, h6.f2, h6.o0, h6.o1⟩
theorem WX {e : Gb} (h : Su e) : Ja Xb e ≤ Ea - 5 := by
 have h20 : Ea = 1048576 := rfl
 have h1 := (H4 h.km).z
 have hh := Ep h.hd
 have h2 : Ja (.sl (.sl Bc)) e.2.1 ≤ (8 + 1) * e.2.1.length := NU (e := .sl Bc) (c := 8) fun x hx => by
  have := h.mac x hx
  simp only [Uf, jd, decide_eq_true_eq] at this
  have e2 : Ja (.sl Bc) x = x.length := Fo (e := Bc) rfl x
  omega
 have := h.m4
 have hm := Xi h.km
 have h3 : Ja Ub e.1 ≤ 200 := by
  have h1 : Ja Ub e.1 = 0 + (Ja (.sl (.sl Rb)) e.1.2.1 + 0) := rfl
  have h2 : Ja (.sl (.sl Rb)) e.1.2.1 ≤ (32 + 1) * ja e.1.2.1 := NU (e := .sl Rb) (c := 32) fun x hx => by
   obtain ⟨i, hi, rfl⟩ := qt hx
   rw [G5]
   have := hm.row i hi
   have := hm.k2
   omega
  have := hm.l2
  omega
 rw [Vk, Hk]
 omega
noncomputable def X1 (e : Gb) (k : Nat) (b : Bool) : Bb :=
 cond b (WK (Lk e.1.2.1 (Yi e.1 (Hn e.2.2.1 e.2.2.2.1) k) k)) (CN (Lk e.1.2.1 (Yi e.1 (Hn e.2.2.1 e.2.2.2.1) k) k))
noncomputable def Xo (e : Gb) (k : Nat) (b : Bool) : Int × Int × Bool × Bb := BE e.2.2.1 e.2.2.2.2.1 e.2.2.2.2.2.1 (X1 e k b)
noncomputable def pH (e : Gb) (k : Nat) (b : Bool) : List Pa := jf e.2.2.2.1 [((k : Int), (Xo e k b).2.2.2, ())]
noncomputable def pE (e : Gb) (k : Nat) (b : Bool) : Gb := (e.1, e.2.1, (Xo e k b).1, pH e k b, (Xo e k b).2.1, (Xo e k b).2.2.1, ())
noncomputable def pM (e : Gb) (k : Nat) (b : Bool) : List Ha :=
 cond ((Xo e k b).2.2.2.1 == 9) (cond (decide ((Xo e k b).2.2.2.2.2.2.1 < ((ja e.2.1 : Nat) : Int))) (IS (Wc (pH e k b)) (e.2.1.getD (Xo e k b).2.2.2.2.2.2.1.toNat [])) []) []
noncomputable def pR (e : Gb) (k : Nat) (b : Bool) : List Ha := Zu Zj (Wc e.2.2.2.1) (jf (pM e k b) [Wc (pH e k b)])
theorem Maw {nl i : Nat} {a : Bb} (h : Bk nl i a = true) (h1 : a.1 ≠ 1) : B0 nl (WK a) := by
 have ha := RW h
 have hP := ha
 rw [Hc] at hP
 unfold Sd at hP
 unfold WK Wf
 rw [ha]
 by_cases h67 : a.1 = 6 ∨ a.1 = 7
 ·have e : (true && ((a.1 == 6) || (a.1 == 7))) = true := by rcases h67 with h | h <;> rw [h] <;> rfl
  rw [e]
  have hn := GY h (by omega)
  rcases h67 with h6 | h7
  ·rw [h6]
   refine ⟨?_, by show (2 : Int) ≠ 1; decide, by show (2 : Int) ≠ 6; decide, by show (2 : Int) ≠ 7; decide, fun _ => ?_⟩
   ·rw [Hc]
    exact .inr (.inl ⟨rfl, rfl, .inl rfl, .inr (by show 1 ≤ a.2.2.1 ∧ a.2.2.1 ≤ 15; omega), .inr (by show a.2.2.1 ≠ 0; omega)⟩)
   ·show (0 : Int) < (nl : Int)
    omega
  ·rw [h7]
   refine ⟨?_, by show (3 : Int) ≠ 1; decide, by show (3 : Int) ≠ 6; decide, by show (3 : Int) ≠ 7; decide, fun _ => hn⟩
   rw [Hc]
   exact .inr (.inr (.inl ⟨.inl rfl, rfl, rfl, by show 1 ≤ a.2.2.2.1; omega, by show a.2.2.2.1 ≤ 3; omega⟩))
 ·have e : (true && ((a.1 == 6) || (a.1 == 7))) = false := by
   rw [jk, Bool.or_eq_false_iff, beq_eq_false_iff_ne, beq_eq_false_iff_ne]; omega
  rw [e]
  exact ⟨ha, h1, fun h => h67 (.inl h), fun h => h67 (.inr h), fun hk => GY h hk⟩
structure Oar (e : Gb) (k : Nat) (b : Bool) : Prop where
 act : B0 e.1.2.1.length (X1 e k b)
 ah : B0 e.1.2.1.length (Xo e k b).2.2.2
 hd : Gf (pH e k b) = true
 ok : Su (pE e k b)
 ml : (pM e k b).length ≤ 16
 mx : ∀ x ∈ pM e k b, x.2.1.length ≤ 56
theorem P6 {e : Gb} (h : Su e) {k : Nat} (hk : (k : Int) < e.1.1) (hn : ∀ y ∈ e.2.2.2.1, y.1 ≠ (k : Int)) (b : Bool) : Oar e k b := by
 have hm := Xi h.km
 have h1 := Tat hm (Hn e.2.2.1 e.2.2.2.1) hk
 have h2 : B0 e.1.2.1.length (X1 e k b) := by
  cases b
  ·exact IaI h1.1 h1.2
  ·exact Maw h1.1 h1.2
 have h3 := QaL (c := e.2.2.2.2.2.1) hm.l2 h.st h2
 have h4 : Gf (pH e k b) = true := Qas h.hd (x := ((k : Int), (Xo e k b).2.2.2, ())) ⟨by show (0 : Int) ≤ (k : Int); omega, by have := hm.k2; show (k : Int) ≤ 31; omega, h3.2.act, h3.2.n1, h3.2.n6, h3.2.n7⟩ hn
 refine ⟨h2, h3.2, h4, ⟨h.km, h.m4, h4, h.mac, fun x hx => ?_, h3.1⟩, ?_, ?_⟩
 ·rcases jl.1 (show x ∈ e.2.2.2.1 ++ [((k : Int), (Xo e k b).2.2.2, ())] from hx) with hx | hx
  ·exact h.hin x hx
  ·simp only [jp, List.not_mem_nil, or_false] at hx
   subst hx
   simp only [Dp, jd, Bool.not_eq_true', Bool.and_eq_false_iff, decide_eq_false_iff_not]
   refine ⟨by show ¬ (k : Int) ≥ e.1.1; omega, ?_⟩
   by_cases h9 : (Xo e k b).2.2.2.1 = 9
   ·exact .inl (by show ((Xo e k b).2.2.2.1 != 9) = false; simp [h9])
   ·exact .inr (Int.not_le.2 (h3.2.n h9))
 all_goals
  unfold pM
  cases (Xo e k b).2.2.2.1 == 9 with
  | false => simp
  | true =>
   simp only [cond_true]
   by_cases hl : (Xo e k b).2.2.2.2.2.2.1 < ((ja e.2.1 : Nat) : Int)
   ·rw [Aa hl]
    have h0 := NK h3.2.act
    have hmem : (e.2.1.getD (Xo e k b).2.2.2.2.2.2.1.toNat []) ∈ e.2.1 := by
     have hlt : (Xo e k b).2.2.2.2.2.2.1.toNat < e.2.1.length := by
      have : (0 : Int) ≤ (Xo e k b).2.2.2.2.2.2.1 := h0
      omega
     rw [qj, je hlt, Option.getD_some]
     exact qr hlt
    have hmc := h.mac _ hmem
    simp only [Uf, jd, decide_eq_true_eq] at hmc
    have := Fad (Wc (pH e k b)) (e.2.1.getD (Xo e k b).2.2.2.2.2.2.1.toNat []) 0 ([], []) (by simp)
    simp only [cond_true]
    unfold IS
    first
     | exact this.2
     | (have h5 := this.1; simp only [j8] at h5; omega)
   ·rw [Ba hl]; simp
theorem Q4 {β : Type} (MR : List Pa → List Qc → Option ((List Ha) × Unit)) (RO : List Pa → Option (Ha × Unit)) (CH : Ha → List Ha → Option ((List Ha) × Unit)) (K : List Ha → Option β)
 (hMR : ∀ a l, a.length ≤ Ea → Gf a = true → Uf l = true → MR a l = some (IS (Wc a) l, ()))
 (hRO : ∀ l, l.length ≤ Ea → Gf l = true → RO l = some (Wc l, ()))
 (hCH : ∀ (a : Ha) (l : List Ha), l.length ≤ Ea → a.2.1.length ≤ Ea → (∀ x ∈ l, x.2.1.length ≤ Ea) → CH a l = some (Zu Zj a l, ()))
 {e : Gb} (h : Su e) {k : Nat} {b : Bool} (F : Oar e k b) :
 (cond (jx (ja e.2.2.2.1 + ja ([((k : Int), (Xo e k b).2.2.2, ())] : List Pa)) Ta)
  (cond ((Xo e k b).2.2.2.1 == (9 : Int))
   (cond (decide ((Xo e k b).2.2.2.2.2.2.1 < ((ja e.2.1 : Nat) : Int)))
    (jz (Ab e.2.1 (Xo e k b).2.2.2.2.2.2.1) fun x8 => jz (MR (pH e k b) x8) fun r9 => jz (RO (pH e k b)) fun r10 =>
     cond (jx (ja r9.1 + ja ([r10.1] : List Ha)) Ta) (jz (RO e.2.2.2.1) fun r11 => jz (CH r11.1 (jf r9.1 ([r10.1] : List Ha))) fun r12 => K r12.1) none)
    (jz (RO (pH e k b)) fun r13 => cond (jx (ja ([] : List Ha) + ja ([r13.1] : List Ha)) Ta)
     (jz (RO e.2.2.2.1) fun r14 => jz (CH r14.1 (jf ([] : List Ha) ([r13.1] : List Ha))) fun r15 => K r15.1) none))
   (jz (RO (pH e k b)) fun r16 => cond (jx (ja ([] : List Ha) + ja ([r16.1] : List Ha)) Ta)
    (jz (RO e.2.2.2.1) fun r17 => jz (CH r17.1 (jf ([] : List Ha) ([r16.1] : List Ha))) fun r18 => K r18.1) none))
  none) = K (pR e k b) := by
 have h20 : Ea = 1048576 := rfl
 have hlim := Ee
 have hl1 := Ep h.hd
 have hl2 := Ep F.hd
 have R1 := hRO (pH e k b) (by omega) F.hd
 have R0 := hRO e.2.2.2.1 (by omega) h.hd
 have hr : ∀ r : Ha, jx (ja ([] : List Ha) + ja ([r] : List Ha)) Ta = true := fun r => ji (by simp only [jw, j8]; omega)
 rw [show jx (ja e.2.2.2.1 + ja ([((k : Int), (Xo e k b).2.2.2, ())] : List Pa)) Ta = true from ji (by simp only [jw, j8]; omega)]
 have plain : pM e k b = [] → (jz (RO (pH e k b)) fun r13 => cond (jx (ja ([] : List Ha) + ja ([r13.1] : List Ha)) Ta)
  (jz (RO e.2.2.2.1) fun r14 => jz (CH r14.1 (jf ([] : List Ha) ([r13.1] : List Ha))) fun r15 => K r15.1) none) = K (pR e k b) := by
  intro hm
  rw [R1, R0]
  simp only [jb]
  rw [hr, hCH _ _ (by simp; omega) (UQ _) (fun x hx => by rw [qe.1 (show x ∈ [Wc (pH e k b)] from hx)]; exact UQ _)]
  simp only [cond_true, jb]
  unfold pR
  rw [hm]
 simp only [cond_true]
 cases h9 : (Xo e k b).2.2.2.1 == (9 : Int) with
 | false => exact plain (by unfold pM; rw [h9]; rfl)
 | true =>
  simp only [cond_true]
  by_cases hl : (Xo e k b).2.2.2.2.2.2.1 < ((ja e.2.1 : Nat) : Int)
  ·rw [Aa hl]
   simp only [cond_true]
   have h0 : (0 : Int) ≤ (Xo e k b).2.2.2.2.2.2.1 := NK F.ah.act
   have hlt : (Xo e k b).2.2.2.2.2.2.1.toNat < e.2.1.length := by omega
   have hi : Ab e.2.1 (Xo e k b).2.2.2.2.2.2.1 = some e.2.1[(Xo e k b).2.2.2.2.2.2.1.toNat] := by
    have := Mb (xs := e.2.1) hlt
    rw [Int.toNat_of_nonneg h0] at this
    exact this
   have hM : pM e k b = IS (Wc (pH e k b)) e.2.1[(Xo e k b).2.2.2.2.2.2.1.toNat] := by
    unfold pM
    rw [h9, Aa hl, qj, je hlt, Option.getD_some]
    rfl
   have ml := F.ml
   have mx := F.mx
   rw [hi]
   simp only [jb]
   rw [hMR _ _ (by omega) F.hd (h.mac _ (qr hlt)), R1, R0, ← hM]
   simp only [jb]
   rw [show jx (ja (pM e k b) + ja ([Wc (pH e k b)] : List Ha)) Ta = true from ji (by simp only [jw, j8]; omega)]
   simp only [cond_true]
   rw [hCH _ _ (by show (pM e k b ++ [Wc (pH e k b)]).length ≤ _; simp; omega) (UQ _) (fun x hx => by
    rcases jl.1 (show x ∈ pM e k b ++ [Wc (pH e k b)] from hx) with hx | hx
    ·have := mx x hx; omega
    ·rw [qe.1 hx]; exact UQ _)]
   rfl
  ·rw [Ba hl]
   exact plain (by unfold pM; rw [h9, Ba hl]; rfl)
theorem H6 {e : Gb} (h : Su e) {k : Nat} (hk : (k : Int) < e.1.1) (hn : ∀ y ∈ e.2.2.2.1, y.1 ≠ (k : Int)) (b : Bool) :
 Th e (k : Int) b = some (pE e k b, pR e k b, ()) := by
 have h20 : Ea = 1048576 := rfl
 have hm := Xi h.km
 have F := P6 h hk hn b
 have hz := WX h
 have hle := Ep h.hd
 have hl := PQ hm (Hn e.2.2.1 e.2.2.2.1) k
 have hrow := hm.row _ hl
 have tail := Q4 Oj Ae Ve (fun r => some (pE e k b, r, ())) WT Jv IQ h F
 unfold Th
 rw [XA _ (by omega), YR (Sap hm.l2 h.st) _ (by omega) h.hd]
 simp only [jb]
 rw [NQ hm _ hk]
 simp only [jb]
 show jz (Ab e.1.2.1 ((Yi e.1 (Hn e.2.2.1 e.2.2.2.1) k : Nat) : Int)) _ = _
 rw [Iac hl (by omega)]
 cases b with
 | true =>
  simp only [cond_true]
  rw [D6]
  simp only [jb]
  show jz (Gr (e.1, e.2.1, e.2.2.1, e.2.2.2.1, e.2.2.2.2.1, e.2.2.2.2.2.1, ()) (X1 e k true)) _ = _
  rw [DS _ _ _ _ _ _ _ F.act.act]
  simp only [jb]
  exact tail
 | false =>
  simp only [cond_false]
  rw [R8]
  simp only [jb]
  show jz (Gr (e.1, e.2.1, e.2.2.1, e.2.2.2.1, e.2.2.2.2.1, e.2.2.2.2.2.1, ()) (X1 e k false)) _ = _
  rw [DS _ _ _ _ _ _ _ F.act.act]
  simp only [jb]
  exact tail
theorem R3 {l : List Pa} {k : Int} : Ed (fun h : Pa => h.1 == k) 0 l = -1 ↔ ∀ y ∈ l, y.1 ≠ k := by
 have key : ∀ (l : List Pa) (n : Nat), Ed (fun h : Pa => h.1 == k) n l = -1 ↔ ∀ y ∈ l, y.1 ≠ k := by
  intro l
  induction l with
  | nil => intro n; simp [Ed]
  | cons x l ih =>
   intro n
   simp only [Ed]
   cases hx : x.1 == k with
   | true =>
    simp only [cond_true, jp, forall_eq_or_imp]
    have hx := eq_of_beq hx
    constructor
    ·intro h; omega
    ·intro h; exact absurd hx h.1
   | false =>
    simp only [cond_false, jp, forall_eq_or_imp]
    rw [ih]
    exact ⟨fun h => ⟨beq_eq_false_iff_ne.1 hx, h⟩, fun h => h.2⟩
 exact key l 0
theorem C7 {e : Gb} (h : Su e) {k : Nat} (hk : (k : Int) < e.1.1) (hn : ∀ y ∈ e.2.2.2.1, y.1 ≠ (k : Int)) (b : Bool) :
 Sk e (k : Int) b = some (pE e k b, pR e k b, true, ()) := by
 have h20 : Ea = 1048576 := rfl
 have hm := Xi h.km
 have hk2 := hm.k2
 have F := P6 h hk hn b
 have hz := WX h
 have hle := Ep h.hd
 have hv := (W5 e).2 h
 have tail := Q4 Pj Ke Sg (fun r => some (pE e k b, r, true, ())) JU Fw XQ h F
 unfold Sk
 rw [HH _ (by omega), hv, OS _ _ (by omega), R3.2 hn, KL _ (by omega), PS (Sap hm.l2 h.st) _ (by omega) h.hd]
 simp only [jb, jg, cond_false, Vc]
 rw [Tg (by omega) (by omega), Aa (show 0 ≤ (k : Int) ∧ (k : Int) ≤ e.1.1 - 1 by omega), Ba (show ¬ ((-1 : Int) ≥ 0) by decide)]
 simp only [jg, cond_false]
 rw [RP (by have := (H4 h.km).z; omega) h.km _ hk]
 simp only [jb]
 cases b with
 | true =>
  simp only [cond_true]
  rw [V6]
  simp only [jb]
  show jz (Xl (e.1, e.2.1, e.2.2.1, e.2.2.2.1, e.2.2.2.2.1, e.2.2.2.2.2.1, ()) (X1 e k true)) _ = _
  rw [RS _ _ _ _ _ _ _ F.act.act]
  simp only [jb]
  exact tail
 | false =>
  simp only [cond_false]
  rw [E9]
  simp only [jb]
  show jz (Xl (e.1, e.2.1, e.2.2.1, e.2.2.2.1, e.2.2.2.2.1, e.2.2.2.2.2.1, ()) (X1 e k false)) _ = _
  rw [RS _ _ _ _ _ _ _ F.act.act]
  simp only [jb]
  exact tail
def wo (l : List Pa) (i : Nat) : List Pa := jf (l.take i) (l.drop (i + 1))
theorem I5 (l : List Pa) (i : Nat) : (wo l i).Sublist l := by
 have h : (l.drop (i + 1)).Sublist (l.drop i) := List.drop_sublist_drop_left l (Nat.le_succ i)
 have h2 := List.Sublist.append (List.Sublist.refl (l.take i)) h
 rw [List.take_append_drop] at h2
 exact h2
def rE (e : Gb) (i : Nat) : Gb := (e.1, e.2.1, e.2.2.1, wo e.2.2.2.1 i, e.2.2.2.2)
def rR (e : Gb) (i : Nat) : List Ha := Zu Zj (Wc e.2.2.2.1) [Wc (wo e.2.2.2.1 i)]
theorem NaW {e : Gb} (h : Su e) (i : Nat) : Su (rE e i) :=
 ⟨h.km, h.m4, A1 h.hd (I5 _ i), h.mac, fun x hx => h.hin x ((I5 _ i).subset hx), h.st⟩
theorem Fas {α : Type} (l : List α) (i : Nat) : Eb l (jy (0 : Int)) (jy (i : Int)) = l.take i := by
 simp [Eb]
theorem Eas {α : Type} (l : List α) (i : Nat) : Eb l (jy ((i + 1 : Nat) : Int)) (jy ((ja l : Nat) : Int)) = l.drop (i + 1) := by
 simp [Eb]
theorem I1 {e : Gb} (h : Su e) {k : Int} {i : Nat} (hi : i < e.2.2.2.1.length) (hf : Ed (fun h : Pa => h.1 == k) 0 e.2.2.2.1 = (i : Int)) :
 DB e k = some (rE e i, rR e i, ()) := by
 have h20 : Ea = 1048576 := rfl
 have hlim := Ee
 have hz := WX h
 have hle := Ep h.hd
 have hw := A1 h.hd (I5 e.2.2.2.1 i)
 have hwl := Ep hw
 unfold DB
 rw [XA _ (by omega), C6 _ _ (by omega), hf]
 simp only [jb]
 rw [Gc (by omega)]
 rw [Fas, Eas]
 rw [show Md (ja e.2.2.2.1) (0 : Int) ((i : Nat) : Int) = true from Ti (lo := 0) (by omega) (by omega), Ti (by omega) (by omega)]
 rw [show jx (ja (e.2.2.2.1.take i) + ja (e.2.2.2.1.drop (i + 1))) Ta = true from ji (by simp; omega)]
 simp only [cond_true]
 rw [Jv _ (by omega) h.hd]
 simp only [jb]
 show jz (Ae (wo e.2.2.2.1 i)) _ = _
 rw [Jv _ (by omega) hw]
 simp only [jb]
 rw [IQ _ _ (by simp; omega) (UQ _) (fun x hx => by rw [qe.1 hx]; exact UQ _)]
 rfl
theorem K2 {e : Gb} (h : Su e) {k : Int} {i : Nat} (hi : i < e.2.2.2.1.length) (hf : Ed (fun h : Pa => h.1 == k) 0 e.2.2.2.1 = (i : Int)) :
 VB e k = some (rE e i, rR e i, true, ()) := by
 have h20 : Ea = 1048576 := rfl
 have hlim := Ee
 have hz := WX h
 have hle := Ep h.hd
 have hw := A1 h.hd (I5 e.2.2.2.1 i)
 have hwl := Ep hw
 have hv := (W5 e).2 h
 have hW : Eg e.2.2.2.1 (i : Int) = some (wo e.2.2.2.1 i, ()) := by
  unfold Eg
  rw [Gc (by omega), Fas, Eas]
  rw [show Md (ja e.2.2.2.1) (0 : Int) ((i : Nat) : Int) = true from Ti (lo := 0) (by omega) (by omega), Ti (by omega) (by omega)]
  rw [show jx (ja ([] : List Pa) + ja (e.2.2.2.1.take i)) Ta = true from ji (by simp; omega)]
  rw [show jx (ja (jf ([] : List Pa) (e.2.2.2.1.take i)) + ja (e.2.2.2.1.drop (i + 1))) Ta = true from ji (by simp; omega)]
  rfl
 unfold VB
 rw [OS _ _ (by omega), HH _ (by omega), hv, KL _ (by omega), hf]
 simp only [jb, jg, cond_false]
 rw [Ba (show ¬ ((i : Int) < 0) by omega), hW]
 simp only [cond_false, jb]
 rw [Fw _ (by omega) h.hd]
 simp only [jb]
 rw [Fw _ (by omega) hw]
 simp only [jb]
 rw [XQ _ _ (by simp; omega) (UQ _) (fun x hx => by rw [qe.1 hx]; exact UQ _)]
 rfl
def ZY (md key e : Int) (s : Int) (x : Ca) : Int ⊕ (Int × Int) :=
 cond (Gh x) (cond (decide (x.1 ≥ e)) (.inr (2, e)) (cond (x.2.1 == key) (cond x.2.2.1 (.inl s) (.inr (1, x.1)))
  (cond x.2.2.1 (cond (md == 1) (.inr (2, x.1)) (.inl (Oc .i64 s (Sa .i64 1 x.2.1))))
   (cond (md == 2) (cond (Bd s x.2.1 == 1) (.inr (2, x.1)) (.inl s)) (.inl s))))) (.inr (0, 0))
def chR (md key e : Int) (l : List Ca) : Int ⊕ (Int × Int) := Pc (fun _ s x => ZY md key e s x) 0 0 l
def Bl (t : MK) (key at_ : Int) (l : List Ca) (til : Int) : Va :=
 cond (Xk t && decide (0 ≤ at_ ∧ at_ ≤ 1000000)) (match chR t.2.2.1 key (j5 .i64 (at_ + t.1)) l with
  | .inl _ => cond (decide (til ≥ j5 .i64 (at_ + t.1))) (2, j5 .i64 (at_ + t.1), ()) (0, 0, ())
  | .inr r => (r.1, r.2, ())) (0, 0, ())
theorem C1 (t : MK) (key at_ : Int) (l : List Ca) (til : Int) (hn : l.length ≤ Ea) : Vw t key at_ l til = some (Bl t key at_ l til) := by
 have h20 : Ea = 1048576 := rfl
 have hl := Wg (step := fun x => Vr x.1.1 x.1.2.1 x.1.2.2.1 x.1.2.2.2.1 x.1.2.2.2.2.1 x.1.2.2.2.2.2.1 x.1.2.2.2.2.2.2.1 x.1.2.2.2.2.2.2.2.1 x.2.1) l
  (fun _ s x => ZY t.2.2.1 key (j5 .i64 (at_ + t.1)) s x) (fun s i => ((key, at_, til, (), s, l, ((ja l : Nat) : Int), i, ()), (t, ())))
  (fun s => .inl ((at_, til, (), ()), (t, ()))) (fun r => .inr ((r.1, r.2, ()), ())) (fun _ _ => True) (by
   intro k hk s _
   refine ⟨?_, fun _ _ => trivial⟩
   simp only [Vr]
   rw [Aa (show (k : Int) < ((ja l : Nat) : Int) by omega), Mb hk]
   simp only [cond_true, jb]
   rw [VI]
   unfold ZY
   cases he : Gh l[k] with
   | false => rfl
   | true =>
    have hk' := Qj he
    rw [Aa hk'.2.2.1, Ok s hk'.2.2.1]
    simp only [cond_true, jb, jg, cond_false]
    cases decide (l[k].1 ≥ j5 .i64 (at_ + t.1)) <;> cases l[k].2.1 == key <;> cases l[k].2.2.1 <;> cases t.2.2.1 == 1 <;> cases t.2.2.1 == 2 <;> cases Bd s l[k].2.1 == 1 <;> rfl) (by
   intro s _
   simp only [Vr]
   rw [Ba (by omega)]; rfl) (by omega) 0 trivial
 unfold Vw Dv Bl
 rw [RN]
 simp only [jb]
 cases Xk t with
 | false => rfl
 | true =>
  by_cases h1 : at_ < 0
  ·rw [Aa h1, Ba (show ¬ (0 ≤ at_ ∧ at_ ≤ 1000000) by omega)]; rfl
  ·by_cases h2 : at_ > 1000000
   ·rw [Ba h1, Aa h2, Ba (show ¬ (0 ≤ at_ ∧ at_ ≤ 1000000) by omega)]; rfl
   ·rw [Ba h1, Ba h2, Aa (show (0 ≤ at_ ∧ at_ ≤ 1000000) by omega)]
    simp only [jg, cond_false]
    erw [hl]
    unfold chR
    cases Pc (fun _ s x => ZY t.2.2.1 key (j5 .i64 (at_ + t.1)) s x) 0 0 l with
    | inl s =>
     simp only [jb, qk]
     cases decide (til ≥ j5 .i64 (at_ + t.1)) <;> rfl
    | inr r => rfl
theorem E2 (t : MK) (key at_ : Int) (l : List Ca) (til : Int) (hn : l.length ≤ Ea) : OG t key at_ l til = some (Bl t key at_ l til) := by
 have h20 : Ea = 1048576 := rfl
 have hl := Wg (step := fun x => Ps x.1.1 x.1.2.1 x.1.2.2.1 x.1.2.2.2.1 x.1.2.2.2.2.1 x.1.2.2.2.2.2.1 x.1.2.2.2.2.2.2.1 x.2.1) l
  (fun _ s x => ZY t.2.2.1 key (j5 .i64 (at_ + t.1)) s x) (fun s i => ((key, l, til, (), j5 .i64 (at_ + t.1), s, i, ()), (t, ())))
  (fun s => .inl ((til, j5 .i64 (at_ + t.1), ()), ())) (fun r => .inr ((r.1, r.2, ()), ())) (fun _ _ => True) (by
   intro k hk s _
   refine ⟨?_, fun _ _ => trivial⟩
   simp only [Ps]
   rw [Aa (show (k : Int) < ((ja l : Nat) : Int) by omega), Mb hk]
   simp only [cond_true, jb]
   rw [UJ]
   unfold ZY
   cases he : Gh l[k] with
   | false => rfl
   | true =>
    have hk' := Qj he
    rw [Aa hk'.2.2.1]
    simp only [cond_true, jb, jg, cond_false]
    unfold Bd
    cases decide (l[k].1 ≥ j5 .i64 (at_ + t.1)) <;> cases l[k].2.1 == key <;> cases l[k].2.2.1 <;> cases t.2.2.1 == 1 <;> cases t.2.2.1 == 2 <;> cases Wa .i64 (Yb .i64 s l[k].2.1) 1 == 1 <;> rfl) (by
   intro s _
   simp only [Ps]
   rw [Ba (by omega)]; rfl) (by omega) 0 trivial
 unfold OG Zv Bl
 rw [UN, Vc]
 simp only [jb]
 cases Xk t with
 | false => rfl
 | true =>
  cases decide (0 ≤ at_ ∧ at_ ≤ 1000000) with
  | false => rfl
  | true =>
   simp only [jg, cond_false]
   erw [hl]
   unfold chR
   cases Pc (fun _ s x => ZY t.2.2.1 key (j5 .i64 (at_ + t.1)) s x) 0 0 l with
   | inl s =>
    simp only [jb, qk]
    cases decide (til ≥ j5 .i64 (at_ + t.1)) <;> rfl
   | inr r => rfl
def UG (l : List Pa) (j : Nat) : Bool := l.any (fun h => h.1 == (j : Int))
structure NO (l : List Pa) (m : Nat) : Prop where
 lt : m < 2 ^ 63
 bit : ∀ j, m.testBit j = UG l j
theorem Lak : ∀ (l : List Pa) (k : Nat) (s : Nat), s < 2 ^ 63 → (∀ x ∈ l, Bt x) →
 ∃ m : Nat, Jd (fun _ s (x : Pa) => Oc .i64 s (Sa .i64 1 x.1)) k (s : Int) l = (m : Int) ∧ m < 2 ^ 63 ∧ ∀ j, m.testBit j = (s.testBit j || UG l j)
 | [], _, s, hs, _ => ⟨s, rfl, hs, fun j => by simp [UG]⟩
 | x :: l, k, s, hs, h => by
  have hx := h x (by simp)
  obtain ⟨n, hn⟩ := jv hx.lo
  have := hx.hi
  simp only [Jd]
  rw [hn, Ek (by omega), TC hs (Ni (by omega))]
  obtain ⟨m, h1, h2, h3⟩ := Lak l (k + 1) _ (Nat.or_lt_two_pow hs (Ni (show n ≤ 62 by omega))) (fun y hy => h y (by simp [hy]))
  refine ⟨m, h1, h2, fun j => ?_⟩
  rw [h3, Nat.testBit_or, qo]
  simp only [UG, List.any_cons, hn]
  rw [show (((n : Nat) : Int) == ((j : Nat) : Int)) = decide (n = j) by rw [qx]; simp [Int.ofNat_inj]]
  rw [Bool.or_assoc]
theorem TaH {l : List Pa} (h : Gf l = true) : ∃ m : Nat, Ns l = (m : Int) ∧ NO l m := by
 obtain ⟨m, h1, h2, h3⟩ := Lak l 0 0 (by decide) (An h)
 exact ⟨m, h1, h2, fun j => by rw [h3]; simp⟩
theorem Haq {l : List Pa} {m k : Nat} (h : NO l m) (hk : k ≤ 62) (hb : UG l k = false) (a : Bb) : NO (jf l [((k : Int), a, ())]) (m ^^^ 2 ^ k) := by
 refine ⟨qq h.lt (Ni hk), fun j => ?_⟩
 rw [qn, qo, h.bit]
 show _ = UG (l ++ [((k : Int), a, ())]) j
 simp only [UG, List.any_append, List.any_cons, List.any_nil, Bool.or_false]
 rw [show (((k : Nat) : Int) == ((j : Nat) : Int)) = decide (k = j) by rw [qx]; simp [Int.ofNat_inj]]
 by_cases hj : k = j
 ·subst hj
  simp only [UG] at hb
  rw [hb, Aa rfl]; rfl
 ·rw [Ba hj]; simp
theorem ZaL {l : List Pa} (hp : l.Pairwise (fun x y => x.1 ≠ y.1)) {i : Nat} (hi : i < l.length) (j : Int) : (wo l i).any (fun h => h.1 == j) = (l.any (fun h => h.1 == j) && !(l[i].1 == j)) := by
 rw [qx]
 simp only [List.any_eq_true, jd, Bool.not_eq_true', beq_iff_eq, beq_eq_false_iff_ne, wo]
 rw [List.pairwise_iff_getElem] at hp
 constructor
 ·rintro ⟨x, hx, hj⟩
  rcases jl.1 (show x ∈ l.take i ++ l.drop (i + 1) from hx) with hx | hx
  ·obtain ⟨n, hn, rfl⟩ := qt hx
   rw [List.getElem_take] at hj
   have hn2 : n < i ∧ n < l.length := by rw [List.length_take] at hn; omega
   exact ⟨⟨_, qr hn2.2, hj⟩, fun h => hp n i hn2.2 hi hn2.1 (hj.trans h.symm)⟩
  ·obtain ⟨n, hn, rfl⟩ := qt hx
   rw [List.getElem_drop] at hj
   have hn2 : i + 1 + n < l.length := by rw [qw] at hn; omega
   exact ⟨⟨_, qr hn2, hj⟩, fun h => hp i (i + 1 + n) hi hn2 (by omega) (h.trans hj.symm)⟩
 ·rintro ⟨⟨x, hx, hj⟩, hne⟩
  obtain ⟨n, hn, rfl⟩ := qt hx
  refine ⟨l[n], jl.2 ?_, hj⟩
  rcases Nat.lt_trichotomy n i with h | h | h
  ·exact .inl (List.mem_take_iff_getElem.2 ⟨n, by omega, rfl⟩)
  ·subst h; exact absurd hj hne
  ·exact .inr (List.mem_drop_iff_getElem.2 ⟨n - (i + 1), by omega, by congr 1; omega⟩)
theorem Jad {l : List Pa} (hp : l.Pairwise (fun x y => x.1 ≠ y.1)) {m k i : Nat} (h : NO l m) (hk : k ≤ 62) (hi : i < l.length) (hb : l[i].1 = (k : Int)) : NO (wo l i) (m ^^^ 2 ^ k) := by
 refine ⟨qq h.lt (Ni hk), fun j => ?_⟩
 rw [qn, qo, h.bit]
 simp only [UG]
 rw [ZaL hp hi, hb]
 rw [show (((k : Nat) : Int) == ((j : Nat) : Int)) = decide (k = j) by rw [qx]; simp [Int.ofNat_inj]]
 by_cases hj : k = j
 ·subst hj
  rw [Aa rfl]
  have : l.any (fun h => h.1 == (k : Int)) = true := List.any_eq_true.2 ⟨l[i], qr hi, by rw [hb]; simp⟩
  rw [this]; rfl
 ·rw [Ba hj]; simp
theorem GZ {α S R : Type} (g : S → α → S ⊕ R) : ∀ (l : List α) (k j : Nat) (s : S), Pc (fun _ s x => g s x) k s l = Pc (fun _ s x => g s x) j s l
 | [], _, _, _ => rfl
 | x :: l, k, j, s => by
  simp only [Pc]
  cases g s x with
  | inl s' => exact GZ g l (k + 1) (j + 1) s'
  | inr r => rfl
structure PO (d : Hb) : Prop where
 eng : Su d.1
 len : d.2.2.1.length ≤ 64
 key : ∀ x ∈ d.2.2.1, x.2.1 < d.1.1.1
 fol : ∃ (m : Nat) (t : Int), NO d.1.2.2.2.1 m ∧ Bm (Pc (fun _ s x => Ht s x) 0 (t, (m : Int)) d.2.2.1) = true
def V7 (e : Gb) (k : Int) : Nat := (Ed (fun h : Pa => h.1 == k) 0 e.2.2.2.1).toNat
noncomputable def Cm (d : Hb) (x : Ca) (r : List Ca) : Option (Hb × List Ha) :=
 cond (!x.2.2.1)
  (some ((rE d.1 (V7 d.1 x.2.1), d.2.1, r, d.2.2.2.1, max d.2.2.2.2.1 x.1, d.2.2.2.2.2.1, cond (d.2.2.2.2.2.1 == j5 .i64 (x.2.1 + 1)) x.1 d.2.2.2.2.2.2.1, ()), rR d.1 (V7 d.1 x.2.1)))
  (cond (Wf (Lk d.1.1.2.1 (Yi d.1.1 (Hn d.1.2.2.1 d.1.2.2.2.1) x.2.1.toNat) x.2.1.toNat))
   (
    let ch : Int × Int := cond ((d.2.2.2.2.2.1 == j5 .i64 (x.2.1 + 1)) && !decide (j5 .i64 (x.1 - d.2.2.2.2.2.2.1) ≥ d.2.1.2.1)) (1, x.1) ((Bl d.2.1 x.2.1 x.1 r d.2.2.2.1).1, (Bl d.2.1 x.2.1 x.1 r d.2.2.2.1).2.1)
    cond (ch.1 == 0) none
     (some ((pE d.1 x.2.1.toNat (ch.1 == 2), d.2.1, r, d.2.2.2.1, max (max d.2.2.2.2.1 x.1) ch.2, cond (ch.1 == 2) 0 (j5 .i64 (x.2.1 + 1)), cond (ch.1 == 2) d.2.2.2.2.2.2.1 x.1, ()), pR d.1 x.2.1.toNat (ch.1 == 2))))
   (some ((pE d.1 x.2.1.toNat false, d.2.1, r, d.2.2.2.1, max d.2.2.2.2.1 x.1, d.2.2.2.2.2.1, d.2.2.2.2.2.2.1, ()), pR d.1 x.2.1.toNat false)))
structure YaC (d : Hb) (x : Ca) (r : List Ca) : Prop where
 ev : Gh x = true
 key : x.2.1 < d.1.1.1
 up : x.2.2.1 = false → ∃ hi : V7 d.1 x.2.1 < d.1.2.2.2.1.length, Ed (fun h : Pa => h.1 == x.2.1) 0 d.1.2.2.2.1 = ((V7 d.1 x.2.1 : Nat) : Int) ∧ (d.1.2.2.2.1[V7 d.1 x.2.1]'hi).1 = x.2.1
 down : x.2.2.1 = true → ∀ y ∈ d.1.2.2.2.1, y.1 ≠ x.2.1
theorem U7 {α : Type} (p : α → Bool) : ∀ (xs : List α) (k j : Nat), j < xs.length → Ed p k xs = ((k + j : Nat) : Int) → ∃ h : j < xs.length, p xs[j] = true
 | [], _, _, hj, _ => absurd hj (by simp)
 | x :: xs, k, j, hj, h => by
  simp only [Ed] at h
  cases hx : p x with
  | true =>
   rw [hx] at h
   simp only [cond_true] at h
   have : j = 0 := by omega
   subst this
   exact ⟨hj, hx⟩
  | false =>
   rw [hx] at h
   simp only [cond_false] at h
   cases j with
   | zero =>
    rcases Qu p xs (k + 1) with h1 | ⟨i, _, h1⟩ <;> (rw [h1] at h; omega)
   | succ j =>
    have hj' : j < xs.length := by simp at hj; omega
    obtain ⟨_, h2⟩ := U7 p xs (k + 1) j hj' (by rw [h]; omega)
    exact ⟨hj, h2⟩
theorem QT {d : Hb} {x : Ca} {r : List Ca} (h : PO d) (hq : d.2.2.1 = x :: r) : YaC d x r := by
 obtain ⟨m, t, hm, hf⟩ := h.fol
 rw [hq] at hf
 simp only [Pc, Ht] at hf
 cases ho : It (t, (m : Int)) x with
 | false => rw [ho] at hf; exact absurd hf (by simp [Bm])
 | true =>
  simp only [It, jd] at ho
  obtain ⟨h1, h2, h3⟩ := ho
  have hk := Qj h1
  obtain ⟨n, hn⟩ := jv hk.2.2.1
  have hn' : x.2.1 = (n : Int) := hn
  rw [hn', Zq hm.lt (by omega), hm.bit] at h3
  refine ⟨h1, h.key x (by rw [hq]; simp), fun hu => ?_, fun hd => ?_⟩
  ·rw [hu] at h3
   have h4 : UG d.1.2.2.2.1 n = true := by
    cases hh : UG d.1.2.2.2.1 n with
    | true => rfl
    | false => rw [hh] at h3; exact absurd h3 (by decide)
   rcases Qu (fun h : Pa => h.1 == x.2.1) d.1.2.2.2.1 0 with h5 | ⟨j, hj, h5⟩
   ·rw [R3] at h5
    simp only [UG, List.any_eq_true, beq_iff_eq] at h4
    obtain ⟨y, hy, hyk⟩ := h4
    exact absurd (hyk.trans hn'.symm) (h5 y hy)
   ·have e : V7 d.1 x.2.1 = j := by unfold V7; rw [h5]; omega
    obtain ⟨h6, h7⟩ := U7 _ _ _ _ hj h5
    have h7' := eq_of_beq h7
    refine ⟨by omega, by rw [h5, e]; omega, ?_⟩
    simp only [e]
    exact h7'
  ·rw [hd] at h3
   intro y hy he
   have : UG d.1.2.2.2.1 n = true := List.any_eq_true.2 ⟨y, hy, by rw [he, hn']; simp⟩
   rw [this] at h3
   exact absurd h3 (by decide)
theorem Q6 {d d' : Hb} {x : Ca} {r : List Ca} {l : List Ha} (h : PO d) (hq : d.2.2.1 = x :: r) (hs : Cm d x r = some (d', l)) :
 PO d' ∧ d'.2.2.1 = r ∧ l.length ≤ 17 ∧ (∀ y ∈ l, y.2.1.length ≤ 56) := by
 have hF := QT h hq
 have hk := Qj hF.ev
 obtain ⟨n, hn⟩ := jv hk.2.2.1
 have hn' : x.2.1 = (n : Int) := hn
 obtain ⟨m, t, hm, hf⟩ := h.fol
 have hfol : Bm (Pc (fun _ s x => Ht s x) 0 (x.1, ((m ^^^ 2 ^ n : Nat) : Int)) r) = true := by
  rw [hq] at hf
  simp only [Pc, Ht] at hf
  cases ho : It (t, (m : Int)) x with
  | false => rw [ho] at hf; exact absurd hf (by simp [Bm])
  | true =>
   rw [ho] at hf
   simp only [cond_true, hn', Ek (show n ≤ 62 by omega)] at hf
   rw [ZK hm.lt (Ni (by omega))] at hf
   rw [GZ Ht r 0 1]
   exact hf
 have hlen : r.length ≤ 64 := by have := h.len; rw [hq] at this; simp at this; omega
 have hkey : ∀ y ∈ r, y.2.1 < d.1.1.1 := fun y hy => h.key y (by rw [hq]; simp [hy])
 have hp := ((UT d.1.2.2.2.1).1 h.eng.hd).2
 have press : ∀ b : Bool, x.2.2.1 = true → Su (pE d.1 n b) ∧ NO (pE d.1 n b).2.2.2.1 (m ^^^ 2 ^ n) ∧ (pR d.1 n b).length ≤ 17 ∧ (∀ y ∈ pR d.1 n b, y.2.1.length ≤ 56) := by
  intro b hd
  have hn2 := hF.down hd
  rw [hn'] at hn2
  have F := P6 h.eng (k := n) (by have := hF.key; omega) hn2 b
  refine ⟨F.ok, Haq hm (by omega) ?_ _, ?_, fun y hy => ?_⟩
  ·cases hh : UG d.1.2.2.2.1 n with
   | false => rfl
   | true =>
    simp only [UG, List.any_eq_true, beq_iff_eq] at hh
    obtain ⟨y, hy, hyk⟩ := hh
    exact absurd hyk (hn2 y hy)
  ·have := N0 (jf (pM d.1 n b) [Wc (pH d.1 n b)]) (Wc d.1.2.2.2.1)
   have h9 := F.ml
   unfold pR
   have : (jf (pM d.1 n b) [Wc (pH d.1 n b)]).length = (pM d.1 n b).length + 1 := by simp
   omega
  ·have := JT _ _ _ hy
   rcases jl.1 (show y ∈ pM d.1 n b ++ [Wc (pH d.1 n b)] from this) with h1 | h1
   ·exact F.mx y h1
   ·rw [qe.1 h1]; exact SJ _
 unfold Cm at hs
 cases hd : x.2.2.1 with
 | false =>
  rw [hd] at hs
  simp only [qa, cond_true, jc, jh] at hs
  obtain ⟨rfl, rfl⟩ := hs
  obtain ⟨hi, hi1, hi2⟩ := hF.up hd
  refine ⟨⟨NaW h.eng _, hlen, hkey, _, _, Jad hp hm (by omega) hi (by rw [hi2, hn']), hfol⟩, rfl, ?_, fun y hy => ?_⟩
  ·have := N0 [Wc (wo d.1.2.2.2.1 (V7 d.1 x.2.1))] (Wc d.1.2.2.2.1)
   unfold rR
   simp only [jw, j8] at this
   omega
  ·have := JT _ _ _ hy
   rw [qe.1 this]; exact SJ _
 | true =>
  rw [hd] at hs
  simp only [jg, cond_false, hn', jn] at hs
  cases ht : Wf (Lk d.1.1.2.1 (Yi d.1.1 (Hn d.1.2.2.1 d.1.2.2.2.1) n) n) with
  | false =>
   rw [ht] at hs
   simp only [cond_false, jc, jh] at hs
   obtain ⟨rfl, rfl⟩ := hs
   have P := press false hd
   exact ⟨⟨P.1, hlen, hkey, _, _, P.2.1, hfol⟩, rfl, P.2.2⟩
  | true =>
   rw [ht] at hs
   simp only [cond_true] at hs
   revert hs
   generalize (cond ((d.2.2.2.2.2.1 == j5 .i64 ((n : Int) + 1)) && !decide (j5 .i64 (x.1 - d.2.2.2.2.2.2.1) ≥ d.2.1.2.1)) ((1 : Int), x.1) ((Bl d.2.1 (n : Int) x.1 r d.2.2.2.1).1, (Bl d.2.1 (n : Int) x.1 r d.2.2.2.1).2.1)) = ch
   intro hs
   cases h0 : ch.1 == 0 with
   | true => rw [h0] at hs; simp at hs
   | false =>
    rw [h0] at hs
    simp only [cond_false, jc, jh] at hs
    obtain ⟨rfl, rfl⟩ := hs
    have P := press (ch.1 == 2) hd
    exact ⟨⟨P.1, hlen, hkey, _, _, P.2.1, hfol⟩, rfl, P.2.2⟩
theorem B1 {m : Sb} (hz : Ja Ub m ≤ Ea) (hv : Lh m = true) (on : Int) {k : Nat} (hk : (k : Int) < m.1) :
 OF m on (k : Int) = some (Lk m.2.1 (Yi m on k) k, ()) := by
 have hm := Xi hv
 have hl := PQ hm on k
 have hrow := hm.row _ hl
 unfold OF EP
 rw [DP _ hz, hv, Ba (show ¬ (k : Int) < 0 by omega), Ba (show ¬ (k : Int) ≥ m.1 by omega), NQ hm _ hk]
 simp only [jb, jg, cond_false]
 rw [Ba (by omega)]
 simp only [cond_false]
 show (jz (Ab m.2.1 ((Yi m on k : Nat) : Int)) _) = _
 rw [Iac hl (by omega)]
theorem I3 (t : MK) (key at_ : Int) (l : List Ca) (til : Int) : (Bl t key at_ l til).1 = 0 ∨ (Bl t key at_ l til).1 = 1 ∨ (Bl t key at_ l til).1 = 2 := by
 have key2 : ∀ (md k' e : Int) (l : List Ca) (k : Nat) (s : Int) (r : Int × Int), Pc (fun _ s x => ZY md k' e s x) k s l = .inr r → r.1 = 0 ∨ r.1 = 1 ∨ r.1 = 2 := by
  intro md k' e l
  induction l with
  | nil => intro k s r h; simp [Pc] at h
  | cons x l ih =>
   intro k s r h
   simp only [Pc] at h
   revert h
   cases hg : ZY md k' e s x with
   | inl s' => intro h; exact ih _ _ _ h
   | inr r' =>
    intro h
    simp only [Sum.inr.injEq] at h
    subst h
    unfold ZY at hg
    revert hg
    cases Gh x <;> cases decide (x.1 ≥ e) <;> cases x.2.1 == k' <;> cases x.2.2.1 <;> cases md == 1 <;> cases md == 2 <;> cases Bd s x.2.1 == 1 <;> (intro hg; cases hg) <;> simp
 unfold Bl
 cases Xk t && decide (0 ≤ at_ ∧ at_ ≤ 1000000) with
 | false => exact .inl rfl
 | true =>
  simp only [cond_true]
  cases h : chR t.2.2.1 key (j5 .i64 (at_ + t.1)) l with
  | inl s => cases decide (til ≥ j5 .i64 (at_ + t.1)) <;> simp
  | inr r => exact key2 _ _ _ _ _ _ _ h
theorem XO {α : Type} (x : α) (r : List α) (hr : r.length ≤ 64) : Md (ja (x :: r)) (1 : Int) ((ja (x :: r) : Nat) : Int) = true ∧ Eb (x :: r) (jy (1 : Int)) (jy ((ja (x :: r) : Nat) : Int)) = r := by
 refine ⟨Ti (lo := 1) (by simp) (by simp), ?_⟩
 show List.drop 1 (List.take _ (x :: r)) = r
 rw [jn, List.take_length]; rfl
def BaI (d : Hb) : Option (Hb × List Ha) → Hb × ((List Ha) × (Bool × Unit))
 | none => (d, ([], false, ()))
 | some (d', l) => (d', (l, true, ()))
theorem A4 {d : Hb} {x : Ca} {r : List Ca} (h : PO d) (hq : d.2.2.1 = x :: r) : Rh d = some (BaI d (Cm d x r)) := by
 have h20 : Ea = 1048576 := rfl
 have hF := QT h hq
 have hk := Qj hF.ev
 have hlen : r.length ≤ 64 := by have := h.len; rw [hq] at this; simp at this; omega
 have hz := WX h.eng
 have hzm := (H4 h.eng.km).z
 have hle := Ep h.eng.hd
 obtain ⟨n, hn⟩ := jv hk.2.2.1
 have hn' : x.2.1 = (n : Int) := hn
 obtain ⟨e, t, q, now, clk, tp, ta, u⟩ := d
 obtain ⟨xt, xk, xd, xu⟩ := x
 cases u
 simp only at hq hn' hF hz hzm hle hk
 subst hq
 subst hn'
 have hc := XO ((xt, (n : Int), xd, xu) : Ca) r hlen
 have hb : jx (ja ([] : List Ca) + ja r) Ta = true := ji (by simp; rw [Ee]; omega)
 have i0 : Xe (ja (((xt, (n : Int), xd, xu) : Ca) :: r)) (0 : Int) = true := by rw [show (0 : Int) = ((0 : Nat) : Int) from rfl, Ig]; exact Aa (by simp)
 have g0 : (((xt, (n : Int), xd, xu) : Ca) :: r)[(jy (0 : Int))]? = some (xt, (n : Int), xd, xu) := rfl
 unfold Rh
 simp only [i0, g0, hc.1, hc.2, hb, cond_true, jb]
 unfold Cm
 cases xd with
 | false =>
  obtain ⟨hi, hi1, hi2⟩ := hF.up rfl
  rw [I1 h.eng hi hi1]
  simp only [qa, cond_true, jb]
  cases tp == j5 .i64 ((n : Int) + 1) <;> rfl
 | true =>
  have hd := hF.down rfl
  have hkey := hF.key
  have hp := fun b => H6 h.eng (k := n) hkey hd b
  simp only at hp hkey hd
  have hly := YR (Sap (Xi h.eng.km).l2 h.eng.st) _ (show e.2.2.2.1.length ≤ Ea by omega) h.eng.hd
  simp only at hly
  rw [hly]
  have hch := C1 t (n : Int) xt r now (by omega)
  have hac := B1 (m := e.1) (by omega) h.eng.km (Hn e.2.2.1 e.2.2.2.1) hkey
  simp only [jb, jg, cond_false, jn, hac, UD, hch, hp]
  cases Wf (Lk e.1.2.1 (Yi e.1 (Hn e.2.2.1 e.2.2.2.1) n) n) with
  | false => rfl
  | true =>
   simp only [cond_true]
   have hv := I3 t (n : Int) xt r now
   have hne : (tp != j5 .i64 ((n : Int) + 1)) = !(tp == j5 .i64 ((n : Int) + 1)) := rfl
   rw [hne]
   cases tp == j5 .i64 ((n : Int) + 1) with
   | false =>
    simp only [qa, cond_true, qp, cond_false]
    rcases hv with hv | hv | hv <;> (rw [hv]; rfl)
   | true =>
    simp only [jg, cond_false, jk]
    cases decide (j5 .i64 (xt - ta) ≥ t.2.1) with
    | true =>
     simp only [jg, cond_true, cond_false]
     rcases hv with hv | hv | hv <;> (rw [hv]; rfl)
    | false => rfl
theorem EX {d : Hb} {x : Ca} {r : List Ca} (h : PO d) (hq : d.2.2.1 = x :: r) (hd : x.2.2.1 = true) :
 Iu d x (max d.2.2.2.2.1 x.1) = some (match Cm d x r with
  | none => (d, ([], max d.2.2.2.2.1 x.1, false, ()))
  | some (d', l) => ((d'.1, d.2.1, d.2.2.1, d.2.2.2.1, d.2.2.2.2.1, d'.2.2.2.2.2.1, d'.2.2.2.2.2.2.1, ()), (l, d'.2.2.2.2.1, true, ()))) := by
 have h20 : Ea = 1048576 := rfl
 have hF := QT h hq
 have hk := Qj hF.ev
 have hlen : r.length ≤ 64 := by have := h.len; rw [hq] at this; simp at this; omega
 have hz := WX h.eng
 have hzm := (H4 h.eng.km).z
 have hle := Ep h.eng.hd
 obtain ⟨n, hn⟩ := jv hk.2.2.1
 have hn' : x.2.1 = (n : Int) := hn
 obtain ⟨e, t, q, now, clk, tp, ta, u⟩ := d
 obtain ⟨xt, xk, xd, xu⟩ := x
 cases u
 simp only at hq hn' hF hz hzm hle hk hd
 subst hq
 subst hn'
 subst hd
 have hc := XO ((xt, (n : Int), true, xu) : Ca) r hlen
 have hdn := hF.down rfl
 have hkey := hF.key
 have hp := fun b => C7 h.eng (k := n) hkey hdn b
 simp only at hp hkey hdn
 have hly := PS (Sap (Xi h.eng.km).l2 h.eng.st) _ (show e.2.2.2.1.length ≤ Ea by omega) h.eng.hd
 simp only at hly
 unfold Iu
 simp only [hc.1, hc.2]
 unfold Cm
 rw [hly]
 have hch := E2 t (n : Int) xt r now (by omega)
 have hac := RP (m := e.1) (by omega) h.eng.km (Hn e.2.2.1 e.2.2.2.1) hkey
 simp only [jb, jg, cond_false, jn, hac, Vs, hch, hp]
 cases Wf (Lk e.1.2.1 (Yi e.1 (Hn e.2.2.1 e.2.2.2.1) n) n) with
 | false => rfl
 | true =>
  simp only [cond_true]
  have hv := I3 t (n : Int) xt r now
  have hlt : decide (j5 .i64 (xt - ta) < t.2.1) = !decide (j5 .i64 (xt - ta) ≥ t.2.1) := by
   rw [qx]; simp only [decide_eq_true_eq, Bool.not_eq_true', decide_eq_false_iff_not]; omega
  rw [hlt]
  cases tp == j5 .i64 ((n : Int) + 1) with
  | false =>
   simp only [qp, cond_false]
   rcases hv with hv | hv | hv <;> (rw [hv]; rfl)
  | true =>
   simp only [cond_true, jk]
   cases decide (j5 .i64 (xt - ta) ≥ t.2.1) with
   | true =>
    simp only [jg, cond_true, cond_false]
    rcases hv with hv | hv | hv <;> (rw [hv]; rfl)
   | false => rfl
theorem KZ {X R : Type} {step : X → Option (X ⊕ R)} {α S : Type} (xs : List α) (g : S → α → S) (I : S → Nat → X) (out : S → R) (Bi : Nat → S → Prop)
 (h : ∀ k (hk : k < xs.length) s, Bi k s → step (I s k) = some (.inl (I (g s xs[k]) (k + 1))) ∧ Bi (k + 1) (g s xs[k]))
 (he : ∀ s, Bi xs.length s → step (I s xs.length) = some (.inr (out s))) (s0 : S) (h0 : Bi 0 s0) :
 Ua step (I s0 0) = some (out (xs.foldl g s0)) ∧ Bi xs.length (xs.foldl g s0) := by
 have key : ∀ (ys : List α) (k : Nat) (s : S), xs.drop k = ys → k ≤ xs.length → Bi k s → Ua step (I s k) = some (out (ys.foldl g s)) ∧ Bi xs.length (ys.foldl g s) := by
  intro ys
  induction ys with
  | nil =>
   intro k s hd hle hi
   have := PT hd hle
   subst this
   rw [Oe (he s hi)]
   exact ⟨rfl, hi⟩
  | cons y ys ih =>
   intro k s hd hle hi
   obtain ⟨hk, hy, hd'⟩ := NM hd
   obtain ⟨h1, h2⟩ := h k hk s hi
   rw [Oe h1, hy]
   rw [hy] at h2
   exact ih (k + 1) _ hd' hk h2
 exact key xs 0 s0 rfl (Nat.zero_le _) h0
def Jq (s : List Lf) (w : Int) (l : List Ha) : List Lf := jf s (l.map fun r => ((w, r, ()) : Lf))
theorem YV (w : Int) : ∀ (l : List Ha) (s : List Lf), l.foldl (fun s r => jf s [((w, r, ()) : Lf)]) s = Jq s w l
 | [], s => by simp [Jq]
 | x :: l, s => by
  rw [List.foldl_cons, YV w l]
  simp [Jq]
theorem XW (s : List Lf) (w : Int) (l : List Ha) : (Jq s w l).length = s.length + l.length := by simp [Jq]
theorem Nac (s : List Lf) (w : Int) (l : List Ha) (hl : l.length ≤ 1000) (hs : s.length ≤ 1000000) : QM s w l = some (Jq s w l, ()) := by
 have h := (KZ (step := fun x => SF x.1.1 x.1.2.1 x.1.2.2.1 x.1.2.2.2.1 x.1.2.2.2.2.1) l (fun s r => jf s [((w, r, ()) : Lf)])
  (fun o k => ((o, w, (l, (k : Int)), ((ja l : Nat) : Int), (k : Int), ()), ())) (fun o => .inl ((o, ()), ())) (fun k o => o.length = s.length + k) (by
   intro k hk o ho
   refine ⟨?_, by simp [ho]; omega⟩
   simp only [SF]
   rw [Aa (by omega), Ig, Aa hk, jn, je hk]
   simp only [cond_true, jb, Nat.beq_refl]
   rw [show jx (ja o + ja ([(w, l[k], ())] : List Lf)) Ta = true from ji (by simp only [jw, j8]; rw [Ee]; omega)]
   rw [Gc (by omega)]
   rfl) (by
   intro o ho
   simp only [SF]
   rw [Ba (by omega)]; rfl) s rfl).1
 unfold QM ZG
 erw [h]
 rw [YV]
 rfl
theorem XP (s : List Lf) (w : Int) (l : List Ha) (d : Hb) (hl : l.length ≤ 1000) (hs : s.length ≤ 1000000) :
 Ji (((), s, w, (l, (0 : Int)), (0 : Int), ()), (d, ())) = some (.inl (((), Jq s w l, w, ()), (d, ()))) := by
 have h := (KZ (step := fun x => Hw x.1.1 x.1.2.1 x.1.2.2.1 x.1.2.2.2.1 x.1.2.2.2.2.1 x.2.1) l (fun s r => jf s [((w, r, ()) : Lf)])
  (fun o k => (((), o, w, (l, (k : Int)), (k : Int), ()), (d, ()))) (fun o => .inl (((), o, w, ()), (d, ()))) (fun k o => o.length = s.length + k) (by
   intro k hk o ho
   refine ⟨?_, by simp [ho]; omega⟩
   simp only [Hw]
   rw [Aa (by omega), Ig, Aa hk, jn, je hk]
   simp only [cond_true, jb, Nat.beq_refl]
   rw [show jx (ja o + ja ([(w, l[k], ())] : List Lf)) Ta = true from ji (by simp only [jw, j8]; rw [Ee]; omega)]
   rw [Gc (by omega)]
   rfl) (by
   intro o ho
   simp only [Hw]
   rw [Ba (by omega)]; rfl) s rfl).1
 unfold Ji
 erw [h]
 rw [YV]
noncomputable def Xf : Nat → Hb → List Lf → Hb × List Lf
 | 0, d, s => (d, s)
 | n + 1, d, s => match d.2.2.1 with
  | [] => (d, s)
  | x :: r => match Cm d x r with
   | none => (d, s)
   | some (d', l) => Xf n d' (Jq s d'.2.2.2.2.1 l)
theorem Rad {d d' : Hb} {x : Ca} {r : List Ca} {l : List Ha} (hs : Cm d x r = some (d', l)) :
 d' = (d'.1, d.2.1, r, d.2.2.2.1, d'.2.2.2.2.1, d'.2.2.2.2.2.1, d'.2.2.2.2.2.2.1, ()) := by
 unfold Cm at hs
 revert hs
 generalize (cond ((d.2.2.2.2.2.1 == j5 .i64 (x.2.1 + 1)) && !decide (j5 .i64 (x.1 - d.2.2.2.2.2.2.1) ≥ d.2.1.2.1)) ((1 : Int), x.1) ((Bl d.2.1 x.2.1 x.1 r d.2.2.2.1).1, (Bl d.2.1 x.2.1 x.1 r d.2.2.2.1).2.1)) = ch
 generalize Wf _ = b1
 cases x.2.2.1 <;> cases b1 <;> cases h0 : ch.1 == 0 <;>
  simp only [jg, qa, cond_true, cond_false, jc, jh, reduceCtorEq, false_implies, h0, and_imp] <;> (intro h1 _; subst h1; rfl)
theorem IZ (z : Hb) : ∀ (n : Nat) (d : Hb) (s : List Lf), PO d → d.2.2.1.length ≤ n → s.length + 17 * n ≤ 100000 →
 Hg (((), (), s, ()), (z, d, ())) = some (.inl (((), (), (Xf n d s).2, ()), (z, (Xf n d s).1, ())))
 | n, d, s, h, hl, hs => by
  unfold Hg
  cases hq : d.2.2.1 with
  | nil =>
   have e1 : Xf n d s = (d, s) := by
    cases n with
    | zero => rfl
    | succ n => simp only [Xf, hq]
   have hstep : Fh () () s z d = some (.inr (.inl (((), (), s, ()), (z, d, ())))) := by
    unfold Fh
    rw [hq, Ba (by simp)]; rfl
   erw [Oe hstep]
   rw [e1]; rfl
  | cons x r =>
   have hlen : d.2.2.1.length = r.length + 1 := by rw [hq]; rfl
   cases n with
   | zero => omega
   | succ n =>
    have e1 : Xf (n + 1) d s = match Cm d x r with
     | none => (d, s)
     | some (d', l) => Xf n d' (Jq s d'.2.2.2.2.1 l) := by simp only [Xf, hq]
    rw [e1]
    have hp := A4 h hq
    cases hst : Cm d x r with
    | none =>
     have hstep : Fh () () s z d = some (.inr (.inl (((), (), s, ()), (z, d, ())))) := by
      unfold Fh
      rw [Aa (by rw [hlen]; omega)]
      show (jz (Rh d) _) = _
      rw [hp, hst]; rfl
     erw [Oe hstep]; rfl
    | some p =>
     obtain ⟨d', l⟩ := p
     have hn := Q6 h hq hst
     have hstep : Fh () () s z d = some (.inl (((), (), Jq s d'.2.2.2.2.1 l, ()), (z, d', ()))) := by
      unfold Fh
      rw [Aa (by rw [hlen]; omega)]
      show (jz (Rh d) _) = _
      rw [hp, hst]
      show jz (QM s d'.2.2.2.2.1 l) _ = _
      rw [Nac _ _ _ (by have := hn.2.2.1; omega) (by omega)]
      rfl
     erw [Oe hstep]
     have ih := IZ z n d' (Jq s d'.2.2.2.2.1 l) hn.1 (by rw [hn.2.1]; omega) (by rw [XW]; have := hn.2.2.1; omega)
     unfold Hg at ih
     exact ih
theorem RZ : ∀ (n : Nat) (d : Hb) (s : List Lf), PO d → d.2.2.1.length ≤ n → s.length + 17 * n ≤ 100000 →
 Dj (((), s, ()), (d, ())) = some (.inl (((), (Xf n d s).2, ()), ((Xf n d s).1, ()))) ∨ Dj (((), s, ()), (d, ())) = some (.inr (((), (Xf n d s).2, ()), ((Xf n d s).1, ())))
 | n, d, s, h, hl, hs => by
  unfold Dj
  cases hq : d.2.2.1 with
  | nil =>
   have e1 : Xf n d s = (d, s) := by
    cases n with
    | zero => rfl
    | succ n => simp only [Xf, hq]
   have hstep : Gi () s d = some (.inr (.inl (((), s, ()), (d, ())))) := by
    unfold Gi
    rw [hq, Ba (by simp)]; rfl
   refine .inl ?_
   erw [Oe hstep]
   rw [e1]; rfl
  | cons x r =>
   have hlen : d.2.2.1.length = r.length + 1 := by rw [hq]; rfl
   cases n with
   | zero => omega
   | succ n =>
    have e1 : Xf (n + 1) d s = match Cm d x r with
     | none => (d, s)
     | some (d', l) => Xf n d' (Jq s d'.2.2.2.2.1 l) := by simp only [Xf, hq]
    rw [e1]
    have h64 := h.len
    have hc := XO x r (by omega)
    have hb : jx (ja ([] : List Ca) + ja r) Ta = true := ji (by simp; rw [Ee]; omega)
    have i0 : Xe (ja (x :: r)) (0 : Int) = true := by rw [show (0 : Int) = ((0 : Nat) : Int) from rfl, Ig]; exact Aa (by simp)
    have g0 : (x :: r)[(jy (0 : Int))]? = some x := rfl
    have pre : Gi () s d = Gi () s d := rfl
    conv at pre => rhs; unfold Gi
    rw [Aa (show ((ja d.2.2.1 : Nat) : Int) > 0 by rw [hlen]; omega), hq, i0, g0] at pre
    simp only [cond_true, jb] at pre
    have Vh : ∀ (s' : List Lf) (w : Int) (e' : Hb), e'.2.2.1 = x :: r → (jz (some (Sum.inl (((), s', w, ()), (e', ()))) : Option (((Unit × List Lf × Int × Unit) × Hb × Unit) ⊕ Unit)) (j7 (fun y43 => (cond (Md (ja y43.2.1.2.2.1) (1 : Int) ((ja y43.2.1.2.2.1 : Nat) : Int))
     (cond (jx (ja ([] : List Ca) + ja (Eb y43.2.1.2.2.1 (jy (1 : Int)) (jy ((ja y43.2.1.2.2.1 : Nat) : Int)))) Ta)
     (some (.inl (((), y43.1.2.1, ()), ((((y43.2.1.1.1.1, y43.2.1.1.1.2.1, ()), y43.2.1.1.2), y43.2.1.2.1, (jf ([] : List Ca) (Eb y43.2.1.2.2.1 (jy (1 : Int)) (jy ((ja y43.2.1.2.2.1 : Nat) : Int)))), y43.2.1.2.2.2.1, y43.1.2.2.1, y43.2.1.2.2.2.2.2), ()))) : Option (((Unit × List Lf × Unit) × Hb × Unit) ⊕ (((Unit × List Lf × Unit) × Hb × Unit) ⊕ ((Unit × List Lf × Unit) × Hb × Unit))))
     none)
     none)) (fun z44 => none))) = some (.inl (((), s', ()), ((e'.1, e'.2.1, r, e'.2.2.2.1, w, e'.2.2.2.2.2), ()))) := by
     intro s' w e' he
     simp only [jb, qk, he, hc.1, hc.2, hb, cond_true]
     rfl
    cases hst : Cm d x r with
    | none =>
     have hd : x.2.2.1 = true := by
      cases hd : x.2.2.1 with
      | true => rfl
      | false =>
       unfold Cm at hst
       rw [hd] at hst
       simp at hst
     have hstep : Gi () s d = some (.inr (.inr (((), s, ()), (d, ())))) := by
      rw [pre, hd]
      show (jz (Iu d x (max d.2.2.2.2.1 x.1)) _) = _
      rw [EX h hq hd, hst]; rfl
     refine .inr ?_
     erw [Oe hstep]; rfl
    | some p =>
     obtain ⟨d', l⟩ := p
     have hn := Q6 h hq hst
     have hsh := Rad hst
     have hl' := hn.2.2.1
     have hstep : Gi () s d = some (.inl (((), Jq s d'.2.2.2.2.1 l, ()), (d', ()))) := by
      rw [pre]
      cases hd : x.2.2.1 with
      | true =>
       simp only [cond_true]
       show (jz (Iu d x (max d.2.2.2.2.1 x.1)) _) = _
       rw [EX h hq hd, hst]
       simp only [jb, jg, cond_false]
       rw [XP _ _ _ _ (by omega) (by omega)]
       refine (Vh (Jq s d'.2.2.2.2.1 l) d'.2.2.2.2.1 (d'.1, d.2.1, d.2.2.1, d.2.2.2.1, d.2.2.2.2.1, d'.2.2.2.2.2.1, d'.2.2.2.2.2.2.1, ()) hq).trans ?_
       rw [hsh]
      | false =>
       simp only [cond_false]
       obtain ⟨hi, hi1, hi2⟩ := (QT h hq).up hd
       show (jz (VB d.1 x.2.1) _) = _
       rw [K2 h.eng hi hi1]
       unfold Cm at hst
       rw [hd] at hst
       simp only [qa, cond_true, jc, jh] at hst
       obtain ⟨rfl, rfl⟩ := hst
       simp only [jb]
       cases d.2.2.2.2.2.1 == j5 .i64 (x.2.1 + 1) with
       | true =>
        simp only [cond_true]
        rw [XP _ _ _ _ (by omega) (by omega)]
        exact Vh _ _ _ rfl
       | false =>
        simp only [cond_false]
        rw [XP _ _ _ _ (by omega) (by omega)]
        exact Vh _ _ _ hq
     have ih := RZ n d' (Jq s d'.2.2.2.2.1 l) hn.1 (by rw [hn.2.1]; omega) (by rw [XW]; omega)
     unfold Dj at ih
     erw [Oe hstep]
     exact ih
theorem X6 (d : Hb) (h : PO d) : Wx d = some ((Xf d.2.2.1.length d []).1, ((Xf d.2.2.1.length d []).2, ())) := by
 have h64 := h.len
 unfold Wx
 rcases RZ d.2.2.1.length d [] h (jo _) (by simp; omega) with h1 | h1 <;> (rw [h1]; rfl)
def R2 : Hb := ((((0 : Int), ([] : List (List Bb)), ()), ([] : List (List Qc)), (0 : Int), ([] : List Pa), (0 : Int), false, ()), ((0 : Int), (0 : Int), (0 : Int), ()), ([] : List Ca), (0 : Int), (0 : Int), (0 : Int), (0 : Int), ())
def RaC (l : List Ca) : Int := (l.headD (0, 0, false, ())).1
def Cg (l : List Ca) (t : Int) : Bool := ((l.length : Int) == 0) || !decide (RaC l < t)
noncomputable def Vx (d : Hb) (l : List Ca) (til : Int) : Bool :=
 Af d && (decide (d.2.2.2.1 ≤ til ∧ til ≤ 1000000) && (Cg l d.2.2.2.1 && (Hf l til && Fd (jf d.2.2.1 l) (Ns d.1.2.2.2.1) d.1.1.1)))
def Ar (d : Hb) (l : List Ca) (til : Int) : Hb := (d.1, d.2.1, jf d.2.2.1 l, til, d.2.2.2.2)
noncomputable def QJ (d : Hb) (l : List Ca) (til : Int) : Hb × ((List Lf) × (Bool × Unit)) :=
 cond (Vx d l til) ((Xf (Ar d l til).2.2.1.length (Ar d l til) []).1, (Xf (Ar d l til).2.2.1.length (Ar d l til) []).2, true, ()) (R2, [], false, ())
theorem TK {q : List Ca} {d k : Int} (h : Fd q d k = true) : q.length ≤ 64 := by
 simp only [Fd, jd, UK] at h
 by_cases h1 : q.length ≤ 64
 ·exact h1
 ·rw [Ba h1] at h; simp at h
theorem V5 {d : Hb} {l : List Ca} {til : Int} (hd : Af d = true) (hf : Fd (jf d.2.2.1 l) (Ns d.1.2.2.2.1) d.1.1.1 = true) : PO (Ar d l til) := by
 have he : Su d.1 := by
  rw [← W5]
  simp only [Af, jd] at hd
  exact hd.1
 obtain ⟨m, hm, hm2⟩ := TaH he.hd
 refine ⟨he, TK hf, ?_, m, 0, hm2, ?_⟩
 ·have h1 := hf
  simp only [Fd, jd, E4] at h1
  have h2 := h1.1
  intro x hx
  have h3 := (G0 (p := fun x : Ca => !decide (x.2.1 ≥ d.1.1.1))).1 h2 x hx
  simp only [Bool.not_eq_true', decide_eq_false_iff_not] at h3
  show x.2.1 < d.1.1.1
  omega
 ·have := Z0 hf
  rw [hm] at this
  exact this
theorem VT {l : List Ca} (h : 0 < l.length) : ∃ x, Ab l (0 : Int) = some x ∧ x.1 = RaC l := by
 cases l with
 | nil => simp at h
 | cons x l => exact ⟨x, rfl, rfl⟩
theorem CW (d : Hb) (l : List Ca) (til : Int) (hz : Ja Cc d ≤ Ea) (hl : l.length ≤ 1000000) : Wy d l til = some (QJ d l til) := by
 have h20 : Ea = 1048576 := rfl
 have hz' := hz
 rw [MM, HC] at hz'
 have hz2 := hz'
 rw [Vk, Hk] at hz2
 have hlapp : (jf d.2.2.1 l).length = d.2.2.1.length + l.length := by simp
 have hlim : jx (ja d.2.2.1 + ja l) Ta = true := ji (by rw [Ee]; omega)
 unfold Wy QJ
 rw [QN _ hz, Cs _ _ (by omega), DV _ hz]
 cases hd : Af d with
 | false => rw [show Vx d l til = false by unfold Vx; rw [hd]; rfl]; rfl
 | true =>
  have hh : ∀ x ∈ d.1.2.2.2.1, Bt x := by
   have : Vi d.1 = true := by simp only [Af, jd] at hd; exact hd.1
   exact An (Sx this)
  have h64 : d.2.2.1.length ≤ 64 := by
   simp only [Af, jd] at hd
   exact TK hd.2.2.2.2.1
  rw [XG _ (by omega) hh]
  simp only [jb, jg, cond_false, hlim, cond_true]
  rw [Ds _ _ _ (by rw [hlapp]; omega)]
  simp only [jb]
  have key : ∀ (K : Option (Hb × ((List Lf) × (Bool × Unit)))), (Fd (jf d.2.2.1 l) (Ns d.1.2.2.2.1) d.1.1.1 = true → K = some ((Xf (Ar d l til).2.2.1.length (Ar d l til) []).1, (Xf (Ar d l til).2.2.1.length (Ar d l til) []).2, true, ())) →
   (cond (decide (til < d.2.2.2.1)) (some (R2, [], false, ())) (cond (decide (til > 1000000)) (some (R2, [], false, ())) (cond (!Cg l d.2.2.2.1) (some (R2, [], false, ())) (cond (!Hf l til) (some (R2, [], false, ())) (cond (!Fd (jf d.2.2.1 l) (Ns d.1.2.2.2.1) d.1.1.1) (some (R2, [], false, ())) K))))) =
   some (cond (Vx d l til) ((Xf (Ar d l til).2.2.1.length (Ar d l til) []).1, (Xf (Ar d l til).2.2.1.length (Ar d l til) []).2, true, ()) (R2, [], false, ())) := by
   intro K hK
   unfold Vx
   rw [hd]
   by_cases h1 : til < d.2.2.2.1
   ·rw [Aa h1, Ba (show ¬ (d.2.2.2.1 ≤ til ∧ til ≤ 1000000) by omega)]; rfl
   ·by_cases h2 : til > 1000000
    ·rw [Ba h1, Aa h2, Ba (show ¬ (d.2.2.2.1 ≤ til ∧ til ≤ 1000000) by omega)]; rfl
    ·rw [Ba h1, Ba h2, Aa (show (d.2.2.2.1 ≤ til ∧ til ≤ 1000000) by omega)]
     cases Cg l d.2.2.2.1 with
     | false => rfl
     | true =>
      cases Hf l til with
      | false => rfl
      | true =>
       cases hq : Fd (jf d.2.2.1 l) (Ns d.1.2.2.2.1) d.1.1.1 with
       | false => rfl
       | true => exact hK hq
  have hrun : Fd (jf d.2.2.1 l) (Ns d.1.2.2.2.1) d.1.1.1 = true → ∀ z : Hb, Hg (((), (), ([] : List Lf), ()), (z, (d.1, d.2.1, jf d.2.2.1 l, til, d.2.2.2.2), ())) = some (.inl (((), (), (Xf (Ar d l til).2.2.1.length (Ar d l til) []).2, ()), (z, (Xf (Ar d l til).2.2.1.length (Ar d l til) []).1, ()))) := by
   intro hq z
   have h1 := V5 (til := til) hd hq
   have := h1.len
   exact IZ z _ (Ar d l til) [] h1 (jo _) (by simp; omega)
  by_cases h0 : l.length = 0
  ·have hna : Cg l d.2.2.2.1 = true := by unfold Cg; rw [h0]; rfl
   rw [Ba (show ¬ ((ja l : Nat) : Int) > 0 by omega)]
   simp only [cond_false]
   simp only [hna, jg, cond_false] at key
   exact key _ (fun hq => by rw [hrun hq]; rfl)
  ·obtain ⟨x, hx, hx1⟩ := VT (l := l) (by omega)
   have hna : Cg l d.2.2.2.1 = !decide (x.1 < d.2.2.2.1) := by
    unfold Cg
    rw [show ((l.length : Int) == 0) = false by simp; intro h; rw [h] at h0; simp at h0, hx1]; rfl
   rw [Aa (show ((ja l : Nat) : Int) > 0 by omega), hx]
   simp only [cond_true, jb]
   simp only [hna, Bool.not_not] at key
   exact key _ (fun hq => by rw [hrun hq]; rfl)
theorem BX (d : Hb) (l : List Ca) (til : Int) (hz : Ja Cc d ≤ Ea) (hl : l.length ≤ 1000000) : Yz d l til = some (QJ d l til) := by
 have h20 : Ea = 1048576 := rfl
 have hz' := hz
 rw [MM, HC] at hz'
 have hz2 := hz'
 rw [Vk, Hk] at hz2
 have hlapp : (jf d.2.2.1 l).length = d.2.2.1.length + l.length := by simp
 have hn : jf ([] : List Ca) d.2.2.1 = d.2.2.1 := rfl
 have hlim : jx (ja d.2.2.1 + ja l) Ta = true := ji (by rw [Ee]; omega)
 have hlim2 : jx (ja ([] : List Ca) + ja d.2.2.1) Ta = true := ji (by rw [Ee]; simp; omega)
 unfold Yz QJ
 rw [hn, hlim, hlim2, TN _ hz, Vc, KL _ (by omega)]
 simp only [cond_true]
 cases hd : Af d with
 | false => rw [show Vx d l til = false by unfold Vx; rw [hd]; rfl]; rfl
 | true =>
  have hh : ∀ x ∈ d.1.2.2.2.1, Bt x := by
   have : Vi d.1 = true := by simp only [Af, jd] at hd; exact hd.1
   exact An (Sx this)
  have h64 : d.2.2.1.length ≤ 64 := by
   simp only [Af, jd] at hd
   exact TK hd.2.2.2.2.1
  rw [WJ _ (by omega) hh]
  simp only [jb, jg, cond_false]
  rw [Qq _ _ _ (by rw [hlapp]; omega)]
  simp only [jb]
  unfold Vx
  rw [hd]
  cases decide (d.2.2.2.1 ≤ til ∧ til ≤ 1000000) with
  | false => rfl
  | true =>
   cases hq : Fd (jf d.2.2.1 l) (Ns d.1.2.2.2.1) d.1.1.1 with
   | false => simp only [Bool.and_false]; rfl
   | true =>
    have hrun : Wx (d.1, d.2.1, jf d.2.2.1 l, til, d.2.2.2.2) = _ := X6 (Ar d l til) (V5 hd hq)
    simp only [jg, cond_false, jk, Bool.and_true]
    rw [hrun]
    by_cases h0 : l.length = 0
    ·rw [Ba (show ¬ ((ja l : Nat) : Int) > 0 by omega)]
     rw [show Cg l d.2.2.2.1 = true by unfold Cg; rw [h0]; rfl, show Hf l til = true by unfold Hf; rw [h0]; rfl]
     rfl
    ·obtain ⟨x, hx, hx1⟩ := VT (l := l) (by omega)
     obtain ⟨y, hy, hy1⟩ := BP (l := l) (by omega) (by omega)
     rw [Aa (show ((ja l : Nat) : Int) > 0 by omega), hx, hy]
     simp only [cond_true, jb]
     have e0 : ((l.length : Int) == 0) = false := by simp; intro h; rw [h] at h0; simp at h0
     rw [show Cg l d.2.2.2.1 = !decide (x.1 < d.2.2.2.1) by unfold Cg; rw [e0, hx1]; rfl]
     rw [show Hf l til = !decide (y.1 > til) by
      unfold Hf; rw [e0, hy1]
      rw [Bool.false_or, qx]; simp only [decide_eq_true_eq, Bool.not_eq_true', decide_eq_false_iff_not]; omega]
     cases decide (x.1 < d.2.2.2.1) <;> cases decide (y.1 > til) <;> rfl
def rowN (C m r : Nat) : Nat := (m >>> (r * C)) &&& (2 ^ C - 1)
theorem IL (C m r j : Nat) : (rowN C m r).testBit j = (decide (j < C) && m.testBit (r * C + j)) := by
 unfold rowN
 rw [Nat.testBit_and, Nat.testBit_two_pow_sub_one, Nat.testBit_shiftRight, Bool.and_comm]
theorem YM (C m r : Nat) : rowN C m r < 2 ^ C := by
 unfold rowN
 rw [Nat.and_two_pow_sub_one_eq_mod]
 exact Nat.mod_lt _ (Nat.two_pow_pos C)
theorem Wad (C m a x r : Nat) (hx : x < 2 ^ C) : rowN C (m ||| x <<< (a * C)) r = if r = a then rowN C m a ||| x else rowN C m r := by
 apply Nat.eq_of_testBit_eq
 intro j
 rw [IL, Nat.testBit_or, Nat.testBit_shiftLeft]
 by_cases hj : j < C
 ·by_cases hr : r = a
  ·subst hr
   rw [if_pos rfl, Nat.testBit_or, IL, Aa hj, Aa (show r * C + j ≥ r * C by omega), show r * C + j - r * C = j by omega]
   simp
  ·rw [if_neg hr, IL, Aa hj]
   have : (decide (r * C + j ≥ a * C) && x.testBit (r * C + j - a * C)) = false := by
    by_cases h1 : r < a
    ·have h2 : (r + 1) * C ≤ a * C := jm C h1
     rw [Nat.add_mul, Nat.one_mul] at h2
     rw [Ba (show ¬ r * C + j ≥ a * C by omega)]; rfl
    ·have h2 : (a + 1) * C ≤ r * C := jm C (by omega)
     rw [Nat.add_mul, Nat.one_mul] at h2
     have h3 : x.testBit (r * C + j - a * C) = false := by
      apply Nat.testBit_lt_two_pow
      exact ql hx (qm (by omega) (by omega))
     rw [h3, Bool.and_false]
   rw [this, Bool.or_false]
 ·have h3 : x.testBit j = false := Nat.testBit_lt_two_pow (ql hx (qm (by omega) (by omega)))
  rw [Ba hj]
  by_cases hr : r = a
  ·rw [if_pos hr, Nat.testBit_or, IL, Ba hj, h3]; rfl
  ·rw [if_neg hr, IL, Ba hj]; rfl
theorem Yad {C x a R : Nat} (hx : x < 2 ^ C) (ha : a < R) : x <<< (a * C) < 2 ^ (R * C) := by
 rw [Nat.shiftLeft_eq]
 have h1 : x * 2 ^ (a * C) < 2 ^ C * 2 ^ (a * C) := Nat.mul_lt_mul_of_pos_right hx (Nat.two_pow_pos _)
 rw [← Nat.pow_add] at h1
 have h2 : (a + 1) * C ≤ R * C := jm C ha
 rw [Nat.add_mul, Nat.one_mul] at h2
 exact ql h1 (qm (by omega) (by omega))
def Pw (C a b m : Nat) : Nat := cond (rowN C m a &&& rowN C m b != 0) (m ||| rowN C m b <<< (a * C)) m
theorem GaI {C a b m R : Nat} (hm : m < 2 ^ (R * C)) (ha : a < R) : Pw C a b m < 2 ^ (R * C) := by
 unfold Pw
 cases rowN C m a &&& rowN C m b != 0 with
 | false => exact hm
 | true => exact Nat.or_lt_two_pow hm (Yad (YM C m b) ha)
theorem SM {S : Type} {g : Nat → S → S} {p : S → Prop} {s0 : S} {n : Nat} (h0 : p s0) (hs : ∀ k s, k < n → p s → p (g k s)) : ∀ k, k ≤ n → p (Se g k s0)
 | 0, _ => h0
 | k + 1, h => hs k _ (by omega) (SM h0 hs k (by omega))
def g3 (C a : Nat) : Nat → Nat → Nat := fun b m => Pw C a b m
def g2 (C R : Nat) : Nat → Nat → Nat := fun a m => Se (g3 C a) R m
def g1 (C R : Nat) : Nat → Nat → Nat := fun _ m => Se (g2 C R) R m
def Ro (C R m : Nat) : Nat := Se (g1 C R) R m
theorem Yap {C R m a : Nat} (hm : m < 2 ^ (R * C)) (ha : a < R) (k : Nat) (hk : k ≤ R) : Se (g3 C a) k m < 2 ^ (R * C) :=
 SM (p := fun m => m < 2 ^ (R * C)) (n := R) hm (fun b s _ hs => GaI hs ha) k hk
theorem Xap {C R m : Nat} (hm : m < 2 ^ (R * C)) (k : Nat) (hk : k ≤ R) : Se (g2 C R) k m < 2 ^ (R * C) :=
 SM (p := fun m => m < 2 ^ (R * C)) (n := R) hm (fun a s ha hs => Yap hs ha R (jo _)) k hk
theorem Wap {C R m : Nat} (hm : m < 2 ^ (R * C)) (k : Nat) (hk : k ≤ R) : Se (g1 C R) k m < 2 ^ (R * C) :=
 SM (p := fun m => m < 2 ^ (R * C)) (n := R) hm (fun _ s _ hs => Xap hs R (jo _)) k hk
structure BI (C R : Nat) : Prop where
 c1 : 1 ≤ C
 c2 : C ≤ 6
 r1 : 1 ≤ R
 r2 : R ≤ 4
theorem VX {C R r : Nat} (h : BI C R) (hr : r ≤ R) : r * C ≤ 24 := qc (Nat.mul_le_mul (qc hr h.r2) h.c2) (by decide)
theorem YO {C R m : Nat} (h : BI C R) (hm : m < 2 ^ (R * C)) : m < 2 ^ 63 := ql hm (qm (by omega) (by have := VX h (jo R); omega))
theorem LS {C R m : Nat} (h : BI C R) (r : Nat) : rowN C m r < 2 ^ 63 := ql (YM C m r) (qm (by omega) (by have := h.c2; omega))
theorem LO {C R r : Nat} (h : BI C R) (hr : r ≤ R) : j5 .i64 ((r : Int) * (C : Int)) = ((r * C : Nat) : Int) := by
 have := VX h hr
 rw [← Int.natCast_mul]
 generalize r * C = z at *
 exact Tg (by omega) (by omega)
theorem Sak {C R m r : Nat} (h : BI C R) (hm : m < 2 ^ 63) (hr : r ≤ R) :
 Wa .i64 (Yb .i64 (m : Int) (j5 .i64 ((r : Int) * (C : Int)))) (j5 .i64 (Sa .i64 1 (C : Int) - 1)) = ((rowN C m r : Nat) : Int) := by
 have h1 := VX h hr
 have h2 := h.c2
 have hp := Sad (k := C) (by omega)
 have hsh : m >>> (r * C) ≤ m := by rw [Nat.shiftRight_eq_div_pow]; exact Nat.div_le_self _ _
 have e : j5 .i64 (((2 ^ C : Nat) : Int) - 1) = ((2 ^ C - 1 : Nat) : Int) := by
  generalize 2 ^ C = z at hp
  rw [Tg (by omega) (by omega)]; omega
 rw [LO h hr, YT m (by omega), Ek (by omega), e, XK (by omega) (by rw [GK]; generalize 2 ^ C = z at hp; omega)]
 rfl
theorem QZ {C R m r : Nat} (h : BI C R) (d : Bool) (hm : m < 2 ^ 63) (hr : r ≤ R) : KD ((R : Int), (C : Int), d, ()) (m : Int) (r : Int) = some (((rowN C m r : Nat) : Int), ()) := by
 unfold KD
 rw [Sak h hm hr]
 rw [LO h hr, Aa (Int.natCast_nonneg _), Aa (Int.natCast_nonneg C)]
 rfl
theorem Cau {C R m a x : Nat} (h : BI C R) (hm : m < 2 ^ (R * C)) (ha : a < R) (hx : x < 2 ^ C) :
 Oc .i64 (m : Int) (Sa .i64 (x : Int) (j5 .i64 ((a : Int) * (C : Int)))) = ((m ||| x <<< (a * C) : Nat) : Int) := by
 have h1 := VX h (Nat.le_of_lt ha)
 have h2 := Yad hx ha
 have h3 : x <<< (a * C) < 2 ^ 63 := YO h h2
 rw [LO h (Nat.le_of_lt ha), Qaw (by rw [← Nat.shiftLeft_eq]; exact h3) (by omega), TC (YO h hm) h3]
theorem Rar (x y : Nat) (hx : x < 2 ^ 63) (hy : y < 2 ^ 63) : (Wa .i64 (x : Int) (y : Int) != 0) = (x &&& y != 0) := by
 rw [XK hx hy, qx]
 simp
theorem Uaq {C R m a : Nat} (h : BI C R) (d : Bool) (hm : m < 2 ^ (R * C)) (ha : a < R) (t : Int) :
 Ny (((), (m : Int), t, (a : Int), (0 : Int), ()), (((R : Int), (C : Int), d, ()), ())) = some (.inl (((), ((g2 C R a m : Nat) : Int), t, (a : Int), ()), (((R : Int), (C : Int), d, ()), ()))) := by
 have hr2 := h.r2
 have := Nh (step := fun x => Mw x.1.1 x.1.2.1 x.1.2.2.1 x.1.2.2.2.1 x.1.2.2.2.2.1 x.2.1) R (by omega) (g3 C a) m (fun s i => (((), (s : Int), t, (a : Int), i, ()), (((R : Int), (C : Int), d, ()), ()))) (fun s => .inl (((), (s : Int), t, (a : Int), ()), (((R : Int), (C : Int), d, ()), ())))
  (by
   intro k hk
   have hs := Yap hm ha k (by omega)
   generalize Se (g3 C a) k m = s at *
   have hs63 := YO h hs
   simp only [Mw]
   rw [Aa (show (k : Int) < (R : Int) by omega), QZ h d hs63 (by omega), QZ h d hs63 (by omega)]
   simp only [cond_true, jb]
   rw [Rar _ _ (LS h _) (LS h _), Cau h hs ha (YM C s k), LO h (by omega), Aa (Int.natCast_nonneg _)]
   unfold g3 Pw
   cases (rowN C s a &&& rowN C s k != 0) <;> rfl)
  (by
   simp only [Mw]
   rw [Ba (by omega)]; rfl)
 exact this
theorem Taq {C R m : Nat} (h : BI C R) (d : Bool) (hm : m < 2 ^ (R * C)) (t : Int) :
 CC (((), (m : Int), t, (0 : Int), ()), (((R : Int), (C : Int), d, ()), ())) = some (.inl (((), ((Se (g2 C R) R m : Nat) : Int), t, ()), (((R : Int), (C : Int), d, ()), ()))) := by
 have hr2 := h.r2
 have := Nh (step := fun x => EA x.1.1 x.1.2.1 x.1.2.2.1 x.1.2.2.2.1 x.2.1) R (by omega) (g2 C R) m (fun s i => (((), (s : Int), t, i, ()), (((R : Int), (C : Int), d, ()), ()))) (fun s => .inl (((), (s : Int), t, ()), (((R : Int), (C : Int), d, ()), ())))
  (by
   intro k hk
   have hs := Xap hm k (by omega)
   generalize Se (g2 C R) k m = s at *
   simp only [EA]
   rw [Aa (show (k : Int) < (R : Int) by omega), Uaq h d hs hk]; rfl)
  (by
   simp only [EA]
   rw [Ba (by omega)]; rfl)
 exact this
theorem Cae {C R m : Nat} (h : BI C R) (d : Bool) (hm : m < 2 ^ (R * C)) : Qr ((R : Int), (C : Int), d, ()) (m : Int) = some (((cond d m (Ro C R m) : Nat) : Int), ()) := by
 have hr2 := h.r2
 unfold Qr
 cases d with
 | true => rfl
 | false =>
  have := Nh (step := fun x => DA x.1.1 x.1.2.1 x.1.2.2.1 x.2.1) R (by omega) (g1 C R) m (fun s i => (((), (s : Int), i, ()), (((R : Int), (C : Int), false, ()), ()))) (fun s => .inl (((s : Int), ()), ()))
   (by
    intro k hk
    have hs := Wap hm k (by omega)
    generalize Se (g1 C R) k m = s at *
    simp only [DA]
    rw [Aa (show (k : Int) < (R : Int) by omega), Taq h false hs]; rfl)
   (by
    simp only [DA]
    rw [Ba (by omega)]; rfl)
  unfold BC
  simp only [cond_false]
  erw [this]
  rfl
def Ri (C m : Nat) : List Int := [((rowN C m 0 : Nat) : Int), ((rowN C m 1 : Nat) : Int), ((rowN C m 2 : Nat) : Int), ((rowN C m 3 : Nat) : Int)]
theorem lt4 {r : Nat} (h : r < 4) : r = 0 ∨ r = 1 ∨ r = 2 ∨ r = 3 := by omega
theorem WW {C m r : Nat} (h : r < 4) : (Ri C m)[r]? = some ((rowN C m r : Nat) : Int) := by
 rcases lt4 h with rfl | rfl | rfl | rfl <;> rfl
theorem Iau {C m a x : Nat} (ha : a < 4) (hx : x < 2 ^ C) : (Ri C m).set a (((rowN C m a ||| x : Nat)) : Int) = Ri C (m ||| x <<< (a * C)) := by
 unfold Ri
 simp only [Wad C m a x _ hx]
 rcases lt4 ha with rfl | rfl | rfl | rfl <;> simp
theorem Oaw {C m r : Nat} (h : r < 4) : Xe (ja (Ri C m)) (r : Int) = true := by
 rw [Ig]; exact Aa h
theorem Caq {C R m a : Nat} (h : BI C R) (d : Bool) (hm : m < 2 ^ (R * C)) (ha : a < R) (t1 t2 t3 t4 : Int) :
 XD (((), Ri C m, (a : Int), t1, t2, t3, t4, (R : Int), (0 : Int), ()), (((R : Int), (C : Int), d, ()), ())) = some (.inl (((), Ri C (g2 C R a m), t1, t2, t3, t4, ()), (((R : Int), (C : Int), d, ()), ()))) := by
 have hr2 := h.r2
 have := Nh (step := fun x => RC x.1.1 x.1.2.1 x.1.2.2.1 x.1.2.2.2.1 x.1.2.2.2.2.1 x.1.2.2.2.2.2.1 x.1.2.2.2.2.2.2.1 x.1.2.2.2.2.2.2.2.1 x.1.2.2.2.2.2.2.2.2.1 x.2.1) R (by omega) (g3 C a) m
  (fun s i => (((), Ri C s, (a : Int), t1, t2, t3, t4, (R : Int), i, ()), (((R : Int), (C : Int), d, ()), ()))) (fun s => .inl (((), Ri C s, t1, t2, t3, t4, ()), (((R : Int), (C : Int), d, ()), ())))
  (by
   intro k hk
   have hs := Yap hm ha k (by omega)
   generalize Se (g3 C a) k m = s at *
   simp only [RC]
   have hlen : Nat.beq 4 (ja (Ri C s)) = true := rfl
   rw [Aa (show (k : Int) < (R : Int) by omega), hlen, Oaw (show a < 4 by omega), Oaw (show k < 4 by omega)]
   simp only [jn, cond_true]
   rw [WW (show a < 4 by omega), WW (show k < 4 by omega)]
   simp only [jb]
   rw [Rar _ _ (LS h _) (LS h _), TC (LS h _) (LS h _), Iau (show a < 4 by omega) (YM C s k)]
   unfold g3 Pw
   cases (rowN C s a &&& rowN C s k != 0) <;> rfl)
  (by
   simp only [RC]
   rw [Ba (by omega)]; rfl)
 exact this
theorem Baq {C R m : Nat} (h : BI C R) (d : Bool) (hm : m < 2 ^ (R * C)) (t1 t2 : Int) :
 WD (((), Ri C m, t1, t2, (R : Int), (0 : Int), ()), (((R : Int), (C : Int), d, ()), ())) = some (.inl (((), Ri C (Se (g2 C R) R m), t1, t2, ()), (((R : Int), (C : Int), d, ()), ()))) := by
 have hr2 := h.r2
 have := Nh (step := fun x => QC x.1.1 x.1.2.1 x.1.2.2.1 x.1.2.2.2.1 x.1.2.2.2.2.1 x.1.2.2.2.2.2.1 x.2.1) R (by omega) (g2 C R) m
  (fun s i => (((), Ri C s, t1, t2, (R : Int), i, ()), (((R : Int), (C : Int), d, ()), ()))) (fun s => .inl (((), Ri C s, t1, t2, ()), (((R : Int), (C : Int), d, ()), ())))
  (by
   intro k hk
   have hs := Xap hm k (by omega)
   generalize Se (g2 C R) k m = s at *
   simp only [QC]
   rw [Aa (show (k : Int) < (R : Int) by omega), Caq h d hs hk]; rfl)
  (by
   simp only [QC]
   rw [Ba (by omega)]; rfl)
 exact this
theorem Aaq {C R m : Nat} (h : BI C R) (d : Bool) (hm : m < 2 ^ (R * C)) :
 VD (((), Ri C m, (R : Int), (0 : Int), ()), (((R : Int), (C : Int), d, ()), ())) = some (.inl (((), Ri C (Ro C R m), ()), (((R : Int), (C : Int), d, ()), ()))) := by
 have hr2 := h.r2
 have := Nh (step := fun x => PC x.1.1 x.1.2.1 x.1.2.2.1 x.1.2.2.2.1 x.2.1) R (by omega) (g1 C R) m
  (fun s i => (((), Ri C s, (R : Int), i, ()), (((R : Int), (C : Int), d, ()), ()))) (fun s => .inl (((), Ri C s, ()), (((R : Int), (C : Int), d, ()), ())))
  (by
   intro k hk
   have hs := Wap hm k (by omega)
   generalize Se (g1 C R) k m = s at *
   simp only [PC]
   rw [Aa (show (k : Int) < (R : Int) by omega), Baq h d hs]; rfl)
  (by
   simp only [PC]
   rw [Ba (by omega)]; rfl)
 exact this
def LE (C m k : Nat) : List Int := [0, 1, 2, 3].map fun r => if r < k then ((rowN C m r : Nat) : Int) else 0
theorem Wax {C R m r : Nat} (hm : m < 2 ^ (R * C)) (hr : R ≤ r) : rowN C m r = 0 := by
 unfold rowN
 have : m >>> (r * C) = 0 := by
  rw [Nat.shiftRight_eq_div_pow]
  apply Nat.div_eq_of_lt
  exact ql hm (qm (by omega) (jm C hr))
 rw [this, Nat.zero_and]
theorem Tap {C R m : Nat} (hm : m < 2 ^ (R * C)) : LE C m R = Ri C m := by
 have key : ∀ r, (if r < R then ((rowN C m r : Nat) : Int) else 0) = ((rowN C m r : Nat) : Int) := by
  intro r
  by_cases h : r < R
  ·rw [if_pos h]
  ·rw [if_neg h, Wax hm (by omega)]; rfl
 unfold LE Ri
 simp only [List.map_cons, List.map_nil, key]
theorem Uap {C m k : Nat} (hk : k < 4) : (LE C m k).set k ((rowN C m k : Nat) : Int) = LE C m (k + 1) := by
 rcases lt4 hk with rfl | rfl | rfl | rfl <;> simp [LE]
theorem Uas {C R m : Nat} (h : BI C R) (d : Bool) (hm : m < 2 ^ (R * C)) :
 YG (((m : Int), (), List.replicate 4 (0 : Int), (R : Int), (0 : Int), ()), (((R : Int), (C : Int), d, ()), ())) = some (.inl (((), Ri C m, ()), (((R : Int), (C : Int), d, ()), ()))) := by
 have hr2 := h.r2
 have := PB (step := fun x => QF x.1.1 x.1.2.1 x.1.2.2.1 x.1.2.2.2.1 x.1.2.2.2.2.1 x.2.1) (fun k => (((m : Int), (), LE C m k, (R : Int), (k : Int), ()), (((R : Int), (C : Int), d, ()), ()))) R (.inl (((), Ri C m, ()), (((R : Int), (C : Int), d, ()), ())))
  (by
   intro k hk
   simp only [QF]
   have hlen : Nat.beq 4 (ja (LE C m k)) = true := rfl
   have hin : Xe (ja (LE C m k)) (k : Int) = true := by rw [Ig]; exact Aa (show k < 4 by omega)
   have hget : ∃ y, (LE C m k)[k]? = some y := ⟨(LE C m k)[k]'(show k < 4 by omega), je _⟩
   obtain ⟨y, hy⟩ := hget
   rw [Aa (show (k : Int) < (R : Int) by omega), Sak h (YO h hm) (by omega), LO h (by omega), Aa (Int.natCast_nonneg _), Aa (Int.natCast_nonneg C), hlen, hin]
   simp only [jn, cond_true]
   rw [hy]
   simp only [jb]
   rw [Uap (by omega), Gc (by omega)])
  (by
   simp only [QF]
   rw [Ba (by omega), Tap hm]; rfl)
 exact this
theorem Rac {C m : Nat} : ∀ k, ∀ j, (Se (fun i s => s ||| rowN C m i <<< (i * C)) k 0).testBit j = (decide (j < k * C) && m.testBit j)
 | 0, j => by simp [Se]
 | k + 1, j => by
  simp only [Se]
  rw [Nat.testBit_or, Rac k j, Nat.testBit_shiftLeft, IL, Nat.add_mul, Nat.one_mul]
  by_cases h1 : j < k * C
  ·rw [Aa h1, Ba (show ¬ j ≥ k * C by omega), Aa (show j < k * C + C by omega)]; simp
  ·rw [Ba h1, Aa (show j ≥ k * C by omega), show k * C + (j - k * C) = j by omega]
   by_cases h2 : j < k * C + C
   ·rw [Aa h2, Aa (show j - k * C < C by omega)]; simp
   ·rw [Ba h2, Ba (show ¬ j - k * C < C by omega)]; simp
theorem Raw {C R m : Nat} (hm : m < 2 ^ (R * C)) : Se (fun i s => s ||| rowN C m i <<< (i * C)) R 0 = m := by
 apply Nat.eq_of_testBit_eq
 intro j
 rw [Rac]
 by_cases h : j < R * C
 ·rw [Aa h]; rfl
 ·rw [Ba h, Nat.testBit_lt_two_pow (ql hm (qm (by omega) (by omega)))]; rfl
theorem OaD {C R m : Nat} (k : Nat) (hk : k ≤ R) : Se (fun i s => s ||| rowN C m i <<< (i * C)) k 0 < 2 ^ (R * C) :=
 SM (p := fun s => s < 2 ^ (R * C)) (n := R) (Nat.two_pow_pos _) (fun i s hi hs => Nat.or_lt_two_pow hs (Yad (YM C m i) hi)) k hk
theorem Vas {C R m : Nat} (h : BI C R) (d : Bool) (hm : m < 2 ^ (R * C)) :
 YD (((), Ri C m, (0 : Int), (R : Int), (0 : Int), ()), (((R : Int), (C : Int), d, ()), ())) = some (.inl (((m : Int), ()), ())) := by
 have hr2 := h.r2
 have := Nh (step := fun x => SC x.1.1 x.1.2.1 x.1.2.2.1 x.1.2.2.2.1 x.1.2.2.2.2.1 x.2.1) R (by omega) (fun i s => s ||| rowN C m i <<< (i * C)) 0
  (fun (s : Nat) i => (((), Ri C m, (s : Int), (R : Int), i, ()), (((R : Int), (C : Int), d, ()), ()))) (fun s => .inl (((s : Int), ()), ()))
  (by
   intro k hk
   have hs := OaD (C := C) (R := R) (m := m) k (by omega)
   generalize Se (fun i s => s ||| rowN C m i <<< (i * C)) k 0 = s at *
   have hlen : Nat.beq 4 (ja (Ri C m)) = true := rfl
   simp only [SC]
   rw [Aa (show (k : Int) < (R : Int) by omega), hlen, Oaw (show k < 4 by omega)]
   simp only [jn, cond_true]
   rw [WW (show k < 4 by omega)]
   simp only [jb]
   rw [Cau h hs hk (YM C m k), LO h (by omega), Aa (Int.natCast_nonneg _)]; rfl)
  (by
   simp only [SC]
   rw [Ba (by omega)]; rfl)
 rw [Raw hm] at this
 exact this
theorem Tad {C R m : Nat} (hm : m < 2 ^ (R * C)) : Ro C R m < 2 ^ (R * C) := Wap hm R (jo _)
theorem Mac {C R m : Nat} (h : BI C R) (d : Bool) (hm : m < 2 ^ (R * C)) : CB ((R : Int), (C : Int), d, ()) (m : Int) = some (((cond d m (Ro C R m) : Nat) : Int), ()) := by
 unfold CB
 cases d with
 | true => rfl
 | false =>
  simp only [cond_false]
  rw [Uas h false hm]
  simp only [jb, qk]
  rw [Aaq h false hm]
  simp only [jb, qk]
  rw [Vas h false (Tad hm)]
  rfl
def Xn (M : Zd) (x : Int) : Int := ((cond M.2.2.1 x.toNat (Ro M.2.1.toNat M.1.toNat x.toNat) : Nat) : Int)
theorem FH {M : Zd} {x : Int} (h : Yc M x = true) : ∃ C R m : Nat, ∃ d : Bool, M = ((R : Int), (C : Int), d, ()) ∧ x = (m : Int) ∧ BI C R ∧ m < 2 ^ (R * C) := by
 obtain ⟨r, c, d, u⟩ := M
 simp only [Yc, jd, Ff, decide_eq_true_eq] at h
 have hm := h.1
 simp only [Fg, decide_eq_true_eq] at hm
 obtain ⟨R, rfl⟩ := jv (show 0 ≤ r by omega)
 obtain ⟨C, rfl⟩ := jv (show 0 ≤ c by omega)
 obtain ⟨m, rfl⟩ := jv h.2.1
 refine ⟨C, R, m, d, rfl, rfl, ⟨by omega, by omega, by omega, by omega⟩, ?_⟩
 have hk : Dd ((R : Int), (C : Int), d, u) = ((R * C : Nat) : Int) := by
  unfold Dd; rw [h.1]; simp
 rw [hk, jn] at h
 exact Int.ofNat_lt.1 h.2.2
theorem OT {C R m : Nat} {d : Bool} (h : BI C R) (hm : m < 2 ^ (R * C)) : Yc ((R : Int), (C : Int), d, ()) (m : Int) = true := by
 have h1 := h.c1; have h2 := h.c2; have h3 := h.r1; have h4 := h.r2
 have hM : Fg ((R : Int), (C : Int), d, ()) = true := by simp only [Fg, decide_eq_true_eq]; omega
 have hk : Dd ((R : Int), (C : Int), d, ()) = ((R * C : Nat) : Int) := by
  unfold Dd; rw [hM]; simp
 simp only [Yc, hM, hk, Ff, jn, jk, decide_eq_true_eq]
 exact ⟨Int.natCast_nonneg _, Int.ofNat_lt.2 hm⟩
theorem XM {C R m : Nat} {d : Bool} : Xn ((R : Int), (C : Int), d, ()) (m : Int) = ((cond d m (Ro C R m) : Nat) : Int) := by
 unfold Xn
 simp only [jn]
theorem I6 {M : Zd} {x : Int} (h : Yc M x = true) : CB M x = some (Xn M x, ()) := by
 obtain ⟨C, R, m, d, rfl, rfl, hd, hm⟩ := FH h
 rw [Mac hd d hm, XM]
theorem D7 {M : Zd} {x : Int} (h : Yc M x = true) : Qr M x = some (Xn M x, ()) := by
 obtain ⟨C, R, m, d, rfl, rfl, hd, hm⟩ := FH h
 rw [Cae hd d hm, XM]
theorem Gau {M : Zd} {x : Int} (h : Yc M x = true) : Yc M (Xn M x) = true := by
 obtain ⟨C, R, m, d, rfl, rfl, hd, hm⟩ := FH h
 rw [XM]
 cases d with
 | true => exact OT hd hm
 | false => exact OT hd (Tad hm)
def Wi (M : Zd) (x : Int) : Bool := Yc M x && (Xn M x == x)
theorem SD (M : Zd) (x : Int) : Fn M x = some (Wi M x, ()) := by
 unfold Fn Wi
 rw [Nt]
 cases h : Yc M x with
 | false => rfl
 | true => simp only [jb, cond_true, jk]; rw [I6 h]; rfl
theorem Us (M : Zd) (x : Int) : Kn M x = some (Wi M x, ()) := by
 unfold Kn Wi
 rw [Gu]
 cases h : Yc M x with
 | false => rfl
 | true => simp only [jb, cond_true, jk]; rw [D7 h]; rfl
theorem CX (M : Zd) (x : Int) : Zz M x = some (cond (Yc M x) (Xn M x) 0, Yc M x, ()) := by
 unfold Zz
 rw [Gu]
 cases h : Yc M x with
 | false => rfl
 | true => simp only [jb, jg, cond_false, cond_true]; rw [D7 h]; rfl
theorem L7 {M : Zd} {x : Int} {k : Nat} (h : Yc M x = true) (hk : k ≤ 62) : Yc M (Jb .i64 x (Sa .i64 1 (k : Int))) = true := by
 obtain ⟨C, R, m, d, rfl, rfl, hd, hm⟩ := FH h
 rw [Ek hk, AW (YO hd hm) (Ni hk)]
 exact OT hd (qq hm (Nat.lt_of_le_of_lt Nat.and_le_left hm))
def H0 (M : Zd) (x : Int) (k : Nat) : Bool := (Bd x (k : Int) == 1) && (Xn M (Jb .i64 x (Sa .i64 1 (k : Int))) == x)
theorem Var {x : Nat} {k : Nat} (hx : x < 2 ^ 63) (hk : k ≤ 64) : Bd (x : Int) (k : Int) = 0 ∨ Bd (x : Int) (k : Int) = 1 := by
 unfold Bd
 have h1 : x >>> k ≤ x := by rw [Nat.shiftRight_eq_div_pow]; exact Nat.div_le_self _ _
 rw [YT x hk]
 show Wa .i64 ((x >>> k : Nat) : Int) ((1 : Nat) : Int) = _ ∨ Wa .i64 ((x >>> k : Nat) : Int) ((1 : Nat) : Int) = _
 rw [XK (by omega) (by decide), Nat.and_one_is_mod]
 omega
theorem Lab {M : Zd} {x : Int} {k : Nat} (h : Yc M x = true) (hk : k ≤ 64) : (Bd x (k : Int) == 0) = !(Bd x (k : Int) == 1) := by
 obtain ⟨C, R, m, d, rfl, rfl, hd, hm⟩ := FH h
 rcases Var (YO hd hm) hk with h | h <;> rw [h] <;> rfl
theorem HY {M : Zd} {x : Int} (h : Wi M x = true) : Yc M x = true ∧ 1 ≤ Dd M ∧ Dd M ≤ 24 := by
 simp only [Wi, jd] at h
 have h2 := h.1
 simp only [Yc, jd] at h2
 exact ⟨h.1, Qaa h2.1⟩
theorem CV {M : Zd} {x : Int} (h : Wi M x = true) {k : Nat} (hk : (k : Int) < Dd M) :
 ∃ y, Cv M x (k : Int) = some (y, H0 M x k, ()) := by
 have hm := HY h
 unfold Cv H0
 rw [SD, h, Hv]
 simp only [jb, jg, cond_false]
 rw [Ba (show ¬ (k : Int) < 0 by omega), Ba (show ¬ (k : Int) ≥ Dd M by omega), Aa (show 0 ≤ (k : Int) by omega)]
 simp only [cond_false, cond_true]
 have hb := Lab (k := k) hm.1 (by omega)
 unfold Bd at hb ⊢
 rw [hb]
 cases Wa .i64 (Yb .i64 x (k : Int)) 1 == 1 with
 | false => exact ⟨_, rfl⟩
 | true =>
  simp only [jg, cond_false, jk]
  rw [I6 (L7 hm.1 (by omega))]
  simp only [jb, bne]
  cases Xn M (Jb .i64 x (Sa .i64 1 (k : Int))) == x <;> exact ⟨_, rfl⟩
theorem HV {M : Zd} {x : Int} (h : Wi M x = true) {k : Nat} (hk : (k : Int) < Dd M) :
 ∃ y, Yv M x (k : Int) = some (y, H0 M x k, ()) := by
 have hm := HY h
 unfold Yv H0
 rw [Us, h, Gk]
 simp only [jb, jg, cond_false, Vc]
 rw [Tg (by omega) (by omega), Aa (show 0 ≤ (k : Int) ∧ (k : Int) ≤ Dd M - 1 by omega), Aa (show 0 ≤ (k : Int) by omega)]
 simp only [cond_false, cond_true, jg]
 have hb := Lab (k := k) hm.1 (by omega)
 unfold Bd at hb ⊢
 rw [hb]
 cases Wa .i64 (Yb .i64 x (k : Int)) 1 == 1 with
 | false => exact ⟨_, rfl⟩
 | true =>
  simp only [jg, cond_false, jk]
  rw [D7 (L7 hm.1 (by omega))]
  simp only [jb, bne]
  cases Xn M (Jb .i64 x (Sa .i64 1 (k : Int))) == x <;> exact ⟨_, rfl⟩
def VO (M : Zd) (x : Int) (k : Nat) (s : Int) : Int := cond ((Bd x (k : Int) == 1) && !H0 M x k) (Oc .i64 s (Sa .i64 1 (k : Int))) s
def NV (M : Zd) (x : Int) : Int := cond (Wi M x) (Se (VO M x) (Dd M).toNat 0) 0
theorem OY (M : Zd) (x : Int) : NC M x = some (NV M x, ()) := by
 unfold NC NV
 rw [SD]
 cases h : Wi M x with
 | false => rfl
 | true =>
  have hm := HY h
  obtain ⟨n, hn⟩ := jv (show 0 ≤ Dd M by omega)
  have hl := Nh (step := fun y => Pp y.1.1 y.1.2.1 y.1.2.2.1 y.1.2.2.2.1 y.1.2.2.2.2.1 y.2.1) n (by omega) (VO M x) 0 (fun s i => ((x, (), s, (n : Int), i, ()), (M, ()))) (fun s => .inl ((s, ()), ()))
   (by
    intro k hk
    generalize Se (VO M x) k 0 = s
    obtain ⟨y, hy⟩ := CV h (k := k) (by omega)
    simp only [Pp]
    rw [Aa (show (k : Int) < (n : Int) by omega), Aa (show 0 ≤ (k : Int) by omega), hy]
    simp only [cond_true, jb, VO, Bd]
    cases Wa .i64 (Yb .i64 x (k : Int)) 1 == 1 <;> cases H0 M x k <;> rfl)
   (by
    simp only [Pp]
    rw [Ba (by omega)]; rfl)
  rw [Hv, hn]
  simp only [jb, jg, cond_false, cond_true, jn]
  unfold Jt
  erw [hl]
  rfl
theorem XY (M : Zd) (x : Int) : GD M x = some (NV M x, ()) := by
 unfold GD NV
 cases h : Wi M x with
 | false =>
  unfold Ml
  have hs : Bj x () 0 0 M = some (.inr (.inl ((0, ()), ()))) := by
   unfold Bj
   rw [Gk, Us, h]
   simp only [jb, cond_false]
   cases decide (0 < Dd M) <;> rfl
  rw [Oe hs]
  rfl
 | true =>
  have hm := HY h
  obtain ⟨n, hn⟩ := jv (show 0 ≤ Dd M by omega)
  have hl := Nh (step := fun y => Bj y.1.1 y.1.2.1 y.1.2.2.1 y.1.2.2.2.1 y.2.1) n (by omega) (VO M x) 0 (fun s i => ((x, (), s, i, ()), (M, ()))) (fun s => .inl ((s, ()), ()))
   (by
    intro k hk
    generalize Se (VO M x) k 0 = s
    obtain ⟨y, hy⟩ := HV h (k := k) (by omega)
    simp only [Bj]
    rw [Gk, Us, h, hn]
    simp only [jb]
    rw [Aa (show (k : Int) < (n : Int) by omega), Aa (show 0 ≤ (k : Int) by omega), hy]
    simp only [cond_true, jb, VO, Bd]
    cases Wa .i64 (Yb .i64 x (k : Int)) 1 == 1 <;> cases H0 M x k <;> rfl)
   (by
    simp only [Bj]
    rw [Gk, hn]
    simp only [jb]
    rw [Ba (by omega)]; rfl)
  rw [hn, jn]
  unfold Ml
  erw [hl]
  rfl
def Eab (M : Zd) (old x : Int) : Int := Wa .i64 x (Oc .i64 old (NV M x))
def SO (M : Zd) (old x : Int) : Bool := Yc M old && Wi M x
theorem B6 (M : Zd) (old x : Int) : Np M old x = some (cond (SO M old x) (Eab M old x) 0, SO M old x, ()) := by
 unfold Np SO
 rw [Nt, SD, OY]
 cases Yc M old <;> cases Wi M x <;> rfl
theorem U6 (M : Zd) (old x : Int) : Kq M old x = some (cond (SO M old x) (Eab M old x) 0, SO M old x, ()) := by
 unfold Kq SO
 rw [Gu, Us, XY]
 cases Yc M old <;> cases Wi M x <;> rfl
theorem Xav {M : Zd} {x : Int} (h : Yc M x = true) (y : Int) : Yc M (Wa .i64 x y) = true := by
 obtain ⟨C, R, m, d, rfl, rfl, hd, hm⟩ := FH h
 have hm63 := YO hd hm
 have e : Wa .i64 (m : Int) y = ((m &&& (BitVec.ofInt 64 y).toNat : Nat) : Int) := by
  have h2 : (BitVec.ofInt (IntKind.bits .i64) (m : Int) &&& BitVec.ofInt (IntKind.bits .i64) y).toNat = m &&& (BitVec.ofInt 64 y).toNat := by
   rw [BitVec.toNat_and]; erw [KI hm63]; rfl
  unfold Wa
  rw [h2]
  have h3 : m &&& (BitVec.ofInt 64 y).toNat ≤ m := Nat.and_le_left
  have h4 := GK
  exact Tg (by omega) (by omega)
 rw [e]
 exact OT hd (Nat.lt_of_le_of_lt Nat.and_le_left hm)
theorem Vav {M : Zd} {old x : Int} (h : SO M old x = true) : Yc M (Eab M old x) = true := by
 simp only [SO, Wi, jd] at h
 exact Xav h.2.1 _
end KF
