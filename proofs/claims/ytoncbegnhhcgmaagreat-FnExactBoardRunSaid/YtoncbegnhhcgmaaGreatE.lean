/- An evaluator of Go functions on plain data, its soundness, and plain laws on what the functions compute, part 5 (conditions: as each lemma tells). -/
import Derived.Test.YtoncbegnhhcgmaaGreatD
set_option linter.unusedSimpArgs false
set_option linter.unusedVariables false
namespace KF
open Go
open List renaming length → ja, getElem?_eq_getElem → je, append → jf, mem_append → jl, mem_cons → jp, mem_cons_of_mem → jr, length_cons → jw, set → j6, length_nil → j8, length_set → j9, mem_singleton → qe, length_append → qf, getElem?_append_left → qh, getElem?_append_right → qi, getD_eq_getElem?_getD → qj, getElem_mem → qr, mem_of_mem_drop → qs, getElem_of_mem → qt, mem_map → qu, getElem?_set_self → qv, length_drop → qw, mem_cons_self → qy
open Option renaming bind_some → jb, bind → jz, map_some → qd, bind_eq_some_iff → qg
open Option.some renaming injEq → jc
open Bool renaming and_eq_true → jd, not_true → jg, true_and → jk, false_eq_true → jq, not_false → qa, not_eq_true → qb, false_and → qp, eq_iff_iff → qx
open Prod.mk renaming injEq → jh
open Nat renaming ble_eq_true_of_le → ji, mul_le_mul_right → jm, le_refl → jo, zero_add → js, add_assoc → jt, eq_of_beq_eq_true → ju, ble → jx, le_trans → qc, lt_of_lt_of_le → ql, pow_le_pow_right → qm, testBit_xor → qn, testBit_two_pow → qo, xor_lt_two_pow → qq
open Int renaming toNat_natCast → jn, eq_ofNat_of_zero_le → jv, toNat → jy
open Go.IntKind renaming wrap → j5
open Sum renaming elim → j7, elim_inl → qk
open Result renaming andThen_ok → qz
open Sem renaming run_bind → q0
def Sd (k c m n : Int) : Prop :=
 ((k = 0 ∨ k = 1 ∨ k = 10) ∧ c = 0 ∧ m = 0 ∧ n = 0) ∨
 (k = 2 ∧ n = 0 ∧ (c = 0 ∨ 1 ≤ c ∧ c ≤ 56) ∧ (m = 0 ∨ 1 ≤ m ∧ m ≤ 15) ∧ (c ≠ 0 ∨ m ≠ 0)) ∨
 ((k = 3 ∨ k = 4) ∧ c = 0 ∧ m = 0 ∧ 1 ≤ n ∧ n ≤ 3) ∨
 ((k = 5 ∨ k = 9) ∧ c = 0 ∧ m = 0 ∧ 0 ≤ n ∧ n ≤ 3) ∨
 (k = 6 ∧ 1 ≤ c ∧ c ≤ 56 ∧ 1 ≤ m ∧ m ≤ 15 ∧ n = 0) ∨
 (k = 7 ∧ 1 ≤ c ∧ c ≤ 56 ∧ m = 0 ∧ 1 ≤ n ∧ n ≤ 3) ∨
 (k = 8 ∧ c = 0 ∧ 1 ≤ m ∧ m ≤ 15 ∧ n = 0)
noncomputable def Id (a : Bb) : Bool := open Classical in decide (Sd a.1 a.2.1 a.2.2.1 a.2.2.2.1)
theorem Ic (a : Bb) : Id a = true ↔ Sd a.1 a.2.1 a.2.2.1 a.2.2.2.1 := by simp [Id]
theorem TS (c : Int) : Jy c = some (decide (1 ≤ c ∧ c ≤ 56), ()) := by
 simp only [Jy, Ei, Fi]
 apply Wc; simp only [Rd, decide_eq_true_eq, XT, YT, jq, and_false, false_and, or_false, false_or, and_true, true_and, not_true_eq_false, not_false_eq_true]; try omega
theorem US (c : Int) : Pr c = some (decide (1 ≤ c ∧ c ≤ 15), ()) := by
 simp only [Pr, Ei, Fi]
 apply Wc; simp only [Rd, decide_eq_true_eq, XT, YT, jq, and_false, false_and, or_false, false_or, and_true, true_and, not_true_eq_false, not_false_eq_true]; try omega
theorem CR (c : Int) : Yt c = some (decide (1 ≤ c ∧ c ≤ 3), ()) := by
 simp only [Yt, Ei, Fi]
 apply Wc; simp only [Rd, decide_eq_true_eq, XT, YT, jq, and_false, false_and, or_false, false_or, and_true, true_and, not_true_eq_false, not_false_eq_true]; try omega
theorem Xc (c a b : Int) : Cc c a b = some (decide (a ≤ c ∧ c ≤ b), ()) := by
 simp only [Cc, Ei, Fi]
 apply Wc; simp only [Rd, decide_eq_true_eq, XT, YT, jq, and_false, false_and, or_false, false_or, and_true, true_and, not_true_eq_false, not_false_eq_true]; try omega
theorem Pv (a : Bb) : Wj a = some (Id a, ()) := by
 obtain ⟨k, c, m, n, u⟩ := a
 have key : ∀ k c m n : Int, Wj (k, c, m, n, u) = some (Id (k, c, m, n, u), ()) := by
  intro k c m n
  simp only [Wj, TS, US, CR, Xc, jb, Ei, Fi]
  by_cases h0 : k = 0
  ·subst h0; apply Wc; rw [Ic]; simp [Sd, Rd]; try omega
  by_cases h1 : k = 1
  ·subst h1; apply Wc; rw [Ic]; simp [Sd, Rd]; try omega
  by_cases h2 : k = 2
  ·subst h2; apply Wc; rw [Ic]; simp [Sd, Rd]; intro hn; (repeat' split) <;> omega
  by_cases h3 : k = 3
  ·subst h3; apply Wc; rw [Ic]; simp [Sd, Rd]; try omega
  by_cases h4 : k = 4
  ·subst h4; apply Wc; rw [Ic]; simp [Sd, Rd]; try omega
  by_cases h5 : k = 5
  ·subst h5; apply Wc; rw [Ic]; simp [Sd, Rd]; try omega
  by_cases h6 : k = 6
  ·subst h6; apply Wc; rw [Ic]; simp [Sd, Rd]; try omega
  by_cases h7 : k = 7
  ·subst h7; apply Wc; rw [Ic]; simp [Sd, Rd]; try omega
  by_cases h8 : k = 8
  ·subst h8; apply Wc; rw [Ic]; simp [Sd, Rd]; try omega
  by_cases h9 : k = 9
  ·subst h9; apply Wc; rw [Ic]; simp [Sd, Rd]; try omega
  by_cases h10 : k = 10
  ·subst h10; apply Wc; rw [Ic]; simp [Sd, Rd]; try omega
  have g : ∀ j : Int, (k == j) = decide (k = j) := fun j => by rw [qx]; simp
  apply Wc; rw [Ic]; simp [Sd, Rd, h0, h1, h2, h3, h4, h5, h6, h7, h8, h9, h10]
 exact key k c m n
theorem Mw (a : Bb) : Zj a = some (Id a, ()) := by
 obtain ⟨k, c, m, n, u⟩ := a
 have key : ∀ k c m n : Int, Zj (k, c, m, n, u) = some (Id (k, c, m, n, u), ()) := by
  intro k c m n
  simp only [Zj, TS, US, CR, Xc, jb, Ei, Fi]
  by_cases h0 : k = 0
  ·subst h0; apply Wc; rw [Ic]; simp [Sd, Rd]; try omega
  by_cases h1 : k = 1
  ·subst h1; apply Wc; rw [Ic]; simp [Sd, Rd]; try omega
  by_cases h2 : k = 2
  ·subst h2; apply Wc; rw [Ic]; simp [Sd, Rd]; intro hn; (repeat' split) <;> omega
  by_cases h3 : k = 3
  ·subst h3; apply Wc; rw [Ic]; simp [Sd, Rd]; try omega
  by_cases h4 : k = 4
  ·subst h4; apply Wc; rw [Ic]; simp [Sd, Rd]; try omega
  by_cases h5 : k = 5
  ·subst h5; apply Wc; rw [Ic]; simp [Sd, Rd]; try omega
  by_cases h6 : k = 6
  ·subst h6; apply Wc; rw [Ic]; simp [Sd, Rd]; try omega
  by_cases h7 : k = 7
  ·subst h7; apply Wc; rw [Ic]; simp [Sd, Rd]; try omega
  by_cases h8 : k = 8
  ·subst h8; apply Wc; rw [Ic]; simp [Sd, Rd]; try omega
  by_cases h9 : k = 9
  ·subst h9; apply Wc; rw [Ic]; simp [Sd, Rd]; try omega
  by_cases h10 : k = 10
  ·subst h10; apply Wc; rw [Ic]; simp [Sd, Rd]; try omega
  have g : ∀ j : Int, (k == j) = decide (k = j) := fun j => by rw [qx]; simp
  apply Wc; rw [Ic]; simp [Sd, Rd, h0, h1, h2, h3, h4, h5, h6, h7, h8, h9, h10]
 exact key k c m n
noncomputable def Gk (nl : Nat) (i : Nat) (a : Bb) : Bool := Id a && !(((i : Int) == 0) && (a.1 == 1)) && !((a.1 != 9) && decide (a.2.2.2.1 ≥ (nl : Int)))
noncomputable def Fo (keys : Int) (nl : Nat) (i : Nat) (l : List Bb) : Bool := ((ja l : Int) == keys) && Yd (fun _ a => Gk nl i a) 0 l
noncomputable def Lh (m : Tb) : Bool :=
 decide (1 ≤ m.1 ∧ m.1 ≤ 32) && decide (1 ≤ m.2.1.length ∧ m.2.1.length ≤ 4) && Yd (fun i l => Fo m.1 m.2.1.length i l) 0 m.2.1
theorem E2 (m : Tb) (i : Nat) (l : List Bb) (L : List (List Bb)) (n : Int) (t : Int) (hl : l.length < 9223372036854775807) :
 Rm (((), (i : Int), L, n, t, l, (l.length : Int), (0 : Int), ()), (m, ())) =
  some (cond (Yd (fun _ a => Gk m.2.1.length i a) 0 l) (.inl (((), L, n, t, ()), (m, ()))) (.inr ((false, ()), ()))) := by
 unfold Rm
 refine Bf (step := _) l (fun _ a => Gk m.2.1.length i a) (fun j => (((), (i : Int), L, n, t, l, (l.length : Int), j, ()), (m, ()))) _ _ ?_ ?_ hl
 ·intro k hk
  simp only [JE]
  rw [Aa (show (k : Int) < (l.length : Int) by omega), Kb hk]
  simp only [cond_true, jb, Gk, Pv]
  cases Id l[k] <;> cases ((i : Int) == 0) <;> cases (l[k].1 == 1) <;> cases (l[k].1 != 9) <;> cases decide (l[k].2.2.2.1 ≥ (m.2.1.length : Int)) <;> rfl
 ·simp [JE]
theorem RP (m : Tb) (hz : Ja Vb m ≤ Ea) : Mx m = some (Lh m, ()) := by
 have h20 : Ea = 1048576 := rfl
 have hz' : m.2.1.length + (List.map (Ja (.sl Qb)) m.2.1).sum ≤ Ea := by
  have : Ja Vb m = Ja (.sl (.sl Qb)) m.2.1 := by simp only [Ja, Nat.add_zero, js]
  rw [this] at hz; exact hz
 have hl : ∀ k (hk : k < m.2.1.length), m.2.1[k].length ≤ Ea := by
  intro k hk
  have := Cx (f := Ja (.sl Qb)) hk
  have h2 : m.2.1[k].length ≤ Ja (.sl Qb) m.2.1[k] := Nat.le_add_right _ _
  omega
 have hloop : Qm (((), m.2.1, ((ja m.2.1 : Nat) : Int), (0 : Int), ()), (m, ())) =
  some (cond (Yd (fun i l => Fo m.1 m.2.1.length i l) 0 m.2.1) (.inl ((), ())) (.inr ((false, ()), ()))) := by
  unfold Qm
  refine Bf (step := _) m.2.1 (fun i l => Fo m.1 m.2.1.length i l) (fun j => (((), m.2.1, ((ja m.2.1 : Nat) : Int), j, ()), (m, ()))) _ _ ?_ ?_ (by omega)
  ·intro k hk
   have := hl k hk
   simp only [IE]
   rw [Aa (show (k : Int) < (m.2.1.length : Int) by omega), Kb hk]
   simp only [cond_true, jb, Fo]
   rw [E2 m k _ _ _ _ (by omega)]
   show (cond (!((m.2.1[k].length : Int) == m.1)) _ _) = _
   cases ((m.2.1[k].length : Int) == m.1) <;> cases Yd (fun _ a => Gk m.2.1.length k a) 0 m.2.1[k] <;> rfl
  ·simp [IE]
 unfold Mx
 rw [hloop]
 simp only [jb, J8, Ei, Fi]
 apply Wc
 simp only [Rd, Lh, jd, decide_eq_true_eq, jq, and_false, false_or, and_true, or_false]
 generalize Yd (fun i l => Fo m.1 m.2.1.length i l) 0 m.2.1 = b
 constructor
 ·rintro ⟨h1, h2, h3, h4, h5⟩; exact ⟨⟨by omega, by omega⟩, h5⟩
 ·rintro ⟨⟨h1, h2⟩, h5⟩; exact ⟨by omega, by omega, by omega, by omega, h5⟩
theorem H3 (m : Tb) (i : Nat) (hi : i < m.2.1.length) (hl : m.2.1[i].length < 9223372036854775807) :
 En (((), (i : Int), (0 : Int), ()), (m, ())) =
  some (cond (Yd (fun _ a => Gk m.2.1.length i a) 0 m.2.1[i]) (.inl (((), (i : Int), ()), (m, ()))) (.inr ((false, ()), ()))) := by
 unfold En
 refine Bf (step := _) m.2.1[i] (fun _ a => Gk m.2.1.length i a) (fun j => (((), (i : Int), j, ()), (m, ()))) _ _ ?_ ?_ hl
 ·intro k hk
  simp only [UE]
  rw [Kb hi]
  simp only [jb]
  rw [Aa (show (k : Int) < (m.2.1[i].length : Int) by omega), Kb hk]
  simp only [cond_true, jb, Gk, Mw]
  cases Id m.2.1[i][k] <;> cases ((i : Int) == 0) <;> cases (m.2.1[i][k].1 == 1) <;> cases (m.2.1[i][k].1 != 9) <;> cases decide (m.2.1[i][k].2.2.2.1 ≥ (m.2.1.length : Int)) <;> rfl
 ·simp [UE, Kb hi]
theorem IQ (m : Tb) (hz : Ja Vb m ≤ Ea) : Yx m = some (Lh m, ()) := by
 have h20 : Ea = 1048576 := rfl
 have hz' : m.2.1.length + (List.map (Ja (.sl Qb)) m.2.1).sum ≤ Ea := by
  have : Ja Vb m = Ja (.sl (.sl Qb)) m.2.1 := by simp only [Ja, Nat.add_zero, js]
  rw [this] at hz; exact hz
 have hl : ∀ k (hk : k < m.2.1.length), m.2.1[k].length ≤ Ea := by
  intro k hk
  have := Cx (f := Ja (.sl Qb)) hk
  have h2 : m.2.1[k].length ≤ Ja (.sl Qb) m.2.1[k] := Nat.le_add_right _ _
  omega
 have hloop : Dn (((), (0 : Int), ()), (m, ())) =
  some (cond (Yd (fun i l => Fo m.1 m.2.1.length i l) 0 m.2.1) (.inl (((), ()), (m, ()))) (.inr ((false, ()), ()))) := by
  unfold Dn
  refine Bf (step := _) m.2.1 (fun i l => Fo m.1 m.2.1.length i l) (fun j => (((), j, ()), (m, ()))) _ _ ?_ ?_ (by omega)
  ·intro k hk
   have := hl k hk
   simp only [TE]
   rw [Aa (show (k : Int) < (m.2.1.length : Int) by omega), Kb hk]
   simp only [cond_true, jb, Fo]
   rw [H3 m k hk (by omega)]
   show (cond (!((m.2.1[k].length : Int) == m.1)) _ _) = _
   cases ((m.2.1[k].length : Int) == m.1) <;> cases Yd (fun _ a => Gk m.2.1.length k a) 0 m.2.1[k] <;> rfl
  ·simp [TE]
 unfold Yx
 rw [hloop]
 simp only [jb, J8, Ei, Fi, Xc]
 apply Wc
 simp only [Rd, Lh, jd, decide_eq_true_eq, jq, and_false, false_or, and_true, or_false]
 generalize Yd (fun i l => Fo m.1 m.2.1.length i l) 0 m.2.1 = b
 constructor
 ·rintro ⟨h1, h2, h3⟩; exact ⟨⟨by omega, by omega⟩, h1⟩
 ·rintro ⟨⟨h1, h2⟩, h5⟩; exact ⟨h5, by omega, by omega⟩
theorem Lk {n : Nat} (h : n ≤ 62) : Ta .i64 1 (n : Int) = ((2 ^ n : Nat) : Int) := by
 unfold Ta
 have h1 : min (jy (n : Int)) (IntKind.bits .i64) = n := by
  show min (jy (n : Int)) 64 = n
  rw [jn]; omega
 rw [h1, Int.one_mul]
 have h2 : (2 : Int) ^ n = ((2 ^ n : Nat) : Int) := by simp
 have h3 : 2 ^ n ≤ 2 ^ 62 := qm (by omega) h
 rw [h2]
 clear h1 h2
 generalize 2 ^ n = z at h3
 rw [Vg (by omega) (by omega)]
structure AL (m : Tb) : Prop where
 k1 : 1 ≤ m.1
 k2 : m.1 ≤ 32
 l1 : 1 ≤ m.2.1.length
 l2 : m.2.1.length ≤ 4
 row : ∀ i (h : i < m.2.1.length), (m.2.1[i].length : Int) = m.1
 act : ∀ i (h : i < m.2.1.length) k (hk : k < m.2.1[i].length), Gk m.2.1.length i m.2.1[i][k] = true
theorem Aj {m : Tb} (h : Lh m = true) : AL m := by
 simp only [Lh, jd, decide_eq_true_eq] at h
 obtain ⟨⟨h1, h2⟩, h3⟩ := h
 rw [DB] at h3
 refine ⟨h1.1, h1.2, h2.1, h2.2, fun i hi => ?_, fun i hi k hk => ?_⟩
 ·have := h3 i hi
  simp only [js, Fo, jd, beq_iff_eq] at this
  exact this.1
 ·have := h3 i hi
  simp only [js, Fo, jd, beq_iff_eq] at this
  have := DB.1 this.2 k hk
  simpa using this
theorem MX {nl i : Nat} {a : Bb} (h : Gk nl i a = true) : Id a = true := by
 simp only [Gk, jd] at h
 exact h.1.1
theorem DZ {nl i : Nat} {a : Bb} (h : Gk nl i a = true) (hk : a.1 ≠ 9) : a.2.2.2.1 < (nl : Int) := by
 simp only [Gk, jd, Bool.not_eq_true', Bool.and_eq_false_iff] at h
 rcases h.2 with h | h
 ·simp at h; exact absurd h hk
 ·simpa using h
def Bd (m k : Int) : Int := Wa .i64 (Zb .i64 m k) 1
theorem Uk (m : Int) {k : Int} (h : 0 ≤ k) : Le m k = some (Bd m k, ()) := by
 unfold Le
 rw [Aa h]; rfl
def Cbb : Bb := (0, 0, 0, 0, ())
def Rk (L : List (List Bb)) (i k : Nat) : Bb := (L.getD i []).getD k Cbb
theorem E1 {L : List (List Bb)} {i k : Nat} (hi : i < L.length) (hk : k < L[i].length) : Rk L i k = L[i][k] := by
 simp [Rk, qj, hi, hk]
theorem Cad {α : Type} {L : List (List Bb)} {i k : Nat} (hi : i < L.length) (hk : k < L[i].length) (K : Bb → Option α) :
 (jz (Ab L (i : Int)) fun x => jz (Ab x (k : Int)) K) = K (Rk L i k) := by
 rw [Kb hi]
 simp only [jb]
 rw [Kb hk, E1 hi hk]
 rfl
def Yf (L : List (List Bb)) (on : Int) (k : Nat) : Nat → Nat
 | 0 => 0
 | n + 1 => cond ((Bd on ((n + 1 : Nat) : Int) == 1) && ((Rk L (n + 1) k).1 != 1)) (n + 1) (Yf L on k n)
theorem HX {L : List (List Bb)} {on : Int} {k : Nat} : ∀ n, Yf L on k n ≤ n
 | 0 => jo _
 | n + 1 => by
  simp only [Yf]
  cases ((Bd on ((n + 1 : Nat) : Int) == 1) && ((Rk L (n + 1) k).1 != 1)) with
  | true => exact jo _
  | false => exact Nat.le_succ_of_le (HX n)
theorem ER {m : Tb} (hm : AL m) (on : Int) {k : Nat} (hk : (k : Int) < m.1) : ∀ n : Nat, n < m.2.1.length →
 Ji ((on, (k : Int), (), (n : Int), ()), (m, ())) = some (cond (Yf m.2.1 on k n == 0) (.inl ((), ())) (.inr ((((Yf m.2.1 on k n : Nat) : Int), ()), ())))
 | 0, _ => by
  unfold Ji
  rw [EK]
  rfl
 | n + 1, h => by
  have hrow := hm.row (n + 1) h
  unfold Ji
  rw [EK]
  simp only [TP]
  rw [Aa (show (((n + 1 : Nat) : Int)) > 0 by omega), Uk on (show (0 : Int) ≤ ((n + 1 : Nat) : Int) by omega)]
  simp only [cond_true, jb]
  rw [Cad h (by omega), Vg (by have := hm.l2; omega) (by have := hm.l2; omega), show (((n + 1 : Nat) : Int) - 1) = (n : Int) by omega]
  have ih := ER hm on hk n (by omega)
  unfold Ji at ih
  simp only [Yf]
  cases h1 : (Bd on ((n + 1 : Nat) : Int) == 1) with
  | false =>
   simp only [qp, cond_false, jb, qk]
   exact ih
  | true =>
   cases h2 : ((Rk m.2.1 (n + 1) k).1 != 1) with
   | true => rfl
   | false =>
    simp only [Bool.and_false, cond_true, cond_false, jb, qk]
    exact ih
theorem DR {m : Tb} (hm : AL m) (on : Int) {k : Nat} (hk : (k : Int) < m.1) :
 PB m on (k : Int) = some (((Yf m.2.1 on k (m.2.1.length - 1) : Nat) : Int), ()) := by
 have h1 := hm.l1
 have h2 := hm.l2
 unfold PB
 rw [Vg (by omega) (by omega), show ((m.2.1.length : Int) - 1) = ((m.2.1.length - 1 : Nat) : Int) by omega, ER hm on hk _ (by omega)]
 cases h : (Yf m.2.1 on k (m.2.1.length - 1) == 0) with
 | false => rfl
 | true =>
  have h' : Yf m.2.1 on k (m.2.1.length - 1) = 0 := by simpa using h
  rw [h']; rfl
theorem UR {m : Tb} (hm : AL m) (on : Int) {k : Nat} (hk : (k : Int) < m.1) : ∀ n : Nat, n < m.2.1.length →
 Ki ((on, (k : Int), (), (n : Int), ()), (m, ())) = some (cond (Yf m.2.1 on k n == 0) (.inl ((), ())) (.inr ((((Yf m.2.1 on k n : Nat) : Int), ()), ())))
 | 0, _ => by
  unfold Ki
  rw [EK]
  rfl
 | n + 1, h => by
  have hrow := hm.row (n + 1) h
  unfold Ki
  rw [EK]
  simp only [KQ]
  rw [Aa (show (((n + 1 : Nat) : Int)) > 0 by omega), Aa (show (0 : Int) ≤ ((n + 1 : Nat) : Int) by omega)]
  simp only [cond_true]
  rw [Cad h (by omega), Vg (by have := hm.l2; omega) (by have := hm.l2; omega), show (((n + 1 : Nat) : Int) - 1) = (n : Int) by omega]
  have ih := UR hm on hk n (by omega)
  unfold Ki at ih
  simp only [Yf]
  show jz (cond (Bd on ((n + 1 : Nat) : Int) == 1) _ _) _ = _
  cases h1 : (Bd on ((n + 1 : Nat) : Int) == 1) with
  | false =>
   simp only [qp, cond_false, jb, qk]
   exact ih
  | true =>
   cases h2 : ((Rk m.2.1 (n + 1) k).1 != 1) with
   | true => rfl
   | false =>
    simp only [Bool.and_false, cond_true, cond_false, jb, qk]
    exact ih
def Bj (m : Tb) (on : Int) (k : Nat) : Nat := Yf m.2.1 on k (m.2.1.length - 1)
theorem FR {m : Tb} (hm : AL m) (on : Int) (k : Nat) : Bj m on k < m.2.1.length := by
 have := HX (L := m.2.1) (on := on) (k := k) (m.2.1.length - 1)
 have := hm.l1
 unfold Bj
 omega
theorem Q5 {m : Tb} (hz : Ja Vb m ≤ Ea) (hv : Lh m = true) (on : Int) {k : Nat} (hk : (k : Int) < m.1) :
 KK m on (k : Int) = some (((Bj m on k : Nat) : Int), ()) := by
 have hm := Aj hv
 have h1 := hm.l1
 have h2 := hm.l2
 have h3 := hm.k2
 unfold KK
 rw [IQ m hz, hv, Vg (n := m.1 - 1) (by omega) (by omega)]
 simp only [jb, jg, cond_false, Xc]
 rw [Aa (show (0 : Int) ≤ (k : Int) ∧ (k : Int) ≤ m.1 - 1 by omega), Vg (by omega) (by omega), show ((m.2.1.length : Int) - 1) = ((m.2.1.length - 1 : Nat) : Int) by omega, UR hm on hk _ (by omega)]
 simp only [jg, cond_false, jb]
 show _ = some (((Yf m.2.1 on k (m.2.1.length - 1) : Nat) : Int), ())
 cases h : (Yf m.2.1 on k (m.2.1.length - 1) == 0) with
 | false => rfl
 | true =>
  have h' : Yf m.2.1 on k (m.2.1.length - 1) = 0 := by simpa using h
  rw [h']; rfl
theorem GQ {m : Tb} (hz : Ja Vb m ≤ Ea) (hv : Lh m = true) (on : Int) {k : Nat} (hk : (k : Int) < m.1) :
 Vx m on (k : Int) = some (Rk m.2.1 (Bj m on k) k, ()) := by
 have hm := Aj hv
 have hl := FR hm on k
 have hrow := hm.row _ hl
 unfold Vx
 rw [Q5 hz hv on hk]
 simp only [jb]
 rw [Ba (by omega)]
 simp only [cond_false]
 rw [Cad hl (by omega)]
noncomputable def Wf (a : Bb) : Bool := Id a && ((a.1 == 6) || (a.1 == 7))
noncomputable def ON (a : Bb) : Bb := cond (Wf a) (2, a.2.1, 0, 0, ()) a
noncomputable def NL (a : Bb) : Bb := cond (Wf a) (cond (a.1 == 6) (2, 0, a.2.2.1, 0, ()) (3, 0, 0, a.2.2.2.1, ())) a
theorem LE (a : Bb) : Pn a = some (Wf a, ()) := by
 unfold Pn Wf
 rw [Pv]
 cases Id a <;> cases (a.1 == 6) <;> rfl
theorem Dt (a : Bb) : Mk a = some (Wf a, ()) := by
 unfold Mk Wf
 rw [Mw]
 cases Id a <;> cases (a.1 == 6) <;> rfl
theorem L9 (a : Bb) : QO a = some (ON a, ()) := by
 unfold QO ON
 rw [LE]
 cases Wf a <;> rfl
theorem X9 (a : Bb) : VO a = some (ON a, ()) := by
 unfold VO ON
 rw [Dt]
 cases Wf a <;> rfl
theorem O7 (a : Bb) : VM a = some (NL a, ()) := by
 unfold VM NL
 rw [Dt]
 cases Wf a <;> cases (a.1 == 6) <;> rfl
def Ed {α : Type} (p : α → Bool) : Nat → List α → Int
 | _, [] => -1
 | k, x :: xs => cond (p x) (k : Int) (Ed p (k + 1) xs)
def Hm {α β : Type} : α ⊕ β → Bool
 | .inl _ => true
 | .inr _ => false
noncomputable def RD (s : Int) (x : Pa) : Bool := decide (0 ≤ x.1 ∧ x.1 ≤ 31) && (!(Bd s x.1 == 1) && (Id x.2.1 && (!(x.2.1.1 == 1) && (!(x.2.1.1 == 6) && !(x.2.1.1 == 7)))))
noncomputable def Gz (s : Int) (x : Pa) : Int ⊕ Unit := cond (RD s x) (.inl (Rc .i64 s (Ta .i64 1 x.1))) (.inr ())
noncomputable def Iab (l : List Pa) : Int ⊕ Unit := Nc (fun _ s x => Gz s x) 0 0 l
noncomputable def Jf (l : List Pa) : Bool := Hm (Iab l)
theorem CD (l : List Pa) (hn : l.length ≤ Ea) : Tk l = some (Jf l, ()) := by
 have h20 : Ea = 1048576 := rfl
 have hl := Ag (step := fun x => Iz x.1.1 x.1.2.1 x.1.2.2.1 x.1.2.2.2.1) l (fun _ s x => Gz s x) (fun s i => ((s, l, ((ja l : Nat) : Int), i, ()), ()))
  (fun _ => .inl ((), ())) (fun _ => .inr ((false, ()), ())) (fun _ _ => True) (by
   intro k hk s _
   refine ⟨?_, fun _ _ => trivial⟩
   simp only [Iz]
   rw [Aa (show (k : Int) < (ja l : Int) by omega), Kb hk]
   simp only [cond_true, jb]
   generalize l[k] = x
   simp only [Gz, RD, Pv, jb]
   by_cases h1 : 0 ≤ x.1
   ·rw [Ba (show ¬ x.1 < 0 by omega), Uk s h1]
    by_cases h2 : x.1 ≤ 31
    ·rw [Ba (show ¬ x.1 > 31 by omega), Aa (show 0 ≤ x.1 ∧ x.1 ≤ 31 from ⟨h1, h2⟩), Aa h1]
     simp only [jb, cond_false]
     cases Bd s x.1 == 1 <;> cases Id x.2.1 <;> cases x.2.1.1 == 1 <;> cases x.2.1.1 == 6 <;> cases x.2.1.1 == 7 <;> rfl
    ·rw [Aa (show x.1 > 31 by omega), Ba (show ¬ (0 ≤ x.1 ∧ x.1 ≤ 31) by omega)]; rfl
   ·rw [Aa (show x.1 < 0 by omega), Ba (show ¬ (0 ≤ x.1 ∧ x.1 ≤ 31) by omega)]; rfl)
  (by
   intro s _
   simp only [Iz]
   rw [Ba (by omega)]; rfl) (by omega) 0 trivial
 unfold Tk JB
 erw [hl]
 show jz (some _) _ = _
 simp only [jb, Jf, Iab]
 cases Nc (fun x s x => Gz s x) 0 0 l <;> rfl
theorem XD (l : List Pa) (hn : l.length ≤ Ea) : Sr l = some (Jf l, ()) := by
 have h20 : Ea = 1048576 := rfl
 have hl := Ag (step := fun x => KA x.1.1 x.1.2.1 x.1.2.2.1) l (fun _ s x => Gz s x) (fun s i => ((l, s, i, ()), ()))
  (fun _ => .inl ((), ())) (fun _ => .inr ((false, ()), ())) (fun _ _ => True) (by
   intro k hk s _
   refine ⟨?_, fun _ _ => trivial⟩
   simp only [KA]
   rw [Aa (show (k : Int) < (ja l : Int) by omega), Kb hk]
   simp only [cond_true, jb]
   generalize l[k] = x
   simp only [Gz, RD, Mw, Dt, Xc, jb, Wf]
   by_cases h1 : 0 ≤ x.1 ∧ x.1 ≤ 31
   ·rw [Aa h1, Aa h1.1]
    simp only [Bd]
    cases Wa .i64 (Zb .i64 s x.1) 1 == 1 <;> cases Id x.2.1 <;> cases x.2.1.1 == 1 <;> cases x.2.1.1 == 6 <;> cases x.2.1.1 == 7 <;> rfl
   ·rw [Ba h1]; rfl)
  (by
   intro s _
   simp only [KA]
   rw [Ba (by omega)]; rfl) (by omega) 0 trivial
 unfold Sr JC
 erw [hl]
 show jz (some _) _ = _
 simp only [jb, Jf, Iab]
 cases Nc (fun x s x => Gz s x) 0 0 l <;> rfl
structure Jt (x : Pa) : Prop where
 lo : 0 ≤ x.1
 hi : x.1 ≤ 31
 act : Id x.2.1 = true
 n1 : x.2.1.1 ≠ 1
 n6 : x.2.1.1 ≠ 6
 n7 : x.2.1.1 ≠ 7
theorem Bav {s : Int} {x : Pa} (h : RD s x = true) : Jt x ∧ Bd s x.1 ≠ 1 := by
 simp only [RD, jd, decide_eq_true_eq, Bool.not_eq_true', beq_eq_false_iff_ne] at h
 exact ⟨⟨h.1.1, h.1.2, h.2.2.1, h.2.2.2.1, h.2.2.2.2.1, h.2.2.2.2.2⟩, h.2.1⟩
theorem Bad : ∀ {l : List Pa} {k : Nat} {s : Int}, Hm (Nc (fun _ s x => Gz s x) k s l) = true → ∀ x ∈ l, Jt x
 | [], _, _, _, x, hx => by simp at hx
 | y :: l, k, s, h, x, hx => by
  simp only [Nc, Gz] at h
  cases hc : RD s y with
  | false => rw [hc] at h; simp [Hm] at h
  | true =>
   rw [hc] at h
   simp only [cond_true] at h
   rcases jp.1 hx with rfl | hx
   ·exact (Bav hc).1
   ·exact Bad h x hx
theorem Hn {l : List Pa} (h : Jf l = true) : ∀ x ∈ l, Jt x := Bad h
def Vs (l : List Pa) : Int := Jd (fun _ s (x : Pa) => Rc .i64 s (Ta .i64 1 x.1)) 0 0 l
theorem PH (l : List Pa) (hn : l.length ≤ Ea) (hx : ∀ x ∈ l, Jt x) : Yl l = some (Vs l, ()) := by
 have h20 : Ea = 1048576 := rfl
 have hl := (Qe (step := fun x => Ks x.1.1 x.1.2.1 x.1.2.2.1 x.1.2.2.2.1) l (fun _ s (x : Pa) => Rc .i64 s (Ta .i64 1 x.1)) (fun s i => ((s, l, ((ja l : Nat) : Int), i, ()), ()))
  (fun s => .inl ((s, ()), ())) (fun _ _ => True) (by
   intro k hk s _
   refine ⟨?_, trivial⟩
   simp only [Ks]
   rw [Aa (show (k : Int) < (ja l : Int) by omega), Kb hk]
   simp only [cond_true, jb]
   rw [Aa (hx _ (qr hk)).lo]; rfl)
  (by
   intro s _
   simp only [Ks]
   rw [Ba (by omega)]; rfl) (by omega) 0 trivial).1
 unfold Yl Xv
 erw [hl]
 rfl
theorem N4 {α β : Type} (p : β → Bool) (f : α → β) : ∀ (xs : List α) (k : Nat), Ed p k (xs.map f) = Ed (fun x => p (f x)) k xs
 | [], _ => rfl
 | x :: xs, k => by simp only [List.map_cons, Ed, N4 p f xs]
theorem Zu {α : Type} (p : α → Bool) : ∀ (xs : List α) (k : Nat), Ed p k xs = -1 ∨ ∃ j : Nat, j < xs.length ∧ Ed p k xs = ((k + j : Nat) : Int)
 | [], _ => .inl rfl
 | x :: xs, k => by
  simp only [Ed]
  cases p x with
  | true => exact .inr ⟨0, by simp, by simp⟩
  | false =>
   rcases Zu p xs (k + 1) with h | ⟨j, h1, h2⟩
   ·exact .inl h
   ·exact .inr ⟨j + 1, by simp; omega, by simp only [cond_false]; rw [h2]; omega⟩
theorem SW {α : Type} (p : α → Bool) : ∀ (xs : List α) (k : Nat), (Nc (fun k (_ : Unit) x => cond (p x) (.inr (k : Int)) (.inl ())) k () xs : Unit ⊕ Int) = if Ed p k xs = -1 then .inl () else .inr (Ed p k xs)
 | [], _ => rfl
 | x :: xs, k => by
  rcases Bool.eq_false_or_eq_true (p x) with hp | hp
  ·simp only [Nc, Ed, hp, cond_true]; rw [if_neg (by omega)]
  ·simp only [Nc, Ed, hp, cond_false]; exact SW p xs (k + 1)
theorem Ly {X R α : Type} {step : X → Option (X ⊕ R)} (xs : List α) (p : α → Bool) (I : Int → X) (no : R) (yes : Int → R)
 (h : ∀ k (hk : k < xs.length), step (I (k : Int)) = some (cond (p xs[k]) (.inr (yes (k : Int))) (.inl (I (j5 .i64 ((k : Int) + 1))))))
 (he : step (I (xs.length : Int)) = some (.inr no)) (hn : xs.length < 9223372036854775807) :
 Ua step (I 0) = some (if Ed p 0 xs = -1 then no else yes (Ed p 0 xs)) := by
 have := Ag (step := step) xs (fun k (_ : Unit) x => cond (p x) (.inr (k : Int)) (.inl ())) (fun _ i => I i) (fun _ => no) yes (fun _ _ => True) (fun k hk s _ => by
  refine ⟨?_, fun _ _ => trivial⟩
  rw [h k hk]
  cases p xs[k] <;> rfl) (fun _ _ => he) hn () trivial
 rw [this, SW]
 by_cases hc : Ed p 0 xs = -1
 ·rw [if_pos hc, if_pos hc]
 ·rw [if_neg hc, if_neg hc]
def Td (h : Pa) : Va := (h.2.1.2.1, h.2.1.2.2.1, ())
def Mi (c m : Int) (h : Pa) : Bool := (h.2.1.2.1 == c) && (h.2.1.2.2.1 == m)
theorem VS (l : List Va) (c : Va) (hn : l.length ≤ Ea) : EF l c = some (Ed (fun x => Ez Sb x c) 0 l, ()) := by
 have h20 : Ea = 1048576 := rfl
 have hl := Ly (step := fun x => Rz x.1.1 x.1.2.1 x.1.2.2.1 x.1.2.2.2.1 x.2.1) l (fun x => Ez Sb x c) (fun i => (((), l, ((ja l : Nat) : Int), i, ()), (c, ())))
  (.inl ((), ())) (fun i => .inr ((i, ()), ())) (by
   intro k hk
   simp only [Rz]
   rw [Aa (show (k : Int) < (ja l : Int) by omega), Kb hk]
   simp only [cond_true, jb]
   cases Ez Sb l[k] c <;> rfl) (by
   simp only [Rz]
   rw [Ba (by omega)]; rfl) (by omega)
 unfold EF QB
 erw [hl]
 simp only [jb]
 by_cases hc : Ed (fun x => Ez Sb x c) 0 l = -1
 ·rw [if_pos hc, hc]; rfl
 ·rw [if_neg hc]; rfl
theorem BM (l : List Pa) (x : Sc) (hn : l.length ≤ Ea) : Mn l x = some (Ed (Mi x.2.1 x.2.2.1) 0 l, ()) := by
 have h20 : Ea = 1048576 := rfl
 have hl := Ly (step := fun y => VA y.1.1 y.1.2.1 y.1.2.2.1 y.2.1) l (Mi x.2.1 x.2.2.1) (fun i => ((l, (), i, ()), (x, ())))
  (.inl ((), ())) (fun i => .inr ((i, ()), ())) (by
   intro k hk
   simp only [VA]
   rw [Aa (show (k : Int) < (ja l : Int) by omega), Kb hk]
   simp only [cond_true, jb, Mi]
   cases l[k].2.1.2.1 == x.2.1 <;> cases l[k].2.1.2.2.1 == x.2.2.1 <;> rfl) (by
   simp only [VA]
   rw [Ba (by omega)]; rfl) (by omega)
 unfold Mn TC
 erw [hl]
 simp only [jb]
 by_cases hc : Ed (Mi x.2.1 x.2.2.1) 0 l = -1
 ·rw [if_pos hc, hc]; rfl
 ·rw [if_neg hc]; rfl
theorem I5 (L : List Pa) (c m : Int) : Ed (fun x => Ez Sb x (c, m, ())) 0 (L.map Td) = Ed (Mi c m) 0 L := by
 rw [N4]
 congr 1
 funext h
 simp only [Td, Ez, Mi, Bool.and_true]
def Ih {α : Type} (l : List α) (r : Nat) : List α := jf (Eb l 0 r) (Eb l (r + 1) l.length)
theorem Y0 {α : Type} {l : List α} {r : Nat} (h : r < l.length) : (Ih l r).length = l.length - 1 := by
 simp [Ih, Eb]; omega
theorem Z0 {α β : Type} (f : α → β) (l : List α) (r : Nat) : Ih (l.map f) r = (Ih l r).map f := by
 simp [Ih, Eb, List.map_take, List.map_drop]
 rw [List.take_of_length_le (by simp)]
theorem LW {α : Type} {l : List α} {r : Nat} (h : r < l.length) : Md (ja l) 0 (r : Int) = true ∧ Md (ja l) ((r + 1 : Nat) : Int) ((ja l : Nat) : Int) = true := by
 simp only [Md, jd, decide_eq_true_eq]
 omega
theorem WE (l : List Pa) {r : Nat} (h : r < l.length) (hn : l.length ≤ Ea) : Gg l (r : Int) = some (Ih l r, ()) := by
 have h20 : Ea = 1048576 := rfl
 have hc := LW h
 unfold Gg
 rw [Hc (by omega), hc.1, hc.2]
 have e1 : jx (ja ([] : List Pa) + ja (Eb l (jy 0) (jy (r : Int)))) Sa = true := ji (by simp [Eb]; rw [Be]; omega)
 have e2 : jx (ja (jf ([] : List Pa) (Eb l (jy 0) (jy (r : Int)))) + ja (Eb l (jy ((r + 1 : Nat) : Int)) (jy ((ja l : Nat) : Int)))) Sa = true :=
  ji (by simp [Eb]; rw [Be]; omega)
 rw [e1, e2]
 simp only [cond_true]
 rfl
noncomputable def Py (x : Sc) (r : Int) : Bool := Id (2, x.2.1, x.2.2.1, 0, ()) && (((x.1 == 0) && !decide (r ≥ 0)) || (((x.1 == 1) && !decide (r ≥ 0)) || ((x.1 == 2) && decide (r ≥ 0))))
def Yh (x : Sc) : Pa := (0, (2, x.2.1, x.2.2.1, 0, ()), ())
def ZN (x : Sc) (L : List Pa) (r : Int) : List Pa := cond (x.1 == 1) (jf L [Yh x]) (cond (x.1 == 2) (Ih L r.toNat) L)
noncomputable def Iu (L : List Pa) (x : Sc) : List Pa ⊕ Unit := cond (Py x (Ed (Mi x.2.1 x.2.2.1) 0 L)) (.inl (ZN x L (Ed (Mi x.2.1 x.2.2.1) 0 L))) (.inr ())
theorem B7 {L L' : List Pa} {x : Sc} (h : Iu L x = .inl L') : L'.length ≤ L.length + 1 := by
 unfold Iu at h
 cases hc : Py x (Ed (Mi x.2.1 x.2.2.1) 0 L) with
 | false => rw [hc] at h; simp at h
 | true =>
  rw [hc] at h
  simp only [cond_true, Sum.inl.injEq] at h
  rw [← h]
  unfold ZN
  cases x.1 == 1 with
  | true => simp
  | false =>
   cases x.1 == 2 with
   | true => simp [Ih, Eb]; omega
   | false => simp
theorem Z9 (l : List Sc) (k : Nat) (hk : k < l.length) (L : List Pa) (hL : L.length ≤ k) (hn : l.length ≤ Ea) :
 Ko l L (k : Int) = some (match Iu L l[k] with | .inl L' => .inl ((l, L', j5 .i64 ((k : Int) + 1), ()), ()) | .inr _ => .inr (.inr ((false, ()), ()))) := by
 have h20 : Ea = 1048576 := rfl
 simp only [Ko]
 rw [Aa (show (k : Int) < (ja l : Int) by omega), Kb hk]
 simp only [cond_true, jb]
 rw [BM L l[k] (by omega)]
 simp only [jb, Xc, Tp, Mw, Iu, Py, ZN, Yh]
 generalize hx : l[k] = x
 generalize hr : Ed (Mi x.2.1 x.2.2.1) 0 L = r
 have hble : jx (ja L + ja [Yh x]) Sa = true := ji (by simp [Be]; omega)
 have hble' : jx (ja L + ja ([((0 : Int), ((2 : Int), x.2.1, x.2.2.1, (0 : Int), ()), ())] : List Pa)) Sa = true := hble
 have hw : decide (r ≥ 0) = true → Gg L r = some (Ih L r.toNat, ()) := by
  intro h
  rcases Zu (Mi x.2.1 x.2.2.1) L 0 with h1 | ⟨j, h1, h2⟩
  ·rw [hr] at h1; rw [h1] at h; simp at h
  ·rw [hr] at h2
   have : r = (j : Int) := by omega
   rw [this, WE L h1 (by omega)]
   simp
 by_cases k0 : x.1 = 0
 ·simp only [k0]
  cases Id ((2 : Int), x.2.1, x.2.2.1, (0 : Int), ()) <;> cases decide (r ≥ 0) <;> rfl
 by_cases k1 : x.1 = 1
 ·simp only [k1]
  rw [hble']
  cases Id ((2 : Int), x.2.1, x.2.2.1, (0 : Int), ()) <;> cases decide (r ≥ 0) <;> rfl
 by_cases k2 : x.1 = 2
 ·simp only [k2]
  cases hd : decide (r ≥ 0) with
  | false => cases Id ((2 : Int), x.2.1, x.2.2.1, (0 : Int), ()) <;> rfl
  | true =>
   rw [hw hd]
   cases Id ((2 : Int), x.2.1, x.2.2.1, (0 : Int), ()) <;> rfl
 ·have e0 : (x.1 == 0) = false := by simpa using k0
  have e1 : (x.1 == 1) = false := by simpa using k1
  have e2 : (x.1 == 2) = false := by simpa using k2
  rw [Ba (show ¬ (0 ≤ x.1 ∧ x.1 ≤ 2) by omega), e0, e1, e2]
  cases Id ((2 : Int), x.2.1, x.2.2.1, (0 : Int), ()) <;> rfl
theorem O9 (l : List Sc) (k : Nat) (hk : k < l.length) (L : List Pa) (hL : L.length ≤ k) (hn : l.length ≤ Ea) :
 Yn (L.map Td) l ((ja l : Nat) : Int) (k : Int) =
  some (match Iu L l[k] with | .inl L' => .inl ((L'.map Td, l, ((ja l : Nat) : Int), j5 .i64 ((k : Int) + 1), ()), ()) | .inr _ => .inr (.inr ((false, ()), ()))) := by
 have h20 : Ea = 1048576 := rfl
 simp only [Yn]
 rw [Aa (show (k : Int) < (ja l : Int) by omega), Kb hk]
 simp only [cond_true, jb]
 rw [VS (L.map Td) _ (by simp; omega), I5]
 simp only [jb, Pv, Iu, Py, ZN, Yh]
 generalize hx : l[k] = x
 generalize hr : Ed (Mi x.2.1 x.2.2.1) 0 L = r
 have hble : jx (ja (L.map Td) + ja ([(x.2.1, x.2.2.1, ())] : List Va)) Sa = true := ji (by simp [Be]; omega)
 have happ : jf (L.map Td) ([(x.2.1, x.2.2.1, ())] : List Va) = (jf L [((0 : Int), ((2 : Int), x.2.1, x.2.2.1, (0 : Int), ()), ())]).map Td := by
  show _ ++ _ = List.map Td (_ ++ _)
  rw [List.map_append]; rfl
 by_cases k0 : x.1 = 0
 ·simp only [k0]
  cases Id ((2 : Int), x.2.1, x.2.2.1, (0 : Int), ()) <;> cases decide (r ≥ 0) <;> rfl
 by_cases k1 : x.1 = 1
 ·simp only [k1]
  rw [hble, happ]
  cases Id ((2 : Int), x.2.1, x.2.2.1, (0 : Int), ()) <;> cases decide (r ≥ 0) <;> rfl
 by_cases k2 : x.1 = 2
 ·simp only [k2]
  rcases Zu (Mi x.2.1 x.2.2.1) L 0 with h1 | ⟨j, h1, h2⟩
  ·rw [hr] at h1
   rw [h1]
   cases Id ((2 : Int), x.2.1, x.2.2.1, (0 : Int), ()) <;> rfl
  ·rw [hr] at h2
   have hrj : r = (j : Int) := by omega
   rw [hrj]
   have hj : j < (L.map Td).length := by simpa using h1
   have hc := LW hj
   rw [Hc (k := j) (by omega), hc.1, hc.2, Ba (show ¬ (j : Int) < 0 by omega), Aa (show (j : Int) ≥ 0 by omega)]
   have e1 : jx (ja (Eb (L.map Td) (jy 0) (jy (j : Int))) + ja (Eb (L.map Td) (jy ((j + 1 : Nat) : Int)) (jy ((ja (L.map Td) : Nat) : Int)))) Sa = true :=
    ji (by simp [Eb]; rw [Be]; omega)
   have e2 : jf (Eb (L.map Td) (jy 0) (jy (j : Int))) (Eb (L.map Td) (jy ((j + 1 : Nat) : Int)) (jy ((ja (L.map Td) : Nat) : Int))) = (Ih L (jy (j : Int))).map Td := by
    rw [← Z0]
    simp [Ih]
   rw [e1, e2]
   cases Id ((2 : Int), x.2.1, x.2.2.1, (0 : Int), ()) <;> rfl
 ·have e0 : (x.1 == 0) = false := by simpa using k0
  have e1 : (x.1 == 1) = false := by simpa using k1
  have e2 : (x.1 == 2) = false := by simpa using k2
  rw [e0, e1, e2]
  cases Id ((2 : Int), x.2.1, x.2.2.1, (0 : Int), ()) <;> rfl
noncomputable def Zad (l : List Sc) : List Pa ⊕ Unit := Nc (fun _ L x => Iu L x) 0 [] l
noncomputable def Uf (l : List Sc) : Bool := decide (l.length ≤ 8) && (match Zad l with | .inl L => ((L.length : Int) == 0) | .inr _ => false)
theorem QR (l : List Sc) (hn : l.length ≤ Ea) : KC l = some (Uf l, ()) := by
 have h20 : Ea = 1048576 := rfl
 have hl := Ag (step := fun x => Ko x.1.1 x.1.2.1 x.1.2.2.1) l (fun _ L x => Iu L x) (fun L i => ((l, L, i, ()), ()))
  (fun L => .inl ((l, L, ()), ())) (fun _ => .inr ((false, ()), ())) (fun k L => L.length ≤ k) (by
   intro k hk L hL
   refine ⟨?_, fun L' h => by have := B7 h; omega⟩
   rw [Z9 l k hk L hL hn]
   cases Iu L l[k] <;> rfl) (by
   intro s _
   simp only [Ko]
   rw [Ba (by omega)]; rfl) (by omega) [] (by simp)
 unfold KC Xy
 erw [hl]
 simp only [jb, Uf, Zad]
 cases Nc (fun x L x => Iu L x) 0 [] l with
 | inl L =>
  simp only [qk]
  by_cases h : l.length ≤ 8
  ·rw [Aa (show ((ja l : Nat) : Int) ≤ 8 by omega), Aa h]; rfl
  ·rw [Ba (show ¬ ((ja l : Nat) : Int) ≤ 8 by omega), Ba h]; rfl
 | inr u => cases decide (l.length ≤ 8) <;> rfl
theorem ZQ (l : List Sc) (hn : l.length ≤ Ea) : KB l = some (Uf l, ()) := by
 have h20 : Ea = 1048576 := rfl
 unfold KB Uf
 by_cases h : l.length ≤ 8
 ·rw [Ba (show ¬ ((ja l : Nat) : Int) > 8 by omega), Aa h]
  have hl := Ag (step := fun x => Yn x.1.1 x.1.2.1 x.1.2.2.1 x.1.2.2.2.1) l (fun _ L x => Iu L x) (fun L i => ((L.map Td, l, ((ja l : Nat) : Int), i, ()), ()))
   (fun L => .inl ((L.map Td, ()), ())) (fun _ => .inr ((false, ()), ())) (fun k L => L.length ≤ k) (by
    intro k hk L hL
    refine ⟨?_, fun L' h => by have := B7 h; omega⟩
    rw [O9 l k hk L hL hn]
    cases Iu L l[k] <;> rfl) (by
    intro s _
    simp only [Yn]
    rw [Ba (by omega)]; rfl) (by omega) [] (by simp)
  unfold Sy
  erw [hl]
  simp only [Zad]
  cases Nc (fun x L x => Iu L x) 0 [] l with
  | inl L =>
   show some _ = some _
   simp only [List.length_map]
   rfl
  | inr u => rfl
 ·rw [Aa (show ((ja l : Nat) : Int) > 8 by omega), Ba h]; rfl
noncomputable def Kp (keys : Int) (nl : Nat) (x : Pa) : Bool := !decide (x.1 ≥ keys) && !((x.2.1.1 != 9) && decide (x.2.1.2.2.2.1 ≥ (nl : Int)))
noncomputable def Yi (e : Gb) : Bool :=
 Lh e.1 && (decide (e.2.1.length ≤ 4) && (Jf e.2.2.2.1 && (Yd (fun _ m => Uf m) 0 e.2.1 && (Yd (fun _ x => Kp e.1.1 e.1.2.1.length x) 0 e.2.2.2.1 &&
  (decide (0 ≤ e.2.2.1 ∧ e.2.2.1 < ((2 ^ e.1.2.1.length : Nat) : Int)) && ((Int.tmod e.2.2.1 2 == 0) && decide (0 ≤ e.2.2.2.2.1 ∧ e.2.2.2.2.1 ≤ 15)))))))
theorem Cl (e : Gb) : Ja Xb e = Ja Vb e.1 + (Ja (.sl (.sl Yb)) e.2.1 + Ja (.sl Xe) e.2.2.2.1) := by
 simp only [Ja, Nat.add_zero, js]
theorem Ok (l : List Pa) : Ja (.sl Xe) l = l.length := Em (e := Xe) rfl l
theorem Z7 (l : List Sc) : Ja (.sl Yb) l = l.length := Em (e := Yb) rfl l
theorem Xal {e : Ty} (l : List (T e)) : ja l ≤ Ja (.sl e) l := Nat.le_add_right _ _
theorem Tav {e : Ty} {l : List (T e)} {k : Nat} (hk : k < ja l) : Ja e (List.get l ⟨k, hk⟩) ≤ Ja (.sl e) l :=
 qc (Cx (f := Ja e) hk) (Nat.le_add_left _ _)
theorem U4 (e : Gb) (hz : Ja Xb e ≤ Ea) : Pm (((), e.2.1, ((ja e.2.1 : Nat) : Int), (0 : Int), ()), (e, ())) =
 some (cond (Yd (fun _ m => Uf m) 0 e.2.1) (.inl (((), ()), (e, ()))) (.inr ((false, ()), ()))) := by
 have h20 : Ea = 1048576 := rfl
 rw [Cl] at hz
 have hl := Xal (e := .sl Yb) e.2.1
 unfold Pm
 refine Bf (step := fun x => Hs x.1.1 x.1.2.1 x.1.2.2.1 x.1.2.2.2.1 x.2.1) e.2.1 (fun _ m => Uf m) (fun i => (((), e.2.1, ((ja e.2.1 : Nat) : Int), i, ()), (e, ()))) _ _ ?_ ?_ (by omega)
 ·intro k hk
  simp only [Hs]
  have hk2 : (k : Int) < ((ja e.2.1 : Nat) : Int) := by omega
  rw [Aa hk2, Kb hk]
  simp only [cond_true, jb]
  have he := Tav (e := .sl Yb) hk
  rw [Z7] at he
  rw [ZQ e.2.1[k] (by have : (List.get e.2.1 ⟨k, hk⟩) = e.2.1[k] := rfl; rw [this] at he; omega)]
  simp only [jb]
  cases Uf e.2.1[k] <;> rfl
 ·simp only [Hs]
  rw [Ba (by omega)]; rfl
theorem S5 (e : Gb) (hz : Ja Xb e ≤ Ea) : Bn (((), (0 : Int), ()), (e, ())) =
 some (cond (Yd (fun _ m => Uf m) 0 e.2.1) (.inl (((), ()), (e, ()))) (.inr ((false, ()), ()))) := by
 have h20 : Ea = 1048576 := rfl
 rw [Cl] at hz
 have hl := Xal (e := .sl Yb) e.2.1
 unfold Bn
 refine Bf (step := fun x => At x.1.1 x.1.2.1 x.2.1) e.2.1 (fun _ m => Uf m) (fun i => (((), i, ()), (e, ()))) _ _ ?_ ?_ (by omega)
 ·intro k hk
  simp only [At]
  have hk2 : (k : Int) < ((ja e.2.1 : Nat) : Int) := by omega
  rw [Aa hk2, Kb hk]
  simp only [cond_true, jb]
  have he := Tav (e := .sl Yb) hk
  rw [Z7] at he
  rw [QR e.2.1[k] (by have : (List.get e.2.1 ⟨k, hk⟩) = e.2.1[k] := rfl; rw [this] at he; omega)]
  simp only [jb]
  cases Uf e.2.1[k] <;> rfl
 ·simp only [At]
  rw [Ba (by omega)]; rfl
theorem M9 (e : Gb) (hz : Ja Xb e ≤ Ea) : Ll (((), ((ja e.1.2.1 : Nat) : Int), e.2.2.2.1, ((ja e.2.2.2.1 : Nat) : Int), (0 : Int), ()), (e, ())) =
 some (cond (Yd (fun _ x => Kp e.1.1 e.1.2.1.length x) 0 e.2.2.2.1) (.inl (((), ((ja e.1.2.1 : Nat) : Int), ()), (e, ()))) (.inr ((false, ()), ()))) := by
 have h20 : Ea = 1048576 := rfl
 rw [Cl, Ok] at hz
 unfold Ll
 refine Bf (step := fun x => Cq x.1.1 x.1.2.1 x.1.2.2.1 x.1.2.2.2.1 x.1.2.2.2.2.1 x.2.1) e.2.2.2.1 (fun _ x => Kp e.1.1 e.1.2.1.length x)
  (fun i => (((), ((ja e.1.2.1 : Nat) : Int), e.2.2.2.1, ((ja e.2.2.2.1 : Nat) : Int), i, ()), (e, ()))) _ _ ?_ ?_ (by omega)
 ·intro k hk
  simp only [Cq]
  have hk2 : (k : Int) < ((ja e.2.2.2.1 : Nat) : Int) := by omega
  rw [Aa hk2, Kb hk]
  simp only [cond_true, jb, Kp]
  cases decide (e.2.2.2.1[k].1 ≥ e.1.1) <;> cases (e.2.2.2.1[k].2.1.1 != 9) <;> cases decide (e.2.2.2.1[k].2.1.2.2.2.1 ≥ ((ja e.1.2.1 : Nat) : Int)) <;> rfl
 ·simp only [Cq]
  rw [Ba (by omega)]; rfl
theorem Y9 (e : Gb) (hz : Ja Xb e ≤ Ea) : Cn (((), (0 : Int), ()), (e, ())) =
 some (cond (Yd (fun _ x => Kp e.1.1 e.1.2.1.length x) 0 e.2.2.2.1) (.inl (((), ()), (e, ()))) (.inr ((false, ()), ()))) := by
 have h20 : Ea = 1048576 := rfl
 rw [Cl, Ok] at hz
 unfold Cn
 refine Bf (step := fun x => Bt x.1.1 x.1.2.1 x.2.1) e.2.2.2.1 (fun _ x => Kp e.1.1 e.1.2.1.length x) (fun i => (((), i, ()), (e, ()))) _ _ ?_ ?_ (by omega)
 ·intro k hk
  simp only [Bt]
  have hk2 : (k : Int) < ((ja e.2.2.2.1 : Nat) : Int) := by omega
  rw [Aa hk2, Kb hk]
  simp only [cond_true, jb, Kp]
  cases decide (e.2.2.2.1[k].1 ≥ e.1.1) <;> cases (e.2.2.2.1[k].2.1.1 != 9) <;> cases decide (e.2.2.2.1[k].2.1.2.2.2.1 ≥ ((ja e.1.2.1 : Nat) : Int)) <;> rfl
 ·simp only [Bt]
  rw [Ba (by omega)]; rfl
theorem D2 (e : Gb) (hz : Ja Xb e ≤ Ea) : HG e = some (Yi e, ()) := by
 have h20 : Ea = 1048576 := rfl
 have hz' := hz
 rw [Cl, Ok] at hz'
 unfold HG Yi
 rw [RP e.1 (by omega)]
 cases hk : Lh e.1 with
 | false => rfl
 | true =>
  simp only [jb, jg, cond_false, jk]
  by_cases h4 : e.2.1.length ≤ 4
  ·rw [Ba (show ¬ ((ja e.2.1 : Nat) : Int) > 4 by omega), Aa h4, CD _ (by omega)]
   simp only [jb, cond_false, jk]
   cases hh : Jf e.2.2.2.1 with
   | false => rfl
   | true =>
    simp only [jg, cond_false, jk]
    rw [U4 e hz]
    have hl := (Aj hk).l2
    by_cases ho : 0 ≤ e.2.2.2.2.1 ∧ e.2.2.2.2.1 ≤ 15
    ·rw [Ba (show ¬ e.2.2.2.2.1 < 0 by omega), Ba (show ¬ e.2.2.2.2.1 > 15 by omega), Aa ho]
     simp only [cond_false, jb, Bool.and_true]
     cases Yd (fun _ m => Uf m) 0 e.2.1 with
     | false => rfl
     | true =>
      simp only [cond_true, qk, jk]
      rw [M9 e hz]
      cases Yd (fun _ x => Kp e.1.1 e.1.2.1.length x) 0 e.2.2.2.1 with
      | false => rfl
      | true =>
       simp only [cond_true, jb, qk, jk]
       rw [Lk (by omega), Aa (show (0 : Int) ≤ ((ja e.1.2.1 : Nat) : Int) by omega)]
       have e2 : ((2 : Int) == 0) = false := rfl
       rw [e2]
       simp only [cond_false, cond_true]
       by_cases hf : 0 ≤ e.2.2.1
       ·rw [Aa (show e.2.2.1 ≥ 0 from hf)]
        by_cases hf2 : e.2.2.1 < ((2 ^ e.1.2.1.length : Nat) : Int)
        ·rw [Aa hf2, Aa (show 0 ≤ e.2.2.1 ∧ e.2.2.1 < ((2 ^ e.1.2.1.length : Nat) : Int) from ⟨hf, hf2⟩)]
         cases Int.tmod e.2.2.1 2 == 0 <;> rfl
        ·rw [Ba hf2, Ba (show ¬ (0 ≤ e.2.2.1 ∧ e.2.2.1 < ((2 ^ e.1.2.1.length : Nat) : Int)) from fun h => hf2 h.2)]
         cases Int.tmod e.2.2.1 2 == 0 <;> rfl
       ·rw [Ba (show ¬ e.2.2.1 ≥ 0 from hf), Ba (show ¬ (0 ≤ e.2.2.1 ∧ e.2.2.1 < ((2 ^ e.1.2.1.length : Nat) : Int)) from fun h => hf h.1)]
        rfl
    ·have hr : (Yd (fun _ m => Uf m) 0 e.2.1 && (Yd (fun _ x => Kp e.1.1 e.1.2.1.length x) 0 e.2.2.2.1 && (decide (0 ≤ e.2.2.1 ∧ e.2.2.1 < ((2 ^ e.1.2.1.length : Nat) : Int)) && ((Int.tmod e.2.2.1 2 == 0) && decide (0 ≤ e.2.2.2.2.1 ∧ e.2.2.2.2.1 ≤ 15))))) = false := by
      rw [Ba ho]; simp
     rw [hr]
     by_cases h1 : e.2.2.2.2.1 < 0
     ·rw [Aa h1]; rfl
     ·rw [Ba h1, Aa (show e.2.2.2.2.1 > 15 by omega)]; rfl
  ·rw [Aa (show ((ja e.2.1 : Nat) : Int) > 4 by omega), Ba h4]; rfl
theorem ZH (e : Gb) (hz : Ja Xb e ≤ Ea) : Sp e = some (Yi e, ()) := by
 have h20 : Ea = 1048576 := rfl
 have hz' := hz
 rw [Cl, Ok] at hz'
 unfold Sp Yi
 rw [IQ e.1 (by omega)]
 cases hk : Lh e.1 with
 | false => rfl
 | true =>
  simp only [jb, jg, cond_false, jk]
  by_cases h4 : e.2.1.length ≤ 4
  ·rw [Ba (show ¬ ((ja e.2.1 : Nat) : Int) > 4 by omega), Aa h4, XD _ (by omega)]
   simp only [jb, cond_false, jk]
   cases hh : Jf e.2.2.2.1 with
   | false => rfl
   | true =>
    simp only [jg, cond_false, jk]
    rw [S5 e hz]
    have hl := (Aj hk).l2
    cases Yd (fun _ m => Uf m) 0 e.2.1 with
    | false => rfl
    | true =>
     simp only [cond_true, jb, qk, jk]
     rw [Y9 e hz]
     cases Yd (fun _ x => Kp e.1.1 e.1.2.1.length x) 0 e.2.2.2.1 with
     | false => rfl
     | true =>
      simp only [cond_true, jb, qk, jk, Xc]
      have hp : (2 ^ e.1.2.1.length : Nat) ≤ 16 := qm (n := 2) (by omega) hl
      rw [Lk (by omega), Aa (show (0 : Int) ≤ ((ja e.1.2.1 : Nat) : Int) by omega)]
      generalize (2 ^ e.1.2.1.length : Nat) = P2 at hp ⊢
      rw [Vg (by omega) (by omega)]
      have e2 : ((2 : Int) == 0) = false := rfl
      rw [e2]
      simp only [cond_false, cond_true, jb]
      have e3 : decide (0 ≤ e.2.2.1 ∧ e.2.2.1 ≤ (P2 : Int) - 1) = decide (0 ≤ e.2.2.1 ∧ e.2.2.1 < (P2 : Int)) := by
       rw [decide_eq_decide]; omega
      rw [e3]
      cases decide (0 ≤ e.2.2.1 ∧ e.2.2.1 < (P2 : Int)) <;> cases Int.tmod e.2.2.1 2 == 0 <;> rfl
  ·rw [Aa (show ((ja e.2.1 : Nat) : Int) > 4 by omega), Ba h4]; rfl
def Gh (x : Ca) : Bool := decide (0 ≤ x.1 ∧ x.1 ≤ 1000000) && decide (0 ≤ x.2.1 ∧ x.2.1 ≤ 31)
theorem KJ (x : Ca) : Vt x = some (Gh x, ()) := by
 unfold Vt Gh
 simp only [Ei, Fi]
 apply Wc
 simp only [Rd, decide_eq_true_eq, jq, and_false, or_false, jd]
 omega
theorem JK (x : Ca) : Nu x = some (Gh x, ()) := by
 unfold Nu Gh
 simp only [Xc, jb, Ei, Fi]
 apply Wc
 simp only [Rd, decide_eq_true_eq, jq, and_false, or_false, jd]
def Pt (s : Int × Int) (x : Ca) : Bool := Gh x && (!decide (s.1 > x.1) && !(x.2.2.1 == (Bd s.2 x.2.1 == 1)))
def Ot (s : Int × Int) (x : Ca) : (Int × Int) ⊕ Unit := cond (Pt s x) (.inl (x.1, Me .i64 s.2 (Ta .i64 1 x.2.1))) (.inr ())
def Vaq (l : List Ca) (d : Int) : (Int × Int) ⊕ Unit := Nc (fun _ s x => Ot s x) 0 (0, d) l
def LL (l : List Ca) (d : Int) : Int × Bool := cond (decide (l.length ≤ 64)) (match Vaq l d with | .inl s => (s.2, true) | .inr _ => (0, false)) (0, false)
theorem Vj {x : Ca} (h : Gh x = true) : 0 ≤ x.1 ∧ x.1 ≤ 1000000 ∧ 0 ≤ x.2.1 ∧ x.2.1 ≤ 31 := by
 simp only [Gh, jd, decide_eq_true_eq] at h
 omega
theorem X6 (l : List Ca) (d : Int) (hn : l.length ≤ Ea) : OM l d = some ((LL l d).1, (LL l d).2, ()) := by
 have h20 : Ea = 1048576 := rfl
 unfold OM LL
 by_cases h64 : l.length ≤ 64
 ·rw [Ba (show ¬ ((ja l : Nat) : Int) > 64 by omega), Aa h64]
  have hl := Ag (step := fun x => Pz x.1.1 x.1.2.1 x.1.2.2.1 x.1.2.2.2.1 x.1.2.2.2.2.1) l (fun _ s x => Ot s x) (fun s i => ((l, s.2, l, ((ja l : Nat) : Int), i, ()), ()))
   (fun s => .inl ((s.2, ()), ())) (fun _ => .inr (((0 : Int), false, ()), ())) (fun k s => (k = 0 → s.1 = 0) ∧ ∀ hk : k - 1 < l.length, 0 < k → s.1 = l[k - 1].1) (by
    intro k hk s ⟨hs0, hs1⟩
    refine ⟨?_, ?_⟩
    ·simp only [Pz]
     rw [Aa (show (k : Int) < ((ja l : Nat) : Int) by omega), Kb hk]
     simp only [cond_true, jb, KJ, Ot, Pt]
     generalize hx : l[k] = x
     cases hev : Gh x with
     | false => rfl
     | true =>
      have hkey := Vj hev
      simp only [jg, cond_false, jk]
      rw [Uk s.2 hkey.2.2.1, Aa hkey.2.2.1]
      simp only [jb, cond_true]
      by_cases h0 : k = 0
      ·subst h0
       rw [Ba (show ¬ ((0 : Nat) : Int) > 0 by omega), Ba (show ¬ s.1 > x.1 by rw [hs0 rfl]; omega)]
       cases (x.2.2.1 == (Bd s.2 x.2.1 == 1)) <;> rfl
      ·rw [Aa (show (k : Int) > 0 by omega), Vg (by omega) (by omega), show (k : Int) - 1 = ((k - 1 : Nat) : Int) by omega, Kb (show k - 1 < l.length by omega)]
       rw [hs1 (by omega) (by omega)]
       simp only [jb, cond_true]
       cases decide (l[k - 1].1 > x.1) <;> cases (x.2.2.1 == (Bd s.2 x.2.1 == 1)) <;> rfl
    ·intro s' h
     unfold Ot at h
     cases hc : Pt s l[k] with
     | false => rw [hc] at h; simp at h
     | true =>
      rw [hc] at h
      simp only [cond_true, Sum.inl.injEq] at h
      refine ⟨by omega, fun _ _ => ?_⟩
      rw [← h]
      simp only [Nat.add_sub_cancel])
   (by
    intro s _
    simp only [Pz]
    rw [Ba (by omega)]; rfl) (by omega) (0, d) ⟨fun _ => rfl, fun _ h => absurd h (by omega)⟩
  unfold NB
  erw [hl]
  simp only [cond_false, jb, Vaq, cond_true]
  cases Nc (fun x s x => Ot s x) 0 (0, d) l <;> rfl
 ·rw [Aa (show ((ja l : Nat) : Int) > 64 by omega), Ba h64]; rfl
def A5 (keys : Int) (l : List Ca) : Bool := Yd (fun _ (x : Ca) => !decide (x.2.1 ≥ keys)) 0 l
def Gd (q : List Ca) (d keys : Int) : Bool := A5 keys q && (LL q d).2
theorem Ns (q : List Ca) (d keys : Int) (hn : q.length ≤ Ea) : Vh q d keys = some (Gd q d keys, ()) := by
 have h20 : Ea = 1048576 := rfl
 have hl := Bf (step := fun x => Hq x.1.1 x.1.2.1 x.1.2.2.1 x.1.2.2.2.1 x.1.2.2.2.2.1 x.1.2.2.2.2.2.1) q (fun _ (x : Ca) => !decide (x.2.1 ≥ keys)) (fun i => ((q, d, keys, q, ((ja q : Nat) : Int), i, ()), ()))
  (.inl ((q, d, ()), ())) (.inr ((false, ()), ())) (by
   intro k hk
   simp only [Hq]
   rw [Aa (show (k : Int) < ((ja q : Nat) : Int) by omega), Kb hk]
   simp only [cond_true, jb]
   cases decide (q[k].2.1 ≥ keys) <;> rfl) (by
   simp only [Hq]
   rw [Ba (by omega)]; rfl) (by omega)
 unfold Vh Bu Gd A5
 erw [hl]
 simp only [jb]
 cases Yd (fun _ (x : Ca) => !decide (x.2.1 ≥ keys)) 0 q with
 | false => rfl
 | true => simp only [cond_true, qk, X6 q d hn, jb]; rfl
def WY (keys : Int) (s : Int × Int) (x : Ca) : (Int × Int) ⊕ Unit := cond (Pt s x && !decide (x.2.1 ≥ keys)) (.inl (x.1, Me .i64 s.2 (Ta .i64 1 x.2.1))) (.inr ())
theorem D0 (keys : Int) : ∀ (l : List Ca) (k : Nat) (s : Int × Int), Hm (Nc (fun _ s x => WY keys s x) k s l) = (Yd (fun _ (x : Ca) => !decide (x.2.1 ≥ keys)) k l && Hm (Nc (fun _ s x => Ot s x) k s l))
 | [], _, _ => rfl
 | x :: l, k, s => by
  simp only [Nc, Yd, WY, Ot]
  cases Pt s x with
  | false => simp [Hm]
  | true =>
   cases decide (x.2.1 ≥ keys) with
   | true => simp [Hm]
   | false => simp only [jk, qa, cond_true]; exact D0 keys l (k + 1) _
theorem Zq (q : List Ca) (d keys : Int) (hn : q.length ≤ Ea) : Qj q d keys 0 = some (Gd q d keys, ()) := by
 have h20 : Ea = 1048576 := rfl
 have hl := Ag (step := fun x => Ap x.1.1 x.1.2.1 x.1.2.2.1 x.1.2.2.2.1 x.1.2.2.2.2.1) q (fun _ s x => WY keys s x) (fun s i => ((q, s.2, keys, s.1, i, ()), ()))
  (fun s => .inl ((q, ()), ())) (fun _ => .inr ((false, ()), ())) (fun _ _ => True) (by
   intro k hk s _
   refine ⟨?_, fun _ _ => trivial⟩
   simp only [Ap]
   rw [Aa (show (k : Int) < ((ja q : Nat) : Int) by omega), Kb hk]
   simp only [cond_true, jb, JK, WY, Pt]
   generalize q[k] = x
   cases hev : Gh x with
   | false => rfl
   | true =>
    have hkey := Vj hev
    simp only [jg, cond_false, jk, Bd]
    rw [Aa hkey.2.2.1]
    simp only [gt_iff_lt]
    cases decide (x.2.1 ≥ keys) <;> cases decide (x.1 < s.1) <;> cases (x.2.2.1 == (Wa .i64 (Zb .i64 s.2 x.2.1) 1 == 1)) <;> rfl)
  (by
   intro s _
   simp only [Ap]
   rw [Ba (by omega)]; rfl) (by omega) (0, d) trivial
 unfold Qj Vr
 erw [hl]
 have hsp := D0 keys q 0 (0, d)
 simp only [jb, Gd, A5, LL, Vaq]
 by_cases h64 : q.length ≤ 64
 ·rw [Aa h64]
  cases h1 : Nc (fun _ s x => WY keys s x) 0 (0, d) q with
  | inl s =>
   rw [h1] at hsp
   simp only [Hm] at hsp
   cases h2 : Nc (fun _ s x => Ot s x) 0 (0, d) q with
   | inl s2 =>
    rw [h2] at hsp
    simp only [Hm, Bool.and_true] at hsp
    rw [← hsp]
    simp only [qk]
    rw [Aa (show ((ja q : Nat) : Int) ≤ 64 by omega)]; rfl
   | inr u => rw [h2] at hsp; simp [Hm] at hsp
  | inr u =>
   rw [h1] at hsp
   simp only [Hm] at hsp
   cases h2 : Nc (fun _ s x => Ot s x) 0 (0, d) q with
   | inl s2 =>
    rw [h2] at hsp
    simp only [Hm, Bool.and_true] at hsp
    rw [← hsp]; rfl
   | inr u => cases Yd (fun _ (x : Ca) => !decide (x.2.1 ≥ keys)) 0 q <;> rfl
 ·rw [Ba h64]
  cases h1 : Nc (fun _ s x => WY keys s x) 0 (0, d) q with
  | inl s => simp only [qk]; rw [Ba (show ¬ ((ja q : Nat) : Int) ≤ 64 by omega)]; cases Yd (fun _ (x : Ca) => !decide (x.2.1 ≥ keys)) 0 q <;> rfl
  | inr u => cases Yd (fun _ (x : Ca) => !decide (x.2.1 ≥ keys)) 0 q <;> rfl
def Fl (t : CL) : Bool := decide (1 ≤ t.1 ∧ t.1 ≤ 1000) && (decide (0 ≤ t.2.1 ∧ t.2.1 ≤ 1000) && decide (0 ≤ t.2.2.1 ∧ t.2.2.1 ≤ 2))
theorem EO (t : CL) : Nx t = some (Fl t, ()) := by
 unfold Nx Fl
 simp only [Ei, Fi]
 apply Wc
 simp only [Rd, decide_eq_true_eq, jq, and_false, or_false, jd]
 omega
theorem JO (t : CL) : Ay t = some (Fl t, ()) := by
 unfold Ay Fl
 simp only [Xc, jb, Ei, Fi]
 apply Wc
 simp only [Rd, decide_eq_true_eq, jq, and_false, or_false, jd]
theorem LK (e : Gb) (hn : e.2.2.2.1.length ≤ Ea) (hx : ∀ x ∈ e.2.2.2.1, Jt x) : Ru e = some (Vs e.2.2.2.1, ()) := by
 have h20 : Ea = 1048576 := rfl
 have hl := (Qe (step := fun x => Sw x.1.1 x.1.2.1 x.1.2.2.1 x.2.1) e.2.2.2.1 (fun _ s (x : Pa) => Rc .i64 s (Ta .i64 1 x.1)) (fun s i => (((), s, i, ()), (e, ())))
  (fun s => .inl ((s, ()), ())) (fun _ _ => True) (by
   intro k hk s _
   refine ⟨?_, trivial⟩
   simp only [Sw]
   rw [Aa (show (k : Int) < ((ja e.2.2.2.1 : Nat) : Int) by omega), Kb hk]
   have hk' := hx _ (qr hk)
   simp only [cond_true, jb, Ur, Xc]
   rw [Aa (show 0 ≤ e.2.2.2.1[k].1 ∧ e.2.2.2.1[k].1 ≤ 31 from ⟨hk'.lo, hk'.hi⟩), Aa hk'.lo]; rfl)
  (by
   intro s _
   simp only [Sw]
   rw [Ba (by omega)]; rfl) (by omega) 0 trivial).1
 unfold Ru Yy
 erw [hl]
 rfl
def AZ (l : List Ca) : Int := (l.getD (l.length - 1) (0, 0, false, ())).1
def Kf (l : List Ca) (t : Int) : Bool := ((l.length : Int) == 0) || decide (AZ l ≤ t)
theorem PP {l : List Ca} (h : 0 < l.length) (hn : l.length ≤ Ea) : ∃ x, Ab l (j5 .i64 (((ja l : Nat) : Int) - 1)) = some x ∧ x.1 = AZ l := by
 have h20 : Ea = 1048576 := rfl
 refine ⟨l[l.length - 1], ?_, ?_⟩
 ·rw [Vg (by omega) (by omega), show ((ja l : Nat) : Int) - 1 = ((l.length - 1 : Nat) : Int) by omega, Kb (by omega)]
 ·simp [AZ, List.getD, je (show l.length - 1 < l.length by omega)]
theorem Ms (l : List Ca) (t : Int) (hn : l.length ≤ Ea) : Th l t = some (Kf l t, ()) := by
 unfold Th Kf
 by_cases h0 : l.length = 0
 ·simp [h0]
 ·obtain ⟨x, h1, h2⟩ := PP (l := l) (by omega) hn
  rw [h1, show (((l.length : Nat) : Int) == 0) = false by simp; intro h; rw [h] at h0; simp at h0]
  simp only [cond_false, jb, h2, Bool.false_or]
noncomputable def Ff (d : Hb) : Bool :=
 Yi d.1 && (Fl d.2.1 && (decide (0 ≤ d.2.2.2.1 ∧ d.2.2.2.1 ≤ 1000000) && (decide (0 ≤ d.2.2.2.2.1 ∧ d.2.2.2.2.1 ≤ d.2.2.2.1) && (Gd d.2.2.1 (Vs d.1.2.2.2.1) d.1.1.1 && (Kf d.2.2.1 d.2.2.2.1 &&
  (decide (0 ≤ d.2.2.2.2.2.1 ∧ d.2.2.2.2.2.1 ≤ d.1.1.1) && decide (0 ≤ d.2.2.2.2.2.2.1 ∧ d.2.2.2.2.2.2.1 ≤ d.2.2.2.1)))))))
theorem IJ (d : Hb) : Ja Dc d = Ja Xb d.1 + Ja (.sl Za) d.2.2.1 := by
 simp only [Ja, Nat.add_zero, js]
theorem Dx (l : List Ca) : Ja (.sl Za) l = l.length := Em (e := Za) rfl l
theorem Iy {e : Gb} (h : Yi e = true) : Jf e.2.2.2.1 = true := by
 simp only [Yi, jd] at h
 exact h.2.2.1
theorem DO (d : Hb) (hz : Ja Dc d ≤ Ea) : Ut d = some (Ff d, ()) := by
 have hz' := hz
 rw [IJ, Dx] at hz'
 have hz2 := hz'
 rw [Cl, Ok] at hz2
 unfold Ut Ff
 rw [D2 _ (by omega)]
 cases he : Yi d.1 with
 | false => rfl
 | true =>
  have hh := Hn (Iy he)
  simp only [jb, jg, cond_false, jk, EO]
  cases Fl d.2.1 with
  | false => rfl
  | true =>
   rw [PH _ (by omega) hh]
   simp only [jb, jg, cond_false, jk]
   rw [Ns _ _ _ (by omega), Ms _ _ (by omega)]
   simp only [jb]
   have key : ∀ a b c e f g h i j k : Bool, cond a (some (false, ())) (cond b (some (false, ())) (cond c (some (false, ())) (cond e (some (false, ())) (cond (!f) (some (false, ())) (cond (!g) (some (false, ())) (cond h (cond i (cond j (some (k, ())) (some (false, ()))) (some (false, ()))) (some (false, ())))))))) =
    some ((((!a && !b) && ((!c && !e) && (f && (g && ((h && i) && (j && k)))))), ()) : Bool × Unit) := by
    intro a b c e f g h i j k
    cases a <;> cases b <;> cases c <;> cases e <;> cases f <;> cases g <;> cases h <;> cases i <;> cases j <;> cases k <;> rfl
   erw [key]
   apply Wc
   simp only [jd, Bool.not_eq_true', decide_eq_true_eq, decide_eq_false_iff_not]
   constructor
   ·rintro ⟨⟨h1, h2⟩, ⟨h3, h4⟩, h5, h6, ⟨h7, h8⟩, h9, h10⟩
    exact ⟨⟨by omega, by omega⟩, ⟨by omega, by omega⟩, h5, h6, ⟨h7, h8⟩, h9, h10⟩
   ·rintro ⟨⟨h1, h2⟩, ⟨h3, h4⟩, h5, h6, ⟨h7, h8⟩, h9, h10⟩
    exact ⟨⟨by omega, by omega⟩, ⟨by omega, by omega⟩, h5, h6, ⟨h7, h8⟩, h9, h10⟩
theorem HO (d : Hb) (hz : Ja Dc d ≤ Ea) : Mu d = some (Ff d, ()) := by
 have hz' := hz
 rw [IJ, Dx] at hz'
 have hz2 := hz'
 rw [Cl, Ok] at hz2
 unfold Mu Ff
 rw [ZH _ (by omega)]
 cases he : Yi d.1 with
 | false => rfl
 | true =>
  have hh := Hn (Iy he)
  simp only [jb, jg, cond_false, jk, JO, Xc]
  cases Fl d.2.1 with
  | false => rfl
  | true =>
   rw [LK _ (by omega) hh]
   simp only [jb, jg, cond_false, jk]
   rw [Zq _ _ _ (by omega)]
   simp only [jb, Kf]
   by_cases h0 : d.2.2.1.length = 0
   ·rw [Ba (show ¬ ((ja d.2.2.1 : Nat) : Int) > 0 by omega), show (((d.2.2.1.length : Nat) : Int) == 0) = true by simp [h0]]
    simp only [cond_false, Bool.true_or, jk]
    cases decide (0 ≤ d.2.2.2.1 ∧ d.2.2.2.1 ≤ 1000000) <;> cases decide (0 ≤ d.2.2.2.2.1 ∧ d.2.2.2.2.1 ≤ d.2.2.2.1) <;> cases Gd d.2.2.1 (Vs d.1.2.2.2.1) d.1.1.1 <;> cases decide (0 ≤ d.2.2.2.2.2.1 ∧ d.2.2.2.2.2.1 ≤ d.1.1.1) <;> rfl
   ·obtain ⟨x, h1, h2⟩ := PP (l := d.2.2.1) (by omega) (by omega)
    rw [Aa (show ((ja d.2.2.1 : Nat) : Int) > 0 by omega), h1, show (((d.2.2.1.length : Nat) : Int) == 0) = false by simp; intro h; rw [h] at h0; simp at h0]
    simp only [cond_true, jb, Bool.false_or, h2]
    have e1 : decide (AZ d.2.2.1 > d.2.2.2.1) = !decide (AZ d.2.2.1 ≤ d.2.2.2.1) := by
     rw [qx]; simp only [decide_eq_true_eq, Bool.not_eq_true', decide_eq_false_iff_not]; omega
    rw [e1]
    cases decide (0 ≤ d.2.2.2.1 ∧ d.2.2.2.1 ≤ 1000000) <;> cases decide (0 ≤ d.2.2.2.2.1 ∧ d.2.2.2.2.1 ≤ d.2.2.2.1) <;> cases Gd d.2.2.1 (Vs d.1.2.2.2.1) d.1.1.1 <;> cases decide (AZ d.2.2.1 ≤ d.2.2.2.1) <;> cases decide (0 ≤ d.2.2.2.2.2.1 ∧ d.2.2.2.2.2.1 ≤ d.1.1.1) <;> rfl

def Ue {S : Type} (g : Nat → S → S) : Nat → S → S
 | 0, s => s
 | n + 1, s => g n (Ue g n s)
theorem Nh {X R S : Type} {step : X → Option (X ⊕ R)} (n : Nat) (hn : n < 9223372036854775807) (g : Nat → S → S) (s0 : S) (I : S → Int → X) (out : S → R)
 (h : ∀ k, k < n → step (I (Ue g k s0) (k : Int)) = some (.inl (I (g k (Ue g k s0)) (j5 .i64 ((k : Int) + 1))))) (he : step (I (Ue g n s0) (n : Int)) = some (.inr (out (Ue g n s0)))) :
 Ua step (I s0 0) = some (out (Ue g n s0)) := by
 have := EC (step := step) (fun k => I (Ue g k s0) (k : Int)) n (out (Ue g n s0)) (fun k hk => by
  rw [h k hk, Hc (by omega)]; rfl) he
 exact this
theorem IV {e : Ty} {c : Nat} : ∀ {w : List (T e)}, (∀ x ∈ w, Ja e x ≤ c) → Ja (.sl e) w ≤ (c + 1) * w.length
 | [], _ => by simp [Ja]
 | x :: r, h => by
  have h1 := h x (by simp)
  have h2 : Ja (.sl e) r ≤ (c + 1) * r.length := IV fun y hy => h y (by simp [hy])
  have h3 : Ja (.sl e) r = ja r + (List.map (Ja e) r).sum := rfl
  have h4 : Ja (.sl e) (x :: r) = (ja r + 1) + (Ja e x + (List.map (Ja e) r).sum) := by simp [Ja]
  rw [h4, jw, Nat.mul_add]
  omega
theorem Ni {n : Nat} (h : n ≤ 1073741824) : jx n Sa = true := ji h
theorem Q4 {α β : Type} (f : α → β) : ∀ (xs : List α) (k : Nat) (o : List β), Jd (fun _ o x => jf o [f x]) k o xs = o ++ xs.map f
 | [], _, o => by simp [Jd]
 | x :: r, k, o => by
  simp only [Jd]
  rw [Q4 f r]
  simp
theorem IR {X R α β : Type} {step : X → Option (X ⊕ R)} (xs : List α) (f : α → β) (I : List β → Int → X) (out : List β → R) (hn : xs.length ≤ 1073741824)
 (h : ∀ k (hk : k < xs.length) (o : List β), ja o = k → step (I o (k : Int)) = some (.inl (I (jf o [f xs[k]]) (j5 .i64 ((k : Int) + 1)))))
 (he : ∀ o : List β, step (I o (xs.length : Int)) = some (.inr (out o))) : Ua step (I [] 0) = some (out (xs.map f)) := by
 have := (Qe (step := step) xs (fun _ o x => jf o [f x]) I out (fun k o => ja o = k) (fun k hk o ho => ⟨h k hk o ho, by simp [ho]⟩) (fun o _ => he o) (by omega) [] rfl).1
 rw [this, Q4]
 rfl
theorem Sav (a : List Int) : Ja (.sl int) a = a.length := Em (e := int) rfl a
theorem B6 (a : List Bb) : Ja (.sl Qb) a = a.length := Em (e := Qb) rfl a
theorem Kaz (r : Ha) : Ja Ac r = r.2.1.length := by
 show 0 + (Ja (.sl int) r.2.1 + 0) = _
 rw [Sav]; omega
theorem U7 (r : Ha) (h : r.2.1.length ≤ Ea) : YM r = some (r, ()) := by
 have h20 : Ea = 1048576 := rfl
 unfold YM
 rw [Ni (by simp; omega)]
 rfl
theorem OH (l : List Int) (h : l.length ≤ Ea) : Pp l = some (l, ()) := by
 have h20 : Ea = 1048576 := rfl
 unfold Pp
 rw [Ni (by simp; omega)]
 rfl

theorem XK : (2 : Nat) ^ 63 = 9223372036854775808 := rfl
theorem AJ {a : Nat} (ha : a < 2 ^ 63) : (BitVec.ofInt 64 (a : Int)).toNat = a := by
 rw [BitVec.ofInt_natCast, BitVec.toNat_ofNat, Nat.mod_eq_of_lt (by omega)]
theorem OL {a b : Nat} (ha : a < 2 ^ 63) (hb : b < 2 ^ 63) : Wa .i64 (a : Int) (b : Int) = ((a &&& b : Nat) : Int) := by
 have h : (BitVec.ofInt (IntKind.bits .i64) (a : Int) &&& BitVec.ofInt (IntKind.bits .i64) (b : Int)).toNat = a &&& b := by
  rw [BitVec.toNat_and]; erw [AJ ha, AJ hb]
 unfold Wa
 rw [h]
 have h2 : a &&& b ≤ a := Nat.and_le_left
 have h3 := XK
 exact Vg (by omega) (by omega)
theorem ID {a b : Nat} (ha : a < 2 ^ 63) (hb : b < 2 ^ 63) : Rc .i64 (a : Int) (b : Int) = ((a ||| b : Nat) : Int) := by
 have h : (BitVec.ofInt (IntKind.bits .i64) (a : Int) ||| BitVec.ofInt (IntKind.bits .i64) (b : Int)).toNat = a ||| b := by
  rw [BitVec.toNat_or]; erw [AJ ha, AJ hb]
 unfold Rc
 rw [h]
 have h2 : a ||| b < 2 ^ 63 := Nat.or_lt_two_pow ha hb
 have h3 := XK
 exact Vg (by omega) (by omega)
theorem QL {a b : Nat} (ha : a < 2 ^ 63) (hb : b < 2 ^ 63) : Me .i64 (a : Int) (b : Int) = ((a ^^^ b : Nat) : Int) := by
 have h : (BitVec.ofInt (IntKind.bits .i64) (a : Int) ^^^ BitVec.ofInt (IntKind.bits .i64) (b : Int)).toNat = a ^^^ b := by
  rw [BitVec.toNat_xor]; erw [AJ ha, AJ hb]
 unfold Me
 rw [h]
 have h2 : a ^^^ b < 2 ^ 63 := qq ha hb
 have h3 := XK
 exact Vg (by omega) (by omega)
theorem FaE {w : Nat} (x y : BitVec w) : x &&& ~~~y = x ^^^ (x &&& y) := by
 ext i hi
 simp only [BitVec.getElem_and, BitVec.getElem_not, BitVec.getElem_xor]
 cases x[i] <;> cases y[i] <;> rfl
theorem VW {a b : Nat} (ha : a < 2 ^ 63) (hb : b < 2 ^ 63) : Jb .i64 (a : Int) (b : Int) = ((a ^^^ (a &&& b) : Nat) : Int) := by
 have h : (BitVec.ofInt (IntKind.bits .i64) (a : Int) &&& ~~~ BitVec.ofInt (IntKind.bits .i64) (b : Int)).toNat = a ^^^ (a &&& b) := by
  rw [FaE, BitVec.toNat_xor, BitVec.toNat_and]; erw [AJ ha, AJ hb]
 unfold Jb
 rw [h]
 have h1 : a &&& b ≤ a := Nat.and_le_left
 have h2 : a ^^^ (a &&& b) < 2 ^ 63 := qq ha (by omega)
 have h3 := XK
 exact Vg (by omega) (by omega)
theorem TU (a : Nat) {k : Nat} (hk : k ≤ 64) : Zb .i64 (a : Int) (k : Int) = ((a >>> k : Nat) : Int) := by
 unfold Zb
 have h1 : min (jy (k : Int)) (IntKind.bits .i64) = k := by
  show min (jy (k : Int)) 64 = k
  rw [jn]; omega
 rw [h1, Nat.shiftRight_eq_div_pow]
 have h2 : (2 : Int) ^ k = ((2 ^ k : Nat) : Int) := by simp
 rw [h2]
 exact (Int.fdiv_eq_ediv_of_nonneg _ (Int.natCast_nonneg _)).trans (by simp)
theorem Tax {a k : Nat} (h : a * 2 ^ k < 2 ^ 63) (hk : k ≤ 64) : Ta .i64 (a : Int) (k : Int) = ((a <<< k : Nat) : Int) := by
 unfold Ta
 have h1 : min (jy (k : Int)) (IntKind.bits .i64) = k := by
  show min (jy (k : Int)) 64 = k
  rw [jn]; omega
 have h2 : (2 : Int) ^ k = ((2 ^ k : Nat) : Int) := by simp
 have h4 : (a : Int) * ((2 ^ k : Nat) : Int) = ((a * 2 ^ k : Nat) : Int) := by simp
 rw [h1, Nat.shiftLeft_eq, h2, h4]
 have h3 := XK
 generalize a * 2 ^ k = z at *
 exact Vg (by omega) (by omega)
theorem Jr {a k : Nat} (ha : a < 2 ^ 63) (hk : k ≤ 64) : (Bd (a : Int) (k : Int) == 1) = a.testBit k := by
 unfold Bd
 have h1 : a >>> k ≤ a := by rw [Nat.shiftRight_eq_div_pow]; exact Nat.div_le_self _ _
 have h3 := XK
 rw [TU a hk]
 show (Wa .i64 ((a >>> k : Nat) : Int) ((1 : Nat) : Int) == 1) = _
 rw [OL (by omega) (by omega), Nat.and_one_is_mod, Nat.testBit_eq_decide_div_mod_eq, Nat.shiftRight_eq_div_pow]
 have : a / 2 ^ k % 2 = 0 ∨ a / 2 ^ k % 2 = 1 := by omega
 rcases this with h | h <;> rw [h] <;> rfl
theorem Pi {k : Nat} (hk : k ≤ 62) : (2 : Nat) ^ k < 2 ^ 63 := Nat.pow_lt_pow_right (by omega) (by omega)
theorem UaM {a k : Nat} (ha : a < 2 ^ 63) (hk : k ≤ 62) (h : (Bd (a : Int) (k : Int) == 1) = false) :
 Rc .i64 (a : Int) (Ta .i64 1 (k : Int)) = Me .i64 (a : Int) (Ta .i64 1 (k : Int)) := by
 rw [Jr ha (by omega)] at h
 rw [Lk (by omega), ID ha (Pi hk), QL ha (Pi hk)]
 congr 1
 apply Nat.eq_of_testBit_eq
 intro i
 rw [Nat.testBit_or, qn, qo]
 by_cases hi : k = i
 ·subst hi; rw [h, Aa rfl]; rfl
 ·rw [Ba hi]; cases a.testBit i <;> rfl
theorem Bax {a k : Nat} (ha : a < 2 ^ 63) (hk : k ≤ 62) (h : (Bd (a : Int) (k : Int) == 1) = true) :
 Jb .i64 (a : Int) (Ta .i64 1 (k : Int)) = Me .i64 (a : Int) (Ta .i64 1 (k : Int)) := by
 rw [Jr ha (by omega)] at h
 rw [Lk (by omega), VW ha (Pi hk), QL ha (Pi hk)]
 congr 1
 apply Nat.eq_of_testBit_eq
 intro i
 rw [qn, qn, Nat.testBit_and, qo]
 by_cases hi : k = i
 ·subst hi; rw [h, Aa rfl]; rfl
 ·rw [Ba hi]; cases a.testBit i <;> rfl
theorem Oag {a k : Nat} (ha : a < 2 ^ 63) (hk : k ≤ 62) : ∃ b : Nat, Me .i64 (a : Int) (Ta .i64 1 (k : Int)) = (b : Int) ∧ b < 2 ^ 63 := by
 rw [Lk (by omega), QL ha (Pi hk)]
 exact ⟨_, rfl, qq ha (Pi hk)⟩
theorem IaL {a k n : Nat} (ha : a < 2 ^ 63) (hk : k ≤ 62) (hn : n ≤ 64) :
 (Bd (Rc .i64 (a : Int) (Ta .i64 1 (k : Int))) (n : Int) == 1) = ((Bd (a : Int) (n : Int) == 1) || decide (k = n)) := by
 rw [Lk (by omega), ID ha (Pi hk), Jr (Nat.or_lt_two_pow ha (Pi hk)) hn, Jr ha hn, Nat.testBit_or, qo]
theorem Tag {a : Nat} (ha : a < 2 ^ 64) : (BitVec.ofInt 64 (a : Int)).toNat = a := by
 rw [BitVec.ofInt_natCast, BitVec.toNat_ofNat, Nat.mod_eq_of_lt (by omega)]
theorem YR {a : Nat} (h : a < 2 ^ 64) : j5 .u64 (a : Int) = (a : Int) := by
 have h2 : (2 : Nat) ^ 64 = 18446744073709551616 := by decide
 exact IntWalk.u64_in _ ⟨by omega, by omega⟩
theorem Uat {a b : Nat} (ha : a < 2 ^ 64) (hb : b < 2 ^ 64) : Wa .u64 (a : Int) (b : Int) = ((a &&& b : Nat) : Int) := by
 have h : (BitVec.ofInt (IntKind.bits .u64) (a : Int) &&& BitVec.ofInt (IntKind.bits .u64) (b : Int)).toNat = a &&& b := by
  rw [BitVec.toNat_and]; erw [Tag ha, Tag hb]
 unfold Wa
 rw [h]
 have h2 : a &&& b ≤ a := Nat.and_le_left
 exact YR (by omega)
theorem Zat (a : Nat) {k : Nat} (hk : k ≤ 64) : Zb .u64 (a : Int) (k : Int) = ((a / 2 ^ k : Nat) : Int) := by
 unfold Zb
 have h1 : min (jy (k : Int)) (IntKind.bits .u64) = k := by
  show min (jy (k : Int)) 64 = k
  rw [jn]; omega
 rw [h1]
 have h2 : (2 : Int) ^ k = ((2 ^ k : Nat) : Int) := by simp
 rw [h2]
 exact (Int.fdiv_eq_ediv_of_nonneg _ (Int.natCast_nonneg _)).trans (by simp)
def cnt : Nat → Nat → Nat
 | 0, _ => 0
 | k + 1, n => n % 2 + cnt k (n / 2)
theorem H4 : ∀ k n, cnt k n ≤ k
 | 0, _ => jo _
 | k + 1, n => by have := H4 k (n / 2); simp only [cnt]; omega
theorem RY : ∀ j k n, cnt (j + k) n = cnt j n + cnt k (n / 2 ^ j)
 | 0, k, n => by simp [cnt]
 | j + 1, k, n => by
  have h := RY j k (n / 2)
  rw [show j + 1 + k = (j + k) + 1 by omega]
  simp only [cnt, h, Nat.div_div_eq_div_mul, Nat.pow_succ, Nat.mul_comm]
  omega
theorem L6 : ∀ j n, cnt j (n % 2 ^ j) = cnt j n
 | 0, _ => rfl
 | j + 1, n => by
  have h := L6 j (n / 2)
  have e1 : n % 2 ^ (j + 1) % 2 = n % 2 := Nat.mod_mod_of_dvd _ (by rw [Nat.pow_succ]; exact ⟨2 ^ j, Nat.mul_comm _ _⟩)
  have e2 : n % 2 ^ (j + 1) / 2 = n / 2 % 2 ^ j := by
   rw [Nat.pow_succ, Nat.mul_comm, Nat.mod_mul_right_div_self]
  simp only [cnt, e1, e2, h]
theorem Nac : ∀ k, cnt k 0 = 0
 | 0 => rfl
 | k + 1 => by have := Nac k; simp [cnt, this]
def u1 (a : Nat) : Nat := ((a / 2) &&& 85) + (a &&& 85)
def u2 (a : Nat) : Nat := ((a / 4) &&& 51) + (a &&& 51)
theorem Ias : ∀ a : Fin 256, u1 a.val < 256 := by decide +kernel
theorem Jas : ∀ a : Fin 256, u2 (u1 a.val) % 16 ≤ 4 ∧ u2 (u1 a.val) / 16 ≤ 4 := by decide +kernel
theorem Kas : ∀ a : Fin 256, (u2 (u1 a.val) / 16 + u2 (u1 a.val)) % 16 = cnt 8 a.val := by decide +kernel
theorem m5 : ∀ a : Fin 128, (a.val &&& 85) = (a.val + 128 * 1) &&& 85 := by decide +kernel
theorem m3 : ∀ a : Fin 64, ∀ c : Fin 4, (a.val &&& 51) = (a.val + 64 * c.val) &&& 51 := by decide +kernel
theorem m5' {a c : Nat} (h : a < 128) (hc : c < 2) : (a + 128 * c) &&& 85 = a &&& 85 := by
 have : c = 0 ∨ c = 1 := by omega
 rcases this with rfl | rfl
 ·rfl
 ·exact (m5 ⟨a, h⟩).symm
theorem m3' {a c : Nat} (h : a < 64) (hc : c < 4) : (a + 64 * c) &&& 51 = a &&& 51 := (m3 ⟨a, h⟩ ⟨c, hc⟩).symm
theorem EW {a b m p : Nat} (ha : a < 256) (hp : p < 256) : (a + 256 * b) &&& (p + 256 * m) = (a &&& p) + 256 * (b &&& m) := by
 have h1 : ((a + 256 * b) &&& (p + 256 * m)) % 2 ^ 8 = a &&& p := by
  rw [Nat.and_mod_two_pow]
  congr 1 <;> omega
 have h2 : ((a + 256 * b) &&& (p + 256 * m)) / 2 ^ 8 = b &&& m := by
  rw [← Nat.shiftRight_eq_div_pow, Nat.shiftRight_and_distrib, Nat.shiftRight_eq_div_pow, Nat.shiftRight_eq_div_pow]
  congr 1 <;> omega
 generalize (a + 256 * b) &&& (p + 256 * m) = z at *
 rw [← h1, ← h2]
 omega
theorem Cac {a b c M m : Nat} (ha : a < 256) (hb : b < 256) (hc : c < 256) (hm : m < 256) (hM : M = m + 256 * (m + 256 * (m + 256 * (M / 16777216)))) :
 (a + 256 * (b + 256 * c)) &&& M = (a &&& m) + 256 * ((b &&& m) + 256 * (c &&& m)) := by
 rw [hM, show c = c + 256 * 0 by omega, EW ha hm, EW hb hm, EW hc hm]
 simp
def M5 : Nat := 6148914691236517205
def M3 : Nat := 3689348814741910323
def MF : Nat := 1085102592571150095
def s1 (n : Nat) : Nat := (n / 2 &&& M5) + (n &&& M5)
def s2 (n : Nat) : Nat := (n / 4 &&& M3) + (n &&& M3)
def s3 (n : Nat) : Nat := (n / 16 + n) &&& MF
theorem XaX {a b c : Nat} (ha : a < 256) (hb : b < 256) (hc : c < 256) : s1 (a + 256 * (b + 256 * c)) = u1 a + 256 * (u1 b + 256 * u1 c) := by
 unfold s1
 have h : (a + 256 * (b + 256 * c)) / 2 = (a / 2 + 128 * (b % 2)) + 256 * ((b / 2 + 128 * (c % 2)) + 256 * (c / 2 + 128 * 0)) := by omega
 rw [h, Cac (m := 85) (by omega) (by omega) (by omega) (by omega) rfl, Cac (m := 85) ha hb hc (by omega) rfl, m5' (by omega) (by omega), m5' (by omega) (by omega), m5' (by omega) (by omega)]
 unfold u1
 omega
theorem ZaX {a b c : Nat} (ha : a < 256) (hb : b < 256) (hc : c < 256) : s2 (a + 256 * (b + 256 * c)) = u2 a + 256 * (u2 b + 256 * u2 c) := by
 unfold s2
 have h : (a + 256 * (b + 256 * c)) / 4 = (a / 4 + 64 * (b % 4)) + 256 * ((b / 4 + 64 * (c % 4)) + 256 * (c / 4 + 64 * 0)) := by omega
 rw [h, Cac (m := 51) (by omega) (by omega) (by omega) (by omega) rfl, Cac (m := 51) ha hb hc (by omega) rfl, m3' (by omega) (by omega), m3' (by omega) (by omega), m3' (by omega) (by omega)]
 unfold u2
 omega
theorem Aaq (x : Nat) : x &&& 15 = x % 16 := by
 have := Nat.and_two_pow_sub_one_eq_mod x 4
 exact this
theorem BaY {a b c : Nat} (ha : a % 16 ≤ 4 ∧ a / 16 ≤ 4) (hb : b % 16 ≤ 4 ∧ b / 16 ≤ 4) (hc : c % 16 ≤ 4 ∧ c / 16 ≤ 4) :
 s3 (a + 256 * (b + 256 * c)) = (a / 16 + a) % 16 + 256 * ((b / 16 + b) % 16 + 256 * ((c / 16 + c) % 16)) := by
 unfold s3
 have h : (a + 256 * (b + 256 * c)) / 16 + (a + 256 * (b + 256 * c)) = (a / 16 + a + 16 * (b % 16)) + 256 * ((b / 16 + b + 16 * (c % 16)) + 256 * (c / 16 + c)) := by omega
 rw [h, Cac (m := 15) (by omega) (by omega) (by omega) (by omega) rfl, Aaq, Aaq, Aaq]
 omega
def Say (z : Nat) : Nat := (z + z / 256 + (z + z / 256) / 65536 + (z + z / 256 + (z + z / 256) / 65536) / 4294967296) % 128
theorem VaM {n : Nat} (h : n < 16777216) : Say (s3 (s2 (s1 n))) = cnt 32 n := by
 have e : n = n % 256 + 256 * (n / 256 % 256 + 256 * (n / 65536)) := by omega
 have ha : n % 256 < 256 := by omega
 have hb : n / 256 % 256 < 256 := by omega
 have hc : n / 65536 < 256 := by omega
 have hcnt : cnt 32 n = cnt 8 (n % 256) + (cnt 8 (n / 256 % 256) + cnt 8 (n / 65536)) := by
  rw [show (32 : Nat) = 8 + (8 + (8 + 8)) from rfl, RY, RY, RY]
  have e1 := L6 8 n
  have e2 := L6 8 (n / 2 ^ 8)
  rw [← e1, ← e2]
  have e3 : n / 2 ^ 8 / 2 ^ 8 = n / 65536 := by omega
  have e4 : n / 65536 / 2 ^ 8 = 0 := by omega
  rw [e3, e4, Nac]
  simp
 rw [hcnt]
 generalize n % 256 = a at *
 generalize n / 256 % 256 = b at *
 generalize n / 65536 = c at *
 rw [e, XaX ha hb hc, ZaX (Ias ⟨a, ha⟩) (Ias ⟨b, hb⟩) (Ias ⟨c, hc⟩), BaY (Jas ⟨a, ha⟩) (Jas ⟨b, hb⟩) (Jas ⟨c, hc⟩), Kas ⟨a, ha⟩, Kas ⟨b, hb⟩, Kas ⟨c, hc⟩]
 have h1 := H4 8 a
 have h2 := H4 8 b
 have h3 := H4 8 c
 show Say (cnt 8 a + 256 * (cnt 8 b + 256 * cnt 8 c)) = _
 unfold Say
 generalize cnt 8 a = i at *
 generalize cnt 8 b = j at *
 generalize cnt 8 c = k at *
 have g1 : (i + 256 * (j + 256 * k)) / 256 = j + 256 * k := by omega
 rw [g1]
 have g2 : (i + 256 * (j + 256 * k) + (j + 256 * k)) / 65536 = k := by omega
 rw [g2]
 have g3 : (i + 256 * (j + 256 * k) + (j + 256 * k) + k) / 4294967296 = 0 := by omega
 rw [g3]
 omega
theorem WaX {n : Nat} (h : n < 16777216) : s1 n < 33554432 := by
 have h1 : n / 2 &&& M5 ≤ n / 2 := Nat.and_le_left
 have h2 : n &&& M5 ≤ n := Nat.and_le_left
 unfold s1; omega
theorem YaX {n : Nat} (h : n < 33554432) : s2 n < 67108864 := by
 have h1 : n / 4 &&& M3 ≤ n / 4 := Nat.and_le_left
 have h2 : n &&& M3 ≤ n := Nat.and_le_left
 unfold s2; omega
theorem AaY {n : Nat} (h : n < 67108864) : s3 n < 134217728 := by
 have h1 : (n / 16 + n) &&& MF ≤ n / 16 + n := Nat.and_le_left
 unfold s3; omega
theorem GaL (x : Nat) : x &&& 127 = x % 128 := by
 have := Nat.and_two_pow_sub_one_eq_mod x 7
 exact this
theorem Rab {n : Nat} (h : n < 16777216) : AD (n : Int) = some (((cnt 32 n : Nat) : Int), ()) := by
 unfold AD JH
 have p64 : (2 : Nat) ^ 64 = 18446744073709551616 := by decide
 have sh : ∀ (x : Nat) (k : Int) (j : Nat), k = (j : Int) → j ≤ 64 → Zb .u64 (x : Int) k = ((x / 2 ^ j : Nat) : Int) := fun x k j hk hj => by rw [hk]; exact Zat x hj
 have an : ∀ (x : Nat) (k : Int) (j : Nat), x < 2 ^ 64 → k = (j : Int) → j < 2 ^ 64 → Wa .u64 (x : Int) k = ((x &&& j : Nat) : Int) := fun x k j hx hk hj => by rw [hk]; exact Uat hx hj
 have ad : ∀ x y : Nat, (x : Int) + (y : Int) = ((x + y : Nat) : Int) := fun x y => (Int.natCast_add x y).symm
 have b1 := WaX h
 have b2 := YaX b1
 have b3 := AaY b2
 have h1 : j5 .u64 ((Wa .u64 (Zb .u64 (n : Int) 1) 6148914691236517205) + (Wa .u64 (n : Int) 6148914691236517205)) = ((s1 n : Nat) : Int) := by
  rw [sh n 1 1 rfl (by omega), an _ 6148914691236517205 M5 (by omega) rfl (by decide), an _ 6148914691236517205 M5 (by omega) rfl (by decide), ad]
  exact YR (a := s1 n) (by omega)
 rw [h1]
 have h2 : j5 .u64 ((Wa .u64 (Zb .u64 ((s1 n : Nat) : Int) 2) 3689348814741910323) + (Wa .u64 ((s1 n : Nat) : Int) 3689348814741910323)) = ((s2 (s1 n) : Nat) : Int) := by
  rw [sh _ 2 2 rfl (by omega), an _ 3689348814741910323 M3 (by omega) rfl (by decide), an _ 3689348814741910323 M3 (by omega) rfl (by decide), ad]
  exact YR (a := s2 (s1 n)) (by omega)
 rw [h2]
 have h3 : Wa .u64 (j5 .u64 ((Zb .u64 ((s2 (s1 n) : Nat) : Int) 4) + ((s2 (s1 n) : Nat) : Int))) 1085102592571150095 = ((s3 (s2 (s1 n)) : Nat) : Int) := by
  rw [sh _ 4 4 rfl (by omega), ad, YR (by omega), an _ 1085102592571150095 MF (by omega) rfl (by decide)]
  rfl
 rw [h3]
 have hp := VaM h
 generalize s3 (s2 (s1 n)) = z at *
 have g1 : j5 .u64 ((z : Int) + Zb .u64 (z : Int) 8) = ((z + z / 256 : Nat) : Int) := by
  rw [sh _ 8 8 rfl (by omega), ad, YR (by omega)]
 rw [g1]
 have g2 : j5 .u64 (((z + z / 256 : Nat) : Int) + Zb .u64 ((z + z / 256 : Nat) : Int) 16) = ((z + z / 256 + (z + z / 256) / 65536 : Nat) : Int) := by
  rw [sh _ 16 16 rfl (by omega), ad, YR (by omega)]
 rw [g2]
 have g3 : j5 .u64 (((z + z / 256 + (z + z / 256) / 65536 : Nat) : Int) + Zb .u64 ((z + z / 256 + (z + z / 256) / 65536 : Nat) : Int) 32) = ((z + z / 256 + (z + z / 256) / 65536 + (z + z / 256 + (z + z / 256) / 65536) / 4294967296 : Nat) : Int) := by
  rw [sh _ 32 32 rfl (by omega), ad, YR (by omega)]
 rw [g3, Vg (by omega) (by omega)]
 show jz (some (Wa .i64 _ ((127 : Nat) : Int), ())) _ = _
 rw [OL (by rw [XK]; omega) (by decide), GaL]
 rw [← hp]
 rfl
theorem J3 {n : Nat} (h : n < 16777216) : Dy (n : Int) = some (((cnt 32 n : Nat) : Int), ()) := by
 have hl := Nh (step := fun x => Gt x.1.1 x.1.2.1 x.1.2.2.1) 32 (by omega) (fun k s => j5 .i64 (s + Wa .i64 (Zb .i64 (n : Int) (k : Int)) 1)) 0 (fun s i => (((n : Int), s, i, ()), ())) (fun s => .inl ((s, ()), ()))
  (by
   intro k hk
   simp only [Gt]
   rw [Aa (show (k : Int) ≤ 31 by omega), Aa (show (0 : Int) ≤ (k : Int) by omega)]; rfl)
  (by
   simp only [Gt]
   rw [Ba (by decide)]; rfl)
 generalize hC : cnt 32 n = C
 have hi : ∀ k : Nat, k ≤ 32 → ∃ c : Nat, Ue (fun k s => j5 .i64 (s + Wa .i64 (Zb .i64 (n : Int) (k : Int)) 1)) k (0 : Int) = (c : Int) ∧ c ≤ k ∧ c + cnt (32 - k) (n / 2 ^ k) = C := by
  intro k
  induction k with
  | zero => intro _; exact ⟨0, rfl, jo _, by rw [← hC, Nat.sub_zero, Nat.pow_zero, Nat.div_one, js]⟩
  | succ k ih =>
   intro hk
   obtain ⟨c, h1, h2, h3⟩ := ih (by omega)
   refine ⟨c + n / 2 ^ k % 2, ?_, by omega, ?_⟩
   ·simp only [Ue, h1]
    rw [TU n (by omega), Nat.shiftRight_eq_div_pow]
    have hd : n / 2 ^ k ≤ n := Nat.div_le_self _ _
    have e : Wa .i64 ((n / 2 ^ k : Nat) : Int) 1 = ((n / 2 ^ k % 2 : Nat) : Int) := by
     show Wa .i64 ((n / 2 ^ k : Nat) : Int) ((1 : Nat) : Int) = _
     rw [OL (by rw [XK]; omega) (by decide), Nat.and_one_is_mod]
    rw [e, ← Int.natCast_add, Vg (by omega) (by omega)]
   ·rw [show 32 - k = (32 - (k + 1)) + 1 by omega] at h3
    have h4 : cnt (32 - (k + 1) + 1) (n / 2 ^ k) = n / 2 ^ k % 2 + cnt (32 - (k + 1)) (n / 2 ^ k / 2) := rfl
    rw [h4] at h3
    rw [Nat.pow_succ, ← Nat.div_div_eq_div_mul]
    omega
 obtain ⟨c, h1, _, h3⟩ := hi 32 (jo _)
 have h4 : cnt (32 - 32) (n / 2 ^ 32) = 0 := rfl
 rw [h4, Nat.add_zero] at h3
 rw [h1] at hl
 unfold Dy Uw
 erw [hl]
 rw [← h3]
 rfl
def Hg (m : Zd) : Bool := decide (1 ≤ m.1 ∧ m.1 ≤ 4 ∧ 1 ≤ m.2.1 ∧ m.2.1 ≤ 6)
theorem NH (m : Zd) : Np m = some (Hg m, ()) := by
 unfold Np Hg
 simp only [Ei, Fi]
 apply Wc
 simp only [Rd, decide_eq_true_eq, jq, and_false, or_false]
theorem JQ (m : Zd) : Zx m = some (Hg m, ()) := by
 unfold Zx Hg
 simp only [Xc, jb, Ei, Fi]
 apply Wc
 simp only [Rd, decide_eq_true_eq, jq, and_false, or_false]
 omega
def Dd (m : Zd) : Int := cond (Hg m) (m.1 * m.2.1) 0
theorem KX {m : Zd} (h : Hg m = true) : 1 ≤ m.1 * m.2.1 ∧ m.1 * m.2.1 ≤ 24 := by
 simp only [Hg, decide_eq_true_eq] at h
 obtain ⟨r, c, d, u⟩ := m
 obtain ⟨h1, h2, h3, h4⟩ := h
 simp only at h1 h2 h3 h4 ⊢
 have : r = 1 ∨ r = 2 ∨ r = 3 ∨ r = 4 := by omega
 rcases this with rfl | rfl | rfl | rfl <;> omega
theorem Sv (m : Zd) : Xj m = some (Dd m, ()) := by
 unfold Xj Dd
 rw [NH]
 cases h : Hg m with
 | false => rfl
 | true => simp only [jb, jg, cond_false, cond_true]; rw [Vg (by have := KX h; omega) (by have := KX h; omega)]
theorem Nk (m : Zd) : Cm m = some (Dd m, ()) := by
 unfold Cm Dd
 rw [JQ]
 cases h : Hg m with
 | false => rfl
 | true => simp only [jb, jg, cond_false, cond_true]; rw [Vg (by have := KX h; omega) (by have := KX h; omega)]
theorem Lv {α : Type} (x lo hi : Int) (X r : α) : cond (decide (x < lo)) X (cond (decide (x > hi)) X r) = cond (decide (lo ≤ x ∧ x ≤ hi)) r X := by
 by_cases h1 : x < lo
 ·rw [Aa h1, Ba (show ¬ (lo ≤ x ∧ x ≤ hi) by omega)]; rfl
 ·rw [Ba h1]
  by_cases h2 : x > hi
  ·rw [Aa h2, Ba (show ¬ (lo ≤ x ∧ x ≤ hi) by omega)]; rfl
  ·rw [Ba h2, Aa (show lo ≤ x ∧ x ≤ hi by omega)]; rfl
theorem Wp {α : Type} (b : Bool) (x y : α) : cond (!b) x y = cond b y x := by cases b <;> rfl
theorem Dat (a b : Bool) : cond a (some (b, ())) (some (false, ())) = some ((a && b, ()) : Bool × Unit) := by cases a <;> rfl
theorem IZ {k : Int} (h : 0 ≤ k ∧ k ≤ 62) : Ta .i64 1 k = ((2 ^ k.toNat : Nat) : Int) := by
 have : k = ((k.toNat : Nat) : Int) := by omega
 rw [this, Lk (by omega)]; rfl
theorem Nae {k : Nat} (h : k ≤ 62) : 1 ≤ 2 ^ k ∧ 2 ^ k ≤ 4611686018427387904 := by
 refine ⟨Nat.one_le_two_pow, ?_⟩
 have := qm (n := 2) (by omega) h
 exact this
def Hf (k x : Int) : Bool := decide (0 ≤ x ∧ x < ((2 ^ k.toNat : Nat) : Int))
def Ad (m : Zd) (x : Int) : Bool := Hg m && Hf (Dd m) x
theorem Jab {m : Zd} (h : Hg m = true) : 1 ≤ Dd m ∧ Dd m ≤ 24 := by
 unfold Dd; rw [h]; exact KX h
theorem Wt (m : Zd) (x : Int) : Gn m x = some (Ad m x, ()) := by
 unfold Gn Ad
 rw [NH]
 cases h : Hg m with
 | false => rfl
 | true =>
  have := Jab h
  rw [Sv]
  simp only [jb, cond_true, jk]
  rw [Aa (show 0 ≤ Dd m by omega), IZ (by omega)]
  simp only [cond_true, Dat, Hf]
  apply Wc
  simp only [jd, decide_eq_true_eq]
theorem YY (k x : Int) (h : 0 ≤ k ∧ k ≤ 62) : decide (0 ≤ x ∧ x ≤ j5 .i64 (Ta .i64 1 k - 1)) = Hf k x := by
 have hp := Nae (k := k.toNat) (by omega)
 rw [IZ h]
 unfold Hf
 generalize 2 ^ k.toNat = z at hp
 rw [Vg (by omega) (by omega)]
 rw [decide_eq_decide]
 omega
theorem Ou (m : Zd) (x : Int) : Ln m x = some (Ad m x, ()) := by
 unfold Ln Ad
 rw [JQ]
 cases h : Hg m with
 | false => rfl
 | true =>
  have := Jab h
  rw [Nk]
  simp only [jb, cond_true, jk, Xc]
  rw [Aa (show 0 ≤ Dd m by omega), YY _ _ (by omega)]
  rfl
def Zap (l : List Int) : Bool := Yd (fun _ x => decide ((0 : Int) ≤ x ∧ x ≤ 99)) 0 l
def Sg (d : Ob) : Bool :=
 decide (0 ≤ d.1 ∧ d.1 ≤ 2) && (decide (1 ≤ d.2.1 ∧ d.2.1 ≤ 20) && (decide (1 ≤ d.2.2.1 ∧ d.2.2.1 ≤ 24) && ((((ja d.2.2.2.2.2.1 : Nat) : Int) == d.2.2.1) && (Hf d.2.2.1 d.2.2.2.1 && (Hf d.2.2.1 d.2.2.2.2.1 && Zap d.2.2.2.2.2.1)))))
theorem QK (d : Ob) (hn : d.2.2.2.2.2.1.length ≤ Ea) : Xn d = some (Sg d, ()) := by
 have h20 : Ea = 1048576 := rfl
 have hl := Bf (step := fun x => Om x.1.1 x.1.2.1 x.1.2.2.1) d.2.2.2.2.2.1 (fun _ x => decide ((0 : Int) ≤ x ∧ x ≤ 99)) (fun i => ((d.2.2.2.2.2.1, ((ja d.2.2.2.2.2.1 : Nat) : Int), i, ()), ()))
  (.inl ((), ())) (.inr ((false, ()), ())) (by
   intro k hk
   simp only [Om]
   rw [Aa (show (k : Int) < ((ja d.2.2.2.2.2.1 : Nat) : Int) by omega), Kb hk]
   simp only [cond_true, jb, Lv]
   cases decide ((0 : Int) ≤ d.2.2.2.2.2.1[k] ∧ d.2.2.2.2.2.1[k] ≤ 99) <;> rfl) (by
   simp only [Om]
   rw [Ba (by omega)]; rfl) (by omega)
 unfold Xn Hp Sg
 simp only [Lv]
 cases decide (0 ≤ d.1 ∧ d.1 ≤ 2) with
 | false => rfl
 | true =>
  cases decide (1 ≤ d.2.1 ∧ d.2.1 ≤ 20) with
  | false => rfl
  | true =>
   by_cases h3 : 1 ≤ d.2.2.1 ∧ d.2.2.1 ≤ 24
   ·have hp := Nae (k := d.2.2.1.toNat) (by omega)
    rw [Aa h3, Aa (show 0 ≤ d.2.2.1 by omega), IZ (by omega)]
    simp only [cond_true, jk]
    simp only [bne, Wp]
    cases (((ja d.2.2.2.2.2.1 : Nat) : Int) == d.2.2.1) with
    | false => rfl
    | true =>
     simp only [cond_true, jk, Hf]
     have key : ∀ (s z : Int) (X r : Option (Bool × Unit)), cond (decide (s < 0)) X (cond (decide (s ≥ z)) X r) = cond (decide (0 ≤ s ∧ s < z)) r X := by
      intro s z X r
      by_cases h1 : s < 0
      ·rw [Aa h1, Ba (show ¬ (0 ≤ s ∧ s < z) by omega)]; rfl
      ·rw [Ba h1]
       by_cases h2 : s ≥ z
       ·rw [Aa h2, Ba (show ¬ (0 ≤ s ∧ s < z) by omega)]; rfl
       ·rw [Ba h2, Aa (show 0 ≤ s ∧ s < z by omega)]; rfl
     erw [key, key, hl]
     unfold Zap
     cases Yd (fun _ x => decide ((0 : Int) ≤ x ∧ x ≤ 99)) 0 d.2.2.2.2.2.1 <;> cases decide (0 ≤ d.2.2.2.1 ∧ d.2.2.2.1 < ((2 ^ d.2.2.1.toNat : Nat) : Int)) <;> cases decide (0 ≤ d.2.2.2.2.1 ∧ d.2.2.2.2.1 < ((2 ^ d.2.2.1.toNat : Nat) : Int)) <;> rfl
   ·rw [Ba h3]; rfl
theorem YK (d : Ob) (hn : d.2.2.2.2.2.1.length ≤ Ea) : Jo d = some (Sg d, ()) := by
 have h20 : Ea = 1048576 := rfl
 have hl := Bf (step := fun x => An x.1.1 x.1.2.1 x.2.1) d.2.2.2.2.2.1 (fun _ x => decide ((0 : Int) ≤ x ∧ x ≤ 99)) (fun i => (((), i, ()), (d, ())))
  (.inl (((), ()), (d, ()))) (.inr ((false, ()), ())) (by
   intro k hk
   simp only [An]
   rw [Aa (show (k : Int) < ((ja d.2.2.2.2.2.1 : Nat) : Int) by omega), Kb hk]
   simp only [cond_true, jb, Xc]
   cases decide ((0 : Int) ≤ d.2.2.2.2.2.1[k] ∧ d.2.2.2.2.2.1[k] ≤ 99) <;> rfl) (by
   simp only [An]
   rw [Ba (by omega)]; rfl) (by omega)
 unfold Jo Ip Sg
 simp only [Xc, jb, Wp]
 cases decide (0 ≤ d.1 ∧ d.1 ≤ 2) with
 | false => rfl
 | true =>
  cases decide (1 ≤ d.2.1 ∧ d.2.1 ≤ 20) with
  | false => rfl
  | true =>
   by_cases h3 : 1 ≤ d.2.2.1 ∧ d.2.2.1 ≤ 24
   ·rw [Aa h3]
    simp only [cond_true, jk]
    simp only [bne, Wp]
    cases (((ja d.2.2.2.2.2.1 : Nat) : Int) == d.2.2.1) with
    | false => rfl
    | true =>
     simp only [cond_true, jk]
     erw [hl]
     unfold Zap
     cases Yd (fun _ x => decide ((0 : Int) ≤ x ∧ x ≤ 99)) 0 d.2.2.2.2.2.1 with
     | false => cases Hf d.2.2.1 d.2.2.2.1 <;> cases Hf d.2.2.1 d.2.2.2.2.1 <;> rfl
     | true =>
      simp only [cond_true, jb, qk]
      rw [Aa (show 0 ≤ d.2.2.1 by omega), YY _ _ (by omega), YY _ _ (by omega)]
      cases Hf d.2.2.1 d.2.2.2.1 <;> cases Hf d.2.2.1 d.2.2.2.2.1 <;> rfl
   ·rw [Ba h3]; rfl
def Kv (L : List Va) (i : Nat) (x : Va) : Bool :=
 decide (0 ≤ x.1 ∧ x.1 ≤ 16777215) && (decide (24 ≤ x.2.1 ∧ x.2.1 ≤ 31) && (decide (2 ≤ ((cnt 32 x.1.toNat : Nat) : Int) ∧ ((cnt 32 x.1.toNat : Nat) : Int) ≤ 4) && Yd (fun _ (y : Va) => !(y.1 == x.1) && !(y.2.1 == x.2.1)) 0 (L.take i)))
def Yg (L : List Va) : Bool := decide (L.length ≤ 8) && Yd (fun i x => Kv L i x) 0 L
theorem X8 {α : Type} {L : List α} {i k : Nat} (h : k < (L.take i).length) : (L.take i)[k] = L[k]'(by simp at h; omega) := by simp
theorem QP (L : List Va) (hn : L.length ≤ Ea) : Lx L = some (Yg L, ()) := by
 have h20 : Ea = 1048576 := rfl
 have hl := Bf (step := fun x => Es x.1.1 x.1.2.1 x.1.2.2.1 x.1.2.2.2.1) L (fun i x => Kv L i x) (fun i => ((L, L, ((ja L : Nat) : Int), i, ()), ()))
  (.inl ((), ())) (.inr ((false, ()), ())) (by
   intro k hk
   simp only [Es]
   rw [Aa (show (k : Int) < ((ja L : Nat) : Int) by omega), Kb hk]
   simp only [cond_true, jb, Lv, Kv]
   generalize hx : L[k] = x
   by_cases h1 : 0 ≤ x.1 ∧ x.1 ≤ 16777215
   ·rw [Aa h1]
    cases decide (24 ≤ x.2.1 ∧ x.2.1 ≤ 31) with
    | false => rfl
    | true =>
     have e : j5 .u64 x.1 = ((x.1.toNat : Nat) : Int) := by
      have : x.1 = ((x.1.toNat : Nat) : Int) := by omega
      rw [this, YR (by
       have : (2 : Nat) ^ 64 = 18446744073709551616 := by decide
       omega)]
      simp
     rw [e, Rab (by omega)]
     simp only [cond_true, jb, jk, Lv]
     cases decide (2 ≤ ((cnt 32 x.1.toNat : Nat) : Int) ∧ ((cnt 32 x.1.toNat : Nat) : Int) ≤ 4) with
     | false => rfl
     | true =>
      have hcut : Md (ja L) 0 (k : Int) = true := Wi (lo := 0) (Nat.zero_le _) (by omega)
      rw [hcut]
      simp only [cond_true, jk]
      have hin := Bf (step := fun y => Bq y.1.1 y.1.2.1 y.1.2.2.1 y.1.2.2.2.1 y.1.2.2.2.2.1 y.1.2.2.2.2.2.1 y.1.2.2.2.2.2.2.1 y.1.2.2.2.2.2.2.2.1 y.2.1) (L.take k) (fun _ (y : Va) => !(y.1 == x.1) && !(y.2.1 == x.2.1)) (fun i => ((L, (), L, ((ja L : Nat) : Int), (k : Int), L.take k, ((ja (L.take k) : Nat) : Int), i, ()), (x, ())))
       (.inl ((L, L, ((ja L : Nat) : Int), (k : Int), ()), ())) (.inr ((false, ()), ())) (by
        intro j hj
        simp only [Bq]
        rw [Aa (show (j : Int) < ((ja (L.take k) : Nat) : Int) by omega), Kb hj]
        simp only [cond_true, jb]
        cases ((L.take k)[j].1 == x.1) <;> cases ((L.take k)[j].2.1 == x.2.1) <;> rfl) (by
        simp only [Bq]
        rw [Ba (by omega)]; rfl) (by simp; omega)
      have hc : Eb L (jy (0 : Int)) (jy (k : Int)) = L.take k := by simp [Eb]
      rw [hc]
      unfold Tt
      erw [hin]
      cases Yd (fun _ (y : Va) => !(y.1 == x.1) && !(y.2.1 == x.2.1)) 0 (L.take k) <;> rfl
   ·rw [Ba h1]; rfl) (by
   simp only [Es]
   rw [Ba (by omega)]; rfl) (by omega)
 unfold Lx Rv Yg
 by_cases h8 : L.length ≤ 8
 ·rw [Ba (show ¬ ((ja L : Nat) : Int) > 8 by omega), Aa h8]
  simp only [cond_false, jk]
  erw [hl]
  cases Yd (fun i x => Kv L i x) 0 L <;> rfl
 ·rw [Aa (show ((ja L : Nat) : Int) > 8 by omega), Ba h8]; rfl
theorem HQ (L : List Va) (hn : L.length ≤ Ea) : Xx L = some (Yg L, ()) := by
 have h20 : Ea = 1048576 := rfl
 have hl := Bf (step := fun x => Ys x.1.1 x.1.2.1) L (fun i x => Kv L i x) (fun i => ((L, i, ()), ()))
  (.inl ((L, ()), ())) (.inr ((false, ()), ())) (by
   intro k hk
   simp only [Ys]
   rw [Aa (show (k : Int) < ((ja L : Nat) : Int) by omega), Kb hk]
   simp only [cond_true, jb, Xc, Wp, Kv]
   generalize hx : L[k] = x
   by_cases h1 : 0 ≤ x.1 ∧ x.1 ≤ 16777215
   ·rw [Aa h1]
    have e : Dy x.1 = some (((cnt 32 x.1.toNat : Nat) : Int), ()) := by
     obtain ⟨n, hnn⟩ := jv h1.1
     rw [hnn, jn]
     exact J3 (by omega)
    rw [e]
    simp only [cond_true, jb, jk]
    cases decide (2 ≤ ((cnt 32 x.1.toNat : Nat) : Int) ∧ ((cnt 32 x.1.toNat : Nat) : Int) ≤ 4) with
    | false => cases decide (24 ≤ x.2.1 ∧ x.2.1 ≤ 31) <;> rfl
    | true =>
     cases decide (24 ≤ x.2.1 ∧ x.2.1 ≤ 31) with
     | false => rfl
     | true =>
      simp only [cond_true, jk]
      have hin := Bf (step := fun y => Zs y.1.1 y.1.2.1 y.1.2.2.1) (L.take k) (fun _ (y : Va) => !(y.1 == x.1) && !(y.2.1 == x.2.1)) (fun i => ((L, (k : Int), i, ()), ()))
       (.inl ((L, (k : Int), ()), ())) (.inr ((false, ()), ())) (by
        intro j hj
        have hj2 : j < k := by simp at hj; omega
        simp only [Zs]
        rw [Aa (show (j : Int) < (k : Int) by omega), Kb (show j < L.length by omega), Kb hk, hx, X8 hj]
        simp only [cond_true, jb]
        cases (L[j].1 == x.1) <;> cases (L[j].2.1 == x.2.1) <;> rfl) (by
        have : ((ja (L.take k) : Nat) : Int) = (k : Int) := by simp; omega
        simp only [Zs]
        rw [Ba (by omega)]; rfl) (by simp; omega)
      unfold Pw
      erw [hin]
      cases Yd (fun _ (y : Va) => !(y.1 == x.1) && !(y.2.1 == x.2.1)) 0 (L.take k) <;> rfl
   ·rw [Ba h1]; rfl) (by
   simp only [Ys]
   rw [Ba (by omega)]; rfl) (by omega)
 unfold Xx Ow Yg
 erw [hl]
 cases Yd (fun i x => Kv L i x) 0 L with
 | true =>
  simp only [cond_true, jb, qk, Bool.and_true]
  apply Wc
  simp only [decide_eq_true_eq]; omega
 | false => cases decide (L.length ≤ 8) <;> rfl
def CG : Va := (0, 0, ())
def Nj (L : List Va) (o : Int) : Option Va := L.find? (fun c => c.2.1 == o)
theorem NU {α : Type} (p : α → Bool) : ∀ (xs : List α) (k : Nat), (Nc (fun _ (_ : Unit) x => cond (p x) (.inr x) (.inl ())) k () xs : Unit ⊕ α) = match xs.find? p with | some x => .inr x | none => .inl ()
 | [], _ => rfl
 | x :: xs, k => by
  rcases Bool.eq_false_or_eq_true (p x) with hp | hp
  ·simp only [Nc, hp, cond_true, List.find?_cons]
  ·simp only [Nc, hp, cond_false, List.find?_cons]; exact NU p xs (k + 1)
theorem BR (L : List Va) (o : Int) (hn : L.length ≤ Ea) : LB L o = some ((Nj L o).getD CG, (Nj L o).isSome, ()) := by
 have h20 : Ea = 1048576 := rfl
 have hl := Ag (step := fun x => Wv x.1.1 x.1.2.1 x.1.2.2.1 x.1.2.2.2.1 x.1.2.2.2.2.1 x.2.1) L (fun _ (_ : Unit) (x : Va) => cond (x.2.1 == o) (.inr x) (.inl ())) (fun _ i => ((o, (), L, ((ja L : Nat) : Int), i, ()), (((0 : Int), (0 : Int), ()), ())))
  (fun _ => .inl (((), ()), (((0 : Int), (0 : Int), ()), ()))) (fun x => .inr (((), true, ()), (x, ()))) (fun _ _ => True) (by
   intro k hk s _
   refine ⟨?_, fun _ _ => trivial⟩
   simp only [Wv]
   rw [Aa (show (k : Int) < ((ja L : Nat) : Int) by omega), Kb hk]
   simp only [cond_true, jb]
   cases (L[k].2.1 == o) <;> rfl) (by
   intro s _
   simp only [Wv]
   rw [Ba (by omega)]; rfl) (by omega) () trivial
 unfold LB Vy Nj
 erw [hl, NU]
 cases List.find? (fun c => c.2.1 == o) L <;> rfl
theorem TR (L : List Va) (o : Int) (hn : L.length ≤ Ea) : NC L o = some (((Nj L o).getD CG).1, ()) := by
 have h20 : Ea = 1048576 := rfl
 have hl := Ag (step := fun x => Xw x.1.1 x.1.2.1 x.1.2.2.1) L (fun _ (_ : Unit) (x : Va) => cond (x.2.1 == o) (.inr x) (.inl ())) (fun _ i => ((L, o, i, ()), ()))
  (fun _ => .inl ((), ())) (fun x => .inr ((x.1, ()), ())) (fun _ _ => True) (by
   intro k hk s _
   refine ⟨?_, fun _ _ => trivial⟩
   simp only [Xw]
   rw [Aa (show (k : Int) < ((ja L : Nat) : Int) by omega), Kb hk]
   simp only [cond_true, jb]
   cases (L[k].2.1 == o) <;> rfl) (by
   intro s _
   simp only [Xw]
   rw [Ba (by omega)]; rfl) (by omega) () trivial
 unfold NC Bz Nj
 erw [hl, NU]
 cases List.find? (fun c => c.2.1 == o) L <;> rfl
theorem HU {L : List Va} {o : Int} (h : Yg L = true) (hs : (Nj L o).isSome = true) : 24 ≤ o ∧ o ≤ 31 ∧ 0 ≤ ((Nj L o).getD CG).1 ∧ ((Nj L o).getD CG).1 ≤ 16777215 := by
 unfold Nj at *
 cases hc : List.find? (fun c => c.2.1 == o) L with
 | none => rw [hc] at hs; simp at hs
 | some c =>
  have h1 := List.find?_some hc
  have h2 := List.mem_of_find?_eq_some hc
  obtain ⟨i, hi, rfl⟩ := qt h2
  simp only [Yg, jd] at h
  have h3 := DB.1 h.2 i hi
  simp only [Kv, jd, decide_eq_true_eq] at h3
  simp only [beq_iff_eq] at h1
  simp only [Option.getD_some]
  omega
def okA (K : Int) (x : Ca) : Bool := !decide (x.2.1 ≤ 0) && (!(Jb .i64 x.2.1 K != 0) && !(x.2.2.1 != (x.2.1 == K)))
def WU (L : List Va) (o : Int) : Int := ((Nj L o).getD CG).1
def L0 (L : List Va) (x : Ca) : Bool := (Nj L x.1).isSome && okA (WU L x.1) x
theorem Sas {x : Int} (h0 : 0 < x) (h1 : x ≤ 9223372036854775807) : Jb .i64 x 0 = x := by
 obtain ⟨n, rfl⟩ := jv (show 0 ≤ x by omega)
 show Jb .i64 (n : Int) ((0 : Nat) : Int) = _
 rw [VW (by rw [XK]; omega) (by decide), Nat.and_zero, Nat.xor_zero]
theorem UaX {L : List Va} {x : Ca} (h1 : x.2.1 ≤ 9223372036854775807) : okA (WU L x.1) x = L0 L x := by
 unfold L0 WU
 cases hc : Nj L x.1 with
 | some c => rfl
 | none =>
  simp only [Option.getD_none, Option.isSome_none, qp, okA, CG]
  by_cases h0 : x.2.1 ≤ 0
  ·rw [Aa h0]; rfl
  ·rw [Sas (by omega) h1, Ba h0]
   have : (x.2.1 != 0) = true := by simp; omega
   rw [this]; rfl
def FC (pre : List Ca) (x : Ca) : Bool := Yd (fun _ (y : Ca) => !(y.1 == x.1)) 0 pre
def ZE (L : List Va) : List Ca → List Ca → Bool
 | _, [] => true
 | pre, x :: r => (L0 L x && FC pre x) && ZE L (pre ++ [x]) r
def EL (c : Oa) : Bool := ZE c.1 [] c.2.2.2.2.2.2.1
theorem B4 {α : Type} (p : α → Bool) : ∀ (xs : List α) (k j : Nat), Yd (fun _ x => p x) k xs = Yd (fun _ x => p x) j xs
 | [], _, _ => rfl
 | x :: xs, k, j => by simp only [Yd]; rw [B4 p xs (k + 1) (j + 1)]
theorem Bac {α : Type} (p : α → Bool) : ∀ (xs ys : List α) (k : Nat), Yd (fun _ x => p x) k (xs ++ ys) = (Yd (fun _ x => p x) k xs && Yd (fun _ x => p x) k ys)
 | [], ys, k => by simp [Yd]
 | x :: xs, ys, k => by
  simp only [List.cons_append, Yd]
  rw [Bac p xs ys (k + 1), Bool.and_assoc, B4 p ys (k + 1) k]
theorem Aav (pre : List Ca) (y x : Ca) : FC (pre ++ [y]) x = (FC pre x && !(y.1 == x.1)) := by
 unfold FC
 rw [Bac]
 simp [Yd]
def Yab (L : List Va) (s : Int) (x : Ca) : Int ⊕ Unit := cond (L0 L x && !(Bd s x.1 == 1)) (.inl (Rc .i64 s (Ta .i64 1 x.1))) (.inr ())
theorem Zab {L : List Va} (hL : Yg L = true) : ∀ (l pre : List Ca) (k : Nat) (s : Nat), s < 2 ^ 63 →
 (∀ x : Ca, 24 ≤ x.1 → x.1 ≤ 31 → (Bd (s : Int) x.1 == 1) = !FC pre x) → Hm (Nc (fun _ s x => Yab L s x) k (s : Int) l) = ZE L pre l
 | [], _, _, _, _, _ => rfl
 | x :: l, pre, k, s, hs, hb => by
  simp only [Nc, ZE, Yab]
  cases ho : L0 L x with
  | false => rfl
  | true =>
   have hk : 24 ≤ x.1 ∧ x.1 ≤ 31 := by
    simp only [L0, jd] at ho
    have := HU hL ho.1
    omega
   rw [hb x hk.1 hk.2]
   simp only [Bool.not_not, jk]
   cases hn : FC pre x with
   | false => rfl
   | true =>
    simp only [cond_true, jk]
    obtain ⟨n, hn2⟩ := jv (show 0 ≤ x.1 by omega)
    have hor : Rc .i64 (s : Int) (Ta .i64 1 x.1) = ((s ||| 2 ^ n : Nat) : Int) := by
     rw [hn2, Lk (by omega), ID hs (Pi (by omega))]
    rw [hor]
    refine Zab hL l (pre ++ [x]) (k + 1) _ (Nat.or_lt_two_pow hs (Pi (by omega))) fun y h1 h2 => ?_
    obtain ⟨m, hm⟩ := jv (show 0 ≤ y.1 by omega)
    rw [← hor, hm, hn2, IaL hs (by omega) (by omega), ← hm, hb y h1 h2, Aav]
    have : (x.1 == y.1) = decide (n = m) := by rw [hm, hn2, qx, beq_iff_eq, decide_eq_true_eq]; omega
    rw [this]
    cases FC pre y <;> cases decide (n = m) <;> rfl
theorem YW (c : Oa) (hc : Yg c.1 = true) (hn : c.2.2.2.2.2.2.1.length ≤ Ea) (hn1 : c.1.length ≤ Ea) : Mz c = some (EL c, ()) := by
 have h20 : Ea = 1048576 := rfl
 have hl := Ag (step := fun x => No x.1.1 x.1.2.1 x.1.2.2.1 x.1.2.2.2.1 x.1.2.2.2.2.1 x.2.1) c.2.2.2.2.2.2.1 (fun _ s x => Yab c.1 s x) (fun s i => (((), s, c.2.2.2.2.2.2.1, ((ja c.2.2.2.2.2.2.1 : Nat) : Int), i, ()), (c, ())))
  (fun _ => .inl ((), ())) (fun _ => .inr ((false, ()), ())) (fun _ _ => True) (by
   intro k hk s _
   refine ⟨?_, fun _ _ => trivial⟩
   simp only [No]
   rw [Aa (show (k : Int) < ((ja c.2.2.2.2.2.2.1 : Nat) : Int) by omega), Kb hk]
   simp only [cond_true, jb]
   generalize c.2.2.2.2.2.2.1[k] = x
   rw [BR _ _ hn1]
   simp only [jb, Yab, L0]
   cases hsome : (Nj c.1 x.1).isSome with
   | false => rfl
   | true =>
    have hk := HU hc hsome
    simp only [jg, cond_false, jk]
    rw [Uk s (by omega), Aa (show 0 ≤ x.1 by omega)]
    simp only [jb, cond_true, okA, WU]
    cases Bd s x.1 == 1 <;> cases decide (x.2.1 ≤ 0) <;> cases (Jb .i64 x.2.1 ((Nj c.1 x.1).getD CG).1 != 0) <;> cases (x.2.2.1 != (x.2.1 == ((Nj c.1 x.1).getD CG).1)) <;> rfl) (by
   intro s _
   simp only [No]
   rw [Ba (by omega)]; rfl) (by omega) 0 trivial
 unfold Mz Lr EL
 erw [hl]
 rw [← Zab hc c.2.2.2.2.2.2.1 [] 0 0 (by decide) (fun x h1 h2 => by
  obtain ⟨m, hm⟩ := jv (show 0 ≤ x.1 by omega)
  rw [hm, Jr (by decide) (by omega), Nat.zero_testBit]; rfl)]
 show jz (some _) _ = _
 simp only [jb]
 show j7 _ _ _ = _
 cases Nc (fun x s x => Yab c.1 s x) 0 ((0 : Nat) : Int) c.2.2.2.2.2.2.1 <;> rfl
def Z5 (s : Int) (x : Ca) : Int ⊕ Unit := cond (Wa .i64 s x.2.1 != 0) (.inr ()) (.inl (Rc .i64 s x.2.1))
def Y5 (c : Oa) : Bool := Hm (Nc (fun _ s x => Z5 s x) 0 c.2.2.2.2.2.1 c.2.2.2.2.2.2.1)
def orK (k : Nat) (s : Int) (l : List Ca) : Int := Jd (fun _ s (x : Ca) => Rc .i64 s x.2.1) k s l
def Kl (c : Oa) : Int := orK 0 c.2.2.2.2.2.1 c.2.2.2.2.2.2.1
theorem AaE : ∀ (l : List Ca) (k : Nat) (s : Int), Nc (fun _ s x => Z5 s x) k s l = cond (Hm (Nc (fun _ s x => Z5 s x) k s l)) (.inl (orK k s l)) (.inr ())
 | [], _, _ => rfl
 | x :: l, k, s => by
  simp only [Nc, orK, Jd, Z5]
  cases Wa .i64 s x.2.1 != 0 with
  | true => rfl
  | false => simp only [cond_false]; exact AaE l (k + 1) _
theorem Zv (c : Oa) (hn : c.2.2.2.2.2.2.1.length ≤ Ea) : Ai c = some (cond (Y5 c) (Kl c) 0, Y5 c, ()) := by
 have h20 : Ea = 1048576 := rfl
 have hl := Ag (step := fun x => Ol x.1.1 x.1.2.1 x.1.2.2.1 x.1.2.2.2.1) c.2.2.2.2.2.2.1 (fun _ s x => Z5 s x) (fun s i => ((s, c.2.2.2.2.2.2.1, ((ja c.2.2.2.2.2.2.1 : Nat) : Int), i, ()), ()))
  (fun s => .inl ((s, ()), ())) (fun _ => .inr (((0 : Int), false, ()), ())) (fun _ _ => True) (by
   intro k hk s _
   refine ⟨?_, fun _ _ => trivial⟩
   simp only [Ol]
   rw [Aa (show (k : Int) < ((ja c.2.2.2.2.2.2.1 : Nat) : Int) by omega), Kb hk]
   simp only [cond_true, jb, Z5]
   cases (Wa .i64 s c.2.2.2.2.2.2.1[k].2.1 != 0) <;> rfl) (by
   intro s _
   simp only [Ol]
   rw [Ba (by omega)]; rfl) (by omega) c.2.2.2.2.2.1 trivial
 unfold Ai Ao Y5 Kl
 erw [hl, AaE]
 show jz (some _) _ = _
 cases Hm (Nc (fun _ s x => Z5 s x) 0 c.2.2.2.2.2.1 c.2.2.2.2.2.2.1) <;> rfl
theorem MK (c : Oa) (hn : c.2.2.2.2.2.2.1.length ≤ Ea) : Uu c = some (Kl c, ()) := by
 have h20 : Ea = 1048576 := rfl
 have hl := (Qe (step := fun x => Ww x.1.1 x.1.2.1 x.1.2.2.1 x.2.1) c.2.2.2.2.2.2.1 (fun _ s (x : Ca) => Rc .i64 s x.2.1) (fun s i => (((), s, i, ()), (c, ())))
  (fun s => .inl ((s, ()), ())) (fun _ _ => True) (by
   intro k hk s _
   refine ⟨?_, trivial⟩
   simp only [Ww]
   rw [Aa (show (k : Int) < ((ja c.2.2.2.2.2.2.1 : Nat) : Int) by omega), Kb hk]; rfl) (by
   intro s _
   simp only [Ww]
   rw [Ba (by omega)]; rfl) (by omega) c.2.2.2.2.2.1 trivial).1
 unfold Uu Az Kl orK
 erw [hl]; rfl
def Aac (L : List Va) (l : List Ca) (k : Nat) (s : Int) (x : Ca) : Int ⊕ Unit :=
 cond (okA (WU L x.1) x && (!(Wa .i64 x.2.1 s != 0) && FC (l.take k) x)) (.inl (Rc .i64 s x.2.1)) (.inr ())
theorem Tat (x y : Int) : Wa .i64 x y = Wa .i64 y x := by unfold Wa; rw [BitVec.and_comm]
theorem X3 (L : List Va) (l : List Ca) : ∀ (r : List Ca) (k : Nat) (s : Int), l.drop k = r → k ≤ l.length → (∀ x ∈ r, x.2.1 ≤ 9223372036854775807) →
 Hm (Nc (Aac L l) k s r) = (ZE L (l.take k) r && Hm (Nc (fun _ s x => Z5 s x) k s r))
 | [], _, _, _, _, _ => rfl
 | x :: r, k, s, hd, hle, hr => by
  obtain ⟨hk, hx, hd'⟩ := BN hd
  have ht : l.take (k + 1) = l.take k ++ [x] := by rw [Y8 hk, hx]
  simp only [Nc, ZE, Aac, Z5]
  rw [UaX (hr x (by simp)), Tat x.2.1 s]
  cases L0 L x with
  | false => rfl
  | true =>
   cases (Wa .i64 s x.2.1 != 0) with
   | true => simp [Hm]
   | false =>
    cases FC (l.take k) x with
    | false => rfl
    | true =>
     simp only [qa, jk, cond_true, cond_false]
     rw [X3 L l r (k + 1) _ hd' hk (fun y hy => hr y (by simp [hy])), ht]; rfl
theorem WZ (c : Oa) (hr : ∀ x ∈ c.2.2.2.2.2.2.1, x.2.1 ≤ 9223372036854775807) (hn : c.2.2.2.2.2.2.1.length ≤ Ea) (hn1 : c.1.length ≤ Ea) :
 YD c = some (decide (0 ≤ c.2.2.2.2.2.1 ∧ c.2.2.2.2.2.1 ≤ 16777215) && (EL c && Y5 c), ()) := by
 have h20 : Ea = 1048576 := rfl
 have hl := Ag (step := fun x => Ar x.1.1 x.1.2.1 x.1.2.2.1 x.2.1) c.2.2.2.2.2.2.1 (Aac c.1 c.2.2.2.2.2.2.1) (fun s i => (((), s, i, ()), (c, ())))
  (fun _ => .inl (((), ()), (c, ()))) (fun _ => .inr ((false, ()), ())) (fun _ _ => True) (by
   intro k hk s _
   refine ⟨?_, fun _ _ => trivial⟩
   simp only [Ar]
   rw [Aa (show (k : Int) < ((ja c.2.2.2.2.2.2.1 : Nat) : Int) by omega), Kb hk]
   simp only [cond_true, jb]
   rw [TR _ _ hn1]
   generalize hx : c.2.2.2.2.2.2.1[k] = x
   simp only [jb, Aac, okA, WU]
   have hin := Bf (step := fun y => Bp y.1.1 y.1.2.1 y.1.2.2.1 y.1.2.2.2.1 y.1.2.2.2.2.1 y.2.1 y.2.2.1) (c.2.2.2.2.2.2.1.take k) (fun _ (y : Ca) => !(y.1 == x.1)) (fun i => (((), s, (k : Int), (), i, ()), (c, x, ())))
    (.inl (((), s, (k : Int), (), ()), (c, x, ()))) (.inr ((false, ()), ())) (by
     intro j hj
     have hj2 : j < k := by simp at hj; omega
     simp only [Bp]
     rw [Aa (show (j : Int) < (k : Int) by omega), Kb (show j < c.2.2.2.2.2.2.1.length by omega), X8 hj]
     simp only [cond_true, jb]
     cases (c.2.2.2.2.2.2.1[j].1 == x.1) <;> rfl) (by
     have : ((ja (c.2.2.2.2.2.2.1.take k) : Nat) : Int) = (k : Int) := by simp; omega
     simp only [Bp]
     rw [Ba (by omega)]; rfl) (by simp; omega)
   unfold Wr FC
   erw [hin]
   cases decide (x.2.1 ≤ 0) with
   | true => rfl
   | false =>
    cases (Jb .i64 x.2.1 ((Nj c.1 x.1).getD CG).1 != 0) with
    | true => rfl
    | false =>
     cases (x.2.2.1 != (x.2.1 == ((Nj c.1 x.1).getD CG).1)) with
     | true => rfl
     | false =>
      cases (Wa .i64 x.2.1 s != 0) with
      | true => rfl
      | false => cases Yd (fun _ (y : Ca) => !(y.1 == x.1)) 0 (c.2.2.2.2.2.2.1.take k) <;> rfl) (by
   intro s _
   simp only [Ar]
   rw [Ba (by omega)]; rfl) (by omega) c.2.2.2.2.2.1 trivial
 unfold YD Su EL Y5
 erw [hl]
 have hs := X3 c.1 c.2.2.2.2.2.2.1 c.2.2.2.2.2.2.1 0 c.2.2.2.2.2.1 rfl (Nat.zero_le _) hr
 rw [List.take_zero] at hs
 rw [← hs]
 show jz (some _) _ = _
 cases Nc (Aac c.1 c.2.2.2.2.2.2.1) 0 c.2.2.2.2.2.1 c.2.2.2.2.2.2.1 with
 | inl s =>
  simp only [jb, qk, Xc, Hm, Bool.and_true]
 | inr u => simp only [jb, Sum.elim_inr, Hm, Bool.and_false]
def Pd (c : Oa) : Bool :=
 Yg c.1 && (decide (1 ≤ c.2.1 ∧ c.2.1 ≤ 200) && (decide (0 ≤ c.2.2.2.1 ∧ c.2.2.2.1 ≤ 1000000) && (decide (0 ≤ c.2.2.2.2.1 ∧ c.2.2.2.2.1 ≤ c.2.2.2.1) && ((decide (0 ≤ c.2.2.2.2.2.1 ∧ c.2.2.2.2.2.1 ≤ 16777215) && (EL c && Y5 c)) &&
  (Gd c.2.2.1 (Kl c) 24 && Kf c.2.2.1 c.2.2.2.1)))))
structure Qi (c : Oa) : Prop where
 a : c.1.length ≤ Ea
 q : c.2.2.1.length ≤ Ea
 e : c.2.2.2.2.2.2.1.length ≤ Ea
 r : ∀ x ∈ c.2.2.2.2.2.2.1, x.2.1 ≤ 9223372036854775807
theorem CN (c : Oa) (h : Qi c) : Aq c = some (Pd c, ()) := by
 unfold Aq Pd
 rw [QP _ h.a]
 cases hc : Yg c.1 with
 | false => rfl
 | true =>
  rw [YW c hc h.e h.a, Zv c h.e]
  simp only [jb, Wp, cond_true, jk, Lv]
  cases decide (1 ≤ c.2.1 ∧ c.2.1 ≤ 200) with
  | false => rfl
  | true =>
   cases decide (0 ≤ c.2.2.2.1 ∧ c.2.2.2.1 ≤ 1000000) with
   | false => rfl
   | true =>
    cases decide (0 ≤ c.2.2.2.2.1 ∧ c.2.2.2.2.1 ≤ c.2.2.2.1) with
    | false => rfl
    | true =>
     cases decide (0 ≤ c.2.2.2.2.2.1 ∧ c.2.2.2.2.2.1 ≤ 16777215) with
     | false => rfl
     | true =>
      cases EL c with
      | false => rfl
      | true =>
       cases Y5 c with
       | false => rfl
       | true =>
        simp only [cond_true, jk]
        rw [Ns _ _ _ h.q, Ms _ _ h.q]
        cases Gd c.2.2.1 (Kl c) 24 <;> rfl
theorem MN (c : Oa) (h : Qi c) : Wq c = some (Pd c, ()) := by
 have h20 : Ea = 1048576 := rfl
 unfold Wq Pd
 rw [HQ _ h.a]
 cases hc : Yg c.1 with
 | false => rfl
 | true =>
  rw [WZ c h.r h.e h.a, MK c h.e]
  simp only [jb, Wp, cond_true, jk, Xc]
  cases decide (1 ≤ c.2.1 ∧ c.2.1 ≤ 200) with
  | false => rfl
  | true =>
   cases decide (0 ≤ c.2.2.2.1 ∧ c.2.2.2.1 ≤ 1000000) with
   | false => rfl
   | true =>
    cases decide (0 ≤ c.2.2.2.2.1 ∧ c.2.2.2.2.1 ≤ c.2.2.2.1) with
    | false => rfl
    | true =>
     cases (decide (0 ≤ c.2.2.2.2.2.1 ∧ c.2.2.2.2.2.1 ≤ 16777215) && (EL c && Y5 c)) with
     | false => rfl
     | true =>
      simp only [cond_true, jk]
      rw [Zq _ _ _ h.q]
      simp only [jb]
      cases Gd c.2.2.1 (Kl c) 24 with
      | false => rfl
      | true =>
       simp only [cond_true, jk, Kf]
       by_cases h0 : c.2.2.1.length = 0
       ·have : (((c.2.2.1.length : Nat) : Int) == 0) = true := by simp [h0]
        rw [this]; rfl
       ·obtain ⟨x, h1, h2⟩ := PP (l := c.2.2.1) (by omega) h.q
        have : (((c.2.2.1.length : Nat) : Int) == 0) = false := by
         rw [beq_eq_false_iff_ne]; omega
        rw [this, h1]
        simp only [cond_false, jb, Bool.false_or, h2]
def qdG (s : Int) (x : Ca) : Int := cond x.2.2.1 (Rc .i64 s (Ta .i64 1 x.2.1)) (Jb .i64 s (Ta .i64 1 x.2.1))
def qdI (d : Int) (q : List Ca) : Int := Jd (fun _ s x => qdG s x) 0 d q
def tgG (s : Int) (x : Ca) : Int := Me .i64 s (Ta .i64 1 x.2.1)
def tgI (d : Int) (q : List Ca) : Int := Jd (fun _ s x => tgG s x) 0 d q
theorem GO (d : Int) (q : List Ca) (hn : q.length ≤ Ea) (hx : ∀ x ∈ q, 0 ≤ x.2.1) : Zt d q = some (qdI d q, ()) := by
 have h20 : Ea = 1048576 := rfl
 have hl := (Qe (step := fun x => Gq x.1.1 x.1.2.1 x.1.2.2.1 x.1.2.2.2.1) q (fun _ s x => qdG s x) (fun s i => ((s, q, ((ja q : Nat) : Int), i, ()), ()))
  (fun s => .inl ((s, ()), ())) (fun _ _ => True) (by
   intro k hk s _
   refine ⟨?_, trivial⟩
   simp only [Gq]
   rw [Aa (show (k : Int) < ((ja q : Nat) : Int) by omega), Kb hk]
   simp only [cond_true, jb]
   rw [Aa (hx _ (qr hk))]
   unfold qdG
   cases q[k].2.2.1 <;> rfl) (by
   intro s _
   simp only [Gq]
   rw [Ba (by omega)]; rfl) (by omega) d trivial).1
 unfold Zt Au qdI
 erw [hl]; rfl
theorem KT {k : Int} (h : 0 ≤ k ∧ k ≤ 31) : Ur k = some (Ta .i64 1 k, ()) := by
 unfold Ur
 rw [Xc, Aa h, Aa h.1]; rfl
theorem NN (d : Int) (q : List Ca) (hn : q.length ≤ Ea) (hx : ∀ x ∈ q, 0 ≤ x.2.1 ∧ x.2.1 ≤ 31) : Cr d q = some (tgI d q, ()) := by
 have h20 : Ea = 1048576 := rfl
 have hl := (Qe (step := fun x => Dp x.1.1 x.1.2.1 x.1.2.2.1) q (fun _ s x => tgG s x) (fun s i => ((s, q, i, ()), ()))
  (fun s => .inl ((s, ()), ())) (fun _ _ => True) (by
   intro k hk s _
   refine ⟨?_, trivial⟩
   simp only [Dp]
   rw [Aa (show (k : Int) < ((ja q : Nat) : Int) by omega), Kb hk]
   simp only [cond_true, jb]
   rw [KT (hx _ (qr hk))]; rfl) (by
   intro s _
   simp only [Dp]
   rw [Ba (by omega)]; rfl) (by omega) d trivial).1
 unfold Cr Xr tgI
 erw [hl]; rfl
theorem MU : ∀ {q : List Ca} {k : Nat} {s : Int × Int}, Hm (Nc (fun _ s x => Ot s x) k s q) = true → ∀ x ∈ q, Gh x = true
 | [], _, _, _, x, hx => by simp at hx
 | y :: q, k, s, h, x, hx => by
  simp only [Nc, Ot] at h
  cases hc : Pt s y with
  | false => rw [hc] at h; simp [Hm] at h
  | true =>
   rw [hc] at h
   rcases jp.1 hx with rfl | hx
   ·simp only [Pt, jd] at hc; exact hc.1
   ·exact MU h x hx
theorem XaD : ∀ (q : List Ca) (k : Nat) (t : Int) (d : Nat), d < 2 ^ 63 → Hm (Nc (fun _ s x => Ot s x) k (t, (d : Int)) q) = true →
 Jd (fun _ s x => qdG s x) k (d : Int) q = Jd (fun _ s x => tgG s x) k (d : Int) q
 | [], _, _, _, _, _ => rfl
 | x :: q, k, t, d, hd, h => by
  simp only [Nc, Ot] at h
  cases hc : Pt (t, (d : Int)) x with
  | false => rw [hc] at h; simp [Hm] at h
  | true =>
   rw [hc] at h
   simp only [cond_true] at h
   simp only [Pt, jd, Bool.not_eq_true'] at hc
   have hk := Vj hc.1
   obtain ⟨n, hn⟩ := jv hk.2.2.1
   have hn31 : n ≤ 31 := by omega
   have e : qdG (d : Int) x = tgG (d : Int) x := by
    unfold qdG tgG
    have hb := hc.2.2
    rw [hn] at hb ⊢
    cases hp : x.2.2.1 with
    | true =>
     rw [hp] at hb
     exact UaM hd (by omega) (by cases hz : (Bd (d : Int) (n : Int) == 1) with
      | false => rfl
      | true => rw [hz] at hb; simp at hb)
    | false =>
     rw [hp] at hb
     exact Bax hd (by omega) (by cases hz : (Bd (d : Int) (n : Int) == 1) with
      | true => rfl
      | false => rw [hz] at hb; simp at hb)
   obtain ⟨b, hb1, hb2⟩ := Oag (a := d) (k := n) hd (by omega)
   have hg : tgG (d : Int) x = (b : Int) := by unfold tgG; rw [hn]; exact hb1
   simp only [Jd]
   rw [e, hg]
   rw [hn, hb1] at h
   exact XaD q (k + 1) x.1 b hb2 h
theorem Z1 {q : List Ca} {d keys : Int} (h : Gd q d keys = true) : Hm (Nc (fun _ s x => Ot s x) 0 (0, d) q) = true := by
 simp only [Gd, LL, Vaq, jd] at h
 have h2 := h.2
 cases hf : Nc (fun _ s x => Ot s x) 0 (0, d) q with
 | inl s => rfl
 | inr u => rw [hf] at h2; cases hd : decide (q.length ≤ 64) <;> rw [hd] at h2 <;> simp at h2
theorem VY {q : List Ca} {d keys : Int} (hd : 0 ≤ d ∧ d ≤ 9223372036854775807) (h : Gd q d keys = true) : (∀ x ∈ q, 0 ≤ x.2.1 ∧ x.2.1 ≤ 31) ∧ qdI d q = tgI d q := by
 have hf := Z1 h
 refine ⟨fun x hx => ?_, ?_⟩
 ·have := Vj (MU hf x hx); omega
 ·obtain ⟨n, rfl⟩ := jv hd.1
  exact XaD q 0 0 n (by rw [XK]; omega) hf
theorem T2 : ∀ (l : List Pa) (k : Nat) (s : Nat), s < 2 ^ 63 → (∀ x ∈ l, Jt x) → ∃ m : Nat, Jd (fun _ s (x : Pa) => Rc .i64 s (Ta .i64 1 x.1)) k (s : Int) l = (m : Int) ∧ m < 2 ^ 63
 | [], _, s, hs, _ => ⟨s, rfl, hs⟩
 | x :: l, k, s, hs, h => by
  have hx := h x (by simp)
  obtain ⟨n, hn⟩ := jv hx.lo
  have := hx.hi
  simp only [Jd]
  rw [hn, Lk (by omega), ID hs (Pi (by omega))]
  exact T2 l (k + 1) _ (Nat.or_lt_two_pow hs (Pi (by omega))) (fun y hy => h y (by simp [hy]))
theorem Fav : ∀ (l : List Ca) (k : Nat) (s : Nat), s < 2 ^ 63 → (∀ x ∈ l, 0 ≤ x.2.1 ∧ x.2.1 ≤ 9223372036854775807) → ∃ m : Nat, orK k (s : Int) l = (m : Int) ∧ m < 2 ^ 63
 | [], _, s, hs, _ => ⟨s, rfl, hs⟩
 | x :: l, k, s, hs, h => by
  have hx := h x (by simp)
  obtain ⟨n, hn⟩ := jv hx.1
  have hn2 : n < 2 ^ 63 := by rw [XK]; omega
  have := Fav l (k + 1) (s ||| n) (Nat.or_lt_two_pow hs hn2) (fun y hy => h y (by simp [hy]))
  simp only [orK, Jd] at this ⊢
  rw [hn, ID hs hn2]
  exact this
theorem Rag {L : List Va} : ∀ {l pre : List Ca}, ZE L pre l = true → ∀ x ∈ l, L0 L x = true
 | [], _, _, x, hx => by simp at hx
 | y :: l, pre, h, x, hx => by
  simp only [ZE, jd] at h
  rcases jp.1 hx with rfl | hx
  ·exact h.1.1
  ·exact Rag h.2 x hx
structure Cam (x : Ca) : Prop where
 lo : 0 ≤ x.1
 hi : x.1 ≤ 31
 left : 0 ≤ x.2.1
theorem FG {c : Oa} (h : Pd c = true) : ∀ x ∈ c.2.2.2.2.2.2.1, Cam x := by
 intro x hx
 simp only [Pd, jd] at h
 have h1 := Rag (l := c.2.2.2.2.2.2.1) h.2.2.2.2.1.2.1 x hx
 simp only [L0, jd] at h1
 have h2 := HU h.1 h1.1
 have h3 := h1.2
 simp only [okA, jd, Bool.not_eq_true', decide_eq_false_iff_not] at h3
 exact ⟨by omega, by omega, by omega⟩
theorem RV {c : Oa} (hz : Qi c) (h : Pd c = true) : 0 ≤ Kl c ∧ Kl c ≤ 9223372036854775807 := by
 have ha := FG h
 simp only [Pd, jd, decide_eq_true_eq] at h
 have h1 := h.2.2.2.2.1.1
 obtain ⟨n, hn⟩ := jv h1.1
 obtain ⟨m, hm, hm2⟩ := Fav c.2.2.2.2.2.2.1 0 n (by rw [XK]; omega) (fun x hx => ⟨(ha x hx).left, hz.r x hx⟩)
 rw [XK] at hm2
 unfold Kl
 rw [hn, hm]
 omega
def gvG (s : Int) (x : Ca) : Int := cond x.2.2.1 (Rc .i64 s (Ta .i64 1 x.1)) s
def gvI (c : Oa) : Int := Jd (fun _ s x => gvG s x) 0 c.2.2.2.2.2.1 c.2.2.2.2.2.2.1
theorem S7 (c : Oa) (hn : c.2.2.2.2.2.2.1.length ≤ Ea) (ha : ∀ x ∈ c.2.2.2.2.2.2.1, Cam x) : WM c = some (gvI c, ()) := by
 have h20 : Ea = 1048576 := rfl
 have hl := (Qe (step := fun x => RA x.1.1 x.1.2.1 x.1.2.2.1 x.2.1) c.2.2.2.2.2.2.1 (fun _ s x => gvG s x) (fun s i => (((), s, i, ()), (c, ())))
  (fun s => .inl ((s, ()), ())) (fun _ _ => True) (by
   intro k hk s _
   refine ⟨?_, trivial⟩
   have hx := ha _ (qr hk)
   simp only [RA]
   rw [Aa (show (k : Int) < ((ja c.2.2.2.2.2.2.1 : Nat) : Int) by omega), Kb hk]
   simp only [cond_true, jb]
   rw [KT ⟨hx.lo, hx.hi⟩]
   unfold gvG
   cases c.2.2.2.2.2.2.1[k].2.2.1 <;> rfl) (by
   intro s _
   simp only [RA]
   rw [Ba (by omega)]; rfl) (by omega) c.2.2.2.2.2.1 trivial).1
 unfold WM PC gvI
 erw [hl]; rfl
theorem N9 (b : Bc) (t : Int) (hn : b.2.2.1.2.2.2.2.2.2.1.length ≤ Ea) (ha : ∀ x ∈ b.2.2.1.2.2.2.2.2.2.1, Cam x) :
 Nm (((), t, b.2.2.1.2.2.2.2.2.1, b.2.2.1.2.2.2.2.2.2.1, ((ja b.2.2.1.2.2.2.2.2.2.1 : Nat) : Int), (0 : Int), ()), (b, ())) = some (.inl (((), t, gvI b.2.2.1, ()), (b, ()))) := by
 have h20 : Ea = 1048576 := rfl
 have hl := (Qe (step := fun x => Ds x.1.1 x.1.2.1 x.1.2.2.1 x.1.2.2.2.1 x.1.2.2.2.2.1 x.1.2.2.2.2.2.1 x.2.1) b.2.2.1.2.2.2.2.2.2.1 (fun _ s x => gvG s x) (fun s i => (((), t, s, b.2.2.1.2.2.2.2.2.2.1, ((ja b.2.2.1.2.2.2.2.2.2.1 : Nat) : Int), i, ()), (b, ())))
  (fun s => .inl (((), t, s, ()), (b, ()))) (fun _ _ => True) (by
   intro k hk s _
   refine ⟨?_, trivial⟩
   have hx := ha _ (qr hk)
   simp only [Ds]
   rw [Aa (show (k : Int) < ((ja b.2.2.1.2.2.2.2.2.2.1 : Nat) : Int) by omega), Kb hk]
   simp only [cond_true, jb]
   rw [Aa hx.lo]
   unfold gvG
   cases b.2.2.1.2.2.2.2.2.2.1[k].2.2.1 <;> rfl) (by
   intro s _
   simp only [Ds]
   rw [Ba (by omega)]; rfl) (by omega) b.2.2.1.2.2.2.2.2.1 trivial).1
 unfold Nm gvI
 exact hl
def K2 (m : Zd) (keys : Int) (L : List Va) : Bool := Yd (fun _ (x : Va) => Ad m x.1 && !decide (x.2.1 ≥ keys)) 0 L
noncomputable def Pj (b : Bc) : Bool :=
 Hg b.1 && (Sg b.2.1 && (Pd b.2.2.1 && (Ff b.2.2.2.1 && ((b.2.1.2.2.1 == Dd b.1) && (!decide (b.2.2.2.1.1.1.1 < Dd b.1) && (Ad b.1 b.2.2.2.2.1 &&
  (K2 b.1 b.2.2.2.1.1.1.1 b.2.2.1.1 && (decide (0 ≤ b.2.2.2.2.2.1 ∧ b.2.2.2.2.2.1 ≤ 1000000) && (!decide (b.2.2.1.2.2.2.1 > b.2.2.2.2.2.1) && (!decide (b.2.2.2.1.2.2.2.1 > b.2.2.2.2.2.1) &&
  ((tgI (Kl b.2.2.1) b.2.2.1.2.2.1 == b.2.1.2.2.2.1) && (tgI (Vs b.2.2.2.1.1.2.2.2.1) b.2.2.2.1.2.2.1 == gvI b.2.2.1))))))))))))
structure Hk (b : Bc) : Prop where
 d : b.2.1.2.2.2.2.2.1.length ≤ Ea
 c : Qi b.2.2.1
 x : Ja Dc b.2.2.2.1 ≤ Ea
theorem YQ (b : Bc) (h : Hk b) : IB b = some (Pj b, ()) := by
 have h20 : Ea = 1048576 := rfl
 have hq := h.x
 rw [IJ, Dx, Cl, Ok] at hq
 have hn1 := h.c.a
 have hl := Bf (step := fun x => Qv x.1.1 x.1.2.1 x.1.2.2.1 x.1.2.2.2.1 x.1.2.2.2.2.1 x.2.1) b.2.2.1.1 (fun _ (x : Va) => Ad b.1 x.1 && !decide (x.2.1 ≥ b.2.2.2.1.1.1.1)) (fun i => (((), b.2.2.2.1.1.1.1, b.2.2.1.1, ((ja b.2.2.1.1 : Nat) : Int), i, ()), (b, ())))
  (.inl (((), ()), (b, ()))) (.inr ((false, ()), ())) (by
   intro k hk
   simp only [Qv]
   rw [Aa (show (k : Int) < ((ja b.2.2.1.1 : Nat) : Int) by omega), Kb hk]
   simp only [cond_true, jb, Wt]
   cases Ad b.1 b.2.2.1.1[k].1 <;> cases decide (b.2.2.1.1[k].2.1 ≥ b.2.2.2.1.1.1.1) <;> rfl) (by
   simp only [Qv]
   rw [Ba (by omega)]; rfl) (by omega)
 unfold IB Ry Pj
 rw [NH, QK _ h.d, CN _ h.c, DO _ h.x, Sv, Wt]
 simp only [jb, Wp, bne]
 cases Hg b.1 with
 | false => rfl
 | true =>
  cases Sg b.2.1 with
  | false => rfl
  | true =>
   cases hc : Pd b.2.2.1 with
   | false => rfl
   | true =>
    cases hd : Ff b.2.2.2.1 with
    | false => rfl
    | true =>
     cases b.2.1.2.2.1 == Dd b.1 with
     | false => rfl
     | true =>
      cases decide (b.2.2.2.1.1.1.1 < Dd b.1) with
      | true => rfl
      | false =>
       cases Ad b.1 b.2.2.2.2.1 with
       | false => rfl
       | true =>
        simp only [cond_true, cond_false, jk, qa]
        erw [hl]
        unfold K2
        cases Yd (fun _ (x : Va) => Ad b.1 x.1 && !decide (x.2.1 ≥ b.2.2.2.1.1.1.1)) 0 b.2.2.1.1 with
        | false => rfl
        | true =>
         have ha := FG hc
         have hdn := RV h.c hc
         have hc2 := hc
         simp only [Pd, jd] at hc2
         have hf := VY hdn hc2.2.2.2.2.2.1
         have hd2 := hd
         simp only [Ff, jd] at hd2
         have hh := Hn (Iy hd2.1)
         obtain ⟨m, hm, hm2⟩ := T2 b.2.2.2.1.1.2.2.2.1 0 0 (by decide) hh
         rw [XK] at hm2
         have hm' : Vs b.2.2.2.1.1.2.2.2.1 = (m : Int) := hm
         have hf2 := VY (by rw [hm']; omega) hd2.2.2.2.2.1
         simp only [cond_true, jb, qk, Lv]
         rw [Zv _ h.c.e, hc2.2.2.2.2.1.2.2]
         simp only [cond_true, jb]
         rw [N9 _ _ h.c.e ha]
         simp only [jb, qk]
         rw [GO _ _ h.c.q (fun x hx => (hf.1 x hx).1), hf.2]
         simp only [jb]
         rw [PH _ (by omega) hh]
         simp only [jb]
         rw [GO _ _ (by omega) (fun x hx => (hf2.1 x hx).1), hf2.2]
         simp only [jb, jk]
         cases decide (0 ≤ b.2.2.2.2.2.1 ∧ b.2.2.2.2.2.1 ≤ 1000000) <;> cases decide (b.2.2.1.2.2.2.1 > b.2.2.2.2.2.1) <;> cases decide (b.2.2.2.1.2.2.2.1 > b.2.2.2.2.2.1) <;> cases (tgI (Kl b.2.2.1) b.2.2.1.2.2.1 == b.2.1.2.2.2.1) <;> rfl
theorem PR (b : Bc) (h : Hk b) : IC b = some (Pj b, ()) := by
 have h20 : Ea = 1048576 := rfl
 have hq := h.x
 rw [IJ, Dx, Cl, Ok] at hq
 have hn1 := h.c.a
 have hl := Bf (step := fun x => Nw x.1.1 x.1.2.1 x.1.2.2.1 x.2.1) b.2.2.1.1 (fun _ (x : Va) => Ad b.1 x.1 && !decide (x.2.1 ≥ b.2.2.2.1.1.1.1)) (fun i => (((), b.2.2.2.1.1.1.1, i, ()), (b, ())))
  (.inl (((), ()), (b, ()))) (.inr ((false, ()), ())) (by
   intro k hk
   simp only [Nw]
   rw [Aa (show (k : Int) < ((ja b.2.2.1.1 : Nat) : Int) by omega), Kb hk]
   simp only [cond_true, jb, Ou]
   cases Ad b.1 b.2.2.1.1[k].1 <;> cases decide (b.2.2.1.1[k].2.1 ≥ b.2.2.2.1.1.1.1) <;> rfl) (by
   simp only [Nw]
   rw [Ba (by omega)]; rfl) (by omega)
 unfold IC Wy Pj
 rw [YK _ h.d, MN _ h.c, HO _ h.x, Nk, Ou]
 simp only [jb, Wp, bne]
 cases hmat : Hg b.1 with
 | false =>
  have : Dd b.1 = 0 := by unfold Dd; rw [hmat]; rfl
  rw [this]; rfl
 | true =>
  have hk := Jab hmat
  have : (Dd b.1 == 0) = false := by rw [beq_eq_false_iff_ne]; omega
  rw [this]
  cases Sg b.2.1 with
  | false => rfl
  | true =>
   cases b.2.1.2.2.1 == Dd b.1 with
   | false => cases Pd b.2.2.1 <;> cases Ff b.2.2.2.1 <;> rfl
   | true =>
    cases Ad b.1 b.2.2.2.2.1 with
    | false => cases Pd b.2.2.1 <;> cases Ff b.2.2.2.1 <;> cases decide (b.2.2.2.1.1.1.1 < Dd b.1) <;> rfl
    | true =>
     cases hc : Pd b.2.2.1 with
     | false => rfl
     | true =>
      cases hd : Ff b.2.2.2.1 with
      | false => rfl
      | true =>
       cases decide (b.2.2.2.1.1.1.1 < Dd b.1) with
       | true => rfl
       | false =>
        simp only [cond_true, cond_false, jk, qa]
        erw [hl]
        unfold K2
        cases Yd (fun _ (x : Va) => Ad b.1 x.1 && !decide (x.2.1 ≥ b.2.2.2.1.1.1.1)) 0 b.2.2.1.1 with
        | false => rfl
        | true =>
         have ha := FG hc
         have hdn := RV h.c hc
         have hc2 := hc
         simp only [Pd, jd] at hc2
         have hf := VY hdn hc2.2.2.2.2.2.1
         have hd2 := hd
         simp only [Ff, jd] at hd2
         have hh := Hn (Iy hd2.1)
         obtain ⟨m, hm, hm2⟩ := T2 b.2.2.2.1.1.2.2.2.1 0 0 (by decide) hh
         rw [XK] at hm2
         have hm' : Vs b.2.2.2.1.1.2.2.2.1 = (m : Int) := hm
         have hf2 := VY (by rw [hm']; omega) hd2.2.2.2.2.1
         simp only [cond_true, jb, qk, Xc, Wp]
         rw [MK _ h.c.e]
         simp only [cond_true, jb]
         rw [NN _ _ h.c.q hf.1]
         simp only [jb]
         rw [LK _ (by omega) hh]
         simp only [jb]
         rw [NN _ _ (by omega) hf2.1, S7 _ h.c.e ha]
         simp only [jb, jk]
         cases decide (0 ≤ b.2.2.2.2.2.1 ∧ b.2.2.2.2.2.1 ≤ 1000000) <;> cases decide (b.2.2.1.2.2.2.1 > b.2.2.2.2.2.1) <;> cases decide (b.2.2.2.1.2.2.2.1 > b.2.2.2.2.2.1) <;> cases (tgI (Kl b.2.2.1) b.2.2.1.2.2.1 == b.2.1.2.2.2.1) <;> rfl
theorem Hat (d : Ob) : Ja Lb d = d.2.2.2.2.2.1.length := by
 have := Sav d.2.2.2.2.2.1
 simp only [Ja, Nat.add_zero, js] at this ⊢
 exact this
theorem Wag (c : Oa) : Ja Nb c = c.1.length + (c.2.2.1.length + c.2.2.2.2.2.2.1.length) := by
 have h1 := Em (e := Sb) rfl c.1
 have h2 := Em (e := Za) rfl c.2.2.1
 have h3 := Em (e := Za) rfl c.2.2.2.2.2.2.1
 simp only [Ja, Nat.add_zero, js] at h1 h2 h3 ⊢
 rw [h1, h2, h3]
theorem LaE (c : Oa) (hr : Fm Nb c) (hz : Ja Nb c ≤ Ea) : Qi c := by
 rw [Wag] at hz
 refine ⟨by omega, by omega, by omega, fun x hx => ?_⟩
 obtain ⟨i, hi, rfl⟩ := qt hx
 have h1 := hr.2.2.2.2.2.2.1.2 i hi
 exact h1.2.1.2
theorem Fac (b : Bc) : Ja Jc b = Ja Lb b.2.1 + (Ja Nb b.2.2.1 + Ja Dc b.2.2.2.1) := by
 simp only [Ja, Nat.add_zero, js]
theorem Dax (b : Bc) (hr : Fm Jc b) (hz : Ja Jc b ≤ Ea) : Hk b := by
 rw [Fac, Hat] at hz
 exact ⟨by omega, LaE _ hr.2.2.1 (by omega), by omega⟩
theorem Mad {m : Tb} (hz : Ja Vb m ≤ Ea) : ja m.2.1 ≤ Ea ∧ ∀ k (hk : k < m.2.1.length), m.2.1[k].length ≤ Ea := by
 have h0 : Ja Vb m = 0 + (Ja (.sl (.sl Qb)) m.2.1 + 0) := rfl
 have h1 : Ja (.sl (.sl Qb)) m.2.1 = ja m.2.1 + (List.map (Ja (.sl Qb)) m.2.1).sum := rfl
 refine ⟨by omega, fun k hk => ?_⟩
 have h2 := Cx (f := Ja (.sl Qb)) hk
 rw [B6] at h2
 omega
theorem ZW (m : Tb) (hz : Ja Vb m ≤ Ea) : Nz m = some (m, ()) := by
 have h20 : Ea = 1048576 := rfl
 obtain ⟨h1, h2⟩ := Mad hz
 have hl := IR (step := fun x : (Unit × Unit × List (List Bb) × Int × Int × Unit) × Tb × Tb × Unit => Oo x.1.1 x.1.2.1 x.1.2.2.1 x.1.2.2.2.1 x.1.2.2.2.2.1 x.2.1 x.2.2.1) m.2.1 (fun x => x)
  (fun o k => (((), (), m.2.1, (m.2.1.length : Int), k, ()), ((0, [], ()), (m.1, o, ()), ()))) (fun o => .inl (((), (), ()), ((0, [], ()), (m.1, o, ()), ()))) (by omega) (fun k hk o ho => by
   have := h2 k hk
   simp only [Oo]
   rw [Aa (by omega), Kb hk]
   simp only [cond_true, jb]
   rw [Ni (by simp; omega), Ni (by simp only [jw, j8]; omega)]
   rfl) (fun o => by
   simp only [Oo]
   rw [Ba (by omega)]
   rfl)
 unfold Nz Mr
 erw [hl]
 rw [List.map_id']
 rfl
theorem T7 (m : Tb) (hz : Ja Vb m ≤ Ea) : XM m = some (m, ()) := by
 have h20 : Ea = 1048576 := rfl
 obtain ⟨h1, h2⟩ := Mad hz
 have hl := IR (step := fun x : (Unit × Unit × Unit × Int × Unit) × Tb × Tb × Tb × Unit => UA x.1.1 x.1.2.1 x.1.2.2.1 x.1.2.2.2.1 x.2.1 x.2.2.1 x.2.2.2.1) m.2.1 (fun x => x)
  (fun o k => (((), (), (), k, ()), (m, (0, [], ()), (m.1, o, ()), ()))) (fun o => .inl (((), (), ()), ((0, [], ()), (m.1, o, ()), ()))) (by omega) (fun k hk o ho => by
   have := h2 k hk
   simp only [UA]
   rw [Aa (by omega), Kb hk]
   simp only [cond_true, jb]
   rw [Ni (by simp; omega), Ni (by simp only [jw, j8]; omega)]
   rfl) (fun o => by
   simp only [UA]
   rw [Ba (by omega)]
   rfl)
 unfold XM SC
 erw [hl]
 rw [List.map_id']
 rfl
theorem V8 {L : List (List Sc)} (hz : Ja (.sl (.sl Yb)) L ≤ Ea) : ja L ≤ Ea ∧ ∀ k (hk : k < L.length), L[k].length ≤ Ea := by
 have h1 : Ja (.sl (.sl Yb)) L = ja L + (List.map (Ja (.sl Yb)) L).sum := rfl
 refine ⟨by omega, fun k hk => ?_⟩
 have h2 := Cx (f := Ja (.sl Yb)) hk
 rw [Z7] at h2
 omega
theorem AX (L : List (List Sc)) (hz : Ja (.sl (.sl Yb)) L ≤ Ea) : Oz L = some (L, ()) := by
 have h20 : Ea = 1048576 := rfl
 obtain ⟨h1, h2⟩ := V8 hz
 have hl := IR (step := fun x => Po x.1.1 x.1.2.1 x.1.2.2.1 x.1.2.2.2.1) L (fun x => x)
  (fun o k => ((o, L, ((ja L : Nat) : Int), k, ()), ())) (fun o => .inl ((o, ()), ())) (by omega) (fun k hk o ho => by
   have := h2 k hk
   simp only [Po]
   rw [Aa (by omega), Kb hk]
   simp only [cond_true, jb]
   rw [Ni (by simp; omega), Ni (by simp only [jw, j8]; omega)]
   rfl) (fun o => by
   simp only [Po]
   rw [Ba (by omega)]
   rfl)
 unfold Oz Nr
 erw [hl]
 rw [List.map_id']
 rfl
theorem MB (e : Gb) (hz : Ja Xb e ≤ Ea) : Nl e = some (e, ()) := by
 have h20 : Ea = 1048576 := rfl
 rw [Cl, Ok] at hz
 unfold Nl
 rw [ZW _ (by omega), AX _ (by omega), Ni (by simp; omega)]
 rfl
theorem RK (d : Hb) (hz : Ja Dc d ≤ Ea) : Jk d = some (d, ()) := by
 have h20 : Ea = 1048576 := rfl
 rw [IJ, Dx] at hz
 unfold Jk
 rw [MB _ (by omega), Ni (by simp; omega)]
 rfl
theorem LJ (c : Oa) (h : Qi c) : Tj c = some (c, ()) := by
 have h20 : Ea = 1048576 := rfl
 have h1 := h.a
 have h2 := h.q
 have h3 := h.e
 unfold Tj
 rw [Ni (by simp; omega), Ni (by simp; omega), Ni (by simp; omega)]
 rfl
theorem RR (c : Oa) (h : Qi c) : Tu c = some (c, ()) := by
 have h20 : Ea = 1048576 := rfl
 have h1 := h.a
 have h2 := h.q
 have h3 := h.e
 unfold Tu
 rw [Ni (by simp; omega), Ni (by simp; omega), Ni (by simp; omega)]
 rfl
theorem BE (e : Gb) (hz : Ja Xb e ≤ Ea) : Nn e = some (e, ()) := by
 have h20 : Ea = 1048576 := rfl
 rw [Cl, Ok] at hz
 obtain ⟨h1, h2⟩ := V8 (L := e.2.1) (by omega)
 have hl := IR (step := fun x => WA x.1.1 x.1.2.1 x.1.2.2.1 x.1.2.2.2.1 x.2.1 x.2.2.1 x.2.2.2.1) e.2.1 (fun x => x)
  (fun o k => (((), (), (), k, ()), (e, (((0 : Int), ([] : List (List Bb)), ()), ([] : List (List Sc)), (0 : Int), ([] : List Pa), (0 : Int), false, ()), (e.1, o, e.2.2), ())))
  (fun o => .inl (((), (), (), ()), (e, (((0 : Int), ([] : List (List Bb)), ()), ([] : List (List Sc)), (0 : Int), ([] : List Pa), (0 : Int), false, ()), (e.1, o, e.2.2), ()))) (by omega) (fun k hk o ho => by
   have := h2 k hk
   simp only [WA]
   rw [Aa (by omega), Kb hk]
   simp only [cond_true, jb]
   rw [Ni (by simp; omega), Ni (by simp only [jw, j8]; omega)]
   rfl) (fun o => by
   simp only [WA]
   rw [Ba (by omega)]
   rfl)
 unfold Nn UC
 rw [T7 _ (by omega)]
 simp only [jb]
 erw [hl]
 rw [List.map_id']
 simp only [jb, qk]
 rw [Ni (by simp; omega)]
 rfl
theorem MZ (b : Bc) (h : Hk b) : DD b = some (b, ()) := by
 unfold DD
 rw [OH _ h.d, LJ _ h.c, RK _ h.x]
 rfl
theorem T5 (b : Bc) (h : Hk b) : OK b = some (b, ()) := by
 have h20 : Ea = 1048576 := rfl
 have h1 := h.d
 have h2 := h.x
 rw [IJ, Dx] at h2
 unfold OK
 rw [Ni (by simp; omega), RR _ h.c, BE _ (by omega)]
 simp only [cond_true, jb]
 rw [Ni (by simp; omega)]
 rfl
def Mo : Bc := (((0 : Int), (0 : Int), false, ()), ((0 : Int), (0 : Int), (0 : Int), (0 : Int), (0 : Int), ([] : List Int), ()), (([] : List Va), (0 : Int), ([] : List Ca), (0 : Int), (0 : Int), (0 : Int), ([] : List Ca), ()), ((((0 : Int), ([] : List (List Bb)), ()), ([] : List (List Sc)), (0 : Int), ([] : List Pa), (0 : Int), false, ()), ((0 : Int), (0 : Int), (0 : Int), ()), ([] : List Ca), (0 : Int), (0 : Int), (0 : Int), (0 : Int), ()), (0 : Int), (0 : Int), ())
theorem Jad : ∀ (a b : List Int), a.length = b.length → Yd (fun k x => b.getD k 0 == x) 0 a = (b == a)
 | a, b, h => by
  rw [qx, DB, beq_iff_eq]
  constructor
  ·intro hj
   apply List.ext_getElem h.symm
   intro i h1 h2
   have := hj i h2
   rw [js, beq_iff_eq, qj, je h1] at this
   exact this
  ·rintro rfl i hi
   rw [js, beq_iff_eq, qj, je hi]; rfl
theorem J2 (a b : List Int) (hn : a.length ≤ Sa) : JG a b = some (a == b, ()) := by
 have hlim := Be
 unfold JG
 by_cases h : a.length = b.length
 ·have hl := Bf (step := fun x => Ps x.1.1 x.1.2.1 x.1.2.2.1 x.1.2.2.2.1) a (fun k x => b.getD k 0 == x) (fun i => ((a, b, ((ja a : Nat) : Int), i, ()), ()))
   (.inl ((), ())) (.inr ((false, ()), ())) (by
    intro k hk
    simp only [Ps]
    rw [Aa (show (k : Int) < ((ja a : Nat) : Int) by omega), Kb hk, Kb (show k < b.length by omega), qj, je (show k < b.length by omega)]
    simp only [cond_true, jb, Option.getD_some, bne]
    rw [show (a[k] == b[k]) = (b[k] == a[k]) by rw [qx, beq_iff_eq, beq_iff_eq]; exact eq_comm]
    cases b[k] == a[k] <;> rfl) (by
    simp only [Ps]
    rw [Ba (by omega)]; rfl) (by omega)
  have e : (((ja a : Nat) : Int) != ((ja b : Nat) : Int)) = false := by simp [h]
  rw [e]
  simp only [cond_false]
  unfold Yv
  erw [hl]
  rw [Jad a b h, show (b == a) = (a == b) by rw [qx, beq_iff_eq, beq_iff_eq]; exact eq_comm]
  cases a == b <;> rfl
 ·have e : (((ja a : Nat) : Int) != ((ja b : Nat) : Int)) = true := by simp; omega
  have e2 : (a == b) = false := by rw [beq_eq_false_iff_ne]; intro hh; exact h (by rw [hh])
  rw [e, e2]; rfl
theorem Caz (a b : T Mg) (h1 : ja a.2.1 ≤ Sa) (_ : ja b.2.1 ≤ Sa) : (fun x : T (.p Mg (.p Mg .u)) => Dq x.1 x.2.1) (a, b, ()) = some (Ek a b, ()) := by
 show Dq a b = _
 unfold Dq
 rw [J2 _ _ h1]
 simp only [jb, Ek]
 cases (show Int from a.1) == (show Int from b.1) <;> rfl
theorem Cat (c : T Se → T Se → Option Bool) (l : List (T Se)) (hl : ja l ≤ Sa) : ∀ (ys : List (T Se)) (k : Nat) (out q : List (T Se)) (a : T Se), l.drop k = ys → k ≤ ja l → ja out + ja ys ≤ Sa →
 FU c a ys = some q → Gy c (((), out, l, ((ja l : Nat) : Int), (k : Int), ()), (a, ())) = some (.inl ((jf out q, ()), ())) := by
 have hlim := Be
 intro ys
 induction ys with
 | nil =>
  intro k out q a hd hk _ hq
  have := KU hd hk
  subst this
  simp only [FU, jc] at hq
  subst hq
  have hs : JL c () out l ((ja l : Nat) : Int) ((ja l : Nat) : Int) a = some (.inr (.inl ((out, ()), ()))) := by
   unfold JL
   rw [Ba (by omega)]; rfl
  unfold Gy
  rw [Oe hs]
  simp
 | cons y ys ih =>
  intro k out q a hd hk hlen hq
  obtain ⟨hk', hy, hd'⟩ := BN hd
  simp only [FU] at hq
  cases hc : c a y with
  | none => rw [hc] at hq; simp at hq
  | some b =>
   rw [hc] at hq
   simp only [jb] at hq
   cases hq2 : FU c y ys with
   | none => rw [hq2] at hq; simp at hq
   | some q2 =>
    rw [hq2] at hq
    simp only [jb, jc] at hq
    have hlc : ja (y :: ys) = ja ys + 1 := rfl
    have hs : JL c () out l ((ja l : Nat) : Int) (k : Int) a = some (.inl (((), cond b out (jf out [y]), l, ((ja l : Nat) : Int), ((k + 1 : Nat) : Int), ()), (y, ()))) := by
     unfold JL JaD
     rw [Aa (show (k : Int) < ((ja l : Nat) : Int) by omega), Kb hk', hy]
     simp only [cond_true, jb, hc]
     rw [Hc (by omega)]
     cases b with
     | true => rfl
     | false =>
      rw [show jx (ja out + ja ([y] : List (Int × ((T .o) × Unit)))) Sa = true from ji (by simp only [jw, j8]; omega)]
      rfl
    unfold Gy
    rw [Oe hs]
    simp only [jb, qk]
    have := ih (k + 1) (cond b out (jf out [y])) q2 y hd' hk' (by cases b with
     | true => simp only [cond_true]; omega
     | false => simp only [cond_false, List.append_eq, qf, jw, j8]; omega) hq2
    unfold Gy at this
    rw [this, ← hq]
    cases b with
    | true => rfl
    | false => simp
theorem GaE (c : T Se → T Se → Option Bool) : ∀ (a : T Se) (l r : List (T Se)), ja l ≤ Sa → FU c a l = some r → (fun x : T (.p Se (.p (.sl Se) .u)) => Haq c x.1 x.2.1) (a, l, ()) = some (r, ()) := by
 intro a l r hl hq
 show Haq c a l = _
 unfold Haq
 have := Cat c l hl l 0 [] r a rfl (Nat.zero_le _) (by simpa using hl) hq
 erw [this]
 rfl
theorem W8 : ∀ {a b : List Int}, a.Pairwise (· < ·) → b.Pairwise (· < ·) → (∀ x, x ∈ a ↔ x ∈ b) → a = b
 | [], [], _, _, _ => rfl
 | [], y :: b, _, _, h => by have := (h y).2 (by simp); simp at this
 | x :: a, [], _, _, h => by have := (h x).1 (by simp); simp at this
 | x :: a, y :: b, ha, hb, h => by
  rw [List.pairwise_cons] at ha hb
  have hxy : x = y := by
   rcases jp.1 ((h x).1 (by simp)) with h1 | h1
   ·exact h1
   ·rcases jp.1 ((h y).2 (by simp)) with h2 | h2
    ·exact h2.symm
    ·have := hb.1 x h1; have := ha.1 y h2; omega
  subst hxy
  congr 1
  refine W8 ha.2 hb.2 fun z => ⟨fun hz => ?_, fun hz => ?_⟩
  ·rcases jp.1 ((h z).1 (by simp [hz])) with h1 | h1
   ·have := ha.1 z hz; omega
   ·exact h1
  ·rcases jp.1 ((h z).2 (by simp [hz])) with h1 | h1
   ·have := hb.1 z hz; omega
   ·exact h1
def SV (o : List Int) (x : Int) : List Int := cond ((x != 0) && !o.any (fun y => y == x)) (jf o [x]) o
def ddK (k : Nat) (o l : List Int) : List Int := Jd (fun _ o x => SV o x) k o l
theorem Gat : ∀ (l : List Int) (k : Nat) (o : List Int) (y : Int), y ∈ ddK k o l ↔ y ∈ o ∨ (y ∈ l ∧ y ≠ 0)
 | [], _, o, y => by simp [ddK, Jd]
 | x :: l, k, o, y => by
  have := Gat l (k + 1) (SV o x) y
  simp only [ddK, Jd] at this ⊢
  rw [this]
  unfold SV
  by_cases h0 : x = 0
  ·subst h0
   simp only [bne_self_eq_false, qp, cond_false, jp]
   constructor
   ·rintro (h | ⟨h1, h2⟩)
    ·exact .inl h
    ·exact .inr ⟨.inr h1, h2⟩
   ·rintro (h | ⟨h1 | h1, h2⟩)
    ·exact .inl h
    ·exact absurd h1 h2
    ·exact .inr ⟨h1, h2⟩
  ·by_cases h1 : o.any (fun y => y == x) = true
   ·rw [h1]
    simp only [jg, Bool.and_false, cond_false, jp]
    have hx : x ∈ o := by
     obtain ⟨z, hz, e⟩ := List.any_eq_true.1 h1
     rw [beq_iff_eq] at e; rw [← e]; exact hz
    constructor
    ·rintro (h | ⟨h1, h2⟩)
     ·exact .inl h
     ·exact .inr ⟨.inr h1, h2⟩
    ·rintro (h | ⟨h1 | h1, h2⟩)
     ·exact .inl h
     ·exact .inl (h1 ▸ hx)
     ·exact .inr ⟨h1, h2⟩
   ·have e : ((x != 0) && !o.any (fun y => y == x)) = true := by
     simp only [qb] at h1
     rw [h1]; simp [h0]
    rw [e]
    simp only [cond_true, List.append_eq, jl, jp, List.not_mem_nil, or_false]
    constructor
    ·rintro ((h | h) | ⟨h1, h2⟩)
     ·exact .inl h
     ·exact .inr ⟨.inl h, by rw [h]; exact h0⟩
     ·exact .inr ⟨.inr h1, h2⟩
    ·rintro (h | ⟨h1 | h1, h2⟩)
     ·exact .inl (.inl h)
     ·exact .inl (.inr h1)
     ·exact .inr ⟨h1, h2⟩
theorem I8 : ∀ (l : List Int) (k : Nat) (o : List Int), o.Pairwise (· < ·) → l.Pairwise (· ≤ ·) → (∀ y ∈ o, ∀ x ∈ l, y ≤ x) → (ddK k o l).Pairwise (· < ·)
 | [], _, o, ho, _, _ => by simpa [ddK, Jd] using ho
 | x :: l, k, o, ho, hl, h => by
  rw [List.pairwise_cons] at hl
  have key : (SV o x).Pairwise (· < ·) ∧ ∀ y ∈ SV o x, ∀ z ∈ l, y ≤ z := by
   unfold SV
   cases hc : (x != 0) && !o.any (fun y => y == x) with
   | false => exact ⟨ho, fun y hy z hz => h y hy z (by simp [hz])⟩
   | true =>
    simp only [jd, Bool.not_eq_true', List.any_eq_false, beq_iff_eq] at hc
    simp only [cond_true, List.append_eq]
    refine ⟨?_, ?_⟩
    ·rw [List.pairwise_append]
     refine ⟨ho, by simp, fun y hy z hz => ?_⟩
     simp only [jp, List.not_mem_nil, or_false] at hz
     subst hz
     have h1 := h y hy z (by simp)
     have h2 := hc.2 y hy
     omega
    ·intro y hy z hz
     rcases jl.1 hy with hy | hy
     ·exact h y hy z (by simp [hz])
     ·simp only [jp, List.not_mem_nil, or_false] at hy
      subst hy
      exact hl.1 z hz
  have := I8 l (k + 1) (SV o x) key.1 hl.2 key.2
  simpa [ddK, Jd] using this
def Fk (l : List Pa) : Nat → List Int
 | 0 => []
 | n + 1 => cond (l.any fun h => h.2.1.2.1 == ((n + 1 : Nat) : Int)) (Fk l n ++ [((n + 1 : Nat) : Int)]) (Fk l n)
theorem GJ (l : List Pa) : ∀ (n : Nat) (x : Int), x ∈ Fk l n ↔ (1 ≤ x ∧ x ≤ (n : Int)) ∧ ∃ h ∈ l, h.2.1.2.1 = x
 | 0, x => by simp [Fk]; intro h1 h2; omega
 | n + 1, x => by
  simp only [Fk]
  cases hc : (l.any fun h => h.2.1.2.1 == ((n + 1 : Nat) : Int)) with
  | true =>
   simp only [cond_true, jl, GJ l n x, jp, List.not_mem_nil, or_false]
   obtain ⟨h, hh, e⟩ := List.any_eq_true.1 hc
   rw [beq_iff_eq] at e
   constructor
   ·rintro (⟨h1, h2⟩ | rfl)
    ·exact ⟨by omega, h2⟩
    ·exact ⟨by omega, h, hh, e⟩
   ·rintro ⟨h1, h2⟩
    by_cases hx : x = ((n + 1 : Nat) : Int)
    ·exact .inr hx
    ·exact .inl ⟨by omega, h2⟩
  | false =>
   simp only [cond_false, GJ l n x]
   rw [List.any_eq_false] at hc
   constructor
   ·rintro ⟨h1, h2⟩; exact ⟨by omega, h2⟩
   ·rintro ⟨h1, h, hh, e⟩
    refine ⟨?_, h, hh, e⟩
    have := hc h hh
    rw [beq_iff_eq] at this
    omega
theorem VN (l : List Pa) : ∀ n, (Fk l n).Pairwise (· < ·)
 | 0 => by simp [Fk]
 | n + 1 => by
  simp only [Fk]
  cases (l.any fun h => h.2.1.2.1 == ((n + 1 : Nat) : Int)) with
  | true =>
   simp only [cond_true]
   rw [List.pairwise_append]
   refine ⟨VN l n, by simp, fun y hy z hz => ?_⟩
   simp only [jp, List.not_mem_nil, or_false] at hz
   have := (GJ l n y).1 hy
   omega
  | false => exact VN l n
theorem GU (l : List Pa) : ∀ n, (Fk l n).length ≤ n
 | 0 => by simp [Fk]
 | n + 1 => by
  have := GU l n
  simp only [Fk]
  cases (l.any fun h => h.2.1.2.1 == ((n + 1 : Nat) : Int)) <;> simp <;> omega
def Kab (l : List Pa) : Int := Jd (fun _ s (h : Pa) => cond (h.2.1.1 == 2 || h.2.1.1 == 8) (Rc .i64 s h.2.1.2.2.1) s) 0 0 l
def Yc (l : List Pa) : Ha := (Kab l, Fk l 56, ())
theorem JM {a : Bb} (h : Id a = true) : 0 ≤ a.2.1 ∧ a.2.1 ≤ 56 := by
 rw [Ic] at h
 unfold Sd at h
 omega
theorem Y6 (l : List Int) (x : Int) (hn : l.length ≤ Sa) : QM l x = some (l.any (fun y => y == x), ()) := by
 have hlim := Be
 have hl := Bf (step := fun y => Qz y.1.1 y.1.2.1 y.1.2.2.1 y.1.2.2.2.1) l (fun _ y => !(y == x)) (fun i => ((x, l, ((ja l : Nat) : Int), i, ()), ()))
  (.inl ((), ())) (.inr ((true, ()), ())) (by
   intro k hk
   simp only [Qz]
   rw [Aa (show (k : Int) < ((ja l : Nat) : Int) by omega), Kb hk]
   simp only [cond_true, jb]
   cases l[k] == x <;> rfl) (by
   simp only [Qz]
   rw [Ba (by omega)]; rfl) (by omega)
 unfold QM OB
 erw [hl]
 have : ∀ (l : List Int) (k : Nat), Yd (fun _ y => !(y == x)) k l = !l.any (fun y => y == x) := by
  intro l
  induction l with
  | nil => intro k; rfl
  | cons y l ih => intro k; simp only [Yd, List.any_cons, ih, Bool.not_or]
 rw [this]
 cases l.any (fun y => y == x) <;> rfl
theorem AR (l : List Pa) (hn : l.length ≤ Ea) (hx : ∀ h ∈ l, 0 ≤ h.2.1.2.1 ∧ h.2.1.2.1 ≤ 56) : Xt (l.map fun h => h.2.1.2.1) = some (Fk l 56, ()) := by
 have h20 : Ea = 1048576 := rfl
 have hlim := Be
 generalize hcs : (l.map fun h => h.2.1.2.1) = cs
 have hcl : cs.length = l.length := by rw [← hcs]; simp
 unfold Xt
 rw [OH _ (by omega)]
 simp only [jb, sort_Ints, srt]
 rw [show jx (ja cs) Sa = true from ji (by omega)]
 simp only [cond_true, jb]
 generalize hss : (List.mergeSort cs fun x y => decide (x ≤ y)) = ss
 have hsl : ss.length = cs.length := by rw [← hss]; exact List.length_mergeSort _
 have hsm : ∀ x, x ∈ ss ↔ x ∈ cs := fun x => by rw [← hss]; exact List.mem_mergeSort
 have hsp : ss.Pairwise (· ≤ ·) := by
  rw [← hss]
  have := List.pairwise_mergeSort (le := fun x y : Int => decide (x ≤ y)) (by intro a b c; simp; omega) (by intro a b; simp; omega) cs
  exact this.imp (by intro a b h; simpa using h)
 have hl := (Qe (step := fun x => Vv x.1.1 x.1.2.1 x.1.2.2.1 x.1.2.2.2.1) ss (fun _ o x => SV o x) (fun o i => ((o, ss, ((ja ss : Nat) : Int), i, ()), ())) (fun o => .inl ((o, ()), ())) (fun k o => o.length ≤ k) (by
  intro k hk o ho
  have hd : (SV o ss[k]).length ≤ k + 1 := by
   unfold SV
   cases (ss[k] != 0) && !o.any (fun y => y == ss[k]) <;> simp <;> omega
  refine ⟨?_, hd⟩
  simp only [Vv]
  rw [Aa (show (k : Int) < ((ja ss : Nat) : Int) by omega), show Af (ja ss) (k : Int) = true by rw [Kg]; exact Aa hk, jn, je hk]
  simp only [cond_true, jb]
  rw [Y6 _ _ (by omega), show jx (ja o + ja ([ss[k]] : List Int)) Sa = true from ji (by simp only [jw, j8]; omega)]
  simp only [jb, SV]
  cases ss[k] != 0 <;> cases o.any (fun y => y == ss[k]) <;> rfl)
  (by
   intro o _
   simp only [Vv]
   rw [Ba (by omega)]; rfl) (by omega) [] (jo _)).1
 unfold Uy
 erw [hl]
 simp only [jb, qk]
 congr 2
 refine W8 (I8 ss 0 [] (by simp) hsp (by simp)) (VN l 56) fun x => ?_
 rw [show Jd (fun _ o x => SV o x) 0 [] ss = ddK 0 [] ss from rfl, Gat, GJ, hsm, ← hcs]
 simp only [List.not_mem_nil, false_or, qu]
 constructor
 ·rintro ⟨⟨h, hh, rfl⟩, h0⟩
  have := hx h hh
  exact ⟨by omega, h, hh, rfl⟩
 ·rintro ⟨h1, h, hh, rfl⟩
  exact ⟨⟨h, hh, rfl⟩, by omega⟩
theorem Uv (l : List Pa) (hn : l.length ≤ Ea) (hv : Jf l = true) : Ae l = some (Yc l, ()) := by
 have h20 : Ea = 1048576 := rfl
 have hlim := Be
 have hh := Hn hv
 have hl := (Qe (step := fun x => Js x.1.1 x.1.2.1 x.1.2.2.1 x.1.2.2.2.1 x.1.2.2.2.2.1 x.1.2.2.2.2.2.1 x.2.1 x.2.2.1) l
  (fun _ (s : Int × List Int) (h : Pa) => (cond (h.2.1.1 == 2 || h.2.1.1 == 8) (Rc .i64 s.1 h.2.1.2.2.1) s.1, jf s.2 [h.2.1.2.1])) (fun s i => (((), (), s.2, l, ((ja l : Nat) : Int), i, ()), (((0 : Int), ([] : List Int), ()), (s.1, ([] : List Int), ()), ())))
  (fun s => .inl (((), (), s.2, ()), (((0 : Int), ([] : List Int), ()), (s.1, ([] : List Int), ()), ()))) (fun k s => s.2.length = k) (by
   intro k hk s hs
   refine ⟨?_, by simp [hs]⟩
   simp only [Js]
   rw [Aa (show (k : Int) < ((ja l : Nat) : Int) by omega), Kb hk]
   simp only [cond_true, jb]
   rw [show jx (ja s.2 + ja ([l[k].2.1.2.1] : List Int)) Sa = true from ji (by simp only [jw, j8]; omega)]
   cases l[k].2.1.1 == 2 <;> cases l[k].2.1.1 == 8 <;> rfl)
  (by
   intro s _
   simp only [Js]
   rw [Ba (by omega)]; rfl) (by omega) (0, []) rfl).1
 have key : ∀ (l : List Pa) (k : Nat) (s : Int × List Int), Jd (fun _ (s : Int × List Int) (h : Pa) => (cond (h.2.1.1 == 2 || h.2.1.1 == 8) (Rc .i64 s.1 h.2.1.2.2.1) s.1, jf s.2 [h.2.1.2.1])) k s l =
  (Jd (fun _ s (h : Pa) => cond (h.2.1.1 == 2 || h.2.1.1 == 8) (Rc .i64 s h.2.1.2.2.1) s) k s.1 l, s.2 ++ l.map fun h => h.2.1.2.1) := by
  intro l
  induction l with
  | nil => intro k s; simp [Jd]
  | cons x l ih => intro k s; simp only [Jd]; rw [ih]; simp
 unfold Ae Tv
 rw [CD _ hn, hv]
 simp only [jb, jg, cond_false]
 erw [hl]
 rw [key]
 simp only [jb, qk, List.nil_append]
 rw [AR l hn (fun h hm => JM (hh h hm).act)]
 rfl
theorem I3 (l : List Pa) (hn : l.length ≤ Ea) (c : Nat) (hc : c ≤ 56) (m : Int) (o : List Int) (ho : o.length ≤ 56) :
 Ul ((l, (), (), (c : Int), (0 : Int), ()), (((0 : Int), ([] : List Int), ()), (m, o, ()), ())) =
  some (.inl ((l, (), (), (c : Int), ()), (((0 : Int), ([] : List Int), ()), (m, cond (l.any fun h => h.2.1.2.1 == (c : Int)) (jf o [(c : Int)]) o, ()), ()))) := by
 have h20 : Ea = 1048576 := rfl
 have hl := Bf (step := fun x => Yq x.1.1 x.1.2.1 x.1.2.2.1 x.1.2.2.2.1 x.1.2.2.2.2.1 x.2.1 x.2.2.1) l (fun _ (h : Pa) => !(h.2.1.2.1 == (c : Int))) (fun i => ((l, (), (), (c : Int), i, ()), (((0 : Int), ([] : List Int), ()), (m, o, ()), ())))
  (.inl ((l, (), (), (c : Int), ()), (((0 : Int), ([] : List Int), ()), (m, o, ()), ()))) (.inl ((l, (), (), (c : Int), ()), (((0 : Int), ([] : List Int), ()), (m, jf o [(c : Int)], ()), ()))) (by
   intro k hk
   simp only [Yq]
   rw [Aa (show (k : Int) < ((ja l : Nat) : Int) by omega), Kb hk]
   simp only [cond_true, jb]
   rw [show jx (ja o + ja ([(c : Int)] : List Int)) Sa = true from ji (by simp only [jw, j8, Be]; omega)]
   cases l[k].2.1.2.1 == (c : Int) <;> rfl) (by
   simp only [Yq]
   rw [Ba (by omega)]; rfl) (by omega)
 have e : ∀ (l : List Pa) (k : Nat), Yd (fun _ (h : Pa) => !(h.2.1.2.1 == (c : Int))) k l = !l.any fun h => h.2.1.2.1 == (c : Int) := by
  intro l
  induction l with
  | nil => intro k; rfl
  | cons y l ih => intro k; simp only [Yd, List.any_cons, ih, Bool.not_or]
 unfold Ul
 erw [hl]
 rw [e]
 cases l.any fun h => h.2.1.2.1 == (c : Int) <;> rfl
theorem Rw (l : List Pa) (hn : l.length ≤ Ea) (hv : Jf l = true) : Ke l = some (Yc l, ()) := by
 have h20 : Ea = 1048576 := rfl
 have h1 := (Qe (step := fun x => Ft x.1.1 x.1.2.1 x.1.2.2.1 x.1.2.2.2.1 x.2.1 x.2.2.1) l
  (fun _ s (h : Pa) => cond (h.2.1.1 == 2 || h.2.1.1 == 8) (Rc .i64 s h.2.1.2.2.1) s) (fun s i => ((l, (), (), i, ()), (((0 : Int), ([] : List Int), ()), (s, ([] : List Int), ()), ())))
  (fun s => .inl ((l, (), (), ()), (((0 : Int), ([] : List Int), ()), (s, ([] : List Int), ()), ()))) (fun _ _ => True) (by
   intro k hk s _
   refine ⟨?_, trivial⟩
   simp only [Ft]
   rw [Aa (show (k : Int) < ((ja l : Nat) : Int) by omega), Kb hk]
   simp only [cond_true, jb]
   cases l[k].2.1.1 == 2 <;> cases l[k].2.1.1 == 8 <;> rfl)
  (by
   intro s _
   simp only [Ft]
   rw [Ba (by omega)]; rfl) (by omega) 0 trivial).1
 have h2 := EC (step := fun x => Xq x.1.1 x.1.2.1 x.1.2.2.1 x.1.2.2.2.1 x.2.1 x.2.2.1) (fun k => ((l, (), (), ((k + 1 : Nat) : Int), ()), (((0 : Int), ([] : List Int), ()), (Kab l, Fk l k, ()), ()))) 56
  (.inl (((), (), ()), (((0 : Int), ([] : List Int), ()), (Kab l, Fk l 56, ()), ()))) (by
   intro k hk
   simp only [Xq]
   have hlen := GU l k
   rw [Aa (show ((k + 1 : Nat) : Int) ≤ 56 by omega), I3 l hn (k + 1) (by omega) (Kab l) (Fk l k) (by omega)]
   simp only [cond_true, jb, qk]
   rw [Hc (by omega)]
   rfl) (by
   simp only [Xq]
   rw [Ba (by decide)]; rfl)
 unfold Ke Qw Pu
 rw [XD _ hn, hv]
 simp only [jb, jg, cond_false]
 erw [h1]
 simp only [jb, qk]
 erw [h2]
 rfl
def JD (c : Int) : Bool := decide (1 ≤ c ∧ c ≤ 36) || ((c == 39) || (c == 42))
theorem WW (c : Int) : Jz c = some (JD c, ()) := by
 unfold Jz JD
 by_cases h1 : c ≥ 1
 ·by_cases h2 : c ≤ 36
  ·rw [Aa h1, Aa h2, Aa (show 1 ≤ c ∧ c ≤ 36 by omega)]; rfl
  ·rw [Aa h1, Ba h2, Ba (show ¬ (1 ≤ c ∧ c ≤ 36) by omega)]
   cases c == 39 <;> rfl
 ·rw [Ba h1, Ba (show ¬ (1 ≤ c ∧ c ≤ 36) by omega)]
  cases c == 39 <;> rfl
theorem VX (c : Int) : LA c = some (JD c, ()) := by
 unfold LA JD
 rw [Xc]
 cases decide (1 ≤ c ∧ c ≤ 36) <;> cases c == 39 <;> rfl
def SE (f o : Int) (c : Bool) (a : Bb) : Int × Int × Bool × Bb :=
 cond (a.1 == 2) (cond (a.2.1 == 0) (f, o, c, a) (f, 0, c && JD a.2.1, a.1, a.2.1, cond ((c && JD a.2.1) && (decide (a.2.1 ≤ 26) && (Jb .i64 (Rc .i64 a.2.2.1 o) 2 == 0))) 2 (Rc .i64 a.2.2.1 o), a.2.2.2))
  (cond (a.1 == 4) (Me .i64 f (Ta .i64 1 a.2.2.2.1), o, c, a) (cond (a.1 == 5) (Jb .i64 (Ta .i64 1 a.2.2.2.1) 1, o, c, a)
   (cond (a.1 == 8) (f, cond (Wa .i64 o a.2.2.1 == a.2.2.1) (Jb .i64 o a.2.2.1) (Rc .i64 o a.2.2.1), c, a) (cond (a.1 == 10) (f, o, !c, a) (f, o, c, a)))))
theorem DL {a : Bb} (h : Id a = true) : 0 ≤ a.2.2.2.1 := by
 rw [Ic] at h
 unfold Sd at h
 omega
theorem WS (m : Tb) (M : List (List Sc)) (f o : Int) (h : List Pa) (c : Bool) (a : Bb) (ha : Id a = true) :
 Qr (m, M, f, h, o, c, ()) a = some ((m, M, (SE f o c a).1, h, (SE f o c a).2.1, (SE f o c a).2.2.1, ()), (SE f o c a).2.2.2, ()) := by
 have hn := DL ha
 unfold Qr SE
 rw [Aa hn]
 cases a.1 == 2 with
 | true =>
  cases a.2.1 == 0 with
  | true => rfl
  | false =>
   simp only [cond_true, cond_false, WW, jb]
   cases c with
   | false => rfl
   | true =>
    cases JD a.2.1 with
    | false => rfl
    | true => cases decide (a.2.1 ≤ 26) <;> cases Jb .i64 (Rc .i64 a.2.2.1 o) 2 == 0 <;> rfl
 | false =>
  cases a.1 == 4 with
  | true => rfl
  | false =>
   cases a.1 == 5 with
   | true => rfl
   | false =>
    cases a.1 == 8 with
    | true => cases Wa .i64 o a.2.2.1 == a.2.2.1 <;> rfl
    | false => cases a.1 == 10 <;> rfl
theorem LT (m : Tb) (M : List (List Sc)) (f o : Int) (h : List Pa) (c : Bool) (a : Bb) (ha : Id a = true) :
 Dm (m, M, f, h, o, c, ()) a = some ((m, M, (SE f o c a).1, h, (SE f o c a).2.1, (SE f o c a).2.2.1, ()), (SE f o c a).2.2.2, ()) := by
 have hn := DL ha
 have hcode := JM ha
 unfold Dm SE FV
 rw [Aa hn]
 cases a.1 == 2 with
 | true =>
  by_cases h0 : a.2.1 = 0
  ·rw [Ba (show ¬ a.2.1 > 0 by omega), show (a.2.1 == 0) = true by simp [h0]]; rfl
  ·rw [Aa (show a.2.1 > 0 by omega), show (a.2.1 == 0) = false by simp [h0]]
   simp only [cond_true, cond_false, VX, jb]
   cases JD a.2.1 with
   | false => cases c <;> rfl
   | true =>
    cases c with
    | false => rfl
    | true => cases decide (a.2.1 ≤ 26) <;> cases Jb .i64 (Rc .i64 a.2.2.1 o) 2 == 0 <;> rfl
 | false =>
  cases a.1 == 4 with
  | true => rfl
  | false =>
   cases a.1 == 5 with
   | true => rfl
   | false =>
    cases a.1 == 8 with
    | true => cases Wa .i64 o a.2.2.1 == a.2.2.1 <;> rfl
    | false => cases a.1 == 10 <;> rfl
theorem PaE : ∀ f : Fin 16, ∀ n : Fin 4, ∀ l : Fin 5, 1 ≤ n.val → n.val < l.val → f.val < 2 ^ l.val → f.val % 2 = 0 →
 0 ≤ Me .i64 (f.val : Int) (Ta .i64 1 (n.val : Int)) ∧ Me .i64 (f.val : Int) (Ta .i64 1 (n.val : Int)) < ((2 ^ l.val : Nat) : Int) ∧ (Me .i64 (f.val : Int) (Ta .i64 1 (n.val : Int))).tmod 2 = 0 := by decide +kernel
theorem OaJ : ∀ n : Fin 4, ∀ l : Fin 5, n.val < l.val →
 0 ≤ Jb .i64 (Ta .i64 1 (n.val : Int)) 1 ∧ Jb .i64 (Ta .i64 1 (n.val : Int)) 1 < ((2 ^ l.val : Nat) : Int) ∧ (Jb .i64 (Ta .i64 1 (n.val : Int)) 1).tmod 2 = 0 := by decide +kernel
theorem Lal : ∀ o m : Fin 16, (0 ≤ Jb .i64 (o.val : Int) (m.val : Int) ∧ Jb .i64 (o.val : Int) (m.val : Int) ≤ 15) ∧ (0 ≤ Rc .i64 (o.val : Int) (m.val : Int) ∧ Rc .i64 (o.val : Int) (m.val : Int) ≤ 15) := by decide +kernel
structure Sab (nl : Nat) (f o : Int) : Prop where
 f0 : 0 ≤ f
 f1 : f < ((2 ^ nl : Nat) : Int)
 f2 : f.tmod 2 = 0
 o0 : 0 ≤ o
 o1 : o ≤ 15
structure B1 (nl : Nat) (a : Bb) : Prop where
 act : Id a = true
 n1 : a.1 ≠ 1
 n6 : a.1 ≠ 6
 n7 : a.1 ≠ 7
 n : a.1 ≠ 9 → a.2.2.2.1 < (nl : Int)
theorem TaM {a b : Int} (ha : 0 ≤ a ∧ a ≤ 15) (hb : 0 ≤ b ∧ b ≤ 15) : 0 ≤ Rc .i64 a b ∧ Rc .i64 a b ≤ 15 := by
 obtain ⟨n, rfl⟩ := jv ha.1
 obtain ⟨m, rfl⟩ := jv hb.1
 exact (Lal ⟨n, by omega⟩ ⟨m, by omega⟩).2
theorem HaL {a b : Int} (ha : 0 ≤ a ∧ a ≤ 15) (hb : 0 ≤ b ∧ b ≤ 15) : 0 ≤ Jb .i64 a b ∧ Jb .i64 a b ≤ 15 := by
 obtain ⟨n, rfl⟩ := jv ha.1
 obtain ⟨m, rfl⟩ := jv hb.1
 exact (Lal ⟨n, by omega⟩ ⟨m, by omega⟩).1
theorem WaM {nl : Nat} (h : nl ≤ 4) : 2 ^ nl ≤ 16 := qm (n := 2) (by omega) h
theorem YaM {nl : Nat} (hnl : nl ≤ 4) {f o : Int} {c : Bool} {a : Bb} (hs : Sab nl f o) (ha : B1 nl a) :
 Sab nl (SE f o c a).1 (SE f o c a).2.1 ∧ B1 nl (SE f o c a).2.2.2 := by
 have hP := ha.act
 rw [Ic] at hP
 unfold Sd at hP
 have h16 := WaM hnl
 obtain ⟨k, code, mods, n, u⟩ := a
 have hn1 := ha.n1; have hn6 := ha.n6; have hn7 := ha.n7; have hnn := ha.n
 simp only at hP hn1 hn6 hn7 hnn
 have hf1 := hs.f1
 unfold SE
 simp only
 by_cases h2 : k = 2
 ·subst h2
  by_cases h0 : code = 0
  ·subst h0; exact ⟨hs, ha⟩
  ·rw [show ((2 : Int) == 2) = true from rfl, show (code == 0) = false by simp [h0]]
   simp only [cond_true, cond_false]
   refine ⟨⟨hs.f0, hs.f1, hs.f2, by decide, by decide⟩, ?_⟩
   have hm := TaM (a := mods) (b := o) (by omega) ⟨hs.o0, hs.o1⟩
   refine ⟨?_, hn1, hn6, hn7, hnn⟩
   have hn0 : n = 0 := by omega
   have hcd : 1 ≤ code ∧ code ≤ 56 := by omega
   rw [Ic]
   cases ((c && JD code) && (decide (code ≤ 26) && (Jb .i64 (Rc .i64 mods o) 2 == 0))) with
   | true => exact .inr (.inl ⟨rfl, hn0, .inr hcd, .inr ⟨by show (1 : Int) ≤ 2; decide, by show (2 : Int) ≤ 15; decide⟩, .inl (by show code ≠ 0; omega)⟩)
   | false =>
    refine .inr (.inl ⟨rfl, hn0, .inr hcd, ?_, .inl (by show code ≠ 0; omega)⟩)
    show Rc .i64 mods o = 0 ∨ 1 ≤ Rc .i64 mods o ∧ Rc .i64 mods o ≤ 15
    omega
 ·rw [show (k == 2) = false by simp [h2]]
  simp only [cond_false]
  by_cases h4 : k = 4
  ·subst h4
   have hr : 1 ≤ n ∧ n ≤ 3 := by omega
   have hlt := hnn (by omega)
   obtain ⟨fn, hfn⟩ := jv hs.f0
   obtain ⟨nn, hnn'⟩ := jv (show 0 ≤ n by omega)
   have hf2 := hs.f2
   rw [hfn] at hf1 hf2
   have hfl : fn < 2 ^ nl := Int.ofNat_lt.1 hf1
   have := PaE ⟨fn, by omega⟩ ⟨nn, by omega⟩ ⟨nl, by omega⟩ (by show 1 ≤ nn; omega) (by show nn < nl; omega) hfl (by
    rw [Int.tmod_eq_emod_of_nonneg (by omega)] at hf2; show fn % 2 = 0; omega)
   simp only [show ((4 : Int) == 4) = true from rfl, cond_true]
   rw [hfn, hnn']
   exact ⟨⟨this.1, this.2.1, this.2.2, hs.o0, hs.o1⟩, by rw [← hnn']; exact ha⟩
  ·rw [show (k == 4) = false by simp [h4]]
   simp only [cond_false]
   by_cases h5 : k = 5
   ·subst h5
    have hr : 0 ≤ n ∧ n ≤ 3 := by omega
    have hlt := hnn (by omega)
    obtain ⟨nn, hnn'⟩ := jv (show 0 ≤ n by omega)
    have := OaJ ⟨nn, by omega⟩ ⟨nl, by omega⟩ (by show nn < nl; omega)
    simp only [show ((5 : Int) == 5) = true from rfl, cond_true]
    rw [hnn']
    exact ⟨⟨this.1, this.2.1, this.2.2, hs.o0, hs.o1⟩, by rw [← hnn']; exact ha⟩
   ·rw [show (k == 5) = false by simp [h5]]
    simp only [cond_false]
    by_cases h8 : k = 8
    ·subst h8
     have hm : 0 ≤ mods ∧ mods ≤ 15 := by omega
     simp only [show ((8 : Int) == 8) = true from rfl, cond_true]
     cases Wa .i64 o mods == mods with
     | true => have := HaL ⟨hs.o0, hs.o1⟩ hm; exact ⟨⟨hs.f0, hs.f1, hs.f2, this.1, this.2⟩, ha⟩
     | false => have := TaM ⟨hs.o0, hs.o1⟩ hm; exact ⟨⟨hs.f0, hs.f1, hs.f2, this.1, this.2⟩, ha⟩
    ·rw [show (k == 8) = false by simp [h8]]
     simp only [cond_false]
     cases k == 10 <;> exact ⟨hs, ha⟩
theorem Vau {m : Tb} (hm : AL m) (on : Int) {k : Nat} (hk : (k : Int) < m.1) : Gk m.2.1.length (Bj m on k) (Rk m.2.1 (Bj m on k) k) = true ∧ (Rk m.2.1 (Bj m on k) k).1 ≠ 1 := by
 have hl := FR hm on k
 have hrow := hm.row _ hl
 have hk' : k < m.2.1[Bj m on k].length := by omega
 have hact := hm.act _ hl k hk'
 rw [E1 hl hk']
 refine ⟨hact, ?_⟩
 have key : ∀ n, Yf m.2.1 on k n = 0 ∨ (Rk m.2.1 (Yf m.2.1 on k n) k).1 ≠ 1 := by
  intro n
  induction n with
  | zero => exact .inl rfl
  | succ n ih =>
   simp only [Yf]
   cases hc : ((Bd on ((n + 1 : Nat) : Int) == 1) && ((Rk m.2.1 (n + 1) k).1 != 1)) with
   | true =>
    simp only [jd, bne_iff_ne] at hc
    exact .inr hc.2
   | false => exact ih
 rcases key (m.2.1.length - 1) with h0 | h1
 ·have h0' : Bj m on k = 0 := h0
  intro h1
  simp only [Gk, jd, Bool.not_eq_true', Bool.and_eq_false_iff, beq_eq_false_iff_ne] at hact
  rcases hact.1.2 with h2 | h2
  ·exact h2 (by rw [h0']; rfl)
  ·exact h2 h1
 ·have e : Rk m.2.1 (Yf m.2.1 on k (m.2.1.length - 1)) k = m.2.1[Bj m on k][k] := E1 hl hk'
  rw [e] at h1
  exact h1
theorem NaJ {nl i : Nat} {a : Bb} (h : Gk nl i a = true) (h1 : a.1 ≠ 1) : B1 nl (ON a) := by
 have ha := MX h
 have hP := ha
 rw [Ic] at hP
 unfold Sd at hP
 unfold ON Wf
 rw [ha]
 by_cases h67 : a.1 = 6 ∨ a.1 = 7
 ·have e : (true && ((a.1 == 6) || (a.1 == 7))) = true := by rcases h67 with h | h <;> rw [h] <;> rfl
  rw [e]
  simp only [cond_true]
  refine ⟨?_, by show (2 : Int) ≠ 1; decide, by show (2 : Int) ≠ 6; decide, by show (2 : Int) ≠ 7; decide, fun _ => ?_⟩
  ·rw [Ic]
   exact .inr (.inl ⟨rfl, rfl, .inr (by show 1 ≤ a.2.1 ∧ a.2.1 ≤ 56; omega), .inl rfl, .inl (by show a.2.1 ≠ 0; omega)⟩)
  ·show (0 : Int) < (nl : Int)
   have := DZ h (by omega)
   omega
 ·have e : (true && ((a.1 == 6) || (a.1 == 7))) = false := by
   rw [jk, Bool.or_eq_false_iff, beq_eq_false_iff_ne, beq_eq_false_iff_ne]; omega
  rw [e]
  exact ⟨ha, h1, fun h => h67 (.inl h), fun h => h67 (.inr h), fun hk => DZ h hk⟩
def Kax (m : Tb) (f o : Int) (c : Bool) (h : List Pa) : Gb := (m, [], f, h, o, c, ())
theorem NaE (m : Tb) (f o : Int) (c : Bool) (h : List Pa) : Ja Xb (Kax m f o c h) = Ja Vb m + h.length := by
 rw [Cl, Ok]
 have : Ja (.sl (.sl Yb)) (Kax m f o c h).2.1 = 0 := rfl
 rw [this, js]; rfl
theorem Saq {nl : Nat} (h4 : nl ≤ 4) {f o : Int} (hs : Sab nl f o) : 0 ≤ f ∧ f ≤ 15 := by
 have := WaM h4
 have h1 := hs.f1
 have h0 := hs.f0
 omega
theorem U6 (e : Gb) (k : Int) (hn : e.2.2.2.1.length ≤ Ea) : MM e k = some (Ed (fun h => h.1 == k) 0 e.2.2.2.1, ()) := by
 have h20 : Ea = 1048576 := rfl
 have hl := Ly (step := fun x => Hz x.1.1 x.1.2.1 x.1.2.2.1 x.1.2.2.2.1) e.2.2.2.1 (fun h => h.1 == k) (fun i => ((k, e.2.2.2.1, ((ja e.2.2.2.1 : Nat) : Int), i, ()), ())) (.inl ((), ())) (fun i => .inr ((i, ()), ()))
  (by
   intro j hj
   simp only [Hz]
   rw [Aa (show (j : Int) < ((ja e.2.2.2.1 : Nat) : Int) by omega), Kb hj]
   simp only [cond_true, jb]
   cases e.2.2.2.1[j].1 == k <;> rfl) (by
   simp only [Hz]
   rw [Ba (by omega)]; rfl) (by omega)
 unfold MM HB
 erw [hl]
 simp only [jb]
 by_cases hc : Ed (fun h : Pa => h.1 == k) 0 e.2.2.2.1 = -1
 ·rw [if_pos hc, hc]; rfl
 ·rw [if_neg hc]; rfl
theorem IT (e : Gb) (k : Int) (hn : e.2.2.2.1.length ≤ Ea) : XF e k = some (Ed (fun h => h.1 == k) 0 e.2.2.2.1, ()) := by
 have h20 : Ea = 1048576 := rfl
 have hl := Ly (step := fun x => JA x.1.1 x.1.2.1 x.1.2.2.1 x.2.1) e.2.2.2.1 (fun h => h.1 == k) (fun i => ((k, (), i, ()), (e, ()))) (.inl ((), ())) (fun i => .inr ((i, ()), ()))
  (by
   intro j hj
   simp only [JA]
   rw [Aa (show (j : Int) < ((ja e.2.2.2.1 : Nat) : Int) by omega), Kb hj]
   simp only [cond_true, jb]
   cases e.2.2.2.1[j].1 == k <;> rfl) (by
   simp only [JA]
   rw [Ba (by omega)]; rfl) (by omega)
 unfold XF HC
 erw [hl]
 simp only [jb]
 by_cases hc : Ed (fun h : Pa => h.1 == k) 0 e.2.2.2.1 = -1
 ·rw [if_pos hc, hc]; rfl
 ·rw [if_neg hc]; rfl
theorem YX (a b : Ha) (hn : a.2.1.length ≤ Sa) : PA a b = some (Ek a b, ()) := by
 have hlim := Be
 unfold PA Ek
 simp only [bne]
 cases (show Int from a.1) == (show Int from b.1) with
 | false => rfl
 | true =>
  by_cases h : a.2.1.length = b.2.1.length
  ·have hl := Bf (step := fun x => Zo x.1.1 x.1.2.1 x.1.2.2.1 x.2.1 x.2.2.1) a.2.1 (fun k x => b.2.1.getD k 0 == x) (fun i => (((), (), i, ()), (a, b, ())))
    (.inl ((), ())) (.inr ((false, ()), ())) (by
     intro k hk
     simp only [Zo]
     rw [Aa (show (k : Int) < ((ja a.2.1 : Nat) : Int) by omega), Kb hk, Kb (show k < b.2.1.length by omega), qj, je (show k < b.2.1.length by omega)]
     simp only [cond_true, jb, Option.getD_some, bne]
     rw [show (a.2.1[k] == b.2.1[k]) = (b.2.1[k] == a.2.1[k]) by rw [qx, beq_iff_eq, beq_iff_eq]; exact eq_comm]
     cases b.2.1[k] == a.2.1[k] <;> rfl) (by
     simp only [Zo]
     rw [Ba (by omega)]; rfl) (by omega)
   have e : (((ja a.2.1 : Nat) : Int) == ((ja b.2.1 : Nat) : Int)) = true := by simp [h]
   rw [e]
   simp only [jg, cond_false, jk]
   unfold Tr
   erw [hl]
   rw [Jad a.2.1 b.2.1 h, show (b.2.1 == a.2.1) = (a.2.1 == b.2.1) by rw [qx, beq_iff_eq, beq_iff_eq]; exact eq_comm]
   cases a.2.1 == b.2.1 <;> rfl
  ·have e : (((ja a.2.1 : Nat) : Int) == ((ja b.2.1 : Nat) : Int)) = false := by simp; omega
   have e2 : (a.2.1 == b.2.1) = false := by rw [beq_eq_false_iff_ne]; intro hh; exact h (by rw [hh])
   rw [e, e2]; rfl
def chF (s : Ha × List Ha) (x : Ha) : Ha × List Ha := (x, cond (Ek s.1 x) s.2 (jf s.2 [x]))
theorem Lac : ∀ (l : List Ha) (k : Nat) (a : Ha) (o : List Ha), (Jd (fun _ s x => chF s x) k (a, o) l).2 = jf o (Jv Ek a l)
 | [], _, _, o => by simp [Jd, Jv]
 | x :: l, k, a, o => by
  have ih := Lac l (k + 1) x (cond (Ek a x) o (jf o [x]))
  show (Jd (fun _ s x => chF s x) (k + 1) (x, cond (Ek a x) o (jf o [x])) l).2 = _
  rw [ih]
  simp only [Jv]
  cases Ek a x <;> simp
theorem OR (a : Ha) (l : List Ha) (hn : l.length ≤ Ea) (ha : a.2.1.length ≤ Ea) (hx : ∀ x ∈ l, x.2.1.length ≤ Ea) : Ug a l = some (Jv Ek a l, ()) := by
 have h20 : Ea = 1048576 := rfl
 have hlim := Be
 have hl := (Qe (step := fun x => Gr x.1.1 x.1.2.1 x.1.2.2.1 x.1.2.2.2.1 x.2.1) l (fun _ s x => chF s x) (fun s i => ((l, (), s.2, i, ()), (s.1, ()))) (fun s => .inl ((s.2, ()), ())) (fun k s => s.2.length ≤ k ∧ s.1.2.1.length ≤ Ea) (by
  intro k hk s ⟨hs1, hs2⟩
  have hxk := hx _ (qr hk)
  refine ⟨?_, ?_, hxk⟩
  ·simp only [Gr]
   rw [Aa (show (k : Int) < ((ja l : Nat) : Int) by omega), Kb hk]
   simp only [cond_true, jb]
   rw [YX _ _ (by omega), U7 _ hxk]
   simp only [jb, chF]
   rw [show jx (ja s.2 + ja ([l[k]] : List Ha)) Sa = true from ji (by simp only [jw, j8]; omega)]
   cases Ek s.1 l[k] <;> rfl
  ·unfold chF
   cases Ek s.1 l[k] with
   | true => show s.2.length ≤ k + 1; omega
   | false => show (jf s.2 [l[k]]).length ≤ k + 1; simp; omega)
  (by
   intro s _
   simp only [Gr]
   rw [Ba (by omega)]; rfl) (by omega) (a, []) ⟨jo _, ha⟩).1
 unfold Ug Wu
 erw [hl]
 have := Lac l 0 a []
 simp only [jb, qk]
 rw [this]; simp
theorem XQ (a : Ha) (l : List Ha) (hn : l.length ≤ Ea) (ha : a.2.1.length ≤ Ea) (hx : ∀ x ∈ l, x.2.1.length ≤ Ea) : Ye a l = some (Jv Ek a l, ()) := by
 have h20 : Ea = 1048576 := rfl
 have hlim := Be
 unfold Ye Gaq
 have e : (jx (ja l) Sa && (FQ a && l.all FQ)) = true := by
  rw [jd, jd, List.all_eq_true]
  refine ⟨ji (by omega), ji (by show ja a.2.1 ≤ _; omega), fun x hm => ji ?_⟩
  have := hx x hm
  show ja x.2.1 ≤ _
  omega
 rw [e]; rfl
theorem O1 : ∀ (l : List Ha) (a : Ha), (Jv Ek a l).length ≤ l.length
 | [], _ => by simp [Jv]
 | x :: l, a => by
  have := O1 l x
  simp only [Jv]
  cases Ek a x <;> simp <;> omega
theorem IK (l : List Pa) : (Yc l).2.1.length ≤ 56 := GU l 56
theorem EU : ∀ (l : List Ha) (a x : Ha), x ∈ Jv Ek a l → x ∈ l
 | [], _, x, h => by simp [Jv] at h
 | y :: l, a, x, h => by
  simp only [Jv] at h
  cases hs : Ek a y with
  | true => rw [hs] at h; exact jr _ (EU l y x h)
  | false =>
   rw [hs] at h
   rcases jp.1 h with h | h
   ·exact h ▸ qy ..
   ·exact jr _ (EU l y x h)
noncomputable def Na8 (m : Tb) (f : Int) (k : Nat) : Bb := ON (Rk m.2.1 (Bj m (Rc .i64 1 f) k) k)
noncomputable def stK (m : Tb) (f o : Int) (c : Bool) (k : Nat) : Int × Int × Bool × Bb := SE f o c (Na8 m f k)
noncomputable def hK (m : Tb) (f o : Int) (c : Bool) (k : Nat) : List Pa := [((k : Int), (stK m f o c k).2.2.2, ())]
structure IaD (m : Tb) : Prop where
 v : Lh m = true
 z : Ja Vb m ≤ Ea - 10
theorem z20 {m : Tb} (hM : IaD m) (f o : Int) (c : Bool) (h : List Pa) (hh : h.length ≤ 1) : Ja Xb (Kax m f o c h) ≤ Ea := by
 have h20 : Ea = 1048576 := rfl
 have := hM.z
 rw [NaE]; omega
theorem KR (l : List Pa) : (Yc l).2.1.length ≤ Ea := by
 have h20 : Ea = 1048576 := rfl
 have := IK l
 omega
theorem C5 {m : Tb} (hv : Lh m = true) : IaD m := by
 have hm := Aj hv
 refine ⟨hv, ?_⟩
 have h20 : Ea = 1048576 := rfl
 have h1 : Ja Vb m = 0 + (Ja (.sl (.sl Qb)) m.2.1 + 0) := rfl
 have h2 : Ja (.sl (.sl Qb)) m.2.1 ≤ (32 + 1) * ja m.2.1 := IV (e := .sl Qb) (c := 32) fun x hx => by
  obtain ⟨i, hi, rfl⟩ := qt hx
  rw [B6]
  have := hm.row i hi
  have := hm.k2
  omega
 have := hm.l2
 omega
abbrev St := (Int × Int × Bool) × List Ha
structure Kbb (m : Tb) (k : Nat) (s : St) : Prop where
 st : Sab m.2.1.length s.1.1 s.1.2.1
 len : s.2.length ≤ 2 * k
 rep : ∀ x ∈ s.2, x.2.1.length ≤ 56
def Qs (p : Int → Bool) : Nat → List Int
 | 0 => []
 | n + 1 => cond (p ((n + 1 : Nat) : Int)) (Qs p n ++ [((n + 1 : Nat) : Int)]) (Qs p n)
theorem CX (p : Int → Bool) : ∀ n, (Qs p n).length ≤ n
 | 0 => by simp [Qs]
 | n + 1 => by
  have := CX p n
  simp only [Qs]
  cases p ((n + 1 : Nat) : Int) <;> simp <;> omega
theorem IW (l : List Pa) : ∀ n, Fk l n = Qs (fun c => l.any fun h => h.2.1.2.1 == c) n
 | 0 => rfl
 | n + 1 => by simp only [Fk, Qs, IW l n]
theorem H2 (cs : List Int) (hn : cs.length ≤ Ea) (hx : ∀ c ∈ cs, 0 ≤ c ∧ c ≤ 56) : Xt cs = some (Qs (fun c => cs.any (fun y => y == c)) 56, ()) := by
 have := AR (cs.map fun c => ((0, (0, c, 0, 0, ()), ()) : Pa)) (by simpa using hn) (fun h hh => by
  obtain ⟨c, hc, rfl⟩ := qu.1 hh
  exact hx c hc)
 rw [List.map_map] at this
 have e : List.map ((fun h : Pa => h.2.1.2.1) ∘ fun c => ((0, (0, c, 0, 0, ()), ()) : Pa)) cs = cs := by
  rw [show ((fun h : Pa => h.2.1.2.1) ∘ fun c => ((0, (0, c, 0, 0, ()), ()) : Pa)) = id from rfl, List.map_id]
 rw [e] at this
 rw [this, IW]
 congr 3
 funext c
 rw [List.any_map]
 rfl
def Iar (s : Int) (D : List Va) : Int := Jd (fun _ s (p : Va) => Rc .i64 s p.2.1) 0 s D
def PK (b : Ha) (D : List Va) : Ha := (Iar b.1 D, Qs (fun c => b.2.1.any (fun y => y == c) || D.any (fun p => p.1 == c)) 56, ())
theorem NZ (b : Ha) (D : List Va) (hb : b.2.1.length ≤ 56) (hD : D.length ≤ 1000) (hbx : ∀ c ∈ b.2.1, 0 ≤ c ∧ c ≤ 56) (hDx : ∀ p ∈ D, 0 ≤ p.1 ∧ p.1 ≤ 56) :
 Qf b D = some (PK b D, ()) := by
 have h20 : Ea = 1048576 := rfl
 have hl := (Qe (step := fun x => Iq x.1.1 x.1.2.1 x.1.2.2.1 x.1.2.2.2.1 x.1.2.2.2.2.1 x.1.2.2.2.2.2.1 x.2.1 x.2.2.1) D
  (fun _ (s : Int × List Int) (p : Va) => (Rc .i64 s.1 p.2.1, jf s.2 [p.1])) (fun s i => (((), (), s.2, D, ((ja D : Nat) : Int), i, ()), (((0 : Int), ([] : List Int), ()), (s.1, ([] : List Int), ()), ())))
  (fun s => .inl (((), (), s.2, ()), (((0 : Int), ([] : List Int), ()), (s.1, ([] : List Int), ()), ()))) (fun k s => s.2.length = b.2.1.length + k) (by
   intro k hk s hs
   refine ⟨?_, by simp [hs]; omega⟩
   simp only [Iq]
   rw [Aa (show (k : Int) < ((ja D : Nat) : Int) by omega), Kb hk]
   simp only [cond_true, jb]
   rw [show jx (ja s.2 + ja ([D[k].1] : List Int)) Sa = true from ji (by simp only [jw, j8, Be]; omega)]
   rfl)
  (by
   intro s _
   simp only [Iq]
   rw [Ba (by omega)]; rfl) (by omega) (b.1, b.2.1) (by simp)).1
 have key : ∀ (D : List Va) (k : Nat) (s : Int × List Int), Jd (fun _ (s : Int × List Int) (p : Va) => (Rc .i64 s.1 p.2.1, jf s.2 [p.1])) k s D =
  (Jd (fun _ s (p : Va) => Rc .i64 s p.2.1) k s.1 D, s.2 ++ D.map fun p => p.1) := by
  intro D
  induction D with
  | nil => intro k s; simp [Jd]
  | cons x D ih => intro k s; simp only [Jd]; rw [ih]; simp
 unfold Qf Cu
 rw [OH _ (by omega)]
 simp only [jb]
 erw [hl]
 rw [key]
 simp only [jb, qk]
 rw [H2 _ (by simp; omega) (fun c hc => by
  rcases jl.1 hc with h | h
  ·exact hbx c h
  ·obtain ⟨p, hp, rfl⟩ := qu.1 h
   exact hDx p hp)]
 simp only [jb, PK, Iar]
 congr 4
 apply congrArg (fun p => Qs p 56)
 funext c
 rw [List.any_append, List.any_map]
 rfl
abbrev zR : Ha := ((0 : Int), ([] : List Int), ())
theorem RW {α : Type} (p : α → Bool) : ∀ (l : List α) (k : Nat) (b : Bool), Jd (fun _ b x => cond b true (p x)) k b l = (b || l.any p)
 | [], _, b => by simp [Jd]
 | x :: l, k, b => by
  simp only [Jd, List.any_cons]
  rw [RW p l (k + 1)]
  cases b <;> cases p x <;> rfl
theorem Wae (D : List Pa) (b : Ha) (K : List Int) (c : Int) (has : Bool) (hb : b.2.1.length ≤ Ea) :
 Vl ((D, (), (), K, c, has, (0 : Int), ()), (zR, b, ())) = some (.inl ((D, (), (), K, c, has || b.2.1.any (fun y => y == c), ()), (zR, b, ()))) := by
 have h20 : Ea = 1048576 := rfl
 have hl := (Qe (step := fun x => Dr x.1.1 x.1.2.1 x.1.2.2.1 x.1.2.2.2.1 x.1.2.2.2.2.1 x.1.2.2.2.2.2.1 x.1.2.2.2.2.2.2.1 x.2.1 x.2.2.1) b.2.1 (fun _ s y => cond s true (y == c)) (fun s i => ((D, (), (), K, c, s, i, ()), (zR, b, ())))
  (fun s => .inl ((D, (), (), K, c, s, ()), (zR, b, ()))) (fun _ _ => True) (by
   intro k hk s _
   refine ⟨?_, trivial⟩
   simp only [Dr]
   rw [Aa (show (k : Int) < ((ja b.2.1 : Nat) : Int) by omega), show Af (ja b.2.1) (k : Int) = true by rw [Kg]; exact Aa hk, jn, je hk]
   simp only [cond_true, jb]
   cases s <;> rfl)
  (by
   intro s _
   simp only [Dr]
   rw [Ba (by omega)]; rfl) (by omega) has trivial).1
 unfold Vl
 erw [hl]
 rw [RW (fun y : Int => y == c)]
theorem Vae (D : List Pa) (b : Ha) (K : List Int) (c : Int) (has : Bool) (hD : D.length ≤ Ea) :
 Wl ((D, (), (), K, c, has, (0 : Int), ()), (zR, b, ())) = some (.inl ((D, (), (), K, c, has || D.any (fun h => h.2.1.2.1 == c), ()), (zR, b, ()))) := by
 have h20 : Ea = 1048576 := rfl
 have hl := (Qe (step := fun x => Er x.1.1 x.1.2.1 x.1.2.2.1 x.1.2.2.2.1 x.1.2.2.2.2.1 x.1.2.2.2.2.2.1 x.1.2.2.2.2.2.2.1 x.2.1 x.2.2.1) D (fun _ s (h : Pa) => cond s true (h.2.1.2.1 == c)) (fun s i => ((D, (), (), K, c, s, i, ()), (zR, b, ())))
  (fun s => .inl ((D, (), (), K, c, s, ()), (zR, b, ()))) (fun _ _ => True) (by
   intro k hk s _
   refine ⟨?_, trivial⟩
   simp only [Er]
   rw [Aa (show (k : Int) < ((ja D : Nat) : Int) by omega), Kb hk]
   simp only [cond_true, jb]
   cases s <;> rfl)
  (by
   intro s _
   simp only [Er]
   rw [Ba (by omega)]; rfl) (by omega) has trivial).1
 unfold Wl
 erw [hl]
 rw [RW (fun h : Pa => h.2.1.2.1 == c)]
theorem AI (l D : List Pa) (hn : l.length ≤ Ea) (hv : Jf l = true) (hD : D.length ≤ 1000) : Oh l D = some (PK (Yc l) (D.map Td), ()) := by
 have h20 : Ea = 1048576 := rfl
 have h1 := (Qe (step := fun x => Ht x.1.1 x.1.2.1 x.1.2.2.1 x.1.2.2.2.1 x.2.1 x.2.2.1) D (fun _ s (h : Pa) => Rc .i64 s h.2.1.2.2.1) (fun s i => ((D, (), (), i, ()), (zR, ((s, (Yc l).2.1, ()) : Ha), ())))
  (fun s => .inl ((D, (), (), ()), (zR, ((s, (Yc l).2.1, ()) : Ha), ()))) (fun _ _ => True) (by
   intro k hk s _
   refine ⟨?_, trivial⟩
   simp only [Ht]
   rw [Aa (show (k : Int) < ((ja D : Nat) : Int) by omega), Kb hk]; rfl)
  (by
   intro s _
   simp only [Ht]
   rw [Ba (by omega)]; rfl) (by omega) (Yc l).1 trivial).1
 have hm : ∀ (D : List Pa) (k : Nat) (s : Int), Jd (fun _ s (h : Pa) => Rc .i64 s h.2.1.2.2.1) k s D = Jd (fun _ s (p : Va) => Rc .i64 s p.2.1) k s (D.map Td) := by
  intro D
  induction D with
  | nil => intro k s; rfl
  | cons x D ih => intro k s; simp only [Jd, List.map_cons]; exact ih _ _
 generalize hms : Jd (fun _ s (h : Pa) => Rc .i64 s h.2.1.2.2.1) 0 (Yc l).1 D = ms at h1
 have hms' : Iar (Yc l).1 (D.map Td) = ms := by rw [← hms, hm]; rfl
 let pr : Int → Bool := fun c => (Yc l).2.1.any (fun y => y == c) || D.any (fun h => h.2.1.2.1 == c)
 have h2 := EC (step := fun x => It x.1.1 x.1.2.1 x.1.2.2.1 x.1.2.2.2.1 x.1.2.2.2.2.1 x.2.1 x.2.2.1) (fun k => ((D, (), (), Qs pr k, ((k + 1 : Nat) : Int), ()), (zR, ((ms, (Yc l).2.1, ()) : Ha), ()))) 56
  (.inl (((), (), Qs pr 56, ()), (zR, ((ms, (Yc l).2.1, ()) : Ha), ()))) (by
   intro k hk
   simp only [It]
   have hlen := CX pr k
   rw [Aa (show ((k + 1 : Nat) : Int) ≤ 56 by omega), Wae D _ _ _ _ (by have := IK l; show (Yc l).2.1.length ≤ _; omega)]
   simp only [cond_true, jb, qk]
   rw [Vae D _ _ _ _ (by omega)]
   simp only [jb, qk]
   rw [show jx (ja (Qs pr k) + ja ([((k + 1 : Nat) : Int)] : List Int)) Sa = true from ji (by simp only [jw, j8, Be]; omega), Hc (by omega)]
   simp only [Qs, pr, Bool.false_or, cond_true]
   cases ((Yc l).2.1.any (fun y => y == ((k + 1 : Nat) : Int)) || D.any (fun h => h.2.1.2.1 == ((k + 1 : Nat) : Int))) <;> rfl) (by
   simp only [It]
   rw [Ba (by decide)]; rfl)
 unfold Oh Zw Ax
 rw [Rw l hn hv]
 simp only [jb]
 erw [h1]
 simp only [jb, qk]
 erw [h2]
 simp only [jb, qk]
 unfold PK
 rw [hms']
 congr 4
 apply congrArg (fun p => Qs p 56)
 funext c
 simp only [pr, List.any_map]
 rfl
noncomputable def rM (L : List Pa) (x : Sc) : Int := Ed (Mi x.2.1 x.2.2.1) 0 L
noncomputable def FZ (b : Ha) (L : List Pa) (x : Sc) : List Ha :=
 cond (x.1 == 0) [PK b ((jf L [Yh x]).map Td), PK b (L.map Td)] [PK b ((ZN x L (rM L x)).map Td)]
noncomputable def mG (b : Ha) (s : List Ha × List Pa) (x : Sc) : List Ha × List Pa := (jf s.1 (FZ b s.2 x), ZN x s.2 (rM s.2 x))
noncomputable def BT (b : Ha) (l : List Sc) : List Ha := (Jd (fun _ s x => mG b s x) 0 ([], []) l).1
theorem C0 {α : Type} (p : α → Bool) : ∀ (xs : List α) (k : Nat) (y : α), Ed p k xs = -1 → p y = true → Ed p k (xs ++ [y]) = ((k + xs.length : Nat) : Int)
 | [], k, y, _, hy => by simp only [List.nil_append, Ed, hy, cond_true]; simp
 | x :: xs, k, y, h, hy => by
  simp only [Ed] at h
  simp only [List.cons_append, Ed]
  cases hx : p x with
  | true => rw [hx] at h; simp only [cond_true] at h; omega
  | false =>
   rw [hx] at h
   simp only [cond_false] at h ⊢
   rw [C0 p xs (k + 1) y h hy, jw]
   omega
structure F6 (l : List Sc) (k : Nat) (s : List Ha × List Pa) : Prop where
 ok : ∃ L', Nc (fun _ L x => Iu L x) k s.2 (l.drop k) = .inl L'
 len : s.2.length ≤ k
 out : s.1.length ≤ 2 * k
 cod : ∀ h ∈ s.2, 0 ≤ h.2.1.2.1 ∧ h.2.1.2.1 ≤ 56
theorem Kad {l : List Sc} {k : Nat} (hk : k < l.length) {b : Ha} {s : List Ha × List Pa} (hi : F6 l k s) : Py l[k] (rM s.2 l[k]) = true ∧ F6 l (k + 1) (mG b s l[k]) := by
 obtain ⟨L', hL⟩ := hi.ok
 rw [List.drop_eq_getElem_cons hk] at hL
 simp only [Nc] at hL
 unfold rM
 cases hc : Py l[k] (Ed (Mi l[k].2.1 l[k].2.2.1) 0 s.2) with
 | false =>
  have : Iu s.2 l[k] = .inr () := by unfold Iu; rw [hc]; rfl
  rw [this] at hL; simp at hL
 | true =>
  have hm : Iu s.2 l[k] = .inl (ZN l[k] s.2 (rM s.2 l[k])) := by unfold Iu rM; rw [hc]; rfl
  rw [hm] at hL
  refine ⟨rfl, ⟨L', hL⟩, ?_, ?_, ?_⟩
  ·have := B7 hm
   have := hi.len
   show (ZN l[k] s.2 (rM s.2 l[k])).length ≤ k + 1
   omega
  ·have := hi.out
   show (jf s.1 (FZ b s.2 l[k])).length ≤ _
   unfold FZ
   cases l[k].1 == 0 <;> simp <;> omega
  ·have hcode : 0 ≤ l[k].2.1 ∧ l[k].2.1 ≤ 56 := by
    simp only [Py, jd] at hc
    exact JM hc.1
   intro h hh
   have hh' : h ∈ ZN l[k] s.2 (rM s.2 l[k]) := hh
   unfold ZN at hh'
   cases h1 : l[k].1 == 1 with
   | true =>
    rw [h1] at hh'
    rcases jl.1 (show h ∈ s.2 ++ [Yh l[k]] from hh') with hh' | hh'
    ·exact hi.cod h hh'
    ·simp only [jp, List.not_mem_nil, or_false] at hh'
     rw [hh']; exact hcode
   | false =>
    rw [h1] at hh'
    cases h2 : l[k].1 == 2 with
    | true =>
     rw [h2] at hh'
     have hsub : h ∈ s.2 := by
      have hw : h ∈ Ih s.2 (rM s.2 l[k]).toNat := hh'
      unfold Ih Eb at hw
      rcases jl.1 (show h ∈ _ ++ _ from hw) with hw | hw
      ·exact List.mem_of_mem_take (qs hw)
      ·exact List.mem_of_mem_take (qs hw)
     exact hi.cod h hsub
    | false => rw [h2] at hh'; exact hi.cod h hh'
theorem Hae {x : Sc} {r : Int} (h : Py x r = true) : (x.1 = 0 ∧ r < 0) ∨ (x.1 = 1 ∧ r < 0) ∨ (x.1 = 2 ∧ r ≥ 0) := by
 simp only [Py, jd, Bool.or_eq_true, beq_iff_eq, Bool.not_eq_true', decide_eq_false_iff_not, decide_eq_true_eq] at h
 omega
theorem Na {n m : Nat} (h : n ≤ 1000) (hm : m ≤ 10) : jx (n + m) Sa = true := ji (by rw [Be]; omega)
theorem Haf (L : List Pa) (h : Pa) : Ih (jf L [h]) L.length = L := by
 simp [Ih, Eb]
theorem EV (a : List Pa) (l : List Sc) (hn : a.length ≤ Ea) (ha : Jf a = true) (hm : Uf l = true) : Uj a l = some (BT (Yc a) l, ()) := by
 have h20 : Ea = 1048576 := rfl
 have hm' := hm
 simp only [Uf, jd, decide_eq_true_eq, Zad] at hm'
 have h0 : F6 l 0 ([], []) := ⟨by
  rw [List.drop_zero]
  cases hf : Nc (fun _ L x => Iu L x) 0 [] l with
  | inl L => exact ⟨L, rfl⟩
  | inr u => rw [hf] at hm'; simp at hm', jo _, jo _, by simp⟩
 have hl := (Qe (step := fun x => Tl x.1.1 x.1.2.1 x.1.2.2.1 x.1.2.2.2.1 x.1.2.2.2.2.1) l (fun _ s x => mG (Yc a) s x) (fun s i => ((a, l, s.1, s.2, i, ()), ())) (fun s => .inl ((s.1, ()), ())) (F6 l) (by
  intro k hk s hi
  obtain ⟨hok, hi'⟩ := Kad (b := Yc a) hk hi
  refine ⟨?_, hi'⟩
  have hlen := hi.len
  have hout := hi.out
  have hl8 := hm'.1
  simp only [Tl]
  rw [Aa (show (k : Int) < ((ja l : Nat) : Int) by omega), Kb hk]
  simp only [cond_true, jb, Tp]
  generalize hx : l[k] = x at *
  have e1 : jx (ja s.2 + ja ([((0 : Int), ((2 : Int), x.2.1, x.2.2.1, (0 : Int), ()), ())] : List Pa)) Sa = true := Na (by omega) (by simp)
  have hR1 : Oh a (jf s.2 [Yh x]) = some (PK (Yc a) ((jf s.2 [Yh x]).map Td), ()) := AI a _ hn ha (by simp; omega)
  have hR0 : Oh a s.2 = some (PK (Yc a) (s.2.map Td), ()) := AI a _ hn ha (by omega)
  unfold mG FZ ZN
  rcases Hae hok with ⟨h0, hr⟩ | ⟨h1, hr⟩ | ⟨h2, hr⟩
  ·rw [h0, e1]
   simp only [show ((0 : Int) != 2) = true from rfl, show ((0 : Int) != 1) = true from rfl, show ((0 : Int) == 0) = true from rfl, show ((0 : Int) == 1) = false from rfl, show ((0 : Int) == 2) = false from rfl, cond_true, cond_false]
   show jz (Oh a (jf s.2 [Yh x])) _ = _
   rw [hR1]
   simp only [jb]
   rw [show ∀ r : Ha, jx (ja s.1 + ja ([r] : List Ha)) Sa = true from fun r => Na (by omega) (by simp)]
   simp only [cond_true]
   have hF : Mn (jf s.2 [Yh x]) x = some (((s.2.length : Nat) : Int), ()) := by
    rw [BM _ _ (by simp; omega)]
    have hm1 : Ed (Mi x.2.1 x.2.2.1) 0 s.2 = -1 := by
     rcases Zu (Mi x.2.1 x.2.2.1) s.2 0 with h | ⟨j, _, h⟩
     ·exact h
     ·unfold rM at hr; omega
    have := C0 (Mi x.2.1 x.2.2.1) s.2 0 (Yh x) hm1 (by simp [Mi, Yh])
    rw [js] at this
    show some (Ed _ 0 (s.2 ++ [Yh x]), ()) = _
    rw [this]
   have hW : Gg (jf s.2 [Yh x]) ((s.2.length : Nat) : Int) = some (s.2, ()) := by
    rw [WE _ (by simp) (by simp; omega), Haf]
   show jz (Mn (jf s.2 [Yh x]) x) _ = _
   rw [hF]
   simp only [jb]
   show jz (Gg (jf s.2 [Yh x]) ((s.2.length : Nat) : Int)) _ = _
   rw [hW]
   simp only [jb]
   rw [hR0]
   simp only [jb]
   rw [show ∀ r r' : Ha, jx (ja (jf s.1 [r]) + ja ([r'] : List Ha)) Sa = true from fun r r' => Na (by simp; omega) (by simp)]
   simp
  ·rw [h1, e1]
   simp only [show ((1 : Int) != 2) = true from rfl, show ((1 : Int) != 1) = false from rfl, show ((1 : Int) == 0) = false from rfl, show ((1 : Int) == 1) = true from rfl, cond_true, cond_false]
   show jz (Oh a (jf s.2 [Yh x])) _ = _
   rw [hR1]
   simp only [jb]
   rw [show ∀ r : Ha, jx (ja s.1 + ja ([r] : List Ha)) Sa = true from fun r => Na (by omega) (by simp)]
   rfl
  ·rw [h2]
   simp only [show ((2 : Int) != 2) = false from rfl, show ((2 : Int) != 1) = true from rfl, show ((2 : Int) == 0) = false from rfl, show ((2 : Int) == 1) = false from rfl, show ((2 : Int) == 2) = true from rfl, cond_true, cond_false]
   rcases Zu (Mi x.2.1 x.2.2.1) s.2 0 with h | ⟨j, hj, h⟩
   ·unfold rM at hr; omega
   ·rw [js] at h
    rw [BM _ _ (by omega), h]
    simp only [jb]
    rw [WE _ hj (by omega)]
    simp only [jb]
    rw [AI a _ hn ha (by rw [Y0 hj]; omega)]
    simp only [jb]
    rw [show ∀ r : Ha, jx (ja s.1 + ja ([r] : List Ha)) Sa = true from fun r => Na (by omega) (by simp)]
    unfold rM
    rw [h, jn]
    rfl)
  (by
   intro s _
   simp only [Tl]
   rw [Ba (by omega)]; rfl) (by omega) ([], []) h0).1
 unfold Uj Lo
 rw [XD _ hn, ha, QR _ (by omega), hm]
 simp only [jb, jg, cond_false]
 erw [hl]
 rfl
theorem Xay (a : List Pa) : ∀ c ∈ (Yc a).2.1, 0 ≤ c ∧ c ≤ 56 := by
 intro c hc
 have := (GJ a 56 c).1 hc
 omega
theorem SU (a : List Pa) (l : List Sc) (hn : a.length ≤ Ea) (ha : Jf a = true) (hm : Uf l = true) : Sj a l = some (BT (Yc a) l, ()) := by
 have h20 : Ea = 1048576 := rfl
 have hm' := hm
 simp only [Uf, jd, decide_eq_true_eq, Zad] at hm'
 have h0 : F6 l 0 ([], []) := ⟨by
  rw [List.drop_zero]
  cases hf : Nc (fun _ L x => Iu L x) 0 [] l with
  | inl L => exact ⟨L, rfl⟩
  | inr u => rw [hf] at hm'; simp at hm', jo _, jo _, by simp⟩
 have hl := (Qe (step := fun x => Ml x.1.1 x.1.2.1 x.1.2.2.1 x.1.2.2.2.1 x.1.2.2.2.2.1 x.1.2.2.2.2.2.1 x.2.1) l (fun _ s x => mG (Yc a) s x) (fun s i => (((), s.1, s.2.map Td, l, ((ja l : Nat) : Int), i, ()), (Yc a, ()))) (fun s => .inl ((s.1, ()), ())) (F6 l) (by
  intro k hk s hi
  obtain ⟨hok, hi'⟩ := Kad (b := Yc a) hk hi
  refine ⟨?_, hi'⟩
  have hlen := hi.len
  have hout := hi.out
  have hl8 := hm'.1
  have hcode : 0 ≤ l[k].2.1 ∧ l[k].2.1 ≤ 56 := by
   simp only [Py, jd] at hok
   exact JM hok.1
  simp only [Ml]
  rw [Aa (show (k : Int) < ((ja l : Nat) : Int) by omega), Kb hk]
  simp only [cond_true, jb]
  generalize hx : l[k] = x at *
  have hW : ∀ L : List Pa, L.length ≤ 1000 → (∀ h ∈ L, 0 ≤ h.2.1.2.1 ∧ h.2.1.2.1 ≤ 56) → Qf (Yc a) (L.map Td) = some (PK (Yc a) (L.map Td), ()) := fun L h1 h2 =>
   NZ _ _ (IK a) (by simpa using h1) (Xay a) (fun p hp => by
    obtain ⟨h, hh, rfl⟩ := qu.1 hp
    exact h2 h hh)
  have hcs : ∀ h ∈ jf s.2 [Yh x], 0 ≤ h.2.1.2.1 ∧ h.2.1.2.1 ≤ 56 := by
   intro h hh
   rcases jl.1 (show h ∈ s.2 ++ [Yh x] from hh) with hh | hh
   ·exact hi.cod h hh
   ·simp only [jp, List.not_mem_nil, or_false] at hh
    rw [hh]; exact hcode
  have happ : jf (s.2.map Td) ([(x.2.1, x.2.2.1, ())] : List Va) = (jf s.2 [Yh x]).map Td := by
   show _ ++ _ = List.map Td (_ ++ _)
   rw [List.map_append]; rfl
  have happ2 : jf (jf ([] : List Va) (s.2.map Td)) ([(x.2.1, x.2.2.1, ())] : List Va) = (jf s.2 [Yh x]).map Td := happ
  have hR1 := hW (jf s.2 [Yh x]) (by simp; omega) hcs
  have hR0 := hW s.2 (by omega) hi.cod
  have b1 : jx (ja (s.2.map Td) + ja ([(x.2.1, x.2.2.1, ())] : List Va)) Sa = true := Na (by simp; omega) (by simp)
  have b0 : jx (ja ([] : List Va) + ja (s.2.map Td)) Sa = true := ji (by simp [Be]; omega)
  unfold mG FZ ZN
  rcases Hae hok with ⟨h0, hr⟩ | ⟨h1, hr⟩ | ⟨h2, hr⟩
  ·rw [h0, b0]
   simp only [show ((0 : Int) == 0) = true from rfl, show ((0 : Int) == 1) = false from rfl, show ((0 : Int) == 2) = false from rfl, cond_true, cond_false]
   show cond (jx (ja (s.2.map Td) + ja ([(x.2.1, x.2.2.1, ())] : List Va)) Sa) _ _ = _
   rw [b1, happ2]
   simp only [cond_true]
   show jz (Qf (Yc a) _) _ = _
   rw [hR1]
   simp only [jb]
   rw [show ∀ r : Ha, jx (ja s.1 + ja ([r] : List Ha)) Sa = true from fun r => Na (by omega) (by simp)]
   simp only [cond_true]
   show jz (Qf (Yc a) _) _ = _
   rw [hR0]
   simp only [jb]
   rw [show ∀ r r' : Ha, jx (ja (jf s.1 [r]) + ja ([r'] : List Ha)) Sa = true from fun r r' => Na (by simp; omega) (by simp)]
   simp
  ·rw [h1, b1, happ]
   simp only [show ((1 : Int) == 0) = false from rfl, show ((1 : Int) == 1) = true from rfl, cond_true, cond_false]
   show jz (Qf (Yc a) _) _ = _
   rw [hR1]
   simp only [jb]
   rw [show ∀ r : Ha, jx (ja s.1 + ja ([r] : List Ha)) Sa = true from fun r => Na (by omega) (by simp)]
   rfl
  ·rw [h2]
   simp only [show ((2 : Int) == 0) = false from rfl, show ((2 : Int) == 1) = false from rfl, show ((2 : Int) == 2) = true from rfl, cond_true, cond_false]
   rcases Zu (Mi x.2.1 x.2.2.1) s.2 0 with h | ⟨j, hj, h⟩
   ·unfold rM at hr; omega
   ·rw [js] at h
    rw [VS (s.2.map Td) _ (by simp; omega), I5, h]
    simp only [jb]
    have hj' : j < (s.2.map Td).length := by simpa using hj
    have hc := LW hj'
    have e1 : jx (ja (Eb (s.2.map Td) (jy 0) (jy (j : Int))) + ja (Eb (s.2.map Td) (jy ((j + 1 : Nat) : Int)) (jy ((ja (s.2.map Td) : Nat) : Int)))) Sa = true :=
     ji (by simp [Eb]; rw [Be]; omega)
    have e2 : jf (Eb (s.2.map Td) (jy 0) (jy (j : Int))) (Eb (s.2.map Td) (jy ((j + 1 : Nat) : Int)) (jy ((ja (s.2.map Td) : Nat) : Int))) = (Ih s.2 j).map Td := by
     rw [← Z0]
     simp [Ih]
    have hsub : ∀ h ∈ Ih s.2 j, 0 ≤ h.2.1.2.1 ∧ h.2.1.2.1 ≤ 56 := by
     intro h hw
     unfold Ih Eb at hw
     rcases jl.1 (show h ∈ _ ++ _ from hw) with hw | hw
     ·exact hi.cod h (List.mem_of_mem_take (qs hw))
     ·exact hi.cod h (List.mem_of_mem_take (qs hw))
    rw [Hc (k := j) (by omega), hc.1, hc.2, e1, e2]
    simp only [cond_true]
    show jz (Qf (Yc a) _) _ = _
    rw [hW (Ih s.2 j) (by rw [Y0 hj]; omega) hsub]
    simp only [jb]
    rw [show ∀ r : Ha, jx (ja s.1 + ja ([r] : List Ha)) Sa = true from fun r => Na (by omega) (by simp)]
    unfold rM
    rw [h, jn]
    rfl)
  (by
   intro s _
   simp only [Ml]
   rw [Ba (by omega)]; rfl) (by omega) ([], []) h0).1
 unfold Sj Zn
 rw [CD _ hn, ha, ZQ _ (by omega), hm, Uv _ hn ha]
 simp only [jb, jg, cond_false]
 erw [hl]
 rfl
theorem D9 (b : Ha) (D : List Va) : (PK b D).2.1.length ≤ 56 := by
 show (Qs (fun c => b.2.1.any (fun y => y == c) || D.any (fun p => p.1 == c)) 56).length ≤ 56
 exact CX _ 56
theorem Aae (b : Ha) : ∀ (l : List Sc) (k : Nat) (s : List Ha × List Pa), (∀ x ∈ s.1, x.2.1.length ≤ 56) →
 (Jd (fun _ s x => mG b s x) k s l).1.length ≤ s.1.length + 2 * l.length ∧ ∀ x ∈ (Jd (fun _ s x => mG b s x) k s l).1, x.2.1.length ≤ 56
 | [], _, s, h => by simp only [Jd]; exact ⟨by omega, h⟩
 | x :: l, k, s, h => by
  have h1 : (mG b s x).1.length ≤ s.1.length + 2 ∧ ∀ y ∈ (mG b s x).1, y.2.1.length ≤ 56 := by
   unfold mG FZ
   cases x.1 == 0 with
   | true =>
    refine ⟨by simp, fun y hy => ?_⟩
    rcases jl.1 (show y ∈ s.1 ++ _ from hy) with hy | hy
    ·exact h y hy
    ·simp only [cond_true, jp, List.not_mem_nil, or_false] at hy
     rcases hy with rfl | rfl <;> exact D9 _ _
   | false =>
    refine ⟨by simp, fun y hy => ?_⟩
    rcases jl.1 (show y ∈ s.1 ++ _ from hy) with hy | hy
    ·exact h y hy
    ·simp only [cond_false, jp, List.not_mem_nil, or_false] at hy
     rw [hy]; exact D9 _ _
  have := Aae b l (k + 1) (mG b s x) h1.2
  simp only [Jd, jw]
  exact ⟨by omega, this.2⟩
def Qn (f : Int) (l : List Pa) : Int := Jd (fun _ s (h : Pa) => cond (h.2.1.1 == 3) (Rc .i64 s (Ta .i64 1 h.2.1.2.2.2.1)) s) 0 (Rc .i64 1 f) l
theorem SS {f : Int} (hf : 0 ≤ f ∧ f ≤ 15) (l : List Pa) (hn : l.length ≤ Ea) (hv : Jf l = true) : Ox f l = some (Qn f l, ()) := by
 have h20 : Ea = 1048576 := rfl
 have hh := Hn hv
 have hl := (Qe (step := fun x => Is x.1.1 x.1.2.1 x.1.2.2.1 x.1.2.2.2.1) l
  (fun _ s (h : Pa) => cond (h.2.1.1 == 3) (Rc .i64 s (Ta .i64 1 h.2.1.2.2.2.1)) s) (fun s i => ((s, l, ((ja l : Nat) : Int), i, ()), ()))
  (fun s => .inl ((s, ()), ())) (fun _ _ => True) (by
   intro k hk s _
   refine ⟨?_, trivial⟩
   simp only [Is]
   rw [Aa (show (k : Int) < (ja l : Int) by omega), Kb hk]
   simp only [cond_true, jb]
   rw [Aa (DL (hh _ (qr hk)).act)]
   cases l[k].2.1.1 == 3 <;> rfl)
  (by
   intro s _
   simp only [Is]
   rw [Ba (by omega)]; rfl) (by omega) (Rc .i64 1 f) trivial).1
 unfold Ox Oj
 rw [Aa (show f ≥ 0 by omega), Aa hf.2, CD _ hn, hv]
 simp only [cond_true, jb, jg, cond_false]
 erw [hl]
 rfl
theorem JT {f : Int} (hf : 0 ≤ f ∧ f ≤ 15) (l : List Pa) (hn : l.length ≤ Ea) (hv : Jf l = true) : Cy f l = some (Qn f l, ()) := by
 have h20 : Ea = 1048576 := rfl
 have hh := Hn hv
 have hl := (Qe (step := fun x => Et x.1.1 x.1.2.1 x.1.2.2.1) l
  (fun _ s (h : Pa) => cond (h.2.1.1 == 3) (Rc .i64 s (Ta .i64 1 h.2.1.2.2.2.1)) s) (fun s i => ((l, s, i, ()), ()))
  (fun s => .inl ((s, ()), ())) (fun _ _ => True) (by
   intro k hk s _
   refine ⟨?_, trivial⟩
   simp only [Et]
   rw [Aa (show (k : Int) < ((ja l : Nat) : Int) by omega), Kb hk, XD _ hn, hv]
   simp only [cond_true, jb]
   rw [Aa (DL (hh _ (qr hk)).act)]
   cases l[k].2.1.1 == 3 <;> rfl)
  (by
   intro s _
   simp only [Et]
   rw [Ba (by omega)]; rfl) (by omega) (Rc .i64 1 f) trivial).1
 unfold Cy Fn
 rw [Xc, Aa hf]
 simp only [cond_true, jb]
 erw [hl]
 rfl
theorem V6 (a : Bb) : NM a = some (NL a, ()) := by
 unfold NM NL
 rw [LE]
 cases Wf a <;> cases a.1 == 6 <;> rfl
theorem H5 {a : Nat} (ha : a < 2 ^ 63) (x : Pa) : RD (a : Int) x = true ↔ Jt x ∧ a.testBit x.1.toNat = false := by
 constructor
 ·intro h
  obtain ⟨h1, h2⟩ := Bav h
  refine ⟨h1, ?_⟩
  have hx : x.1 = ((x.1.toNat : Nat) : Int) := (Int.toNat_of_nonneg h1.lo).symm
  have := Jr (a := a) (k := x.1.toNat) ha (by have := h1.hi; omega)
  rw [← hx] at this
  rw [← this]
  simp [h2]
 ·rintro ⟨h1, h2⟩
  have hx : x.1 = ((x.1.toNat : Nat) : Int) := (Int.toNat_of_nonneg h1.lo).symm
  have := Jr (a := a) (k := x.1.toNat) ha (by have := h1.hi; omega)
  rw [← hx, h2] at this
  simp only [RD, jd, decide_eq_true_eq, Bool.not_eq_true', beq_eq_false_iff_ne]
  exact ⟨⟨h1.lo, h1.hi⟩, by rw [beq_eq_false_iff_ne] at this; exact this, h1.act, h1.n1, h1.n6, h1.n7⟩
theorem G0 : ∀ (l : List Pa) (k a : Nat), a < 2 ^ 63 → (Hm (Nc (fun _ s x => Gz s x) k (a : Int) l) = true ↔
 (∀ x ∈ l, Jt x ∧ a.testBit x.1.toNat = false) ∧ l.Pairwise (fun x y => x.1 ≠ y.1))
 | [], k, a, ha => by simp [Nc, Hm]
 | y :: l, k, a, ha => by
  simp only [Nc]
  cases hc : RD (a : Int) y with
  | false =>
   rw [show Gz (a : Int) y = .inr () by unfold Gz; rw [hc]; rfl]
   simp only [Hm, jq, false_iff]
   rintro ⟨h, _⟩
   have := (H5 ha y).2 (h y (qy ..))
   rw [hc] at this; cases this
  | true =>
   rw [show Gz (a : Int) y = .inl (Rc .i64 (a : Int) (Ta .i64 1 y.1)) by unfold Gz; rw [hc]; rfl]
   simp only []
   obtain ⟨hy, hb⟩ := (H5 ha y).1 hc
   have h1 := hy.lo; have h2 := hy.hi
   have hyx : y.1 = ((y.1.toNat : Nat) : Int) := (Int.toNat_of_nonneg h1).symm
   have e : Rc .i64 (a : Int) (Ta .i64 1 y.1) = ((a ||| 2 ^ y.1.toNat : Nat) : Int) := by
    conv => lhs; rw [hyx]
    rw [Lk (by omega), ID ha (Pi (by omega))]
   rw [e, G0 l (k + 1) _ (Nat.or_lt_two_pow ha (Pi (by omega)))]
   have tb : ∀ n, (a ||| 2 ^ y.1.toNat).testBit n = false ↔ a.testBit n = false ∧ y.1.toNat ≠ n := by
    intro n
    rw [Nat.testBit_or, qo, Bool.or_eq_false_iff, decide_eq_false_iff_not]
   simp only [jp, List.pairwise_cons, forall_eq_or_imp]
   constructor
   ·rintro ⟨h, hp⟩
    refine ⟨⟨⟨hy, hb⟩, fun x hx => ⟨(h x hx).1, ((tb _).1 (h x hx).2).1⟩⟩, fun x hx hxy => ?_, hp⟩
    exact ((tb _).1 (h x hx).2).2 (by rw [hxy])
   ·rintro ⟨⟨_, h⟩, hq, hp⟩
    refine ⟨fun x hx => ⟨(h x hx).1, (tb _).2 ⟨(h x hx).2, fun hn => hq x hx ?_⟩⟩, hp⟩
    have := (h x hx).1.lo
    omega
theorem PU (l : List Pa) : Jf l = true ↔ (∀ x ∈ l, Jt x) ∧ l.Pairwise (fun x y => x.1 ≠ y.1) := by
 have := G0 l 0 0 (by decide)
 unfold Jf Iab
 erw [this]
 simp
theorem Rat {l : List Pa} (h : Jf l = true) {x : Pa} (hx : Jt x) (hn : ∀ y ∈ l, y.1 ≠ x.1) : Jf (jf l [x]) = true := by
 rw [PU] at h ⊢
 obtain ⟨h1, h2⟩ := h
 refine ⟨fun y hy => ?_, ?_⟩
 ·rcases jl.1 (show y ∈ l ++ [x] from hy) with hy | hy
  ·exact h1 y hy
  ·rw [qe.1 hy]; exact hx
 ·show (l ++ [x]).Pairwise _
  rw [List.pairwise_append]
  exact ⟨h2, List.pairwise_singleton _ _, fun y hy z hz => by rw [qe.1 hz]; exact hn y hy⟩
theorem A2 {l r : List Pa} (h : Jf l = true) (hs : r.Sublist l) : Jf r = true := by
 rw [PU] at h ⊢
 exact ⟨fun y hy => h.1 y (hs.subset hy), h.2.sublist hs⟩
theorem W2 : ∀ (n : Nat) (l : List Nat), l.Nodup → (∀ x ∈ l, x < n) → l.length ≤ n
 | 0, l, _, h => by
  cases l with
  | nil => exact jo _
  | cons x l => exact absurd (h x (qy ..)) (Nat.not_lt_zero _)
 | n + 1, l, hn, h => by
  have := W2 n (l.erase n) (hn.erase n) (fun x hx => by
   have h1 := (hn.mem_erase_iff).1 hx
   have := h x h1.2
   have := h1.1
   omega)
  have h2 := List.length_erase (a := n) (l := l)
  split at h2 <;> omega
theorem Lp {l : List Pa} (h : Jf l = true) : l.length ≤ 32 := by
 rw [PU] at h
 have hn : (l.map fun x => x.1.toNat).Nodup := by
  rw [List.Nodup, List.pairwise_map]
  refine (List.Pairwise.and_mem.1 h.2).imp ?_
  rintro x y ⟨hx, hy, hxy⟩ he
  have h1 := (h.1 x hx).lo; have h2 := (h.1 y hy).lo
  omega
 have hs : ∀ y ∈ (l.map fun x => x.1.toNat), y < 32 := by
  intro y hy
  obtain ⟨x, hx, rfl⟩ := qu.1 hy
  have := (h.1 x hx).hi; have := (h.1 x hx).lo
  omega
 have := W2 32 _ hn hs
 simpa using this
structure Bv (e : Gb) : Prop where
 km : Lh e.1 = true
 m4 : e.2.1.length ≤ 4
 hd : Jf e.2.2.2.1 = true
 mac : ∀ x ∈ e.2.1, Uf x = true
 hin : ∀ x ∈ e.2.2.2.1, Kp e.1.1 e.1.2.1.length x = true
 st : Sab e.1.2.1.length e.2.2.1 e.2.2.2.2.1
theorem I1 {α : Type} {p : α → Bool} {l : List α} : Yd (fun _ x => p x) 0 l = true ↔ ∀ x ∈ l, p x = true := by
 rw [DB]
 constructor
 ·intro h x hx
  obtain ⟨i, hi, rfl⟩ := qt hx
  exact h i hi
 ·intro h j hj
  exact h _ (qr hj)
theorem O6 (e : Gb) : Yi e = true ↔ Bv e := by
 unfold Yi
 simp only [jd, decide_eq_true_eq, beq_iff_eq, I1]
 constructor
 ·rintro ⟨h1, h2, h3, h4, h5, h6, h7, h8⟩
  exact ⟨h1, h2, h3, h4, h5, ⟨h6.1, h6.2, h7, h8.1, h8.2⟩⟩
 ·rintro ⟨h1, h2, h3, h4, h5, h6⟩
  exact ⟨h1, h2, h3, h4, h5, ⟨h6.f0, h6.f1⟩, h6.f2, h6.o0, h6.o1⟩
theorem TY {e : Gb} (h : Bv e) : Ja Xb e ≤ Ea - 5 := by
 have h20 : Ea = 1048576 := rfl
 have h1 := (C5 h.km).z
 have hh := Lp h.hd
 have h2 : Ja (.sl (.sl Yb)) e.2.1 ≤ (8 + 1) * e.2.1.length := IV (e := .sl Yb) (c := 8) fun x hx => by
  have := h.mac x hx
  simp only [Uf, jd, decide_eq_true_eq] at this
  have e2 : Ja (.sl Yb) x = x.length := Em (e := Yb) rfl x
  omega
 have := h.m4
 have hm := Aj h.km
 have h3 : Ja Vb e.1 ≤ 200 := by
  have h1 : Ja Vb e.1 = 0 + (Ja (.sl (.sl Qb)) e.1.2.1 + 0) := rfl
  have h2 : Ja (.sl (.sl Qb)) e.1.2.1 ≤ (32 + 1) * ja e.1.2.1 := IV (e := .sl Qb) (c := 32) fun x hx => by
   obtain ⟨i, hi, rfl⟩ := qt hx
   rw [B6]
   have := hm.row i hi
   have := hm.k2
   omega
  have := hm.l2
  omega
 rw [Cl, Ok]
 omega
noncomputable def Y2 (e : Gb) (k : Nat) (b : Bool) : Bb :=
 cond b (NL (Rk e.1.2.1 (Bj e.1 (Qn e.2.2.1 e.2.2.2.1) k) k)) (ON (Rk e.1.2.1 (Bj e.1 (Qn e.2.2.1 e.2.2.2.1) k) k))
noncomputable def Ep (e : Gb) (k : Nat) (b : Bool) : Int × Int × Bool × Bb := SE e.2.2.1 e.2.2.2.2.1 e.2.2.2.2.2.1 (Y2 e k b)
noncomputable def pH (e : Gb) (k : Nat) (b : Bool) : List Pa := jf e.2.2.2.1 [((k : Int), (Ep e k b).2.2.2, ())]
noncomputable def pE (e : Gb) (k : Nat) (b : Bool) : Gb := (e.1, e.2.1, (Ep e k b).1, pH e k b, (Ep e k b).2.1, (Ep e k b).2.2.1, ())
noncomputable def pM (e : Gb) (k : Nat) (b : Bool) : List Ha :=
 cond ((Ep e k b).2.2.2.1 == 9) (cond (decide ((Ep e k b).2.2.2.2.2.2.1 < ((ja e.2.1 : Nat) : Int))) (BT (Yc (pH e k b)) (e.2.1.getD (Ep e k b).2.2.2.2.2.2.1.toNat [])) []) []
noncomputable def pR (e : Gb) (k : Nat) (b : Bool) : List Ha := Jv Ek (Yc e.2.2.2.1) (jf (pM e k b) [Yc (pH e k b)])
theorem Pax {nl i : Nat} {a : Bb} (h : Gk nl i a = true) (h1 : a.1 ≠ 1) : B1 nl (NL a) := by
 have ha := MX h
 have hP := ha
 rw [Ic] at hP
 unfold Sd at hP
 unfold NL Wf
 rw [ha]
 by_cases h67 : a.1 = 6 ∨ a.1 = 7
 ·have e : (true && ((a.1 == 6) || (a.1 == 7))) = true := by rcases h67 with h | h <;> rw [h] <;> rfl
  rw [e]
  have hn := DZ h (by omega)
  rcases h67 with h6 | h7
  ·rw [h6]
   refine ⟨?_, by show (2 : Int) ≠ 1; decide, by show (2 : Int) ≠ 6; decide, by show (2 : Int) ≠ 7; decide, fun _ => ?_⟩
   ·rw [Ic]
    exact .inr (.inl ⟨rfl, rfl, .inl rfl, .inr (by show 1 ≤ a.2.2.1 ∧ a.2.2.1 ≤ 15; omega), .inr (by show a.2.2.1 ≠ 0; omega)⟩)
   ·show (0 : Int) < (nl : Int)
    omega
  ·rw [h7]
   refine ⟨?_, by show (3 : Int) ≠ 1; decide, by show (3 : Int) ≠ 6; decide, by show (3 : Int) ≠ 7; decide, fun _ => hn⟩
   rw [Ic]
   exact .inr (.inr (.inl ⟨.inl rfl, rfl, rfl, by show 1 ≤ a.2.2.2.1; omega, by show a.2.2.2.1 ≤ 3; omega⟩))
 ·have e : (true && ((a.1 == 6) || (a.1 == 7))) = false := by
   rw [jk, Bool.or_eq_false_iff, beq_eq_false_iff_ne, beq_eq_false_iff_ne]; omega
  rw [e]
  exact ⟨ha, h1, fun h => h67 (.inl h), fun h => h67 (.inr h), fun hk => DZ h hk⟩
structure Oas (e : Gb) (k : Nat) (b : Bool) : Prop where
 act : B1 e.1.2.1.length (Y2 e k b)
 ah : B1 e.1.2.1.length (Ep e k b).2.2.2
 hd : Jf (pH e k b) = true
 ok : Bv (pE e k b)
 ml : (pM e k b).length ≤ 16
 mx : ∀ x ∈ pM e k b, x.2.1.length ≤ 56
theorem H7 {e : Gb} (h : Bv e) {k : Nat} (hk : (k : Int) < e.1.1) (hn : ∀ y ∈ e.2.2.2.1, y.1 ≠ (k : Int)) (b : Bool) : Oas e k b := by
 have hm := Aj h.km
 have h1 := Vau hm (Qn e.2.2.1 e.2.2.2.1) hk
 have h2 : B1 e.1.2.1.length (Y2 e k b) := by
  cases b
  ·exact NaJ h1.1 h1.2
  ·exact Pax h1.1 h1.2
 have h3 := YaM (c := e.2.2.2.2.2.1) hm.l2 h.st h2
 have h4 : Jf (pH e k b) = true := Rat h.hd (x := ((k : Int), (Ep e k b).2.2.2, ())) ⟨by show (0 : Int) ≤ (k : Int); omega, by have := hm.k2; show (k : Int) ≤ 31; omega, h3.2.act, h3.2.n1, h3.2.n6, h3.2.n7⟩ hn
 refine ⟨h2, h3.2, h4, ⟨h.km, h.m4, h4, h.mac, fun x hx => ?_, h3.1⟩, ?_, ?_⟩
 ·rcases jl.1 (show x ∈ e.2.2.2.1 ++ [((k : Int), (Ep e k b).2.2.2, ())] from hx) with hx | hx
  ·exact h.hin x hx
  ·simp only [jp, List.not_mem_nil, or_false] at hx
   subst hx
   simp only [Kp, jd, Bool.not_eq_true', Bool.and_eq_false_iff, decide_eq_false_iff_not]
   refine ⟨by show ¬ (k : Int) ≥ e.1.1; omega, ?_⟩
   by_cases h9 : (Ep e k b).2.2.2.1 = 9
   ·exact .inl (by show ((Ep e k b).2.2.2.1 != 9) = false; simp [h9])
   ·exact .inr (Int.not_le.2 (h3.2.n h9))
 all_goals
  unfold pM
  cases (Ep e k b).2.2.2.1 == 9 with
  | false => simp
  | true =>
   simp only [cond_true]
   by_cases hl : (Ep e k b).2.2.2.2.2.2.1 < ((ja e.2.1 : Nat) : Int)
   ·rw [Aa hl]
    have h0 := DL h3.2.act
    have hmem : (e.2.1.getD (Ep e k b).2.2.2.2.2.2.1.toNat []) ∈ e.2.1 := by
     have hlt : (Ep e k b).2.2.2.2.2.2.1.toNat < e.2.1.length := by
      have : (0 : Int) ≤ (Ep e k b).2.2.2.2.2.2.1 := h0
      omega
     rw [qj, je hlt, Option.getD_some]
     exact qr hlt
    have hmc := h.mac _ hmem
    simp only [Uf, jd, decide_eq_true_eq] at hmc
    have := Aae (Yc (pH e k b)) (e.2.1.getD (Ep e k b).2.2.2.2.2.2.1.toNat []) 0 ([], []) (by simp)
    simp only [cond_true]
    unfold BT
    first
     | exact this.2
     | (have h5 := this.1; simp only [j8] at h5; omega)
   ·rw [Ba hl]; simp
theorem L5 {β : Type} (MR : List Pa → List Sc → Option ((List Ha) × Unit)) (RO : List Pa → Option (Ha × Unit)) (CH : Ha → List Ha → Option ((List Ha) × Unit)) (K : List Ha → Option β)
 (hMR : ∀ a l, a.length ≤ Ea → Jf a = true → Uf l = true → MR a l = some (BT (Yc a) l, ()))
 (hRO : ∀ l, l.length ≤ Ea → Jf l = true → RO l = some (Yc l, ()))
 (hCH : ∀ (a : Ha) (l : List Ha), l.length ≤ Ea → a.2.1.length ≤ Ea → (∀ x ∈ l, x.2.1.length ≤ Ea) → CH a l = some (Jv Ek a l, ()))
 {e : Gb} (h : Bv e) {k : Nat} {b : Bool} (F : Oas e k b) :
 (cond (jx (ja e.2.2.2.1 + ja ([((k : Int), (Ep e k b).2.2.2, ())] : List Pa)) Sa)
  (cond ((Ep e k b).2.2.2.1 == (9 : Int))
   (cond (decide ((Ep e k b).2.2.2.2.2.2.1 < ((ja e.2.1 : Nat) : Int)))
    (jz (Ab e.2.1 (Ep e k b).2.2.2.2.2.2.1) fun x8 => jz (MR (pH e k b) x8) fun r9 => jz (RO (pH e k b)) fun r10 =>
     cond (jx (ja r9.1 + ja ([r10.1] : List Ha)) Sa) (jz (RO e.2.2.2.1) fun r11 => jz (CH r11.1 (jf r9.1 ([r10.1] : List Ha))) fun r12 => K r12.1) none)
    (jz (RO (pH e k b)) fun r13 => cond (jx (ja ([] : List Ha) + ja ([r13.1] : List Ha)) Sa)
     (jz (RO e.2.2.2.1) fun r14 => jz (CH r14.1 (jf ([] : List Ha) ([r13.1] : List Ha))) fun r15 => K r15.1) none))
   (jz (RO (pH e k b)) fun r16 => cond (jx (ja ([] : List Ha) + ja ([r16.1] : List Ha)) Sa)
    (jz (RO e.2.2.2.1) fun r17 => jz (CH r17.1 (jf ([] : List Ha) ([r16.1] : List Ha))) fun r18 => K r18.1) none))
  none) = K (pR e k b) := by
 have h20 : Ea = 1048576 := rfl
 have hlim := Be
 have hl1 := Lp h.hd
 have hl2 := Lp F.hd
 have R1 := hRO (pH e k b) (by omega) F.hd
 have R0 := hRO e.2.2.2.1 (by omega) h.hd
 have hr : ∀ r : Ha, jx (ja ([] : List Ha) + ja ([r] : List Ha)) Sa = true := fun r => ji (by simp only [jw, j8]; omega)
 rw [show jx (ja e.2.2.2.1 + ja ([((k : Int), (Ep e k b).2.2.2, ())] : List Pa)) Sa = true from ji (by simp only [jw, j8]; omega)]
 have plain : pM e k b = [] → (jz (RO (pH e k b)) fun r13 => cond (jx (ja ([] : List Ha) + ja ([r13.1] : List Ha)) Sa)
  (jz (RO e.2.2.2.1) fun r14 => jz (CH r14.1 (jf ([] : List Ha) ([r13.1] : List Ha))) fun r15 => K r15.1) none) = K (pR e k b) := by
  intro hm
  rw [R1, R0]
  simp only [jb]
  rw [hr, hCH _ _ (by simp; omega) (KR _) (fun x hx => by rw [qe.1 (show x ∈ [Yc (pH e k b)] from hx)]; exact KR _)]
  simp only [cond_true, jb]
  unfold pR
  rw [hm]
 simp only [cond_true]
 cases h9 : (Ep e k b).2.2.2.1 == (9 : Int) with
 | false => exact plain (by unfold pM; rw [h9]; rfl)
 | true =>
  simp only [cond_true]
  by_cases hl : (Ep e k b).2.2.2.2.2.2.1 < ((ja e.2.1 : Nat) : Int)
  ·rw [Aa hl]
   simp only [cond_true]
   have h0 : (0 : Int) ≤ (Ep e k b).2.2.2.2.2.2.1 := DL F.ah.act
   have hlt : (Ep e k b).2.2.2.2.2.2.1.toNat < e.2.1.length := by omega
   have hi : Ab e.2.1 (Ep e k b).2.2.2.2.2.2.1 = some e.2.1[(Ep e k b).2.2.2.2.2.2.1.toNat] := by
    have := Kb (xs := e.2.1) hlt
    rw [Int.toNat_of_nonneg h0] at this
    exact this
   have hM : pM e k b = BT (Yc (pH e k b)) e.2.1[(Ep e k b).2.2.2.2.2.2.1.toNat] := by
    unfold pM
    rw [h9, Aa hl, qj, je hlt, Option.getD_some]
    rfl
   have ml := F.ml
   have mx := F.mx
   rw [hi]
   simp only [jb]
   rw [hMR _ _ (by omega) F.hd (h.mac _ (qr hlt)), R1, R0, ← hM]
   simp only [jb]
   rw [show jx (ja (pM e k b) + ja ([Yc (pH e k b)] : List Ha)) Sa = true from ji (by simp only [jw, j8]; omega)]
   simp only [cond_true]
   rw [hCH _ _ (by show (pM e k b ++ [Yc (pH e k b)]).length ≤ _; simp; omega) (KR _) (fun x hx => by
    rcases jl.1 (show x ∈ pM e k b ++ [Yc (pH e k b)] from hx) with hx | hx
    ·have := mx x hx; omega
    ·rw [qe.1 hx]; exact KR _)]
   rfl
  ·rw [Ba hl]
   exact plain (by unfold pM; rw [h9, Ba hl]; rfl)
theorem Z6 {e : Gb} (h : Bv e) {k : Nat} (hk : (k : Int) < e.1.1) (hn : ∀ y ∈ e.2.2.2.1, y.1 ≠ (k : Int)) (b : Bool) :
 Uh e (k : Int) b = some (pE e k b, pR e k b, ()) := by
 have h20 : Ea = 1048576 := rfl
 have hm := Aj h.km
 have F := H7 h hk hn b
 have hz := TY h
 have hle := Lp h.hd
 have hl := FR hm (Qn e.2.2.1 e.2.2.2.1) k
 have hrow := hm.row _ hl
 have tail := L5 Sj Ae Ye (fun r => some (pE e k b, r, ())) SU Uv XQ h F
 unfold Uh
 rw [MB _ (by omega), SS (Saq hm.l2 h.st) _ (by omega) h.hd]
 simp only [jb]
 rw [DR hm _ hk]
 simp only [jb]
 show jz (Ab e.1.2.1 ((Bj e.1 (Qn e.2.2.1 e.2.2.2.1) k : Nat) : Int)) _ = _
 rw [Cad hl (by omega)]
 cases b with
 | true =>
  simp only [cond_true]
  rw [V6]
  simp only [jb]
  show jz (Qr (e.1, e.2.1, e.2.2.1, e.2.2.2.1, e.2.2.2.2.1, e.2.2.2.2.2.1, ()) (Y2 e k true)) _ = _
  rw [WS _ _ _ _ _ _ _ F.act.act]
  simp only [jb]
  exact tail
 | false =>
  simp only [cond_false]
  rw [L9]
  simp only [jb]
  show jz (Qr (e.1, e.2.1, e.2.2.1, e.2.2.2.1, e.2.2.2.2.1, e.2.2.2.2.2.1, ()) (Y2 e k false)) _ = _
  rw [WS _ _ _ _ _ _ _ F.act.act]
  simp only [jb]
  exact tail
theorem O4 {l : List Pa} {k : Int} : Ed (fun h : Pa => h.1 == k) 0 l = -1 ↔ ∀ y ∈ l, y.1 ≠ k := by
 have key : ∀ (l : List Pa) (n : Nat), Ed (fun h : Pa => h.1 == k) n l = -1 ↔ ∀ y ∈ l, y.1 ≠ k := by
  intro l
  induction l with
  | nil => intro n; simp [Ed]
  | cons x l ih =>
   intro n
   simp only [Ed]
   cases hx : x.1 == k with
   | true =>
    simp only [cond_true, jp, forall_eq_or_imp]
    have hx := eq_of_beq hx
    constructor
    ·intro h; omega
    ·intro h; exact absurd hx h.1
   | false =>
    simp only [cond_false, jp, forall_eq_or_imp]
    rw [ih]
    exact ⟨fun h => ⟨beq_eq_false_iff_ne.1 hx, h⟩, fun h => h.2⟩
 exact key l 0
theorem V7 {e : Gb} (h : Bv e) {k : Nat} (hk : (k : Int) < e.1.1) (hn : ∀ y ∈ e.2.2.2.1, y.1 ≠ (k : Int)) (b : Bool) :
 Yk e (k : Int) b = some (pE e k b, pR e k b, true, ()) := by
 have h20 : Ea = 1048576 := rfl
 have hm := Aj h.km
 have hk2 := hm.k2
 have F := H7 h hk hn b
 have hz := TY h
 have hle := Lp h.hd
 have hv := (O6 e).2 h
 have tail := L5 Uj Ke Ug (fun r => some (pE e k b, r, true, ())) EV Rw OR h F
 unfold Yk
 rw [ZH _ (by omega), hv, IT _ _ (by omega), O4.2 hn, BE _ (by omega), JT (Saq hm.l2 h.st) _ (by omega) h.hd]
 simp only [jb, jg, cond_false, Xc]
 rw [Vg (by omega) (by omega), Aa (show 0 ≤ (k : Int) ∧ (k : Int) ≤ e.1.1 - 1 by omega), Ba (show ¬ ((-1 : Int) ≥ 0) by decide)]
 simp only [jg, cond_false]
 rw [GQ (by have := (C5 h.km).z; omega) h.km _ hk]
 simp only [jb]
 cases b with
 | true =>
  simp only [cond_true]
  rw [O7]
  simp only [jb]
  show jz (Dm (e.1, e.2.1, e.2.2.1, e.2.2.2.1, e.2.2.2.2.1, e.2.2.2.2.2.1, ()) (Y2 e k true)) _ = _
  rw [LT _ _ _ _ _ _ _ F.act.act]
  simp only [jb]
  exact tail
 | false =>
  simp only [cond_false]
  rw [X9]
  simp only [jb]
  show jz (Dm (e.1, e.2.1, e.2.2.1, e.2.2.2.1, e.2.2.2.2.1, e.2.2.2.2.2.1, ()) (Y2 e k false)) _ = _
  rw [LT _ _ _ _ _ _ _ F.act.act]
  simp only [jb]
  exact tail
def wo (l : List Pa) (i : Nat) : List Pa := jf (l.take i) (l.drop (i + 1))
theorem D6 (l : List Pa) (i : Nat) : (wo l i).Sublist l := by
 have h : (l.drop (i + 1)).Sublist (l.drop i) := List.drop_sublist_drop_left l (Nat.le_succ i)
 have h2 := List.Sublist.append (List.Sublist.refl (l.take i)) h
 rw [List.take_append_drop] at h2
 exact h2
def rE (e : Gb) (i : Nat) : Gb := (e.1, e.2.1, e.2.2.1, wo e.2.2.2.1 i, e.2.2.2.2)
def rR (e : Gb) (i : Nat) : List Ha := Jv Ek (Yc e.2.2.2.1) [Yc (wo e.2.2.2.1 i)]
theorem VaX {e : Gb} (h : Bv e) (i : Nat) : Bv (rE e i) :=
 ⟨h.km, h.m4, A2 h.hd (D6 _ i), h.mac, fun x hx => h.hin x ((D6 _ i).subset hx), h.st⟩
theorem Fat {α : Type} (l : List α) (i : Nat) : Eb l (jy (0 : Int)) (jy (i : Int)) = l.take i := by
 simp [Eb]
theorem Eat {α : Type} (l : List α) (i : Nat) : Eb l (jy ((i + 1 : Nat) : Int)) (jy ((ja l : Nat) : Int)) = l.drop (i + 1) := by
 simp [Eb]
theorem I2 {e : Gb} (h : Bv e) {k : Int} {i : Nat} (hi : i < e.2.2.2.1.length) (hf : Ed (fun h : Pa => h.1 == k) 0 e.2.2.2.1 = (i : Int)) :
 SB e k = some (rE e i, rR e i, ()) := by
 have h20 : Ea = 1048576 := rfl
 have hlim := Be
 have hz := TY h
 have hle := Lp h.hd
 have hw := A2 h.hd (D6 e.2.2.2.1 i)
 have hwl := Lp hw
 unfold SB
 rw [MB _ (by omega), U6 _ _ (by omega), hf]
 simp only [jb]
 rw [Hc (by omega)]
 rw [Fat, Eat]
 rw [show Md (ja e.2.2.2.1) (0 : Int) ((i : Nat) : Int) = true from Wi (lo := 0) (by omega) (by omega), Wi (by omega) (by omega)]
 rw [show jx (ja (e.2.2.2.1.take i) + ja (e.2.2.2.1.drop (i + 1))) Sa = true from ji (by simp; omega)]
 simp only [cond_true]
 rw [Uv _ (by omega) h.hd]
 simp only [jb]
 show jz (Ae (wo e.2.2.2.1 i)) _ = _
 rw [Uv _ (by omega) hw]
 simp only [jb]
 rw [XQ _ _ (by simp; omega) (KR _) (fun x hx => by rw [qe.1 hx]; exact KR _)]
 rfl
theorem K3 {e : Gb} (h : Bv e) {k : Int} {i : Nat} (hi : i < e.2.2.2.1.length) (hf : Ed (fun h : Pa => h.1 == k) 0 e.2.2.2.1 = (i : Int)) :
 LC e k = some (rE e i, rR e i, true, ()) := by
 have h20 : Ea = 1048576 := rfl
 have hlim := Be
 have hz := TY h
 have hle := Lp h.hd
 have hw := A2 h.hd (D6 e.2.2.2.1 i)
 have hwl := Lp hw
 have hv := (O6 e).2 h
 have hW : Gg e.2.2.2.1 (i : Int) = some (wo e.2.2.2.1 i, ()) := by
  unfold Gg
  rw [Hc (by omega), Fat, Eat]
  rw [show Md (ja e.2.2.2.1) (0 : Int) ((i : Nat) : Int) = true from Wi (lo := 0) (by omega) (by omega), Wi (by omega) (by omega)]
  rw [show jx (ja ([] : List Pa) + ja (e.2.2.2.1.take i)) Sa = true from ji (by simp; omega)]
  rw [show jx (ja (jf ([] : List Pa) (e.2.2.2.1.take i)) + ja (e.2.2.2.1.drop (i + 1))) Sa = true from ji (by simp; omega)]
  rfl
 unfold LC
 rw [IT _ _ (by omega), ZH _ (by omega), hv, BE _ (by omega), hf]
 simp only [jb, jg, cond_false]
 rw [Ba (show ¬ ((i : Int) < 0) by omega), hW]
 simp only [cond_false, jb]
 rw [Rw _ (by omega) h.hd]
 simp only [jb]
 rw [Rw _ (by omega) hw]
 simp only [jb]
 rw [OR _ _ (by simp; omega) (KR _) (fun x hx => by rw [qe.1 hx]; exact KR _)]
 rfl
def XZ (md key e : Int) (s : Int) (x : Ca) : Int ⊕ (Int × Int) :=
 cond (Gh x) (cond (decide (x.1 ≥ e)) (.inr (2, e)) (cond (x.2.1 == key) (cond x.2.2.1 (.inl s) (.inr (1, x.1)))
  (cond x.2.2.1 (cond (md == 1) (.inr (2, x.1)) (.inl (Rc .i64 s (Ta .i64 1 x.2.1))))
   (cond (md == 2) (cond (Bd s x.2.1 == 1) (.inr (2, x.1)) (.inl s)) (.inl s))))) (.inr (0, 0))
def chR (md key e : Int) (l : List Ca) : Int ⊕ (Int × Int) := Nc (fun _ s x => XZ md key e s x) 0 0 l
def Jl (t : CL) (key at_ : Int) (l : List Ca) (til : Int) : Va :=
 cond (Fl t && decide (0 ≤ at_ ∧ at_ ≤ 1000000)) (match chR t.2.2.1 key (j5 .i64 (at_ + t.1)) l with
  | .inl _ => cond (decide (til ≥ j5 .i64 (at_ + t.1))) (2, j5 .i64 (at_ + t.1), ()) (0, 0, ())
  | .inr r => (r.1, r.2, ())) (0, 0, ())
theorem C2 (t : CL) (key at_ : Int) (l : List Ca) (til : Int) (hn : l.length ≤ Ea) : Kx t key at_ l til = some (Jl t key at_ l til) := by
 have h20 : Ea = 1048576 := rfl
 have hl := Ag (step := fun x => Cs x.1.1 x.1.2.1 x.1.2.2.1 x.1.2.2.2.1 x.1.2.2.2.2.1 x.1.2.2.2.2.2.1 x.1.2.2.2.2.2.2.1 x.1.2.2.2.2.2.2.2.1 x.2.1) l
  (fun _ s x => XZ t.2.2.1 key (j5 .i64 (at_ + t.1)) s x) (fun s i => ((key, at_, til, (), s, l, ((ja l : Nat) : Int), i, ()), (t, ())))
  (fun s => .inl ((at_, til, (), ()), (t, ()))) (fun r => .inr ((r.1, r.2, ()), ())) (fun _ _ => True) (by
   intro k hk s _
   refine ⟨?_, fun _ _ => trivial⟩
   simp only [Cs]
   rw [Aa (show (k : Int) < ((ja l : Nat) : Int) by omega), Kb hk]
   simp only [cond_true, jb]
   rw [KJ]
   unfold XZ
   cases he : Gh l[k] with
   | false => rfl
   | true =>
    have hk' := Vj he
    rw [Aa hk'.2.2.1, Uk s hk'.2.2.1]
    simp only [cond_true, jb, jg, cond_false]
    cases decide (l[k].1 ≥ j5 .i64 (at_ + t.1)) <;> cases l[k].2.1 == key <;> cases l[k].2.2.1 <;> cases t.2.2.1 == 1 <;> cases t.2.2.1 == 2 <;> cases Bd s l[k].2.1 == 1 <;> rfl) (by
   intro s _
   simp only [Cs]
   rw [Ba (by omega)]; rfl) (by omega) 0 trivial
 unfold Kx Ov Jl
 rw [EO]
 simp only [jb]
 cases Fl t with
 | false => rfl
 | true =>
  by_cases h1 : at_ < 0
  ·rw [Aa h1, Ba (show ¬ (0 ≤ at_ ∧ at_ ≤ 1000000) by omega)]; rfl
  ·by_cases h2 : at_ > 1000000
   ·rw [Ba h1, Aa h2, Ba (show ¬ (0 ≤ at_ ∧ at_ ≤ 1000000) by omega)]; rfl
   ·rw [Ba h1, Ba h2, Aa (show (0 ≤ at_ ∧ at_ ≤ 1000000) by omega)]
    simp only [jg, cond_false]
    erw [hl]
    unfold chR
    cases Nc (fun _ s x => XZ t.2.2.1 key (j5 .i64 (at_ + t.1)) s x) 0 0 l with
    | inl s =>
     simp only [jb, qk]
     cases decide (til ≥ j5 .i64 (at_ + t.1)) <;> rfl
    | inr r => rfl
theorem G3 (t : CL) (key at_ : Int) (l : List Ca) (til : Int) (hn : l.length ≤ Ea) : GH t key at_ l til = some (Jl t key at_ l til) := by
 have h20 : Ea = 1048576 := rfl
 have hl := Ag (step := fun x => Xs x.1.1 x.1.2.1 x.1.2.2.1 x.1.2.2.2.1 x.1.2.2.2.2.1 x.1.2.2.2.2.2.1 x.1.2.2.2.2.2.2.1 x.2.1) l
  (fun _ s x => XZ t.2.2.1 key (j5 .i64 (at_ + t.1)) s x) (fun s i => ((key, l, til, (), j5 .i64 (at_ + t.1), s, i, ()), (t, ())))
  (fun s => .inl ((til, j5 .i64 (at_ + t.1), ()), ())) (fun r => .inr ((r.1, r.2, ()), ())) (fun _ _ => True) (by
   intro k hk s _
   refine ⟨?_, fun _ _ => trivial⟩
   simp only [Xs]
   rw [Aa (show (k : Int) < ((ja l : Nat) : Int) by omega), Kb hk]
   simp only [cond_true, jb]
   rw [JK]
   unfold XZ
   cases he : Gh l[k] with
   | false => rfl
   | true =>
    have hk' := Vj he
    rw [Aa hk'.2.2.1]
    simp only [cond_true, jb, jg, cond_false]
    unfold Bd
    cases decide (l[k].1 ≥ j5 .i64 (at_ + t.1)) <;> cases l[k].2.1 == key <;> cases l[k].2.2.1 <;> cases t.2.2.1 == 1 <;> cases t.2.2.1 == 2 <;> cases Wa .i64 (Zb .i64 s l[k].2.1) 1 == 1 <;> rfl) (by
   intro s _
   simp only [Xs]
   rw [Ba (by omega)]; rfl) (by omega) 0 trivial
 unfold GH Lw Jl
 rw [JO, Xc]
 simp only [jb]
 cases Fl t with
 | false => rfl
 | true =>
  cases decide (0 ≤ at_ ∧ at_ ≤ 1000000) with
  | false => rfl
  | true =>
   simp only [jg, cond_false]
   erw [hl]
   unfold chR
   cases Nc (fun _ s x => XZ t.2.2.1 key (j5 .i64 (at_ + t.1)) s x) 0 0 l with
   | inl s =>
    simp only [jb, qk]
    cases decide (til ≥ j5 .i64 (at_ + t.1)) <;> rfl
   | inr r => rfl
def MH (l : List Pa) (j : Nat) : Bool := l.any (fun h => h.1 == (j : Int))
structure CP (l : List Pa) (m : Nat) : Prop where
 lt : m < 2 ^ 63
 bit : ∀ j, m.testBit j = MH l j
theorem Jal : ∀ (l : List Pa) (k : Nat) (s : Nat), s < 2 ^ 63 → (∀ x ∈ l, Jt x) →
 ∃ m : Nat, Jd (fun _ s (x : Pa) => Rc .i64 s (Ta .i64 1 x.1)) k (s : Int) l = (m : Int) ∧ m < 2 ^ 63 ∧ ∀ j, m.testBit j = (s.testBit j || MH l j)
 | [], _, s, hs, _ => ⟨s, rfl, hs, fun j => by simp [MH]⟩
 | x :: l, k, s, hs, h => by
  have hx := h x (by simp)
  obtain ⟨n, hn⟩ := jv hx.lo
  have := hx.hi
  simp only [Jd]
  rw [hn, Lk (by omega), ID hs (Pi (by omega))]
  obtain ⟨m, h1, h2, h3⟩ := Jal l (k + 1) _ (Nat.or_lt_two_pow hs (Pi (show n ≤ 62 by omega))) (fun y hy => h y (by simp [hy]))
  refine ⟨m, h1, h2, fun j => ?_⟩
  rw [h3, Nat.testBit_or, qo]
  simp only [MH, List.any_cons, hn]
  rw [show (((n : Nat) : Int) == ((j : Nat) : Int)) = decide (n = j) by rw [qx]; simp [Int.ofNat_inj]]
  rw [Bool.or_assoc]
theorem XaI {l : List Pa} (h : Jf l = true) : ∃ m : Nat, Vs l = (m : Int) ∧ CP l m := by
 obtain ⟨m, h1, h2, h3⟩ := Jal l 0 0 (by decide) (Hn h)
 exact ⟨m, h1, h2, fun j => by rw [h3]; simp⟩
theorem Har {l : List Pa} {m k : Nat} (h : CP l m) (hk : k ≤ 62) (hb : MH l k = false) (a : Bb) : CP (jf l [((k : Int), a, ())]) (m ^^^ 2 ^ k) := by
 refine ⟨qq h.lt (Pi hk), fun j => ?_⟩
 rw [qn, qo, h.bit]
 show _ = MH (l ++ [((k : Int), a, ())]) j
 simp only [MH, List.any_append, List.any_cons, List.any_nil, Bool.or_false]
 rw [show (((k : Nat) : Int) == ((j : Nat) : Int)) = decide (k = j) by rw [qx]; simp [Int.ofNat_inj]]
 by_cases hj : k = j
 ·subst hj
  simp only [MH] at hb
  rw [hb, Aa rfl]; rfl
 ·rw [Ba hj]; simp
theorem HaN {l : List Pa} (hp : l.Pairwise (fun x y => x.1 ≠ y.1)) {i : Nat} (hi : i < l.length) (j : Int) : (wo l i).any (fun h => h.1 == j) = (l.any (fun h => h.1 == j) && !(l[i].1 == j)) := by
 rw [qx]
 simp only [List.any_eq_true, jd, Bool.not_eq_true', beq_iff_eq, beq_eq_false_iff_ne, wo]
 rw [List.pairwise_iff_getElem] at hp
 constructor
 ·rintro ⟨x, hx, hj⟩
  rcases jl.1 (show x ∈ l.take i ++ l.drop (i + 1) from hx) with hx | hx
  ·obtain ⟨n, hn, rfl⟩ := qt hx
   rw [List.getElem_take] at hj
   have hn2 : n < i ∧ n < l.length := by rw [List.length_take] at hn; omega
   exact ⟨⟨_, qr hn2.2, hj⟩, fun h => hp n i hn2.2 hi hn2.1 (hj.trans h.symm)⟩
  ·obtain ⟨n, hn, rfl⟩ := qt hx
   rw [List.getElem_drop] at hj
   have hn2 : i + 1 + n < l.length := by rw [qw] at hn; omega
   exact ⟨⟨_, qr hn2, hj⟩, fun h => hp i (i + 1 + n) hi hn2 (by omega) (h.trans hj.symm)⟩
 ·rintro ⟨⟨x, hx, hj⟩, hne⟩
  obtain ⟨n, hn, rfl⟩ := qt hx
  refine ⟨l[n], jl.2 ?_, hj⟩
  rcases Nat.lt_trichotomy n i with h | h | h
  ·exact .inl (List.mem_take_iff_getElem.2 ⟨n, by omega, rfl⟩)
  ·subst h; exact absurd hj hne
  ·exact .inr (List.mem_drop_iff_getElem.2 ⟨n - (i + 1), by omega, by congr 1; omega⟩)
theorem Eae {l : List Pa} (hp : l.Pairwise (fun x y => x.1 ≠ y.1)) {m k i : Nat} (h : CP l m) (hk : k ≤ 62) (hi : i < l.length) (hb : l[i].1 = (k : Int)) : CP (wo l i) (m ^^^ 2 ^ k) := by
 refine ⟨qq h.lt (Pi hk), fun j => ?_⟩
 rw [qn, qo, h.bit]
 simp only [MH]
 rw [HaN hp hi, hb]
 rw [show (((k : Nat) : Int) == ((j : Nat) : Int)) = decide (k = j) by rw [qx]; simp [Int.ofNat_inj]]
 by_cases hj : k = j
 ·subst hj
  rw [Aa rfl]
  have : l.any (fun h => h.1 == (k : Int)) = true := List.any_eq_true.2 ⟨l[i], qr hi, by rw [hb]; simp⟩
  rw [this]; rfl
 ·rw [Ba hj]; simp
theorem E0 {α S R : Type} (g : S → α → S ⊕ R) : ∀ (l : List α) (k j : Nat) (s : S), Nc (fun _ s x => g s x) k s l = Nc (fun _ s x => g s x) j s l
 | [], _, _, _ => rfl
 | x :: l, k, j, s => by
  simp only [Nc]
  cases g s x with
  | inl s' => exact E0 g l (k + 1) (j + 1) s'
  | inr r => rfl
structure DP (d : Hb) : Prop where
 eng : Bv d.1
 len : d.2.2.1.length ≤ 64
 key : ∀ x ∈ d.2.2.1, x.2.1 < d.1.1.1
 fol : ∃ (m : Nat) (t : Int), CP d.1.2.2.2.1 m ∧ Hm (Nc (fun _ s x => Ot s x) 0 (t, (m : Int)) d.2.2.1) = true
def N8 (e : Gb) (k : Int) : Nat := (Ed (fun h : Pa => h.1 == k) 0 e.2.2.2.1).toNat
noncomputable def Im (d : Hb) (x : Ca) (r : List Ca) : Option (Hb × List Ha) :=
 cond (!x.2.2.1)
  (some ((rE d.1 (N8 d.1 x.2.1), d.2.1, r, d.2.2.2.1, max d.2.2.2.2.1 x.1, d.2.2.2.2.2.1, cond (d.2.2.2.2.2.1 == j5 .i64 (x.2.1 + 1)) x.1 d.2.2.2.2.2.2.1, ()), rR d.1 (N8 d.1 x.2.1)))
  (cond (Wf (Rk d.1.1.2.1 (Bj d.1.1 (Qn d.1.2.2.1 d.1.2.2.2.1) x.2.1.toNat) x.2.1.toNat))
   (
    let ch : Int × Int := cond ((d.2.2.2.2.2.1 == j5 .i64 (x.2.1 + 1)) && !decide (j5 .i64 (x.1 - d.2.2.2.2.2.2.1) ≥ d.2.1.2.1)) (1, x.1) ((Jl d.2.1 x.2.1 x.1 r d.2.2.2.1).1, (Jl d.2.1 x.2.1 x.1 r d.2.2.2.1).2.1)
    cond (ch.1 == 0) none
     (some ((pE d.1 x.2.1.toNat (ch.1 == 2), d.2.1, r, d.2.2.2.1, max (max d.2.2.2.2.1 x.1) ch.2, cond (ch.1 == 2) 0 (j5 .i64 (x.2.1 + 1)), cond (ch.1 == 2) d.2.2.2.2.2.2.1 x.1, ()), pR d.1 x.2.1.toNat (ch.1 == 2))))
   (some ((pE d.1 x.2.1.toNat false, d.2.1, r, d.2.2.2.1, max d.2.2.2.2.1 x.1, d.2.2.2.2.2.1, d.2.2.2.2.2.2.1, ()), pR d.1 x.2.1.toNat false)))
structure CaE (d : Hb) (x : Ca) (r : List Ca) : Prop where
 ev : Gh x = true
 key : x.2.1 < d.1.1.1
 up : x.2.2.1 = false → ∃ hi : N8 d.1 x.2.1 < d.1.2.2.2.1.length, Ed (fun h : Pa => h.1 == x.2.1) 0 d.1.2.2.2.1 = ((N8 d.1 x.2.1 : Nat) : Int) ∧ (d.1.2.2.2.1[N8 d.1 x.2.1]'hi).1 = x.2.1
 down : x.2.2.1 = true → ∀ y ∈ d.1.2.2.2.1, y.1 ≠ x.2.1
theorem M8 {α : Type} (p : α → Bool) : ∀ (xs : List α) (k j : Nat), j < xs.length → Ed p k xs = ((k + j : Nat) : Int) → ∃ h : j < xs.length, p xs[j] = true
 | [], _, _, hj, _ => absurd hj (by simp)
 | x :: xs, k, j, hj, h => by
  simp only [Ed] at h
  cases hx : p x with
  | true =>
   rw [hx] at h
   simp only [cond_true] at h
   have : j = 0 := by omega
   subst this
   exact ⟨hj, hx⟩
  | false =>
   rw [hx] at h
   simp only [cond_false] at h
   cases j with
   | zero =>
    rcases Zu p xs (k + 1) with h1 | ⟨i, _, h1⟩ <;> (rw [h1] at h; omega)
   | succ j =>
    have hj' : j < xs.length := by simp at hj; omega
    obtain ⟨_, h2⟩ := M8 p xs (k + 1) j hj' (by rw [h]; omega)
    exact ⟨hj, h2⟩
theorem LU {d : Hb} {x : Ca} {r : List Ca} (h : DP d) (hq : d.2.2.1 = x :: r) : CaE d x r := by
 obtain ⟨m, t, hm, hf⟩ := h.fol
 rw [hq] at hf
 simp only [Nc, Ot] at hf
 cases ho : Pt (t, (m : Int)) x with
 | false => rw [ho] at hf; exact absurd hf (by simp [Hm])
 | true =>
  simp only [Pt, jd] at ho
  obtain ⟨h1, h2, h3⟩ := ho
  have hk := Vj h1
  obtain ⟨n, hn⟩ := jv hk.2.2.1
  have hn' : x.2.1 = (n : Int) := hn
  rw [hn', Jr hm.lt (by omega), hm.bit] at h3
  refine ⟨h1, h.key x (by rw [hq]; simp), fun hu => ?_, fun hd => ?_⟩
  ·rw [hu] at h3
   have h4 : MH d.1.2.2.2.1 n = true := by
    cases hh : MH d.1.2.2.2.1 n with
    | true => rfl
    | false => rw [hh] at h3; exact absurd h3 (by decide)
   rcases Zu (fun h : Pa => h.1 == x.2.1) d.1.2.2.2.1 0 with h5 | ⟨j, hj, h5⟩
   ·rw [O4] at h5
    simp only [MH, List.any_eq_true, beq_iff_eq] at h4
    obtain ⟨y, hy, hyk⟩ := h4
    exact absurd (hyk.trans hn'.symm) (h5 y hy)
   ·have e : N8 d.1 x.2.1 = j := by unfold N8; rw [h5]; omega
    obtain ⟨h6, h7⟩ := M8 _ _ _ _ hj h5
    have h7' := eq_of_beq h7
    refine ⟨by omega, by rw [h5, e]; omega, ?_⟩
    simp only [e]
    exact h7'
  ·rw [hd] at h3
   intro y hy he
   have : MH d.1.2.2.2.1 n = true := List.any_eq_true.2 ⟨y, hy, by rw [he, hn']; simp⟩
   rw [this] at h3
   exact absurd h3 (by decide)
theorem I7 {d d' : Hb} {x : Ca} {r : List Ca} {l : List Ha} (h : DP d) (hq : d.2.2.1 = x :: r) (hs : Im d x r = some (d', l)) :
 DP d' ∧ d'.2.2.1 = r ∧ l.length ≤ 17 ∧ (∀ y ∈ l, y.2.1.length ≤ 56) := by
 have hF := LU h hq
 have hk := Vj hF.ev
 obtain ⟨n, hn⟩ := jv hk.2.2.1
 have hn' : x.2.1 = (n : Int) := hn
 obtain ⟨m, t, hm, hf⟩ := h.fol
 have hfol : Hm (Nc (fun _ s x => Ot s x) 0 (x.1, ((m ^^^ 2 ^ n : Nat) : Int)) r) = true := by
  rw [hq] at hf
  simp only [Nc, Ot] at hf
  cases ho : Pt (t, (m : Int)) x with
  | false => rw [ho] at hf; exact absurd hf (by simp [Hm])
  | true =>
   rw [ho] at hf
   simp only [cond_true, hn', Lk (show n ≤ 62 by omega)] at hf
   rw [QL hm.lt (Pi (by omega))] at hf
   rw [E0 Ot r 0 1]
   exact hf
 have hlen : r.length ≤ 64 := by have := h.len; rw [hq] at this; simp at this; omega
 have hkey : ∀ y ∈ r, y.2.1 < d.1.1.1 := fun y hy => h.key y (by rw [hq]; simp [hy])
 have hp := ((PU d.1.2.2.2.1).1 h.eng.hd).2
 have press : ∀ b : Bool, x.2.2.1 = true → Bv (pE d.1 n b) ∧ CP (pE d.1 n b).2.2.2.1 (m ^^^ 2 ^ n) ∧ (pR d.1 n b).length ≤ 17 ∧ (∀ y ∈ pR d.1 n b, y.2.1.length ≤ 56) := by
  intro b hd
  have hn2 := hF.down hd
  rw [hn'] at hn2
  have F := H7 h.eng (k := n) (by have := hF.key; omega) hn2 b
  refine ⟨F.ok, Har hm (by omega) ?_ _, ?_, fun y hy => ?_⟩
  ·cases hh : MH d.1.2.2.2.1 n with
   | false => rfl
   | true =>
    simp only [MH, List.any_eq_true, beq_iff_eq] at hh
    obtain ⟨y, hy, hyk⟩ := hh
    exact absurd hyk (hn2 y hy)
  ·have := O1 (jf (pM d.1 n b) [Yc (pH d.1 n b)]) (Yc d.1.2.2.2.1)
   have h9 := F.ml
   unfold pR
   have : (jf (pM d.1 n b) [Yc (pH d.1 n b)]).length = (pM d.1 n b).length + 1 := by simp
   omega
  ·have := EU _ _ _ hy
   rcases jl.1 (show y ∈ pM d.1 n b ++ [Yc (pH d.1 n b)] from this) with h1 | h1
   ·exact F.mx y h1
   ·rw [qe.1 h1]; exact IK _
 unfold Im at hs
 cases hd : x.2.2.1 with
 | false =>
  rw [hd] at hs
  simp only [qa, cond_true, jc, jh] at hs
  obtain ⟨rfl, rfl⟩ := hs
  obtain ⟨hi, hi1, hi2⟩ := hF.up hd
  refine ⟨⟨VaX h.eng _, hlen, hkey, _, _, Eae hp hm (by omega) hi (by rw [hi2, hn']), hfol⟩, rfl, ?_, fun y hy => ?_⟩
  ·have := O1 [Yc (wo d.1.2.2.2.1 (N8 d.1 x.2.1))] (Yc d.1.2.2.2.1)
   unfold rR
   simp only [jw, j8] at this
   omega
  ·have := EU _ _ _ hy
   rw [qe.1 this]; exact IK _
 | true =>
  rw [hd] at hs
  simp only [jg, cond_false, hn', jn] at hs
  cases ht : Wf (Rk d.1.1.2.1 (Bj d.1.1 (Qn d.1.2.2.1 d.1.2.2.2.1) n) n) with
  | false =>
   rw [ht] at hs
   simp only [cond_false, jc, jh] at hs
   obtain ⟨rfl, rfl⟩ := hs
   have P := press false hd
   exact ⟨⟨P.1, hlen, hkey, _, _, P.2.1, hfol⟩, rfl, P.2.2⟩
  | true =>
   rw [ht] at hs
   simp only [cond_true] at hs
   revert hs
   generalize (cond ((d.2.2.2.2.2.1 == j5 .i64 ((n : Int) + 1)) && !decide (j5 .i64 (x.1 - d.2.2.2.2.2.2.1) ≥ d.2.1.2.1)) ((1 : Int), x.1) ((Jl d.2.1 (n : Int) x.1 r d.2.2.2.1).1, (Jl d.2.1 (n : Int) x.1 r d.2.2.2.1).2.1)) = ch
   intro hs
   cases h0 : ch.1 == 0 with
   | true => rw [h0] at hs; simp at hs
   | false =>
    rw [h0] at hs
    simp only [cond_false, jc, jh] at hs
    obtain ⟨rfl, rfl⟩ := hs
    have P := press (ch.1 == 2) hd
    exact ⟨⟨P.1, hlen, hkey, _, _, P.2.1, hfol⟩, rfl, P.2.2⟩
theorem B2 {m : Tb} (hz : Ja Vb m ≤ Ea) (hv : Lh m = true) (on : Int) {k : Nat} (hk : (k : Int) < m.1) :
 GG m on (k : Int) = some (Rk m.2.1 (Bj m on k) k, ()) := by
 have hm := Aj hv
 have hl := FR hm on k
 have hrow := hm.row _ hl
 unfold GG SP
 rw [RP _ hz, hv, Ba (show ¬ (k : Int) < 0 by omega), Ba (show ¬ (k : Int) ≥ m.1 by omega), DR hm _ hk]
 simp only [jb, jg, cond_false]
 rw [Ba (by omega)]
 simp only [cond_false]
 show (jz (Ab m.2.1 ((Bj m on k : Nat) : Int)) _) = _
 rw [Cad hl (by omega)]
theorem G4 (t : CL) (key at_ : Int) (l : List Ca) (til : Int) : (Jl t key at_ l til).1 = 0 ∨ (Jl t key at_ l til).1 = 1 ∨ (Jl t key at_ l til).1 = 2 := by
 have key2 : ∀ (md k' e : Int) (l : List Ca) (k : Nat) (s : Int) (r : Int × Int), Nc (fun _ s x => XZ md k' e s x) k s l = .inr r → r.1 = 0 ∨ r.1 = 1 ∨ r.1 = 2 := by
  intro md k' e l
  induction l with
  | nil => intro k s r h; simp [Nc] at h
  | cons x l ih =>
   intro k s r h
   simp only [Nc] at h
   revert h
   cases hg : XZ md k' e s x with
   | inl s' => intro h; exact ih _ _ _ h
   | inr r' =>
    intro h
    simp only [Sum.inr.injEq] at h
    subst h
    unfold XZ at hg
    revert hg
    cases Gh x <;> cases decide (x.1 ≥ e) <;> cases x.2.1 == k' <;> cases x.2.2.1 <;> cases md == 1 <;> cases md == 2 <;> cases Bd s x.2.1 == 1 <;> (intro hg; cases hg) <;> simp
 unfold Jl
 cases Fl t && decide (0 ≤ at_ ∧ at_ ≤ 1000000) with
 | false => exact .inl rfl
 | true =>
  simp only [cond_true]
  cases h : chR t.2.2.1 key (j5 .i64 (at_ + t.1)) l with
  | inl s => cases decide (til ≥ j5 .i64 (at_ + t.1)) <;> simp
  | inr r => exact key2 _ _ _ _ _ _ _ h
theorem LP {α : Type} (x : α) (r : List α) (hr : r.length ≤ 64) : Md (ja (x :: r)) (1 : Int) ((ja (x :: r) : Nat) : Int) = true ∧ Eb (x :: r) (jy (1 : Int)) (jy ((ja (x :: r) : Nat) : Int)) = r := by
 refine ⟨Wi (lo := 1) (by simp) (by simp), ?_⟩
 show List.drop 1 (List.take _ (x :: r)) = r
 rw [jn, List.take_length]; rfl
def FaJ (d : Hb) : Option (Hb × List Ha) → Hb × ((List Ha) × (Bool × Unit))
 | none => (d, ([], false, ()))
 | some (d', l) => (d', (l, true, ()))
theorem W4 {d : Hb} {x : Ca} {r : List Ca} (h : DP d) (hq : d.2.2.1 = x :: r) : Sh d = some (FaJ d (Im d x r)) := by
 have h20 : Ea = 1048576 := rfl
 have hF := LU h hq
 have hk := Vj hF.ev
 have hlen : r.length ≤ 64 := by have := h.len; rw [hq] at this; simp at this; omega
 have hz := TY h.eng
 have hzm := (C5 h.eng.km).z
 have hle := Lp h.eng.hd
 obtain ⟨n, hn⟩ := jv hk.2.2.1
 have hn' : x.2.1 = (n : Int) := hn
 obtain ⟨e, t, q, now, clk, tp, ta, u⟩ := d
 obtain ⟨xt, xk, xd, xu⟩ := x
 cases u
 simp only at hq hn' hF hz hzm hle hk
 subst hq
 subst hn'
 have hc := LP ((xt, (n : Int), xd, xu) : Ca) r hlen
 have hb : jx (ja ([] : List Ca) + ja r) Sa = true := ji (by simp; rw [Be]; omega)
 have i0 : Af (ja (((xt, (n : Int), xd, xu) : Ca) :: r)) (0 : Int) = true := by rw [show (0 : Int) = ((0 : Nat) : Int) from rfl, Kg]; exact Aa (by simp)
 have g0 : (((xt, (n : Int), xd, xu) : Ca) :: r)[(jy (0 : Int))]? = some (xt, (n : Int), xd, xu) := rfl
 unfold Sh
 simp only [i0, g0, hc.1, hc.2, hb, cond_true, jb]
 unfold Im
 cases xd with
 | false =>
  obtain ⟨hi, hi1, hi2⟩ := hF.up rfl
  rw [I2 h.eng hi hi1]
  simp only [qa, cond_true, jb]
  cases tp == j5 .i64 ((n : Int) + 1) <;> rfl
 | true =>
  have hd := hF.down rfl
  have hkey := hF.key
  have hp := fun b => Z6 h.eng (k := n) hkey hd b
  simp only at hp hkey hd
  have hly := SS (Saq (Aj h.eng.km).l2 h.eng.st) _ (show e.2.2.2.1.length ≤ Ea by omega) h.eng.hd
  simp only at hly
  rw [hly]
  have hch := C2 t (n : Int) xt r now (by omega)
  have hac := B2 (m := e.1) (by omega) h.eng.km (Qn e.2.2.1 e.2.2.2.1) hkey
  simp only [jb, jg, cond_false, jn, hac, LE, hch, hp]
  cases Wf (Rk e.1.2.1 (Bj e.1 (Qn e.2.2.1 e.2.2.2.1) n) n) with
  | false => rfl
  | true =>
   simp only [cond_true]
   have hv := G4 t (n : Int) xt r now
   have hne : (tp != j5 .i64 ((n : Int) + 1)) = !(tp == j5 .i64 ((n : Int) + 1)) := rfl
   rw [hne]
   cases tp == j5 .i64 ((n : Int) + 1) with
   | false =>
    simp only [qa, cond_true, qp, cond_false]
    rcases hv with hv | hv | hv <;> (rw [hv]; rfl)
   | true =>
    simp only [jg, cond_false, jk]
    cases decide (j5 .i64 (xt - ta) ≥ t.2.1) with
    | true =>
     simp only [jg, cond_true, cond_false]
     rcases hv with hv | hv | hv <;> (rw [hv]; rfl)
    | false => rfl
theorem ZX {d : Hb} {x : Ca} {r : List Ca} (h : DP d) (hq : d.2.2.1 = x :: r) (hd : x.2.2.1 = true) :
 Qu d x (max d.2.2.2.2.1 x.1) = some (match Im d x r with
  | none => (d, ([], max d.2.2.2.2.1 x.1, false, ()))
  | some (d', l) => ((d'.1, d.2.1, d.2.2.1, d.2.2.2.1, d.2.2.2.2.1, d'.2.2.2.2.2.1, d'.2.2.2.2.2.2.1, ()), (l, d'.2.2.2.2.1, true, ()))) := by
 have h20 : Ea = 1048576 := rfl
 have hF := LU h hq
 have hk := Vj hF.ev
 have hlen : r.length ≤ 64 := by have := h.len; rw [hq] at this; simp at this; omega
 have hz := TY h.eng
 have hzm := (C5 h.eng.km).z
 have hle := Lp h.eng.hd
 obtain ⟨n, hn⟩ := jv hk.2.2.1
 have hn' : x.2.1 = (n : Int) := hn
 obtain ⟨e, t, q, now, clk, tp, ta, u⟩ := d
 obtain ⟨xt, xk, xd, xu⟩ := x
 cases u
 simp only at hq hn' hF hz hzm hle hk hd
 subst hq
 subst hn'
 subst hd
 have hc := LP ((xt, (n : Int), true, xu) : Ca) r hlen
 have hdn := hF.down rfl
 have hkey := hF.key
 have hp := fun b => V7 h.eng (k := n) hkey hdn b
 simp only at hp hkey hdn
 have hly := JT (Saq (Aj h.eng.km).l2 h.eng.st) _ (show e.2.2.2.1.length ≤ Ea by omega) h.eng.hd
 simp only at hly
 unfold Qu
 simp only [hc.1, hc.2]
 unfold Im
 rw [hly]
 have hch := G3 t (n : Int) xt r now (by omega)
 have hac := GQ (m := e.1) (by omega) h.eng.km (Qn e.2.2.1 e.2.2.2.1) hkey
 simp only [jb, jg, cond_false, jn, hac, Dt, hch, hp]
 cases Wf (Rk e.1.2.1 (Bj e.1 (Qn e.2.2.1 e.2.2.2.1) n) n) with
 | false => rfl
 | true =>
  simp only [cond_true]
  have hv := G4 t (n : Int) xt r now
  have hlt : decide (j5 .i64 (xt - ta) < t.2.1) = !decide (j5 .i64 (xt - ta) ≥ t.2.1) := by
   rw [qx]; simp only [decide_eq_true_eq, Bool.not_eq_true', decide_eq_false_iff_not]; omega
  rw [hlt]
  cases tp == j5 .i64 ((n : Int) + 1) with
  | false =>
   simp only [qp, cond_false]
   rcases hv with hv | hv | hv <;> (rw [hv]; rfl)
  | true =>
   simp only [cond_true, jk]
   cases decide (j5 .i64 (xt - ta) ≥ t.2.1) with
   | true =>
    simp only [jg, cond_true, cond_false]
    rcases hv with hv | hv | hv <;> (rw [hv]; rfl)
   | false => rfl
theorem J0 {X R : Type} {step : X → Option (X ⊕ R)} {α S : Type} (xs : List α) (g : S → α → S) (I : S → Nat → X) (out : S → R) (Di : Nat → S → Prop)
 (h : ∀ k (hk : k < xs.length) s, Di k s → step (I s k) = some (.inl (I (g s xs[k]) (k + 1))) ∧ Di (k + 1) (g s xs[k]))
 (he : ∀ s, Di xs.length s → step (I s xs.length) = some (.inr (out s))) (s0 : S) (h0 : Di 0 s0) :
 Ua step (I s0 0) = some (out (xs.foldl g s0)) ∧ Di xs.length (xs.foldl g s0) := by
 have key : ∀ (ys : List α) (k : Nat) (s : S), xs.drop k = ys → k ≤ xs.length → Di k s → Ua step (I s k) = some (out (ys.foldl g s)) ∧ Di xs.length (ys.foldl g s) := by
  intro ys
  induction ys with
  | nil =>
   intro k s hd hle hi
   have := KU hd hle
   subst this
   rw [Oe (he s hi)]
   exact ⟨rfl, hi⟩
  | cons y ys ih =>
   intro k s hd hle hi
   obtain ⟨hk, hy, hd'⟩ := BN hd
   obtain ⟨h1, h2⟩ := h k hk s hi
   rw [Oe h1, hy]
   rw [hy] at h2
   exact ih (k + 1) _ hd' hk h2
 exact key xs 0 s0 rfl (Nat.zero_le _) h0
def Sq (s : List Pe) (w : Int) (l : List Ha) : List Pe := jf s (l.map fun r => ((w, r, ()) : Pe))
theorem TW (w : Int) : ∀ (l : List Ha) (s : List Pe), l.foldl (fun s r => jf s [((w, r, ()) : Pe)]) s = Sq s w l
 | [], s => by simp [Sq]
 | x :: l, s => by
  rw [List.foldl_cons, TW w l]
  simp [Sq]
theorem SX (s : List Pe) (w : Int) (l : List Ha) : (Sq s w l).length = s.length + l.length := by simp [Sq]
theorem Had (s : List Pe) (w : Int) (l : List Ha) (hl : l.length ≤ 1000) (hs : s.length ≤ 1000000) : DN s w l = some (Sq s w l, ()) := by
 have h := (J0 (step := fun x => KG x.1.1 x.1.2.1 x.1.2.2.1 x.1.2.2.2.1 x.1.2.2.2.2.1) l (fun s r => jf s [((w, r, ()) : Pe)])
  (fun o k => ((o, w, (l, (k : Int)), ((ja l : Nat) : Int), (k : Int), ()), ())) (fun o => .inl ((o, ()), ())) (fun k o => o.length = s.length + k) (by
   intro k hk o ho
   refine ⟨?_, by simp [ho]; omega⟩
   simp only [KG]
   rw [Aa (by omega), Kg, Aa hk, jn, je hk]
   simp only [cond_true, jb, Nat.beq_refl]
   rw [show jx (ja o + ja ([(w, l[k], ())] : List Pe)) Sa = true from ji (by simp only [jw, j8]; rw [Be]; omega)]
   rw [Hc (by omega)]
   rfl) (by
   intro o ho
   simp only [KG]
   rw [Ba (by omega)]; rfl) s rfl).1
 unfold DN SH
 erw [h]
 rw [TW]
 rfl
theorem LQ (s : List Pe) (w : Int) (l : List Ha) (d : Hb) (hl : l.length ≤ 1000) (hs : s.length ≤ 1000000) :
 Li (((), s, w, (l, (0 : Int)), (0 : Int), ()), (d, ())) = some (.inl (((), Sq s w l, w, ()), (d, ()))) := by
 have h := (J0 (step := fun x => Tw x.1.1 x.1.2.1 x.1.2.2.1 x.1.2.2.2.1 x.1.2.2.2.2.1 x.2.1) l (fun s r => jf s [((w, r, ()) : Pe)])
  (fun o k => (((), o, w, (l, (k : Int)), (k : Int), ()), (d, ()))) (fun o => .inl (((), o, w, ()), (d, ()))) (fun k o => o.length = s.length + k) (by
   intro k hk o ho
   refine ⟨?_, by simp [ho]; omega⟩
   simp only [Tw]
   rw [Aa (by omega), Kg, Aa hk, jn, je hk]
   simp only [cond_true, jb, Nat.beq_refl]
   rw [show jx (ja o + ja ([(w, l[k], ())] : List Pe)) Sa = true from ji (by simp only [jw, j8]; rw [Be]; omega)]
   rw [Hc (by omega)]
   rfl) (by
   intro o ho
   simp only [Tw]
   rw [Ba (by omega)]; rfl) s rfl).1
 unfold Li
 erw [h]
 rw [TW]
noncomputable def Xf : Nat → Hb → List Pe → Hb × List Pe
 | 0, d, s => (d, s)
 | n + 1, d, s => match d.2.2.1 with
  | [] => (d, s)
  | x :: r => match Im d x r with
   | none => (d, s)
   | some (d', l) => Xf n d' (Sq s d'.2.2.2.2.1 l)
theorem Mae {d d' : Hb} {x : Ca} {r : List Ca} {l : List Ha} (hs : Im d x r = some (d', l)) :
 d' = (d'.1, d.2.1, r, d.2.2.2.1, d'.2.2.2.2.1, d'.2.2.2.2.2.1, d'.2.2.2.2.2.2.1, ()) := by
 unfold Im at hs
 revert hs
 generalize (cond ((d.2.2.2.2.2.1 == j5 .i64 (x.2.1 + 1)) && !decide (j5 .i64 (x.1 - d.2.2.2.2.2.2.1) ≥ d.2.1.2.1)) ((1 : Int), x.1) ((Jl d.2.1 x.2.1 x.1 r d.2.2.2.1).1, (Jl d.2.1 x.2.1 x.1 r d.2.2.2.1).2.1)) = ch
 generalize Wf _ = b1
 cases x.2.2.1 <;> cases b1 <;> cases h0 : ch.1 == 0 <;>
  simp only [jg, qa, cond_true, cond_false, jc, jh, reduceCtorEq, false_implies, h0, and_imp] <;> (intro h1 _; subst h1; rfl)
theorem H0 (z : Hb) : ∀ (n : Nat) (d : Hb) (s : List Pe), DP d → d.2.2.1.length ≤ n → s.length + 17 * n ≤ 100000 →
 Jg (((), (), s, ()), (z, d, ())) = some (.inl (((), (), (Xf n d s).2, ()), (z, (Xf n d s).1, ())))
 | n, d, s, h, hl, hs => by
  unfold Jg
  cases hq : d.2.2.1 with
  | nil =>
   have e1 : Xf n d s = (d, s) := by
    cases n with
    | zero => rfl
    | succ n => simp only [Xf, hq]
   have hstep : Fh () () s z d = some (.inr (.inl (((), (), s, ()), (z, d, ())))) := by
    unfold Fh
    rw [hq, Ba (by simp)]; rfl
   erw [Oe hstep]
   rw [e1]; rfl
  | cons x r =>
   have hlen : d.2.2.1.length = r.length + 1 := by rw [hq]; rfl
   cases n with
   | zero => omega
   | succ n =>
    have e1 : Xf (n + 1) d s = match Im d x r with
     | none => (d, s)
     | some (d', l) => Xf n d' (Sq s d'.2.2.2.2.1 l) := by simp only [Xf, hq]
    rw [e1]
    have hp := W4 h hq
    cases hst : Im d x r with
    | none =>
     have hstep : Fh () () s z d = some (.inr (.inl (((), (), s, ()), (z, d, ())))) := by
      unfold Fh
      rw [Aa (by rw [hlen]; omega)]
      show (jz (Sh d) _) = _
      rw [hp, hst]; rfl
     erw [Oe hstep]; rfl
    | some p =>
     obtain ⟨d', l⟩ := p
     have hn := I7 h hq hst
     have hstep : Fh () () s z d = some (.inl (((), (), Sq s d'.2.2.2.2.1 l, ()), (z, d', ()))) := by
      unfold Fh
      rw [Aa (by rw [hlen]; omega)]
      show (jz (Sh d) _) = _
      rw [hp, hst]
      show jz (DN s d'.2.2.2.2.1 l) _ = _
      rw [Had _ _ _ (by have := hn.2.2.1; omega) (by omega)]
      rfl
     erw [Oe hstep]
     have ih := H0 z n d' (Sq s d'.2.2.2.2.1 l) hn.1 (by rw [hn.2.1]; omega) (by rw [SX]; have := hn.2.2.1; omega)
     unfold Jg at ih
     exact ih
theorem Q0 : ∀ (n : Nat) (d : Hb) (s : List Pe), DP d → d.2.2.1.length ≤ n → s.length + 17 * n ≤ 100000 →
 Gj (((), s, ()), (d, ())) = some (.inl (((), (Xf n d s).2, ()), ((Xf n d s).1, ()))) ∨ Gj (((), s, ()), (d, ())) = some (.inr (((), (Xf n d s).2, ()), ((Xf n d s).1, ())))
 | n, d, s, h, hl, hs => by
  unfold Gj
  cases hq : d.2.2.1 with
  | nil =>
   have e1 : Xf n d s = (d, s) := by
    cases n with
    | zero => rfl
    | succ n => simp only [Xf, hq]
   have hstep : Ii () s d = some (.inr (.inl (((), s, ()), (d, ())))) := by
    unfold Ii
    rw [hq, Ba (by simp)]; rfl
   refine .inl ?_
   erw [Oe hstep]
   rw [e1]; rfl
  | cons x r =>
   have hlen : d.2.2.1.length = r.length + 1 := by rw [hq]; rfl
   cases n with
   | zero => omega
   | succ n =>
    have e1 : Xf (n + 1) d s = match Im d x r with
     | none => (d, s)
     | some (d', l) => Xf n d' (Sq s d'.2.2.2.2.1 l) := by simp only [Xf, hq]
    rw [e1]
    have h64 := h.len
    have hc := LP x r (by omega)
    have hb : jx (ja ([] : List Ca) + ja r) Sa = true := ji (by simp; rw [Be]; omega)
    have i0 : Af (ja (x :: r)) (0 : Int) = true := by rw [show (0 : Int) = ((0 : Nat) : Int) from rfl, Kg]; exact Aa (by simp)
    have g0 : (x :: r)[(jy (0 : Int))]? = some x := rfl
    have pre : Ii () s d = Ii () s d := rfl
    conv at pre => rhs; unfold Ii
    rw [Aa (show ((ja d.2.2.1 : Nat) : Int) > 0 by rw [hlen]; omega), hq, i0, g0] at pre
    simp only [cond_true, jb] at pre
    have Xh : ∀ (s' : List Pe) (w : Int) (e' : Hb), e'.2.2.1 = x :: r → (jz (some (Sum.inl (((), s', w, ()), (e', ()))) : Option (((Unit × List Pe × Int × Unit) × Hb × Unit) ⊕ Unit)) (j7 (fun y43 => (cond (Md (ja y43.2.1.2.2.1) (1 : Int) ((ja y43.2.1.2.2.1 : Nat) : Int))
     (cond (jx (ja ([] : List Ca) + ja (Eb y43.2.1.2.2.1 (jy (1 : Int)) (jy ((ja y43.2.1.2.2.1 : Nat) : Int)))) Sa)
     (some (.inl (((), y43.1.2.1, ()), ((((y43.2.1.1.1.1, y43.2.1.1.1.2.1, ()), y43.2.1.1.2), y43.2.1.2.1, (jf ([] : List Ca) (Eb y43.2.1.2.2.1 (jy (1 : Int)) (jy ((ja y43.2.1.2.2.1 : Nat) : Int)))), y43.2.1.2.2.2.1, y43.1.2.2.1, y43.2.1.2.2.2.2.2), ()))) : Option (((Unit × List Pe × Unit) × Hb × Unit) ⊕ (((Unit × List Pe × Unit) × Hb × Unit) ⊕ ((Unit × List Pe × Unit) × Hb × Unit))))
     none)
     none)) (fun z44 => none))) = some (.inl (((), s', ()), ((e'.1, e'.2.1, r, e'.2.2.2.1, w, e'.2.2.2.2.2), ()))) := by
     intro s' w e' he
     simp only [jb, qk, he, hc.1, hc.2, hb, cond_true]
     rfl
    cases hst : Im d x r with
    | none =>
     have hd : x.2.2.1 = true := by
      cases hd : x.2.2.1 with
      | true => rfl
      | false =>
       unfold Im at hst
       rw [hd] at hst
       simp at hst
     have hstep : Ii () s d = some (.inr (.inr (((), s, ()), (d, ())))) := by
      rw [pre, hd]
      show (jz (Qu d x (max d.2.2.2.2.1 x.1)) _) = _
      rw [ZX h hq hd, hst]; rfl
     refine .inr ?_
     erw [Oe hstep]; rfl
    | some p =>
     obtain ⟨d', l⟩ := p
     have hn := I7 h hq hst
     have hsh := Mae hst
     have hl' := hn.2.2.1
     have hstep : Ii () s d = some (.inl (((), Sq s d'.2.2.2.2.1 l, ()), (d', ()))) := by
      rw [pre]
      cases hd : x.2.2.1 with
      | true =>
       simp only [cond_true]
       show (jz (Qu d x (max d.2.2.2.2.1 x.1)) _) = _
       rw [ZX h hq hd, hst]
       simp only [jb, jg, cond_false]
       rw [LQ _ _ _ _ (by omega) (by omega)]
       refine (Xh (Sq s d'.2.2.2.2.1 l) d'.2.2.2.2.1 (d'.1, d.2.1, d.2.2.1, d.2.2.2.1, d.2.2.2.2.1, d'.2.2.2.2.2.1, d'.2.2.2.2.2.2.1, ()) hq).trans ?_
       rw [hsh]
      | false =>
       simp only [cond_false]
       obtain ⟨hi, hi1, hi2⟩ := (LU h hq).up hd
       show (jz (LC d.1 x.2.1) _) = _
       rw [K3 h.eng hi hi1]
       unfold Im at hst
       rw [hd] at hst
       simp only [qa, cond_true, jc, jh] at hst
       obtain ⟨rfl, rfl⟩ := hst
       simp only [jb]
       cases d.2.2.2.2.2.1 == j5 .i64 (x.2.1 + 1) with
       | true =>
        simp only [cond_true]
        rw [LQ _ _ _ _ (by omega) (by omega)]
        exact Xh _ _ _ rfl
       | false =>
        simp only [cond_false]
        rw [LQ _ _ _ _ (by omega) (by omega)]
        exact Xh _ _ _ hq
     have ih := Q0 n d' (Sq s d'.2.2.2.2.1 l) hn.1 (by rw [hn.2.1]; omega) (by rw [SX]; omega)
     unfold Gj at ih
     erw [Oe hstep]
     exact ih
theorem Q7 (d : Hb) (h : DP d) : Ny d = some ((Xf d.2.2.1.length d []).1, ((Xf d.2.2.1.length d []).2, ())) := by
 have h64 := h.len
 unfold Ny
 rcases Q0 d.2.2.1.length d [] h (jo _) (by simp; omega) with h1 | h1 <;> (rw [h1]; rfl)
def Q3 : Hb := ((((0 : Int), ([] : List (List Bb)), ()), ([] : List (List Sc)), (0 : Int), ([] : List Pa), (0 : Int), false, ()), ((0 : Int), (0 : Int), (0 : Int), ()), ([] : List Ca), (0 : Int), (0 : Int), (0 : Int), (0 : Int), ())
def VaD (l : List Ca) : Int := (l.headD (0, 0, false, ())).1
def Eg (l : List Ca) (t : Int) : Bool := ((l.length : Int) == 0) || !decide (VaD l < t)
noncomputable def My (d : Hb) (l : List Ca) (til : Int) : Bool :=
 Ff d && (decide (d.2.2.2.1 ≤ til ∧ til ≤ 1000000) && (Eg l d.2.2.2.1 && (Kf l til && Gd (jf d.2.2.1 l) (Vs d.1.2.2.2.1) d.1.1.1)))
def Kr (d : Hb) (l : List Ca) (til : Int) : Hb := (d.1, d.2.1, jf d.2.2.1 l, til, d.2.2.2.2)
noncomputable def GK (d : Hb) (l : List Ca) (til : Int) : Hb × ((List Pe) × (Bool × Unit)) :=
 cond (My d l til) ((Xf (Kr d l til).2.2.1.length (Kr d l til) []).1, (Xf (Kr d l til).2.2.1.length (Kr d l til) []).2, true, ()) (Q3, [], false, ())
theorem KL {q : List Ca} {d k : Int} (h : Gd q d k = true) : q.length ≤ 64 := by
 simp only [Gd, jd, LL] at h
 by_cases h1 : q.length ≤ 64
 ·exact h1
 ·rw [Ba h1] at h; simp at h
theorem N6 {d : Hb} {l : List Ca} {til : Int} (hd : Ff d = true) (hf : Gd (jf d.2.2.1 l) (Vs d.1.2.2.2.1) d.1.1.1 = true) : DP (Kr d l til) := by
 have he : Bv d.1 := by
  rw [← O6]
  simp only [Ff, jd] at hd
  exact hd.1
 obtain ⟨m, hm, hm2⟩ := XaI he.hd
 refine ⟨he, KL hf, ?_, m, 0, hm2, ?_⟩
 ·have h1 := hf
  simp only [Gd, jd, A5] at h1
  have h2 := h1.1
  intro x hx
  have h3 := (I1 (p := fun x : Ca => !decide (x.2.1 ≥ d.1.1.1))).1 h2 x hx
  simp only [Bool.not_eq_true', decide_eq_false_iff_not] at h3
  show x.2.1 < d.1.1.1
  omega
 ·have := Z1 hf
  rw [hm] at this
  exact this
theorem QU {l : List Ca} (h : 0 < l.length) : ∃ x, Ab l (0 : Int) = some x ∧ x.1 = VaD l := by
 cases l with
 | nil => simp at h
 | cons x l => exact ⟨x, rfl, rfl⟩
theorem XW (d : Hb) (l : List Ca) (til : Int) (hz : Ja Dc d ≤ Ea) (hl : l.length ≤ 1000000) : Lz d l til = some (GK d l til) := by
 have h20 : Ea = 1048576 := rfl
 have hz' := hz
 rw [IJ, Dx] at hz'
 have hz2 := hz'
 rw [Cl, Ok] at hz2
 have hlapp : (jf d.2.2.1 l).length = d.2.2.1.length + l.length := by simp
 have hlim : jx (ja d.2.2.1 + ja l) Sa = true := ji (by rw [Be]; omega)
 unfold Lz GK
 rw [DO _ hz, Ms _ _ (by omega), RK _ hz]
 cases hd : Ff d with
 | false => rw [show My d l til = false by unfold My; rw [hd]; rfl]; rfl
 | true =>
  have hh : ∀ x ∈ d.1.2.2.2.1, Jt x := by
   have : Yi d.1 = true := by simp only [Ff, jd] at hd; exact hd.1
   exact Hn (Iy this)
  have h64 : d.2.2.1.length ≤ 64 := by
   simp only [Ff, jd] at hd
   exact KL hd.2.2.2.2.1
  rw [PH _ (by omega) hh]
  simp only [jb, jg, cond_false, hlim, cond_true]
  rw [Ns _ _ _ (by rw [hlapp]; omega)]
  simp only [jb]
  have key : ∀ (K : Option (Hb × ((List Pe) × (Bool × Unit)))), (Gd (jf d.2.2.1 l) (Vs d.1.2.2.2.1) d.1.1.1 = true → K = some ((Xf (Kr d l til).2.2.1.length (Kr d l til) []).1, (Xf (Kr d l til).2.2.1.length (Kr d l til) []).2, true, ())) →
   (cond (decide (til < d.2.2.2.1)) (some (Q3, [], false, ())) (cond (decide (til > 1000000)) (some (Q3, [], false, ())) (cond (!Eg l d.2.2.2.1) (some (Q3, [], false, ())) (cond (!Kf l til) (some (Q3, [], false, ())) (cond (!Gd (jf d.2.2.1 l) (Vs d.1.2.2.2.1) d.1.1.1) (some (Q3, [], false, ())) K))))) =
   some (cond (My d l til) ((Xf (Kr d l til).2.2.1.length (Kr d l til) []).1, (Xf (Kr d l til).2.2.1.length (Kr d l til) []).2, true, ()) (Q3, [], false, ())) := by
   intro K hK
   unfold My
   rw [hd]
   by_cases h1 : til < d.2.2.2.1
   ·rw [Aa h1, Ba (show ¬ (d.2.2.2.1 ≤ til ∧ til ≤ 1000000) by omega)]; rfl
   ·by_cases h2 : til > 1000000
    ·rw [Ba h1, Aa h2, Ba (show ¬ (d.2.2.2.1 ≤ til ∧ til ≤ 1000000) by omega)]; rfl
    ·rw [Ba h1, Ba h2, Aa (show (d.2.2.2.1 ≤ til ∧ til ≤ 1000000) by omega)]
     cases Eg l d.2.2.2.1 with
     | false => rfl
     | true =>
      cases Kf l til with
      | false => rfl
      | true =>
       cases hq : Gd (jf d.2.2.1 l) (Vs d.1.2.2.2.1) d.1.1.1 with
       | false => rfl
       | true => exact hK hq
  have hrun : Gd (jf d.2.2.1 l) (Vs d.1.2.2.2.1) d.1.1.1 = true → ∀ z : Hb, Jg (((), (), ([] : List Pe), ()), (z, (d.1, d.2.1, jf d.2.2.1 l, til, d.2.2.2.2), ())) = some (.inl (((), (), (Xf (Kr d l til).2.2.1.length (Kr d l til) []).2, ()), (z, (Xf (Kr d l til).2.2.1.length (Kr d l til) []).1, ()))) := by
   intro hq z
   have h1 := N6 (til := til) hd hq
   have := h1.len
   exact H0 z _ (Kr d l til) [] h1 (jo _) (by simp; omega)
  by_cases h0 : l.length = 0
  ·have hna : Eg l d.2.2.2.1 = true := by unfold Eg; rw [h0]; rfl
   rw [Ba (show ¬ ((ja l : Nat) : Int) > 0 by omega)]
   simp only [cond_false]
   simp only [hna, jg, cond_false] at key
   exact key _ (fun hq => by rw [hrun hq]; rfl)
  ·obtain ⟨x, hx, hx1⟩ := QU (l := l) (by omega)
   have hna : Eg l d.2.2.2.1 = !decide (x.1 < d.2.2.2.1) := by
    unfold Eg
    rw [show ((l.length : Int) == 0) = false by simp; intro h; rw [h] at h0; simp at h0, hx1]; rfl
   rw [Aa (show ((ja l : Nat) : Int) > 0 by omega), hx]
   simp only [cond_true, jb]
   simp only [hna, Bool.not_not] at key
   exact key _ (fun hq => by rw [hrun hq]; rfl)
theorem WX (d : Hb) (l : List Ca) (til : Int) (hz : Ja Dc d ≤ Ea) (hl : l.length ≤ 1000000) : NA d l til = some (GK d l til) := by
 have h20 : Ea = 1048576 := rfl
 have hz' := hz
 rw [IJ, Dx] at hz'
 have hz2 := hz'
 rw [Cl, Ok] at hz2
 have hlapp : (jf d.2.2.1 l).length = d.2.2.1.length + l.length := by simp
 have hn : jf ([] : List Ca) d.2.2.1 = d.2.2.1 := rfl
 have hlim : jx (ja d.2.2.1 + ja l) Sa = true := ji (by rw [Be]; omega)
 have hlim2 : jx (ja ([] : List Ca) + ja d.2.2.1) Sa = true := ji (by rw [Be]; simp; omega)
 unfold NA GK
 rw [hn, hlim, hlim2, HO _ hz, Xc, BE _ (by omega)]
 simp only [cond_true]
 cases hd : Ff d with
 | false => rw [show My d l til = false by unfold My; rw [hd]; rfl]; rfl
 | true =>
  have hh : ∀ x ∈ d.1.2.2.2.1, Jt x := by
   have : Yi d.1 = true := by simp only [Ff, jd] at hd; exact hd.1
   exact Hn (Iy this)
  have h64 : d.2.2.1.length ≤ 64 := by
   simp only [Ff, jd] at hd
   exact KL hd.2.2.2.2.1
  rw [LK _ (by omega) hh]
  simp only [jb, jg, cond_false]
  rw [Zq _ _ _ (by rw [hlapp]; omega)]
  simp only [jb]
  unfold My
  rw [hd]
  cases decide (d.2.2.2.1 ≤ til ∧ til ≤ 1000000) with
  | false => rfl
  | true =>
   cases hq : Gd (jf d.2.2.1 l) (Vs d.1.2.2.2.1) d.1.1.1 with
   | false => simp only [Bool.and_false]; rfl
   | true =>
    have hrun : Ny (d.1, d.2.1, jf d.2.2.1 l, til, d.2.2.2.2) = _ := Q7 (Kr d l til) (N6 hd hq)
    simp only [jg, cond_false, jk, Bool.and_true]
    rw [hrun]
    by_cases h0 : l.length = 0
    ·rw [Ba (show ¬ ((ja l : Nat) : Int) > 0 by omega)]
     rw [show Eg l d.2.2.2.1 = true by unfold Eg; rw [h0]; rfl, show Kf l til = true by unfold Kf; rw [h0]; rfl]
     rfl
    ·obtain ⟨x, hx, hx1⟩ := QU (l := l) (by omega)
     obtain ⟨y, hy, hy1⟩ := PP (l := l) (by omega) (by omega)
     rw [Aa (show ((ja l : Nat) : Int) > 0 by omega), hx, hy]
     simp only [cond_true, jb]
     have e0 : ((l.length : Int) == 0) = false := by simp; intro h; rw [h] at h0; simp at h0
     rw [show Eg l d.2.2.2.1 = !decide (x.1 < d.2.2.2.1) by unfold Eg; rw [e0, hx1]; rfl]
     rw [show Kf l til = !decide (y.1 > til) by
      unfold Kf; rw [e0, hy1]
      rw [Bool.false_or, qx]; simp only [decide_eq_true_eq, Bool.not_eq_true', decide_eq_false_iff_not]; omega]
     cases decide (x.1 < d.2.2.2.1) <;> cases decide (y.1 > til) <;> rfl
def rowN (C m r : Nat) : Nat := (m >>> (r * C)) &&& (2 ^ C - 1)
theorem AM (C m r j : Nat) : (rowN C m r).testBit j = (decide (j < C) && m.testBit (r * C + j)) := by
 unfold rowN
 rw [Nat.testBit_and, Nat.testBit_two_pow_sub_one, Nat.testBit_shiftRight, Bool.and_comm]
theorem KN (C m r : Nat) : rowN C m r < 2 ^ C := by
 unfold rowN
 rw [Nat.and_two_pow_sub_one_eq_mod]
 exact Nat.mod_lt _ (Nat.two_pow_pos C)
theorem Rae (C m a x r : Nat) (hx : x < 2 ^ C) : rowN C (m ||| x <<< (a * C)) r = if r = a then rowN C m a ||| x else rowN C m r := by
 apply Nat.eq_of_testBit_eq
 intro j
 rw [AM, Nat.testBit_or, Nat.testBit_shiftLeft]
 by_cases hj : j < C
 ·by_cases hr : r = a
  ·subst hr
   rw [if_pos rfl, Nat.testBit_or, AM, Aa hj, Aa (show r * C + j ≥ r * C by omega), show r * C + j - r * C = j by omega]
   simp
  ·rw [if_neg hr, AM, Aa hj]
   have : (decide (r * C + j ≥ a * C) && x.testBit (r * C + j - a * C)) = false := by
    by_cases h1 : r < a
    ·have h2 : (r + 1) * C ≤ a * C := jm C h1
     rw [Nat.add_mul, Nat.one_mul] at h2
     rw [Ba (show ¬ r * C + j ≥ a * C by omega)]; rfl
    ·have h2 : (a + 1) * C ≤ r * C := jm C (by omega)
     rw [Nat.add_mul, Nat.one_mul] at h2
     have h3 : x.testBit (r * C + j - a * C) = false := by
      apply Nat.testBit_lt_two_pow
      exact ql hx (qm (by omega) (by omega))
     rw [h3, Bool.and_false]
   rw [this, Bool.or_false]
 ·have h3 : x.testBit j = false := Nat.testBit_lt_two_pow (ql hx (qm (by omega) (by omega)))
  rw [Ba hj]
  by_cases hr : r = a
  ·rw [if_pos hr, Nat.testBit_or, AM, Ba hj, h3]; rfl
  ·rw [if_neg hr, AM, Ba hj]; rfl
theorem Tae {C x a R : Nat} (hx : x < 2 ^ C) (ha : a < R) : x <<< (a * C) < 2 ^ (R * C) := by
 rw [Nat.shiftLeft_eq]
 have h1 : x * 2 ^ (a * C) < 2 ^ C * 2 ^ (a * C) := Nat.mul_lt_mul_of_pos_right hx (Nat.two_pow_pos _)
 rw [← Nat.pow_add] at h1
 have h2 : (a + 1) * C ≤ R * C := jm C ha
 rw [Nat.add_mul, Nat.one_mul] at h2
 exact ql h1 (qm (by omega) (by omega))
def Bx (C a b m : Nat) : Nat := cond (rowN C m a &&& rowN C m b != 0) (m ||| rowN C m b <<< (a * C)) m
theorem LaJ {C a b m R : Nat} (hm : m < 2 ^ (R * C)) (ha : a < R) : Bx C a b m < 2 ^ (R * C) := by
 unfold Bx
 cases rowN C m a &&& rowN C m b != 0 with
 | false => exact hm
 | true => exact Nat.or_lt_two_pow hm (Tae (KN C m b) ha)
theorem EN {S : Type} {g : Nat → S → S} {p : S → Prop} {s0 : S} {n : Nat} (h0 : p s0) (hs : ∀ k s, k < n → p s → p (g k s)) : ∀ k, k ≤ n → p (Ue g k s0)
 | 0, _ => h0
 | k + 1, h => hs k _ (by omega) (EN h0 hs k (by omega))
def g3 (C a : Nat) : Nat → Nat → Nat := fun b m => Bx C a b m
def g2 (C R : Nat) : Nat → Nat → Nat := fun a m => Ue (g3 C a) R m
def g1 (C R : Nat) : Nat → Nat → Nat := fun _ m => Ue (g2 C R) R m
def Xo (C R m : Nat) : Nat := Ue (g1 C R) R m
theorem Yaq {C R m a : Nat} (hm : m < 2 ^ (R * C)) (ha : a < R) (k : Nat) (hk : k ≤ R) : Ue (g3 C a) k m < 2 ^ (R * C) :=
 EN (p := fun m => m < 2 ^ (R * C)) (n := R) hm (fun b s _ hs => LaJ hs ha) k hk
theorem Xaq {C R m : Nat} (hm : m < 2 ^ (R * C)) (k : Nat) (hk : k ≤ R) : Ue (g2 C R) k m < 2 ^ (R * C) :=
 EN (p := fun m => m < 2 ^ (R * C)) (n := R) hm (fun a s ha hs => Yaq hs ha R (jo _)) k hk
theorem Waq {C R m : Nat} (hm : m < 2 ^ (R * C)) (k : Nat) (hk : k ≤ R) : Ue (g1 C R) k m < 2 ^ (R * C) :=
 EN (p := fun m => m < 2 ^ (R * C)) (n := R) hm (fun _ s _ hs => Xaq hs R (jo _)) k hk
structure SI (C R : Nat) : Prop where
 c1 : 1 ≤ C
 c2 : C ≤ 6
 r1 : 1 ≤ R
 r2 : R ≤ 4
theorem SY {C R r : Nat} (h : SI C R) (hr : r ≤ R) : r * C ≤ 24 := qc (Nat.mul_le_mul (qc hr h.r2) h.c2) (by decide)
theorem MP {C R m : Nat} (h : SI C R) (hm : m < 2 ^ (R * C)) : m < 2 ^ 63 := ql hm (qm (by omega) (by have := SY h (jo R); omega))
theorem ET {C R m : Nat} (h : SI C R) (r : Nat) : rowN C m r < 2 ^ 63 := ql (KN C m r) (qm (by omega) (by have := h.c2; omega))
theorem AP {C R r : Nat} (h : SI C R) (hr : r ≤ R) : j5 .i64 ((r : Int) * (C : Int)) = ((r * C : Nat) : Int) := by
 have := SY h hr
 rw [← Int.natCast_mul]
 generalize r * C = z at *
 exact Vg (by omega) (by omega)
theorem Qal {C R m r : Nat} (h : SI C R) (hm : m < 2 ^ 63) (hr : r ≤ R) :
 Wa .i64 (Zb .i64 (m : Int) (j5 .i64 ((r : Int) * (C : Int)))) (j5 .i64 (Ta .i64 1 (C : Int) - 1)) = ((rowN C m r : Nat) : Int) := by
 have h1 := SY h hr
 have h2 := h.c2
 have hp := Nae (k := C) (by omega)
 have hsh : m >>> (r * C) ≤ m := by rw [Nat.shiftRight_eq_div_pow]; exact Nat.div_le_self _ _
 have e : j5 .i64 (((2 ^ C : Nat) : Int) - 1) = ((2 ^ C - 1 : Nat) : Int) := by
  generalize 2 ^ C = z at hp
  rw [Vg (by omega) (by omega)]; omega
 rw [AP h hr, TU m (by omega), Lk (by omega), e, OL (by omega) (by rw [XK]; generalize 2 ^ C = z at hp; omega)]
 rfl
theorem P0 {C R m r : Nat} (h : SI C R) (d : Bool) (hm : m < 2 ^ 63) (hr : r ≤ R) : AE ((R : Int), (C : Int), d, ()) (m : Int) (r : Int) = some (((rowN C m r : Nat) : Int), ()) := by
 unfold AE
 rw [Qal h hm hr]
 rw [AP h hr, Aa (Int.natCast_nonneg _), Aa (Int.natCast_nonneg C)]
 rfl
theorem Eav {C R m a x : Nat} (h : SI C R) (hm : m < 2 ^ (R * C)) (ha : a < R) (hx : x < 2 ^ C) :
 Rc .i64 (m : Int) (Ta .i64 (x : Int) (j5 .i64 ((a : Int) * (C : Int)))) = ((m ||| x <<< (a * C) : Nat) : Int) := by
 have h1 := SY h (Nat.le_of_lt ha)
 have h2 := Tae hx ha
 have h3 : x <<< (a * C) < 2 ^ 63 := MP h h2
 rw [AP h (Nat.le_of_lt ha), Tax (by rw [← Nat.shiftLeft_eq]; exact h3) (by omega), ID (MP h hm) h3]
theorem Ras (x y : Nat) (hx : x < 2 ^ 63) (hy : y < 2 ^ 63) : (Wa .i64 (x : Int) (y : Int) != 0) = (x &&& y != 0) := by
 rw [OL hx hy, qx]
 simp
theorem Uar {C R m a : Nat} (h : SI C R) (d : Bool) (hm : m < 2 ^ (R * C)) (ha : a < R) (t : Int) :
 Cz (((), (m : Int), t, (a : Int), (0 : Int), ()), (((R : Int), (C : Int), d, ()), ())) = some (.inl (((), ((g2 C R a m : Nat) : Int), t, (a : Int), ()), (((R : Int), (C : Int), d, ()), ()))) := by
 have hr2 := h.r2
 have := Nh (step := fun x => Yw x.1.1 x.1.2.1 x.1.2.2.1 x.1.2.2.2.1 x.1.2.2.2.2.1 x.2.1) R (by omega) (g3 C a) m (fun s i => (((), (s : Int), t, (a : Int), i, ()), (((R : Int), (C : Int), d, ()), ()))) (fun s => .inl (((), (s : Int), t, (a : Int), ()), (((R : Int), (C : Int), d, ()), ())))
  (by
   intro k hk
   have hs := Yaq hm ha k (by omega)
   generalize Ue (g3 C a) k m = s at *
   have hs63 := MP h hs
   simp only [Yw]
   rw [Aa (show (k : Int) < (R : Int) by omega), P0 h d hs63 (by omega), P0 h d hs63 (by omega)]
   simp only [cond_true, jb]
   rw [Ras _ _ (ET h _) (ET h _), Eav h hs ha (KN C s k), AP h (by omega), Aa (Int.natCast_nonneg _)]
   unfold g3 Bx
   cases (rowN C s a &&& rowN C s k != 0) <;> rfl)
  (by
   simp only [Yw]
   rw [Ba (by omega)]; rfl)
 exact this
theorem Tar {C R m : Nat} (h : SI C R) (d : Bool) (hm : m < 2 ^ (R * C)) (t : Int) :
 RC (((), (m : Int), t, (0 : Int), ()), (((R : Int), (C : Int), d, ()), ())) = some (.inl (((), ((Ue (g2 C R) R m : Nat) : Int), t, ()), (((R : Int), (C : Int), d, ()), ()))) := by
 have hr2 := h.r2
 have := Nh (step := fun x => TA x.1.1 x.1.2.1 x.1.2.2.1 x.1.2.2.2.1 x.2.1) R (by omega) (g2 C R) m (fun s i => (((), (s : Int), t, i, ()), (((R : Int), (C : Int), d, ()), ()))) (fun s => .inl (((), (s : Int), t, ()), (((R : Int), (C : Int), d, ()), ())))
  (by
   intro k hk
   have hs := Xaq hm k (by omega)
   generalize Ue (g2 C R) k m = s at *
   simp only [TA]
   rw [Aa (show (k : Int) < (R : Int) by omega), Uar h d hs hk]; rfl)
  (by
   simp only [TA]
   rw [Ba (by omega)]; rfl)
 exact this
theorem Xae {C R m : Nat} (h : SI C R) (d : Bool) (hm : m < 2 ^ (R * C)) : Yr ((R : Int), (C : Int), d, ()) (m : Int) = some (((cond d m (Xo C R m) : Nat) : Int), ()) := by
 have hr2 := h.r2
 unfold Yr
 cases d with
 | true => rfl
 | false =>
  have := Nh (step := fun x => SA x.1.1 x.1.2.1 x.1.2.2.1 x.2.1) R (by omega) (g1 C R) m (fun s i => (((), (s : Int), i, ()), (((R : Int), (C : Int), false, ()), ()))) (fun s => .inl (((s : Int), ()), ()))
   (by
    intro k hk
    have hs := Waq hm k (by omega)
    generalize Ue (g1 C R) k m = s at *
    simp only [SA]
    rw [Aa (show (k : Int) < (R : Int) by omega), Tar h false hs]; rfl)
   (by
    simp only [SA]
    rw [Ba (by omega)]; rfl)
  unfold QC
  simp only [cond_false]
  erw [this]
  rfl
def Ti (C m : Nat) : List Int := [((rowN C m 0 : Nat) : Int), ((rowN C m 1 : Nat) : Int), ((rowN C m 2 : Nat) : Int), ((rowN C m 3 : Nat) : Int)]
theorem lt4 {r : Nat} (h : r < 4) : r = 0 ∨ r = 1 ∨ r = 2 ∨ r = 3 := by omega
theorem RX {C m r : Nat} (h : r < 4) : (Ti C m)[r]? = some ((rowN C m r : Nat) : Int) := by
 rcases lt4 h with rfl | rfl | rfl | rfl <;> rfl
theorem Kav {C m a x : Nat} (ha : a < 4) (hx : x < 2 ^ C) : (Ti C m).set a (((rowN C m a ||| x : Nat)) : Int) = Ti C (m ||| x <<< (a * C)) := by
 unfold Ti
 simp only [Rae C m a x _ hx]
 rcases lt4 ha with rfl | rfl | rfl | rfl <;> simp
theorem Rax {C m r : Nat} (h : r < 4) : Af (ja (Ti C m)) (r : Int) = true := by
 rw [Kg]; exact Aa h
theorem Car {C R m a : Nat} (h : SI C R) (d : Bool) (hm : m < 2 ^ (R * C)) (ha : a < R) (t1 t2 t3 t4 : Int) :
 OE (((), Ti C m, (a : Int), t1, t2, t3, t4, (R : Int), (0 : Int), ()), (((R : Int), (C : Int), d, ()), ())) = some (.inl (((), Ti C (g2 C R a m), t1, t2, t3, t4, ()), (((R : Int), (C : Int), d, ()), ()))) := by
 have hr2 := h.r2
 have := Nh (step := fun x => GD x.1.1 x.1.2.1 x.1.2.2.1 x.1.2.2.2.1 x.1.2.2.2.2.1 x.1.2.2.2.2.2.1 x.1.2.2.2.2.2.2.1 x.1.2.2.2.2.2.2.2.1 x.1.2.2.2.2.2.2.2.2.1 x.2.1) R (by omega) (g3 C a) m
  (fun s i => (((), Ti C s, (a : Int), t1, t2, t3, t4, (R : Int), i, ()), (((R : Int), (C : Int), d, ()), ()))) (fun s => .inl (((), Ti C s, t1, t2, t3, t4, ()), (((R : Int), (C : Int), d, ()), ())))
  (by
   intro k hk
   have hs := Yaq hm ha k (by omega)
   generalize Ue (g3 C a) k m = s at *
   simp only [GD]
   have hlen : Nat.beq 4 (ja (Ti C s)) = true := rfl
   rw [Aa (show (k : Int) < (R : Int) by omega), hlen, Rax (show a < 4 by omega), Rax (show k < 4 by omega)]
   simp only [jn, cond_true]
   rw [RX (show a < 4 by omega), RX (show k < 4 by omega)]
   simp only [jb]
   rw [Ras _ _ (ET h _) (ET h _), ID (ET h _) (ET h _), Kav (show a < 4 by omega) (KN C s k)]
   unfold g3 Bx
   cases (rowN C s a &&& rowN C s k != 0) <;> rfl)
  (by
   simp only [GD]
   rw [Ba (by omega)]; rfl)
 exact this
theorem Bar {C R m : Nat} (h : SI C R) (d : Bool) (hm : m < 2 ^ (R * C)) (t1 t2 : Int) :
 NE (((), Ti C m, t1, t2, (R : Int), (0 : Int), ()), (((R : Int), (C : Int), d, ()), ())) = some (.inl (((), Ti C (Ue (g2 C R) R m), t1, t2, ()), (((R : Int), (C : Int), d, ()), ()))) := by
 have hr2 := h.r2
 have := Nh (step := fun x => FD x.1.1 x.1.2.1 x.1.2.2.1 x.1.2.2.2.1 x.1.2.2.2.2.1 x.1.2.2.2.2.2.1 x.2.1) R (by omega) (g2 C R) m
  (fun s i => (((), Ti C s, t1, t2, (R : Int), i, ()), (((R : Int), (C : Int), d, ()), ()))) (fun s => .inl (((), Ti C s, t1, t2, ()), (((R : Int), (C : Int), d, ()), ())))
  (by
   intro k hk
   have hs := Xaq hm k (by omega)
   generalize Ue (g2 C R) k m = s at *
   simp only [FD]
   rw [Aa (show (k : Int) < (R : Int) by omega), Car h d hs hk]; rfl)
  (by
   simp only [FD]
   rw [Ba (by omega)]; rfl)
 exact this
theorem Aar {C R m : Nat} (h : SI C R) (d : Bool) (hm : m < 2 ^ (R * C)) :
 ME (((), Ti C m, (R : Int), (0 : Int), ()), (((R : Int), (C : Int), d, ()), ())) = some (.inl (((), Ti C (Xo C R m), ()), (((R : Int), (C : Int), d, ()), ()))) := by
 have hr2 := h.r2
 have := Nh (step := fun x => ED x.1.1 x.1.2.1 x.1.2.2.1 x.1.2.2.2.1 x.2.1) R (by omega) (g1 C R) m
  (fun s i => (((), Ti C s, (R : Int), i, ()), (((R : Int), (C : Int), d, ()), ()))) (fun s => .inl (((), Ti C s, ()), (((R : Int), (C : Int), d, ()), ())))
  (by
   intro k hk
   have hs := Waq hm k (by omega)
   generalize Ue (g1 C R) k m = s at *
   simp only [ED]
   rw [Aa (show (k : Int) < (R : Int) by omega), Bar h d hs]; rfl)
  (by
   simp only [ED]
   rw [Ba (by omega)]; rfl)
 exact this
def CF (C m k : Nat) : List Int := [0, 1, 2, 3].map fun r => if r < k then ((rowN C m r : Nat) : Int) else 0
theorem Zay {C R m r : Nat} (hm : m < 2 ^ (R * C)) (hr : R ≤ r) : rowN C m r = 0 := by
 unfold rowN
 have : m >>> (r * C) = 0 := by
  rw [Nat.shiftRight_eq_div_pow]
  apply Nat.div_eq_of_lt
  exact ql hm (qm (by omega) (jm C hr))
 rw [this, Nat.zero_and]
theorem Taq {C R m : Nat} (hm : m < 2 ^ (R * C)) : CF C m R = Ti C m := by
 have key : ∀ r, (if r < R then ((rowN C m r : Nat) : Int) else 0) = ((rowN C m r : Nat) : Int) := by
  intro r
  by_cases h : r < R
  ·rw [if_pos h]
  ·rw [if_neg h, Zay hm (by omega)]; rfl
 unfold CF Ti
 simp only [List.map_cons, List.map_nil, key]
theorem Uaq {C m k : Nat} (hk : k < 4) : (CF C m k).set k ((rowN C m k : Nat) : Int) = CF C m (k + 1) := by
 rcases lt4 hk with rfl | rfl | rfl | rfl <;> simp [CF]
theorem Vat {C R m : Nat} (h : SI C R) (d : Bool) (hm : m < 2 ^ (R * C)) :
 QH (((m : Int), (), List.replicate 4 (0 : Int), (R : Int), (0 : Int), ()), (((R : Int), (C : Int), d, ()), ())) = some (.inl (((), Ti C m, ()), (((R : Int), (C : Int), d, ()), ()))) := by
 have hr2 := h.r2
 have := EC (step := fun x => IG x.1.1 x.1.2.1 x.1.2.2.1 x.1.2.2.2.1 x.1.2.2.2.2.1 x.2.1) (fun k => (((m : Int), (), CF C m k, (R : Int), (k : Int), ()), (((R : Int), (C : Int), d, ()), ()))) R (.inl (((), Ti C m, ()), (((R : Int), (C : Int), d, ()), ())))
  (by
   intro k hk
   simp only [IG]
   have hlen : Nat.beq 4 (ja (CF C m k)) = true := rfl
   have hin : Af (ja (CF C m k)) (k : Int) = true := by rw [Kg]; exact Aa (show k < 4 by omega)
   have hget : ∃ y, (CF C m k)[k]? = some y := ⟨(CF C m k)[k]'(show k < 4 by omega), je _⟩
   obtain ⟨y, hy⟩ := hget
   rw [Aa (show (k : Int) < (R : Int) by omega), Qal h (MP h hm) (by omega), AP h (by omega), Aa (Int.natCast_nonneg _), Aa (Int.natCast_nonneg C), hlen, hin]
   simp only [jn, cond_true]
   rw [hy]
   simp only [jb]
   rw [Uaq (by omega), Hc (by omega)])
  (by
   simp only [IG]
   rw [Ba (by omega), Taq hm]; rfl)
 exact this
theorem Lad {C m : Nat} : ∀ k, ∀ j, (Ue (fun i s => s ||| rowN C m i <<< (i * C)) k 0).testBit j = (decide (j < k * C) && m.testBit j)
 | 0, j => by simp [Ue]
 | k + 1, j => by
  simp only [Ue]
  rw [Nat.testBit_or, Lad k j, Nat.testBit_shiftLeft, AM, Nat.add_mul, Nat.one_mul]
  by_cases h1 : j < k * C
  ·rw [Aa h1, Ba (show ¬ j ≥ k * C by omega), Aa (show j < k * C + C by omega)]; simp
  ·rw [Ba h1, Aa (show j ≥ k * C by omega), show k * C + (j - k * C) = j by omega]
   by_cases h2 : j < k * C + C
   ·rw [Aa h2, Aa (show j - k * C < C by omega)]; simp
   ·rw [Ba h2, Ba (show ¬ j - k * C < C by omega)]; simp
theorem Uax {C R m : Nat} (hm : m < 2 ^ (R * C)) : Ue (fun i s => s ||| rowN C m i <<< (i * C)) R 0 = m := by
 apply Nat.eq_of_testBit_eq
 intro j
 rw [Lad]
 by_cases h : j < R * C
 ·rw [Aa h]; rfl
 ·rw [Ba h, Nat.testBit_lt_two_pow (ql hm (qm (by omega) (by omega)))]; rfl
theorem SaE {C R m : Nat} (k : Nat) (hk : k ≤ R) : Ue (fun i s => s ||| rowN C m i <<< (i * C)) k 0 < 2 ^ (R * C) :=
 EN (p := fun s => s < 2 ^ (R * C)) (n := R) (Nat.two_pow_pos _) (fun i s hi hs => Nat.or_lt_two_pow hs (Tae (KN C m i) hi)) k hk
theorem Wat {C R m : Nat} (h : SI C R) (d : Bool) (hm : m < 2 ^ (R * C)) :
 PE (((), Ti C m, (0 : Int), (R : Int), (0 : Int), ()), (((R : Int), (C : Int), d, ()), ())) = some (.inl (((m : Int), ()), ())) := by
 have hr2 := h.r2
 have := Nh (step := fun x => HD x.1.1 x.1.2.1 x.1.2.2.1 x.1.2.2.2.1 x.1.2.2.2.2.1 x.2.1) R (by omega) (fun i s => s ||| rowN C m i <<< (i * C)) 0
  (fun (s : Nat) i => (((), Ti C m, (s : Int), (R : Int), i, ()), (((R : Int), (C : Int), d, ()), ()))) (fun s => .inl (((s : Int), ()), ()))
  (by
   intro k hk
   have hs := SaE (C := C) (R := R) (m := m) k (by omega)
   generalize Ue (fun i s => s ||| rowN C m i <<< (i * C)) k 0 = s at *
   have hlen : Nat.beq 4 (ja (Ti C m)) = true := rfl
   simp only [HD]
   rw [Aa (show (k : Int) < (R : Int) by omega), hlen, Rax (show k < 4 by omega)]
   simp only [jn, cond_true]
   rw [RX (show k < 4 by omega)]
   simp only [jb]
   rw [Eav h hs hk (KN C m k), AP h (by omega), Aa (Int.natCast_nonneg _)]; rfl)
  (by
   simp only [HD]
   rw [Ba (by omega)]; rfl)
 rw [Uax hm] at this
 exact this
theorem Oae {C R m : Nat} (hm : m < 2 ^ (R * C)) : Xo C R m < 2 ^ (R * C) := Waq hm R (jo _)
theorem Gad {C R m : Nat} (h : SI C R) (d : Bool) (hm : m < 2 ^ (R * C)) : RB ((R : Int), (C : Int), d, ()) (m : Int) = some (((cond d m (Xo C R m) : Nat) : Int), ()) := by
 unfold RB
 cases d with
 | true => rfl
 | false =>
  simp only [cond_false]
  rw [Vat h false hm]
  simp only [jb, qk]
  rw [Aar h false hm]
  simp only [jb, qk]
  rw [Wat h false (Oae hm)]
  rfl
def Eo (M : Zd) (x : Int) : Int := ((cond M.2.2.1 x.toNat (Xo M.2.1.toNat M.1.toNat x.toNat) : Nat) : Int)
theorem XH {M : Zd} {x : Int} (h : Ad M x = true) : ∃ C R m : Nat, ∃ d : Bool, M = ((R : Int), (C : Int), d, ()) ∧ x = (m : Int) ∧ SI C R ∧ m < 2 ^ (R * C) := by
 obtain ⟨r, c, d, u⟩ := M
 simp only [Ad, jd, Hf, decide_eq_true_eq] at h
 have hm := h.1
 simp only [Hg, decide_eq_true_eq] at hm
 obtain ⟨R, rfl⟩ := jv (show 0 ≤ r by omega)
 obtain ⟨C, rfl⟩ := jv (show 0 ≤ c by omega)
 obtain ⟨m, rfl⟩ := jv h.2.1
 refine ⟨C, R, m, d, rfl, rfl, ⟨by omega, by omega, by omega, by omega⟩, ?_⟩
 have hk : Dd ((R : Int), (C : Int), d, u) = ((R * C : Nat) : Int) := by
  unfold Dd; rw [h.1]; simp
 rw [hk, jn] at h
 exact Int.ofNat_lt.1 h.2.2
theorem JU {C R m : Nat} {d : Bool} (h : SI C R) (hm : m < 2 ^ (R * C)) : Ad ((R : Int), (C : Int), d, ()) (m : Int) = true := by
 have h1 := h.c1; have h2 := h.c2; have h3 := h.r1; have h4 := h.r2
 have hM : Hg ((R : Int), (C : Int), d, ()) = true := by simp only [Hg, decide_eq_true_eq]; omega
 have hk : Dd ((R : Int), (C : Int), d, ()) = ((R * C : Nat) : Int) := by
  unfold Dd; rw [hM]; simp
 simp only [Ad, hM, hk, Hf, jn, jk, decide_eq_true_eq]
 exact ⟨Int.natCast_nonneg _, Int.ofNat_lt.2 hm⟩
theorem JN {C R m : Nat} {d : Bool} : Eo ((R : Int), (C : Int), d, ()) (m : Int) = ((cond d m (Xo C R m) : Nat) : Int) := by
 unfold Eo
 simp only [jn]
theorem A7 {M : Zd} {x : Int} (h : Ad M x = true) : RB M x = some (Eo M x, ()) := by
 obtain ⟨C, R, m, d, rfl, rfl, hd, hm⟩ := XH h
 rw [Gad hd d hm, JN]
theorem W7 {M : Zd} {x : Int} (h : Ad M x = true) : Yr M x = some (Eo M x, ()) := by
 obtain ⟨C, R, m, d, rfl, rfl, hd, hm⟩ := XH h
 rw [Xae hd d hm, JN]
theorem Iav {M : Zd} {x : Int} (h : Ad M x = true) : Ad M (Eo M x) = true := by
 obtain ⟨C, R, m, d, rfl, rfl, hd, hm⟩ := XH h
 rw [JN]
 cases d with
 | true => exact JU hd hm
 | false => exact JU hd (Oae hm)
def Zi (M : Zd) (x : Int) : Bool := Ad M x && (Eo M x == x)
theorem KE (M : Zd) (x : Int) : On M x = some (Zi M x, ()) := by
 unfold On Zi
 rw [Wt]
 cases h : Ad M x with
 | false => rfl
 | true => simp only [jb, cond_true, jk]; rw [A7 h]; rfl
theorem Ct (M : Zd) (x : Int) : Sn M x = some (Zi M x, ()) := by
 unfold Sn Zi
 rw [Ou]
 cases h : Ad M x with
 | false => rfl
 | true => simp only [jb, cond_true, jk]; rw [W7 h]; rfl
theorem XX (M : Zd) (x : Int) : OA M x = some (cond (Ad M x) (Eo M x) 0, Ad M x, ()) := by
 unfold OA
 rw [Ou]
 cases h : Ad M x with
 | false => rfl
 | true => simp only [jb, jg, cond_false, cond_true]; rw [W7 h]; rfl
theorem E8 {M : Zd} {x : Int} {k : Nat} (h : Ad M x = true) (hk : k ≤ 62) : Ad M (Jb .i64 x (Ta .i64 1 (k : Int))) = true := by
 obtain ⟨C, R, m, d, rfl, rfl, hd, hm⟩ := XH h
 rw [Lk hk, VW (MP hd hm) (Pi hk)]
 exact JU hd (qq hm (Nat.lt_of_le_of_lt Nat.and_le_left hm))
def J1 (M : Zd) (x : Int) (k : Nat) : Bool := (Bd x (k : Int) == 1) && (Eo M (Jb .i64 x (Ta .i64 1 (k : Int))) == x)
theorem Vas {x : Nat} {k : Nat} (hx : x < 2 ^ 63) (hk : k ≤ 64) : Bd (x : Int) (k : Int) = 0 ∨ Bd (x : Int) (k : Int) = 1 := by
 unfold Bd
 have h1 : x >>> k ≤ x := by rw [Nat.shiftRight_eq_div_pow]; exact Nat.div_le_self _ _
 rw [TU x hk]
 show Wa .i64 ((x >>> k : Nat) : Int) ((1 : Nat) : Int) = _ ∨ Wa .i64 ((x >>> k : Nat) : Int) ((1 : Nat) : Int) = _
 rw [OL (by omega) (by decide), Nat.and_one_is_mod]
 omega
theorem Eac {M : Zd} {x : Int} {k : Nat} (h : Ad M x = true) (hk : k ≤ 64) : (Bd x (k : Int) == 0) = !(Bd x (k : Int) == 1) := by
 obtain ⟨C, R, m, d, rfl, rfl, hd, hm⟩ := XH h
 rcases Vas (MP hd hm) hk with h | h <;> rw [h] <;> rfl
theorem EZ {M : Zd} {x : Int} (h : Zi M x = true) : Ad M x = true ∧ 1 ≤ Dd M ∧ Dd M ≤ 24 := by
 simp only [Zi, jd] at h
 have h2 := h.1
 simp only [Ad, jd] at h2
 exact ⟨h.1, Jab h2.1⟩
theorem XV {M : Zd} {x : Int} (h : Zi M x = true) {k : Nat} (hk : (k : Int) < Dd M) :
 ∃ y, Mv M x (k : Int) = some (y, J1 M x k, ()) := by
 have hm := EZ h
 unfold Mv J1
 rw [KE, h, Sv]
 simp only [jb, jg, cond_false]
 rw [Ba (show ¬ (k : Int) < 0 by omega), Ba (show ¬ (k : Int) ≥ Dd M by omega), Aa (show 0 ≤ (k : Int) by omega)]
 simp only [cond_false, cond_true]
 have hb := Eac (k := k) hm.1 (by omega)
 unfold Bd at hb ⊢
 rw [hb]
 cases Wa .i64 (Zb .i64 x (k : Int)) 1 == 1 with
 | false => exact ⟨_, rfl⟩
 | true =>
  simp only [jg, cond_false, jk]
  rw [A7 (E8 hm.1 (by omega))]
  simp only [jb, bne]
  cases Eo M (Jb .i64 x (Ta .i64 1 (k : Int))) == x <;> exact ⟨_, rfl⟩
theorem BW {M : Zd} {x : Int} (h : Zi M x = true) {k : Nat} (hk : (k : Int) < Dd M) :
 ∃ y, Jw M x (k : Int) = some (y, J1 M x k, ()) := by
 have hm := EZ h
 unfold Jw J1
 rw [Ct, h, Nk]
 simp only [jb, jg, cond_false, Xc]
 rw [Vg (by omega) (by omega), Aa (show 0 ≤ (k : Int) ∧ (k : Int) ≤ Dd M - 1 by omega), Aa (show 0 ≤ (k : Int) by omega)]
 simp only [cond_false, cond_true, jg]
 have hb := Eac (k := k) hm.1 (by omega)
 unfold Bd at hb ⊢
 rw [hb]
 cases Wa .i64 (Zb .i64 x (k : Int)) 1 == 1 with
 | false => exact ⟨_, rfl⟩
 | true =>
  simp only [jg, cond_false, jk]
  rw [W7 (E8 hm.1 (by omega))]
  simp only [jb, bne]
  cases Eo M (Jb .i64 x (Ta .i64 1 (k : Int))) == x <;> exact ⟨_, rfl⟩
def KP (M : Zd) (x : Int) (k : Nat) (s : Int) : Int := cond ((Bd x (k : Int) == 1) && !J1 M x k) (Rc .i64 s (Ta .i64 1 (k : Int))) s
def HW (M : Zd) (x : Int) : Int := cond (Zi M x) (Ue (KP M x) (Dd M).toNat 0) 0
theorem LZ (M : Zd) (x : Int) : BD M x = some (HW M x, ()) := by
 unfold BD HW
 rw [KE]
 cases h : Zi M x with
 | false => rfl
 | true =>
  have hm := EZ h
  obtain ⟨n, hn⟩ := jv (show 0 ≤ Dd M by omega)
  have hl := Nh (step := fun y => Yp y.1.1 y.1.2.1 y.1.2.2.1 y.1.2.2.2.1 y.1.2.2.2.2.1 y.2.1) n (by omega) (KP M x) 0 (fun s i => ((x, (), s, (n : Int), i, ()), (M, ()))) (fun s => .inl ((s, ()), ()))
   (by
    intro k hk
    generalize Ue (KP M x) k 0 = s
    obtain ⟨y, hy⟩ := XV h (k := k) (by omega)
    simp only [Yp]
    rw [Aa (show (k : Int) < (n : Int) by omega), Aa (show 0 ≤ (k : Int) by omega), hy]
    simp only [cond_true, jb, KP, Bd]
    cases Wa .i64 (Zb .i64 x (k : Int)) 1 == 1 <;> cases J1 M x k <;> rfl)
   (by
    simp only [Yp]
    rw [Ba (by omega)]; rfl)
  rw [Sv, hn]
  simp only [jb, jg, cond_false, cond_true, jn]
  unfold Rt
  erw [hl]
  rfl
theorem VZ (M : Zd) (x : Int) : WD M x = some (HW M x, ()) := by
 unfold WD HW
 cases h : Zi M x with
 | false =>
  unfold Sl
  have hs : Ej x () 0 0 M = some (.inr (.inl ((0, ()), ()))) := by
   unfold Ej
   rw [Nk, Ct, h]
   simp only [jb, cond_false]
   cases decide (0 < Dd M) <;> rfl
  rw [Oe hs]
  rfl
 | true =>
  have hm := EZ h
  obtain ⟨n, hn⟩ := jv (show 0 ≤ Dd M by omega)
  have hl := Nh (step := fun y => Ej y.1.1 y.1.2.1 y.1.2.2.1 y.1.2.2.2.1 y.2.1) n (by omega) (KP M x) 0 (fun s i => ((x, (), s, i, ()), (M, ()))) (fun s => .inl ((s, ()), ()))
   (by
    intro k hk
    generalize Ue (KP M x) k 0 = s
    obtain ⟨y, hy⟩ := BW h (k := k) (by omega)
    simp only [Ej]
    rw [Nk, Ct, h, hn]
    simp only [jb]
    rw [Aa (show (k : Int) < (n : Int) by omega), Aa (show 0 ≤ (k : Int) by omega), hy]
    simp only [cond_true, jb, KP, Bd]
    cases Wa .i64 (Zb .i64 x (k : Int)) 1 == 1 <;> cases J1 M x k <;> rfl)
   (by
    simp only [Ej]
    rw [Nk, hn]
    simp only [jb]
    rw [Ba (by omega)]; rfl)
  rw [hn, jn]
  unfold Sl
  erw [hl]
  rfl
def Xab (M : Zd) (old x : Int) : Int := Wa .i64 x (Rc .i64 old (HW M x))
def GP (M : Zd) (old x : Int) : Bool := Ad M old && Zi M x
theorem T6 (M : Zd) (old x : Int) : Xp M old x = some (cond (GP M old x) (Xab M old x) 0, GP M old x, ()) := by
 unfold Xp GP
 rw [Wt, KE, LZ]
 cases Ad M old <;> cases Zi M x <;> rfl
theorem N7 (M : Zd) (old x : Int) : Tq M old x = some (cond (GP M old x) (Xab M old x) 0, GP M old x, ()) := by
 unfold Tq GP
 rw [Ou, Ct, VZ]
 cases Ad M old <;> cases Zi M x <;> rfl
theorem Aax {M : Zd} {x : Int} (h : Ad M x = true) (y : Int) : Ad M (Wa .i64 x y) = true := by
 obtain ⟨C, R, m, d, rfl, rfl, hd, hm⟩ := XH h
 have hm63 := MP hd hm
 have e : Wa .i64 (m : Int) y = ((m &&& (BitVec.ofInt 64 y).toNat : Nat) : Int) := by
  have h2 : (BitVec.ofInt (IntKind.bits .i64) (m : Int) &&& BitVec.ofInt (IntKind.bits .i64) y).toNat = m &&& (BitVec.ofInt 64 y).toNat := by
   rw [BitVec.toNat_and]; erw [AJ hm63]; rfl
  unfold Wa
  rw [h2]
  have h3 : m &&& (BitVec.ofInt 64 y).toNat ≤ m := Nat.and_le_left
  have h4 := XK
  exact Vg (by omega) (by omega)
 rw [e]
 exact JU hd (Nat.lt_of_le_of_lt Nat.and_le_left hm)
theorem Yaw {M : Zd} {old x : Int} (h : GP M old x = true) : Ad M (Xab M old x) = true := by
 simp only [GP, Zi, jd] at h
 exact Aax h.2.1 _
end KF
