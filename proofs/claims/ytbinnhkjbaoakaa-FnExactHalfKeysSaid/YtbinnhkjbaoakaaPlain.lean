/- Laws on the plain functions: program and reference agree (conditions: as each lemma tells). -/
import Derived.Test.YtbinnhkjbaoakaaH
namespace KF
open Go
set_option linter.unusedSimpArgs false
set_option linter.unusedVariables false

def isCodeP (c : Int) : Prop := 1 ≤ c ∧ c ≤ 56
def isModsP (m : Int) : Prop := 1 ≤ m ∧ m ≤ 15
def isUpperP (n : Int) : Prop := 1 ≤ n ∧ n ≤ 3
/-- an action is valid -/
def IsActionP (k c m n : Int) : Prop :=
  ((k = 0 ∨ k = 1 ∨ k = 10) ∧ c = 0 ∧ m = 0 ∧ n = 0) ∨
  (k = 2 ∧ n = 0 ∧ (c = 0 ∨ 1 ≤ c ∧ c ≤ 56) ∧ (m = 0 ∨ 1 ≤ m ∧ m ≤ 15) ∧ (c ≠ 0 ∨ m ≠ 0)) ∨
  ((k = 3 ∨ k = 4) ∧ c = 0 ∧ m = 0 ∧ 1 ≤ n ∧ n ≤ 3) ∨
  ((k = 5 ∨ k = 9) ∧ c = 0 ∧ m = 0 ∧ 0 ≤ n ∧ n ≤ 3) ∨
  (k = 6 ∧ 1 ≤ c ∧ c ≤ 56 ∧ 1 ≤ m ∧ m ≤ 15 ∧ n = 0) ∨
  (k = 7 ∧ 1 ≤ c ∧ c ≤ 56 ∧ m = 0 ∧ 1 ≤ n ∧ n ≤ 3) ∨
  (k = 8 ∧ c = 0 ∧ 1 ≤ m ∧ m ≤ 15 ∧ n = 0)
noncomputable def isActionB (a : TAction) : Bool := open Classical in decide (IsActionP a.1 a.2.1 a.2.2.1 a.2.2.2.1)
theorem isActionB_iff (a : TAction) : isActionB a = true ↔ IsActionP a.1 a.2.1 a.2.2.1 a.2.2.2.1 := by simp [isActionB]

theorem impl_isCode_ok (c : Int) : impl_isCode c = some (decide (1 ≤ c ∧ c ≤ 56), ()) := by
  simp only [impl_isCode, cond_some, cond_unit]
  apply some_unit; simp only [cond_iff, decide_eq_true_eq, beq_iff', bne_iff', Bool.false_eq_true, and_false, false_and, or_false, false_or, and_true, true_and, not_true_eq_false, not_false_eq_true]; try omega
theorem impl_isMods_ok (c : Int) : impl_isMods c = some (decide (1 ≤ c ∧ c ≤ 15), ()) := by
  simp only [impl_isMods, cond_some, cond_unit]
  apply some_unit; simp only [cond_iff, decide_eq_true_eq, beq_iff', bne_iff', Bool.false_eq_true, and_false, false_and, or_false, false_or, and_true, true_and, not_true_eq_false, not_false_eq_true]; try omega
theorem impl_isUpper_ok (c : Int) : impl_isUpper c = some (decide (1 ≤ c ∧ c ≤ 3), ()) := by
  simp only [impl_isUpper, cond_some, cond_unit]
  apply some_unit; simp only [cond_iff, decide_eq_true_eq, beq_iff', bne_iff', Bool.false_eq_true, and_false, false_and, or_false, false_or, and_true, true_and, not_true_eq_false, not_false_eq_true]; try omega
theorem spec_l1In_ok (c a b : Int) : spec_l1In c a b = some (decide (a ≤ c ∧ c ≤ b), ()) := by
  simp only [spec_l1In, cond_some, cond_unit]
  apply some_unit; simp only [cond_iff, decide_eq_true_eq, beq_iff', bne_iff', Bool.false_eq_true, and_false, false_and, or_false, false_or, and_true, true_and, not_true_eq_false, not_false_eq_true]; try omega

theorem impl_IsAction_ok (a : TAction) : impl_IsAction a = some (isActionB a, ()) := by
  obtain ⟨k, c, m, n, u⟩ := a
  have key : ∀ k c m n : Int, impl_IsAction (k, c, m, n, u) = some (isActionB (k, c, m, n, u), ()) := by
    intro k c m n
    simp only [impl_IsAction, impl_isCode_ok, impl_isMods_ok, impl_isUpper_ok, spec_l1In_ok, Option.bind_some, cond_some, cond_unit]
    by_cases h0 : k = 0
    · subst h0; apply some_unit; rw [isActionB_iff]; simp [IsActionP, cond_iff]; try omega
    by_cases h1 : k = 1
    · subst h1; apply some_unit; rw [isActionB_iff]; simp [IsActionP, cond_iff]; try omega
    by_cases h2 : k = 2
    · subst h2; apply some_unit; rw [isActionB_iff]; simp [IsActionP, cond_iff]; intro hn; (repeat' split) <;> omega
    by_cases h3 : k = 3
    · subst h3; apply some_unit; rw [isActionB_iff]; simp [IsActionP, cond_iff]; try omega
    by_cases h4 : k = 4
    · subst h4; apply some_unit; rw [isActionB_iff]; simp [IsActionP, cond_iff]; try omega
    by_cases h5 : k = 5
    · subst h5; apply some_unit; rw [isActionB_iff]; simp [IsActionP, cond_iff]; try omega
    by_cases h6 : k = 6
    · subst h6; apply some_unit; rw [isActionB_iff]; simp [IsActionP, cond_iff]; try omega
    by_cases h7 : k = 7
    · subst h7; apply some_unit; rw [isActionB_iff]; simp [IsActionP, cond_iff]; try omega
    by_cases h8 : k = 8
    · subst h8; apply some_unit; rw [isActionB_iff]; simp [IsActionP, cond_iff]; try omega
    by_cases h9 : k = 9
    · subst h9; apply some_unit; rw [isActionB_iff]; simp [IsActionP, cond_iff]; try omega
    by_cases h10 : k = 10
    · subst h10; apply some_unit; rw [isActionB_iff]; simp [IsActionP, cond_iff]; try omega
    have g : ∀ j : Int, (k == j) = decide (k = j) := fun j => by rw [Bool.eq_iff_iff]; simp
    apply some_unit; rw [isActionB_iff]; simp [IsActionP, cond_iff, h0, h1, h2, h3, h4, h5, h6, h7, h8, h9, h10]
  exact key k c m n
theorem spec_IsAction_ok (a : TAction) : spec_IsAction a = some (isActionB a, ()) := by
  obtain ⟨k, c, m, n, u⟩ := a
  have key : ∀ k c m n : Int, spec_IsAction (k, c, m, n, u) = some (isActionB (k, c, m, n, u), ()) := by
    intro k c m n
    simp only [spec_IsAction, impl_isCode_ok, impl_isMods_ok, impl_isUpper_ok, spec_l1In_ok, Option.bind_some, cond_some, cond_unit]
    by_cases h0 : k = 0
    · subst h0; apply some_unit; rw [isActionB_iff]; simp [IsActionP, cond_iff]; try omega
    by_cases h1 : k = 1
    · subst h1; apply some_unit; rw [isActionB_iff]; simp [IsActionP, cond_iff]; try omega
    by_cases h2 : k = 2
    · subst h2; apply some_unit; rw [isActionB_iff]; simp [IsActionP, cond_iff]; intro hn; (repeat' split) <;> omega
    by_cases h3 : k = 3
    · subst h3; apply some_unit; rw [isActionB_iff]; simp [IsActionP, cond_iff]; try omega
    by_cases h4 : k = 4
    · subst h4; apply some_unit; rw [isActionB_iff]; simp [IsActionP, cond_iff]; try omega
    by_cases h5 : k = 5
    · subst h5; apply some_unit; rw [isActionB_iff]; simp [IsActionP, cond_iff]; try omega
    by_cases h6 : k = 6
    · subst h6; apply some_unit; rw [isActionB_iff]; simp [IsActionP, cond_iff]; try omega
    by_cases h7 : k = 7
    · subst h7; apply some_unit; rw [isActionB_iff]; simp [IsActionP, cond_iff]; try omega
    by_cases h8 : k = 8
    · subst h8; apply some_unit; rw [isActionB_iff]; simp [IsActionP, cond_iff]; try omega
    by_cases h9 : k = 9
    · subst h9; apply some_unit; rw [isActionB_iff]; simp [IsActionP, cond_iff]; try omega
    by_cases h10 : k = 10
    · subst h10; apply some_unit; rw [isActionB_iff]; simp [IsActionP, cond_iff]; try omega
    have g : ∀ j : Int, (k == j) = decide (k = j) := fun j => by rw [Bool.eq_iff_iff]; simp
    apply some_unit; rw [isActionB_iff]; simp [IsActionP, cond_iff, h0, h1, h2, h3, h4, h5, h6, h7, h8, h9, h10]
  exact key k c m n

/-! ### Keymaps -/
/-- what is asked of the action of a layer -/
noncomputable def okActB (nl : Nat) (i : Nat) (a : TAction) : Bool := isActionB a && !(((i : Int) == 0) && (a.1 == 1)) && !((a.1 != 9) && decide (a.2.2.2.1 ≥ (nl : Int)))
noncomputable def okLayerB (keys : Int) (nl : Nat) (i : Nat) (l : List TAction) : Bool := ((List.length l : Int) == keys) && allK (fun _ a => okActB nl i a) 0 l
noncomputable def isKeymapB (m : TKeymap) : Bool :=
  decide (1 ≤ m.1 ∧ m.1 ≤ 32) && decide (1 ≤ m.2.1.length ∧ m.2.1.length ≤ 4) && allK (fun i l => okLayerB m.1 m.2.1.length i l) 0 m.2.1

theorem impl_IsKeymap_in (m : TKeymap) (i : Nat) (l : List TAction) (L : List (List TAction)) (n : Int) (t : Int) (hl : l.length < 9223372036854775807) :
    impl_IsKeymap_9_loop (((), (i : Int), L, n, t, l, (l.length : Int), (0 : Int), ()), (m, ())) =
      some (cond (allK (fun _ a => okActB m.2.1.length i a) 0 l) (.inl (((), L, n, t, ()), (m, ()))) (.inr ((false, ()), ()))) := by
  unfold impl_IsKeymap_9_loop
  refine loopF_all (step := _) l (fun _ a => okActB m.2.1.length i a) (fun j => (((), (i : Int), L, n, t, l, (l.length : Int), j, ()), (m, ()))) _ _ ?_ ?_ hl
  · intro k hk
    simp only [impl_IsKeymap_9_R]
    rw [dec_true (show (k : Int) < (l.length : Int) by omega), idx_lt hk]
    simp only [cond_true, Option.bind_some, okActB, impl_IsAction_ok]
    cases isActionB l[k] <;> cases ((i : Int) == 0) <;> cases (l[k].1 == 1) <;> cases (l[k].1 != 9) <;> cases decide (l[k].2.2.2.1 ≥ (m.2.1.length : Int)) <;> rfl
  · simp [impl_IsKeymap_9_R]

theorem impl_IsKeymap_ok (m : TKeymap) (hz : szT tKeymap m ≤ big20) : impl_IsKeymap m = some (isKeymapB m, ()) := by
  have h20 : big20 = 1048576 := rfl
  have hz' : m.2.1.length + (List.map (szT (.sl tAction)) m.2.1).sum ≤ big20 := by
    have : szT tKeymap m = szT (.sl (.sl tAction)) m.2.1 := by simp only [szT, Nat.add_zero, Nat.zero_add]
    rw [this] at hz; exact hz
  have hl : ∀ k (hk : k < m.2.1.length), m.2.1[k].length ≤ big20 := by
    intro k hk
    have := sum_map_le (f := szT (.sl tAction)) hk
    have h2 : m.2.1[k].length ≤ szT (.sl tAction) m.2.1[k] := Nat.le_add_right _ _
    omega
  have hloop : impl_IsKeymap_4_loop (((), m.2.1, ((List.length m.2.1 : Nat) : Int), (0 : Int), ()), (m, ())) =
      some (cond (allK (fun i l => okLayerB m.1 m.2.1.length i l) 0 m.2.1) (.inl ((), ())) (.inr ((false, ()), ()))) := by
    unfold impl_IsKeymap_4_loop
    refine loopF_all (step := _) m.2.1 (fun i l => okLayerB m.1 m.2.1.length i l) (fun j => (((), m.2.1, ((List.length m.2.1 : Nat) : Int), j, ()), (m, ()))) _ _ ?_ ?_ (by omega)
    · intro k hk
      have := hl k hk
      simp only [impl_IsKeymap_4_R]
      rw [dec_true (show (k : Int) < (m.2.1.length : Int) by omega), idx_lt hk]
      simp only [cond_true, Option.bind_some, okLayerB]
      rw [impl_IsKeymap_in m k _ _ _ _ (by omega)]
      show (cond (!((m.2.1[k].length : Int) == m.1)) _ _) = _
      cases ((m.2.1[k].length : Int) == m.1) <;> cases allK (fun _ a => okActB m.2.1.length k a) 0 m.2.1[k] <;> rfl
    · simp [impl_IsKeymap_4_R]
  unfold impl_IsKeymap
  rw [hloop]
  simp only [Option.bind_some, elim_cond, cond_some, cond_unit]
  apply some_unit
  simp only [cond_iff, isKeymapB, Bool.and_eq_true, decide_eq_true_eq, Bool.false_eq_true, and_false, false_or, and_true, or_false]
  generalize allK (fun i l => okLayerB m.1 m.2.1.length i l) 0 m.2.1 = b
  constructor
  · rintro ⟨h1, h2, h3, h4, h5⟩; exact ⟨⟨by omega, by omega⟩, h5⟩
  · rintro ⟨⟨h1, h2⟩, h5⟩; exact ⟨by omega, by omega, by omega, by omega, h5⟩

theorem spec_IsKeymap_in (m : TKeymap) (i : Nat) (hi : i < m.2.1.length) (hl : m.2.1[i].length < 9223372036854775807) :
    spec_IsKeymap_7_loop (((), (i : Int), (0 : Int), ()), (m, ())) =
      some (cond (allK (fun _ a => okActB m.2.1.length i a) 0 m.2.1[i]) (.inl (((), (i : Int), ()), (m, ()))) (.inr ((false, ()), ()))) := by
  unfold spec_IsKeymap_7_loop
  refine loopF_all (step := _) m.2.1[i] (fun _ a => okActB m.2.1.length i a) (fun j => (((), (i : Int), j, ()), (m, ()))) _ _ ?_ ?_ hl
  · intro k hk
    simp only [spec_IsKeymap_7_R]
    rw [idx_lt hi]
    simp only [Option.bind_some]
    rw [dec_true (show (k : Int) < (m.2.1[i].length : Int) by omega), idx_lt hk]
    simp only [cond_true, Option.bind_some, okActB, spec_IsAction_ok]
    cases isActionB m.2.1[i][k] <;> cases ((i : Int) == 0) <;> cases (m.2.1[i][k].1 == 1) <;> cases (m.2.1[i][k].1 != 9) <;> cases decide (m.2.1[i][k].2.2.2.1 ≥ (m.2.1.length : Int)) <;> rfl
  · simp [spec_IsKeymap_7_R, idx_lt hi]

theorem spec_IsKeymap_ok (m : TKeymap) (hz : szT tKeymap m ≤ big20) : spec_IsKeymap m = some (isKeymapB m, ()) := by
  have h20 : big20 = 1048576 := rfl
  have hz' : m.2.1.length + (List.map (szT (.sl tAction)) m.2.1).sum ≤ big20 := by
    have : szT tKeymap m = szT (.sl (.sl tAction)) m.2.1 := by simp only [szT, Nat.add_zero, Nat.zero_add]
    rw [this] at hz; exact hz
  have hl : ∀ k (hk : k < m.2.1.length), m.2.1[k].length ≤ big20 := by
    intro k hk
    have := sum_map_le (f := szT (.sl tAction)) hk
    have h2 : m.2.1[k].length ≤ szT (.sl tAction) m.2.1[k] := Nat.le_add_right _ _
    omega
  have hloop : spec_IsKeymap_2_loop (((), (0 : Int), ()), (m, ())) =
      some (cond (allK (fun i l => okLayerB m.1 m.2.1.length i l) 0 m.2.1) (.inl (((), ()), (m, ()))) (.inr ((false, ()), ()))) := by
    unfold spec_IsKeymap_2_loop
    refine loopF_all (step := _) m.2.1 (fun i l => okLayerB m.1 m.2.1.length i l) (fun j => (((), j, ()), (m, ()))) _ _ ?_ ?_ (by omega)
    · intro k hk
      have := hl k hk
      simp only [spec_IsKeymap_2_R]
      rw [dec_true (show (k : Int) < (m.2.1.length : Int) by omega), idx_lt hk]
      simp only [cond_true, Option.bind_some, okLayerB]
      rw [spec_IsKeymap_in m k hk (by omega)]
      show (cond (!((m.2.1[k].length : Int) == m.1)) _ _) = _
      cases ((m.2.1[k].length : Int) == m.1) <;> cases allK (fun _ a => okActB m.2.1.length k a) 0 m.2.1[k] <;> rfl
    · simp [spec_IsKeymap_2_R]
  unfold spec_IsKeymap
  rw [hloop]
  simp only [Option.bind_some, elim_cond, cond_some, cond_unit, spec_l1In_ok]
  apply some_unit
  simp only [cond_iff, isKeymapB, Bool.and_eq_true, decide_eq_true_eq, Bool.false_eq_true, and_false, false_or, and_true, or_false]
  generalize allK (fun i l => okLayerB m.1 m.2.1.length i l) 0 m.2.1 = b
  constructor
  · rintro ⟨h1, h2, h3⟩; exact ⟨⟨by omega, by omega⟩, h1⟩
  · rintro ⟨⟨h1, h2⟩, h5⟩; exact ⟨h5, by omega, by omega⟩

/-! ### Fixed masks -/
theorem shl_one {n : Nat} (h : n ≤ 62) : ishl .i64 1 (n : Int) = ((2 ^ n : Nat) : Int) := by
  unfold ishl
  have h1 : min (Int.toNat (n : Int)) (IntKind.bits .i64) = n := by
    show min (Int.toNat (n : Int)) 64 = n
    rw [Int.toNat_natCast]; omega
  rw [h1, Int.one_mul]
  have h2 : (2 : Int) ^ n = ((2 ^ n : Nat) : Int) := by simp
  have h3 : 2 ^ n ≤ 2 ^ 62 := Nat.pow_le_pow_right (by omega) h
  rw [h2]
  clear h1 h2
  generalize 2 ^ n = z at h3
  rw [wrap64 (by omega) (by omega)]

theorem IsFixed_same (m : TKeymap) (f : Int) (_ : Rng tKeymap m) (_ : Rng int f) (hz : szT tKeymap m ≤ big20) :
    ∃ b, spec_IsFixed m f = some (b, ()) ∧ impl_IsFixed m f = some (b, ()) := by
  unfold spec_IsFixed impl_IsFixed
  rw [spec_IsKeymap_ok m hz, impl_IsKeymap_ok m hz]
  simp only [Option.bind_some, spec_l1In_ok]
  cases hk : isKeymapB m with
  | false => exact ⟨false, rfl, rfl⟩
  | true =>
    simp only [cond_true]
    have hn : 1 ≤ m.2.1.length ∧ m.2.1.length ≤ 4 := by
      simp only [isKeymapB, Bool.and_eq_true, decide_eq_true_eq] at hk
      exact hk.1.2
    rw [shl_one (by omega), dec_true (show (0 : Int) ≤ (m.2.1.length : Int) by omega)]
    have hp : 1 ≤ 2 ^ m.2.1.length ∧ 2 ^ m.2.1.length ≤ 16 := by
      obtain ⟨h1, h2⟩ := hn
      generalize m.2.1.length = n at *
      have : n = 1 ∨ n = 2 ∨ n = 3 ∨ n = 4 := by omega
      rcases this with rfl | rfl | rfl | rfl <;> decide
    rw [wrap64 (by omega) (by omega)]
    simp only [cond_true, cond_some, cond_unit, show ((2 : Int) == 0) = false from rfl, cond_false]
    refine ⟨_, rfl, ?_⟩
    apply some_unit
    simp only [cond_iff, decide_eq_true_eq, Bool.false_eq_true, and_false, or_false, beq_iff']
    omega
end KF

namespace KF
open Go
def isMatrixB (m : TMatrix) : Bool := decide (1 ≤ m.1 ∧ m.1 ≤ 4 ∧ 1 ≤ m.2.1 ∧ m.2.1 ≤ 6)
theorem impl_IsMatrix_ok (m : TMatrix) : impl_IsMatrix m = some (isMatrixB m, ()) := by
  unfold impl_IsMatrix isMatrixB
  simp only [cond_some, cond_unit]
  apply some_unit
  simp only [cond_iff, decide_eq_true_eq, Bool.false_eq_true, and_false, or_false]
theorem spec_IsMatrix_ok (m : TMatrix) : spec_IsMatrix m = some (isMatrixB m, ()) := by
  unfold spec_IsMatrix isMatrixB
  simp only [spec_l1In_ok, Option.bind_some, cond_some, cond_unit]
  apply some_unit
  simp only [cond_iff, decide_eq_true_eq, Bool.false_eq_true, and_false, or_false]
  omega
def keyCountI (m : TMatrix) : Int := cond (isMatrixB m) (m.1 * m.2.1) 0
theorem mul_bd {m : TMatrix} (h : isMatrixB m = true) : 1 ≤ m.1 * m.2.1 ∧ m.1 * m.2.1 ≤ 24 := by
  simp only [isMatrixB, decide_eq_true_eq] at h
  obtain ⟨r, c, d, u⟩ := m
  obtain ⟨h1, h2, h3, h4⟩ := h
  simp only at h1 h2 h3 h4 ⊢
  have : r = 1 ∨ r = 2 ∨ r = 3 ∨ r = 4 := by omega
  rcases this with rfl | rfl | rfl | rfl <;> omega
theorem impl_KeyCount_ok (m : TMatrix) : impl_KeyCount m = some (keyCountI m, ()) := by
  unfold impl_KeyCount keyCountI
  rw [impl_IsMatrix_ok]
  cases h : isMatrixB m with
  | false => rfl
  | true => simp only [Option.bind_some, Bool.not_true, cond_false, cond_true]; rw [wrap64 (by have := mul_bd h; omega) (by have := mul_bd h; omega)]
theorem spec_KeyCount_ok (m : TMatrix) : spec_KeyCount m = some (keyCountI m, ()) := by
  unfold spec_KeyCount keyCountI
  rw [spec_IsMatrix_ok]
  cases h : isMatrixB m with
  | false => rfl
  | true => simp only [Option.bind_some, Bool.not_true, cond_false, cond_true]; rw [wrap64 (by have := mul_bd h; omega) (by have := mul_bd h; omega)]
theorem HalfKeys_same (h : THalves) (_ : Rng tHalves h) (_ : szT tHalves h ≤ big20) : ∃ w, spec_HalfKeys h = some (w, ()) ∧ impl_HalfKeys h = some (w, ()) := by
  unfold spec_HalfKeys impl_HalfKeys
  rw [spec_KeyCount_ok, impl_KeyCount_ok]
  cases ((Int.tmod h.1.1.1 2) != 0) <;> exact ⟨_, rfl, rfl⟩
end KF

namespace KF
open Go
theorem law_HalfKeys (a0 : THalves) (hr0 : Rng tHalves a0) : laws_FnExactHalfKeys a0 = some (true, ()) := by
  have h20 : big20 = 1048576 := rfl
  have h40 : big40 = 1099511627776 := rfl
  unfold laws_FnExactHalfKeys
  have s0 := szHalves_ok a0 hr0 (1048576) (by omega)
  rw [show ((1048576 : Nat) : Int) = 1048576 from rfl] at s0
  rw [s0]
  simp only [Option.bind_some]
  by_cases z0 : szT tHalves a0 ≤ 1048576
  case neg => rw [szR_gt z0]; rfl
  rw [szR_le z0, dec_false (by omega)]
  simp only [cond_false]
  have hz0 : szT tHalves a0 ≤ big20 := by omega
  obtain ⟨w0, e1, e2⟩ := HalfKeys_same a0 hr0 hz0
  simp only [e1, e2, toHalves_ok a0 hz0, eqHalves_ok a0 (by omega), Option.bind_some, bne_self_eq_false', Bool.not_true, cond_false]
end KF
