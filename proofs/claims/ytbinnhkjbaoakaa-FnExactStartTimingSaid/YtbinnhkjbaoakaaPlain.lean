/- Laws on the plain functions: program and reference agree (conditions: as each lemma tells). -/
import Derived.Test.YtbinnhkjbaoakaaH
namespace KF
open Go
set_option linter.unusedSimpArgs false
set_option linter.unusedVariables false

def isCodeP (c : Int) : Prop := 1 ≤ c ∧ c ≤ 56
def isModsP (m : Int) : Prop := 1 ≤ m ∧ m ≤ 15
def isUpperP (n : Int) : Prop := 1 ≤ n ∧ n ≤ 3
/-- an action is valid -/
def IsActionP (k c m n : Int) : Prop :=
  ((k = 0 ∨ k = 1 ∨ k = 10) ∧ c = 0 ∧ m = 0 ∧ n = 0) ∨
  (k = 2 ∧ n = 0 ∧ (c = 0 ∨ 1 ≤ c ∧ c ≤ 56) ∧ (m = 0 ∨ 1 ≤ m ∧ m ≤ 15) ∧ (c ≠ 0 ∨ m ≠ 0)) ∨
  ((k = 3 ∨ k = 4) ∧ c = 0 ∧ m = 0 ∧ 1 ≤ n ∧ n ≤ 3) ∨
  ((k = 5 ∨ k = 9) ∧ c = 0 ∧ m = 0 ∧ 0 ≤ n ∧ n ≤ 3) ∨
  (k = 6 ∧ 1 ≤ c ∧ c ≤ 56 ∧ 1 ≤ m ∧ m ≤ 15 ∧ n = 0) ∨
  (k = 7 ∧ 1 ≤ c ∧ c ≤ 56 ∧ m = 0 ∧ 1 ≤ n ∧ n ≤ 3) ∨
  (k = 8 ∧ c = 0 ∧ 1 ≤ m ∧ m ≤ 15 ∧ n = 0)
noncomputable def isActionB (a : TAction) : Bool := open Classical in decide (IsActionP a.1 a.2.1 a.2.2.1 a.2.2.2.1)
theorem isActionB_iff (a : TAction) : isActionB a = true ↔ IsActionP a.1 a.2.1 a.2.2.1 a.2.2.2.1 := by simp [isActionB]

theorem impl_isCode_ok (c : Int) : impl_isCode c = some (decide (1 ≤ c ∧ c ≤ 56), ()) := by
  simp only [impl_isCode, cond_some, cond_unit]
  apply some_unit; simp only [cond_iff, decide_eq_true_eq, beq_iff', bne_iff', Bool.false_eq_true, and_false, false_and, or_false, false_or, and_true, true_and, not_true_eq_false, not_false_eq_true]; try omega
theorem impl_isMods_ok (c : Int) : impl_isMods c = some (decide (1 ≤ c ∧ c ≤ 15), ()) := by
  simp only [impl_isMods, cond_some, cond_unit]
  apply some_unit; simp only [cond_iff, decide_eq_true_eq, beq_iff', bne_iff', Bool.false_eq_true, and_false, false_and, or_false, false_or, and_true, true_and, not_true_eq_false, not_false_eq_true]; try omega
theorem impl_isUpper_ok (c : Int) : impl_isUpper c = some (decide (1 ≤ c ∧ c ≤ 3), ()) := by
  simp only [impl_isUpper, cond_some, cond_unit]
  apply some_unit; simp only [cond_iff, decide_eq_true_eq, beq_iff', bne_iff', Bool.false_eq_true, and_false, false_and, or_false, false_or, and_true, true_and, not_true_eq_false, not_false_eq_true]; try omega
theorem spec_l1In_ok (c a b : Int) : spec_l1In c a b = some (decide (a ≤ c ∧ c ≤ b), ()) := by
  simp only [spec_l1In, cond_some, cond_unit]
  apply some_unit; simp only [cond_iff, decide_eq_true_eq, beq_iff', bne_iff', Bool.false_eq_true, and_false, false_and, or_false, false_or, and_true, true_and, not_true_eq_false, not_false_eq_true]; try omega

theorem impl_IsAction_ok (a : TAction) : impl_IsAction a = some (isActionB a, ()) := by
  obtain ⟨k, c, m, n, u⟩ := a
  have key : ∀ k c m n : Int, impl_IsAction (k, c, m, n, u) = some (isActionB (k, c, m, n, u), ()) := by
    intro k c m n
    simp only [impl_IsAction, impl_isCode_ok, impl_isMods_ok, impl_isUpper_ok, spec_l1In_ok, Option.bind_some, cond_some, cond_unit]
    by_cases h0 : k = 0
    · subst h0; apply some_unit; rw [isActionB_iff]; simp [IsActionP, cond_iff]; try omega
    by_cases h1 : k = 1
    · subst h1; apply some_unit; rw [isActionB_iff]; simp [IsActionP, cond_iff]; try omega
    by_cases h2 : k = 2
    · subst h2; apply some_unit; rw [isActionB_iff]; simp [IsActionP, cond_iff]; intro hn; (repeat' split) <;> omega
    by_cases h3 : k = 3
    · subst h3; apply some_unit; rw [isActionB_iff]; simp [IsActionP, cond_iff]; try omega
    by_cases h4 : k = 4
    · subst h4; apply some_unit; rw [isActionB_iff]; simp [IsActionP, cond_iff]; try omega
    by_cases h5 : k = 5
    · subst h5; apply some_unit; rw [isActionB_iff]; simp [IsActionP, cond_iff]; try omega
    by_cases h6 : k = 6
    · subst h6; apply some_unit; rw [isActionB_iff]; simp [IsActionP, cond_iff]; try omega
    by_cases h7 : k = 7
    · subst h7; apply some_unit; rw [isActionB_iff]; simp [IsActionP, cond_iff]; try omega
    by_cases h8 : k = 8
    · subst h8; apply some_unit; rw [isActionB_iff]; simp [IsActionP, cond_iff]; try omega
    by_cases h9 : k = 9
    · subst h9; apply some_unit; rw [isActionB_iff]; simp [IsActionP, cond_iff]; try omega
    by_cases h10 : k = 10
    · subst h10; apply some_unit; rw [isActionB_iff]; simp [IsActionP, cond_iff]; try omega
    have g : ∀ j : Int, (k == j) = decide (k = j) := fun j => by rw [Bool.eq_iff_iff]; simp
    apply some_unit; rw [isActionB_iff]; simp [IsActionP, cond_iff, h0, h1, h2, h3, h4, h5, h6, h7, h8, h9, h10]
  exact key k c m n
theorem spec_IsAction_ok (a : TAction) : spec_IsAction a = some (isActionB a, ()) := by
  obtain ⟨k, c, m, n, u⟩ := a
  have key : ∀ k c m n : Int, spec_IsAction (k, c, m, n, u) = some (isActionB (k, c, m, n, u), ()) := by
    intro k c m n
    simp only [spec_IsAction, impl_isCode_ok, impl_isMods_ok, impl_isUpper_ok, spec_l1In_ok, Option.bind_some, cond_some, cond_unit]
    by_cases h0 : k = 0
    · subst h0; apply some_unit; rw [isActionB_iff]; simp [IsActionP, cond_iff]; try omega
    by_cases h1 : k = 1
    · subst h1; apply some_unit; rw [isActionB_iff]; simp [IsActionP, cond_iff]; try omega
    by_cases h2 : k = 2
    · subst h2; apply some_unit; rw [isActionB_iff]; simp [IsActionP, cond_iff]; intro hn; (repeat' split) <;> omega
    by_cases h3 : k = 3
    · subst h3; apply some_unit; rw [isActionB_iff]; simp [IsActionP, cond_iff]; try omega
    by_cases h4 : k = 4
    · subst h4; apply some_unit; rw [isActionB_iff]; simp [IsActionP, cond_iff]; try omega
    by_cases h5 : k = 5
    · subst h5; apply some_unit; rw [isActionB_iff]; simp [IsActionP, cond_iff]; try omega
    by_cases h6 : k = 6
    · subst h6; apply some_unit; rw [isActionB_iff]; simp [IsActionP, cond_iff]; try omega
    by_cases h7 : k = 7
    · subst h7; apply some_unit; rw [isActionB_iff]; simp [IsActionP, cond_iff]; try omega
    by_cases h8 : k = 8
    · subst h8; apply some_unit; rw [isActionB_iff]; simp [IsActionP, cond_iff]; try omega
    by_cases h9 : k = 9
    · subst h9; apply some_unit; rw [isActionB_iff]; simp [IsActionP, cond_iff]; try omega
    by_cases h10 : k = 10
    · subst h10; apply some_unit; rw [isActionB_iff]; simp [IsActionP, cond_iff]; try omega
    have g : ∀ j : Int, (k == j) = decide (k = j) := fun j => by rw [Bool.eq_iff_iff]; simp
    apply some_unit; rw [isActionB_iff]; simp [IsActionP, cond_iff, h0, h1, h2, h3, h4, h5, h6, h7, h8, h9, h10]
  exact key k c m n

/-! ### Keymaps -/
/-- what is asked of the action of a layer -/
noncomputable def okActB (nl : Nat) (i : Nat) (a : TAction) : Bool := isActionB a && !(((i : Int) == 0) && (a.1 == 1)) && !((a.1 != 9) && decide (a.2.2.2.1 ≥ (nl : Int)))
noncomputable def okLayerB (keys : Int) (nl : Nat) (i : Nat) (l : List TAction) : Bool := ((List.length l : Int) == keys) && allK (fun _ a => okActB nl i a) 0 l
noncomputable def isKeymapB (m : TKeymap) : Bool :=
  decide (1 ≤ m.1 ∧ m.1 ≤ 32) && decide (1 ≤ m.2.1.length ∧ m.2.1.length ≤ 4) && allK (fun i l => okLayerB m.1 m.2.1.length i l) 0 m.2.1

theorem impl_IsKeymap_in (m : TKeymap) (i : Nat) (l : List TAction) (L : List (List TAction)) (n : Int) (t : Int) (hl : l.length < 9223372036854775807) :
    impl_IsKeymap_9_loop (((), (i : Int), L, n, t, l, (l.length : Int), (0 : Int), ()), (m, ())) =
      some (cond (allK (fun _ a => okActB m.2.1.length i a) 0 l) (.inl (((), L, n, t, ()), (m, ()))) (.inr ((false, ()), ()))) := by
  unfold impl_IsKeymap_9_loop
  refine loopF_all (step := _) l (fun _ a => okActB m.2.1.length i a) (fun j => (((), (i : Int), L, n, t, l, (l.length : Int), j, ()), (m, ()))) _ _ ?_ ?_ hl
  · intro k hk
    simp only [impl_IsKeymap_9_R]
    rw [dec_true (show (k : Int) < (l.length : Int) by omega), idx_lt hk]
    simp only [cond_true, Option.bind_some, okActB, impl_IsAction_ok]
    cases isActionB l[k] <;> cases ((i : Int) == 0) <;> cases (l[k].1 == 1) <;> cases (l[k].1 != 9) <;> cases decide (l[k].2.2.2.1 ≥ (m.2.1.length : Int)) <;> rfl
  · simp [impl_IsKeymap_9_R]

theorem impl_IsKeymap_ok (m : TKeymap) (hz : szT tKeymap m ≤ big20) : impl_IsKeymap m = some (isKeymapB m, ()) := by
  have h20 : big20 = 1048576 := rfl
  have hz' : m.2.1.length + (List.map (szT (.sl tAction)) m.2.1).sum ≤ big20 := by
    have : szT tKeymap m = szT (.sl (.sl tAction)) m.2.1 := by simp only [szT, Nat.add_zero, Nat.zero_add]
    rw [this] at hz; exact hz
  have hl : ∀ k (hk : k < m.2.1.length), m.2.1[k].length ≤ big20 := by
    intro k hk
    have := sum_map_le (f := szT (.sl tAction)) hk
    have h2 : m.2.1[k].length ≤ szT (.sl tAction) m.2.1[k] := Nat.le_add_right _ _
    omega
  have hloop : impl_IsKeymap_4_loop (((), m.2.1, ((List.length m.2.1 : Nat) : Int), (0 : Int), ()), (m, ())) =
      some (cond (allK (fun i l => okLayerB m.1 m.2.1.length i l) 0 m.2.1) (.inl ((), ())) (.inr ((false, ()), ()))) := by
    unfold impl_IsKeymap_4_loop
    refine loopF_all (step := _) m.2.1 (fun i l => okLayerB m.1 m.2.1.length i l) (fun j => (((), m.2.1, ((List.length m.2.1 : Nat) : Int), j, ()), (m, ()))) _ _ ?_ ?_ (by omega)
    · intro k hk
      have := hl k hk
      simp only [impl_IsKeymap_4_R]
      rw [dec_true (show (k : Int) < (m.2.1.length : Int) by omega), idx_lt hk]
      simp only [cond_true, Option.bind_some, okLayerB]
      rw [impl_IsKeymap_in m k _ _ _ _ (by omega)]
      show (cond (!((m.2.1[k].length : Int) == m.1)) _ _) = _
      cases ((m.2.1[k].length : Int) == m.1) <;> cases allK (fun _ a => okActB m.2.1.length k a) 0 m.2.1[k] <;> rfl
    · simp [impl_IsKeymap_4_R]
  unfold impl_IsKeymap
  rw [hloop]
  simp only [Option.bind_some, elim_cond, cond_some, cond_unit]
  apply some_unit
  simp only [cond_iff, isKeymapB, Bool.and_eq_true, decide_eq_true_eq, Bool.false_eq_true, and_false, false_or, and_true, or_false]
  generalize allK (fun i l => okLayerB m.1 m.2.1.length i l) 0 m.2.1 = b
  constructor
  · rintro ⟨h1, h2, h3, h4, h5⟩; exact ⟨⟨by omega, by omega⟩, h5⟩
  · rintro ⟨⟨h1, h2⟩, h5⟩; exact ⟨by omega, by omega, by omega, by omega, h5⟩

theorem spec_IsKeymap_in (m : TKeymap) (i : Nat) (hi : i < m.2.1.length) (hl : m.2.1[i].length < 9223372036854775807) :
    spec_IsKeymap_7_loop (((), (i : Int), (0 : Int), ()), (m, ())) =
      some (cond (allK (fun _ a => okActB m.2.1.length i a) 0 m.2.1[i]) (.inl (((), (i : Int), ()), (m, ()))) (.inr ((false, ()), ()))) := by
  unfold spec_IsKeymap_7_loop
  refine loopF_all (step := _) m.2.1[i] (fun _ a => okActB m.2.1.length i a) (fun j => (((), (i : Int), j, ()), (m, ()))) _ _ ?_ ?_ hl
  · intro k hk
    simp only [spec_IsKeymap_7_R]
    rw [idx_lt hi]
    simp only [Option.bind_some]
    rw [dec_true (show (k : Int) < (m.2.1[i].length : Int) by omega), idx_lt hk]
    simp only [cond_true, Option.bind_some, okActB, spec_IsAction_ok]
    cases isActionB m.2.1[i][k] <;> cases ((i : Int) == 0) <;> cases (m.2.1[i][k].1 == 1) <;> cases (m.2.1[i][k].1 != 9) <;> cases decide (m.2.1[i][k].2.2.2.1 ≥ (m.2.1.length : Int)) <;> rfl
  · simp [spec_IsKeymap_7_R, idx_lt hi]

theorem spec_IsKeymap_ok (m : TKeymap) (hz : szT tKeymap m ≤ big20) : spec_IsKeymap m = some (isKeymapB m, ()) := by
  have h20 : big20 = 1048576 := rfl
  have hz' : m.2.1.length + (List.map (szT (.sl tAction)) m.2.1).sum ≤ big20 := by
    have : szT tKeymap m = szT (.sl (.sl tAction)) m.2.1 := by simp only [szT, Nat.add_zero, Nat.zero_add]
    rw [this] at hz; exact hz
  have hl : ∀ k (hk : k < m.2.1.length), m.2.1[k].length ≤ big20 := by
    intro k hk
    have := sum_map_le (f := szT (.sl tAction)) hk
    have h2 : m.2.1[k].length ≤ szT (.sl tAction) m.2.1[k] := Nat.le_add_right _ _
    omega
  have hloop : spec_IsKeymap_2_loop (((), (0 : Int), ()), (m, ())) =
      some (cond (allK (fun i l => okLayerB m.1 m.2.1.length i l) 0 m.2.1) (.inl (((), ()), (m, ()))) (.inr ((false, ()), ()))) := by
    unfold spec_IsKeymap_2_loop
    refine loopF_all (step := _) m.2.1 (fun i l => okLayerB m.1 m.2.1.length i l) (fun j => (((), j, ()), (m, ()))) _ _ ?_ ?_ (by omega)
    · intro k hk
      have := hl k hk
      simp only [spec_IsKeymap_2_R]
      rw [dec_true (show (k : Int) < (m.2.1.length : Int) by omega), idx_lt hk]
      simp only [cond_true, Option.bind_some, okLayerB]
      rw [spec_IsKeymap_in m k hk (by omega)]
      show (cond (!((m.2.1[k].length : Int) == m.1)) _ _) = _
      cases ((m.2.1[k].length : Int) == m.1) <;> cases allK (fun _ a => okActB m.2.1.length k a) 0 m.2.1[k] <;> rfl
    · simp [spec_IsKeymap_2_R]
  unfold spec_IsKeymap
  rw [hloop]
  simp only [Option.bind_some, elim_cond, cond_some, cond_unit, spec_l1In_ok]
  apply some_unit
  simp only [cond_iff, isKeymapB, Bool.and_eq_true, decide_eq_true_eq, Bool.false_eq_true, and_false, false_or, and_true, or_false]
  generalize allK (fun i l => okLayerB m.1 m.2.1.length i l) 0 m.2.1 = b
  constructor
  · rintro ⟨h1, h2, h3⟩; exact ⟨⟨by omega, by omega⟩, h1⟩
  · rintro ⟨⟨h1, h2⟩, h5⟩; exact ⟨h5, by omega, by omega⟩

/-! ### Fixed masks -/
theorem shl_one {n : Nat} (h : n ≤ 62) : ishl .i64 1 (n : Int) = ((2 ^ n : Nat) : Int) := by
  unfold ishl
  have h1 : min (Int.toNat (n : Int)) (IntKind.bits .i64) = n := by
    show min (Int.toNat (n : Int)) 64 = n
    rw [Int.toNat_natCast]; omega
  rw [h1, Int.one_mul]
  have h2 : (2 : Int) ^ n = ((2 ^ n : Nat) : Int) := by simp
  have h3 : 2 ^ n ≤ 2 ^ 62 := Nat.pow_le_pow_right (by omega) h
  rw [h2]
  clear h1 h2
  generalize 2 ^ n = z at h3
  rw [wrap64 (by omega) (by omega)]

theorem IsFixed_same (m : TKeymap) (f : Int) (_ : Rng tKeymap m) (_ : Rng int f) (hz : szT tKeymap m ≤ big20) :
    ∃ b, spec_IsFixed m f = some (b, ()) ∧ impl_IsFixed m f = some (b, ()) := by
  unfold spec_IsFixed impl_IsFixed
  rw [spec_IsKeymap_ok m hz, impl_IsKeymap_ok m hz]
  simp only [Option.bind_some, spec_l1In_ok]
  cases hk : isKeymapB m with
  | false => exact ⟨false, rfl, rfl⟩
  | true =>
    simp only [cond_true]
    have hn : 1 ≤ m.2.1.length ∧ m.2.1.length ≤ 4 := by
      simp only [isKeymapB, Bool.and_eq_true, decide_eq_true_eq] at hk
      exact hk.1.2
    rw [shl_one (by omega), dec_true (show (0 : Int) ≤ (m.2.1.length : Int) by omega)]
    have hp : 1 ≤ 2 ^ m.2.1.length ∧ 2 ^ m.2.1.length ≤ 16 := by
      obtain ⟨h1, h2⟩ := hn
      generalize m.2.1.length = n at *
      have : n = 1 ∨ n = 2 ∨ n = 3 ∨ n = 4 := by omega
      rcases this with rfl | rfl | rfl | rfl <;> decide
    rw [wrap64 (by omega) (by omega)]
    simp only [cond_true, cond_some, cond_unit, show ((2 : Int) == 0) = false from rfl, cond_false]
    refine ⟨_, rfl, ?_⟩
    apply some_unit
    simp only [cond_iff, decide_eq_true_eq, Bool.false_eq_true, and_false, or_false, beq_iff']
    omega
end KF

namespace KF
open Go

/-! ### Flash memories -/
def wordsB (p : List Int) : Bool := allK (fun _ w => decide (0 ≤ w ∧ w ≤ 65535)) 0 p
def pageB (p : List Int) (e : Int) : Bool := ((p.length : Int) == 19) && decide (0 ≤ e ∧ e ≤ 1000) && wordsB p
def isFlashB (f : TFlash) : Bool := match f.1, f.2.1 with
  | [p, q], [d, e] => pageB p d && pageB q e
  | _, _ => false

theorem impl_IsFlash_in (t : Int) (p : List Int) (f : TFlash) (hp : p.length < 9223372036854775807) :
    impl_IsFlash_9_loop (((), t, p, (p.length : Int), (0 : Int), ()), (f, ())) = some (cond (wordsB p) (.inl (((), t, ()), (f, ()))) (.inr ((false, ()), ()))) := by
  unfold impl_IsFlash_9_loop wordsB
  refine loopF_all (step := _) p (fun _ w => decide (0 ≤ w ∧ w ≤ 65535)) (fun j => (((), t, p, (p.length : Int), j, ()), (f, ()))) _ _ ?_ ?_ hp
  · intro k hk
    simp only [impl_IsFlash_9_R]
    rw [dec_true (show (k : Int) < (p.length : Int) by omega), idx_lt hk]
    simp only [cond_true, Option.bind_some]
    by_cases h1 : p[k] < 0
    · rw [dec_true h1, dec_false (show ¬ (0 ≤ p[k] ∧ p[k] ≤ 65535) by omega)]; rfl
    · rw [dec_false h1]
      by_cases h2 : p[k] > 65535
      · rw [dec_true h2, dec_false (show ¬ (0 ≤ p[k] ∧ p[k] ≤ 65535) by omega)]; rfl
      · rw [dec_false h2, dec_true (show (0 ≤ p[k] ∧ p[k] ≤ 65535) by omega)]; rfl
  · simp [impl_IsFlash_9_R]

theorem spec_IsFlash_in (i : Nat) (f : TFlash) (hi : i < f.1.length) (hp : f.1[i].length < 9223372036854775807) :
    spec_IsFlash_9_loop (((), (i : Int), (0 : Int), ()), (f, ())) = some (cond (wordsB f.1[i]) (.inl (((), (i : Int), ()), (f, ()))) (.inr ((false, ()), ()))) := by
  unfold spec_IsFlash_9_loop wordsB
  refine loopF_all (step := _) f.1[i] (fun _ w => decide (0 ≤ w ∧ w ≤ 65535)) (fun j => (((), (i : Int), j, ()), (f, ()))) _ _ ?_ ?_ hp
  · intro k hk
    simp only [spec_IsFlash_9_R]
    rw [idx_lt hi]
    simp only [Option.bind_some]
    rw [dec_true (show (k : Int) < (f.1[i].length : Int) by omega), idx_lt hk]
    simp only [cond_true, Option.bind_some, spec_l1In_ok]
    cases decide (0 ≤ f.1[i][k] ∧ f.1[i][k] ≤ 65535) <;> rfl
  · simp [spec_IsFlash_9_R, idx_lt hi]

theorem len2 {α : Type} {l : List α} (h : (l.length : Int) = 2) : ∃ a b, l = [a, b] := by
  match l, h with
  | [a, b], _ => exact ⟨a, b, rfl⟩
  | [], h => simp at h
  | [_], h => simp at h
  | _ :: _ :: _ :: _, h => simp at h; omega

theorem impl_IsFlash_ok (f : TFlash) (hz : szT tFlash f ≤ big20) : impl_IsFlash f = some (isFlashB f, ()) := by
  have h20 : big20 = 1048576 := rfl
  obtain ⟨P, E, u⟩ := f
  unfold impl_IsFlash
  by_cases h1 : (P.length : Int) = 2
  case neg =>
    have : ((P.length : Int) != 2) = true := by simpa using h1
    rw [this]
    unfold isFlashB
    split
    · rename_i h _; simp only at h; rw [h] at h1; simp at h1
    · rfl
  by_cases h2 : (E.length : Int) = 2
  case neg =>
    have h1' : ((P.length : Int) != 2) = false := by simpa using h1
    have h2' : ((E.length : Int) != 2) = true := by simpa using h2
    rw [h1', h2']
    unfold isFlashB
    split
    · rename_i h; simp only at h; rw [h] at h2; simp at h2
    · rfl
  obtain ⟨p, q, rfl⟩ := len2 h1
  obtain ⟨d, e, rfl⟩ := len2 h2
  have hzz : 2 + (p.length + (q.length + 0)) ≤ big20 := by
    have h3 : szT tFlash ([p, q], [d, e], u) = 2 + (szT (.sl int) p + (szT (.sl int) q + 0)) + (szT (.sl int) [d, e] + 0) := rfl
    rw [szT_flat (e := int) rfl p, szT_flat (e := int) rfl q] at h3
    omega
  have hl : impl_IsFlash_4_loop (((), (0 : Int), ()), (([p, q], [d, e], u), ())) = some (cond (allK (fun _ (x : List Int × Int) => pageB x.1 x.2) 0 [(p, d), (q, e)]) (.inl ((), ())) (.inr ((false, ()), ()))) := by
    unfold impl_IsFlash_4_loop
    refine loopF_all (step := _) [(p, d), (q, e)] (fun _ (x : List Int × Int) => pageB x.1 x.2) (fun j => (((), j, ()), (([p, q], [d, e], u), ()))) _ _ ?_ ?_ (by simp)
    · intro k hk
      have e1 : idx [p, q] (k : Int) = some ([(p, d), (q, e)][k]).1 := by
        match k, hk with
        | 0, _ => rfl
        | 1, _ => rfl
      have e2 : idx [d, e] (k : Int) = some ([(p, d), (q, e)][k]).2 := by
        match k, hk with
        | 0, _ => rfl
        | 1, _ => rfl
      have e3 : ([(p, d), (q, e)][k]).1.length < 9223372036854775807 := by
        match k, hk with
        | 0, _ => show p.length < _; omega
        | 1, _ => show q.length < _; omega
      have hk2 : k < 2 := hk
      simp only [impl_IsFlash_4_R]
      rw [dec_true (show (k : Int) < 2 by omega), e1, e2]
      generalize [(p, d), (q, e)][k] = x at e3
      obtain ⟨y, z⟩ := x
      simp only [Option.bind_some, cond_true, impl_IsFlash_in _ y _ e3, pageB]
      cases hy : ((y.length : Int) == 19) with
      | false => rw [show ((y.length : Int) != 19) = true by simpa using hy]; rfl
      | true =>
        rw [show ((y.length : Int) != 19) = false by simpa using hy]
        by_cases h1 : z < 0
        · rw [dec_true h1, dec_false (show ¬ (0 ≤ z ∧ z ≤ 1000) by omega)]; rfl
        · rw [dec_false h1]
          by_cases h2 : z > 1000
          · rw [dec_true h2, dec_false (show ¬ (0 ≤ z ∧ z ≤ 1000) by omega)]; rfl
          · rw [dec_false h2, dec_true (show (0 ≤ z ∧ z ≤ 1000) by omega)]
            cases wordsB y <;> rfl
    · rfl
  rw [hl]
  simp only [allK, isFlashB, Bool.and_true]
  cases pageB p d <;> cases pageB q e <;> rfl

theorem spec_IsFlash_ok (f : TFlash) (hz : szT tFlash f ≤ big20) : spec_IsFlash f = some (isFlashB f, ()) := by
  have h20 : big20 = 1048576 := rfl
  obtain ⟨P, E, u⟩ := f
  unfold spec_IsFlash
  by_cases h1 : (P.length : Int) = 2
  case neg =>
    have : ((P.length : Int) != 2) = true := by simpa using h1
    rw [this]
    unfold isFlashB
    split
    · rename_i h _; simp only at h; rw [h] at h1; simp at h1
    · rfl
  by_cases h2 : (E.length : Int) = 2
  case neg =>
    have h1' : ((P.length : Int) != 2) = false := by simpa using h1
    have h2' : ((E.length : Int) != 2) = true := by simpa using h2
    rw [h1', h2']
    unfold isFlashB
    split
    · rename_i h; simp only at h; rw [h] at h2; simp at h2
    · rfl
  obtain ⟨p, q, rfl⟩ := len2 h1
  obtain ⟨d, e, rfl⟩ := len2 h2
  have hzz : 2 + (p.length + (q.length + 0)) ≤ big20 := by
    have h3 : szT tFlash ([p, q], [d, e], u) = 2 + (szT (.sl int) p + (szT (.sl int) q + 0)) + (szT (.sl int) [d, e] + 0) := rfl
    rw [szT_flat (e := int) rfl p, szT_flat (e := int) rfl q] at h3
    omega
  have hl : spec_IsFlash_4_loop (((), (0 : Int), ()), (([p, q], [d, e], u), ())) = some (cond (allK (fun _ (x : List Int × Int) => pageB x.1 x.2) 0 [(p, d), (q, e)]) (.inl ((), ())) (.inr ((false, ()), ()))) := by
    unfold spec_IsFlash_4_loop
    refine loopF_all (step := _) [(p, d), (q, e)] (fun _ (x : List Int × Int) => pageB x.1 x.2) (fun j => (((), j, ()), (([p, q], [d, e], u), ()))) _ _ ?_ ?_ (by simp)
    · intro k hk
      have hk2 : k < 2 := hk
      have e1 : [p, q][k]'hk2 = ([(p, d), (q, e)][k]).1 := by
        match k, hk with
        | 0, _ => rfl
        | 1, _ => rfl
      have e2 : idx [d, e] (k : Int) = some ([(p, d), (q, e)][k]).2 := by
        match k, hk with
        | 0, _ => rfl
        | 1, _ => rfl
      have e3 : ([p, q][k]'hk2).length < 9223372036854775807 := by
        match k, hk with
        | 0, _ => show p.length < _; omega
        | 1, _ => show q.length < _; omega
      have hin := spec_IsFlash_in k ([p, q], [d, e], u) hk2 e3
      simp only [spec_IsFlash_4_R]
      rw [dec_true (show (k : Int) < 2 by omega), idx_lt (xs := [p, q]) hk2, e2]
      simp only [cond_true, Option.bind_some, spec_l1In_ok]
      rw [hin]
      simp only at e1 ⊢
      rw [e1]
      generalize [(p, d), (q, e)][k] = x
      obtain ⟨y, z⟩ := x
      simp only [Option.bind_some, pageB]
      cases hy : ((y.length : Int) == 19) with
      | false => rw [show ((y.length : Int) != 19) = true by simpa using hy]; rfl
      | true =>
        rw [show ((y.length : Int) != 19) = false by simpa using hy]
        cases decide (0 ≤ z ∧ z ≤ 1000) <;> cases wordsB y <;> rfl
    · rfl
  rw [hl]
  simp only [allK, isFlashB, Bool.and_true]
  cases pageB p d <;> cases pageB q e <;> rfl

/-- the page with the greatest header -/
def hdB (h : Int) : Bool := decide (1 ≤ h ∧ h ≤ 60000)
def activeI (h0 h1 : Int) : Int := cond (hdB h1) (cond (hdB h0) (cond (decide (h1 > h0)) 1 0) 1) (cond (hdB h0) 0 (-1))
def activeF (f : TFlash) : Int := cond (isFlashB f) (match f.1 with
  | [h0 :: _, h1 :: _] => activeI h0 h1
  | _ => -1) (-1)

theorem flash_parts {f : TFlash} (h : isFlashB f = true) : ∃ p q d e, f = ([p, q], [d, e], ()) ∧ p.length = 19 ∧ q.length = 19 ∧ wordsB p = true ∧ wordsB q = true := by
  obtain ⟨P, E, u⟩ := f
  unfold isFlashB at h
  split at h
  · rename_i p q d e h1 h2
    simp only at h1 h2
    subst h1; subst h2
    simp only [pageB, Bool.and_eq_true, beq_iff_eq] at h
    exact ⟨p, q, d, e, rfl, by omega, by omega, h.1.2, h.2.2⟩
  · simp at h
theorem cons_of_len {α : Type} {l : List α} {n : Nat} (h : l.length = n + 1) : ∃ a r, l = a :: r ∧ r.length = n := by
  cases l with
  | nil => simp at h
  | cons a r => exact ⟨a, r, rfl, by simpa using h⟩

theorem impl_ActivePage_ok (f : TFlash) (hz : szT tFlash f ≤ big20) : impl_ActivePage f = some (activeF f, ()) := by
  unfold impl_ActivePage activeF
  rw [impl_IsFlash_ok f hz]
  cases hf : isFlashB f with
  | false => rfl
  | true =>
    obtain ⟨p, q, d, e, rfl, hp, hq, _, _⟩ := flash_parts hf
    obtain ⟨h0, p, rfl, _⟩ := cons_of_len hp
    obtain ⟨h1, q, rfl, _⟩ := cons_of_len hq
    simp only [Option.bind_some, Bool.not_true, cond_false, cond_true]
    unfold impl_ActivePage_5_loop
    have hd : ∀ x : Int, hdB x = (decide (x ≥ 1) && decide (x ≤ 60000)) := by
      intro x; unfold hdB; rw [Bool.eq_iff_iff]; simp
    have w1 : IntKind.wrap .i64 ((0 : Int) + 1) = 1 := rfl
    have w2 : IntKind.wrap .i64 ((1 : Int) + 1) = 2 := rfl
    have i0 : ∀ (t : Int), impl_ActivePage_5_R () t [h0 :: p, h1 :: q] 2 0 ([h0 :: p, h1 :: q], [d, e], ()) = some (.inl (((), cond (hdB h0) 0 t, [h0 :: p, h1 :: q], 2, 1, ()), (([h0 :: p, h1 :: q], [d, e], ()), ()))) ∨ 0 ≤ t := by
      intro t
      by_cases ht : t < 0
      · left
        simp only [impl_ActivePage_5_R, show idx [h0 :: p, h1 :: q] (0 : Int) = some (h0 :: p) from rfl, idx_zero, Option.bind_some, hd, w1, dec_true ht, show decide ((0 : Int) < 2) = true from rfl]
        cases decide (h0 ≥ 1) <;> cases decide (h0 ≤ 60000) <;> rfl
      · exact .inr (by omega)
    have i1 : ∀ (t : Int), t = 0 ∨ t = -1 → impl_ActivePage_5_R () t [h0 :: p, h1 :: q] 2 1 ([h0 :: p, h1 :: q], [d, e], ()) = some (.inl (((), cond (hdB h1) (cond (decide (t < 0)) 1 (cond (decide (h1 > h0)) 1 t)) t, [h0 :: p, h1 :: q], 2, 2, ()), (([h0 :: p, h1 :: q], [d, e], ()), ()))) := by
      intro t ht
      rcases ht with rfl | rfl
      · simp only [impl_ActivePage_5_R, show idx [h0 :: p, h1 :: q] (1 : Int) = some (h1 :: q) from rfl, show idx [h0 :: p, h1 :: q] (0 : Int) = some (h0 :: p) from rfl, idx_zero, Option.bind_some, hd, w2, show decide ((1 : Int) < 2) = true from rfl, show decide ((0 : Int) < 0) = false from rfl]
        cases decide (h1 ≥ 1) <;> cases decide (h1 ≤ 60000) <;> cases decide (h1 > h0) <;> rfl
      · simp only [impl_ActivePage_5_R, show idx [h0 :: p, h1 :: q] (1 : Int) = some (h1 :: q) from rfl, idx_zero, Option.bind_some, hd, w2, show decide ((1 : Int) < 2) = true from rfl, show decide ((-1 : Int) < 0) = true from rfl]
        cases decide (h1 ≥ 1) <;> cases decide (h1 ≤ 60000) <;> rfl
    rw [loopF_step]
    show Option.bind (Option.bind (impl_ActivePage_5_R () (-1) [h0 :: p, h1 :: q] 2 0 ([h0 :: p, h1 :: q], [d, e], ())) _) _ = _
    rw [(i0 (-1)).resolve_right (by omega)]
    simp only [Option.bind_some, Sum.elim_inl]
    rw [loopF_step]
    show Option.bind (Option.bind (impl_ActivePage_5_R () (cond (hdB h0) 0 (-1)) [h0 :: p, h1 :: q] 2 1 ([h0 :: p, h1 :: q], [d, e], ())) _) _ = _
    rw [i1 _ (by cases hdB h0 <;> simp)]
    simp only [Option.bind_some, Sum.elim_inl]
    rw [loopF_step]
    cases h0B : hdB h0 <;> cases h1B : hdB h1 <;> simp only [cond_true, cond_false, activeI, h0B, h1B] <;> rfl

theorem spec_ActivePage_ok (f : TFlash) (hz : szT tFlash f ≤ big20) : spec_ActivePage f = some (activeF f, ()) := by
  unfold spec_ActivePage activeF
  cases hf : isFlashB f with
  | false =>
    unfold spec_ActivePage_3_loop
    rw [loopF_step]
    simp only [spec_ActivePage_3_R, spec_IsFlash_ok f hz, hf]
    rfl
  | true =>
    have hfl := spec_IsFlash_ok f hz
    rw [hf] at hfl
    obtain ⟨p, q, d, e, rfl, hp, hq, _, _⟩ := flash_parts hf
    obtain ⟨h0, p, rfl, _⟩ := cons_of_len hp
    obtain ⟨h1, q, rfl, _⟩ := cons_of_len hq
    unfold spec_ActivePage_3_loop
    have w1 : IntKind.wrap .i64 ((0 : Int) + 1) = 1 := rfl
    have w2 : IntKind.wrap .i64 ((1 : Int) + 1) = 2 := rfl
    have i0 : spec_ActivePage_3_R () (-1) 0 ([h0 :: p, h1 :: q], [d, e], ()) = some (.inl (((), cond (hdB h0) 0 (-1), 1, ()), (([h0 :: p, h1 :: q], [d, e], ()), ()))) := by
      simp only [spec_ActivePage_3_R, hfl, show idx [h0 :: p, h1 :: q] (0 : Int) = some (h0 :: p) from rfl, idx_zero, Option.bind_some, w1, spec_l1In_ok, show decide ((0 : Int) < 2) = true from rfl, show decide ((-1 : Int) < 0) = true from rfl, hdB]
      cases decide (1 ≤ h0 ∧ h0 ≤ 60000) <;> rfl
    have i1 : ∀ (t : Int), t = 0 ∨ t = -1 → spec_ActivePage_3_R () t 1 ([h0 :: p, h1 :: q], [d, e], ()) = some (.inl (((), cond (hdB h1) (cond (decide (t < 0)) 1 (cond (decide (h1 > h0)) 1 t)) t, 2, ()), (([h0 :: p, h1 :: q], [d, e], ()), ()))) := by
      intro t ht
      rcases ht with rfl | rfl
      · simp only [spec_ActivePage_3_R, hfl, show idx [h0 :: p, h1 :: q] (1 : Int) = some (h1 :: q) from rfl, show idx [h0 :: p, h1 :: q] (0 : Int) = some (h0 :: p) from rfl, idx_zero, Option.bind_some, w2, spec_l1In_ok, show decide ((1 : Int) < 2) = true from rfl, show decide ((0 : Int) < 0) = false from rfl, hdB]
        cases decide (1 ≤ h1 ∧ h1 ≤ 60000) <;> cases decide (h1 > h0) <;> rfl
      · simp only [spec_ActivePage_3_R, hfl, show idx [h0 :: p, h1 :: q] (1 : Int) = some (h1 :: q) from rfl, idx_zero, Option.bind_some, w2, spec_l1In_ok, show decide ((1 : Int) < 2) = true from rfl, show decide ((-1 : Int) < 0) = true from rfl, hdB]
        cases decide (1 ≤ h1 ∧ h1 ≤ 60000) <;> rfl
    rw [loopF_step]
    show Option.bind (Option.bind (spec_ActivePage_3_R () (-1) 0 ([h0 :: p, h1 :: q], [d, e], ())) _) _ = _
    rw [i0]
    simp only [Option.bind_some, Sum.elim_inl]
    rw [loopF_step]
    show Option.bind (Option.bind (spec_ActivePage_3_R () (cond (hdB h0) 0 (-1)) 1 ([h0 :: p, h1 :: q], [d, e], ())) _) _ = _
    rw [i1 _ (by cases hdB h0 <;> simp)]
    simp only [Option.bind_some, Sum.elim_inl]
    rw [loopF_step]
    cases h0B : hdB h0 <;> cases h1B : hdB h1 <;> simp only [cond_true, cond_false, activeI, h0B, h1B] <;> rfl

/-! ### Records -/
def isSettingB (s v : Int) : Bool := decide (0 ≤ s ∧ s ≤ 3 ∧ 0 ≤ v ∧ v ≤ 9999)
def checkI (s v h : Int) : Int := cond (isSettingB s v && hdB h) ((7 * s + 13 * v + 31 * h + 5).tmod 60000) 65535
theorem impl_isSetting_ok (s v : Int) : impl_isSetting s v = some (isSettingB s v, ()) := by
  unfold impl_isSetting isSettingB
  simp only [cond_some, cond_unit]
  apply some_unit
  simp only [cond_iff, decide_eq_true_eq, Bool.false_eq_true, and_false, or_false]
  omega
theorem check_wrap {s v h : Int} (hs : isSettingB s v = true) (hh : hdB h = true) :
    IntKind.wrap .i64 (IntKind.wrap .i64 (IntKind.wrap .i64 (IntKind.wrap .i64 (7 * s) + IntKind.wrap .i64 (13 * v)) + IntKind.wrap .i64 (31 * h)) + 5) = 7 * s + 13 * v + 31 * h + 5 := by
  simp only [isSettingB, hdB, decide_eq_true_eq] at hs hh
  rw [wrap64 (n := 7 * s) (by omega) (by omega), wrap64 (n := 13 * v) (by omega) (by omega), wrap64 (n := 31 * h) (by omega) (by omega), wrap64 (n := 7 * s + 13 * v) (by omega) (by omega),
    wrap64 (n := 7 * s + 13 * v + 31 * h) (by omega) (by omega), wrap64 (by omega) (by omega)]
theorem impl_CheckOf_ok (s v h : Int) : impl_CheckOf s v h = some (checkI s v h, ()) := by
  unfold impl_CheckOf checkI
  rw [impl_isSetting_ok]
  cases hs : isSettingB s v with
  | false => rfl
  | true =>
    simp only [Option.bind_some, Bool.not_true, cond_false, Bool.true_and]
    by_cases h1 : h < 1
    · rw [dec_true h1, show hdB h = false by simp [hdB]; omega]; rfl
    · rw [dec_false h1]
      by_cases h2 : h > 60000
      · rw [dec_true h2, show hdB h = false by simp [hdB]; omega]; rfl
      · have hh : hdB h = true := by simp [hdB]; omega
        rw [dec_false h2, hh, check_wrap hs hh]; rfl
theorem spec_CheckOf_ok (s v h : Int) : spec_CheckOf s v h = some (checkI s v h, ()) := by
  unfold spec_CheckOf checkI
  simp only [spec_l1In_ok, Option.bind_some]
  by_cases h1 : 0 ≤ s ∧ s ≤ 3
  case neg => rw [dec_false h1, show isSettingB s v = false by simp [isSettingB]; omega]; rfl
  by_cases h2 : 0 ≤ v ∧ v ≤ 9999
  case neg => rw [dec_true h1, dec_false h2, show isSettingB s v = false by simp [isSettingB]; omega]; rfl
  have hs : isSettingB s v = true := by simp [isSettingB]; omega
  rw [dec_true h1, dec_true h2, hs]
  simp only [Bool.not_true, cond_false, Bool.true_and]
  cases hh : hdB h with
  | false => rw [show decide (1 ≤ h ∧ h ≤ 60000) = false from hh]; rfl
  | true => rw [show decide (1 ≤ h ∧ h ≤ 60000) = true from hh, check_wrap hs hh]; rfl

def wd (w : List Int) (n : Nat) : Int := w.getD n 0
theorem idx_wd {w : List Int} {n : Nat} (h : n < w.length) : idx w (n : Int) = some (wd w n) := by
  rw [idx_lt h]; simp [wd, List.getD_eq_getElem?_getD, h]
theorem idx_wd' {w : List Int} {i : Int} {n : Nat} (hi : i = (n : Int)) (h : n < w.length) : idx w i = some (wd w n) := by rw [hi, idx_wd h]
def matchB (s : Int) (w : List Int) (i : Nat) : Bool :=
  isSettingB (wd w (1 + 3 * i)) (wd w (2 + 3 * i)) && (wd w (1 + 3 * i) == s) && (wd w (3 + 3 * i) == checkI (wd w (1 + 3 * i)) (wd w (2 + 3 * i)) (wd w 0))
def readDown (s : Int) (w : List Int) : Nat → Option Int
  | 0 => none
  | n + 1 => cond (matchB s w n) (some (wd w (2 + 3 * n))) (readDown s w n)
def readF (f : TFlash) (s : Int) : Option Int := cond (decide (activeF f < 0)) none (readDown s ((f.1.getD (activeF f).toNat [])) 6)
def optI (o : Option Int) : Int × Bool := match o with
  | some v => (v, true)
  | none => (0, false)

theorem rec_wrap {i : Nat} (h : i < 6) : IntKind.wrap .i64 (1 + IntKind.wrap .i64 (3 * (i : Int))) = ((1 + 3 * i : Nat) : Int) := by
  rw [wrap64 (n := 3 * (i : Int)) (by omega) (by omega), wrap64 (by omega) (by omega)]; omega
theorem rec_wrap4 {i : Nat} (h : i < 6) : IntKind.wrap .i64 (4 + IntKind.wrap .i64 (3 * (i : Int))) = ((4 + 3 * i : Nat) : Int) := by
  rw [wrap64 (n := 3 * (i : Int)) (by omega) (by omega), wrap64 (by omega) (by omega)]; omega

theorem impl_read_step {s : Int} {w : List Int} (hw : w.length = 19) {i : Nat} (hi : i < 6) :
    impl_ReadSetting_6_R s w (i : Int) = some (cond (matchB s w i) (.inr (.inr ((wd w (2 + 3 * i), true, ()), ()))) (.inl ((s, w, (i : Int) - 1, ()), ()))) := by
  simp only [impl_ReadSetting_6_R, rec_wrap hi, rec_wrap4 hi, Int.toNat_natCast]
  have c0 : idx (cutl w (1 + 3 * i) (4 + 3 * i)) (0 : Int) = some (wd w (1 + 3 * i)) := by
    have := idx_cutl (w := w) (lo := 1 + 3 * i) (hi := 4 + 3 * i) (j := 0) (by omega) (by omega)
    rw [show ((0 : Nat) : Int) = 0 from rfl] at this
    rw [this]; simp [wd, List.getD_eq_getElem?_getD, show 1 + 3 * i < w.length by omega]
  have c1 : idx (cutl w (1 + 3 * i) (4 + 3 * i)) (1 : Int) = some (wd w (2 + 3 * i)) := by
    have := idx_cutl (w := w) (lo := 1 + 3 * i) (hi := 4 + 3 * i) (j := 1) (by omega) (by omega)
    rw [show ((1 : Nat) : Int) = 1 from rfl] at this
    rw [this]; simp [wd, List.getD_eq_getElem?_getD, show 2 + 3 * i < w.length by omega, show 1 + 3 * i + 1 = 2 + 3 * i by omega]
  have c2 : idx (cutl w (1 + 3 * i) (4 + 3 * i)) (2 : Int) = some (wd w (3 + 3 * i)) := by
    have := idx_cutl (w := w) (lo := 1 + 3 * i) (hi := 4 + 3 * i) (j := 2) (by omega) (by omega)
    rw [show ((2 : Nat) : Int) = 2 from rfl] at this
    rw [this]; simp [wd, List.getD_eq_getElem?_getD, show 3 + 3 * i < w.length by omega, show 1 + 3 * i + 2 = 3 + 3 * i by omega]
  have c3 : idx w (0 : Int) = some (wd w 0) := idx_wd' (n := 0) rfl (by omega)
  rw [dec_true (show (i : Int) ≥ 0 by omega), cutOk_nat (by omega) (by omega), c0, c1, c2, c3]
  simp only [Option.bind_some, cond_true, impl_isSetting_ok, impl_CheckOf_ok, matchB]
  rw [wrap64 (n := (i : Int) - 1) (by omega) (by omega)]
  cases isSettingB (wd w (1 + 3 * i)) (wd w (2 + 3 * i)) <;> cases (wd w (1 + 3 * i) == s) <;> cases (wd w (3 + 3 * i) == checkI (wd w (1 + 3 * i)) (wd w (2 + 3 * i)) (wd w 0)) <;> rfl

theorem impl_read_loop {s : Int} {w : List Int} (hw : w.length = 19) : ∀ n : Nat, n ≤ 6 → impl_ReadSetting_6_loop ((s, w, (n : Int) - 1, ()), ()) =
    some (match readDown s w n with | some v => .inr ((v, true, ()), ()) | none => .inl ((), ()))
  | 0, _ => by
    unfold impl_ReadSetting_6_loop
    rw [loopF_step]
    simp only [impl_ReadSetting_6_R]
    rfl
  | n + 1, h => by
    unfold impl_ReadSetting_6_loop
    rw [loopF_step]
    simp only
    rw [show (((n + 1 : Nat) : Int) - 1) = (n : Int) by omega, impl_read_step hw (by omega)]
    have ih := impl_read_loop (s := s) hw n (by omega)
    unfold impl_ReadSetting_6_loop at ih
    simp only [readDown]
    cases matchB s w n with
    | true => rfl
    | false => simp only [cond_false, Option.bind_some, Sum.elim_inl]; exact ih

theorem active_page {f : TFlash} (h : ¬ activeF f < 0) : ∃ w, idx f.1 (activeF f) = some w ∧ f.1.getD (activeF f).toNat [] = w ∧ w.length = 19 ∧ hdB (wd w 0) = true ∧ isFlashB f = true := by
  unfold activeF at h ⊢
  cases hf : isFlashB f with
  | false => rw [hf] at h; simp at h
  | true =>
    rw [hf] at h
    obtain ⟨p, q, d, e, rfl, hp, hq, _, _⟩ := flash_parts hf
    obtain ⟨h0, p, rfl, hp'⟩ := cons_of_len hp
    obtain ⟨h1, q, rfl, hq'⟩ := cons_of_len hq
    simp only [cond_true] at h ⊢
    cases h0B : hdB h0 <;> cases h1B : hdB h1 <;> simp only [activeI, h0B, h1B, cond_true, cond_false] at h ⊢
    · simp at h
    · exact ⟨h1 :: q, rfl, rfl, hq, h1B, trivial⟩
    · exact ⟨h0 :: p, rfl, rfl, hp, h0B, trivial⟩
    · cases decide (h1 > h0)
      · exact ⟨h0 :: p, rfl, rfl, hp, h0B, trivial⟩
      · exact ⟨h1 :: q, rfl, rfl, hq, h1B, trivial⟩

theorem impl_ReadSetting_ok (f : TFlash) (s : Int) (hz : szT tFlash f ≤ big20) : impl_ReadSetting f s = some ((optI (readF f s)).1, (optI (readF f s)).2, ()) := by
  unfold impl_ReadSetting readF
  rw [impl_ActivePage_ok f hz]
  simp only [Option.bind_some]
  by_cases ha : activeF f < 0
  · rw [dec_true ha]; rfl
  · rw [dec_false ha]
    obtain ⟨w, h1, h2, h3, _⟩ := active_page ha
    rw [h1, h2]
    have hl := impl_read_loop (s := s) h3 6 (by omega)
    rw [show (((6 : Nat) : Int) - 1) = 5 from rfl] at hl
    simp only [cond_false, Option.bind_some, hl]
    cases readDown s w 6 <;> rfl

theorem check_bd {s v h : Int} : (checkI s v h != 65535) = (isSettingB s v && hdB h) := by
  unfold checkI
  cases hs : isSettingB s v with
  | false => rfl
  | true =>
    cases hh : hdB h with
    | false => rfl
    | true =>
      simp only [isSettingB, hdB, decide_eq_true_eq] at hs hh
      simp only [Bool.true_and, cond_true, bne_iff_ne, ne_eq]
      have h0 : 0 ≤ 7 * s + 13 * v + 31 * h + 5 := by omega
      rw [Int.tmod_eq_emod_of_nonneg h0]
      omega

theorem spec_read_step {s : Int} {f : TFlash} {a : Int} {w : List Int} (hidx : idx f.1 a = some w) (hw : w.length = 19) (hh : hdB (wd w 0) = true) {i : Nat} (hi : i < 6) (v : Int) (b : Bool) :
    spec_ReadSetting_7_R s () a v b (i : Int) f = some (.inl ((s, (), a, cond (matchB s w i) (wd w (2 + 3 * i)) v, cond (matchB s w i) true b, ((i + 1 : Nat) : Int), ()), (f, ()))) := by
  have e1 : IntKind.wrap .i64 (((1 + 3 * i : Nat) : Int) + 1) = ((2 + 3 * i : Nat) : Int) := by rw [wrap64 (by omega) (by omega)]; omega
  have e2 : IntKind.wrap .i64 (((1 + 3 * i : Nat) : Int) + 2) = ((3 + 3 * i : Nat) : Int) := by rw [wrap64 (by omega) (by omega)]; omega
  have c3 : idx w (0 : Int) = some (wd w 0) := idx_wd' (n := 0) rfl (by omega)
  simp only [spec_ReadSetting_7_R, rec_wrap hi, e1, e2, hidx, Option.bind_some]
  rw [dec_true (show (i : Int) < 6 by omega), idx_wd (show 1 + 3 * i < w.length by omega), idx_wd (show 2 + 3 * i < w.length by omega), idx_wd (show 3 + 3 * i < w.length by omega), c3, wrap_succ (by omega)]
  simp only [Option.bind_some, cond_true, spec_CheckOf_ok, matchB, check_bd, hh, Bool.and_true]
  cases hq : (wd w (1 + 3 * i) == s) with
  | false =>
    simp only [Bool.and_false, Bool.false_and, cond_false]
  | true =>
    have hq' : wd w (1 + 3 * i) = s := by simpa using hq
    rw [hq']
    simp only [Bool.and_true, cond_true]
    cases isSettingB s (wd w (2 + 3 * i)) <;> cases (wd w (3 + 3 * i) == checkI s (wd w (2 + 3 * i)) (wd w 0)) <;> rfl

theorem spec_read_loop {s : Int} {f : TFlash} {a : Int} {w : List Int} (hidx : idx f.1 a = some w) (hw : w.length = 19) (hh : hdB (wd w 0) = true) :
    spec_ReadSetting_7_loop ((s, (), a, 0, false, 0, ()), (f, ())) = some (.inl (((optI (readDown s w 6)).1, (optI (readDown s w 6)).2, ()), ())) := by
  unfold spec_ReadSetting_7_loop
  have := loopF_run (step := fun x : ((Int × (Unit × (Int × (Int × (Bool × (Int × Unit)))))) × (TFlash × Unit)) => spec_ReadSetting_7_R x.1.1 x.1.2.1 x.1.2.2.1 x.1.2.2.2.1 x.1.2.2.2.2.1 x.1.2.2.2.2.2.1 x.2.1)
    (fun k => ((s, (), a, (optI (readDown s w k)).1, (optI (readDown s w k)).2, (k : Int), ()), (f, ()))) 6 (.inl (((optI (readDown s w 6)).1, (optI (readDown s w 6)).2, ()), ())) (by
      intro k hk
      simp only [spec_read_step hidx hw hh hk, readDown]
      cases matchB s w k <;> rfl) (by
      simp only [spec_ReadSetting_7_R]
      rfl)
  exact this

theorem spec_ReadSetting_ok (f : TFlash) (s : Int) (hz : szT tFlash f ≤ big20) : spec_ReadSetting f s = some ((optI (readF f s)).1, (optI (readF f s)).2, ()) := by
  unfold spec_ReadSetting readF
  rw [spec_ActivePage_ok f hz]
  simp only [Option.bind_some, spec_l1In_ok]
  by_cases ha : activeF f < 0
  · rw [dec_true ha]; rfl
  · rw [dec_false ha]
    obtain ⟨w, h1, h2, h3, h4, _⟩ := active_page ha
    rw [h2]
    by_cases hs : 0 ≤ s ∧ s ≤ 3
    · rw [dec_true hs]
      simp only [cond_false, Bool.not_true, spec_read_loop h1 h3 h4, Option.bind_some]
      rfl
    · rw [dec_false hs]
      have : ∀ n, readDown s w n = none := by
        intro n
        induction n with
        | zero => rfl
        | succ n ih =>
          simp only [readDown, ih]
          have : matchB s w n = false := by
            unfold matchB
            cases hq : (wd w (1 + 3 * n) == s) with
            | false => simp
            | true =>
              have hq' : wd w (1 + 3 * n) = s := by simpa using hq
              rw [hq', show isSettingB s (wd w (2 + 3 * n)) = false by simp [isSettingB]; omega]
              rfl
          rw [this]; rfl
      rw [this]; rfl

theorem readDown_bd {s : Int} {w : List Int} : ∀ {n : Nat} {v : Int}, readDown s w n = some v → 0 ≤ v ∧ v ≤ 9999
  | 0, v, h => by simp [readDown] at h
  | n + 1, v, h => by
    simp only [readDown] at h
    cases hm : matchB s w n with
    | true =>
      rw [hm] at h
      simp only [cond_true, Option.some.injEq] at h
      subst h
      simp only [matchB, Bool.and_eq_true, isSettingB, decide_eq_true_eq] at hm
      omega
    | false =>
      rw [hm] at h
      exact readDown_bd h
theorem readF_bd {f : TFlash} {s v : Int} (h : readF f s = some v) : 0 ≤ v ∧ v ≤ 9999 := by
  unfold readF at h
  cases hd : decide (activeF f < 0) with
  | true => rw [hd] at h; simp at h
  | false => rw [hd] at h; exact readDown_bd h

def partI (o : Option Int) (lo hi d : Int) : Int := match o with
  | some v => cond (decide (lo ≤ v ∧ v ≤ hi)) v d
  | none => d
theorem spec_l23Part_ok (f : TFlash) (s lo hi d : Int) (hz : szT tFlash f ≤ big20) : spec_l23Part f s lo hi d = some (partI (readF f s) lo hi d, ()) := by
  unfold spec_l23Part
  simp only [spec_ReadSetting_ok f _ hz, Option.bind_some, spec_l1In_ok]
  cases readF f s with
  | none => rfl
  | some v =>
    by_cases h : lo ≤ v ∧ v ≤ hi
    · simp [optI, partI, h]
    · simp [optI, partI, h]
def startT (f : TFlash) : TTiming := (partI (readF f 0) 1 1000 200, partI (readF f 1) 0 1000 100, partI (readF f 2) 0 2 0, ())
theorem spec_StartTiming_ok (f : TFlash) (hz : szT tFlash f ≤ big20) : spec_StartTiming f = some (startT f, ()) := by
  unfold spec_StartTiming startT
  simp only [spec_l23Part_ok f _ _ _ _ hz, Option.bind_some]
theorem impl_StartTiming_ok (f : TFlash) (hz : szT tFlash f ≤ big20) : impl_StartTiming f = some (startT f, ()) := by
  unfold startT
  have b1 : ∀ v, readF f 1 = some v → 0 ≤ v := fun v h => (readF_bd h).1
  have b2 : ∀ v, readF f 2 = some v → 0 ≤ v := fun v h => (readF_bd h).1
  have key : ∀ (v0 v1 v2 : Int) (b0 b1 b2 : Bool), (b1 = true → 0 ≤ v1) → (b2 = true → 0 ≤ v2) → impl_ReadSetting f 0 = some (v0, b0, ()) → impl_ReadSetting f 1 = some (v1, b1, ()) → impl_ReadSetting f 2 = some (v2, b2, ()) →
      impl_StartTiming f = some ((cond (b0 && decide (1 ≤ v0 ∧ v0 ≤ 1000)) v0 200, cond (b1 && decide (0 ≤ v1 ∧ v1 ≤ 1000)) v1 100, cond (b2 && decide (0 ≤ v2 ∧ v2 ≤ 2)) v2 0, ()), ()) := by
    intro v0 v1 v2 b0 b1 b2 h1 h2 e0 e1 e2
    unfold impl_StartTiming
    rw [e0]
    simp only [Option.bind_some]
    have q0 : decide (1 ≤ v0 ∧ v0 ≤ 1000) = (decide (v0 ≥ 1) && decide (v0 ≤ 1000)) := by rw [Bool.eq_iff_iff]; simp
    rw [q0, e1]
    simp only [Option.bind_some]
    rw [e2]
    simp only [Option.bind_some]
    have q1 : (b1 && decide (0 ≤ v1 ∧ v1 ≤ 1000)) = (b1 && decide (v1 ≤ 1000)) := by
      cases b1 with
      | false => rfl
      | true => rw [Bool.eq_iff_iff]; simp; intro _; exact h1 rfl
    have q2 : (b2 && decide (0 ≤ v2 ∧ v2 ≤ 2)) = (b2 && decide (v2 ≤ 2)) := by
      cases b2 with
      | false => rfl
      | true => rw [Bool.eq_iff_iff]; simp; intro _; exact h2 rfl
    rw [q1, q2]
    by_cases c1 : v0 ≥ 1 <;> by_cases c2 : v0 ≤ 1000 <;> by_cases c3 : v1 ≤ 1000 <;> by_cases c4 : v2 ≤ 2 <;> simp only [c1, c2, c3, c4, decide_true, decide_false] <;> cases b0 <;> cases b1 <;> cases b2 <;> rfl
  have hk := key (optI (readF f 0)).1 (optI (readF f 1)).1 (optI (readF f 2)).1 (optI (readF f 0)).2 (optI (readF f 1)).2 (optI (readF f 2)).2
    (by intro h; cases ho : readF f 1 with | none => rw [ho] at h; simp [optI] at h | some v => exact b1 v ho)
    (by intro h; cases ho : readF f 2 with | none => rw [ho] at h; simp [optI] at h | some v => exact b2 v ho)
    (impl_ReadSetting_ok f _ hz) (impl_ReadSetting_ok f _ hz) (impl_ReadSetting_ok f _ hz)
  rw [hk]
  cases readF f 0 <;> cases readF f 1 <;> cases readF f 2 <;> rfl
theorem StartTiming_same (f : TFlash) (_ : Rng tFlash f) (hz : szT tFlash f ≤ big20) : ∃ w, spec_StartTiming f = some (w, ()) ∧ impl_StartTiming f = some (w, ()) :=
  ⟨_, spec_StartTiming_ok f hz, impl_StartTiming_ok f hz⟩
end KF

namespace KF
open Go
theorem law_StartTiming (a0 : TFlash) (hr0 : Rng tFlash a0) : laws_FnExactStartTiming a0 = some (true, ()) := by
  have h20 : big20 = 1048576 := rfl
  have h40 : big40 = 1099511627776 := rfl
  unfold laws_FnExactStartTiming
  have s0 := szFlash_ok a0 hr0 (1048576) (by omega)
  rw [show ((1048576 : Nat) : Int) = 1048576 from rfl] at s0
  rw [s0]
  simp only [Option.bind_some]
  by_cases z0 : szT tFlash a0 ≤ 1048576
  case neg => rw [szR_gt z0]; rfl
  rw [szR_le z0, dec_false (by omega)]
  simp only [cond_false]
  have hz0 : szT tFlash a0 ≤ big20 := by omega
  obtain ⟨w0, e1, e2⟩ := StartTiming_same a0 hr0 hz0
  simp only [e1, e2, toFlash_ok a0 hz0, eqFlash_ok a0 (by omega), eqTiming_ok w0 (by rw [szT_zero rfl]; exact Nat.zero_le _), Option.bind_some, bne_self_eq_false', Bool.not_true, cond_false]
end KF
