/- Laws on the plain functions: program and reference agree (conditions: as each lemma tells). -/
import Derived.Test.YtokklojkcoeooaaH
namespace KF
open Go
set_option linter.unusedSimpArgs false
set_option linter.unusedVariables false

def isCodeP (c : Int) : Prop := 1 ≤ c ∧ c ≤ 56
def isModsP (m : Int) : Prop := 1 ≤ m ∧ m ≤ 15
def isUpperP (n : Int) : Prop := 1 ≤ n ∧ n ≤ 3
/-- an action is valid -/
def IsActionP (k c m n : Int) : Prop :=
  ((k = 0 ∨ k = 1 ∨ k = 10) ∧ c = 0 ∧ m = 0 ∧ n = 0) ∨
  (k = 2 ∧ n = 0 ∧ (c = 0 ∨ 1 ≤ c ∧ c ≤ 56) ∧ (m = 0 ∨ 1 ≤ m ∧ m ≤ 15) ∧ (c ≠ 0 ∨ m ≠ 0)) ∨
  ((k = 3 ∨ k = 4) ∧ c = 0 ∧ m = 0 ∧ 1 ≤ n ∧ n ≤ 3) ∨
  ((k = 5 ∨ k = 9) ∧ c = 0 ∧ m = 0 ∧ 0 ≤ n ∧ n ≤ 3) ∨
  (k = 6 ∧ 1 ≤ c ∧ c ≤ 56 ∧ 1 ≤ m ∧ m ≤ 15 ∧ n = 0) ∨
  (k = 7 ∧ 1 ≤ c ∧ c ≤ 56 ∧ m = 0 ∧ 1 ≤ n ∧ n ≤ 3) ∨
  (k = 8 ∧ c = 0 ∧ 1 ≤ m ∧ m ≤ 15 ∧ n = 0)
noncomputable def isActionB (a : TAction) : Bool := open Classical in decide (IsActionP a.1 a.2.1 a.2.2.1 a.2.2.2.1)
theorem isActionB_iff (a : TAction) : isActionB a = true ↔ IsActionP a.1 a.2.1 a.2.2.1 a.2.2.2.1 := by simp [isActionB]

theorem impl_isCode_ok (c : Int) : impl_isCode c = some (decide (1 ≤ c ∧ c ≤ 56), ()) := by
  simp only [impl_isCode, cond_some, cond_unit]
  apply some_unit; simp only [cond_iff, decide_eq_true_eq, beq_iff', bne_iff', Bool.false_eq_true, and_false, false_and, or_false, false_or, and_true, true_and, not_true_eq_false, not_false_eq_true]; try omega
theorem impl_isMods_ok (c : Int) : impl_isMods c = some (decide (1 ≤ c ∧ c ≤ 15), ()) := by
  simp only [impl_isMods, cond_some, cond_unit]
  apply some_unit; simp only [cond_iff, decide_eq_true_eq, beq_iff', bne_iff', Bool.false_eq_true, and_false, false_and, or_false, false_or, and_true, true_and, not_true_eq_false, not_false_eq_true]; try omega
theorem impl_isUpper_ok (c : Int) : impl_isUpper c = some (decide (1 ≤ c ∧ c ≤ 3), ()) := by
  simp only [impl_isUpper, cond_some, cond_unit]
  apply some_unit; simp only [cond_iff, decide_eq_true_eq, beq_iff', bne_iff', Bool.false_eq_true, and_false, false_and, or_false, false_or, and_true, true_and, not_true_eq_false, not_false_eq_true]; try omega
theorem spec_l1In_ok (c a b : Int) : spec_l1In c a b = some (decide (a ≤ c ∧ c ≤ b), ()) := by
  simp only [spec_l1In, cond_some, cond_unit]
  apply some_unit; simp only [cond_iff, decide_eq_true_eq, beq_iff', bne_iff', Bool.false_eq_true, and_false, false_and, or_false, false_or, and_true, true_and, not_true_eq_false, not_false_eq_true]; try omega

theorem impl_IsAction_ok (a : TAction) : impl_IsAction a = some (isActionB a, ()) := by
  obtain ⟨k, c, m, n, u⟩ := a
  have key : ∀ k c m n : Int, impl_IsAction (k, c, m, n, u) = some (isActionB (k, c, m, n, u), ()) := by
    intro k c m n
    simp only [impl_IsAction, impl_isCode_ok, impl_isMods_ok, impl_isUpper_ok, spec_l1In_ok, Option.bind_some, cond_some, cond_unit]
    by_cases h0 : k = 0
    · subst h0; apply some_unit; rw [isActionB_iff]; simp [IsActionP, cond_iff]; try omega
    by_cases h1 : k = 1
    · subst h1; apply some_unit; rw [isActionB_iff]; simp [IsActionP, cond_iff]; try omega
    by_cases h2 : k = 2
    · subst h2; apply some_unit; rw [isActionB_iff]; simp [IsActionP, cond_iff]; intro hn; (repeat' split) <;> omega
    by_cases h3 : k = 3
    · subst h3; apply some_unit; rw [isActionB_iff]; simp [IsActionP, cond_iff]; try omega
    by_cases h4 : k = 4
    · subst h4; apply some_unit; rw [isActionB_iff]; simp [IsActionP, cond_iff]; try omega
    by_cases h5 : k = 5
    · subst h5; apply some_unit; rw [isActionB_iff]; simp [IsActionP, cond_iff]; try omega
    by_cases h6 : k = 6
    · subst h6; apply some_unit; rw [isActionB_iff]; simp [IsActionP, cond_iff]; try omega
    by_cases h7 : k = 7
    · subst h7; apply some_unit; rw [isActionB_iff]; simp [IsActionP, cond_iff]; try omega
    by_cases h8 : k = 8
    · subst h8; apply some_unit; rw [isActionB_iff]; simp [IsActionP, cond_iff]; try omega
    by_cases h9 : k = 9
    · subst h9; apply some_unit; rw [isActionB_iff]; simp [IsActionP, cond_iff]; try omega
    by_cases h10 : k = 10
    · subst h10; apply some_unit; rw [isActionB_iff]; simp [IsActionP, cond_iff]; try omega
    have g : ∀ j : Int, (k == j) = decide (k = j) := fun j => by rw [Bool.eq_iff_iff]; simp
    apply some_unit; rw [isActionB_iff]; simp [IsActionP, cond_iff, h0, h1, h2, h3, h4, h5, h6, h7, h8, h9, h10]
  exact key k c m n
theorem spec_IsAction_ok (a : TAction) : spec_IsAction a = some (isActionB a, ()) := by
  obtain ⟨k, c, m, n, u⟩ := a
  have key : ∀ k c m n : Int, spec_IsAction (k, c, m, n, u) = some (isActionB (k, c, m, n, u), ()) := by
    intro k c m n
    simp only [spec_IsAction, impl_isCode_ok, impl_isMods_ok, impl_isUpper_ok, spec_l1In_ok, Option.bind_some, cond_some, cond_unit]
    by_cases h0 : k = 0
    · subst h0; apply some_unit; rw [isActionB_iff]; simp [IsActionP, cond_iff]; try omega
    by_cases h1 : k = 1
    · subst h1; apply some_unit; rw [isActionB_iff]; simp [IsActionP, cond_iff]; try omega
    by_cases h2 : k = 2
    · subst h2; apply some_unit; rw [isActionB_iff]; simp [IsActionP, cond_iff]; intro hn; (repeat' split) <;> omega
    by_cases h3 : k = 3
    · subst h3; apply some_unit; rw [isActionB_iff]; simp [IsActionP, cond_iff]; try omega
    by_cases h4 : k = 4
    · subst h4; apply some_unit; rw [isActionB_iff]; simp [IsActionP, cond_iff]; try omega
    by_cases h5 : k = 5
    · subst h5; apply some_unit; rw [isActionB_iff]; simp [IsActionP, cond_iff]; try omega
    by_cases h6 : k = 6
    · subst h6; apply some_unit; rw [isActionB_iff]; simp [IsActionP, cond_iff]; try omega
    by_cases h7 : k = 7
    · subst h7; apply some_unit; rw [isActionB_iff]; simp [IsActionP, cond_iff]; try omega
    by_cases h8 : k = 8
    · subst h8; apply some_unit; rw [isActionB_iff]; simp [IsActionP, cond_iff]; try omega
    by_cases h9 : k = 9
    · subst h9; apply some_unit; rw [isActionB_iff]; simp [IsActionP, cond_iff]; try omega
    by_cases h10 : k = 10
    · subst h10; apply some_unit; rw [isActionB_iff]; simp [IsActionP, cond_iff]; try omega
    have g : ∀ j : Int, (k == j) = decide (k = j) := fun j => by rw [Bool.eq_iff_iff]; simp
    apply some_unit; rw [isActionB_iff]; simp [IsActionP, cond_iff, h0, h1, h2, h3, h4, h5, h6, h7, h8, h9, h10]
  exact key k c m n

/-! ### Keymaps -/
/-- what is asked of the action of a layer -/
noncomputable def okActB (nl : Nat) (i : Nat) (a : TAction) : Bool := isActionB a && !(((i : Int) == 0) && (a.1 == 1)) && !((a.1 != 9) && decide (a.2.2.2.1 ≥ (nl : Int)))
noncomputable def okLayerB (keys : Int) (nl : Nat) (i : Nat) (l : List TAction) : Bool := ((List.length l : Int) == keys) && allK (fun _ a => okActB nl i a) 0 l
noncomputable def isKeymapB (m : TKeymap) : Bool :=
  decide (1 ≤ m.1 ∧ m.1 ≤ 32) && decide (1 ≤ m.2.1.length ∧ m.2.1.length ≤ 4) && allK (fun i l => okLayerB m.1 m.2.1.length i l) 0 m.2.1

theorem impl_IsKeymap_in (m : TKeymap) (i : Nat) (l : List TAction) (L : List (List TAction)) (n : Int) (t : Int) (hl : l.length < 9223372036854775807) :
    impl_IsKeymap_9_loop (((), (i : Int), L, n, t, l, (l.length : Int), (0 : Int), ()), (m, ())) =
      some (cond (allK (fun _ a => okActB m.2.1.length i a) 0 l) (.inl (((), L, n, t, ()), (m, ()))) (.inr ((false, ()), ()))) := by
  unfold impl_IsKeymap_9_loop
  refine loopF_all (step := _) l (fun _ a => okActB m.2.1.length i a) (fun j => (((), (i : Int), L, n, t, l, (l.length : Int), j, ()), (m, ()))) _ _ ?_ ?_ hl
  · intro k hk
    simp only [impl_IsKeymap_9_R]
    rw [dec_true (show (k : Int) < (l.length : Int) by omega), idx_lt hk]
    simp only [cond_true, Option.bind_some, okActB, impl_IsAction_ok]
    cases isActionB l[k] <;> cases ((i : Int) == 0) <;> cases (l[k].1 == 1) <;> cases (l[k].1 != 9) <;> cases decide (l[k].2.2.2.1 ≥ (m.2.1.length : Int)) <;> rfl
  · simp [impl_IsKeymap_9_R]

theorem impl_IsKeymap_ok (m : TKeymap) (hz : szT tKeymap m ≤ big20) : impl_IsKeymap m = some (isKeymapB m, ()) := by
  have h20 : big20 = 1048576 := rfl
  have hz' : m.2.1.length + (List.map (szT (.sl tAction)) m.2.1).sum ≤ big20 := by
    have : szT tKeymap m = szT (.sl (.sl tAction)) m.2.1 := by simp only [szT, Nat.add_zero, Nat.zero_add]
    rw [this] at hz; exact hz
  have hl : ∀ k (hk : k < m.2.1.length), m.2.1[k].length ≤ big20 := by
    intro k hk
    have := sum_map_le (f := szT (.sl tAction)) hk
    have h2 : m.2.1[k].length ≤ szT (.sl tAction) m.2.1[k] := Nat.le_add_right _ _
    omega
  have hloop : impl_IsKeymap_4_loop (((), m.2.1, ((List.length m.2.1 : Nat) : Int), (0 : Int), ()), (m, ())) =
      some (cond (allK (fun i l => okLayerB m.1 m.2.1.length i l) 0 m.2.1) (.inl ((), ())) (.inr ((false, ()), ()))) := by
    unfold impl_IsKeymap_4_loop
    refine loopF_all (step := _) m.2.1 (fun i l => okLayerB m.1 m.2.1.length i l) (fun j => (((), m.2.1, ((List.length m.2.1 : Nat) : Int), j, ()), (m, ()))) _ _ ?_ ?_ (by omega)
    · intro k hk
      have := hl k hk
      simp only [impl_IsKeymap_4_R]
      rw [dec_true (show (k : Int) < (m.2.1.length : Int) by omega), idx_lt hk]
      simp only [cond_true, Option.bind_some, okLayerB]
      rw [impl_IsKeymap_in m k _ _ _ _ (by omega)]
      show (cond (!((m.2.1[k].length : Int) == m.1)) _ _) = _
      cases ((m.2.1[k].length : Int) == m.1) <;> cases allK (fun _ a => okActB m.2.1.length k a) 0 m.2.1[k] <;> rfl
    · simp [impl_IsKeymap_4_R]
  unfold impl_IsKeymap
  rw [hloop]
  simp only [Option.bind_some, elim_cond, cond_some, cond_unit]
  apply some_unit
  simp only [cond_iff, isKeymapB, Bool.and_eq_true, decide_eq_true_eq, Bool.false_eq_true, and_false, false_or, and_true, or_false]
  generalize allK (fun i l => okLayerB m.1 m.2.1.length i l) 0 m.2.1 = b
  constructor
  · rintro ⟨h1, h2, h3, h4, h5⟩; exact ⟨⟨by omega, by omega⟩, h5⟩
  · rintro ⟨⟨h1, h2⟩, h5⟩; exact ⟨by omega, by omega, by omega, by omega, h5⟩

theorem spec_IsKeymap_in (m : TKeymap) (i : Nat) (hi : i < m.2.1.length) (hl : m.2.1[i].length < 9223372036854775807) :
    spec_IsKeymap_7_loop (((), (i : Int), (0 : Int), ()), (m, ())) =
      some (cond (allK (fun _ a => okActB m.2.1.length i a) 0 m.2.1[i]) (.inl (((), (i : Int), ()), (m, ()))) (.inr ((false, ()), ()))) := by
  unfold spec_IsKeymap_7_loop
  refine loopF_all (step := _) m.2.1[i] (fun _ a => okActB m.2.1.length i a) (fun j => (((), (i : Int), j, ()), (m, ()))) _ _ ?_ ?_ hl
  · intro k hk
    simp only [spec_IsKeymap_7_R]
    rw [idx_lt hi]
    simp only [Option.bind_some]
    rw [dec_true (show (k : Int) < (m.2.1[i].length : Int) by omega), idx_lt hk]
    simp only [cond_true, Option.bind_some, okActB, spec_IsAction_ok]
    cases isActionB m.2.1[i][k] <;> cases ((i : Int) == 0) <;> cases (m.2.1[i][k].1 == 1) <;> cases (m.2.1[i][k].1 != 9) <;> cases decide (m.2.1[i][k].2.2.2.1 ≥ (m.2.1.length : Int)) <;> rfl
  · simp [spec_IsKeymap_7_R, idx_lt hi]

theorem spec_IsKeymap_ok (m : TKeymap) (hz : szT tKeymap m ≤ big20) : spec_IsKeymap m = some (isKeymapB m, ()) := by
  have h20 : big20 = 1048576 := rfl
  have hz' : m.2.1.length + (List.map (szT (.sl tAction)) m.2.1).sum ≤ big20 := by
    have : szT tKeymap m = szT (.sl (.sl tAction)) m.2.1 := by simp only [szT, Nat.add_zero, Nat.zero_add]
    rw [this] at hz; exact hz
  have hl : ∀ k (hk : k < m.2.1.length), m.2.1[k].length ≤ big20 := by
    intro k hk
    have := sum_map_le (f := szT (.sl tAction)) hk
    have h2 : m.2.1[k].length ≤ szT (.sl tAction) m.2.1[k] := Nat.le_add_right _ _
    omega
  have hloop : spec_IsKeymap_2_loop (((), (0 : Int), ()), (m, ())) =
      some (cond (allK (fun i l => okLayerB m.1 m.2.1.length i l) 0 m.2.1) (.inl (((), ()), (m, ()))) (.inr ((false, ()), ()))) := by
    unfold spec_IsKeymap_2_loop
    refine loopF_all (step := _) m.2.1 (fun i l => okLayerB m.1 m.2.1.length i l) (fun j => (((), j, ()), (m, ()))) _ _ ?_ ?_ (by omega)
    · intro k hk
      have := hl k hk
      simp only [spec_IsKeymap_2_R]
      rw [dec_true (show (k : Int) < (m.2.1.length : Int) by omega), idx_lt hk]
      simp only [cond_true, Option.bind_some, okLayerB]
      rw [spec_IsKeymap_in m k hk (by omega)]
      show (cond (!((m.2.1[k].length : Int) == m.1)) _ _) = _
      cases ((m.2.1[k].length : Int) == m.1) <;> cases allK (fun _ a => okActB m.2.1.length k a) 0 m.2.1[k] <;> rfl
    · simp [spec_IsKeymap_2_R]
  unfold spec_IsKeymap
  rw [hloop]
  simp only [Option.bind_some, elim_cond, cond_some, cond_unit, spec_l1In_ok]
  apply some_unit
  simp only [cond_iff, isKeymapB, Bool.and_eq_true, decide_eq_true_eq, Bool.false_eq_true, and_false, false_or, and_true, or_false]
  generalize allK (fun i l => okLayerB m.1 m.2.1.length i l) 0 m.2.1 = b
  constructor
  · rintro ⟨h1, h2, h3⟩; exact ⟨⟨by omega, by omega⟩, h1⟩
  · rintro ⟨⟨h1, h2⟩, h5⟩; exact ⟨h5, by omega, by omega⟩

/-! ### Fixed masks -/
theorem shl_one {n : Nat} (h : n ≤ 62) : ishl .i64 1 (n : Int) = ((2 ^ n : Nat) : Int) := by
  unfold ishl
  have h1 : min (Int.toNat (n : Int)) (IntKind.bits .i64) = n := by
    show min (Int.toNat (n : Int)) 64 = n
    rw [Int.toNat_natCast]; omega
  rw [h1, Int.one_mul]
  have h2 : (2 : Int) ^ n = ((2 ^ n : Nat) : Int) := by simp
  have h3 : 2 ^ n ≤ 2 ^ 62 := Nat.pow_le_pow_right (by omega) h
  rw [h2]
  clear h1 h2
  generalize 2 ^ n = z at h3
  rw [wrap64 (by omega) (by omega)]

theorem IsFixed_same (m : TKeymap) (f : Int) (_ : Rng tKeymap m) (_ : Rng int f) (hz : szT tKeymap m ≤ big20) :
    ∃ b, spec_IsFixed m f = some (b, ()) ∧ impl_IsFixed m f = some (b, ()) := by
  unfold spec_IsFixed impl_IsFixed
  rw [spec_IsKeymap_ok m hz, impl_IsKeymap_ok m hz]
  simp only [Option.bind_some, spec_l1In_ok]
  cases hk : isKeymapB m with
  | false => exact ⟨false, rfl, rfl⟩
  | true =>
    simp only [cond_true]
    have hn : 1 ≤ m.2.1.length ∧ m.2.1.length ≤ 4 := by
      simp only [isKeymapB, Bool.and_eq_true, decide_eq_true_eq] at hk
      exact hk.1.2
    rw [shl_one (by omega), dec_true (show (0 : Int) ≤ (m.2.1.length : Int) by omega)]
    have hp : 1 ≤ 2 ^ m.2.1.length ∧ 2 ^ m.2.1.length ≤ 16 := by
      obtain ⟨h1, h2⟩ := hn
      generalize m.2.1.length = n at *
      have : n = 1 ∨ n = 2 ∨ n = 3 ∨ n = 4 := by omega
      rcases this with rfl | rfl | rfl | rfl <;> decide
    rw [wrap64 (by omega) (by omega)]
    simp only [cond_true, cond_some, cond_unit, show ((2 : Int) == 0) = false from rfl, cond_false]
    refine ⟨_, rfl, ?_⟩
    apply some_unit
    simp only [cond_iff, decide_eq_true_eq, Bool.false_eq_true, and_false, or_false, beq_iff']
    omega
end KF

namespace KF
open Go

/-! ### Flash memories -/
def wordsB (p : List Int) : Bool := allK (fun _ w => decide (0 ≤ w ∧ w ≤ 65535)) 0 p
def pageB (p : List Int) (e : Int) : Bool := ((p.length : Int) == 19) && decide (0 ≤ e ∧ e ≤ 1000) && wordsB p
def isFlashB (f : TFlash) : Bool := match f.1, f.2.1 with
  | [p, q], [d, e] => pageB p d && pageB q e
  | _, _ => false

theorem impl_IsFlash_in (t : Int) (p : List Int) (f : TFlash) (hp : p.length < 9223372036854775807) :
    impl_IsFlash_9_loop (((), t, p, (p.length : Int), (0 : Int), ()), (f, ())) = some (cond (wordsB p) (.inl (((), t, ()), (f, ()))) (.inr ((false, ()), ()))) := by
  unfold impl_IsFlash_9_loop wordsB
  refine loopF_all (step := _) p (fun _ w => decide (0 ≤ w ∧ w ≤ 65535)) (fun j => (((), t, p, (p.length : Int), j, ()), (f, ()))) _ _ ?_ ?_ hp
  · intro k hk
    simp only [impl_IsFlash_9_R]
    rw [dec_true (show (k : Int) < (p.length : Int) by omega), idx_lt hk]
    simp only [cond_true, Option.bind_some]
    by_cases h1 : p[k] < 0
    · rw [dec_true h1, dec_false (show ¬ (0 ≤ p[k] ∧ p[k] ≤ 65535) by omega)]; rfl
    · rw [dec_false h1]
      by_cases h2 : p[k] > 65535
      · rw [dec_true h2, dec_false (show ¬ (0 ≤ p[k] ∧ p[k] ≤ 65535) by omega)]; rfl
      · rw [dec_false h2, dec_true (show (0 ≤ p[k] ∧ p[k] ≤ 65535) by omega)]; rfl
  · simp [impl_IsFlash_9_R]

theorem spec_IsFlash_in (i : Nat) (f : TFlash) (hi : i < f.1.length) (hp : f.1[i].length < 9223372036854775807) :
    spec_IsFlash_9_loop (((), (i : Int), (0 : Int), ()), (f, ())) = some (cond (wordsB f.1[i]) (.inl (((), (i : Int), ()), (f, ()))) (.inr ((false, ()), ()))) := by
  unfold spec_IsFlash_9_loop wordsB
  refine loopF_all (step := _) f.1[i] (fun _ w => decide (0 ≤ w ∧ w ≤ 65535)) (fun j => (((), (i : Int), j, ()), (f, ()))) _ _ ?_ ?_ hp
  · intro k hk
    simp only [spec_IsFlash_9_R]
    rw [idx_lt hi]
    simp only [Option.bind_some]
    rw [dec_true (show (k : Int) < (f.1[i].length : Int) by omega), idx_lt hk]
    simp only [cond_true, Option.bind_some, spec_l1In_ok]
    cases decide (0 ≤ f.1[i][k] ∧ f.1[i][k] ≤ 65535) <;> rfl
  · simp [spec_IsFlash_9_R, idx_lt hi]

theorem len2 {α : Type} {l : List α} (h : (l.length : Int) = 2) : ∃ a b, l = [a, b] := by
  match l, h with
  | [a, b], _ => exact ⟨a, b, rfl⟩
  | [], h => simp at h
  | [_], h => simp at h
  | _ :: _ :: _ :: _, h => simp at h; omega

theorem impl_IsFlash_ok (f : TFlash) (hz : szT tFlash f ≤ big20) : impl_IsFlash f = some (isFlashB f, ()) := by
  have h20 : big20 = 1048576 := rfl
  obtain ⟨P, E, u⟩ := f
  unfold impl_IsFlash
  by_cases h1 : (P.length : Int) = 2
  case neg =>
    have : ((P.length : Int) != 2) = true := by simpa using h1
    rw [this]
    unfold isFlashB
    split
    · rename_i h _; simp only at h; rw [h] at h1; simp at h1
    · rfl
  by_cases h2 : (E.length : Int) = 2
  case neg =>
    have h1' : ((P.length : Int) != 2) = false := by simpa using h1
    have h2' : ((E.length : Int) != 2) = true := by simpa using h2
    rw [h1', h2']
    unfold isFlashB
    split
    · rename_i h; simp only at h; rw [h] at h2; simp at h2
    · rfl
  obtain ⟨p, q, rfl⟩ := len2 h1
  obtain ⟨d, e, rfl⟩ := len2 h2
  have hzz : 2 + (p.length + (q.length + 0)) ≤ big20 := by
    have h3 : szT tFlash ([p, q], [d, e], u) = 2 + (szT (.sl int) p + (szT (.sl int) q + 0)) + (szT (.sl int) [d, e] + 0) := rfl
    rw [szT_flat (e := int) rfl p, szT_flat (e := int) rfl q] at h3
    omega
  have hl : impl_IsFlash_4_loop (((), (0 : Int), ()), (([p, q], [d, e], u), ())) = some (cond (allK (fun _ (x : List Int × Int) => pageB x.1 x.2) 0 [(p, d), (q, e)]) (.inl ((), ())) (.inr ((false, ()), ()))) := by
    unfold impl_IsFlash_4_loop
    refine loopF_all (step := _) [(p, d), (q, e)] (fun _ (x : List Int × Int) => pageB x.1 x.2) (fun j => (((), j, ()), (([p, q], [d, e], u), ()))) _ _ ?_ ?_ (by simp)
    · intro k hk
      have e1 : idx [p, q] (k : Int) = some ([(p, d), (q, e)][k]).1 := by
        match k, hk with
        | 0, _ => rfl
        | 1, _ => rfl
      have e2 : idx [d, e] (k : Int) = some ([(p, d), (q, e)][k]).2 := by
        match k, hk with
        | 0, _ => rfl
        | 1, _ => rfl
      have e3 : ([(p, d), (q, e)][k]).1.length < 9223372036854775807 := by
        match k, hk with
        | 0, _ => show p.length < _; omega
        | 1, _ => show q.length < _; omega
      have hk2 : k < 2 := hk
      simp only [impl_IsFlash_4_R]
      rw [dec_true (show (k : Int) < 2 by omega), e1, e2]
      generalize [(p, d), (q, e)][k] = x at e3
      obtain ⟨y, z⟩ := x
      simp only [Option.bind_some, cond_true, impl_IsFlash_in _ y _ e3, pageB]
      cases hy : ((y.length : Int) == 19) with
      | false => rw [show ((y.length : Int) != 19) = true by simpa using hy]; rfl
      | true =>
        rw [show ((y.length : Int) != 19) = false by simpa using hy]
        by_cases h1 : z < 0
        · rw [dec_true h1, dec_false (show ¬ (0 ≤ z ∧ z ≤ 1000) by omega)]; rfl
        · rw [dec_false h1]
          by_cases h2 : z > 1000
          · rw [dec_true h2, dec_false (show ¬ (0 ≤ z ∧ z ≤ 1000) by omega)]; rfl
          · rw [dec_false h2, dec_true (show (0 ≤ z ∧ z ≤ 1000) by omega)]
            cases wordsB y <;> rfl
    · rfl
  rw [hl]
  simp only [allK, isFlashB, Bool.and_true]
  cases pageB p d <;> cases pageB q e <;> rfl

theorem spec_IsFlash_ok (f : TFlash) (hz : szT tFlash f ≤ big20) : spec_IsFlash f = some (isFlashB f, ()) := by
  have h20 : big20 = 1048576 := rfl
  obtain ⟨P, E, u⟩ := f
  unfold spec_IsFlash
  by_cases h1 : (P.length : Int) = 2
  case neg =>
    have : ((P.length : Int) != 2) = true := by simpa using h1
    rw [this]
    unfold isFlashB
    split
    · rename_i h _; simp only at h; rw [h] at h1; simp at h1
    · rfl
  by_cases h2 : (E.length : Int) = 2
  case neg =>
    have h1' : ((P.length : Int) != 2) = false := by simpa using h1
    have h2' : ((E.length : Int) != 2) = true := by simpa using h2
    rw [h1', h2']
    unfold isFlashB
    split
    · rename_i h; simp only at h; rw [h] at h2; simp at h2
    · rfl
  obtain ⟨p, q, rfl⟩ := len2 h1
  obtain ⟨d, e, rfl⟩ := len2 h2
  have hzz : 2 + (p.length + (q.length + 0)) ≤ big20 := by
    have h3 : szT tFlash ([p, q], [d, e], u) = 2 + (szT (.sl int) p + (szT (.sl int) q + 0)) + (szT (.sl int) [d, e] + 0) := rfl
    rw [szT_flat (e := int) rfl p, szT_flat (e := int) rfl q] at h3
    omega
  have hl : spec_IsFlash_4_loop (((), (0 : Int), ()), (([p, q], [d, e], u), ())) = some (cond (allK (fun _ (x : List Int × Int) => pageB x.1 x.2) 0 [(p, d), (q, e)]) (.inl ((), ())) (.inr ((false, ()), ()))) := by
    unfold spec_IsFlash_4_loop
    refine loopF_all (step := _) [(p, d), (q, e)] (fun _ (x : List Int × Int) => pageB x.1 x.2) (fun j => (((), j, ()), (([p, q], [d, e], u), ()))) _ _ ?_ ?_ (by simp)
    · intro k hk
      have hk2 : k < 2 := hk
      have e1 : [p, q][k]'hk2 = ([(p, d), (q, e)][k]).1 := by
        match k, hk with
        | 0, _ => rfl
        | 1, _ => rfl
      have e2 : idx [d, e] (k : Int) = some ([(p, d), (q, e)][k]).2 := by
        match k, hk with
        | 0, _ => rfl
        | 1, _ => rfl
      have e3 : ([p, q][k]'hk2).length < 9223372036854775807 := by
        match k, hk with
        | 0, _ => show p.length < _; omega
        | 1, _ => show q.length < _; omega
      have hin := spec_IsFlash_in k ([p, q], [d, e], u) hk2 e3
      simp only [spec_IsFlash_4_R]
      rw [dec_true (show (k : Int) < 2 by omega), idx_lt (xs := [p, q]) hk2, e2]
      simp only [cond_true, Option.bind_some, spec_l1In_ok]
      rw [hin]
      simp only at e1 ⊢
      rw [e1]
      generalize [(p, d), (q, e)][k] = x
      obtain ⟨y, z⟩ := x
      simp only [Option.bind_some, pageB]
      cases hy : ((y.length : Int) == 19) with
      | false => rw [show ((y.length : Int) != 19) = true by simpa using hy]; rfl
      | true =>
        rw [show ((y.length : Int) != 19) = false by simpa using hy]
        cases decide (0 ≤ z ∧ z ≤ 1000) <;> cases wordsB y <;> rfl
    · rfl
  rw [hl]
  simp only [allK, isFlashB, Bool.and_true]
  cases pageB p d <;> cases pageB q e <;> rfl

/-- the page with the greatest header -/
def hdB (h : Int) : Bool := decide (1 ≤ h ∧ h ≤ 60000)
def activeI (h0 h1 : Int) : Int := cond (hdB h1) (cond (hdB h0) (cond (decide (h1 > h0)) 1 0) 1) (cond (hdB h0) 0 (-1))
def activeF (f : TFlash) : Int := cond (isFlashB f) (match f.1 with
  | [h0 :: _, h1 :: _] => activeI h0 h1
  | _ => -1) (-1)

theorem flash_parts {f : TFlash} (h : isFlashB f = true) : ∃ p q d e, f = ([p, q], [d, e], ()) ∧ p.length = 19 ∧ q.length = 19 ∧ wordsB p = true ∧ wordsB q = true := by
  obtain ⟨P, E, u⟩ := f
  unfold isFlashB at h
  split at h
  · rename_i p q d e h1 h2
    simp only at h1 h2
    subst h1; subst h2
    simp only [pageB, Bool.and_eq_true, beq_iff_eq] at h
    exact ⟨p, q, d, e, rfl, by omega, by omega, h.1.2, h.2.2⟩
  · simp at h
theorem cons_of_len {α : Type} {l : List α} {n : Nat} (h : l.length = n + 1) : ∃ a r, l = a :: r ∧ r.length = n := by
  cases l with
  | nil => simp at h
  | cons a r => exact ⟨a, r, rfl, by simpa using h⟩

theorem impl_ActivePage_ok (f : TFlash) (hz : szT tFlash f ≤ big20) : impl_ActivePage f = some (activeF f, ()) := by
  unfold impl_ActivePage activeF
  rw [impl_IsFlash_ok f hz]
  cases hf : isFlashB f with
  | false => rfl
  | true =>
    obtain ⟨p, q, d, e, rfl, hp, hq, _, _⟩ := flash_parts hf
    obtain ⟨h0, p, rfl, _⟩ := cons_of_len hp
    obtain ⟨h1, q, rfl, _⟩ := cons_of_len hq
    simp only [Option.bind_some, Bool.not_true, cond_false, cond_true]
    unfold impl_ActivePage_5_loop
    have hd : ∀ x : Int, hdB x = (decide (x ≥ 1) && decide (x ≤ 60000)) := by
      intro x; unfold hdB; rw [Bool.eq_iff_iff]; simp
    have w1 : IntKind.wrap .i64 ((0 : Int) + 1) = 1 := rfl
    have w2 : IntKind.wrap .i64 ((1 : Int) + 1) = 2 := rfl
    have i0 : ∀ (t : Int), impl_ActivePage_5_R () t [h0 :: p, h1 :: q] 2 0 ([h0 :: p, h1 :: q], [d, e], ()) = some (.inl (((), cond (hdB h0) 0 t, [h0 :: p, h1 :: q], 2, 1, ()), (([h0 :: p, h1 :: q], [d, e], ()), ()))) ∨ 0 ≤ t := by
      intro t
      by_cases ht : t < 0
      · left
        simp only [impl_ActivePage_5_R, show idx [h0 :: p, h1 :: q] (0 : Int) = some (h0 :: p) from rfl, idx_zero, Option.bind_some, hd, w1, dec_true ht, show decide ((0 : Int) < 2) = true from rfl]
        cases decide (h0 ≥ 1) <;> cases decide (h0 ≤ 60000) <;> rfl
      · exact .inr (by omega)
    have i1 : ∀ (t : Int), t = 0 ∨ t = -1 → impl_ActivePage_5_R () t [h0 :: p, h1 :: q] 2 1 ([h0 :: p, h1 :: q], [d, e], ()) = some (.inl (((), cond (hdB h1) (cond (decide (t < 0)) 1 (cond (decide (h1 > h0)) 1 t)) t, [h0 :: p, h1 :: q], 2, 2, ()), (([h0 :: p, h1 :: q], [d, e], ()), ()))) := by
      intro t ht
      rcases ht with rfl | rfl
      · simp only [impl_ActivePage_5_R, show idx [h0 :: p, h1 :: q] (1 : Int) = some (h1 :: q) from rfl, show idx [h0 :: p, h1 :: q] (0 : Int) = some (h0 :: p) from rfl, idx_zero, Option.bind_some, hd, w2, show decide ((1 : Int) < 2) = true from rfl, show decide ((0 : Int) < 0) = false from rfl]
        cases decide (h1 ≥ 1) <;> cases decide (h1 ≤ 60000) <;> cases decide (h1 > h0) <;> rfl
      · simp only [impl_ActivePage_5_R, show idx [h0 :: p, h1 :: q] (1 : Int) = some (h1 :: q) from rfl, idx_zero, Option.bind_some, hd, w2, show decide ((1 : Int) < 2) = true from rfl, show decide ((-1 : Int) < 0) = true from rfl]
        cases decide (h1 ≥ 1) <;> cases decide (h1 ≤ 60000) <;> rfl
    rw [loopF_step]
    show Option.bind (Option.bind (impl_ActivePage_5_R () (-1) [h0 :: p, h1 :: q] 2 0 ([h0 :: p, h1 :: q], [d, e], ())) _) _ = _
    rw [(i0 (-1)).resolve_right (by omega)]
    simp only [Option.bind_some, Sum.elim_inl]
    rw [loopF_step]
    show Option.bind (Option.bind (impl_ActivePage_5_R () (cond (hdB h0) 0 (-1)) [h0 :: p, h1 :: q] 2 1 ([h0 :: p, h1 :: q], [d, e], ())) _) _ = _
    rw [i1 _ (by cases hdB h0 <;> simp)]
    simp only [Option.bind_some, Sum.elim_inl]
    rw [loopF_step]
    cases h0B : hdB h0 <;> cases h1B : hdB h1 <;> simp only [cond_true, cond_false, activeI, h0B, h1B] <;> rfl

theorem spec_ActivePage_ok (f : TFlash) (hz : szT tFlash f ≤ big20) : spec_ActivePage f = some (activeF f, ()) := by
  unfold spec_ActivePage activeF
  cases hf : isFlashB f with
  | false =>
    unfold spec_ActivePage_3_loop
    rw [loopF_step]
    simp only [spec_ActivePage_3_R, spec_IsFlash_ok f hz, hf]
    rfl
  | true =>
    have hfl := spec_IsFlash_ok f hz
    rw [hf] at hfl
    obtain ⟨p, q, d, e, rfl, hp, hq, _, _⟩ := flash_parts hf
    obtain ⟨h0, p, rfl, _⟩ := cons_of_len hp
    obtain ⟨h1, q, rfl, _⟩ := cons_of_len hq
    unfold spec_ActivePage_3_loop
    have w1 : IntKind.wrap .i64 ((0 : Int) + 1) = 1 := rfl
    have w2 : IntKind.wrap .i64 ((1 : Int) + 1) = 2 := rfl
    have i0 : spec_ActivePage_3_R () (-1) 0 ([h0 :: p, h1 :: q], [d, e], ()) = some (.inl (((), cond (hdB h0) 0 (-1), 1, ()), (([h0 :: p, h1 :: q], [d, e], ()), ()))) := by
      simp only [spec_ActivePage_3_R, hfl, show idx [h0 :: p, h1 :: q] (0 : Int) = some (h0 :: p) from rfl, idx_zero, Option.bind_some, w1, spec_l1In_ok, show decide ((0 : Int) < 2) = true from rfl, show decide ((-1 : Int) < 0) = true from rfl, hdB]
      cases decide (1 ≤ h0 ∧ h0 ≤ 60000) <;> rfl
    have i1 : ∀ (t : Int), t = 0 ∨ t = -1 → spec_ActivePage_3_R () t 1 ([h0 :: p, h1 :: q], [d, e], ()) = some (.inl (((), cond (hdB h1) (cond (decide (t < 0)) 1 (cond (decide (h1 > h0)) 1 t)) t, 2, ()), (([h0 :: p, h1 :: q], [d, e], ()), ()))) := by
      intro t ht
      rcases ht with rfl | rfl
      · simp only [spec_ActivePage_3_R, hfl, show idx [h0 :: p, h1 :: q] (1 : Int) = some (h1 :: q) from rfl, show idx [h0 :: p, h1 :: q] (0 : Int) = some (h0 :: p) from rfl, idx_zero, Option.bind_some, w2, spec_l1In_ok, show decide ((1 : Int) < 2) = true from rfl, show decide ((0 : Int) < 0) = false from rfl, hdB]
        cases decide (1 ≤ h1 ∧ h1 ≤ 60000) <;> cases decide (h1 > h0) <;> rfl
      · simp only [spec_ActivePage_3_R, hfl, show idx [h0 :: p, h1 :: q] (1 : Int) = some (h1 :: q) from rfl, idx_zero, Option.bind_some, w2, spec_l1In_ok, show decide ((1 : Int) < 2) = true from rfl, show decide ((-1 : Int) < 0) = true from rfl, hdB]
        cases decide (1 ≤ h1 ∧ h1 ≤ 60000) <;> rfl
    rw [loopF_step]
    show Option.bind (Option.bind (spec_ActivePage_3_R () (-1) 0 ([h0 :: p, h1 :: q], [d, e], ())) _) _ = _
    rw [i0]
    simp only [Option.bind_some, Sum.elim_inl]
    rw [loopF_step]
    show Option.bind (Option.bind (spec_ActivePage_3_R () (cond (hdB h0) 0 (-1)) 1 ([h0 :: p, h1 :: q], [d, e], ())) _) _ = _
    rw [i1 _ (by cases hdB h0 <;> simp)]
    simp only [Option.bind_some, Sum.elim_inl]
    rw [loopF_step]
    cases h0B : hdB h0 <;> cases h1B : hdB h1 <;> simp only [cond_true, cond_false, activeI, h0B, h1B] <;> rfl

/-! ### Records -/
def isSettingB (s v : Int) : Bool := decide (0 ≤ s ∧ s ≤ 3 ∧ 0 ≤ v ∧ v ≤ 9999)
def checkI (s v h : Int) : Int := cond (isSettingB s v && hdB h) ((7 * s + 13 * v + 31 * h + 5).tmod 60000) 65535
theorem impl_isSetting_ok (s v : Int) : impl_isSetting s v = some (isSettingB s v, ()) := by
  unfold impl_isSetting isSettingB
  simp only [cond_some, cond_unit]
  apply some_unit
  simp only [cond_iff, decide_eq_true_eq, Bool.false_eq_true, and_false, or_false]
  omega
theorem check_wrap {s v h : Int} (hs : isSettingB s v = true) (hh : hdB h = true) :
    IntKind.wrap .i64 (IntKind.wrap .i64 (IntKind.wrap .i64 (IntKind.wrap .i64 (7 * s) + IntKind.wrap .i64 (13 * v)) + IntKind.wrap .i64 (31 * h)) + 5) = 7 * s + 13 * v + 31 * h + 5 := by
  simp only [isSettingB, hdB, decide_eq_true_eq] at hs hh
  rw [wrap64 (n := 7 * s) (by omega) (by omega), wrap64 (n := 13 * v) (by omega) (by omega), wrap64 (n := 31 * h) (by omega) (by omega), wrap64 (n := 7 * s + 13 * v) (by omega) (by omega),
    wrap64 (n := 7 * s + 13 * v + 31 * h) (by omega) (by omega), wrap64 (by omega) (by omega)]
theorem impl_CheckOf_ok (s v h : Int) : impl_CheckOf s v h = some (checkI s v h, ()) := by
  unfold impl_CheckOf checkI
  rw [impl_isSetting_ok]
  cases hs : isSettingB s v with
  | false => rfl
  | true =>
    simp only [Option.bind_some, Bool.not_true, cond_false, Bool.true_and]
    by_cases h1 : h < 1
    · rw [dec_true h1, show hdB h = false by simp [hdB]; omega]; rfl
    · rw [dec_false h1]
      by_cases h2 : h > 60000
      · rw [dec_true h2, show hdB h = false by simp [hdB]; omega]; rfl
      · have hh : hdB h = true := by simp [hdB]; omega
        rw [dec_false h2, hh, check_wrap hs hh]; rfl
theorem spec_CheckOf_ok (s v h : Int) : spec_CheckOf s v h = some (checkI s v h, ()) := by
  unfold spec_CheckOf checkI
  simp only [spec_l1In_ok, Option.bind_some]
  by_cases h1 : 0 ≤ s ∧ s ≤ 3
  case neg => rw [dec_false h1, show isSettingB s v = false by simp [isSettingB]; omega]; rfl
  by_cases h2 : 0 ≤ v ∧ v ≤ 9999
  case neg => rw [dec_true h1, dec_false h2, show isSettingB s v = false by simp [isSettingB]; omega]; rfl
  have hs : isSettingB s v = true := by simp [isSettingB]; omega
  rw [dec_true h1, dec_true h2, hs]
  simp only [Bool.not_true, cond_false, Bool.true_and]
  cases hh : hdB h with
  | false => rw [show decide (1 ≤ h ∧ h ≤ 60000) = false from hh]; rfl
  | true => rw [show decide (1 ≤ h ∧ h ≤ 60000) = true from hh, check_wrap hs hh]; rfl

def wd (w : List Int) (n : Nat) : Int := w.getD n 0
theorem idx_wd {w : List Int} {n : Nat} (h : n < w.length) : idx w (n : Int) = some (wd w n) := by
  rw [idx_lt h]; simp [wd, List.getD_eq_getElem?_getD, h]
theorem idx_wd' {w : List Int} {i : Int} {n : Nat} (hi : i = (n : Int)) (h : n < w.length) : idx w i = some (wd w n) := by rw [hi, idx_wd h]
def matchB (s : Int) (w : List Int) (i : Nat) : Bool :=
  isSettingB (wd w (1 + 3 * i)) (wd w (2 + 3 * i)) && (wd w (1 + 3 * i) == s) && (wd w (3 + 3 * i) == checkI (wd w (1 + 3 * i)) (wd w (2 + 3 * i)) (wd w 0))
def readDown (s : Int) (w : List Int) : Nat → Option Int
  | 0 => none
  | n + 1 => cond (matchB s w n) (some (wd w (2 + 3 * n))) (readDown s w n)
def readF (f : TFlash) (s : Int) : Option Int := cond (decide (activeF f < 0)) none (readDown s ((f.1.getD (activeF f).toNat [])) 6)
def optI (o : Option Int) : Int × Bool := match o with
  | some v => (v, true)
  | none => (0, false)

theorem rec_wrap {i : Nat} (h : i < 6) : IntKind.wrap .i64 (1 + IntKind.wrap .i64 (3 * (i : Int))) = ((1 + 3 * i : Nat) : Int) := by
  rw [wrap64 (n := 3 * (i : Int)) (by omega) (by omega), wrap64 (by omega) (by omega)]; omega
theorem rec_wrap4 {i : Nat} (h : i < 6) : IntKind.wrap .i64 (4 + IntKind.wrap .i64 (3 * (i : Int))) = ((4 + 3 * i : Nat) : Int) := by
  rw [wrap64 (n := 3 * (i : Int)) (by omega) (by omega), wrap64 (by omega) (by omega)]; omega

theorem impl_read_step {s : Int} {w : List Int} (hw : w.length = 19) {i : Nat} (hi : i < 6) :
    impl_ReadSetting_6_R s w (i : Int) = some (cond (matchB s w i) (.inr (.inr ((wd w (2 + 3 * i), true, ()), ()))) (.inl ((s, w, (i : Int) - 1, ()), ()))) := by
  simp only [impl_ReadSetting_6_R, rec_wrap hi, rec_wrap4 hi, Int.toNat_natCast]
  have c0 : idx (cutl w (1 + 3 * i) (4 + 3 * i)) (0 : Int) = some (wd w (1 + 3 * i)) := by
    have := idx_cutl (w := w) (lo := 1 + 3 * i) (hi := 4 + 3 * i) (j := 0) (by omega) (by omega)
    rw [show ((0 : Nat) : Int) = 0 from rfl] at this
    rw [this]; simp [wd, List.getD_eq_getElem?_getD, show 1 + 3 * i < w.length by omega]
  have c1 : idx (cutl w (1 + 3 * i) (4 + 3 * i)) (1 : Int) = some (wd w (2 + 3 * i)) := by
    have := idx_cutl (w := w) (lo := 1 + 3 * i) (hi := 4 + 3 * i) (j := 1) (by omega) (by omega)
    rw [show ((1 : Nat) : Int) = 1 from rfl] at this
    rw [this]; simp [wd, List.getD_eq_getElem?_getD, show 2 + 3 * i < w.length by omega, show 1 + 3 * i + 1 = 2 + 3 * i by omega]
  have c2 : idx (cutl w (1 + 3 * i) (4 + 3 * i)) (2 : Int) = some (wd w (3 + 3 * i)) := by
    have := idx_cutl (w := w) (lo := 1 + 3 * i) (hi := 4 + 3 * i) (j := 2) (by omega) (by omega)
    rw [show ((2 : Nat) : Int) = 2 from rfl] at this
    rw [this]; simp [wd, List.getD_eq_getElem?_getD, show 3 + 3 * i < w.length by omega, show 1 + 3 * i + 2 = 3 + 3 * i by omega]
  have c3 : idx w (0 : Int) = some (wd w 0) := idx_wd' (n := 0) rfl (by omega)
  rw [dec_true (show (i : Int) ≥ 0 by omega), cutOk_nat (by omega) (by omega), c0, c1, c2, c3]
  simp only [Option.bind_some, cond_true, impl_isSetting_ok, impl_CheckOf_ok, matchB]
  rw [wrap64 (n := (i : Int) - 1) (by omega) (by omega)]
  cases isSettingB (wd w (1 + 3 * i)) (wd w (2 + 3 * i)) <;> cases (wd w (1 + 3 * i) == s) <;> cases (wd w (3 + 3 * i) == checkI (wd w (1 + 3 * i)) (wd w (2 + 3 * i)) (wd w 0)) <;> rfl

theorem impl_read_loop {s : Int} {w : List Int} (hw : w.length = 19) : ∀ n : Nat, n ≤ 6 → impl_ReadSetting_6_loop ((s, w, (n : Int) - 1, ()), ()) =
    some (match readDown s w n with | some v => .inr ((v, true, ()), ()) | none => .inl ((), ()))
  | 0, _ => by
    unfold impl_ReadSetting_6_loop
    rw [loopF_step]
    simp only [impl_ReadSetting_6_R]
    rfl
  | n + 1, h => by
    unfold impl_ReadSetting_6_loop
    rw [loopF_step]
    simp only
    rw [show (((n + 1 : Nat) : Int) - 1) = (n : Int) by omega, impl_read_step hw (by omega)]
    have ih := impl_read_loop (s := s) hw n (by omega)
    unfold impl_ReadSetting_6_loop at ih
    simp only [readDown]
    cases matchB s w n with
    | true => rfl
    | false => simp only [cond_false, Option.bind_some, Sum.elim_inl]; exact ih

theorem active_page {f : TFlash} (h : ¬ activeF f < 0) : ∃ w, idx f.1 (activeF f) = some w ∧ f.1.getD (activeF f).toNat [] = w ∧ w.length = 19 ∧ hdB (wd w 0) = true ∧ isFlashB f = true := by
  unfold activeF at h ⊢
  cases hf : isFlashB f with
  | false => rw [hf] at h; simp at h
  | true =>
    rw [hf] at h
    obtain ⟨p, q, d, e, rfl, hp, hq, _, _⟩ := flash_parts hf
    obtain ⟨h0, p, rfl, hp'⟩ := cons_of_len hp
    obtain ⟨h1, q, rfl, hq'⟩ := cons_of_len hq
    simp only [cond_true] at h ⊢
    cases h0B : hdB h0 <;> cases h1B : hdB h1 <;> simp only [activeI, h0B, h1B, cond_true, cond_false] at h ⊢
    · simp at h
    · exact ⟨h1 :: q, rfl, rfl, hq, h1B, trivial⟩
    · exact ⟨h0 :: p, rfl, rfl, hp, h0B, trivial⟩
    · cases decide (h1 > h0)
      · exact ⟨h0 :: p, rfl, rfl, hp, h0B, trivial⟩
      · exact ⟨h1 :: q, rfl, rfl, hq, h1B, trivial⟩

theorem impl_ReadSetting_ok (f : TFlash) (s : Int) (hz : szT tFlash f ≤ big20) : impl_ReadSetting f s = some ((optI (readF f s)).1, (optI (readF f s)).2, ()) := by
  unfold impl_ReadSetting readF
  rw [impl_ActivePage_ok f hz]
  simp only [Option.bind_some]
  by_cases ha : activeF f < 0
  · rw [dec_true ha]; rfl
  · rw [dec_false ha]
    obtain ⟨w, h1, h2, h3, _⟩ := active_page ha
    rw [h1, h2]
    have hl := impl_read_loop (s := s) h3 6 (by omega)
    rw [show (((6 : Nat) : Int) - 1) = 5 from rfl] at hl
    simp only [cond_false, Option.bind_some, hl]
    cases readDown s w 6 <;> rfl

theorem check_bd {s v h : Int} : (checkI s v h != 65535) = (isSettingB s v && hdB h) := by
  unfold checkI
  cases hs : isSettingB s v with
  | false => rfl
  | true =>
    cases hh : hdB h with
    | false => rfl
    | true =>
      simp only [isSettingB, hdB, decide_eq_true_eq] at hs hh
      simp only [Bool.true_and, cond_true, bne_iff_ne, ne_eq]
      have h0 : 0 ≤ 7 * s + 13 * v + 31 * h + 5 := by omega
      rw [Int.tmod_eq_emod_of_nonneg h0]
      omega

theorem spec_read_step {s : Int} {f : TFlash} {a : Int} {w : List Int} (hidx : idx f.1 a = some w) (hw : w.length = 19) (hh : hdB (wd w 0) = true) {i : Nat} (hi : i < 6) (v : Int) (b : Bool) :
    spec_ReadSetting_7_R s () a v b (i : Int) f = some (.inl ((s, (), a, cond (matchB s w i) (wd w (2 + 3 * i)) v, cond (matchB s w i) true b, ((i + 1 : Nat) : Int), ()), (f, ()))) := by
  have e1 : IntKind.wrap .i64 (((1 + 3 * i : Nat) : Int) + 1) = ((2 + 3 * i : Nat) : Int) := by rw [wrap64 (by omega) (by omega)]; omega
  have e2 : IntKind.wrap .i64 (((1 + 3 * i : Nat) : Int) + 2) = ((3 + 3 * i : Nat) : Int) := by rw [wrap64 (by omega) (by omega)]; omega
  have c3 : idx w (0 : Int) = some (wd w 0) := idx_wd' (n := 0) rfl (by omega)
  simp only [spec_ReadSetting_7_R, rec_wrap hi, e1, e2, hidx, Option.bind_some]
  rw [dec_true (show (i : Int) < 6 by omega), idx_wd (show 1 + 3 * i < w.length by omega), idx_wd (show 2 + 3 * i < w.length by omega), idx_wd (show 3 + 3 * i < w.length by omega), c3, wrap_succ (by omega)]
  simp only [Option.bind_some, cond_true, spec_CheckOf_ok, matchB, check_bd, hh, Bool.and_true]
  cases hq : (wd w (1 + 3 * i) == s) with
  | false =>
    simp only [Bool.and_false, Bool.false_and, cond_false]
  | true =>
    have hq' : wd w (1 + 3 * i) = s := by simpa using hq
    rw [hq']
    simp only [Bool.and_true, cond_true]
    cases isSettingB s (wd w (2 + 3 * i)) <;> cases (wd w (3 + 3 * i) == checkI s (wd w (2 + 3 * i)) (wd w 0)) <;> rfl

theorem spec_read_loop {s : Int} {f : TFlash} {a : Int} {w : List Int} (hidx : idx f.1 a = some w) (hw : w.length = 19) (hh : hdB (wd w 0) = true) :
    spec_ReadSetting_7_loop ((s, (), a, 0, false, 0, ()), (f, ())) = some (.inl (((optI (readDown s w 6)).1, (optI (readDown s w 6)).2, ()), ())) := by
  unfold spec_ReadSetting_7_loop
  have := loopF_run (step := fun x : ((Int × (Unit × (Int × (Int × (Bool × (Int × Unit)))))) × (TFlash × Unit)) => spec_ReadSetting_7_R x.1.1 x.1.2.1 x.1.2.2.1 x.1.2.2.2.1 x.1.2.2.2.2.1 x.1.2.2.2.2.2.1 x.2.1)
    (fun k => ((s, (), a, (optI (readDown s w k)).1, (optI (readDown s w k)).2, (k : Int), ()), (f, ()))) 6 (.inl (((optI (readDown s w 6)).1, (optI (readDown s w 6)).2, ()), ())) (by
      intro k hk
      simp only [spec_read_step hidx hw hh hk, readDown]
      cases matchB s w k <;> rfl) (by
      simp only [spec_ReadSetting_7_R]
      rfl)
  exact this

theorem spec_ReadSetting_ok (f : TFlash) (s : Int) (hz : szT tFlash f ≤ big20) : spec_ReadSetting f s = some ((optI (readF f s)).1, (optI (readF f s)).2, ()) := by
  unfold spec_ReadSetting readF
  rw [spec_ActivePage_ok f hz]
  simp only [Option.bind_some, spec_l1In_ok]
  by_cases ha : activeF f < 0
  · rw [dec_true ha]; rfl
  · rw [dec_false ha]
    obtain ⟨w, h1, h2, h3, h4, _⟩ := active_page ha
    rw [h2]
    by_cases hs : 0 ≤ s ∧ s ≤ 3
    · rw [dec_true hs]
      simp only [cond_false, Bool.not_true, spec_read_loop h1 h3 h4, Option.bind_some]
      rfl
    · rw [dec_false hs]
      have : ∀ n, readDown s w n = none := by
        intro n
        induction n with
        | zero => rfl
        | succ n ih =>
          simp only [readDown, ih]
          have : matchB s w n = false := by
            unfold matchB
            cases hq : (wd w (1 + 3 * n) == s) with
            | false => simp
            | true =>
              have hq' : wd w (1 + 3 * n) = s := by simpa using hq
              rw [hq', show isSettingB s (wd w (2 + 3 * n)) = false by simp [isSettingB]; omega]
              rfl
          rw [this]; rfl
      rw [this]; rfl

theorem readDown_bd {s : Int} {w : List Int} : ∀ {n : Nat} {v : Int}, readDown s w n = some v → 0 ≤ v ∧ v ≤ 9999
  | 0, v, h => by simp [readDown] at h
  | n + 1, v, h => by
    simp only [readDown] at h
    cases hm : matchB s w n with
    | true =>
      rw [hm] at h
      simp only [cond_true, Option.some.injEq] at h
      subst h
      simp only [matchB, Bool.and_eq_true, isSettingB, decide_eq_true_eq] at hm
      omega
    | false =>
      rw [hm] at h
      exact readDown_bd h
theorem readF_bd {f : TFlash} {s v : Int} (h : readF f s = some v) : 0 ≤ v ∧ v ≤ 9999 := by
  unfold readF at h
  cases hd : decide (activeF f < 0) with
  | true => rw [hd] at h; simp at h
  | false => rw [hd] at h; exact readDown_bd h

def partI (o : Option Int) (lo hi d : Int) : Int := match o with
  | some v => cond (decide (lo ≤ v ∧ v ≤ hi)) v d
  | none => d
theorem spec_l23Part_ok (f : TFlash) (s lo hi d : Int) (hz : szT tFlash f ≤ big20) : spec_l23Part f s lo hi d = some (partI (readF f s) lo hi d, ()) := by
  unfold spec_l23Part
  simp only [spec_ReadSetting_ok f _ hz, Option.bind_some, spec_l1In_ok]
  cases readF f s with
  | none => rfl
  | some v =>
    by_cases h : lo ≤ v ∧ v ≤ hi
    · simp [optI, partI, h]
    · simp [optI, partI, h]
def startT (f : TFlash) : TTiming := (partI (readF f 0) 1 1000 200, partI (readF f 1) 0 1000 100, partI (readF f 2) 0 2 0, ())
theorem spec_StartTiming_ok (f : TFlash) (hz : szT tFlash f ≤ big20) : spec_StartTiming f = some (startT f, ()) := by
  unfold spec_StartTiming startT
  simp only [spec_l23Part_ok f _ _ _ _ hz, Option.bind_some]
theorem impl_StartTiming_ok (f : TFlash) (hz : szT tFlash f ≤ big20) : impl_StartTiming f = some (startT f, ()) := by
  unfold startT
  have b1 : ∀ v, readF f 1 = some v → 0 ≤ v := fun v h => (readF_bd h).1
  have b2 : ∀ v, readF f 2 = some v → 0 ≤ v := fun v h => (readF_bd h).1
  have key : ∀ (v0 v1 v2 : Int) (b0 b1 b2 : Bool), (b1 = true → 0 ≤ v1) → (b2 = true → 0 ≤ v2) → impl_ReadSetting f 0 = some (v0, b0, ()) → impl_ReadSetting f 1 = some (v1, b1, ()) → impl_ReadSetting f 2 = some (v2, b2, ()) →
      impl_StartTiming f = some ((cond (b0 && decide (1 ≤ v0 ∧ v0 ≤ 1000)) v0 200, cond (b1 && decide (0 ≤ v1 ∧ v1 ≤ 1000)) v1 100, cond (b2 && decide (0 ≤ v2 ∧ v2 ≤ 2)) v2 0, ()), ()) := by
    intro v0 v1 v2 b0 b1 b2 h1 h2 e0 e1 e2
    unfold impl_StartTiming
    rw [e0]
    simp only [Option.bind_some]
    have q0 : decide (1 ≤ v0 ∧ v0 ≤ 1000) = (decide (v0 ≥ 1) && decide (v0 ≤ 1000)) := by rw [Bool.eq_iff_iff]; simp
    rw [q0, e1]
    simp only [Option.bind_some]
    rw [e2]
    simp only [Option.bind_some]
    have q1 : (b1 && decide (0 ≤ v1 ∧ v1 ≤ 1000)) = (b1 && decide (v1 ≤ 1000)) := by
      cases b1 with
      | false => rfl
      | true => rw [Bool.eq_iff_iff]; simp; intro _; exact h1 rfl
    have q2 : (b2 && decide (0 ≤ v2 ∧ v2 ≤ 2)) = (b2 && decide (v2 ≤ 2)) := by
      cases b2 with
      | false => rfl
      | true => rw [Bool.eq_iff_iff]; simp; intro _; exact h2 rfl
    rw [q1, q2]
    by_cases c1 : v0 ≥ 1 <;> by_cases c2 : v0 ≤ 1000 <;> by_cases c3 : v1 ≤ 1000 <;> by_cases c4 : v2 ≤ 2 <;> simp only [c1, c2, c3, c4, decide_true, decide_false] <;> cases b0 <;> cases b1 <;> cases b2 <;> rfl
  have hk := key (optI (readF f 0)).1 (optI (readF f 1)).1 (optI (readF f 2)).1 (optI (readF f 0)).2 (optI (readF f 1)).2 (optI (readF f 2)).2
    (by intro h; cases ho : readF f 1 with | none => rw [ho] at h; simp [optI] at h | some v => exact b1 v ho)
    (by intro h; cases ho : readF f 2 with | none => rw [ho] at h; simp [optI] at h | some v => exact b2 v ho)
    (impl_ReadSetting_ok f _ hz) (impl_ReadSetting_ok f _ hz) (impl_ReadSetting_ok f _ hz)
  rw [hk]
  cases readF f 0 <;> cases readF f 1 <;> cases readF f 2 <;> rfl
theorem StartTiming_same (f : TFlash) (_ : Rng tFlash f) (hz : szT tFlash f ≤ big20) : ∃ w, spec_StartTiming f = some (w, ()) ∧ impl_StartTiming f = some (w, ()) :=
  ⟨_, spec_StartTiming_ok f hz, impl_StartTiming_ok f hz⟩
end KF

namespace KF
open Go

/-! ### Packets -/
def sealG (k : Nat) (s : Int) (x : Int) : Int := IntKind.wrap .i64 (s + IntKind.wrap .i64 (IntKind.wrap .i64 x * IntKind.wrap .i64 ((k : Int) + 1)))
def sealL (a : List Int) : List Int :=
  if a.length ≥ 8 then [] else (a ++ List.replicate (8 - a.length) 0).set 7 (IntKind.wrap .u8 (Int.tmod (foldK sealG 0 90 a) 256))

theorem foldK_two {α S T : Type} (g : Nat → S → α → S) (h : Nat → T → α → T) : ∀ (xs : List α) (k : Nat) (s : S) (t : T),
    foldK (fun k (p : S × T) x => (g k p.1 x, h k p.2 x)) k (s, t) xs = (foldK g k s xs, foldK h k t xs)
  | [], _, _, _ => rfl
  | x :: xs, k, s, t => by simp only [foldK]; exact foldK_two g h xs (k + 1) _ _

theorem foldK_set {α : Type} : ∀ (xs : List α) (k : Nat) (o : List α), k + xs.length ≤ o.length → foldK (fun k o x => o.set k x) k o xs = o.take k ++ xs ++ o.drop (k + xs.length)
  | [], k, o, h => by simp [foldK]
  | x :: xs, k, o, h => by
    simp only [List.length_cons] at h
    simp only [foldK]
    rw [foldK_set xs (k + 1) (o.set k x) (by simp; omega)]
    have h1 : (o.set k x).take (k + 1) = o.take k ++ [x] := by
      rw [List.take_succ_eq_append_getElem (by simp; omega), List.take_set_of_le (Nat.le_refl _), List.getElem_set_self]
    have h2 : (o.set k x).drop (k + 1 + xs.length) = o.drop (k + (xs.length + 1)) := by
      rw [List.drop_set, if_pos (by omega), show k + 1 + xs.length = k + (xs.length + 1) by omega]
    rw [h1, h2, List.length_cons]
    simp

theorem impl_SealPacket_ok (a : List Int) : impl_SealPacket a = some (sealL a, ()) := by
  unfold impl_SealPacket sealL
  by_cases h8 : a.length ≥ 8
  · rw [dec_true (show ((a.length : Nat) : Int) ≥ 8 by omega), if_pos h8]; rfl
  rw [dec_false (show ¬ ((a.length : Nat) : Int) ≥ 8 by omega), if_neg h8]
  have hz : (((8 : Int) == (8 : Int)) && (decide ((0 : Int) ≤ (8 : Int)) && decide ((8 : Int) ≤ ((lim : Nat) : Int)))) = true := by decide
  rw [hz]
  have hb : Nat.ble a.length (List.length (List.replicate (Int.toNat (8 : Int)) (0 : Int))) = true := by
    rw [Nat.ble_eq]; simp; omega
  rw [hb]
  have hl := (loopF_fold (step := fun x : ((List Int) × (Int × ((List Int) × (Int × (Int × Unit))))) × Unit => impl_SealPacket_7_R x.1.1 x.1.2.1 x.1.2.2.1 x.1.2.2.2.1 x.1.2.2.2.2.1) a sealG
    (fun s i => (((List.append a (List.drop (List.length a) (List.replicate (Int.toNat (8 : Int)) (0 : Int)))), s, a, (a.length : Int), i, ()), ())) (fun s => .inl (((List.append a (List.drop (List.length a) (List.replicate (Int.toNat (8 : Int)) (0 : Int)))), s, ()), ())) (fun _ _ => True)
    (by
      intro k hk s _
      refine ⟨?_, trivial⟩
      simp only [impl_SealPacket_7_R]
      rw [dec_true (show (k : Int) < (a.length : Int) by omega), idx_lt hk]
      rfl) (by
      intro s _
      simp only [impl_SealPacket_7_R]
      rw [dec_false (by omega)]
      rfl) (by omega) 90 trivial).1
  simp only [cond_true, cond_false]
  unfold impl_SealPacket_7_loop
  erw [hl]
  simp only [Option.bind_some, Sum.elim_inl, show ((256 : Int) == 0) = false from rfl, cond_false]
  have hd : List.append a (List.drop (List.length a) (List.replicate (Int.toNat (8 : Int)) (0 : Int))) = a ++ List.replicate (8 - a.length) 0 := by
    show a ++ _ = _
    rw [List.drop_replicate]
    rfl
  rw [hd]
  have hlen : (a ++ List.replicate (8 - a.length) (0 : Int)).length = 8 := by simp; omega
  have h7 : inb (a ++ List.replicate (8 - a.length) (0 : Int)).length 7 = true := by rw [hlen]; rfl
  rw [h7]
  simp only [cond_true, show Int.toNat (7 : Int) = 7 from rfl]
  rw [List.getElem?_eq_getElem (by omega)]
  rfl

theorem spec_SealPacket_ok (a : List Int) : spec_SealPacket a = some (sealL a, ()) := by
  unfold spec_SealPacket sealL
  by_cases h8 : a.length ≥ 8
  · rw [dec_true (show ((a.length : Nat) : Int) ≥ 8 by omega), if_pos h8]; rfl
  rw [dec_false (show ¬ ((a.length : Nat) : Int) ≥ 8 by omega), if_neg h8]
  have hz : (((8 : Int) == (8 : Int)) && (decide ((0 : Int) ≤ (8 : Int)) && decide ((8 : Int) ≤ ((lim : Nat) : Int)))) = true := by decide
  rw [hz]
  have hl := (loopF_fold (step := fun x : ((List Int) × ((List Int) × (Int × (Int × Unit)))) × Unit => spec_SealPacket_6_R x.1.1 x.1.2.1 x.1.2.2.1 x.1.2.2.2.1) a (fun k (p : List Int × Int) x => (p.1.set k x, sealG k p.2 x))
    (fun s i => ((a, s.1, s.2, i, ()), ())) (fun s => .inl ((s.1, s.2, ()), ())) (fun _ s => s.1.length = 8)
    (by
      intro k hk s hs
      refine ⟨?_, by simpa using hs⟩
      simp only [spec_SealPacket_6_R]
      rw [dec_true (show (k : Int) < (a.length : Int) by omega), idx_lt hk, inb_nat, dec_true (show k < s.1.length by omega)]
      simp only [cond_true, Option.bind_some, Int.toNat_natCast, List.getElem?_eq_getElem (show k < s.1.length by omega)]
      rw [Int.mul_comm (IntKind.wrap .i64 ((k : Int) + 1))]
      rfl) (by
      intro s _
      simp only [spec_SealPacket_6_R]
      rw [dec_false (by omega)]
      rfl) (by omega) (List.replicate (Int.toNat (8 : Int)) (0 : Int), 90) (by simp)).1
  rw [foldK_two (fun k (o : List Int) x => o.set k x) sealG, foldK_set _ _ _ (by simp; omega)] at hl
  simp only [cond_true, cond_false]
  unfold spec_SealPacket_6_loop
  erw [hl]
  simp only [Option.bind_some, Sum.elim_inl, show ((256 : Int) == 0) = false from rfl, cond_false, List.take_zero, List.nil_append, Nat.zero_add]
  have hd : a ++ List.drop a.length (List.replicate (Int.toNat (8 : Int)) (0 : Int)) = a ++ List.replicate (8 - a.length) 0 := by
    rw [List.drop_replicate]
    rfl
  rw [hd]
  have hlen : (a ++ List.replicate (8 - a.length) (0 : Int)).length = 8 := by simp; omega
  have h7 : inb (a ++ List.replicate (8 - a.length) (0 : Int)).length 7 = true := by rw [hlen]; rfl
  rw [h7]
  simp only [cond_true, show Int.toNat (7 : Int) = 7 from rfl]
  rw [List.getElem?_eq_getElem (by omega)]
  rfl

def isPacketB (b : List Int) : Bool := ((b.length : Int) == 8) && (strOf (sealL (cutl b 0 7)) == strOf b)
theorem impl_IsPacket_ok (b : List Int) : impl_IsPacket b = some (isPacketB b, ()) := by
  unfold impl_IsPacket isPacketB
  cases h : ((b.length : Int) == 8) with
  | false => rfl
  | true =>
    have h8 : (b.length : Int) = 8 := by simpa using h
    have hc : cutOk (List.length b) (0 : Int) (7 : Int) = true := by simp [cutOk]; omega
    rw [hc, impl_SealPacket_ok]
    rfl
theorem spec_IsPacket_ok (b : List Int) : spec_IsPacket b = some (isPacketB b, ()) := by
  unfold spec_IsPacket isPacketB
  cases h : ((b.length : Int) == 8) with
  | false => rfl
  | true =>
    have h8 : (b.length : Int) = 8 := by simpa using h
    have hc : cutOk (List.length b) (0 : Int) (7 : Int) = true := by simp [cutOk]; omega
    rw [hc, spec_SealPacket_ok]
    rfl

theorem szByteL (a : List Int) : szT (.sl byte) a = a.length := szT_flat (e := byte) rfl a
theorem IsPacket_same (a : List Int) (_ : Rng (.sl byte) a) (_ : szT (.sl byte) a ≤ big20) : ∃ w, spec_IsPacket a = some (w, ()) ∧ impl_IsPacket a = some (w, ()) :=
  ⟨_, spec_IsPacket_ok a, impl_IsPacket_ok a⟩
theorem sealL_len (a : List Int) : (sealL a).length ≤ 8 := by
  unfold sealL
  split
  · simp
  · simp; omega
theorem SealPacket_same (a : List Int) (_ : Rng (.sl byte) a) (_ : szT (.sl byte) a ≤ big20) : ∃ w, spec_SealPacket a = some (w, ()) ∧ impl_SealPacket a = some (w, ()) ∧ szT (.sl byte) w ≤ big20 :=
  ⟨_, spec_SealPacket_ok a, impl_SealPacket_ok a, by rw [szByteL]; have := sealL_len a; show _ ≤ 1048576; omega⟩
end KF

namespace KF
open Go
/-- n rounds -/
def iter {S : Type} (g : Nat → S → S) : Nat → S → S
  | 0, s => s
  | n + 1, s => g n (iter g n s)
theorem loopF_count {X R S : Type} {step : X → Option (X ⊕ R)} (n : Nat) (hn : n < 9223372036854775807) (g : Nat → S → S) (s0 : S) (I : S → Int → X) (out : S → R)
    (h : ∀ k, k < n → step (I (iter g k s0) (k : Int)) = some (.inl (I (g k (iter g k s0)) (IntKind.wrap .i64 ((k : Int) + 1))))) (he : step (I (iter g n s0) (n : Int)) = some (.inr (out (iter g n s0)))) :
    loopF step (I s0 0) = some (out (iter g n s0)) := by
  have := loopF_run (step := step) (fun k => I (iter g k s0) (k : Int)) n (out (iter g n s0)) (fun k hk => by
    rw [h k hk, wrap_succ (by omega)]; rfl) he
  exact this
theorem iter_inv {S : Type} {g : Nat → S → S} {p : Nat → S → Prop} {s0 : S} (h0 : p 0 s0) (hs : ∀ k s, p k s → p (k + 1) (g k s)) : ∀ n, p n (iter g n s0)
  | 0 => h0
  | n + 1 => hs n _ (iter_inv h0 hs n)
theorem sz_le {e : Ty} {c : Nat} : ∀ {w : List (T e)}, (∀ x ∈ w, szT e x ≤ c) → szT (.sl e) w ≤ (c + 1) * w.length
  | [], _ => by simp [szT]
  | x :: r, h => by
    have h1 := h x (by simp)
    have h2 : szT (.sl e) r ≤ (c + 1) * r.length := sz_le fun y hy => h y (by simp [hy])
    have h3 : szT (.sl e) r = List.length r + (List.map (szT e) r).sum := rfl
    have h4 : szT (.sl e) (x :: r) = (List.length r + 1) + (szT e x + (List.map (szT e) r).sum) := by simp [szT]
    rw [h4, List.length_cons, Nat.mul_add]
    omega
theorem lim_ok {n : Nat} (h : n ≤ 1073741824) : Nat.ble n lim = true := Nat.ble_eq_true_of_le h

def readP (i k : Nat) : List Int := sealL [2, IntKind.wrap .u8 (i : Int), IntKind.wrap .u8 (k : Int)]
def readI (n i : Nat) (o : List (List Int)) : List (List Int) := iter (fun k o => List.append o [readP i k]) n o
def readO (n l : Nat) : List (List Int) := iter (fun i o => readI n i o) l []
def small (c : Nat) (o : List (List Int)) : Prop := List.length o = c ∧ ∀ x ∈ o, List.length x ≤ 8
theorem small_snoc {c i k : Nat} {o : List (List Int)} (h : small c o) : small (c + 1) (List.append o [readP i k]) := by
  refine ⟨by simp [h.1], fun x hx => ?_⟩
  rcases List.mem_append.1 hx with hx | hx
  · exact h.2 x hx
  · simp only [List.mem_singleton] at hx
    subst hx
    exact sealL_len _
theorem readI_small {n i c : Nat} {o : List (List Int)} (h : small c o) : small (c + n) (readI n i o) :=
  iter_inv (p := fun k o => small (c + k) o) h (fun k s hs => by rw [← Nat.add_assoc]; exact small_snoc hs) n
theorem readO_small (n : Nat) : ∀ l, small (l * n) (readO n l) :=
  iter_inv (p := fun l o => small (l * n) o) ⟨by simp, by simp⟩ (fun k s hs => by rw [Nat.succ_mul]; exact readI_small hs)
theorem spec_read_in {n i c : Nat} (l : Int) {o : List (List Int)} (hn : n ≤ 32) (ho : small c o) (hc : c ≤ 1000) :
    spec_ReadScript_6_loop (((n : Int), l, o, (i : Int), 0, ()), ()) = some (.inl (((n : Int), l, readI n i o, (i : Int), ()), ())) := by
  unfold spec_ReadScript_6_loop
  have := loopF_count (step := fun x : (Int × Int × List (List Int) × Int × Int × Unit) × Unit => spec_ReadScript_6_R x.1.1 x.1.2.1 x.1.2.2.1 x.1.2.2.2.1 x.1.2.2.2.2.1) n (by omega) (fun k o => List.append o [readP i k]) o
    (fun o k => (((n : Int), l, o, (i : Int), k, ()), ())) (fun o => .inl (((n : Int), l, o, (i : Int), ()), ())) (fun k hk => by
      have hs : small (c + k) (readI k i o) := readI_small ho
      have hs1 := hs.1
      simp only [spec_ReadScript_6_R]
      rw [dec_true (by omega), spec_SealPacket_ok]
      simp only [cond_true, Option.bind_some]
      rw [lim_ok (by
        show List.length (readI k i o) + 1 ≤ _
        omega)]
      rfl) (by
      simp only [spec_ReadScript_6_R]
      rw [dec_false (by omega)]
      rfl)
  exact this
theorem impl_read_in {n i c : Nat} (l : Int) {o : List (List Int)} (hn : n ≤ 32) (ho : small c o) (hc : c ≤ 1000) :
    impl_ReadScript_8_loop (((n : Int), o, (i : Int), l, (i : Int), (n : Int), 0, ()), ()) = some (.inl (((n : Int), readI n i o, l, (i : Int), ()), ())) := by
  unfold impl_ReadScript_8_loop
  have := loopF_count (step := fun x : (Int × List (List Int) × Int × Int × Int × Int × Int × Unit) × Unit => impl_ReadScript_8_R x.1.1 x.1.2.1 x.1.2.2.1 x.1.2.2.2.1 x.1.2.2.2.2.1 x.1.2.2.2.2.2.1 x.1.2.2.2.2.2.2.1) n (by omega) (fun k o => List.append o [readP i k]) o
    (fun o k => (((n : Int), o, (i : Int), l, (i : Int), (n : Int), k, ()), ())) (fun o => .inl (((n : Int), o, l, (i : Int), ()), ())) (fun k hk => by
      have hs : small (c + k) (readI k i o) := readI_small ho
      have hs1 := hs.1
      simp only [impl_ReadScript_8_R]
      rw [dec_true (by omega), impl_SealPacket_ok]
      simp only [cond_true, Option.bind_some]
      rw [lim_ok (by
        show List.length (readI k i o) + 1 ≤ _
        omega)]
      rfl) (by
      simp only [impl_ReadScript_8_R]
      rw [dec_false (by omega)]
      rfl)
  exact this
theorem mul_small {l n : Nat} (hl : l ≤ 4) (hn : n ≤ 32) : l * n ≤ 128 := Nat.le_trans (Nat.mul_le_mul hl hn) (by omega)
def readF' (n l : Int) : List (List Int) := cond (decide (1 ≤ n ∧ n ≤ 32 ∧ 1 ≤ l ∧ l ≤ 4)) (readO n.toNat l.toNat) []
theorem impl_ReadScript_ok (n l : Int) : impl_ReadScript n l = some (readF' n l, ()) := by
  unfold impl_ReadScript readF'
  by_cases h : 1 ≤ n ∧ n ≤ 32 ∧ 1 ≤ l ∧ l ≤ 4
  case neg =>
    rw [dec_false h]
    by_cases h1 : n < 1
    · rw [dec_true h1]; rfl
    by_cases h2 : n > 32
    · rw [dec_false h1, dec_true h2]; rfl
    by_cases h3 : l < 1
    · rw [dec_false h1, dec_false h2, dec_true h3]; rfl
    · rw [dec_false h1, dec_false h2, dec_false h3, dec_true (by omega)]; rfl
  rw [dec_true h, dec_false (by omega), dec_false (by omega), dec_false (by omega), dec_false (by omega)]
  simp only [cond_true, cond_false]
  obtain ⟨n, rfl⟩ := Int.eq_ofNat_of_zero_le (show 0 ≤ n by omega)
  obtain ⟨l, rfl⟩ := Int.eq_ofNat_of_zero_le (show 0 ≤ l by omega)
  have hl := loopF_count (step := fun x : (Int × List (List Int) × Int × Int × Unit) × Unit => impl_ReadScript_5_R x.1.1 x.1.2.1 x.1.2.2.1 x.1.2.2.2.1) l (by omega) (fun i o => readI n i o) []
    (fun o k => (((n : Int), o, (l : Int), k, ()), ())) (fun o => .inl ((o, ()), ())) (fun k hk => by
      have hs : small (k * n) (readO n k) := readO_small n k
      simp only [impl_ReadScript_5_R]
      rw [dec_true (by omega)]
      simp only [cond_true]
      have hin := impl_read_in (i := k) (l : Int) (show n ≤ 32 by omega) hs (by have := mul_small (show k ≤ 4 by omega) (show n ≤ 32 by omega); omega)
      show Option.bind (impl_ReadScript_8_loop (((n : Int), readO n k, (k : Int), (l : Int), (k : Int), (n : Int), 0, ()), ())) _ = _
      rw [hin]
      rfl) (by
      simp only [impl_ReadScript_5_R]
      rw [dec_false (by omega)]
      rfl)
  unfold impl_ReadScript_5_loop
  erw [hl]
  rfl
theorem spec_ReadScript_ok (n l : Int) : spec_ReadScript n l = some (readF' n l, ()) := by
  unfold spec_ReadScript readF'
  by_cases h : 1 ≤ n ∧ n ≤ 32 ∧ 1 ≤ l ∧ l ≤ 4
  case neg =>
    rw [dec_false h]
    have : spec_ReadScript_3_R n l [] 0 = some (.inr (.inl (([], ()), ()))) := by
      simp only [spec_ReadScript_3_R, spec_l1In_ok, Option.bind_some]
      by_cases h1 : 0 < l
      · rw [dec_true h1]
        by_cases h2 : 1 ≤ n ∧ n ≤ 32
        · rw [dec_true h2, dec_false (by omega)]; rfl
        · rw [dec_false h2]; rfl
      · rw [dec_false h1]; rfl
    unfold spec_ReadScript_3_loop
    rw [loopF_of this]
    rfl
  rw [dec_true h]
  simp only [cond_true]
  obtain ⟨n, rfl⟩ := Int.eq_ofNat_of_zero_le (show 0 ≤ n by omega)
  obtain ⟨l, rfl⟩ := Int.eq_ofNat_of_zero_le (show 0 ≤ l by omega)
  have hl := loopF_count (step := fun x : (Int × Int × List (List Int) × Int × Unit) × Unit => spec_ReadScript_3_R x.1.1 x.1.2.1 x.1.2.2.1 x.1.2.2.2.1) l (by omega) (fun i o => readI n i o) []
    (fun o k => (((n : Int), (l : Int), o, k, ()), ())) (fun o => .inl ((o, ()), ())) (fun k hk => by
      have hs : small (k * n) (readO n k) := readO_small n k
      simp only [spec_ReadScript_3_R, spec_l1In_ok, Option.bind_some]
      rw [dec_true (show (k : Int) < (l : Int) by omega), dec_true (show 1 ≤ (n : Int) ∧ (n : Int) ≤ 32 by omega), dec_true (show (l : Int) ≤ 4 by omega)]
      simp only [cond_true]
      have hin := spec_read_in (i := k) (l : Int) (show n ≤ 32 by omega) hs (by have := mul_small (show k ≤ 4 by omega) (show n ≤ 32 by omega); omega)
      show Option.bind (spec_ReadScript_6_loop (((n : Int), (l : Int), readO n k, (k : Int), 0, ()), ())) _ = _
      rw [hin]
      rfl) (by
      simp only [spec_ReadScript_3_R]
      rw [dec_false (by omega)]
      rfl)
  unfold spec_ReadScript_3_loop
  erw [hl]
  rfl
theorem ReadScript_same (n l : Int) (_ : Rng int n) (_ : Rng int l) : ∃ w, spec_ReadScript n l = some (w, ()) ∧ impl_ReadScript n l = some (w, ()) ∧ szT (.sl (.sl byte)) w ≤ big20 := by
  refine ⟨_, spec_ReadScript_ok n l, impl_ReadScript_ok n l, ?_⟩
  unfold readF'
  by_cases h : 1 ≤ n ∧ n ≤ 32 ∧ 1 ≤ l ∧ l ≤ 4
  case neg => rw [dec_false h]; simp [szT]
  rw [dec_true h]
  have hs := readO_small n.toNat l.toNat
  have := sz_le (e := .sl byte) (c := 8) (w := readO n.toNat l.toNat) fun x hx => by rw [szByteL]; exact hs.2 x hx
  have hm := mul_small (show l.toNat ≤ 4 by omega) (show n.toNat ≤ 32 by omega)
  rw [hs.1] at this
  have h20 : big20 = 1048576 := rfl
  show szT (.sl (.sl byte)) (readO n.toNat l.toNat) ≤ big20
  omega
end KF

namespace KF
open Go
theorem foldK_snoc {α β : Type} (f : α → β) : ∀ (xs : List α) (k : Nat) (o : List β), foldK (fun _ o x => List.append o [f x]) k o xs = o ++ xs.map f
  | [], _, o => by simp [foldK]
  | x :: r, k, o => by
    simp only [foldK]
    rw [foldK_snoc f r]
    simp
/-- a loop that lays f of each element behind the others -/
theorem loopF_map {X R α β : Type} {step : X → Option (X ⊕ R)} (xs : List α) (f : α → β) (I : List β → Int → X) (out : List β → R) (hn : xs.length ≤ 1073741824)
    (h : ∀ k (hk : k < xs.length) (o : List β), List.length o = k → step (I o (k : Int)) = some (.inl (I (List.append o [f xs[k]]) (IntKind.wrap .i64 ((k : Int) + 1)))))
    (he : ∀ o : List β, step (I o (xs.length : Int)) = some (.inr (out o))) : loopF step (I [] 0) = some (out (xs.map f)) := by
  have := (loopF_fold (step := step) xs (fun _ o x => List.append o [f x]) I out (fun k o => List.length o = k) (fun k hk o ho => ⟨h k hk o ho, by simp [ho]⟩) (fun o _ => he o) (by omega) [] rfl).1
  rw [this, foldK_snoc]
  rfl
theorem szInts (a : List Int) : szT (.sl int) a = a.length := szT_flat (e := int) rfl a
theorem szActs (a : List TAction) : szT (.sl tAction) a = a.length := szT_flat (e := tAction) rfl a
theorem szReport (r : TReport) : szT tReport r = r.2.1.length := by
  show 0 + (szT (.sl int) r.2.1 + 0) = _
  rw [szInts]; omega
theorem spec_l7Copy_ok (r : TReport) (h : r.2.1.length ≤ big20) : spec_l7Copy r = some (r, ()) := by
  have h20 : big20 = 1048576 := rfl
  unfold spec_l7Copy
  rw [lim_ok (by simp; omega)]
  rfl
theorem impl_copyInts_ok (l : List Int) (h : l.length ≤ big20) : impl_copyInts l = some (l, ()) := by
  have h20 : big20 = 1048576 := rfl
  unfold impl_copyInts
  rw [lim_ok (by simp; omega)]
  rfl
theorem impl_copyReport_ok (r : TReport) (h : r.2.1.length ≤ big20) : impl_copyReport r = some (r, ()) := by
  unfold impl_copyReport
  rw [impl_copyInts_ok _ h]
  rfl
theorem sent_len {a : List TSent} (hz : szT (.sl tSent) a ≤ big20) {k : Nat} (hk : k < a.length) : a[k].2.1.2.1.length ≤ big20 := by
  have h1 : szT (.sl tSent) a = List.length a + (List.map (szT tSent) a).sum := rfl
  have h2 := sum_map_le (f := szT tSent) hk
  have h3 : szT tSent a[k] = szT tReport a[k].2.1 := by
    show 0 + (szT tReport a[k].2.1 + 0) = _
    omega
  rw [szReport] at h3
  omega
theorem impl_ReportsOf_ok (a : List TSent) (hz : szT (.sl tSent) a ≤ big20) : impl_ReportsOf a = some (a.map (fun x => x.2.1), ()) := by
  have h20 : big20 = 1048576 := rfl
  have h1 : szT (.sl tSent) a = List.length a + (List.map (szT tSent) a).sum := rfl
  have hl := loopF_map (step := fun x : (List TReport × List TSent × Int × Int × Unit) × Unit => impl_ReportsOf_3_R x.1.1 x.1.2.1 x.1.2.2.1 x.1.2.2.2.1) a (fun x => x.2.1)
    (fun o k => ((o, a, (a.length : Int), k, ()), ())) (fun o => .inl ((o, ()), ())) (by omega) (fun k hk o ho => by
      simp only [impl_ReportsOf_3_R]
      rw [dec_true (by omega), idx_lt hk]
      simp only [cond_true, Option.bind_some]
      rw [impl_copyReport_ok _ (sent_len hz hk)]
      simp only [Option.bind_some]
      rw [lim_ok (by simp only [List.length_cons, List.length_nil]; omega)]
      rfl) (fun o => by
      simp only [impl_ReportsOf_3_R]
      rw [dec_false (by omega)]
      rfl)
  unfold impl_ReportsOf impl_ReportsOf_3_loop
  erw [hl]
  rfl
theorem spec_ReportsOf_ok (a : List TSent) (hz : szT (.sl tSent) a ≤ big20) : spec_ReportsOf a = some (a.map (fun x => x.2.1), ()) := by
  have h20 : big20 = 1048576 := rfl
  have h1 : szT (.sl tSent) a = List.length a + (List.map (szT tSent) a).sum := rfl
  have hl := loopF_map (step := fun x : (List TSent × List TReport × Int × Unit) × Unit => spec_ReportsOf_3_R x.1.1 x.1.2.1 x.1.2.2.1) a (fun x => x.2.1)
    (fun o k => ((a, o, k, ()), ())) (fun o => .inl ((o, ()), ())) (by omega) (fun k hk o ho => by
      simp only [spec_ReportsOf_3_R]
      rw [dec_true (by omega), idx_lt hk]
      simp only [cond_true, Option.bind_some]
      rw [spec_l7Copy_ok _ (sent_len hz hk)]
      simp only [Option.bind_some]
      rw [lim_ok (by simp only [List.length_cons, List.length_nil]; omega)]
      rfl) (fun o => by
      simp only [spec_ReportsOf_3_R]
      rw [dec_false (by omega)]
      rfl)
  unfold spec_ReportsOf spec_ReportsOf_3_loop
  erw [hl]
  rfl
theorem ReportsOf_same (a : List TSent) (_ : Rng (.sl tSent) a) (hz : szT (.sl tSent) a ≤ big20) : ∃ w, spec_ReportsOf a = some (w, ()) ∧ impl_ReportsOf a = some (w, ()) ∧ szT (.sl tReport) w ≤ big20 := by
  refine ⟨_, spec_ReportsOf_ok a hz, impl_ReportsOf_ok a hz, ?_⟩
  have h : ∀ l : List TSent, szT (.sl tReport) (l.map (fun x => x.2.1)) = szT (.sl tSent) l := by
    intro l
    show List.length (l.map _) + (List.map (szT tReport) (l.map (fun x : TSent => x.2.1))).sum = List.length l + (List.map (szT tSent) l).sum
    rw [List.length_map, List.map_map]
    congr 2
    refine List.map_congr_left fun x _ => ?_
    show szT tReport x.2.1 = 0 + (szT tReport x.2.1 + 0)
    omega
  show szT (.sl tReport) (a.map _) ≤ big20
  rw [h]
  exact hz
end KF

namespace KF
open Go
structure FlashOk (f : TFlash) : Prop where
  l1 : f.1.length = 2
  l2 : f.2.1.length = 2
  pg : ∀ i (h1 : i < f.1.length) (h2 : i < f.2.1.length), f.1[i].length = 19 ∧ 0 ≤ f.2.1[i] ∧ f.2.1[i] ≤ 1000 ∧ wordsB f.1[i] = true
theorem pageB_iff {p : List Int} {e : Int} : pageB p e = true ↔ p.length = 19 ∧ 0 ≤ e ∧ e ≤ 1000 ∧ wordsB p = true := by
  simp only [pageB, Bool.and_eq_true, beq_iff_eq, decide_eq_true_eq]
  constructor
  · rintro ⟨⟨h1, h2, h3⟩, h4⟩
    exact ⟨by omega, h2, h3, h4⟩
  · rintro ⟨h1, h2, h3, h4⟩
    exact ⟨⟨by omega, h2, h3⟩, h4⟩
theorem flash_ok_iff {f : TFlash} : isFlashB f = true ↔ FlashOk f := by
  obtain ⟨P, E, u⟩ := f
  constructor
  · intro h
    unfold isFlashB at h
    split at h
    · rename_i p q d e h1 h2
      simp only at h1 h2
      subst h1; subst h2
      simp only [Bool.and_eq_true, pageB_iff] at h
      refine ⟨rfl, rfl, fun i h1 h2 => ?_⟩
      have : i = 0 ∨ i = 1 := by simp at h1; omega
      rcases this with rfl | rfl
      · exact h.1
      · exact h.2
    · simp at h
  · rintro ⟨l1, l2, pg⟩
    match P, E, l1, l2, pg with
    | [p, q], [d, e], _, _, pg =>
      show (pageB p d && pageB q e) = true
      rw [Bool.and_eq_true, pageB_iff, pageB_iff]
      exact ⟨pg 0 (by simp) (by simp), pg 1 (by simp) (by simp)⟩
def zF : TFlash := ([], [], ())
def pgOf (o : TFlashOp) : Nat := o.2.1.toNat
def doB (f : TFlash) (o : TFlashOp) : Bool :=
  isFlashB f && (decide (0 ≤ o.2.1 ∧ o.2.1 ≤ 1) && cond o.1 (decide (o.2.2.1 = 0 ∧ o.2.2.2.1 = 0 ∧ f.2.1.getD (pgOf o) 0 < 1000))
    (decide (0 ≤ o.2.2.1 ∧ o.2.2.1 ≤ 18 ∧ 0 ≤ o.2.2.2.1 ∧ o.2.2.2.1 ≤ 65534 ∧ (f.1.getD (pgOf o) []).getD o.2.2.1.toNat 0 = 65535)))
def doF (f : TFlash) (o : TFlashOp) : TFlash :=
  cond o.1 (f.1.set (pgOf o) (List.replicate 19 65535), f.2.1.set (pgOf o) (f.2.1.getD (pgOf o) 0 + 1), ())
    (f.1.set (pgOf o) ((f.1.getD (pgOf o) []).set o.2.2.1.toNat o.2.2.2.1), f.2.1, ())
theorem flash_sz {f : TFlash} (h : FlashOk f) : szT tFlash f ≤ 100 := by
  have h0 : szT tFlash f = (List.length f.1 + (List.map (szT (.sl int)) f.1).sum) + (szT (.sl int) f.2.1 + 0) := rfl
  have h1 : ∀ x ∈ f.1, szT (.sl int) x ≤ 19 := fun x hx => by
    obtain ⟨i, hi, rfl⟩ := List.mem_iff_getElem.1 hx
    rw [szInts, (h.pg i hi (by rw [h.l2, ← h.l1]; exact hi)).1]
    exact Nat.le_refl _
  have h2 := sz_le (e := .sl int) h1
  have h3 : szT (.sl (.sl int)) f.1 = List.length f.1 + (List.map (szT (.sl int)) f.1).sum := rfl
  rw [h.l1] at h2
  have h4 := szInts f.2.1
  have h5 := h.l2
  omega
theorem iter_fill (v : Int) : ∀ (n : Nat) (row : List Int), n ≤ row.length → iter (fun k r => List.set r k v) n row = List.replicate n v ++ row.drop n
  | 0, row, _ => by simp [iter]
  | n + 1, row, h => by
    simp only [iter]
    rw [iter_fill v n row (by omega), List.set_append_right _ _ (by simp), List.length_replicate, Nat.sub_self, List.drop_eq_getElem_cons (show n < row.length by omega), List.set_cons_zero, List.replicate_succ']
    simp
theorem iter_fill_all (v : Int) (row : List Int) : iter (fun k r => List.set r k v) row.length row = List.replicate row.length v := by
  rw [iter_fill v _ row (Nat.le_refl _), List.drop_length, List.append_nil]
theorem iter_set_len (v : Int) (row : List Int) : ∀ n, (iter (fun k r => List.set r k v) n row).length = row.length :=
  iter_inv (p := fun _ (r : List Int) => r.length = row.length) rfl (fun k s hs => by simpa using hs)

theorem impl_copyFlash_ok {f : TFlash} (h : FlashOk f) : impl_copyFlash f = some (f, ()) := by
  have hb : ∀ i (hi : i < f.1.length), f.1[i].length = 19 := fun i hi => (h.pg i hi (by rw [h.l2, ← h.l1]; exact hi)).1
  have h20 : big20 = 1048576 := rfl
  have hl1 := h.l1
  have hl := loopF_map (step := fun x : (Unit × Unit × List (List Int) × Int × Int × Unit) × TFlash × TFlash × Unit => impl_copyFlash_3_R x.1.1 x.1.2.1 x.1.2.2.1 x.1.2.2.2.1 x.1.2.2.2.2.1 x.2.1 x.2.2.1) f.1 (fun x => x)
    (fun o k => (((), (), f.1, (f.1.length : Int), k, ()), (zF, (o, f.2.1, ()), ()))) (fun o => .inl (((), (), ()), (zF, (o, f.2.1, ()), ()))) (by omega) (fun k hk o ho => by
      have := hb k hk
      simp only [impl_copyFlash_3_R]
      rw [dec_true (by omega), idx_lt hk]
      simp only [cond_true, Option.bind_some]
      rw [impl_copyInts_ok _ (by omega)]
      simp only [Option.bind_some]
      rw [lim_ok (by simp only [List.length_cons, List.length_nil]; omega)]
      rfl) (fun o => by
      simp only [impl_copyFlash_3_R]
      rw [dec_false (by omega)]
      rfl)
  unfold impl_copyFlash impl_copyFlash_3_loop
  rw [impl_copyInts_ok _ (by have := h.l2; omega)]
  simp only [Option.bind_some]
  erw [hl]
  rw [List.map_id']
  rfl
theorem spec_l14Copy_ok {f : TFlash} (h : FlashOk f) : spec_l14Copy f = some (f, ()) := by
  have hb : ∀ i (hi : i < f.1.length), f.1[i].length = 19 := fun i hi => (h.pg i hi (by rw [h.l2, ← h.l1]; exact hi)).1
  have hl1 := h.l1
  have hl2 := h.l2
  have hl := loopF_map (step := fun x : (Unit × Unit × Unit × Int × Unit) × TFlash × TFlash × TFlash × Unit => spec_l14Copy_3_R x.1.1 x.1.2.1 x.1.2.2.1 x.1.2.2.2.1 x.2.1 x.2.2.1 x.2.2.2.1) f.1 (fun x => x)
    (fun o k => (((), (), (), k, ()), (f, zF, (o, f.2.1, ()), ()))) (fun o => .inl (((), (), ()), (zF, (o, f.2.1, ()), ()))) (by omega) (fun k hk o ho => by
      have := hb k hk
      simp only [spec_l14Copy_3_R]
      rw [dec_true (by omega), idx_lt hk]
      simp only [cond_true, Option.bind_some]
      rw [lim_ok (by simp; omega), lim_ok (by simp only [List.length_cons, List.length_nil]; omega)]
      rfl) (fun o => by
      simp only [spec_l14Copy_3_R]
      rw [dec_false (by omega)]
      rfl)
  unfold spec_l14Copy spec_l14Copy_3_loop
  rw [lim_ok (by simp; omega)]
  simp only [cond_true]
  erw [hl]
  rw [List.map_id']
  rfl
/-- the shape of an operation's page -/
theorem pg_facts {f : TFlash} (h : FlashOk f) {o : TFlashOp} (hp : 0 ≤ o.2.1 ∧ o.2.1 ≤ 1) : pgOf o < f.1.length ∧ pgOf o < f.2.1.length ∧ o.2.1 = ((pgOf o : Nat) : Int) := by
  have := h.l1
  have := h.l2
  unfold pgOf
  omega
theorem impl_erase_loop (o : TFlashOp) (P : List (List Int)) (E : List Int) (i : Nat) (row : List Int) (hr : row.length = 19) :
    impl_DoFlash_9_loop (((), (), (), row, (row.length : Int), 0, ()), (o, zF, ((P, (i : Int), row, row), E, ()), ())) =
      some (.inl (((), (), (), ()), (o, zF, ((P, (i : Int), row, List.replicate 19 65535), E, ()), ()))) := by
  unfold impl_DoFlash_9_loop
  have := loopF_count (step := fun x : (Unit × Unit × Unit × List Int × Int × Int × Unit) × TFlashOp × TFlash × ((List (List Int) × Int × List Int × List Int) × List Int × Unit) × Unit =>
      impl_DoFlash_9_R x.1.1 x.1.2.1 x.1.2.2.1 x.1.2.2.2.1 x.1.2.2.2.2.1 x.1.2.2.2.2.2.1 x.2.1 x.2.2.1 x.2.2.2.1) row.length (by omega) (fun k r => List.set r k 65535) row
    (fun r k => (((), (), (), r, (row.length : Int), k, ()), (o, zF, ((P, (i : Int), row, r), E, ()), ()))) (fun r => .inl (((), (), (), ()), (o, zF, ((P, (i : Int), row, r), E, ()), ()))) (fun k hk => by
      have hl := iter_set_len 65535 row k
      generalize iter (fun k r => List.set r k (65535 : Int)) k row = r at *
      simp only [impl_DoFlash_9_R]
      rw [dec_true (by omega), inb_nat, dec_true (by omega)]
      simp only [cond_true, Int.toNat_natCast, List.getElem?_eq_getElem (show k < r.length by omega), Option.bind_some]) (by
      simp only [impl_DoFlash_9_R]
      rw [dec_false (by omega)]
      rfl)
  rw [iter_fill_all, hr] at this
  rw [hr]
  exact this
theorem spec_erase_loop (o : TFlashOp) (P : List (List Int)) (E : List Int) (hp : o.2.1 = ((pgOf o : Nat) : Int)) (hi : pgOf o < P.length) (hr : P[pgOf o].length = 19) :
    spec_DoFlash_6_loop (((), (), (), 0, ()), (o, zF, (P, E, ()), ())) = some (.inl (((), (), (), ()), (o, zF, (List.set P (pgOf o) (List.replicate 19 65535), E, ()), ()))) := by
  unfold spec_DoFlash_6_loop
  have := loopF_count (step := fun x : (Unit × Unit × Unit × Int × Unit) × TFlashOp × TFlash × TFlash × Unit =>
      spec_DoFlash_6_R x.1.1 x.1.2.1 x.1.2.2.1 x.1.2.2.2.1 x.2.1 x.2.2.1 x.2.2.2.1) P[pgOf o].length (by omega) (fun k r => List.set r k 65535) P[pgOf o]
    (fun r k => (((), (), (), k, ()), (o, zF, (List.set P (pgOf o) r, E, ()), ()))) (fun r => .inl (((), (), (), ()), (o, zF, (List.set P (pgOf o) r, E, ()), ()))) (fun k hk => by
      have hl := iter_set_len 65535 P[pgOf o] k
      generalize iter (fun k r => List.set r k (65535 : Int)) k P[pgOf o] = r at *
      simp only [spec_DoFlash_6_R]
      rw [dec_true (by omega), hp, inb_nat, dec_true (by rw [List.length_set]; exact hi)]
      simp only [cond_true, Int.toNat_natCast]
      rw [List.getElem?_set_self hi]
      simp only [Option.bind_some]
      rw [inb_nat, dec_true (by omega)]
      simp only [cond_true, List.getElem?_eq_getElem (show k < r.length by omega), Option.bind_some, List.set_set]) (by
      simp only [spec_DoFlash_6_R]
      rw [dec_false (by omega)]
      rfl)
  rw [iter_fill_all, List.set_getElem_self, hr] at this
  exact this
end KF

namespace KF
open Go
theorem wordsB_iff {p : List Int} : wordsB p = true ↔ ∀ j (hj : j < p.length), 0 ≤ p[j] ∧ p[j] ≤ 65535 := by
  unfold wordsB
  rw [allK_true]
  simp
theorem getD_at {α : Type} {L : List α} {i : Nat} {z : α} (h : i < L.length) : L.getD i z = L[i] := by
  rw [List.getD_eq_getElem?_getD, List.getElem?_eq_getElem h]; rfl
theorem doB_eq {f : TFlash} {o : TFlashOp} (hf : isFlashB f = true) (hp : 0 ≤ o.2.1 ∧ o.2.1 ≤ 1) (g1 : pgOf o < f.1.length) (g2 : pgOf o < f.2.1.length) :
    doB f o = cond o.1 (decide (o.2.2.1 = 0 ∧ o.2.2.2.1 = 0 ∧ f.2.1[pgOf o] < 1000)) (decide (0 ≤ o.2.2.1 ∧ o.2.2.1 ≤ 18 ∧ 0 ≤ o.2.2.2.1 ∧ o.2.2.2.1 ≤ 65534 ∧ f.1[pgOf o].getD o.2.2.1.toNat 0 = 65535)) := by
  unfold doB
  rw [hf, dec_true hp, getD_at g2, getD_at g1]
  rfl
theorem doF_eq {f : TFlash} {o : TFlashOp} (g1 : pgOf o < f.1.length) (g2 : pgOf o < f.2.1.length) :
    doF f o = cond o.1 (f.1.set (pgOf o) (List.replicate 19 65535), f.2.1.set (pgOf o) (f.2.1[pgOf o] + 1), ()) (f.1.set (pgOf o) (f.1[pgOf o].set o.2.2.1.toNat o.2.2.2.1), f.2.1, ()) := by
  unfold doF
  rw [getD_at g2, getD_at g1]
theorem erased_ok {f : TFlash} {i : Nat} (hF : FlashOk f) (g2 : i < f.2.1.length) (h : f.2.1[i] < 1000) : FlashOk (f.1.set i (List.replicate 19 65535), f.2.1.set i (f.2.1[i] + 1), ()) := by
  refine ⟨by simpa using hF.l1, by simpa using hF.l2, fun j h1 h2 => ?_⟩
  simp only [List.length_set] at h1 h2
  simp only [List.getElem_set]
  by_cases e : i = j
  · subst e
    rw [if_pos rfl, if_pos rfl]
    have := hF.pg i h1 h2
    refine ⟨by simp, by omega, by omega, ?_⟩
    rw [wordsB_iff]
    intro j hj
    rw [List.getElem_replicate]
    omega
  · rw [if_neg e, if_neg e]
    exact hF.pg j h1 h2
theorem written_ok {f : TFlash} {i k : Nat} {v : Int} (hF : FlashOk f) (g1 : i < f.1.length) (hv : 0 ≤ v ∧ v ≤ 65535) : FlashOk (f.1.set i (f.1[i].set k v), f.2.1, ()) := by
  refine ⟨by simpa using hF.l1, hF.l2, fun j h1 h2 => ?_⟩
  simp only [List.length_set] at h1
  simp only [List.getElem_set]
  by_cases e : i = j
  · subst e
    rw [if_pos rfl]
    obtain ⟨e1, e2, e3, e4⟩ := hF.pg i h1 h2
    refine ⟨by rw [List.length_set]; exact e1, e2, e3, ?_⟩
    rw [wordsB_iff] at e4 ⊢
    intro j hj
    rw [List.getElem_set]
    split
    · exact hv
    · exact e4 j (by simpa using hj)
  · rw [if_neg e]
    exact hF.pg j h1 h2
theorem doF_ok {f : TFlash} {o : TFlashOp} (h : doB f o = true) : FlashOk (doF f o) := by
  have h0 := h
  simp only [doB, Bool.and_eq_true, decide_eq_true_eq] at h
  obtain ⟨hf, hp, _⟩ := h
  have hF := flash_ok_iff.1 hf
  obtain ⟨g1, g2, g3⟩ := pg_facts hF hp
  rw [doB_eq hf hp g1 g2] at h0
  rw [doF_eq g1 g2]
  cases ho : o.1 with
  | true =>
    rw [ho] at h0
    simp only [cond_true, decide_eq_true_eq] at h0 ⊢
    exact erased_ok hF g2 h0.2.2
  | false =>
    rw [ho] at h0
    simp only [cond_false, decide_eq_true_eq] at h0 ⊢
    exact written_ok hF g1 (by omega)
def resDo (f : TFlash) (o : TFlashOp) : Option (TFlash × Bool × Unit) := some (cond (doB f o) (doF f o) zF, doB f o, ())
theorem impl_DoFlash_ok (f : TFlash) (o : TFlashOp) (hz : szT tFlash f ≤ big20) : impl_DoFlash f o = resDo f o := by
  unfold impl_DoFlash resDo
  rw [impl_IsFlash_ok f hz]
  cases hf : isFlashB f with
  | false =>
    have : doB f o = false := by unfold doB; rw [hf]; rfl
    rw [this]; rfl
  | true =>
    have hF := flash_ok_iff.1 hf
    simp only [Option.bind_some, Bool.not_true, cond_false]
    by_cases hp : 0 ≤ o.2.1 ∧ o.2.1 ≤ 1
    case neg =>
      have : doB f o = false := by unfold doB; rw [hf, dec_false hp]; rfl
      rw [this]
      by_cases h0 : o.2.1 < 0
      · rw [dec_true h0]; rfl
      · rw [dec_false h0, dec_true (by omega)]; rfl
    rw [dec_false (show ¬ o.2.1 < 0 by omega), dec_false (show ¬ o.2.1 > 1 by omega), impl_copyFlash_ok hF]
    obtain ⟨g1, g2, g3⟩ := pg_facts hF hp
    obtain ⟨e1, e2, e3, e4⟩ := hF.pg (pgOf o) g1 g2
    have i1 : inb (List.length f.1) o.2.1 = true := by rw [g3, inb_nat]; exact dec_true g1
    have i2 : inb (List.length f.2.1) o.2.1 = true := by rw [g3, inb_nat]; exact dec_true g2
    have i3 : f.1[Int.toNat o.2.1]? = some f.1[pgOf o] := List.getElem?_eq_getElem g1
    have i4 : f.2.1[Int.toNat o.2.1]? = some f.2.1[pgOf o] := List.getElem?_eq_getElem g2
    rw [doB_eq hf hp g1 g2, doF_eq g1 g2]
    simp only [cond_false, Option.bind_some, i1, i3, cond_true]
    cases ho : o.1 with
    | true =>
      simp only [cond_true]
      by_cases h1 : o.2.2.1 = 0
      case neg =>
        rw [dec_false (by omega), show (o.2.2.1 != 0) = true by rw [bne_iff_ne]; exact h1]; rfl
      by_cases h2 : o.2.2.2.1 = 0
      case neg =>
        rw [dec_false (by omega), show (o.2.2.1 != 0) = false by rw [h1]; rfl, show (o.2.2.2.1 != 0) = true by rw [bne_iff_ne]; exact h2]; rfl
      rw [show (o.2.2.1 != 0) = false by rw [h1]; rfl, show (o.2.2.2.1 != 0) = false by rw [h2]; rfl]
      simp only [cond_false, i2, i4, cond_true, Option.bind_some]
      by_cases h3 : f.2.1[pgOf o] ≥ 1000
      · rw [dec_true h3, dec_false (by omega)]; rfl
      rw [dec_false h3, dec_true (by omega)]
      simp only [cond_false, cond_true]
      have hl := impl_erase_loop o f.1 f.2.1 (pgOf o) f.1[pgOf o] e1
      rw [show impl_DoFlash_9_loop (((), (), (), f.1[pgOf o], (f.1[pgOf o].length : Int), 0, ()), (o, ([], [], ()), ((f.1, (((Int.toNat o.2.1) : Nat) : Int), f.1[pgOf o], f.1[pgOf o]), f.2), ())) = _ from hl]
      simp only [Option.bind_some, Sum.elim_inl, i2, i4, cond_true]
      rw [wrap64 (by omega) (by omega)]
      rfl
    | false =>
      simp only [cond_false]
      by_cases h1 : o.2.2.1 < 0
      · rw [dec_false (show ¬ (0 ≤ o.2.2.1 ∧ o.2.2.1 ≤ 18 ∧ 0 ≤ o.2.2.2.1 ∧ o.2.2.2.1 ≤ 65534 ∧ f.1[pgOf o].getD o.2.2.1.toNat 0 = 65535) by omega), dec_true h1]; rfl
      by_cases h2 : o.2.2.1 ≥ 19
      · rw [dec_false (show ¬ (0 ≤ o.2.2.1 ∧ o.2.2.1 ≤ 18 ∧ 0 ≤ o.2.2.2.1 ∧ o.2.2.2.1 ≤ 65534 ∧ f.1[pgOf o].getD o.2.2.1.toNat 0 = 65535) by omega), dec_false h1, dec_true h2]; rfl
      by_cases h3 : o.2.2.2.1 < 0
      · rw [dec_false (show ¬ (0 ≤ o.2.2.1 ∧ o.2.2.1 ≤ 18 ∧ 0 ≤ o.2.2.2.1 ∧ o.2.2.2.1 ≤ 65534 ∧ f.1[pgOf o].getD o.2.2.1.toNat 0 = 65535) by omega), dec_false h1, dec_false h2, dec_true h3]; rfl
      by_cases h4 : o.2.2.2.1 ≥ 65535
      · rw [dec_false (show ¬ (0 ≤ o.2.2.1 ∧ o.2.2.1 ≤ 18 ∧ 0 ≤ o.2.2.2.1 ∧ o.2.2.2.1 ≤ 65534 ∧ f.1[pgOf o].getD o.2.2.1.toNat 0 = 65535) by omega), dec_false h1, dec_false h2, dec_false h3, dec_true h4]; rfl
      rw [dec_false h1, dec_false h2, dec_false h3, dec_false h4]
      have hat : o.2.2.1.toNat < f.1[pgOf o].length := by omega
      have i5 : inb (List.length f.1[pgOf o]) o.2.2.1 = true := by rw [show o.2.2.1 = ((o.2.2.1.toNat : Nat) : Int) by omega, inb_nat]; exact dec_true hat
      simp only [cond_false, i5, cond_true, List.getElem?_eq_getElem hat, Option.bind_some]
      rw [getD_at hat]
      by_cases h5 : f.1[pgOf o][o.2.2.1.toNat] = 65535
      · rw [show (f.1[pgOf o][o.2.2.1.toNat] != 65535) = false by rw [h5]; rfl, dec_true (by omega)]; rfl
      · rw [show (f.1[pgOf o][o.2.2.1.toNat] != 65535) = true by rw [bne_iff_ne]; exact h5, dec_false (by omega)]; rfl
theorem set_sz {f : TFlash} {i : Nat} {row : List Int} {e : Int} (hF : FlashOk f) (hr : row.length = 19) : szT tFlash (f.1.set i row, f.2.1.set i e, ()) ≤ big20 := by
  have h20 : big20 = 1048576 := rfl
  have h0 : szT tFlash (f.1.set i row, f.2.1.set i e, ()) = (List.length (f.1.set i row) + (List.map (szT (.sl int)) (f.1.set i row)).sum) + (szT (.sl int) (f.2.1.set i e) + 0) := rfl
  have h1 : ∀ x ∈ f.1.set i row, szT (.sl int) x ≤ 19 := fun x hx => by
    rw [szInts]
    rcases List.mem_or_eq_of_mem_set hx with hx | rfl
    · obtain ⟨j, hj, rfl⟩ := List.mem_iff_getElem.1 hx
      rw [(hF.pg j hj (by rw [hF.l2, ← hF.l1]; exact hj)).1]
      exact Nat.le_refl _
    · omega
  have h2 := sz_le (e := .sl int) h1
  have h3 : szT (.sl (.sl int)) (f.1.set i row) = List.length (f.1.set i row) + (List.map (szT (.sl int)) (f.1.set i row)).sum := rfl
  rw [List.length_set, hF.l1] at h2
  have h4 := szInts (f.2.1.set i e)
  rw [List.length_set, hF.l2] at h4
  omega
theorem spec_DoFlash_ok (f : TFlash) (o : TFlashOp) (hz : szT tFlash f ≤ big20) : spec_DoFlash f o = resDo f o := by
  unfold spec_DoFlash resDo
  rw [spec_IsFlash_ok f hz]
  cases hf : isFlashB f with
  | false =>
    have : doB f o = false := by unfold doB; rw [hf]; rfl
    rw [this]; rfl
  | true =>
    have hF := flash_ok_iff.1 hf
    simp only [Option.bind_some, Bool.not_true, cond_false, spec_l1In_ok]
    by_cases hp : 0 ≤ o.2.1 ∧ o.2.1 ≤ 1
    case neg =>
      have : doB f o = false := by unfold doB; rw [hf, dec_false hp]; rfl
      rw [this, dec_false hp]
      rfl
    rw [dec_true hp, spec_l14Copy_ok hF]
    obtain ⟨g1, g2, g3⟩ := pg_facts hF hp
    obtain ⟨e1, e2, e3, e4⟩ := hF.pg (pgOf o) g1 g2
    have i1 : inb (List.length f.1) o.2.1 = true := by rw [g3, inb_nat]; exact dec_true g1
    have i2 : inb (List.length f.2.1) o.2.1 = true := by rw [g3, inb_nat]; exact dec_true g2
    have i3 : f.1[Int.toNat o.2.1]? = some f.1[pgOf o] := List.getElem?_eq_getElem g1
    have i4 : f.2.1[Int.toNat o.2.1]? = some f.2.1[pgOf o] := List.getElem?_eq_getElem g2
    rw [doB_eq hf hp g1 g2, doF_eq g1 g2]
    simp only [cond_false, Option.bind_some, Bool.not_true]
    cases ho : o.1 with
    | true =>
      simp only [cond_true]
      have hl := spec_erase_loop o f.1 f.2.1 g3 g1 e1
      rw [show spec_DoFlash_6_loop (((), (), (), 0, ()), (o, ([], [], ()), f, ())) = _ from hl]
      simp only [Option.bind_some, Sum.elim_inl, i2, i4, cond_true]
      by_cases h1 : o.2.2.1 = 0
      case neg =>
        rw [dec_false (by omega), show (o.2.2.1 != 0) = true by rw [bne_iff_ne]; exact h1]; rfl
      by_cases h2 : o.2.2.2.1 = 0
      case neg =>
        rw [dec_false (by omega), show (o.2.2.1 != 0) = false by rw [h1]; rfl, show (o.2.2.2.1 != 0) = true by rw [bne_iff_ne]; exact h2]; rfl
      rw [show (o.2.2.1 != 0) = false by rw [h1]; rfl, show (o.2.2.2.1 != 0) = false by rw [h2]; rfl, wrap64 (by omega) (by omega)]
      simp only [cond_false]
      rw [show spec_IsFlash (List.set f.1 (pgOf o) (List.replicate 19 65535), List.set f.2.1 (Int.toNat o.2.1) (f.2.1[pgOf o] + 1), ()) = _ from spec_IsFlash_ok _ (set_sz hF (by simp))]
      by_cases h3 : f.2.1[pgOf o] < 1000
      · have := flash_ok_iff.2 (erased_ok hF g2 h3)
        rw [show isFlashB (List.set f.1 (pgOf o) (List.replicate 19 65535), List.set f.2.1 (Int.toNat o.2.1) (f.2.1[pgOf o] + 1), ()) = _ from this, dec_true ⟨h1, h2, h3⟩]
        rfl
      · have : isFlashB (List.set f.1 (pgOf o) (List.replicate 19 65535), List.set f.2.1 (pgOf o) (f.2.1[pgOf o] + 1), ()) = false := by
          cases hb : isFlashB (List.set f.1 (pgOf o) (List.replicate 19 65535), List.set f.2.1 (pgOf o) (f.2.1[pgOf o] + 1), ()) with
          | false => rfl
          | true =>
            have := (flash_ok_iff.1 hb).pg (pgOf o) (by simpa using g1) (by simpa using g2)
            simp only [List.getElem_set_self] at this
            omega
        rw [show isFlashB (List.set f.1 (pgOf o) (List.replicate 19 65535), List.set f.2.1 (Int.toNat o.2.1) (f.2.1[pgOf o] + 1), ()) = _ from this, dec_false (by omega)]
        rfl
    | false =>
      simp only [cond_false]
      by_cases h1 : 0 ≤ o.2.2.1 ∧ o.2.2.1 ≤ 18
      case neg => rw [dec_false (show ¬ (0 ≤ o.2.2.1 ∧ o.2.2.1 ≤ 18 ∧ 0 ≤ o.2.2.2.1 ∧ o.2.2.2.1 ≤ 65534 ∧ f.1[pgOf o].getD o.2.2.1.toNat 0 = 65535) by omega), dec_false h1]; rfl
      by_cases h2 : 0 ≤ o.2.2.2.1 ∧ o.2.2.2.1 ≤ 65534
      case neg => rw [dec_false (show ¬ (0 ≤ o.2.2.1 ∧ o.2.2.1 ≤ 18 ∧ 0 ≤ o.2.2.2.1 ∧ o.2.2.2.1 ≤ 65534 ∧ f.1[pgOf o].getD o.2.2.1.toNat 0 = 65535) by omega), dec_true h1, dec_false h2]; rfl
      rw [dec_true h1, dec_true h2]
      have hat : o.2.2.1.toNat < f.1[pgOf o].length := by omega
      have i5 : inb (List.length f.1[pgOf o]) o.2.2.1 = true := by rw [show o.2.2.1 = ((o.2.2.1.toNat : Nat) : Int) by omega, inb_nat]; exact dec_true hat
      have i6 : idx f.1 o.2.1 = some f.1[pgOf o] := idx_at g3 g1
      have i7 : idx f.1[pgOf o] o.2.2.1 = some f.1[pgOf o][o.2.2.1.toNat] := idx_at (by omega) hat
      simp only [Bool.not_true, cond_false, i6, Option.bind_some, i7, i1, i3, cond_true, i5, List.getElem?_eq_getElem hat]
      rw [getD_at hat]
      by_cases h5 : f.1[pgOf o][o.2.2.1.toNat] = 65535
      · rw [show (f.1[pgOf o][o.2.2.1.toNat] != 65535) = false by rw [h5]; rfl, dec_true (by omega)]; rfl
      · rw [show (f.1[pgOf o][o.2.2.1.toNat] != 65535) = true by rw [bne_iff_ne]; exact h5, dec_false (by omega)]; rfl
end KF

namespace KF
open Go
/-- operations, one after the other -/
def opsE (f : TFlash) (ops : List TFlashOp) : TFlash ⊕ Unit := foldE (fun _ s o => cond (doB s o) (.inl (doF s o)) (.inr ())) 0 f ops
def opsR (r : TFlash ⊕ Unit) : TFlash × Bool × Unit := r.elim (fun g => (g, true, ())) (fun _ => (zF, false, ()))
theorem foldE_congr {α S R : Type} {g : Nat → S → α → S ⊕ R} (hg : ∀ j k s x, g j s x = g k s x) : ∀ (xs : List α) (j k : Nat) (s : S), foldE g j s xs = foldE g k s xs
  | [], _, _, _ => rfl
  | x :: r, j, k, s => by
    simp only [foldE, hg j k s x]
    cases g k s x with
    | inl s' => exact foldE_congr hg r (j + 1) (k + 1) s'
    | inr r => rfl
theorem opsE_ok : ∀ {ops : List TFlashOp} {f g : TFlash}, FlashOk f → opsE f ops = .inl g → FlashOk g
  | [], f, g, h, he => by
    simp only [opsE, foldE, Sum.inl.injEq] at he
    subst he
    exact h
  | o :: r, f, g, h, he => by
    simp only [opsE, foldE] at he
    cases hd : doB f o with
    | false => rw [hd] at he; simp at he
    | true =>
      rw [hd] at he
      simp only [cond_true] at he
      rw [foldE_congr (fun _ _ _ _ => rfl) r (0 + 1) 0] at he
      exact opsE_ok (doF_ok hd) he
theorem opsE_cons (f : TFlash) (o : TFlashOp) (r : List TFlashOp) : opsE f (o :: r) = cond (doB f o) (opsE (doF f o) r) (.inr ()) := by
  simp only [opsE, foldE]
  cases doB f o with
  | false => rfl
  | true =>
    simp only [cond_true]
    exact foldE_congr (fun _ _ _ _ => rfl) r (0 + 1) 0 _
theorem opsE_append : ∀ (a : List TFlashOp) (f : TFlash) (r : List TFlashOp), opsE f (a ++ r) = (opsE f a).elim (fun g => opsE g r) (fun _ => .inr ())
  | [], f, r => rfl
  | o :: a, f, r => by
    rw [List.cons_append, opsE_cons, opsE_cons]
    cases doB f o with
    | false => rfl
    | true => exact opsE_append a (doF f o) r
theorem flash_big {f : TFlash} (h : FlashOk f) : szT tFlash f ≤ big20 := by
  have := flash_sz h
  have h20 : big20 = 1048576 := rfl
  omega
theorem impl_doOps_ok {f : TFlash} (h : FlashOk f) (ops : List TFlashOp) (hn : ops.length ≤ 1000) : impl_doOps f ops = some (opsR (opsE f ops)) := by
  unfold impl_doOps impl_doOps_3_loop
  rw [impl_copyFlash_ok h]
  simp only [Option.bind_some]
  have hl := loopF_foldX (step := fun x : (Unit × Unit × List TFlashOp × Int × Int × Unit) × TFlash × TFlash × Unit => impl_doOps_3_R x.1.1 x.1.2.1 x.1.2.2.1 x.1.2.2.2.1 x.1.2.2.2.2.1 x.2.1 x.2.2.1) ops
    (fun _ s o => cond (doB s o) (.inl (doF s o)) (.inr ())) (fun s k => (((), (), ops, (ops.length : Int), k, ()), (zF, s, ()))) (fun s => .inl (((), (), ()), (zF, s, ()))) (fun _ => .inr (((), false, ()), (zF, ())))
    (fun _ s => FlashOk s) (fun k hk s hs => by
      refine ⟨?_, fun s' h' => ?_⟩
      · simp only [impl_doOps_3_R]
        rw [dec_true (by omega), idx_lt hk]
        simp only [cond_true, Option.bind_some]
        rw [show impl_DoFlash (s.1, s.2.1, ()) ops[k] = _ from impl_DoFlash_ok s ops[k] (flash_big hs)]
        unfold resDo
        cases doB s ops[k] <;> rfl
      · cases hd : doB s ops[k] with
        | false => rw [hd] at h'; simp at h'
        | true =>
          rw [hd] at h'
          simp only [cond_true, Sum.inl.injEq] at h'
          subst h'
          exact doF_ok hd) (fun s _ => by
      simp only [impl_doOps_3_R]
      rw [dec_false (by omega)]
      rfl) (by omega) f h
  erw [hl]
  unfold opsE
  cases foldE (fun _ (s : TFlash) (o : TFlashOp) => cond (doB s o) (Sum.inl (doF s o)) (Sum.inr ())) 0 f ops <;> rfl

def recL (page : Int) (at' : Nat) (s v h : Int) : List TFlashOp :=
  [(false, page, ((1 + 3 * at' : Nat) : Int), s, ()), (false, page, ((2 + 3 * at' : Nat) : Int), v, ()), (false, page, ((3 + 3 * at' : Nat) : Int), checkI s v h, ())]
theorem spec_l14Record_ok (page : Int) {at' : Nat} (ha : at' ≤ 6) (s v h : Int) : spec_l14Record page (at' : Int) s v h = some (recL page at' s v h, ()) := by
  unfold spec_l14Record
  rw [spec_CheckOf_ok]
  simp only [Option.bind_some]
  rw [lim_ok (by simp)]
  simp only [cond_true, List.append_eq, List.cons_append, List.nil_append]
  rw [wrap64 (n := 3 * (at' : Int)) (by omega) (by omega), wrap64 (by omega) (by omega), wrap64 (by omega) (by omega), wrap64 (by omega) (by omega)]
  unfold recL
  congr 1
theorem impl_recordOps_ok (page : Int) {at' : Nat} (ha : at' ≤ 6) (s v h : Int) : impl_recordOps page (at' : Int) s v h = some (recL page at' s v h, ()) := by
  unfold impl_recordOps impl_recordOps_3_loop
  rw [impl_CheckOf_ok]
  simp only [Option.bind_some]
  have hl := (loopF_fold (step := fun x : (Int × Int × List TFlashOp × List Int × Int × Int × Unit) × Unit => impl_recordOps_3_R x.1.1 x.1.2.1 x.1.2.2.1 x.1.2.2.2.1 x.1.2.2.2.2.1 x.1.2.2.2.2.2.1) [s, v, checkI s v h]
    (fun k o x => List.append o [(false, page, ((1 + 3 * at' + k : Nat) : Int), x, ())]) (fun o k => ((page, (at' : Int), o, [s, v, checkI s v h], 3, k, ()), ())) (fun o => .inl ((o, ()), ())) (fun k o => o.length = k) (fun k hk o ho => by
      refine ⟨?_, by simp [ho]⟩
      have hk3 : k < 3 := hk
      simp only [impl_recordOps_3_R]
      rw [dec_true (by omega), inb_nat, dec_true hk]
      simp only [cond_true, Int.toNat_natCast, List.getElem?_eq_getElem hk, Option.bind_some]
      rw [lim_ok (by simp only [List.length_cons, List.length_nil]; omega)]
      simp only [cond_true]
      rw [wrap64 (n := 3 * (at' : Int)) (by omega) (by omega), wrap64 (n := 1 + 3 * (at' : Int)) (by omega) (by omega), wrap64 (n := 1 + 3 * (at' : Int) + (k : Int)) (by omega) (by omega)]
      rw [show (1 + 3 * (at' : Int) + (k : Int)) = ((1 + 3 * at' + k : Nat) : Int) by omega]) (fun o _ => by
      simp only [impl_recordOps_3_R]
      rfl) (by simp) [] rfl).1
  erw [hl]
  unfold recL
  simp only [foldK, Option.bind_some, Sum.elim_inl, List.append_eq, List.nil_append, List.cons_append, Nat.add_zero]
  rw [show 1 + 3 * at' + (0 + 1) = 2 + 3 * at' by omega, show 1 + 3 * at' + (0 + 1 + 1) = 3 + 3 * at' by omega]
end KF

namespace KF
open Go
theorem loop_cut {X R : Type} {step : X → Option (X ⊕ R)} (ops : List TFlashOp) (n : Nat) (hn : n ≤ ops.length) (hl : ops.length ≤ 1000) (I : TFlash → Int → X) (out : TFlash → R) (ex : R) {f : TFlash} (hf : FlashOk f)
    (h : ∀ k (hk : k < ops.length) (s : TFlash), k < n → FlashOk s → step (I s (k : Int)) = some (cond (doB s ops[k]) (.inl (I (doF s ops[k]) (IntKind.wrap .i64 ((k : Int) + 1)))) (.inr ex)))
    (he : ∀ s, step (I s (n : Int)) = some (.inr (out s))) : loopF step (I f 0) = some ((opsE f (ops.take n)).elim out (fun _ => ex)) := by
  have hlen : (ops.take n).length = n := by simp; omega
  have := loopF_foldX (step := step) (ops.take n) (fun _ s o => cond (doB s o) (.inl (doF s o)) (.inr ())) I out (fun (_ : Unit) => ex) (fun _ s => FlashOk s) (fun k hk s hs => by
    have hk' : k < ops.length := by omega
    have e : (ops.take n)[k] = ops[k] := List.getElem_take
    refine ⟨?_, fun s' h' => ?_⟩
    · rw [h k hk' s (by omega) hs, e]
      cases doB s ops[k] <;> rfl
    · cases hd : doB s (ops.take n)[k] with
      | false => rw [hd] at h'; simp at h'
      | true =>
        rw [hd] at h'
        simp only [cond_true, Sum.inl.injEq] at h'
        subst h'
        exact doF_ok hd) (fun s _ => by rw [hlen]; exact he s) (by omega) f hf
  rw [this]
  unfold opsE
  cases foldE (fun _ (s : TFlash) (o : TFlashOp) => cond (doB s o) (Sum.inl (doF s o)) (Sum.inr ())) 0 f (ops.take n) <;> rfl
theorem spec_cutsetting_loop {f : TFlash} (hf : FlashOk f) (ops : List TFlashOp) (n : Nat) (hn : n ≤ ops.length) (hl : ops.length ≤ 1000) :
    spec_CutSetting_6_loop (((n : Int), (), ops, (), 0, ()), (zF, f, ())) = some ((opsE f (ops.take n)).elim (fun g => .inl (((), (), ()), (zF, g, ()))) (fun _ => .inr (((), false, ()), (zF, ())))) := by
  unfold spec_CutSetting_6_loop
  exact loop_cut (step := fun x : (Int × Unit × List TFlashOp × Unit × Int × Unit) × TFlash × TFlash × Unit => spec_CutSetting_6_R x.1.1 x.1.2.1 x.1.2.2.1 x.1.2.2.2.1 x.1.2.2.2.2.1 x.2.1 x.2.2.1) ops n hn hl
    (fun s k => (((n : Int), (), ops, (), k, ()), (zF, s, ()))) (fun g => .inl (((), (), ()), (zF, g, ()))) (.inr (((), false, ()), (zF, ()))) hf (fun k hk s hkn hs => by
      simp only [spec_CutSetting_6_R]
      rw [dec_true (by omega), inb_nat, dec_true hk]
      simp only [cond_true, Int.toNat_natCast, List.getElem?_eq_getElem hk, Option.bind_some]
      rw [show spec_DoFlash (s.1, s.2.1, ()) ops[k] = _ from spec_DoFlash_ok s ops[k] (flash_big hs)]
      unfold resDo
      cases doB s ops[k] <;> rfl) (fun s => by
      simp only [spec_CutSetting_6_R]
      rw [dec_false (by omega)]
      rfl)
theorem spec_cutsave_loop {f : TFlash} (hf : FlashOk f) (ops : List TFlashOp) (n : Nat) (hn : n ≤ ops.length) (hl : ops.length ≤ 1000) :
    spec_CutSave_6_loop (((n : Int), (), ops, (), 0, ()), (zF, f, ())) = some ((opsE f (ops.take n)).elim (fun g => .inl (((), (), ()), (zF, g, ()))) (fun _ => .inr (((), false, ()), (zF, ())))) := by
  unfold spec_CutSave_6_loop
  exact loop_cut (step := fun x : (Int × Unit × List TFlashOp × Unit × Int × Unit) × TFlash × TFlash × Unit => spec_CutSave_6_R x.1.1 x.1.2.1 x.1.2.2.1 x.1.2.2.2.1 x.1.2.2.2.2.1 x.2.1 x.2.2.1) ops n hn hl
    (fun s k => (((n : Int), (), ops, (), k, ()), (zF, s, ()))) (fun g => .inl (((), (), ()), (zF, g, ()))) (.inr (((), false, ()), (zF, ()))) hf (fun k hk s hkn hs => by
      simp only [spec_CutSave_6_R]
      rw [dec_true (by omega), inb_nat, dec_true hk]
      simp only [cond_true, Int.toNat_natCast, List.getElem?_eq_getElem hk, Option.bind_some]
      rw [show spec_DoFlash (s.1, s.2.1, ()) ops[k] = _ from spec_DoFlash_ok s ops[k] (flash_big hs)]
      unfold resDo
      cases doB s ops[k] <;> rfl) (fun s => by
      simp only [spec_CutSave_6_R]
      rw [dec_false (by omega)]
      rfl)

def erased3 (w : List Int) (n : Nat) : Bool := (wd w (3 * n + 1) == 65535) && ((wd w (3 * n + 2) == 65535) && (wd w (3 * n + 3) == 65535))
def freeDown (w : List Int) : Nat → Nat
  | 0 => 0
  | n + 1 => cond (erased3 w n) (freeDown w n) (n + 1)
theorem freeDown_le (w : List Int) : ∀ n, freeDown w n ≤ n
  | 0 => Nat.le_refl _
  | n + 1 => by
    simp only [freeDown]
    cases erased3 w n with
    | true => exact Nat.le_succ_of_le (freeDown_le w n)
    | false => exact Nat.le_refl _
theorem freeDown_erased {w : List Int} : ∀ {n i : Nat}, freeDown w n ≤ i → i < n → erased3 w i = true
  | 0, i, _, h => by omega
  | n + 1, i, h1, h2 => by
    simp only [freeDown] at h1
    cases he : erased3 w n with
    | true =>
      rw [he] at h1
      simp only [cond_true] at h1
      by_cases hi : i = n
      · subst hi; exact he
      · exact freeDown_erased h1 (by omega)
    | false =>
      rw [he] at h1
      simp only [cond_false] at h1
      omega
theorem wd_eq {w : List Int} {n : Nat} (h : n < w.length) : w[n] = wd w n := by
  unfold wd; rw [getD_at h]
theorem impl_free_loop {f : TFlash} {a : Int} {w : List Int} (hi : idx f.1 a = some w) (hw : w.length = 19) : ∀ n : Nat, n ≤ 6 →
    impl_FreeRecord_4_loop ((a, (), (n : Int), ()), (f, ())) = some (.inl ((((freeDown w n : Nat) : Int), ()), ())) := by
  intro n
  induction n with
  | zero =>
    intro _
    have : impl_FreeRecord_4_R a () ((0 : Nat) : Int) f = some (.inr (.inl ((((0 : Nat) : Int), ()), ()))) := by
      simp only [impl_FreeRecord_4_R]
      rw [dec_false (by omega)]
      rfl
    unfold impl_FreeRecord_4_loop
    rw [loopF_of this]
    rfl
  | succ n ih =>
    intro hn
    have w1 : IntKind.wrap .i64 (3 * ((n + 1 : Nat) : Int)) = 3 * ((n + 1 : Nat) : Int) := wrap64 (by omega) (by omega)
    have w2 : IntKind.wrap .i64 (3 * ((n + 1 : Nat) : Int) - 2) = ((3 * n + 1 : Nat) : Int) := by rw [wrap64 (by omega) (by omega)]; omega
    have w3 : IntKind.wrap .i64 (3 * ((n + 1 : Nat) : Int) + 1) = ((3 * n + 4 : Nat) : Int) := by rw [wrap64 (by omega) (by omega)]; omega
    have w4 : IntKind.wrap .i64 (((n + 1 : Nat) : Int) - 1) = ((n : Nat) : Int) := by rw [wrap64 (by omega) (by omega)]; omega
    have i0 : idx (cutl w (3 * n + 1) (3 * n + 4)) (0 : Int) = some (wd w (3 * n + 1)) := by
      have := idx_cutl (w := w) (lo := 3 * n + 1) (hi := 3 * n + 4) (j := 0) (by omega) (by omega)
      rw [wd_eq] at this
      exact this
    have i1 : idx (cutl w (3 * n + 1) (3 * n + 4)) (1 : Int) = some (wd w (3 * n + 2)) := by
      have := idx_cutl (w := w) (lo := 3 * n + 1) (hi := 3 * n + 4) (j := 1) (by omega) (by omega)
      rw [wd_eq] at this
      exact this
    have i2 : idx (cutl w (3 * n + 1) (3 * n + 4)) (2 : Int) = some (wd w (3 * n + 3)) := by
      have := idx_cutl (w := w) (lo := 3 * n + 1) (hi := 3 * n + 4) (j := 2) (by omega) (by omega)
      rw [wd_eq] at this
      exact this
    have hR : impl_FreeRecord_4_R a () ((n + 1 : Nat) : Int) f = some (cond (erased3 w n) (.inl ((a, (), (n : Int), ()), (f, ()))) (.inr (.inl ((((n + 1 : Nat) : Int), ()), ())))) := by
      simp only [impl_FreeRecord_4_R]
      rw [dec_true (by omega), hi]
      simp only [cond_true, Option.bind_some, w1, w2, w3, w4, Int.toNat_natCast]
      rw [show cutOk (List.length w) ((3 * n + 1 : Nat) : Int) ((3 * n + 4 : Nat) : Int) = true from cutOk_nat (by omega) (by omega)]
      simp only [cond_true, i0, i1, i2, Option.bind_some]
      unfold erased3
      simp only [bne]
      cases (wd w (3 * n + 1) == 65535) <;> cases (wd w (3 * n + 2) == 65535) <;> cases (wd w (3 * n + 3) == 65535) <;> rfl
    unfold impl_FreeRecord_4_loop
    rw [loopF_of hR]
    simp only [freeDown]
    cases erased3 w n with
    | true => exact ih (by omega)
    | false => rfl
theorem spec_free_in {f : TFlash} {a : Int} {w : List Int} (hi : idx f.1 a = some w) (hw : w.length = 19) (free : Int) {n : Nat} (hn : n < 6) :
    spec_FreeRecord_8_loop ((a, (), free, (n : Int), 1, ()), (f, ())) = some (cond (erased3 w n) (.inl ((a, (), (n : Int), ()), (f, ()))) (.inr ((free, ()), ()))) := by
  have w1 : IntKind.wrap .i64 (3 * (n : Int)) = 3 * (n : Int) := wrap64 (by omega) (by omega)
  have step : ∀ k : Nat, 1 ≤ k → k ≤ 3 → spec_FreeRecord_8_R a () free (n : Int) (k : Int) f = some (cond (wd w (3 * n + k) == 65535) (.inl ((a, (), free, (n : Int), ((k + 1 : Nat) : Int), ()), (f, ()))) (.inr (.inr ((free, ()), ())))) := by
    intro k h1 h3
    simp only [spec_FreeRecord_8_R]
    rw [dec_true (by omega), hi]
    simp only [cond_true, Option.bind_some, w1]
    rw [wrap64 (by omega) (by omega), idx_wd' (n := 3 * n + k) (by omega) (by omega)]
    simp only [Option.bind_some, bne]
    rw [wrap64 (by omega) (by omega)]
    cases (wd w (3 * n + k) == 65535) <;> rfl
  have last : spec_FreeRecord_8_R a () free (n : Int) ((4 : Nat) : Int) f = some (.inr (.inl ((a, (), (n : Int), ()), (f, ())))) := by
    simp only [spec_FreeRecord_8_R]
    rw [dec_false (by omega)]
    rfl
  unfold spec_FreeRecord_8_loop erased3
  have s1 := step 1 (by omega) (by omega)
  have s2 := step 2 (by omega) (by omega)
  have s3 := step 3 (by omega) (by omega)
  rw [loopF_of s1]
  cases (wd w (3 * n + 1) == 65535) with
  | false => rfl
  | true =>
    simp only [cond_true, Option.bind_some, Sum.elim_inl, Bool.true_and]
    rw [loopF_of s2]
    cases (wd w (3 * n + 2) == 65535) with
    | false => rfl
    | true =>
      simp only [cond_true, Option.bind_some, Sum.elim_inl, Bool.true_and]
      rw [loopF_of s3]
      cases (wd w (3 * n + 3) == 65535) with
      | false => rfl
      | true =>
        simp only [cond_true, Option.bind_some, Sum.elim_inl]
        rw [loopF_of last]
        rfl
theorem spec_free_loop {f : TFlash} {a : Int} {w : List Int} (hi : idx f.1 a = some w) (hw : w.length = 19) : ∀ n : Nat, n ≤ 6 →
    ∃ r, spec_FreeRecord_5_loop ((a, (), (n : Int), (n : Int) - 1, ()), (f, ())) = some r ∧ r.elim (fun y => y.1.1) (fun z => z.1.1) = ((freeDown w n : Nat) : Int) := by
  intro n
  induction n with
  | zero =>
    intro _
    have : spec_FreeRecord_5_R a () ((0 : Nat) : Int) (((0 : Nat) : Int) - 1) f = some (.inr (.inl ((((0 : Nat) : Int), ()), ()))) := by
      simp only [spec_FreeRecord_5_R]
      rw [dec_false (by omega)]
      rfl
    unfold spec_FreeRecord_5_loop
    rw [loopF_of this]
    exact ⟨_, rfl, rfl⟩
  | succ n ih =>
    intro hn
    have hin := spec_free_in hi hw ((n + 1 : Nat) : Int) (n := n) (by omega)
    have e1 : ((n + 1 : Nat) : Int) - 1 = (n : Int) := by omega
    have hR : spec_FreeRecord_5_R a () ((n + 1 : Nat) : Int) (((n + 1 : Nat) : Int) - 1) f = some (cond (erased3 w n) (.inl ((a, (), (n : Int), (n : Int) - 1, ()), (f, ()))) (.inr (.inr ((((n + 1 : Nat) : Int), ()), ())))) := by
      rw [e1]
      simp only [spec_FreeRecord_5_R]
      rw [dec_true (by omega), hin]
      cases erased3 w n with
      | true =>
        simp only [cond_true, Option.bind_some, Sum.elim_inl]
        rw [wrap64 (by omega) (by omega)]
      | false => rfl
    unfold spec_FreeRecord_5_loop
    rw [loopF_of hR]
    simp only [freeDown]
    cases erased3 w n with
    | true => exact ih (by omega)
    | false => exact ⟨_, rfl, rfl⟩

theorem page_facts {f : TFlash} (hF : FlashOk f) (h : ¬ activeF f < 0) : ∃ w, idx f.1 (activeF f) = some w ∧ w.length = 19 ∧ hdB (wd w 0) = true ∧ f.1.getD (activeF f).toNat [] = w ∧ activeF f ≤ 1 := by
  obtain ⟨w, h1, h2, h3, h4, _⟩ := active_page h
  refine ⟨w, h1, h3, h4, h2, ?_⟩
  have : (activeF f).toNat < f.1.length := by
    have e : activeF f = (((activeF f).toNat : Nat) : Int) := by omega
    rw [e, idx_nat] at h1
    exact (List.getElem?_eq_some_iff.1 h1).1
  rw [hF.l1] at this
  omega
theorem impl_FreeRecord_ok {f : TFlash} (hF : FlashOk f) {a : Int} {w : List Int} (ha : 0 ≤ a ∧ a ≤ 1) (hi : idx f.1 a = some w) (hw : w.length = 19) : impl_FreeRecord f a = some (((freeDown w 6 : Nat) : Int), ()) := by
  unfold impl_FreeRecord
  rw [impl_IsFlash_ok f (flash_big hF), flash_ok_iff.2 hF]
  simp only [Option.bind_some, Bool.not_true, cond_false]
  rw [dec_false (show ¬ a < 0 by omega), dec_false (show ¬ a > 1 by omega)]
  simp only [cond_false]
  rw [show impl_FreeRecord_4_loop ((a, (), 6, ()), (f, ())) = _ from impl_free_loop hi hw 6 (by omega)]
  rfl
theorem spec_FreeRecord_ok {f : TFlash} (hF : FlashOk f) {a : Int} {w : List Int} (ha : 0 ≤ a ∧ a ≤ 1) (hi : idx f.1 a = some w) (hw : w.length = 19) : spec_FreeRecord f a = some (((freeDown w 6 : Nat) : Int), ()) := by
  unfold spec_FreeRecord
  rw [spec_IsFlash_ok f (flash_big hF), flash_ok_iff.2 hF]
  simp only [Option.bind_some, Bool.not_true, cond_false, spec_l1In_ok]
  rw [dec_true ha]
  simp only [Bool.not_true, cond_false]
  obtain ⟨r, h1, h2⟩ := spec_free_loop hi hw 6 (by omega)
  rw [show spec_FreeRecord_5_loop ((a, (), 6, 5, ()), (f, ())) = _ from h1, ← h2]
  cases r <;> rfl
end KF

namespace KF
open Go
def valK (f : TFlash) (s v : Int) (k : Nat) : Option Int := cond ((k : Int) == s) (some v) (readF f (k : Int))
def recK (f : TFlash) (s v page h : Int) (k : Nat) (st : List TFlashOp × Nat) : List TFlashOp × Nat := match valK f s v k with
  | some x => (List.append st.1 (recL page st.2 (k : Int) x h), st.2 + 1)
  | none => st
def eraseO (page : Int) : TFlashOp := (true, page, 0, 0, ())
def moveOps (f : TFlash) (s v page h : Int) : List TFlashOp × Nat := iter (recK f s v page h) 4 ([eraseO page], 0)
theorem recK_inv {f : TFlash} {s v page h : Int} : ∀ k, (iter (recK f s v page h) k ([eraseO page], 0)).2 ≤ k ∧ (iter (recK f s v page h) k ([eraseO page], 0)).1.length = 1 + 3 * (iter (recK f s v page h) k ([eraseO page], 0)).2 :=
  iter_inv (p := fun k (st : List TFlashOp × Nat) => st.2 ≤ k ∧ st.1.length = 1 + 3 * st.2) ⟨by simp, by simp⟩ fun k st hs => by
    unfold recK
    cases valK f s v k with
    | none => exact ⟨Nat.le_succ_of_le hs.1, hs.2⟩
    | some x =>
      refine ⟨by have := hs.1; simp only; omega, ?_⟩
      simp only [List.append_eq, List.length_append, hs.2, recL, List.length_cons, List.length_nil]
      omega
def headO (page h : Int) : TFlashOp := (false, page, 0, h, ())
def pgW (f : TFlash) : List Int := f.1.getD (activeF f).toNat []
/-- the operations that write a setting -/
def setOps (f : TFlash) (s v : Int) : List TFlashOp × Bool :=
  cond (decide (activeF f < 0)) ([], false) (cond (!isSettingB s v) ([], false)
    (cond (decide (freeDown (pgW f) 6 < 6)) (recL (activeF f) (freeDown (pgW f) 6) s v (wd (pgW f) 0), true)
      (cond (decide (wd (pgW f) 0 ≥ 60000)) ([], false) (cond (decide (f.2.1.getD (1 - activeF f).toNat 0 ≥ 1000)) ([], false)
        (List.append (moveOps f s v (1 - activeF f) (wd (pgW f) 0 + 1)).1 [headO (1 - activeF f) (wd (pgW f) 0 + 1)], true)))))
theorem optI_none : optI none = (0, false) := rfl
theorem optI_some (x : Int) : optI (some x) = (x, true) := rfl
theorem impl_set_loop {f : TFlash} (hF : FlashOk f) (s v h page : Int) (hh : 0 ≤ h ∧ h < 60000) :
    impl_SettingOps_14_loop ((s, v, (), h, page, [eraseO page], 0, 0, ()), (f, ())) = some (.inl ((h, page, (moveOps f s v page (h + 1)).1, ()), ())) := by
  unfold impl_SettingOps_14_loop moveOps
  have := loopF_count (step := fun x : (Int × Int × Unit × Int × Int × List TFlashOp × Int × Int × Unit) × TFlash × Unit => impl_SettingOps_14_R x.1.1 x.1.2.1 x.1.2.2.1 x.1.2.2.2.1 x.1.2.2.2.2.1 x.1.2.2.2.2.2.1 x.1.2.2.2.2.2.2.1 x.1.2.2.2.2.2.2.2.1 x.2.1) 4 (by omega)
    (recK f s v page (h + 1)) ([eraseO page], 0) (fun st k => ((s, v, (), h, page, st.1, (st.2 : Int), k, ()), (f, ()))) (fun st => .inl ((h, page, st.1, ()), ())) (fun k hk => by
      have hI := recK_inv (f := f) (s := s) (v := v) (page := page) (h := h + 1) k
      generalize iter (recK f s v page (h + 1)) k ([eraseO page], 0) = st at *
      obtain ⟨o, n⟩ := st
      simp only at hI
      simp only [impl_SettingOps_14_R]
      rw [dec_true (by omega), impl_ReadSetting_ok f (k : Int) (flash_big hF)]
      simp only [cond_true, Option.bind_some]
      rw [wrap64 (n := h + 1) (by omega) (by omega)]
      unfold recK valK
      cases hks : ((k : Int) == s) with
      | true =>
        simp only [cond_true]
        rw [impl_recordOps_ok page (by omega)]
        simp only [Option.bind_some]
        rw [lim_ok (by simp only [recL, List.length_cons, List.length_nil]; omega), wrap_succ (by omega)]
        rfl
      | false =>
        simp only [cond_false]
        cases readF f (k : Int) with
        | none => rfl
        | some x =>
          rw [optI_some]
          simp only [cond_true]
          rw [impl_recordOps_ok page (by omega)]
          simp only [Option.bind_some]
          rw [lim_ok (by simp only [recL, List.length_cons, List.length_nil]; omega), wrap_succ (by omega)]
          rfl) (by
      simp only [impl_SettingOps_14_R]
      rfl)
  exact this
theorem spec_set_loop {f : TFlash} (hF : FlashOk f) (s v h a : Int) (hh : 0 ≤ h ∧ h < 60000) (ha : 0 ≤ a ∧ a ≤ 1) :
    spec_SettingOps_13_loop ((s, v, (), a, h, [eraseO (1 - a)], 0, 0, ()), (f, ())) = some (.inl ((a, h, (moveOps f s v (1 - a) (h + 1)).1, ()), ())) := by
  unfold spec_SettingOps_13_loop moveOps
  have := loopF_count (step := fun x : (Int × Int × Unit × Int × Int × List TFlashOp × Int × Int × Unit) × TFlash × Unit => spec_SettingOps_13_R x.1.1 x.1.2.1 x.1.2.2.1 x.1.2.2.2.1 x.1.2.2.2.2.1 x.1.2.2.2.2.2.1 x.1.2.2.2.2.2.2.1 x.1.2.2.2.2.2.2.2.1 x.2.1) 4 (by omega)
    (recK f s v (1 - a) (h + 1)) ([eraseO (1 - a)], 0) (fun st k => ((s, v, (), a, h, st.1, (st.2 : Int), k, ()), (f, ()))) (fun st => .inl ((a, h, st.1, ()), ())) (fun k hk => by
      have hI := recK_inv (f := f) (s := s) (v := v) (page := 1 - a) (h := h + 1) k
      generalize iter (recK f s v (1 - a) (h + 1)) k ([eraseO (1 - a)], 0) = st at *
      obtain ⟨o, n⟩ := st
      simp only at hI
      simp only [spec_SettingOps_13_R]
      rw [dec_true (by omega), spec_ReadSetting_ok f (k : Int) (flash_big hF)]
      simp only [cond_true, Option.bind_some]
      rw [wrap64 (n := h + 1) (by omega) (by omega), wrap64 (n := 1 - a) (by omega) (by omega)]
      unfold recK valK
      cases hks : ((k : Int) == s) with
      | true =>
        simp only [cond_true]
        rw [spec_l14Record_ok (1 - a) (show n ≤ 6 by omega)]
        simp only [Option.bind_some]
        rw [lim_ok (by simp only [recL, List.length_cons, List.length_nil]; omega), wrap_succ (show n < 9223372036854775807 by omega)]
        cases (optI (readF f (k : Int))).2 <;> rfl
      | false =>
        simp only [cond_false]
        cases readF f (k : Int) with
        | none => rfl
        | some x =>
          rw [optI_some]
          simp only [cond_true]
          rw [spec_l14Record_ok (1 - a) (show n ≤ 6 by omega)]
          simp only [Option.bind_some]
          rw [lim_ok (by simp only [recL, List.length_cons, List.length_nil]; omega), wrap_succ (show n < 9223372036854775807 by omega)]
          rfl) (by
      simp only [spec_SettingOps_13_R]
      rfl)
  exact this
theorem other_page {f : TFlash} (hF : FlashOk f) (h : ¬ activeF f < 0) : ∃ e, idx f.2.1 (1 - activeF f) = some e ∧ f.2.1.getD (1 - activeF f).toNat 0 = e ∧ 0 ≤ e ∧ e ≤ 1000 := by
  obtain ⟨w, _, _, _, _, h1⟩ := page_facts hF h
  have hlt : (1 - activeF f).toNat < f.2.1.length := by rw [hF.l2]; omega
  have hlt1 : (1 - activeF f).toNat < f.1.length := by rw [hF.l1]; omega
  obtain ⟨_, g2, g3, _⟩ := hF.pg _ hlt1 hlt
  exact ⟨_, idx_at (by omega) hlt, getD_at hlt, g2, g3⟩
theorem moveOps_len (f : TFlash) (s v page h : Int) : (moveOps f s v page h).1.length ≤ 13 := by
  have := recK_inv (f := f) (s := s) (v := v) (page := page) (h := h) 4
  unfold moveOps
  omega
theorem impl_SettingOps_ok {f : TFlash} (hz : szT tFlash f ≤ big20) (s v : Int) : impl_SettingOps f s v = some ((setOps f s v).1, (setOps f s v).2, ()) := by
  unfold impl_SettingOps setOps
  rw [impl_ActivePage_ok f hz, impl_isSetting_ok]
  simp only [Option.bind_some]
  by_cases ha : activeF f < 0
  · rw [dec_true ha]; rfl
  rw [dec_false ha]
  cases hs : isSettingB s v with
  | false => rfl
  | true =>
    obtain ⟨w, _, _, _, _, hfl⟩ := active_page ha
    have hF := flash_ok_iff.1 hfl
    obtain ⟨w, h1, h2, h3, h4, h5⟩ := page_facts hF ha
    obtain ⟨e, g1, g2, g3, g4⟩ := other_page hF ha
    have hwd := h3
    simp only [hdB, decide_eq_true_eq] at hwd
    simp only [cond_false, Bool.not_true, h1, Option.bind_some]
    rw [show idx w (0 : Int) = some (wd w 0) from idx_wd (n := 0) (by omega), impl_FreeRecord_ok hF ⟨by omega, h5⟩ h1 h2, g2]
    simp only [Option.bind_some]
    have hpg : pgW f = w := h4
    rw [hpg]
    have hfr := freeDown_le w 6
    by_cases hf6 : freeDown w 6 < 6
    · rw [dec_true hf6, dec_true (show ((freeDown w 6 : Nat) : Int) < 6 by omega), impl_recordOps_ok _ (by omega)]
      rfl
    rw [dec_false hf6, dec_false (show ¬ ((freeDown w 6 : Nat) : Int) < 6 by omega)]
    simp only [cond_false]
    by_cases h60 : wd w 0 ≥ 60000
    · rw [dec_true h60]; rfl
    rw [dec_false h60, wrap64 (n := 1 - activeF f) (by omega) (by omega), g1]
    simp only [cond_false, Option.bind_some]
    by_cases he : e ≥ 1000
    · rw [dec_true he]; rfl
    rw [dec_false he]
    simp only [cond_false]
    rw [show impl_SettingOps_14_loop ((s, v, (), wd w 0, 1 - activeF f, [(true, 1 - activeF f, (0 : Int), (0 : Int), ())], 0, 0, ()), (f, ())) = _ from impl_set_loop hF s v (wd w 0) (1 - activeF f) (by omega)]
    simp only [Option.bind_some, Sum.elim_inl]
    have hml := moveOps_len f s v (1 - activeF f) (wd w 0 + 1)
    rw [lim_ok (by simp only [List.length_cons, List.length_nil]; omega), wrap64 (by omega) (by omega)]
    rfl
theorem spec_SettingOps_ok {f : TFlash} (hz : szT tFlash f ≤ big20) (s v : Int) : spec_SettingOps f s v = some ((setOps f s v).1, (setOps f s v).2, ()) := by
  unfold spec_SettingOps setOps
  rw [spec_ActivePage_ok f hz]
  simp only [Option.bind_some, spec_l1In_ok]
  by_cases ha : activeF f < 0
  · rw [dec_true ha]; rfl
  rw [dec_false ha]
  by_cases hs1 : 0 ≤ s ∧ s ≤ 3
  case neg =>
    have : isSettingB s v = false := by unfold isSettingB; exact dec_false (by omega)
    rw [dec_false hs1, this]; rfl
  by_cases hs2 : 0 ≤ v ∧ v ≤ 9999
  case neg =>
    have : isSettingB s v = false := by unfold isSettingB; exact dec_false (by omega)
    rw [dec_true hs1, dec_false hs2, this]; rfl
  have hs : isSettingB s v = true := by unfold isSettingB; exact dec_true (by omega)
  rw [dec_true hs1, dec_true hs2, hs]
  obtain ⟨w, _, _, _, _, hfl⟩ := active_page ha
  have hF := flash_ok_iff.1 hfl
  obtain ⟨w, h1, h2, h3, h4, h5⟩ := page_facts hF ha
  obtain ⟨e, g1, g2, g3, g4⟩ := other_page hF ha
  have hwd := h3
  simp only [hdB, decide_eq_true_eq] at hwd
  simp only [cond_false, Bool.not_true]
  rw [spec_FreeRecord_ok hF ⟨by omega, h5⟩ h1 h2, h1, g2]
  simp only [Option.bind_some]
  rw [show idx w (0 : Int) = some (wd w 0) from idx_wd (n := 0) (by omega)]
  simp only [Option.bind_some]
  have hpg : pgW f = w := h4
  rw [hpg]
  have hfr := freeDown_le w 6
  by_cases hf6 : freeDown w 6 < 6
  · rw [dec_true hf6, dec_true (show ((freeDown w 6 : Nat) : Int) < 6 by omega), spec_l14Record_ok _ (by omega)]
    rfl
  rw [dec_false hf6, dec_false (show ¬ ((freeDown w 6 : Nat) : Int) < 6 by omega)]
  simp only [cond_false]
  by_cases h60 : wd w 0 ≥ 60000
  · have : wd w 0 = 60000 := by omega
    rw [dec_true h60, this]; rfl
  rw [dec_false h60, show (wd w 0 == 60000) = false by rw [beq_eq_false_iff_ne]; omega, wrap64 (n := 1 - activeF f) (by omega) (by omega), g1]
  simp only [cond_false, Option.bind_some]
  by_cases he : e ≥ 1000
  · have : e = 1000 := by omega
    rw [dec_true he, this]; rfl
  rw [dec_false he, show (e == 1000) = false by rw [beq_eq_false_iff_ne]; omega]
  simp only [cond_false]
  rw [show spec_SettingOps_13_loop ((s, v, (), activeF f, wd w 0, [(true, 1 - activeF f, (0 : Int), (0 : Int), ())], 0, 0, ()), (f, ())) = _ from spec_set_loop hF s v (wd w 0) (activeF f) (by omega) ⟨by omega, h5⟩]
  simp only [Option.bind_some, Sum.elim_inl]
  have hml := moveOps_len f s v (1 - activeF f) (wd w 0 + 1)
  rw [lim_ok (by simp only [List.length_cons, List.length_nil]; omega), wrap64 (n := wd w 0 + 1) (by omega) (by omega), wrap64 (n := 1 - activeF f) (by omega) (by omega)]
  rfl
end KF

namespace KF
open Go
def pgAt (f : TFlash) (P : Int) : List Int := f.1.getD P.toNat []
theorem wd_set_ne {w : List Int} {k j : Nat} {x : Int} (h : j ≠ k) : wd (w.set k x) j = wd w j := by
  unfold wd
  rw [List.getD_eq_getElem?_getD, List.getD_eq_getElem?_getD, List.getElem?_set_ne (Ne.symm h)]
theorem pgAt_len {f : TFlash} (hF : FlashOk f) {P : Int} (hP : 0 ≤ P ∧ P ≤ 1) : P.toNat < f.1.length ∧ P.toNat < f.2.1.length ∧ (pgAt f P).length = 19 := by
  have h1 : P.toNat < f.1.length := by rw [hF.l1]; omega
  have h2 : P.toNat < f.2.1.length := by rw [hF.l2]; omega
  refine ⟨h1, h2, ?_⟩
  unfold pgAt
  rw [getD_at h1]
  exact (hF.pg _ h1 h2).1
theorem write_ok {f : TFlash} (hF : FlashOk f) {P : Int} (hP : 0 ≤ P ∧ P ≤ 1) {k : Nat} (hk : k ≤ 18) {x : Int} (hx : 0 ≤ x ∧ x ≤ 65534) (he : wd (pgAt f P) k = 65535) :
    doB f (false, P, (k : Int), x, ()) = true ∧ FlashOk (doF f (false, P, (k : Int), x, ())) ∧ pgAt (doF f (false, P, (k : Int), x, ())) P = (pgAt f P).set k x := by
  obtain ⟨g1, g2, g3⟩ := pgAt_len hF hP
  have hb : doB f (false, P, (k : Int), x, ()) = true := by
    unfold doB
    rw [flash_ok_iff.2 hF, dec_true hP]
    simp only [Bool.true_and, cond_false]
    refine dec_true ⟨by omega, by omega, hx.1, hx.2, ?_⟩
    exact he
  refine ⟨hb, doF_ok hb, ?_⟩
  unfold doF pgAt pgOf
  simp only [cond_false, Int.toNat_natCast]
  rw [getD_at (by rw [List.length_set]; exact g1), List.getElem_set_self]
theorem check_lt {s v h : Int} (hs : isSettingB s v = true) (hh : hdB h = true) : 0 ≤ checkI s v h ∧ checkI s v h ≤ 65534 := by
  unfold checkI
  rw [hs, hh]
  simp only [isSettingB, decide_eq_true_eq] at hs
  simp only [hdB, decide_eq_true_eq] at hh
  simp only [Bool.and_self, cond_true]
  have h1 := Int.tmod_nonneg 60000 (show 0 ≤ 7 * s + 13 * v + 31 * h + 5 by omega)
  have h2 := Int.tmod_lt_of_pos (7 * s + 13 * v + 31 * h + 5) (show (0 : Int) < 60000 by omega)
  omega
theorem rec_ok {f : TFlash} (hF : FlashOk f) {P : Int} (hP : 0 ≤ P ∧ P ≤ 1) {n : Nat} (hn : n ≤ 5) {s v h : Int} (hs : isSettingB s v = true) (hh : hdB h = true)
    (e1 : wd (pgAt f P) (3 * n + 1) = 65535) (e2 : wd (pgAt f P) (3 * n + 2) = 65535) (e3 : wd (pgAt f P) (3 * n + 3) = 65535) :
    ∃ g, opsE f (recL P n s v h) = .inl g ∧ FlashOk g ∧ ∀ j, (j < 3 * n + 1 ∨ 3 * n + 3 < j) → wd (pgAt g P) j = wd (pgAt f P) j := by
  have hsv := hs
  simp only [isSettingB, decide_eq_true_eq] at hsv
  have hc := check_lt hs hh
  obtain ⟨a1, a2, a3⟩ := write_ok hF hP (k := 1 + 3 * n) (by omega) (x := s) (by omega) (by rw [Nat.add_comm 1]; exact e1)
  obtain ⟨b1, b2, b3⟩ := write_ok a2 hP (k := 2 + 3 * n) (by omega) (x := v) (by omega) (by rw [a3, wd_set_ne (by omega), Nat.add_comm 2]; exact e2)
  obtain ⟨c1, c2, c3⟩ := write_ok b2 hP (k := 3 + 3 * n) (by omega) (x := checkI s v h) hc (by rw [b3, wd_set_ne (by omega), a3, wd_set_ne (by omega), Nat.add_comm 3]; exact e3)
  refine ⟨_, ?_, c2, fun j hj => ?_⟩
  · unfold recL
    rw [opsE_cons, a1, cond_true, opsE_cons, b1, cond_true, opsE_cons, c1, cond_true]
    rfl
  · rw [c3, wd_set_ne (by omega), b3, wd_set_ne (by omega), a3, wd_set_ne (by omega)]
/-- a page that is erased from word m on, and at its head -/
def Er (f : TFlash) (P : Int) (m : Nat) : Prop := FlashOk f ∧ wd (pgAt f P) 0 = 65535 ∧ ∀ j, m ≤ j → j < 19 → wd (pgAt f P) j = 65535
theorem valK_ok {f : TFlash} {s v x : Int} {k : Nat} (hk : k < 4) (hs : isSettingB s v = true) (h : valK f s v k = some x) : isSettingB (k : Int) x = true := by
  unfold valK at h
  simp only [isSettingB, decide_eq_true_eq] at hs ⊢
  cases he : ((k : Int) == s) with
  | true =>
    rw [he] at h
    simp only [cond_true, Option.some.injEq] at h
    omega
  | false =>
    rw [he] at h
    simp only [cond_false] at h
    have := readF_bd h
    omega
theorem move_ok {f : TFlash} {s v P h : Int} (hP : 0 ≤ P ∧ P ≤ 1) (hs : isSettingB s v = true) (hh : hdB h = true) {f1 : TFlash} (h1 : opsE f [eraseO P] = .inl f1) (hE : Er f1 P 1) : ∀ k, k ≤ 4 →
    ∃ g, opsE f (iter (recK f s v P h) k ([eraseO P], 0)).1 = .inl g ∧ Er g P (3 * (iter (recK f s v P h) k ([eraseO P], 0)).2 + 1)
  | 0, _ => ⟨f1, h1, hE⟩
  | k + 1, hk => by
    obtain ⟨g, g1, g2, g3, g4⟩ := move_ok hP hs hh h1 hE k (by omega)
    have hI := recK_inv (f := f) (s := s) (v := v) (page := P) (h := h) k
    simp only [iter]
    generalize iter (recK f s v P h) k ([eraseO P], 0) = st at *
    obtain ⟨o, n⟩ := st
    simp only at hI g1 g4 ⊢
    unfold recK
    cases hv : valK f s v k with
    | none => exact ⟨g, g1, g2, g3, g4⟩
    | some x =>
      have hset := valK_ok (by omega) hs hv
      obtain ⟨g', r1, r2, r3⟩ := rec_ok g2 hP (n := n) (by omega) hset hh (g4 _ (by omega) (by omega)) (g4 _ (by omega) (by omega)) (g4 _ (by omega) (by omega))
      refine ⟨g', ?_, r2, ?_, fun j h1 h2 => ?_⟩
      · simp only [List.append_eq]
        rw [opsE_append, g1]
        exact r1
      · rw [r3 0 (by omega)]; exact g3
      · simp only at h1
        rw [r3 j (by omega)]
        exact g4 j (by omega) h2
theorem erase_ok {f : TFlash} (hF : FlashOk f) {P : Int} (hP : 0 ≤ P ∧ P ≤ 1) (he : f.2.1.getD P.toNat 0 < 1000) : ∃ g, opsE f [eraseO P] = .inl g ∧ Er g P 1 := by
  obtain ⟨g1, g2, g3⟩ := pgAt_len hF hP
  have hb : doB f (eraseO P) = true := by
    unfold doB
    rw [flash_ok_iff.2 hF, dec_true (show 0 ≤ (eraseO P).2.1 ∧ (eraseO P).2.1 ≤ 1 from hP)]
    show decide ((0 : Int) = 0 ∧ (0 : Int) = 0 ∧ f.2.1.getD P.toNat 0 < 1000) = true
    exact dec_true ⟨rfl, rfl, he⟩
  have hpg : pgAt (doF f (eraseO P)) P = List.replicate 19 65535 := by
    unfold doF pgAt pgOf eraseO
    simp only [cond_true]
    rw [getD_at (by rw [List.length_set]; exact g1), List.getElem_set_self]
  have hw : ∀ j, j < 19 → wd (pgAt (doF f (eraseO P)) P) j = 65535 := by
    intro j hj
    rw [hpg]
    unfold wd
    rw [getD_at (by simpa using hj), List.getElem_replicate]
  refine ⟨doF f (eraseO P), ?_, doF_ok hb, hw 0 (by omega), fun j _ hj => hw j hj⟩
  rw [opsE_cons, hb]
  rfl
/-- what writes a setting can be done -/
theorem setOps_done {f : TFlash} {s v : Int} (h : (setOps f s v).2 = true) : ∃ g, opsE f (setOps f s v).1 = .inl g ∧ FlashOk g ∧ FlashOk f ∧ (setOps f s v).1.length ≤ 14 := by
  unfold setOps at h ⊢
  by_cases ha : activeF f < 0
  · rw [dec_true ha] at h; simp at h
  rw [dec_false ha] at h ⊢
  simp only [cond_false] at h ⊢
  cases hs : isSettingB s v with
  | false => rw [hs] at h; simp at h
  | true =>
    rw [hs] at h
    simp only [Bool.not_true, cond_false] at h ⊢
    obtain ⟨_, _, _, _, _, hfl⟩ := active_page ha
    have hF := flash_ok_iff.1 hfl
    obtain ⟨w, h1, h2, h3, h4, h5⟩ := page_facts hF ha
    have hpg : pgW f = w := h4
    have hpa : pgAt f (activeF f) = w := h4
    rw [hpg] at h ⊢
    have hfr := freeDown_le w 6
    have hwd := h3
    simp only [hdB, decide_eq_true_eq] at hwd
    by_cases hf6 : freeDown w 6 < 6
    · rw [dec_true hf6]
      simp only [cond_true]
      have he := freeDown_erased (w := w) (n := 6) (i := freeDown w 6) (Nat.le_refl _) hf6
      simp only [erased3, Bool.and_eq_true, beq_iff_eq] at he
      obtain ⟨g, r1, r2, _⟩ := rec_ok hF (P := activeF f) ⟨by omega, h5⟩ (n := freeDown w 6) (by omega) hs h3 (by rw [hpa]; exact he.1) (by rw [hpa]; exact he.2.1) (by rw [hpa]; exact he.2.2)
      exact ⟨g, r1, r2, hF, by simp [recL]⟩
    rw [dec_false hf6] at h ⊢
    simp only [cond_false] at h ⊢
    by_cases h60 : wd w 0 ≥ 60000
    · rw [dec_true h60] at h; simp at h
    rw [dec_false h60] at h ⊢
    simp only [cond_false] at h ⊢
    by_cases he : f.2.1.getD (1 - activeF f).toNat 0 ≥ 1000
    · rw [dec_true he] at h; simp at h
    rw [dec_false he]
    simp only [cond_false]
    have hP : 0 ≤ 1 - activeF f ∧ 1 - activeF f ≤ 1 := by omega
    have hh1 : hdB (wd w 0 + 1) = true := by simp only [hdB, decide_eq_true_eq]; omega
    obtain ⟨f1, r1, r2⟩ := erase_ok hF hP (by omega)
    obtain ⟨g, m1, m2, m3, m4⟩ := move_ok (f := f) (s := s) (v := v) (h := wd w 0 + 1) hP hs hh1 r1 r2 4 (by omega)
    obtain ⟨b1, b2, _⟩ := write_ok m2 hP (k := 0) (by omega) (x := wd w 0 + 1) (by omega) m3
    refine ⟨_, ?_, b2, hF, ?_⟩
    · simp only [List.append_eq]
      rw [opsE_append, show opsE f (moveOps f s v (1 - activeF f) (wd w 0 + 1)).1 = _ from m1]
      simp only [Sum.elim_inl]
      rw [opsE_cons, show doB g (headO (1 - activeF f) (wd w 0 + 1)) = true from b1]
      rfl
    · have := moveOps_len f s v (1 - activeF f) (wd w 0 + 1)
      simp only [List.append_eq, List.length_append, List.length_cons, List.length_nil]
      omega
end KF

namespace KF
open Go
def timB (t : TStep) : Bool := decide (1 ≤ t.1 ∧ t.1 ≤ 1000 ∧ 0 ≤ t.2.1 ∧ t.2.1 ≤ 1000 ∧ 0 ≤ t.2.2.1 ∧ t.2.2.1 ≤ 2)
theorem impl_IsTiming_ok (t : TStep) : impl_IsTiming t = some (timB t, ()) := by
  unfold impl_IsTiming timB
  simp only [cond_some, cond_unit]
  apply some_unit
  simp only [cond_iff, decide_eq_true_eq, Bool.false_eq_true, and_false, or_false]
theorem spec_IsTiming_ok (t : TStep) : spec_IsTiming t = some (timB t, ()) := by
  unfold spec_IsTiming timB
  simp only [spec_l1In_ok, Option.bind_some, cond_some, cond_unit]
  apply some_unit
  simp only [cond_iff, decide_eq_true_eq, Bool.false_eq_true, and_false, or_false]
  omega
theorem spec_WriteSetting_ok {f : TFlash} (hF : FlashOk f) (s v : Int) :
    spec_WriteSetting f s v = some (cond (setOps f s v).2 (opsR (opsE f (setOps f s v).1)).1 zF, cond (setOps f s v).2 (opsR (opsE f (setOps f s v).1)).2.1 false, ()) := by
  unfold spec_WriteSetting spec_CutSetting
  rw [spec_SettingOps_ok (flash_big hF)]
  simp only [Option.bind_some, spec_l1In_ok]
  cases h2 : (setOps f s v).2 with
  | false => rfl
  | true =>
    obtain ⟨g, h1, _, _, h4⟩ := setOps_done h2
    generalize (setOps f s v).1 = ops at *
    rw [dec_true (show (0 : Int) ≤ (ops.length : Int) ∧ (ops.length : Int) ≤ (ops.length : Int) by omega), spec_l14Copy_ok hF]
    simp only [Bool.not_true, cond_false, cond_true, Option.bind_some]
    have hl := spec_cutsetting_loop hF ops ops.length (Nat.le_refl _) (by omega)
    rw [List.take_length] at hl
    rw [show spec_CutSetting_6_loop (((ops.length : Int), (), ops, (), 0, ()), (([], [], ()), f, ())) = _ from hl]
    cases opsE f ops <;> rfl
abbrev SSt : Type := List TFlashOp × TFlash
def stepS (k : Nat) (st : SSt) (x : Int) : SSt ⊕ Unit :=
  cond ((optI (readF st.2 (k : Int))).2 && ((optI (readF st.2 (k : Int))).1 == x)) (.inl st)
    (cond (setOps st.2 (k : Int) x).2 (.inl (List.append st.1 (setOps st.2 (k : Int) x).1, (opsR (opsE st.2 (setOps st.2 (k : Int) x).1)).1)) (.inr ()))
def SInv (k : Nat) (st : SSt) : Prop := FlashOk st.2 ∧ st.1.length ≤ 14 * k
theorem stepS_inv {k : Nat} {st st' : SSt} {x : Int} (hi : SInv k st) (h : stepS k st x = .inl st') : SInv (k + 1) st' := by
  obtain ⟨h1, h2⟩ := hi
  unfold stepS at h
  cases hc : ((optI (readF st.2 (k : Int))).2 && ((optI (readF st.2 (k : Int))).1 == x)) with
  | true =>
    rw [hc] at h
    simp only [cond_true, Sum.inl.injEq] at h
    subst h
    exact ⟨h1, by omega⟩
  | false =>
    rw [hc] at h
    simp only [cond_false] at h
    cases hs : (setOps st.2 (k : Int) x).2 with
    | false => rw [hs] at h; simp at h
    | true =>
      rw [hs] at h
      simp only [cond_true, Sum.inl.injEq] at h
      subst h
      obtain ⟨g, g1, g2, _, g4⟩ := setOps_done hs
      refine ⟨?_, ?_⟩
      · simp only
        rw [g1]
        exact g2
      · simp only [List.append_eq, List.length_append]
        omega
def vals (t : TStep) : List Int := [t.1, t.2.1, t.2.2.1]
theorem impl_save_loop {f : TFlash} (hF : FlashOk f) (t : TStep) :
    impl_SaveOps_5_loop (((), [], vals t, 3, 0, ()), (f, ())) = some ((foldE stepS 0 (([], f) : SSt) (vals t)).elim (fun st => .inl ((st.1, ()), ())) (fun _ => .inr (([], false, ()), ()))) := by
  unfold impl_SaveOps_5_loop
  have := loopF_foldX (step := fun x : (Unit × List TFlashOp × List Int × Int × Int × Unit) × TFlash × Unit => impl_SaveOps_5_R x.1.1 x.1.2.1 x.1.2.2.1 x.1.2.2.2.1 x.1.2.2.2.2.1 x.2.1) (vals t)
    stepS (fun st k => (((), st.1, vals t, 3, k, ()), (st.2, ()))) (fun st => .inl ((st.1, ()), ())) (fun _ => .inr (([], false, ()), ())) SInv (fun k hk st hs => by
      refine ⟨?_, fun s' h => stepS_inv hs h⟩
      have hk3 : k < 3 := hk
      obtain ⟨h1, h2⟩ := hs
      simp only [impl_SaveOps_5_R]
      rw [dec_true (by omega), inb_nat, dec_true hk]
      simp only [cond_true, Int.toNat_natCast, List.getElem?_eq_getElem hk, Option.bind_some]
      generalize (vals t)[k] = x
      rw [impl_ReadSetting_ok st.2 (k : Int) (flash_big h1), impl_SettingOps_ok (flash_big h1)]
      simp only [Option.bind_some]
      unfold stepS
      cases hs2 : (setOps st.2 (k : Int) x).2 with
      | false =>
        cases (optI (readF st.2 (k : Int))).2 with
        | false => rfl
        | true =>
          cases ((optI (readF st.2 (k : Int))).1 == x) <;> rfl
      | true =>
        obtain ⟨g, g1, g2, _, g4⟩ := setOps_done hs2
        rw [impl_doOps_ok h1 _ (by omega), g1]
        simp only [opsR, Sum.elim_inl, cond_true, Bool.not_true, cond_false, Option.bind_some]
        rw [lim_ok (by omega)]
        cases (optI (readF st.2 (k : Int))).2 with
        | false => rfl
        | true =>
          cases ((optI (readF st.2 (k : Int))).1 == x) <;> rfl) (fun st _ => by
      simp only [impl_SaveOps_5_R]
      rfl) (by simp [vals]) ([], f) ⟨hF, by simp⟩
  exact this.trans (by cases foldE stepS 0 (([], f) : SSt) (vals t) <;> rfl)
theorem spec_save_loop {f : TFlash} (hF : FlashOk f) (t : TStep) :
    spec_SaveOps_7_loop (([], (), vals t, 0, ()), (f, ())) = some ((foldE stepS 0 (([], f) : SSt) (vals t)).elim (fun st => .inl ((st.1, ()), ())) (fun _ => .inr (([], false, ()), ()))) := by
  unfold spec_SaveOps_7_loop
  have := loopF_foldX (step := fun x : (List TFlashOp × Unit × List Int × Int × Unit) × TFlash × Unit => spec_SaveOps_7_R x.1.1 x.1.2.1 x.1.2.2.1 x.1.2.2.2.1 x.2.1) (vals t)
    stepS (fun st k => ((st.1, (), vals t, k, ()), (st.2, ()))) (fun st => .inl ((st.1, ()), ())) (fun _ => .inr (([], false, ()), ())) SInv (fun k hk st hs => by
      refine ⟨?_, fun s' h => stepS_inv hs h⟩
      have hk3 : k < 3 := hk
      obtain ⟨h1, h2⟩ := hs
      simp only [spec_SaveOps_7_R]
      rw [dec_true (show (k : Int) < ((vals t).length : Int) by simp [vals]; omega), inb_nat, dec_true hk]
      simp only [cond_true, Int.toNat_natCast, List.getElem?_eq_getElem hk, Option.bind_some]
      generalize (vals t)[k] = x
      rw [spec_ReadSetting_ok st.2 (k : Int) (flash_big h1), spec_SettingOps_ok (flash_big h1), spec_WriteSetting_ok h1]
      simp only [Option.bind_some]
      unfold stepS
      cases hs2 : (setOps st.2 (k : Int) x).2 with
      | false =>
        cases (optI (readF st.2 (k : Int))).2 with
        | false => rfl
        | true =>
          cases ((optI (readF st.2 (k : Int))).1 == x) <;> rfl
      | true =>
        obtain ⟨g, g1, g2, _, g4⟩ := setOps_done hs2
        rw [g1]
        simp only [opsR, Sum.elim_inl, cond_true, Bool.not_true, cond_false]
        rw [lim_ok (by omega)]
        cases (optI (readF st.2 (k : Int))).2 with
        | false => rfl
        | true =>
          cases ((optI (readF st.2 (k : Int))).1 == x) <;> rfl) (fun st _ => by
      simp only [spec_SaveOps_7_R]
      rfl) (by simp [vals]) ([], f) ⟨hF, by simp⟩
  exact this.trans (by cases foldE stepS 0 (([], f) : SSt) (vals t) <;> rfl)
def saveF (f : TFlash) (t : TStep) : List TFlashOp × Bool := cond (!timB t) ([], false) (cond (decide (activeF f < 0)) ([], false) ((foldE stepS 0 (([], f) : SSt) (vals t)).elim (fun st => (st.1, true)) (fun _ => ([], false))))
theorem impl_SaveOps_ok (f : TFlash) (t : TStep) (hz : szT tFlash f ≤ big20) : impl_SaveOps f t = some ((saveF f t).1, (saveF f t).2, ()) := by
  unfold impl_SaveOps saveF
  rw [impl_IsTiming_ok, impl_ActivePage_ok f hz]
  cases timB t with
  | false => rfl
  | true =>
    simp only [Option.bind_some, Bool.not_true, cond_false]
    by_cases ha : activeF f < 0
    · rw [dec_true ha]; rfl
    rw [dec_false ha]
    obtain ⟨_, _, _, _, _, hfl⟩ := active_page ha
    have hl := impl_save_loop (flash_ok_iff.1 hfl) t
    simp only [cond_false]
    rw [show impl_SaveOps_5_loop (((), [], [t.1, t.2.1, t.2.2.1], ((List.length [t.1, t.2.1, t.2.2.1] : Nat) : Int), 0, ()), (f, ())) = _ from hl]
    cases foldE stepS 0 (([], f) : SSt) (vals t) <;> rfl
theorem spec_SaveOps_ok (f : TFlash) (t : TStep) (hz : szT tFlash f ≤ big20) : spec_SaveOps f t = some ((saveF f t).1, (saveF f t).2, ()) := by
  unfold spec_SaveOps saveF
  rw [spec_IsTiming_ok, spec_ActivePage_ok f hz]
  cases timB t with
  | false => rfl
  | true =>
    simp only [Option.bind_some, Bool.not_true, cond_false]
    by_cases ha : activeF f < 0
    · rw [dec_true ha]; rfl
    rw [dec_false ha]
    obtain ⟨_, _, _, _, _, hfl⟩ := active_page ha
    have hl := spec_save_loop (flash_ok_iff.1 hfl) t
    simp only [cond_false]
    rw [show spec_SaveOps_7_loop (([], (), [t.1, t.2.1, t.2.2.1], 0, ()), (f, ())) = _ from hl]
    cases foldE stepS 0 (([], f) : SSt) (vals t) <;> rfl
theorem foldE_invN {α S R : Type} {g : Nat → S → α → S ⊕ R} {P : Nat → S → Prop} (hg : ∀ k s x s', P k s → g k s x = .inl s' → P (k + 1) s') : ∀ (xs : List α) (k : Nat) (s s' : S), P k s → foldE g k s xs = .inl s' → P (k + xs.length) s'
  | [], k, s, s', h, he => by
    simp only [foldE, Sum.inl.injEq] at he
    subst he
    exact h
  | x :: r, k, s, s', h, he => by
    simp only [foldE] at he
    split at he
    · rename_i s1 h1
      have := foldE_invN hg r (k + 1) s1 s' (hg k s x s1 h h1) he
      rw [List.length_cons, Nat.add_comm r.length 1, ← Nat.add_assoc]
      exact this
    · simp at he
theorem saveF_facts {f : TFlash} {t : TStep} : (saveF f t).1.length ≤ 42 ∧ ((saveF f t).2 = true → FlashOk f) := by
  unfold saveF
  cases timB t with
  | false => exact ⟨by simp, by simp⟩
  | true =>
    by_cases ha : activeF f < 0
    · rw [dec_true ha]; exact ⟨by simp, by simp⟩
    rw [dec_false ha]
    obtain ⟨_, _, _, _, _, hfl⟩ := active_page ha
    have hF := flash_ok_iff.1 hfl
    simp only [Bool.not_true, cond_false]
    cases hr : foldE stepS 0 (([], f) : SSt) (vals t) with
    | inr u => exact ⟨by simp, by simp⟩
    | inl st =>
      have := foldE_invN (P := SInv) (fun k s x s' h he => stepS_inv h he) (vals t) 0 _ st ⟨hF, by simp⟩ hr
      refine ⟨?_, fun _ => hF⟩
      have h2 := this.2
      simp only [vals, List.length_cons, List.length_nil] at h2
      simp only [Sum.elim_inl]
      omega
theorem szOps (l : List TFlashOp) : szT (.sl tFlashOp) l = l.length := szT_flat (e := tFlashOp) rfl l
theorem SaveOps_same (f : TFlash) (t : TStep) (_ : Rng tFlash f) (_ : Rng tStep t) (hz : szT tFlash f ≤ big20) : ∃ w b, spec_SaveOps f t = some (w, b, ()) ∧ impl_SaveOps f t = some (w, b, ()) ∧ szT (.sl tFlashOp) w ≤ big20 := by
  refine ⟨_, _, spec_SaveOps_ok f t hz, impl_SaveOps_ok f t hz, ?_⟩
  have := (saveF_facts (f := f) (t := t)).1
  have h20 : big20 = 1048576 := rfl
  rw [szOps]
  omega
theorem opsR_sz {f : TFlash} (hF : FlashOk f) (ops : List TFlashOp) : szT tFlash (opsR (opsE f ops)).1 ≤ big20 := by
  have h20 : big20 = 1048576 := rfl
  cases h : opsE f ops with
  | inl g => exact flash_big (opsE_ok hF h)
  | inr u =>
    show (0 + 0) + (szT (.sl int) [] + 0) ≤ _
    rw [szInts]
    simp
theorem zF_sz : szT tFlash zF ≤ big20 := by
  show (0 + 0) + (szT (.sl int) [] + 0) ≤ _
  rw [szInts]
  simp
def cutR (f : TFlash) (t : TStep) (n : Int) : TFlash × Bool × Unit := cond ((saveF f t).2 && decide (0 ≤ n ∧ n ≤ (saveF f t).1.length)) (opsR (opsE f ((saveF f t).1.take n.toNat))) (zF, false, ())
theorem spec_CutSave_ok (f : TFlash) (t : TStep) (n : Int) (hz : szT tFlash f ≤ big20) : spec_CutSave f t n = some ((cutR f t n).1, (cutR f t n).2.1, ()) := by
  unfold spec_CutSave cutR
  rw [spec_SaveOps_ok f t hz]
  simp only [Option.bind_some, spec_l1In_ok]
  obtain ⟨h1, h2⟩ := saveF_facts (f := f) (t := t)
  cases hs : (saveF f t).2 with
  | false => rfl
  | true =>
    have hF := h2 hs
    generalize (saveF f t).1 = ops at *
    simp only [Bool.not_true, cond_false, Bool.true_and]
    by_cases hn : 0 ≤ n ∧ n ≤ (ops.length : Int)
    case neg => rw [dec_false hn]; rfl
    rw [dec_true hn, spec_l14Copy_ok hF]
    obtain ⟨n, rfl⟩ := Int.eq_ofNat_of_zero_le hn.1
    simp only [Bool.not_true, cond_false, Option.bind_some, cond_true]
    rw [show spec_CutSave_6_loop (((n : Int), (), ops, (), 0, ()), (([], [], ()), f, ())) = _ from spec_cutsave_loop hF ops n (by omega) (by omega), Int.toNat_natCast]
    cases opsE f (ops.take n) <;> rfl
theorem impl_CutSave_ok (f : TFlash) (t : TStep) (n : Int) (hz : szT tFlash f ≤ big20) : impl_CutSave f t n = some ((cutR f t n).1, (cutR f t n).2.1, ()) := by
  unfold impl_CutSave cutR
  rw [impl_SaveOps_ok f t hz]
  simp only [Option.bind_some]
  obtain ⟨h1, h2⟩ := saveF_facts (f := f) (t := t)
  cases hs : (saveF f t).2 with
  | false => rfl
  | true =>
    have hF := h2 hs
    generalize (saveF f t).1 = ops at *
    simp only [Bool.not_true, cond_false, Bool.true_and]
    by_cases hn : 0 ≤ n ∧ n ≤ (ops.length : Int)
    case neg =>
      rw [dec_false hn]
      by_cases h0 : n < 0
      · rw [dec_true h0]; rfl
      · rw [dec_false h0, dec_true (by omega)]; rfl
    rw [dec_true hn, dec_false (show ¬ n < 0 by omega), dec_false (show ¬ n > (ops.length : Int) by omega)]
    obtain ⟨n, rfl⟩ := Int.eq_ofNat_of_zero_le hn.1
    rw [show cutOk ops.length 0 (n : Int) = true from cutOk_nat (lo := 0) (hi := n) (by omega) (by omega)]
    simp only [cond_false, cond_true, Int.toNat_natCast]
    rw [show cutl ops (Int.toNat 0) n = ops.take n from rfl, impl_doOps_ok hF _ (by simp; omega)]
    rfl
theorem cut_sz (f : TFlash) (t : TStep) (n : Int) : szT tFlash (cutR f t n).1 ≤ big20 := by
  unfold cutR
  cases hs : (saveF f t).2 with
  | false => exact zF_sz
  | true =>
    cases decide (0 ≤ n ∧ n ≤ ((saveF f t).1.length : Int)) with
    | false => exact zF_sz
    | true => exact opsR_sz (saveF_facts.2 hs) _
theorem CutSave_same (f : TFlash) (t : TStep) (n : Int) (_ : Rng tFlash f) (_ : Rng tStep t) (_ : Rng int n) (hz : szT tFlash f ≤ big20) :
    ∃ w b, spec_CutSave f t n = some (w, b, ()) ∧ impl_CutSave f t n = some (w, b, ()) ∧ szT tFlash w ≤ big20 :=
  ⟨_, _, spec_CutSave_ok f t n hz, impl_CutSave_ok f t n hz, cut_sz f t n⟩
theorem SaveTiming_same (f : TFlash) (t : TStep) (_ : Rng tFlash f) (_ : Rng tStep t) (hz : szT tFlash f ≤ big20) :
    ∃ w b, spec_SaveTiming f t = some (w, b, ()) ∧ impl_SaveTiming f t = some (w, b, ()) ∧ szT tFlash w ≤ big20 := by
  have hcs := cut_sz f t ((saveF f t).1.length : Int)
  refine ⟨(cutR f t ((saveF f t).1.length : Int)).1, (cutR f t ((saveF f t).1.length : Int)).2.1, ?_, ?_, hcs⟩
  · unfold spec_SaveTiming
    rw [spec_SaveOps_ok f t hz]
    simp only [Option.bind_some]
    rw [spec_CutSave_ok f t _ hz]
    rfl
  · unfold impl_SaveTiming cutR
    rw [impl_SaveOps_ok f t hz]
    obtain ⟨h1, h2⟩ := saveF_facts (f := f) (t := t)
    simp only [Option.bind_some]
    cases hs : (saveF f t).2 with
    | false => rfl
    | true =>
      simp only [Bool.not_true, cond_false]
      rw [impl_doOps_ok (h2 hs) _ (by omega), dec_true (show 0 ≤ ((saveF f t).1.length : Int) ∧ ((saveF f t).1.length : Int) ≤ ((saveF f t).1.length : Int) by omega), Int.toNat_natCast, List.take_length]
      rfl
end KF

namespace KF
open Go
theorem law_SaveTiming (a0 : TFlash) (a1 : TStep) (hr0 : Rng tFlash a0) (hr1 : Rng tStep a1) : laws_FnExactSaveTiming a0 a1 = some (true, ()) := by
  have h20 : big20 = 1048576 := rfl
  have h40 : big40 = 1099511627776 := rfl
  unfold laws_FnExactSaveTiming
  have s0 := szFlash_ok a0 hr0 (1048576) (by omega)
  rw [show ((1048576 : Nat) : Int) = 1048576 from rfl] at s0
  rw [s0]
  simp only [Option.bind_some]
  by_cases z0 : szT tFlash a0 ≤ 1048576
  case neg => rw [szR_gt z0]; rfl
  rw [szR_le z0, dec_false (by omega)]
  simp only [cond_false]
  have hz0 : szT tFlash a0 ≤ big20 := by omega
  obtain ⟨w0, w1, e1, e2, b0⟩ := SaveTiming_same a0 a1 hr0 hr1 hz0
  obtain ⟨x0, k0, g0, i0, m0, n0, _⟩ := markFlash_ok a0 1 (by omega)
  rw [show ((1 : Nat) : Int) = 1 from rfl] at m0 n0
  have d0 : decide ((k0 : Int) < 0) = false := dec_false (by omega)
  obtain ⟨x1, k1, g1, i1, m1, n1, f1⟩ := markFlash_ok w0 1 (by omega)
  simp only [kf, true_and, and_true] at f1
  have q1 : ((x1.1, x1.2.1, ()) : TFlash) = x1 := by simp only [Prod.ext_iff, f1, and_self]
  rw [show ((1 : Nat) : Int) = 1 from rfl] at m1 n1
  have d1 : decide ((k1 : Int) < 0) = false := dec_false (by omega)
  simp only [e1, e2, toFlash_ok a0 hz0, eqFlash_ok a0 (by omega), toTiming_ok a1 (by rw [szT_zero rfl]; exact Nat.zero_le _), eqFlash_ok w0 (by omega), m0, d0, q1, m1, d1, n1, Option.bind_some, bne_self_eq_false', Bool.not_true, cond_false]
end KF
