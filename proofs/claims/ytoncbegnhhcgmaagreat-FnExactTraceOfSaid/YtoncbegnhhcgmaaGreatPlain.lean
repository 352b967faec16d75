/- Laws on the plain functions: program and reference agree (conditions: as each lemma tells). -/
import Derived.Test.YtoncbegnhhcgmaaGreatH
set_option linter.unusedSimpArgs false
set_option linter.unusedVariables false
namespace KF
open Go
set_option linter.unusedSimpArgs false
set_option linter.unusedVariables false

def isCodeP (c : Int) : Prop := 1 ≤ c ∧ c ≤ 56
def isModsP (m : Int) : Prop := 1 ≤ m ∧ m ≤ 15
def isUpperP (n : Int) : Prop := 1 ≤ n ∧ n ≤ 3
/-- an action is valid -/
def IsActionP (k c m n : Int) : Prop :=
  ((k = 0 ∨ k = 1 ∨ k = 10) ∧ c = 0 ∧ m = 0 ∧ n = 0) ∨
  (k = 2 ∧ n = 0 ∧ (c = 0 ∨ 1 ≤ c ∧ c ≤ 56) ∧ (m = 0 ∨ 1 ≤ m ∧ m ≤ 15) ∧ (c ≠ 0 ∨ m ≠ 0)) ∨
  ((k = 3 ∨ k = 4) ∧ c = 0 ∧ m = 0 ∧ 1 ≤ n ∧ n ≤ 3) ∨
  ((k = 5 ∨ k = 9) ∧ c = 0 ∧ m = 0 ∧ 0 ≤ n ∧ n ≤ 3) ∨
  (k = 6 ∧ 1 ≤ c ∧ c ≤ 56 ∧ 1 ≤ m ∧ m ≤ 15 ∧ n = 0) ∨
  (k = 7 ∧ 1 ≤ c ∧ c ≤ 56 ∧ m = 0 ∧ 1 ≤ n ∧ n ≤ 3) ∨
  (k = 8 ∧ c = 0 ∧ 1 ≤ m ∧ m ≤ 15 ∧ n = 0)
noncomputable def isActionB (a : TAction) : Bool := open Classical in decide (IsActionP a.1 a.2.1 a.2.2.1 a.2.2.2.1)
theorem isActionB_iff (a : TAction) : isActionB a = true ↔ IsActionP a.1 a.2.1 a.2.2.1 a.2.2.2.1 := by simp [isActionB]

theorem impl_isCode_ok (c : Int) : impl_isCode c = some (decide (1 ≤ c ∧ c ≤ 56), ()) := by
  simp only [impl_isCode, cond_some, cond_unit]
  apply some_unit; simp only [cond_iff, decide_eq_true_eq, beq_iff', bne_iff', Bool.false_eq_true, and_false, false_and, or_false, false_or, and_true, true_and, not_true_eq_false, not_false_eq_true]; try omega
theorem impl_isMods_ok (c : Int) : impl_isMods c = some (decide (1 ≤ c ∧ c ≤ 15), ()) := by
  simp only [impl_isMods, cond_some, cond_unit]
  apply some_unit; simp only [cond_iff, decide_eq_true_eq, beq_iff', bne_iff', Bool.false_eq_true, and_false, false_and, or_false, false_or, and_true, true_and, not_true_eq_false, not_false_eq_true]; try omega
theorem impl_isUpper_ok (c : Int) : impl_isUpper c = some (decide (1 ≤ c ∧ c ≤ 3), ()) := by
  simp only [impl_isUpper, cond_some, cond_unit]
  apply some_unit; simp only [cond_iff, decide_eq_true_eq, beq_iff', bne_iff', Bool.false_eq_true, and_false, false_and, or_false, false_or, and_true, true_and, not_true_eq_false, not_false_eq_true]; try omega
theorem spec_l1In_ok (c a b : Int) : spec_l1In c a b = some (decide (a ≤ c ∧ c ≤ b), ()) := by
  simp only [spec_l1In, cond_some, cond_unit]
  apply some_unit; simp only [cond_iff, decide_eq_true_eq, beq_iff', bne_iff', Bool.false_eq_true, and_false, false_and, or_false, false_or, and_true, true_and, not_true_eq_false, not_false_eq_true]; try omega

theorem impl_IsAction_ok (a : TAction) : impl_IsAction a = some (isActionB a, ()) := by
  obtain ⟨k, c, m, n, u⟩ := a
  have key : ∀ k c m n : Int, impl_IsAction (k, c, m, n, u) = some (isActionB (k, c, m, n, u), ()) := by
    intro k c m n
    simp only [impl_IsAction, impl_isCode_ok, impl_isMods_ok, impl_isUpper_ok, spec_l1In_ok, Option.bind_some, cond_some, cond_unit]
    by_cases h0 : k = 0
    · subst h0; apply some_unit; rw [isActionB_iff]; simp [IsActionP, cond_iff]; try omega
    by_cases h1 : k = 1
    · subst h1; apply some_unit; rw [isActionB_iff]; simp [IsActionP, cond_iff]; try omega
    by_cases h2 : k = 2
    · subst h2; apply some_unit; rw [isActionB_iff]; simp [IsActionP, cond_iff]; intro hn; (repeat' split) <;> omega
    by_cases h3 : k = 3
    · subst h3; apply some_unit; rw [isActionB_iff]; simp [IsActionP, cond_iff]; try omega
    by_cases h4 : k = 4
    · subst h4; apply some_unit; rw [isActionB_iff]; simp [IsActionP, cond_iff]; try omega
    by_cases h5 : k = 5
    · subst h5; apply some_unit; rw [isActionB_iff]; simp [IsActionP, cond_iff]; try omega
    by_cases h6 : k = 6
    · subst h6; apply some_unit; rw [isActionB_iff]; simp [IsActionP, cond_iff]; try omega
    by_cases h7 : k = 7
    · subst h7; apply some_unit; rw [isActionB_iff]; simp [IsActionP, cond_iff]; try omega
    by_cases h8 : k = 8
    · subst h8; apply some_unit; rw [isActionB_iff]; simp [IsActionP, cond_iff]; try omega
    by_cases h9 : k = 9
    · subst h9; apply some_unit; rw [isActionB_iff]; simp [IsActionP, cond_iff]; try omega
    by_cases h10 : k = 10
    · subst h10; apply some_unit; rw [isActionB_iff]; simp [IsActionP, cond_iff]; try omega
    have g : ∀ j : Int, (k == j) = decide (k = j) := fun j => by rw [Bool.eq_iff_iff]; simp
    apply some_unit; rw [isActionB_iff]; simp [IsActionP, cond_iff, h0, h1, h2, h3, h4, h5, h6, h7, h8, h9, h10]
  exact key k c m n
theorem spec_IsAction_ok (a : TAction) : spec_IsAction a = some (isActionB a, ()) := by
  obtain ⟨k, c, m, n, u⟩ := a
  have key : ∀ k c m n : Int, spec_IsAction (k, c, m, n, u) = some (isActionB (k, c, m, n, u), ()) := by
    intro k c m n
    simp only [spec_IsAction, impl_isCode_ok, impl_isMods_ok, impl_isUpper_ok, spec_l1In_ok, Option.bind_some, cond_some, cond_unit]
    by_cases h0 : k = 0
    · subst h0; apply some_unit; rw [isActionB_iff]; simp [IsActionP, cond_iff]; try omega
    by_cases h1 : k = 1
    · subst h1; apply some_unit; rw [isActionB_iff]; simp [IsActionP, cond_iff]; try omega
    by_cases h2 : k = 2
    · subst h2; apply some_unit; rw [isActionB_iff]; simp [IsActionP, cond_iff]; intro hn; (repeat' split) <;> omega
    by_cases h3 : k = 3
    · subst h3; apply some_unit; rw [isActionB_iff]; simp [IsActionP, cond_iff]; try omega
    by_cases h4 : k = 4
    · subst h4; apply some_unit; rw [isActionB_iff]; simp [IsActionP, cond_iff]; try omega
    by_cases h5 : k = 5
    · subst h5; apply some_unit; rw [isActionB_iff]; simp [IsActionP, cond_iff]; try omega
    by_cases h6 : k = 6
    · subst h6; apply some_unit; rw [isActionB_iff]; simp [IsActionP, cond_iff]; try omega
    by_cases h7 : k = 7
    · subst h7; apply some_unit; rw [isActionB_iff]; simp [IsActionP, cond_iff]; try omega
    by_cases h8 : k = 8
    · subst h8; apply some_unit; rw [isActionB_iff]; simp [IsActionP, cond_iff]; try omega
    by_cases h9 : k = 9
    · subst h9; apply some_unit; rw [isActionB_iff]; simp [IsActionP, cond_iff]; try omega
    by_cases h10 : k = 10
    · subst h10; apply some_unit; rw [isActionB_iff]; simp [IsActionP, cond_iff]; try omega
    have g : ∀ j : Int, (k == j) = decide (k = j) := fun j => by rw [Bool.eq_iff_iff]; simp
    apply some_unit; rw [isActionB_iff]; simp [IsActionP, cond_iff, h0, h1, h2, h3, h4, h5, h6, h7, h8, h9, h10]
  exact key k c m n

/-! ### Keymaps -/
/-- what is asked of the action of a layer -/
noncomputable def okActB (nl : Nat) (i : Nat) (a : TAction) : Bool := isActionB a && !(((i : Int) == 0) && (a.1 == 1)) && !((a.1 != 9) && decide (a.2.2.2.1 ≥ (nl : Int)))
noncomputable def okLayerB (keys : Int) (nl : Nat) (i : Nat) (l : List TAction) : Bool := ((List.length l : Int) == keys) && allK (fun _ a => okActB nl i a) 0 l
noncomputable def isKeymapB (m : TKeymap) : Bool :=
  decide (1 ≤ m.1 ∧ m.1 ≤ 32) && decide (1 ≤ m.2.1.length ∧ m.2.1.length ≤ 4) && allK (fun i l => okLayerB m.1 m.2.1.length i l) 0 m.2.1

theorem impl_IsKeymap_in (m : TKeymap) (i : Nat) (l : List TAction) (L : List (List TAction)) (n : Int) (t : Int) (hl : l.length < 9223372036854775807) :
    impl_IsKeymap_9_loop (((), (i : Int), L, n, t, l, (l.length : Int), (0 : Int), ()), (m, ())) =
      some (cond (allK (fun _ a => okActB m.2.1.length i a) 0 l) (.inl (((), L, n, t, ()), (m, ()))) (.inr ((false, ()), ()))) := by
  unfold impl_IsKeymap_9_loop
  refine loopF_all (step := _) l (fun _ a => okActB m.2.1.length i a) (fun j => (((), (i : Int), L, n, t, l, (l.length : Int), j, ()), (m, ()))) _ _ ?_ ?_ hl
  · intro k hk
    simp only [impl_IsKeymap_9_R]
    rw [dec_true (show (k : Int) < (l.length : Int) by omega), idx_lt hk]
    simp only [cond_true, Option.bind_some, okActB, impl_IsAction_ok]
    cases isActionB l[k] <;> cases ((i : Int) == 0) <;> cases (l[k].1 == 1) <;> cases (l[k].1 != 9) <;> cases decide (l[k].2.2.2.1 ≥ (m.2.1.length : Int)) <;> rfl
  · simp [impl_IsKeymap_9_R]

theorem impl_IsKeymap_ok (m : TKeymap) (hz : szT tKeymap m ≤ big20) : impl_IsKeymap m = some (isKeymapB m, ()) := by
  have h20 : big20 = 1048576 := rfl
  have hz' : m.2.1.length + (List.map (szT (.sl tAction)) m.2.1).sum ≤ big20 := by
    have : szT tKeymap m = szT (.sl (.sl tAction)) m.2.1 := by simp only [szT, Nat.add_zero, Nat.zero_add]
    rw [this] at hz; exact hz
  have hl : ∀ k (hk : k < m.2.1.length), m.2.1[k].length ≤ big20 := by
    intro k hk
    have := sum_map_le (f := szT (.sl tAction)) hk
    have h2 : m.2.1[k].length ≤ szT (.sl tAction) m.2.1[k] := Nat.le_add_right _ _
    omega
  have hloop : impl_IsKeymap_4_loop (((), m.2.1, ((List.length m.2.1 : Nat) : Int), (0 : Int), ()), (m, ())) =
      some (cond (allK (fun i l => okLayerB m.1 m.2.1.length i l) 0 m.2.1) (.inl ((), ())) (.inr ((false, ()), ()))) := by
    unfold impl_IsKeymap_4_loop
    refine loopF_all (step := _) m.2.1 (fun i l => okLayerB m.1 m.2.1.length i l) (fun j => (((), m.2.1, ((List.length m.2.1 : Nat) : Int), j, ()), (m, ()))) _ _ ?_ ?_ (by omega)
    · intro k hk
      have := hl k hk
      simp only [impl_IsKeymap_4_R]
      rw [dec_true (show (k : Int) < (m.2.1.length : Int) by omega), idx_lt hk]
      simp only [cond_true, Option.bind_some, okLayerB]
      rw [impl_IsKeymap_in m k _ _ _ _ (by omega)]
      show (cond (!((m.2.1[k].length : Int) == m.1)) _ _) = _
      cases ((m.2.1[k].length : Int) == m.1) <;> cases allK (fun _ a => okActB m.2.1.length k a) 0 m.2.1[k] <;> rfl
    · simp [impl_IsKeymap_4_R]
  unfold impl_IsKeymap
  rw [hloop]
  simp only [Option.bind_some, elim_cond, cond_some, cond_unit]
  apply some_unit
  simp only [cond_iff, isKeymapB, Bool.and_eq_true, decide_eq_true_eq, Bool.false_eq_true, and_false, false_or, and_true, or_false]
  generalize allK (fun i l => okLayerB m.1 m.2.1.length i l) 0 m.2.1 = b
  constructor
  · rintro ⟨h1, h2, h3, h4, h5⟩; exact ⟨⟨by omega, by omega⟩, h5⟩
  · rintro ⟨⟨h1, h2⟩, h5⟩; exact ⟨by omega, by omega, by omega, by omega, h5⟩

theorem spec_IsKeymap_in (m : TKeymap) (i : Nat) (hi : i < m.2.1.length) (hl : m.2.1[i].length < 9223372036854775807) :
    spec_IsKeymap_7_loop (((), (i : Int), (0 : Int), ()), (m, ())) =
      some (cond (allK (fun _ a => okActB m.2.1.length i a) 0 m.2.1[i]) (.inl (((), (i : Int), ()), (m, ()))) (.inr ((false, ()), ()))) := by
  unfold spec_IsKeymap_7_loop
  refine loopF_all (step := _) m.2.1[i] (fun _ a => okActB m.2.1.length i a) (fun j => (((), (i : Int), j, ()), (m, ()))) _ _ ?_ ?_ hl
  · intro k hk
    simp only [spec_IsKeymap_7_R]
    rw [idx_lt hi]
    simp only [Option.bind_some]
    rw [dec_true (show (k : Int) < (m.2.1[i].length : Int) by omega), idx_lt hk]
    simp only [cond_true, Option.bind_some, okActB, spec_IsAction_ok]
    cases isActionB m.2.1[i][k] <;> cases ((i : Int) == 0) <;> cases (m.2.1[i][k].1 == 1) <;> cases (m.2.1[i][k].1 != 9) <;> cases decide (m.2.1[i][k].2.2.2.1 ≥ (m.2.1.length : Int)) <;> rfl
  · simp [spec_IsKeymap_7_R, idx_lt hi]

theorem spec_IsKeymap_ok (m : TKeymap) (hz : szT tKeymap m ≤ big20) : spec_IsKeymap m = some (isKeymapB m, ()) := by
  have h20 : big20 = 1048576 := rfl
  have hz' : m.2.1.length + (List.map (szT (.sl tAction)) m.2.1).sum ≤ big20 := by
    have : szT tKeymap m = szT (.sl (.sl tAction)) m.2.1 := by simp only [szT, Nat.add_zero, Nat.zero_add]
    rw [this] at hz; exact hz
  have hl : ∀ k (hk : k < m.2.1.length), m.2.1[k].length ≤ big20 := by
    intro k hk
    have := sum_map_le (f := szT (.sl tAction)) hk
    have h2 : m.2.1[k].length ≤ szT (.sl tAction) m.2.1[k] := Nat.le_add_right _ _
    omega
  have hloop : spec_IsKeymap_2_loop (((), (0 : Int), ()), (m, ())) =
      some (cond (allK (fun i l => okLayerB m.1 m.2.1.length i l) 0 m.2.1) (.inl (((), ()), (m, ()))) (.inr ((false, ()), ()))) := by
    unfold spec_IsKeymap_2_loop
    refine loopF_all (step := _) m.2.1 (fun i l => okLayerB m.1 m.2.1.length i l) (fun j => (((), j, ()), (m, ()))) _ _ ?_ ?_ (by omega)
    · intro k hk
      have := hl k hk
      simp only [spec_IsKeymap_2_R]
      rw [dec_true (show (k : Int) < (m.2.1.length : Int) by omega), idx_lt hk]
      simp only [cond_true, Option.bind_some, okLayerB]
      rw [spec_IsKeymap_in m k hk (by omega)]
      show (cond (!((m.2.1[k].length : Int) == m.1)) _ _) = _
      cases ((m.2.1[k].length : Int) == m.1) <;> cases allK (fun _ a => okActB m.2.1.length k a) 0 m.2.1[k] <;> rfl
    · simp [spec_IsKeymap_2_R]
  unfold spec_IsKeymap
  rw [hloop]
  simp only [Option.bind_some, elim_cond, cond_some, cond_unit, spec_l1In_ok]
  apply some_unit
  simp only [cond_iff, isKeymapB, Bool.and_eq_true, decide_eq_true_eq, Bool.false_eq_true, and_false, false_or, and_true, or_false]
  generalize allK (fun i l => okLayerB m.1 m.2.1.length i l) 0 m.2.1 = b
  constructor
  · rintro ⟨h1, h2, h3⟩; exact ⟨⟨by omega, by omega⟩, h1⟩
  · rintro ⟨⟨h1, h2⟩, h5⟩; exact ⟨h5, by omega, by omega⟩

/-! ### Fixed masks -/
theorem shl_one {n : Nat} (h : n ≤ 62) : ishl .i64 1 (n : Int) = ((2 ^ n : Nat) : Int) := by
  unfold ishl
  have h1 : min (Int.toNat (n : Int)) (IntKind.bits .i64) = n := by
    show min (Int.toNat (n : Int)) 64 = n
    rw [Int.toNat_natCast]; omega
  rw [h1, Int.one_mul]
  have h2 : (2 : Int) ^ n = ((2 ^ n : Nat) : Int) := by simp
  have h3 : 2 ^ n ≤ 2 ^ 62 := Nat.pow_le_pow_right (by omega) h
  rw [h2]
  clear h1 h2
  generalize 2 ^ n = z at h3
  rw [wrap64 (by omega) (by omega)]

theorem IsFixed_same (m : TKeymap) (f : Int) (_ : Rng tKeymap m) (_ : Rng int f) (hz : szT tKeymap m ≤ big20) :
    ∃ b, spec_IsFixed m f = some (b, ()) ∧ impl_IsFixed m f = some (b, ()) := by
  unfold spec_IsFixed impl_IsFixed
  rw [spec_IsKeymap_ok m hz, impl_IsKeymap_ok m hz]
  simp only [Option.bind_some, spec_l1In_ok]
  cases hk : isKeymapB m with
  | false => exact ⟨false, rfl, rfl⟩
  | true =>
    simp only [cond_true]
    have hn : 1 ≤ m.2.1.length ∧ m.2.1.length ≤ 4 := by
      simp only [isKeymapB, Bool.and_eq_true, decide_eq_true_eq] at hk
      exact hk.1.2
    rw [shl_one (by omega), dec_true (show (0 : Int) ≤ (m.2.1.length : Int) by omega)]
    have hp : 1 ≤ 2 ^ m.2.1.length ∧ 2 ^ m.2.1.length ≤ 16 := by
      obtain ⟨h1, h2⟩ := hn
      generalize m.2.1.length = n at *
      have : n = 1 ∨ n = 2 ∨ n = 3 ∨ n = 4 := by omega
      rcases this with rfl | rfl | rfl | rfl <;> decide
    rw [wrap64 (by omega) (by omega)]
    simp only [cond_true, cond_some, cond_unit, show ((2 : Int) == 0) = false from rfl, cond_false]
    refine ⟨_, rfl, ?_⟩
    apply some_unit
    simp only [cond_iff, decide_eq_true_eq, Bool.false_eq_true, and_false, or_false, beq_iff']
    omega
end KF

namespace KF
open Go

/-! ### What a valid keymap is -/
structure KeymapOk (m : TKeymap) : Prop where
  k1 : 1 ≤ m.1
  k2 : m.1 ≤ 32
  l1 : 1 ≤ m.2.1.length
  l2 : m.2.1.length ≤ 4
  row : ∀ i (h : i < m.2.1.length), (m.2.1[i].length : Int) = m.1
  act : ∀ i (h : i < m.2.1.length) k (hk : k < m.2.1[i].length), okActB m.2.1.length i m.2.1[i][k] = true

theorem keymap_ok {m : TKeymap} (h : isKeymapB m = true) : KeymapOk m := by
  simp only [isKeymapB, Bool.and_eq_true, decide_eq_true_eq] at h
  obtain ⟨⟨h1, h2⟩, h3⟩ := h
  rw [allK_true] at h3
  refine ⟨h1.1, h1.2, h2.1, h2.2, fun i hi => ?_, fun i hi k hk => ?_⟩
  · have := h3 i hi
    simp only [Nat.zero_add, okLayerB, Bool.and_eq_true, beq_iff_eq] at this
    exact this.1
  · have := h3 i hi
    simp only [Nat.zero_add, okLayerB, Bool.and_eq_true, beq_iff_eq] at this
    have := allK_true.1 this.2 k hk
    simpa using this

theorem okAct_action {nl i : Nat} {a : TAction} (h : okActB nl i a = true) : isActionB a = true := by
  simp only [okActB, Bool.and_eq_true] at h
  exact h.1.1
theorem okAct_n {nl i : Nat} {a : TAction} (h : okActB nl i a = true) (hk : a.1 ≠ 9) : a.2.2.2.1 < (nl : Int) := by
  simp only [okActB, Bool.and_eq_true, Bool.not_eq_true', Bool.and_eq_false_iff] at h
  rcases h.2 with h | h
  · simp at h; exact absurd h hk
  · simpa using h

def bitI (m k : Int) : Int := iand .i64 (ishr .i64 m k) 1
theorem impl_bit_ok (m : Int) {k : Int} (h : 0 ≤ k) : impl_bit m k = some (bitI m k, ()) := by
  unfold impl_bit
  rw [dec_true h]; rfl

def zAct : TAction := (0, 0, 0, 0, ())
def actAt (L : List (List TAction)) (i k : Nat) : TAction := (L.getD i []).getD k zAct
theorem actAt_eq {L : List (List TAction)} {i k : Nat} (hi : i < L.length) (hk : k < L[i].length) : actAt L i k = L[i][k] := by
  simp [actAt, List.getD_eq_getElem?_getD, hi, hk]
theorem idx2 {α : Type} {L : List (List TAction)} {i k : Nat} (hi : i < L.length) (hk : k < L[i].length) (K : TAction → Option α) :
    (Option.bind (idx L (i : Int)) fun x => Option.bind (idx x (k : Int)) K) = K (actAt L i k) := by
  rw [idx_lt hi]
  simp only [Option.bind_some]
  rw [idx_lt hk, actAt_eq hi hk]
  rfl

/-- the layer that says what a key does -/
def layerDown (L : List (List TAction)) (on : Int) (k : Nat) : Nat → Nat
  | 0 => 0
  | n + 1 => cond ((bitI on ((n + 1 : Nat) : Int) == 1) && ((actAt L (n + 1) k).1 != 1)) (n + 1) (layerDown L on k n)
theorem layerDown_le {L : List (List TAction)} {on : Int} {k : Nat} : ∀ n, layerDown L on k n ≤ n
  | 0 => Nat.le_refl _
  | n + 1 => by
    simp only [layerDown]
    cases ((bitI on ((n + 1 : Nat) : Int) == 1) && ((actAt L (n + 1) k).1 != 1)) with
    | true => exact Nat.le_refl _
    | false => exact Nat.le_succ_of_le (layerDown_le n)

theorem impl_layer_loop {m : TKeymap} (hm : KeymapOk m) (on : Int) {k : Nat} (hk : (k : Int) < m.1) : ∀ n : Nat, n < m.2.1.length →
    impl_layerAt_2_loop ((on, (k : Int), (), (n : Int), ()), (m, ())) = some (cond (layerDown m.2.1 on k n == 0) (.inl ((), ())) (.inr ((((layerDown m.2.1 on k n : Nat) : Int), ()), ())))
  | 0, _ => by
    unfold impl_layerAt_2_loop
    rw [loopF_step]
    rfl
  | n + 1, h => by
    have hrow := hm.row (n + 1) h
    unfold impl_layerAt_2_loop
    rw [loopF_step]
    simp only [impl_layerAt_2_R]
    rw [dec_true (show (((n + 1 : Nat) : Int)) > 0 by omega), impl_bit_ok on (show (0 : Int) ≤ ((n + 1 : Nat) : Int) by omega)]
    simp only [cond_true, Option.bind_some]
    rw [idx2 h (by omega), wrap64 (by have := hm.l2; omega) (by have := hm.l2; omega), show (((n + 1 : Nat) : Int) - 1) = (n : Int) by omega]
    have ih := impl_layer_loop hm on hk n (by omega)
    unfold impl_layerAt_2_loop at ih
    simp only [layerDown]
    cases h1 : (bitI on ((n + 1 : Nat) : Int) == 1) with
    | false =>
      simp only [Bool.false_and, cond_false, Option.bind_some, Sum.elim_inl]
      exact ih
    | true =>
      cases h2 : ((actAt m.2.1 (n + 1) k).1 != 1) with
      | true => rfl
      | false =>
        simp only [Bool.and_false, cond_true, cond_false, Option.bind_some, Sum.elim_inl]
        exact ih

theorem impl_layerAt_ok {m : TKeymap} (hm : KeymapOk m) (on : Int) {k : Nat} (hk : (k : Int) < m.1) :
    impl_layerAt m on (k : Int) = some (((layerDown m.2.1 on k (m.2.1.length - 1) : Nat) : Int), ()) := by
  have h1 := hm.l1
  have h2 := hm.l2
  unfold impl_layerAt
  rw [wrap64 (by omega) (by omega), show ((m.2.1.length : Int) - 1) = ((m.2.1.length - 1 : Nat) : Int) by omega, impl_layer_loop hm on hk _ (by omega)]
  cases h : (layerDown m.2.1 on k (m.2.1.length - 1) == 0) with
  | false => rfl
  | true =>
    have h' : layerDown m.2.1 on k (m.2.1.length - 1) = 0 := by simpa using h
    rw [h']; rfl

theorem spec_layer_loop {m : TKeymap} (hm : KeymapOk m) (on : Int) {k : Nat} (hk : (k : Int) < m.1) : ∀ n : Nat, n < m.2.1.length →
    spec_LayerAt_4_loop ((on, (k : Int), (), (n : Int), ()), (m, ())) = some (cond (layerDown m.2.1 on k n == 0) (.inl ((), ())) (.inr ((((layerDown m.2.1 on k n : Nat) : Int), ()), ())))
  | 0, _ => by
    unfold spec_LayerAt_4_loop
    rw [loopF_step]
    rfl
  | n + 1, h => by
    have hrow := hm.row (n + 1) h
    unfold spec_LayerAt_4_loop
    rw [loopF_step]
    simp only [spec_LayerAt_4_R]
    rw [dec_true (show (((n + 1 : Nat) : Int)) > 0 by omega), dec_true (show (0 : Int) ≤ ((n + 1 : Nat) : Int) by omega)]
    simp only [cond_true]
    rw [idx2 h (by omega), wrap64 (by have := hm.l2; omega) (by have := hm.l2; omega), show (((n + 1 : Nat) : Int) - 1) = (n : Int) by omega]
    have ih := spec_layer_loop hm on hk n (by omega)
    unfold spec_LayerAt_4_loop at ih
    simp only [layerDown]
    show Option.bind (cond (bitI on ((n + 1 : Nat) : Int) == 1) _ _) _ = _
    cases h1 : (bitI on ((n + 1 : Nat) : Int) == 1) with
    | false =>
      simp only [Bool.false_and, cond_false, Option.bind_some, Sum.elim_inl]
      exact ih
    | true =>
      cases h2 : ((actAt m.2.1 (n + 1) k).1 != 1) with
      | true => rfl
      | false =>
        simp only [Bool.and_false, cond_true, cond_false, Option.bind_some, Sum.elim_inl]
        exact ih

def layerI (m : TKeymap) (on : Int) (k : Nat) : Nat := layerDown m.2.1 on k (m.2.1.length - 1)
theorem layerI_lt {m : TKeymap} (hm : KeymapOk m) (on : Int) (k : Nat) : layerI m on k < m.2.1.length := by
  have := layerDown_le (L := m.2.1) (on := on) (k := k) (m.2.1.length - 1)
  have := hm.l1
  unfold layerI
  omega

theorem spec_LayerAt_in {m : TKeymap} (hz : szT tKeymap m ≤ big20) (hv : isKeymapB m = true) (on : Int) {k : Nat} (hk : (k : Int) < m.1) :
    spec_LayerAt m on (k : Int) = some (((layerI m on k : Nat) : Int), ()) := by
  have hm := keymap_ok hv
  have h1 := hm.l1
  have h2 := hm.l2
  have h3 := hm.k2
  unfold spec_LayerAt
  rw [spec_IsKeymap_ok m hz, hv, wrap64 (n := m.1 - 1) (by omega) (by omega)]
  simp only [Option.bind_some, Bool.not_true, cond_false, spec_l1In_ok]
  rw [dec_true (show (0 : Int) ≤ (k : Int) ∧ (k : Int) ≤ m.1 - 1 by omega), wrap64 (by omega) (by omega), show ((m.2.1.length : Int) - 1) = ((m.2.1.length - 1 : Nat) : Int) by omega, spec_layer_loop hm on hk _ (by omega)]
  simp only [Bool.not_true, cond_false, Option.bind_some]
  show _ = some (((layerDown m.2.1 on k (m.2.1.length - 1) : Nat) : Int), ())
  cases h : (layerDown m.2.1 on k (m.2.1.length - 1) == 0) with
  | false => rfl
  | true =>
    have h' : layerDown m.2.1 on k (m.2.1.length - 1) = 0 := by simpa using h
    rw [h']; rfl

theorem spec_ActionAt_in {m : TKeymap} (hz : szT tKeymap m ≤ big20) (hv : isKeymapB m = true) (on : Int) {k : Nat} (hk : (k : Int) < m.1) :
    spec_ActionAt m on (k : Int) = some (actAt m.2.1 (layerI m on k) k, ()) := by
  have hm := keymap_ok hv
  have hl := layerI_lt hm on k
  have hrow := hm.row _ hl
  unfold spec_ActionAt
  rw [spec_LayerAt_in hz hv on hk]
  simp only [Option.bind_some]
  rw [dec_false (by omega)]
  simp only [cond_false]
  rw [idx2 hl (by omega)]

/-! ### After a tap -/
def afterI (f : Int) (a : TAction) : Int := cond (a.1 == 4) (ixor .i64 f (ishl .i64 1 a.2.2.2.1)) (cond (a.1 == 5) (iandn .i64 (ishl .i64 1 a.2.2.2.1) 1) f)

theorem act_n {nl i : Nat} {a : TAction} (h : okActB nl i a = true) (hk : a.1 = 3 ∨ a.1 = 4 ∨ a.1 = 5 ∨ a.1 = 7) : 0 ≤ a.2.2.2.1 ∧ a.2.2.2.1 < (nl : Int) ∧ a.2.2.2.1 ≤ 3 := by
  have h1 := okAct_action h
  rw [isActionB_iff] at h1
  have h2 := okAct_n h (by rcases hk with hk | hk | hk | hk <;> rw [hk] <;> decide)
  unfold IsActionP at h1
  omega

theorem impl_fixedAfter_ok {m : TKeymap} (hm : KeymapOk m) (f : Int) {k : Nat} (hk : (k : Int) < m.1) :
    impl_fixedAfter m f (k : Int) = some (afterI f (actAt m.2.1 (layerI m f k) k), ()) := by
  have hl := layerI_lt hm f k
  have hrow := hm.row _ hl
  have hact := hm.act _ hl k (by omega)
  rw [← actAt_eq hl (by omega)] at hact
  unfold impl_fixedAfter
  rw [impl_layerAt_ok hm f hk]
  simp only [Option.bind_some]
  rw [show layerDown m.2.1 f k (m.2.1.length - 1) = layerI m f k from rfl, idx2 hl (by omega)]
  generalize actAt m.2.1 (layerI m f k) k = a at hact
  unfold afterI
  cases h4 : (a.1 == 4) with
  | true =>
    rw [dec_true (act_n hact (.inr (.inl (by simpa using h4)))).1]; rfl
  | false =>
    cases h5 : (a.1 == 5) with
    | true => rw [dec_true (act_n hact (.inr (.inr (.inl (by simpa using h5))))).1]; rfl
    | false => rfl

theorem fixed_bits {f : Int} (h0 : 0 ≤ f) (h1 : f < 16) (h2 : f.tmod 2 = 0) : ∀ n : Nat, n < 4 → bitI (ior .i64 1 f) ((n + 1 : Nat) : Int) = bitI f ((n + 1 : Nat) : Int) := by
  have : f = 0 ∨ f = 1 ∨ f = 2 ∨ f = 3 ∨ f = 4 ∨ f = 5 ∨ f = 6 ∨ f = 7 ∨ f = 8 ∨ f = 9 ∨ f = 10 ∨ f = 11 ∨ f = 12 ∨ f = 13 ∨ f = 14 ∨ f = 15 := by omega
  clear h0 h1 h2
  rcases this with rfl | rfl | rfl | rfl | rfl | rfl | rfl | rfl | rfl | rfl | rfl | rfl | rfl | rfl | rfl | rfl <;> decide

theorem layer_congr {L : List (List TAction)} {on on' : Int} {k : Nat} : ∀ n : Nat, (∀ j : Nat, j < n → bitI on ((j + 1 : Nat) : Int) = bitI on' ((j + 1 : Nat) : Int)) → layerDown L on k n = layerDown L on' k n
  | 0, _ => rfl
  | n + 1, h => by
    simp only [layerDown]
    rw [h n (by omega), layer_congr n fun j hj => h j (by omega)]

theorem fixed_facts {m : TKeymap} {f : Int} {b : Bool} (hz : szT tKeymap m ≤ big20) (h : impl_IsFixed m f = some (b, ())) (hb : b = true) : isKeymapB m = true ∧ 0 ≤ f ∧ f < 16 ∧ f.tmod 2 = 0 := by
  unfold impl_IsFixed at h
  rw [impl_IsKeymap_ok m hz] at h
  cases hk : isKeymapB m with
  | false => rw [hk] at h; simp at h; rw [hb] at h; simp at h
  | true =>
    have hm := keymap_ok hk
    rw [hk] at h
    simp only [Option.bind_some, cond_true, show ((2 : Int) == 0) = false from rfl, cond_false] at h
    by_cases h1 : f ≥ 0
    case neg => rw [dec_false h1] at h; simp at h; rw [hb] at h; simp at h
    rw [dec_true h1] at h
    cases h2 : (f.tmod 2 == 0) with
    | false => rw [h2] at h; simp at h; rw [hb] at h; simp at h
    | true =>
      rw [h2, dec_true (show (0 : Int) ≤ (m.2.1.length : Int) by omega), shl_one (by have := hm.l2; omega)] at h
      simp only [cond_true, Option.some.injEq, Prod.mk.injEq, and_true] at h
      rw [hb, decide_eq_true_eq] at h
      have h3 := hm.l2
      have h4 : 2 ^ m.2.1.length ≤ 2 ^ 4 := Nat.pow_le_pow_right (by omega) h3
      exact ⟨rfl, h1, by omega, by simpa using h2⟩

theorem FixedAfter_same (m : TKeymap) (f k : Int) (hr0 : Rng tKeymap m) (hr1 : Rng int f) (_ : Rng int k) (hz : szT tKeymap m ≤ big20) :
    ∃ w, spec_FixedAfter m f k = some (w, ()) ∧ impl_FixedAfter m f k = some (w, ()) := by
  obtain ⟨b, e1, e2⟩ := IsFixed_same m f hr0 hr1 hz
  unfold spec_FixedAfter impl_FixedAfter
  rw [e1, e2]
  cases b with
  | false => exact ⟨-1, rfl, rfl⟩
  | true =>
    obtain ⟨hv, f0, f1, f2⟩ := fixed_facts hz e2 rfl
    have hm := keymap_ok hv
    have hk2 := hm.k2
    have hk1 := hm.k1
    simp only [Option.bind_some, Bool.not_true, cond_false, spec_l1In_ok]
    rw [wrap64 (n := m.1 - 1) (by omega) (by omega)]
    by_cases hk : 0 ≤ k ∧ k ≤ m.1 - 1
    case neg =>
      rw [dec_false hk]
      refine ⟨-1, rfl, ?_⟩
      by_cases h0 : k < 0
      · rw [dec_true h0]; rfl
      · rw [dec_false h0, dec_true (show k ≥ m.1 by omega)]; rfl
    rw [dec_true hk, dec_false (show ¬ k < 0 by omega), dec_false (show ¬ k ≥ m.1 by omega)]
    obtain ⟨n, rfl⟩ := Int.eq_ofNat_of_zero_le hk.1
    have hl2 := hm.l2
    rw [spec_ActionAt_in hz hv _ (by omega), impl_fixedAfter_ok hm f (by omega)]
    have hsame : layerI m (ior .i64 1 f) n = layerI m f n := layer_congr _ fun j hj => fixed_bits f0 f1 f2 j (by omega)
    rw [hsame]
    have hl := layerI_lt hm f n
    have hrow := hm.row _ hl
    have hact := hm.act _ hl n (by omega)
    rw [← actAt_eq hl (by omega)] at hact
    refine ⟨afterI f (actAt m.2.1 (layerI m f n) n), ?_, rfl⟩
    generalize actAt m.2.1 (layerI m f n) n = a at hact
    simp only [Bool.not_true, cond_false, Option.bind_some]
    unfold afterI
    cases h4 : (a.1 == 4) with
    | true =>
      rw [dec_true (act_n hact (.inr (.inl (by simpa using h4)))).1]; rfl
    | false =>
      cases h5 : (a.1 == 5) with
      | true => rw [dec_true (act_n hact (.inr (.inr (.inl (by simpa using h5))))).1]; rfl
      | false => rfl
end KF

namespace KF
open Go

/-! ### Tap and hold -/
noncomputable def isTapHoldB (a : TAction) : Bool := isActionB a && ((a.1 == 6) || (a.1 == 7))
noncomputable def tapOfA (a : TAction) : TAction := cond (isTapHoldB a) (2, a.2.1, 0, 0, ()) a
noncomputable def holdOfA (a : TAction) : TAction := cond (isTapHoldB a) (cond (a.1 == 6) (2, 0, a.2.2.1, 0, ()) (3, 0, 0, a.2.2.2.1, ())) a
theorem impl_IsTapHold_ok (a : TAction) : impl_IsTapHold a = some (isTapHoldB a, ()) := by
  unfold impl_IsTapHold isTapHoldB
  rw [impl_IsAction_ok]
  cases isActionB a <;> cases (a.1 == 6) <;> rfl
theorem spec_IsTapHold_ok (a : TAction) : spec_IsTapHold a = some (isTapHoldB a, ()) := by
  unfold spec_IsTapHold isTapHoldB
  rw [spec_IsAction_ok]
  cases isActionB a <;> cases (a.1 == 6) <;> rfl
theorem impl_TapOf_ok (a : TAction) : impl_TapOf a = some (tapOfA a, ()) := by
  unfold impl_TapOf tapOfA
  rw [impl_IsTapHold_ok]
  cases isTapHoldB a <;> rfl
theorem spec_TapOf_ok (a : TAction) : spec_TapOf a = some (tapOfA a, ()) := by
  unfold spec_TapOf tapOfA
  rw [spec_IsTapHold_ok]
  cases isTapHoldB a <;> rfl
theorem spec_HoldOf_ok (a : TAction) : spec_HoldOf a = some (holdOfA a, ()) := by
  unfold spec_HoldOf holdOfA
  rw [spec_IsTapHold_ok]
  cases isTapHoldB a <;> cases (a.1 == 6) <;> rfl

/-! ### Layers that are used -/
def turnsB (a : TAction) : Bool := (a.1 == 3) || (a.1 == 4) || (a.1 == 5) || (a.1 == 7)
def orU (u : Int) (a : TAction) : Int := cond (turnsB a) (ior .i64 u (ishl .i64 1 a.2.2.2.1)) u
def rowU (u : Int) (i : Nat) (row : List TAction) : Int := cond (bitI u (i : Int) == 1) (row.foldl orU u) u

theorem or_bits : ∀ u : Fin 16, ∀ n : Fin 4, 0 ≤ ior .i64 (u.val : Int) (ishl .i64 1 (n.val : Int)) ∧ ior .i64 (u.val : Int) (ishl .i64 1 (n.val : Int)) < 16 ∧
    ∀ i : Fin 4, bitI (u.val : Int) (i.val : Int) = 1 → bitI (ior .i64 (u.val : Int) (ishl .i64 1 (n.val : Int))) (i.val : Int) = 1 := by decide +kernel

theorem or_ok {u : Int} (hu : 0 ≤ u ∧ u < 16) {nl i j : Nat} (hi : i < 4) {a : TAction} (ha : okActB nl j a = true) :
    (0 ≤ orU u a ∧ orU u a < 16) ∧ (bitI u (i : Int) = 1 → bitI (orU u a) (i : Int) = 1) := by
  unfold orU
  cases ht : turnsB a with
  | false => exact ⟨hu, fun h => h⟩
  | true =>
    have hn := act_n ha (by simp only [turnsB, Bool.or_eq_true, beq_iff_eq] at ht; omega)
    obtain ⟨u', rfl⟩ := Int.eq_ofNat_of_zero_le hu.1
    obtain ⟨n', hn'⟩ := Int.eq_ofNat_of_zero_le hn.1
    have := or_bits ⟨u', by omega⟩ ⟨n', by omega⟩
    rw [hn']
    exact ⟨⟨this.1, this.2.1⟩, this.2.2 ⟨i, hi⟩⟩

theorem foldK_row {nl i j : Nat} (hi : i < 4) : ∀ (row : List TAction) (k : Nat) (u : Int), (0 ≤ u ∧ u < 16) → (∀ a ∈ row, okActB nl j a = true) →
    foldK (fun _ u a => cond (bitI u (i : Int) == 1) (orU u a) u) k u row = rowU u i row ∧ (0 ≤ rowU u i row ∧ rowU u i row < 16)
  | [], _, u, hu, _ => by
    refine ⟨?_, ?_⟩
    · simp only [foldK, rowU, List.foldl_nil]; cases (bitI u (i : Int) == 1) <;> rfl
    · simp only [rowU, List.foldl_nil]; cases (bitI u (i : Int) == 1) <;> exact hu
  | a :: row, k, u, hu, h => by
    have ha := or_ok (i := i) hu hi (h a (by simp))
    simp only [foldK]
    cases hb : (bitI u (i : Int) == 1) with
    | true =>
      have ih := foldK_row hi row (k + 1) (orU u a) ha.1 fun b hb => h b (by simp [hb])
      have hb2 : (bitI (orU u a) (i : Int) == 1) = true := by
        have := ha.2 (by simpa using hb)
        rw [this]; rfl
      simp only [cond_true]
      rw [ih.1]
      have e : rowU (orU u a) i row = rowU u i (a :: row) := by
        simp only [rowU, hb, hb2, cond_true, List.foldl_cons]
      rw [← e]
      exact ⟨rfl, ih.2⟩
    | false =>
      have ih := foldK_row hi row (k + 1) u hu fun b hb => h b (by simp [hb])
      simp only [cond_false]
      rw [ih.1]
      have e : rowU u i row = rowU u i (a :: row) := by simp only [rowU, hb, cond_false]
      rw [← e]
      exact ⟨rfl, ih.2⟩

theorem impl_used_in {nl i j : Nat} (hi : i < 4) (row : List TAction) (hrow : ∀ a ∈ row, okActB nl j a = true) (hn : row.length < 9223372036854775807) (u : Int) (hu : 0 ≤ u ∧ u < 16) (c d : Int) (L : List (List TAction)) (n t : Int) (m : TKeymap) :
    impl_LayersUsed_10_loop (((), u, (i : Int), c, d, L, n, t, row, (row.length : Int), (0 : Int), ()), (m, ())) = some (.inl (((), rowU u i row, c, d, L, n, t, ()), (m, ()))) := by
  unfold impl_LayersUsed_10_loop
  have hl := (loopF_fold (step := fun x : ((Unit × (Int × (Int × (Int × (Int × ((List (List TAction)) × (Int × (Int × ((List TAction) × (Int × (Int × Unit))))))))))) × (TKeymap × Unit)) =>
      impl_LayersUsed_10_R x.1.1 x.1.2.1 x.1.2.2.1 x.1.2.2.2.1 x.1.2.2.2.2.1 x.1.2.2.2.2.2.1 x.1.2.2.2.2.2.2.1 x.1.2.2.2.2.2.2.2.1 x.1.2.2.2.2.2.2.2.2.1 x.1.2.2.2.2.2.2.2.2.2.1 x.1.2.2.2.2.2.2.2.2.2.2.1 x.2.1)
    row (fun _ u a => cond (bitI u (i : Int) == 1) (orU u a) u) (fun u k => (((), u, (i : Int), c, d, L, n, t, row, (row.length : Int), k, ()), (m, ()))) (fun u => .inl (((), u, c, d, L, n, t, ()), (m, ())))
    (fun _ u => 0 ≤ u ∧ u < 16) (by
      intro k hk u hu
      have hok := hrow row[k] (List.getElem_mem hk)
      refine ⟨?_, ?_⟩
      · simp only [impl_LayersUsed_10_R]
        rw [dec_true (show (k : Int) < (row.length : Int) by omega), idx_lt hk, impl_bit_ok u (show (0 : Int) ≤ (i : Int) by omega)]
        simp only [cond_true, Option.bind_some]
        generalize row[k] = a at hok
        unfold orU turnsB
        cases h3 : (a.1 == 3) with
        | true =>
          rw [dec_true (act_n hok (.inl (by simpa using h3))).1]
          cases (bitI u (i : Int) == 1) <;> rfl
        | false =>
          cases h4 : (a.1 == 4) with
          | true =>
            rw [dec_true (act_n hok (.inr (.inl (by simpa using h4)))).1]
            cases (bitI u (i : Int) == 1) <;> rfl
          | false =>
            cases h5 : (a.1 == 5) with
            | true =>
              rw [dec_true (act_n hok (.inr (.inr (.inl (by simpa using h5))))).1]
              cases (bitI u (i : Int) == 1) <;> rfl
            | false =>
              cases h7 : (a.1 == 7) with
              | true =>
                rw [dec_true (act_n hok (.inr (.inr (.inr (by simpa using h7))))).1]
                cases (bitI u (i : Int) == 1) <;> rfl
              | false => cases (bitI u (i : Int) == 1) <;> rfl
      · show 0 ≤ cond (bitI u (i : Int) == 1) (orU u row[k]) u ∧ cond (bitI u (i : Int) == 1) (orU u row[k]) u < 16
        cases (bitI u (i : Int) == 1) with
        | true => exact (or_ok (i := i) hu hi hok).1
        | false => exact hu) (by
      intro u _
      simp only [impl_LayersUsed_10_R]
      rw [dec_false (by omega)]; rfl) hn u hu).1
  rw [(foldK_row hi row 0 u hu hrow).1] at hl
  exact hl

def midU (u : Int) (L : List (List TAction)) : Int := foldK (fun i u row => rowU u i row) 0 u L

theorem impl_used_mid {m : TKeymap} (hm : KeymapOk m) (u : Int) (hu : 0 ≤ u ∧ u < 16) (c d : Int) :
    impl_LayersUsed_7_loop (((), u, c, d, m.2.1, (m.2.1.length : Int), (0 : Int), ()), (m, ())) = some (.inl (((), midU u m.2.1, c, d, ()), (m, ()))) ∧ (0 ≤ midU u m.2.1 ∧ midU u m.2.1 < 16) := by
  unfold impl_LayersUsed_7_loop
  have hl2 := hm.l2
  have hk2 := hm.k2
  exact loopF_fold (step := fun x : ((Unit × (Int × (Int × (Int × ((List (List TAction)) × (Int × (Int × Unit))))))) × (TKeymap × Unit)) =>
      impl_LayersUsed_7_R x.1.1 x.1.2.1 x.1.2.2.1 x.1.2.2.2.1 x.1.2.2.2.2.1 x.1.2.2.2.2.2.1 x.1.2.2.2.2.2.2.1 x.2.1)
    m.2.1 (fun i u row => rowU u i row) (fun u k => (((), u, c, d, m.2.1, (m.2.1.length : Int), k, ()), (m, ()))) (fun u => .inl (((), u, c, d, ()), (m, ())))
    (fun _ u => 0 ≤ u ∧ u < 16) (by
      intro k hk u hu
      have hrow := hm.row k hk
      have hall : ∀ a ∈ m.2.1[k], okActB m.2.1.length k a = true := by
        intro a ha
        obtain ⟨j, hj, rfl⟩ := List.mem_iff_getElem.1 ha
        exact hm.act k hk j hj
      refine ⟨?_, (foldK_row (i := k) (by omega) _ 0 u hu hall).2⟩
      simp only [impl_LayersUsed_7_R]
      rw [dec_true (show (k : Int) < (m.2.1.length : Int) by omega), idx_lt hk]
      simp only [cond_true, Option.bind_some]
      rw [impl_used_in (by omega) _ hall (by omega) u hu]
      rfl) (by
      intro u _
      simp only [impl_LayersUsed_7_R]
      rw [dec_false (by omega)]; rfl) (by omega) u hu

def usedI (m : TKeymap) : Int := foldK (fun _ u (_ : List TAction) => midU u m.2.1) 0 1 m.2.1

theorem impl_LayersUsed_ok (m : TKeymap) (hz : szT tKeymap m ≤ big20) : impl_LayersUsed m = some (cond (isKeymapB m) (usedI m) 0, ()) := by
  unfold impl_LayersUsed
  rw [impl_IsKeymap_ok m hz]
  cases hv : isKeymapB m with
  | false => rfl
  | true =>
    have hm := keymap_ok hv
    have hl2 := hm.l2
    have hl := (loopF_fold (step := fun x : ((Unit × (Int × (Int × (Int × Unit)))) × (TKeymap × Unit)) => impl_LayersUsed_5_R x.1.1 x.1.2.1 x.1.2.2.1 x.1.2.2.2.1 x.2.1)
      m.2.1 (fun _ u (_ : List TAction) => midU u m.2.1) (fun u k => (((), u, (m.2.1.length : Int), k, ()), (m, ()))) (fun u => .inl ((u, ()), ())) (fun _ u => 0 ≤ u ∧ u < 16) (by
        intro k hk u hu
        have hmid := impl_used_mid hm u hu (m.2.1.length : Int) (k : Int)
        refine ⟨?_, hmid.2⟩
        simp only [impl_LayersUsed_5_R]
        rw [dec_true (show (k : Int) < (m.2.1.length : Int) by omega), hmid.1]
        rfl) (by
        intro u _
        simp only [impl_LayersUsed_5_R]
        rw [dec_false (by omega)]; rfl) (by omega) 1 (by omega)).1
    simp only [Option.bind_some, Bool.not_true, cond_false, cond_true]
    unfold impl_LayersUsed_5_loop
    erw [hl]
    rfl

theorem hold_turns {nl j : Nat} {a : TAction} (ha : okActB nl j a = true) : (((holdOfA a).1 == 3) || ((holdOfA a).1 == 4) || ((holdOfA a).1 == 5)) = turnsB a ∧ (turnsB a = true → (holdOfA a).2.2.2.1 = a.2.2.2.1) := by
  have h1 := okAct_action ha
  unfold holdOfA isTapHoldB turnsB
  rw [h1]
  cases h6 : (a.1 == 6) with
  | true =>
    have : a.1 = 6 := by simpa using h6
    rw [this]
    exact ⟨rfl, fun h => by simp at h⟩
  | false =>
    cases h7 : (a.1 == 7) with
    | true =>
      have : a.1 = 7 := by simpa using h7
      rw [this]
      exact ⟨rfl, fun _ => rfl⟩
    | false => exact ⟨by simp, fun _ => rfl⟩

theorem foldE_row {nl i j : Nat} (hi : i < 4) : ∀ (row : List TAction) (k : Nat) (u : Int), (0 ≤ u ∧ u < 16) → (∀ a ∈ row, okActB nl j a = true) →
    (match foldE (fun _ u a => cond (bitI u (i : Int) == 1) (.inl (orU u a)) (.inr u)) k u row with | .inl s => s | .inr s => s) = rowU u i row
  | [], _, u, _, _ => by simp only [foldE, rowU, List.foldl_nil]; cases (bitI u (i : Int) == 1) <;> rfl
  | a :: row, k, u, hu, h => by
    have ha := or_ok (i := i) hu hi (h a (by simp))
    simp only [foldE]
    cases hb : (bitI u (i : Int) == 1) with
    | true =>
      have ih := foldE_row hi row (k + 1) (orU u a) ha.1 fun b hb => h b (by simp [hb])
      have hb2 : (bitI (orU u a) (i : Int) == 1) = true := by
        have := ha.2 (by simpa using hb)
        rw [this]; rfl
      simp only [cond_true]
      rw [ih]
      simp only [rowU, hb, hb2, cond_true, List.foldl_cons]
    | false => simp only [rowU, hb, cond_false]

theorem spec_used_in {m : TKeymap} (hm : KeymapOk m) (i : Nat) (hi : i < m.2.1.length) (u : Int) (hu : 0 ≤ u ∧ u < 16) (c : Int) :
    spec_LayersUsed_11_loop (((), u, c, (i : Int), (0 : Int), ()), (m, ())) = some (.inl (((), rowU u i m.2.1[i], c, (i : Int), ()), (m, ()))) := by
  have hl2 := hm.l2
  have hk2 := hm.k2
  have hrow := hm.row i hi
  have hall : ∀ a ∈ m.2.1[i], okActB m.2.1.length i a = true := by
    intro a ha
    obtain ⟨j, hj, rfl⟩ := List.mem_iff_getElem.1 ha
    exact hm.act i hi j hj
  unfold spec_LayersUsed_11_loop
  have hl := loopF_foldX (step := fun x : ((Unit × (Int × (Int × (Int × (Int × Unit))))) × (TKeymap × Unit)) => spec_LayersUsed_11_R x.1.1 x.1.2.1 x.1.2.2.1 x.1.2.2.2.1 x.1.2.2.2.2.1 x.2.1)
    m.2.1[i] (fun _ u a => cond (bitI u (i : Int) == 1) (.inl (orU u a)) (.inr u)) (fun u k => (((), u, c, (i : Int), k, ()), (m, ()))) (fun u => .inl (((), u, c, (i : Int), ()), (m, ()))) (fun u => .inl (((), u, c, (i : Int), ()), (m, ())))
    (fun _ u => 0 ≤ u ∧ u < 16) (by
      intro k hk u hu
      have hok := hall m.2.1[i][k] (List.getElem_mem hk)
      refine ⟨?_, ?_⟩
      · simp only [spec_LayersUsed_11_R]
        rw [dec_true (show (k : Int) < m.1 by omega), dec_true (show (0 : Int) ≤ (i : Int) by omega), idx2 hi hk, actAt_eq hi hk]
        simp only [cond_true, spec_HoldOf_ok, Option.bind_some]
        show cond (bitI u (i : Int) == 1) _ _ = _
        generalize m.2.1[i][k] = a at hok
        obtain ⟨h1, h2⟩ := hold_turns hok
        cases hb : (bitI u (i : Int) == 1) with
        | false => rfl
        | true =>
          simp only [cond_true, orU]
          cases ht : turnsB a with
          | false =>
            rw [ht] at h1
            simp only [Bool.or_eq_false_iff] at h1
            rw [h1.1.1, h1.1.2, h1.2]; rfl
          | true =>
            have hn := act_n hok (by simp only [turnsB, Bool.or_eq_true, beq_iff_eq] at ht; omega)
            rw [h2 ht, dec_true hn.1]
            rw [ht] at h1
            cases h3 : ((holdOfA a).1 == 3) with
            | true => rfl
            | false =>
              cases h4 : ((holdOfA a).1 == 4) with
              | true => rfl
              | false =>
                rw [h3, h4] at h1
                simp only [Bool.false_or] at h1
                rw [h1]; rfl
      · intro s' hs
        cases hb : (bitI u (i : Int) == 1) with
        | false => rw [hb] at hs; simp at hs
        | true =>
          rw [hb] at hs
          simp only [cond_true, Sum.inl.injEq] at hs
          subst hs
          exact (or_ok (i := i) hu (by omega) hok).1) (by
      intro u _
      simp only [spec_LayersUsed_11_R]
      rw [dec_false (by omega)]; rfl) (by omega) u hu
  have hf := foldE_row (i := i) (by omega) m.2.1[i] 0 u hu hall
  refine Eq.trans hl ?_
  cases hfe : foldE (fun _ u a => cond (bitI u (i : Int) == 1) (.inl (orU u a)) (.inr u)) 0 u m.2.1[i] with
  | inl s => rw [hfe] at hf; simp only at hf; rw [hf]
  | inr s => rw [hfe] at hf; simp only at hf; rw [hf]

theorem spec_used_mid {m : TKeymap} (hm : KeymapOk m) (u : Int) (hu : 0 ≤ u ∧ u < 16) (c : Int) :
    spec_LayersUsed_8_loop (((), u, c, (0 : Int), ()), (m, ())) = some (.inl (((), midU u m.2.1, c, ()), (m, ()))) ∧ (0 ≤ midU u m.2.1 ∧ midU u m.2.1 < 16) := by
  unfold spec_LayersUsed_8_loop
  have hl2 := hm.l2
  exact loopF_fold (step := fun x : ((Unit × (Int × (Int × (Int × Unit)))) × (TKeymap × Unit)) => spec_LayersUsed_8_R x.1.1 x.1.2.1 x.1.2.2.1 x.1.2.2.2.1 x.2.1)
    m.2.1 (fun i u row => rowU u i row) (fun u k => (((), u, c, k, ()), (m, ()))) (fun u => .inl (((), u, c, ()), (m, ())))
    (fun _ u => 0 ≤ u ∧ u < 16) (by
      intro k hk u hu
      have hall : ∀ a ∈ m.2.1[k], okActB m.2.1.length k a = true := by
        intro a ha
        obtain ⟨j, hj, rfl⟩ := List.mem_iff_getElem.1 ha
        exact hm.act k hk j hj
      refine ⟨?_, (foldK_row (i := k) (by omega) _ 0 u hu hall).2⟩
      simp only [spec_LayersUsed_8_R]
      rw [dec_true (show (k : Int) < (m.2.1.length : Int) by omega), spec_used_in hm k hk u hu]
      rfl) (by
      intro u _
      simp only [spec_LayersUsed_8_R]
      rw [dec_false (by omega)]; rfl) (by omega) u hu

theorem spec_LayersUsed_ok (m : TKeymap) (hz : szT tKeymap m ≤ big20) : spec_LayersUsed m = some (cond (isKeymapB m) (usedI m) 0, ()) := by
  unfold spec_LayersUsed
  rw [spec_IsKeymap_ok m hz]
  cases hv : isKeymapB m with
  | false => rfl
  | true =>
    have hm := keymap_ok hv
    have hl2 := hm.l2
    have hl := (loopF_fold (step := fun x : ((Unit × (Int × (Int × Unit))) × (TKeymap × Unit)) => spec_LayersUsed_5_R x.1.1 x.1.2.1 x.1.2.2.1 x.2.1)
      m.2.1 (fun _ u (_ : List TAction) => midU u m.2.1) (fun u k => (((), u, k, ()), (m, ()))) (fun u => .inl ((u, ()), ())) (fun _ u => 0 ≤ u ∧ u < 16) (by
        intro k hk u hu
        have hmid := spec_used_mid hm u hu (k : Int)
        refine ⟨?_, hmid.2⟩
        simp only [spec_LayersUsed_5_R]
        rw [dec_true (show (k : Int) < (m.2.1.length : Int) by omega), hmid.1]
        rfl) (by
        intro u _
        simp only [spec_LayersUsed_5_R]
        rw [dec_false (by omega)]; rfl) (by omega) 1 (by omega)).1
    simp only [Option.bind_some, Bool.not_true, cond_false, cond_true]
    unfold spec_LayersUsed_5_loop
    erw [hl]
    rfl

theorem LayersUsed_same (m : TKeymap) (_ : Rng tKeymap m) (hz : szT tKeymap m ≤ big20) : ∃ w, spec_LayersUsed m = some (w, ()) ∧ impl_LayersUsed m = some (w, ()) :=
  ⟨_, spec_LayersUsed_ok m hz, impl_LayersUsed_ok m hz⟩
end KF

namespace KF
open Go

/-! ### The key of a code -/
noncomputable def keyB (c d : Int) (a : TAction) : Bool :=
  (((cond (c != 0) (tapOfA a) a).1 == 2) && ((cond (c != 0) (tapOfA a) a).2.1 == c)) && ((cond (c != 0) (tapOfA a) a).2.2.1 == d)
def firstK {α : Type} (p : α → Bool) : Nat → List α → Int
  | _, [] => -1
  | k, x :: xs => cond (p x) (k : Int) (firstK p (k + 1) xs)
noncomputable def keyForI (m : TKeymap) (c d : Int) : Int := firstK (keyB c d) 0 (m.2.1.getD 0 [])

theorem idx0 {α : Type} {xs : List α} (h : 0 < xs.length) (d : α) : idx xs (0 : Int) = some (xs.getD 0 d) := by
  cases xs with
  | nil => simp at h
  | cons x xs => rfl

theorem foldE_first {α : Type} (p : α → Bool) : ∀ (xs : List α) (k : Nat), (match foldE (fun k (_ : Unit) x => cond (p x) (.inr (k : Int)) (.inl ())) k () xs with | .inl _ => (-1 : Int) | .inr r => r) = firstK p k xs
  | [], _ => rfl
  | x :: xs, k => by
    simp only [foldE, firstK]
    cases p x with
    | true => rfl
    | false => exact foldE_first p xs (k + 1)

theorem impl_keyFor_loop (c d : Int) (row : List TAction) (hn : row.length < 9223372036854775807) :
    ∃ z, impl_keyFor_2_loop ((c, d, row, (row.length : Int), (0 : Int), ()), ()) = some z ∧ (match z with | .inl _ => (-1 : Int) | .inr r => r.1.1) = firstK (keyB c d) 0 row := by
  unfold impl_keyFor_2_loop
  refine ⟨_, loopF_foldX (step := fun x : ((Int × (Int × ((List TAction) × (Int × (Int × Unit))))) × Unit) => impl_keyFor_2_R x.1.1 x.1.2.1 x.1.2.2.1 x.1.2.2.2.1 x.1.2.2.2.2.1)
    row (fun k (_ : Unit) x => cond (keyB c d x) (.inr (k : Int)) (.inl ())) (fun _ k => ((c, d, row, (row.length : Int), k, ()), ())) (fun _ => .inl ((), ())) (fun r => .inr ((r, ()), ())) (fun _ _ => True) ?_ ?_ hn () trivial, ?_⟩
  · intro k hk s _
    refine ⟨?_, fun _ _ => trivial⟩
    simp only [impl_keyFor_2_R]
    rw [dec_true (show (k : Int) < (row.length : Int) by omega), idx_lt hk]
    simp only [cond_true, Option.bind_some, impl_TapOf_ok, keyB]
    cases (c != 0) with
    | true =>
      simp only [cond_true]
      cases ((tapOfA row[k]).1 == 2) <;> cases ((tapOfA row[k]).2.1 == c) <;> cases ((tapOfA row[k]).2.2.1 == d) <;> rfl
    | false =>
      simp only [cond_false]
      cases (row[k].1 == 2) <;> cases (row[k].2.1 == c) <;> cases (row[k].2.2.1 == d) <;> rfl
  · intro s _
    simp only [impl_keyFor_2_R]
    rw [dec_false (by omega)]; rfl
  · rw [← foldE_first]
    cases foldE (fun k (_ : Unit) x => cond (keyB c d x) (.inr (k : Int)) (.inl ())) 0 () row <;> rfl

theorem impl_keyFor_ok {m : TKeymap} (hm : KeymapOk m) (c d : Int) : impl_keyFor m c d = some (keyForI m c d, ()) := by
  unfold impl_keyFor keyForI
  have h1 := hm.l1
  have hk2 := hm.k2
  have hrow := hm.row 0 (by omega)
  have h0 : idx m.2.1 (0 : Int) = some (m.2.1.getD 0 []) := idx0 (by omega) []
  have hlen : (m.2.1.getD 0 []).length < 9223372036854775807 := by
    have : m.2.1.getD 0 [] = m.2.1[0] := by simp [List.getD_eq_getElem?_getD, show 0 < m.2.1.length by omega]
    rw [this]; omega
  rw [h0]
  simp only [Option.bind_some]
  obtain ⟨z, e, hz⟩ := impl_keyFor_loop c d _ hlen
  rw [e, ← hz]
  cases z <;> rfl

theorem impl_KeyFor_ok (m : TKeymap) (c d : Int) (hz : szT tKeymap m ≤ big20) : impl_KeyFor m c d = some (cond (isKeymapB m && decide (0 ≤ c ∧ c ≤ 56)) (keyForI m c d) (-1), ()) := by
  unfold impl_KeyFor
  rw [impl_IsKeymap_ok m hz]
  cases hv : isKeymapB m with
  | false => rfl
  | true =>
    simp only [Option.bind_some, Bool.not_true, cond_false, Bool.true_and, impl_keyFor_ok (keymap_ok hv)]
    by_cases h1 : c < 0
    · rw [dec_true h1, dec_false (show ¬ (0 ≤ c ∧ c ≤ 56) by omega)]; rfl
    · rw [dec_false h1]
      by_cases h2 : c > 56
      · rw [dec_true h2, dec_false (show ¬ (0 ≤ c ∧ c ≤ 56) by omega)]; rfl
      · rw [dec_false h2, dec_true (show (0 ≤ c ∧ c ≤ 56) by omega)]; rfl

theorem spec_KeyFor_ok (m : TKeymap) (c d : Int) (hz : szT tKeymap m ≤ big20) : spec_KeyFor m c d = some (cond (isKeymapB m && decide (0 ≤ c ∧ c ≤ 56)) (keyForI m c d) (-1), ()) := by
  unfold spec_KeyFor
  -- where the loop ends at once
  have stop : (isKeymapB m && decide (0 ≤ c ∧ c ≤ 56)) = false → spec_KeyFor_2_loop ((c, d, (), (0 : Int), ()), (m, ())) = some (.inl ((), ())) := by
    intro h
    unfold spec_KeyFor_2_loop
    rw [loopF_step]
    simp only [spec_KeyFor_2_R, spec_IsKeymap_ok m hz, spec_l1In_ok, Option.bind_some]
    by_cases h0 : 0 < m.1
    · rw [dec_true h0]
      cases hv : isKeymapB m with
      | false => rfl
      | true => rw [hv, Bool.true_and] at h; rw [h]; rfl
    · rw [dec_false h0]; rfl
  cases hc : (isKeymapB m && decide (0 ≤ c ∧ c ≤ 56)) with
  | false => rw [stop hc]; rfl
  | true =>
    simp only [Bool.and_eq_true] at hc
    obtain ⟨hv, hcc⟩ := hc
    have hm := keymap_ok hv
    have h1 := hm.l1
    have hk2 := hm.k2
    have hrow := hm.row 0 (by omega)
    have hget : m.2.1.getD 0 [] = m.2.1[0] := by simp [List.getD_eq_getElem?_getD, show 0 < m.2.1.length by omega]
    have hlen : (m.2.1.getD 0 []).length < 9223372036854775807 := by rw [hget]; omega
    have h0 : idx m.2.1 (0 : Int) = some (m.2.1.getD 0 []) := idx0 (by omega) []
    have hcp : (decide (c > 0)) = (c != 0) := by
      have : 0 ≤ c ∧ c ≤ 56 := by simpa using hcc
      rw [Bool.eq_iff_iff]; simp; omega
    have hl := loopF_foldX (step := fun x : ((Int × (Int × (Unit × (Int × Unit)))) × (TKeymap × Unit)) => spec_KeyFor_2_R x.1.1 x.1.2.1 x.1.2.2.1 x.1.2.2.2.1 x.2.1)
      (m.2.1.getD 0 []) (fun k (_ : Unit) x => cond (keyB c d x) (.inr (k : Int)) (.inl ())) (fun _ k => ((c, d, (), k, ()), (m, ()))) (fun _ => .inl ((), ())) (fun r => .inr ((r, ()), ())) (fun _ _ => True) (by
        intro k hk s _
        refine ⟨?_, fun _ _ => trivial⟩
        have hk' : (k : Int) < m.1 := by rw [hget] at hk; omega
        simp only [spec_KeyFor_2_R]
        rw [dec_true hk', spec_IsKeymap_ok m hz, hv, h0]
        simp only [cond_true, Option.bind_some, spec_l1In_ok, hcc, hcp]
        rw [idx_lt hk]
        simp only [Option.bind_some, spec_TapOf_ok, keyB]
        generalize (m.2.1.getD 0 [])[k] = a
        cases (c != 0) with
        | true =>
          simp only [cond_true]
          cases ((tapOfA a).1 == 2) <;> cases ((tapOfA a).2.1 == c) <;> cases ((tapOfA a).2.2.1 == d) <;> rfl
        | false =>
          simp only [cond_false]
          cases (a.1 == 2) <;> cases (a.2.1 == c) <;> cases (a.2.2.1 == d) <;> rfl) (by
        intro s _
        simp only [spec_KeyFor_2_R]
        rw [dec_false (by rw [hget]; omega)]; rfl) hlen () trivial
    unfold spec_KeyFor_2_loop
    erw [hl]
    simp only [cond_true, keyForI]
    rw [← foldE_first]
    cases foldE (fun k (_ : Unit) x => cond (keyB c d x) (.inr (k : Int)) (.inl ())) 0 () (m.2.1.getD 0 []) <;> rfl

theorem KeyFor_same (m : TKeymap) (c d : Int) (_ : Rng tKeymap m) (_ : Rng int c) (_ : Rng int d) (hz : szT tKeymap m ≤ big20) : ∃ w, spec_KeyFor m c d = some (w, ()) ∧ impl_KeyFor m c d = some (w, ()) :=
  ⟨_, spec_KeyFor_ok m c d hz, impl_KeyFor_ok m c d hz⟩
end KF

namespace KF
open Go

/-! ### Two loops in step, and loops that come to an end -/
theorem loopF_rel {X1 R1 X2 R2 : Type} {s1 : X1 → Option (X1 ⊕ R1)} {s2 : X2 → Option (X2 ⊕ R2)} (I : Nat → X1 → X2 → Prop) (Q : R1 → R2 → Prop)
    (h : ∀ n x1 x2, I n x1 x2 → (∃ r1 r2, s1 x1 = some (.inr r1) ∧ s2 x2 = some (.inr r2) ∧ Q r1 r2) ∨ (∃ y1 y2 m, m < n ∧ s1 x1 = some (.inl y1) ∧ s2 x2 = some (.inl y2) ∧ I m y1 y2)) :
    ∀ n x1 x2, I n x1 x2 → ∃ r1 r2, loopF s1 x1 = some r1 ∧ loopF s2 x2 = some r2 ∧ Q r1 r2 := by
  intro n
  induction n using Nat.strongRecOn with
  | _ n ih =>
    intro x1 x2 hi
    rcases h n x1 x2 hi with ⟨r1, r2, h1, h2, hq⟩ | ⟨y1, y2, m, hm, h1, h2, hi'⟩
    · exact ⟨r1, r2, by rw [loopF_of h1]; rfl, by rw [loopF_of h2]; rfl, hq⟩
    · obtain ⟨r1, r2, g1, g2, hq⟩ := ih m hm y1 y2 hi'
      exact ⟨r1, r2, by rw [loopF_of h1]; exact g1, by rw [loopF_of h2]; exact g2, hq⟩

theorem loopF_tot {X R : Type} {s : X → Option (X ⊕ R)} (I : Nat → X → Prop) (Q : R → Prop)
    (h : ∀ n x, I n x → (∃ r, s x = some (.inr r) ∧ Q r) ∨ (∃ y m, m < n ∧ s x = some (.inl y) ∧ I m y)) : ∀ n x, I n x → ∃ r, loopF s x = some r ∧ Q r := by
  intro n
  induction n using Nat.strongRecOn with
  | _ n ih =>
    intro x hi
    rcases h n x hi with ⟨r, h1, hq⟩ | ⟨y, m, hm, h1, hi'⟩
    · exact ⟨r, by rw [loopF_of h1]; rfl, hq⟩
    · obtain ⟨r, g1, hq⟩ := ih m hm y hi'
      exact ⟨r, by rw [loopF_of h1]; exact g1, hq⟩

/-- did a fold come to its end? -/
def isL {α β : Type} : α ⊕ β → Bool
  | .inl _ => true
  | .inr _ => false

theorem wrapi {i : Int} {k : Nat} (hi : i = (k : Int)) (h : k < 9223372036854775807) : IntKind.wrap .i64 (i + 1) = ((k + 1 : Nat) : Int) := by rw [hi, wrap_succ h]
end KF

namespace KF
open Go
set_option linter.unusedSimpArgs false
set_option linter.unusedVariables false

/-! ### Held keys -/
noncomputable def okHeldB (s : Int) (x : THeld) : Bool := decide (0 ≤ x.1 ∧ x.1 ≤ 31) && (!(bitI s x.1 == 1) && (isActionB x.2.1 && (!(x.2.1.1 == 1) && (!(x.2.1.1 == 6) && !(x.2.1.1 == 7)))))
noncomputable def heldG (s : Int) (x : THeld) : Int ⊕ Unit := cond (okHeldB s x) (.inl (ior .i64 s (ishl .i64 1 x.1))) (.inr ())
noncomputable def heldR (l : List THeld) : Int ⊕ Unit := foldE (fun _ s x => heldG s x) 0 0 l
noncomputable def isHeldB (l : List THeld) : Bool := isL (heldR l)

theorem impl_IsHeld_ok (l : List THeld) (hn : l.length ≤ big20) : impl_IsHeld l = some (isHeldB l, ()) := by
  have h20 : big20 = 1048576 := rfl
  have hl := loopF_foldX (step := fun x => impl_IsHeld_3_R x.1.1 x.1.2.1 x.1.2.2.1 x.1.2.2.2.1) l (fun _ s x => heldG s x) (fun s i => ((s, l, ((List.length l : Nat) : Int), i, ()), ()))
    (fun _ => .inl ((), ())) (fun _ => .inr ((false, ()), ())) (fun _ _ => True) (by
      intro k hk s _
      refine ⟨?_, fun _ _ => trivial⟩
      simp only [impl_IsHeld_3_R]
      rw [dec_true (show (k : Int) < (List.length l : Int) by omega), idx_lt hk]
      simp only [cond_true, Option.bind_some]
      generalize l[k] = x
      simp only [heldG, okHeldB, impl_IsAction_ok, Option.bind_some]
      by_cases h1 : 0 ≤ x.1
      · rw [dec_false (show ¬ x.1 < 0 by omega), impl_bit_ok s h1]
        by_cases h2 : x.1 ≤ 31
        · rw [dec_false (show ¬ x.1 > 31 by omega), dec_true (show 0 ≤ x.1 ∧ x.1 ≤ 31 from ⟨h1, h2⟩), dec_true h1]
          simp only [Option.bind_some, cond_false]
          cases bitI s x.1 == 1 <;> cases isActionB x.2.1 <;> cases x.2.1.1 == 1 <;> cases x.2.1.1 == 6 <;> cases x.2.1.1 == 7 <;> rfl
        · rw [dec_true (show x.1 > 31 by omega), dec_false (show ¬ (0 ≤ x.1 ∧ x.1 ≤ 31) by omega)]; rfl
      · rw [dec_true (show x.1 < 0 by omega), dec_false (show ¬ (0 ≤ x.1 ∧ x.1 ≤ 31) by omega)]; rfl)
    (by
      intro s _
      simp only [impl_IsHeld_3_R]
      rw [dec_false (by omega)]; rfl) (by omega) 0 trivial
  unfold impl_IsHeld impl_IsHeld_3_loop
  erw [hl]
  show Option.bind (some _) _ = _
  simp only [Option.bind_some, isHeldB, heldR]
  cases foldE (fun x s x => heldG s x) 0 0 l <;> rfl

theorem spec_IsHeld_ok (l : List THeld) (hn : l.length ≤ big20) : spec_IsHeld l = some (isHeldB l, ()) := by
  have h20 : big20 = 1048576 := rfl
  have hl := loopF_foldX (step := fun x => spec_IsHeld_3_R x.1.1 x.1.2.1 x.1.2.2.1) l (fun _ s x => heldG s x) (fun s i => ((l, s, i, ()), ()))
    (fun _ => .inl ((), ())) (fun _ => .inr ((false, ()), ())) (fun _ _ => True) (by
      intro k hk s _
      refine ⟨?_, fun _ _ => trivial⟩
      simp only [spec_IsHeld_3_R]
      rw [dec_true (show (k : Int) < (List.length l : Int) by omega), idx_lt hk]
      simp only [cond_true, Option.bind_some]
      generalize l[k] = x
      simp only [heldG, okHeldB, spec_IsAction_ok, spec_IsTapHold_ok, spec_l1In_ok, Option.bind_some, isTapHoldB]
      by_cases h1 : 0 ≤ x.1 ∧ x.1 ≤ 31
      · rw [dec_true h1, dec_true h1.1]
        simp only [bitI]
        cases iand .i64 (ishr .i64 s x.1) 1 == 1 <;> cases isActionB x.2.1 <;> cases x.2.1.1 == 1 <;> cases x.2.1.1 == 6 <;> cases x.2.1.1 == 7 <;> rfl
      · rw [dec_false h1]; rfl)
    (by
      intro s _
      simp only [spec_IsHeld_3_R]
      rw [dec_false (by omega)]; rfl) (by omega) 0 trivial
  unfold spec_IsHeld spec_IsHeld_3_loop
  erw [hl]
  show Option.bind (some _) _ = _
  simp only [Option.bind_some, isHeldB, heldR]
  cases foldE (fun x s x => heldG s x) 0 0 l <;> rfl

/-- what is known of held keys -/
structure HeldOk (x : THeld) : Prop where
  lo : 0 ≤ x.1
  hi : x.1 ≤ 31
  act : isActionB x.2.1 = true
  n1 : x.2.1.1 ≠ 1
  n6 : x.2.1.1 ≠ 6
  n7 : x.2.1.1 ≠ 7
theorem okHeld {s : Int} {x : THeld} (h : okHeldB s x = true) : HeldOk x ∧ bitI s x.1 ≠ 1 := by
  simp only [okHeldB, Bool.and_eq_true, decide_eq_true_eq, Bool.not_eq_true', beq_eq_false_iff_ne] at h
  exact ⟨⟨h.1.1, h.1.2, h.2.2.1, h.2.2.2.1, h.2.2.2.2.1, h.2.2.2.2.2⟩, h.2.1⟩
theorem held_all : ∀ {l : List THeld} {k : Nat} {s : Int}, isL (foldE (fun _ s x => heldG s x) k s l) = true → ∀ x ∈ l, HeldOk x
  | [], _, _, _, x, hx => by simp at hx
  | y :: l, k, s, h, x, hx => by
    simp only [foldE, heldG] at h
    cases hc : okHeldB s y with
    | false => rw [hc] at h; simp [isL] at h
    | true =>
      rw [hc] at h
      simp only [cond_true] at h
      rcases List.mem_cons.1 hx with rfl | hx
      · exact (okHeld hc).1
      · exact held_all h x hx
theorem isHeld_ok {l : List THeld} (h : isHeldB l = true) : ∀ x ∈ l, HeldOk x := held_all h

/-! ### The mask of held keys -/
def maskI (l : List THeld) : Int := foldK (fun _ s (x : THeld) => ior .i64 s (ishl .i64 1 x.1)) 0 0 l
theorem impl_heldMask_ok (l : List THeld) (hn : l.length ≤ big20) (hx : ∀ x ∈ l, HeldOk x) : impl_heldMask l = some (maskI l, ()) := by
  have h20 : big20 = 1048576 := rfl
  have hl := (loopF_fold (step := fun x => impl_heldMask_3_R x.1.1 x.1.2.1 x.1.2.2.1 x.1.2.2.2.1) l (fun _ s (x : THeld) => ior .i64 s (ishl .i64 1 x.1)) (fun s i => ((s, l, ((List.length l : Nat) : Int), i, ()), ()))
    (fun s => .inl ((s, ()), ())) (fun _ _ => True) (by
      intro k hk s _
      refine ⟨?_, trivial⟩
      simp only [impl_heldMask_3_R]
      rw [dec_true (show (k : Int) < (List.length l : Int) by omega), idx_lt hk]
      simp only [cond_true, Option.bind_some]
      rw [dec_true (hx _ (List.getElem_mem hk)).lo]; rfl)
    (by
      intro s _
      simp only [impl_heldMask_3_R]
      rw [dec_false (by omega)]; rfl) (by omega) 0 trivial).1
  unfold impl_heldMask impl_heldMask_3_loop
  erw [hl]
  rfl
end KF

namespace KF
open Go
set_option linter.unusedSimpArgs false
set_option linter.unusedVariables false

theorem firstK_map {α β : Type} (p : β → Bool) (f : α → β) : ∀ (xs : List α) (k : Nat), firstK p k (xs.map f) = firstK (fun x => p (f x)) k xs
  | [], _ => rfl
  | x :: xs, k => by simp only [List.map_cons, firstK, firstK_map p f xs]
theorem firstK_bd {α : Type} (p : α → Bool) : ∀ (xs : List α) (k : Nat), firstK p k xs = -1 ∨ ∃ j : Nat, j < xs.length ∧ firstK p k xs = ((k + j : Nat) : Int)
  | [], _ => .inl rfl
  | x :: xs, k => by
    simp only [firstK]
    cases p x with
    | true => exact .inr ⟨0, by simp, by simp⟩
    | false =>
      rcases firstK_bd p xs (k + 1) with h | ⟨j, h1, h2⟩
      · exact .inl h
      · exact .inr ⟨j + 1, by simp; omega, by simp only [cond_false]; rw [h2]; omega⟩
theorem foldE_firstE {α : Type} (p : α → Bool) : ∀ (xs : List α) (k : Nat), (foldE (fun k (_ : Unit) x => cond (p x) (.inr (k : Int)) (.inl ())) k () xs : Unit ⊕ Int) = if firstK p k xs = -1 then .inl () else .inr (firstK p k xs)
  | [], _ => rfl
  | x :: xs, k => by
    rcases Bool.eq_false_or_eq_true (p x) with hp | hp
    · simp only [foldE, firstK, hp, cond_true]; rw [if_neg (by omega)]
    · simp only [foldE, firstK, hp, cond_false]; exact foldE_firstE p xs (k + 1)

/-- a loop that looks for the first one -/
theorem loopF_first {X R α : Type} {step : X → Option (X ⊕ R)} (xs : List α) (p : α → Bool) (I : Int → X) (no : R) (yes : Int → R)
    (h : ∀ k (hk : k < xs.length), step (I (k : Int)) = some (cond (p xs[k]) (.inr (yes (k : Int))) (.inl (I (IntKind.wrap .i64 ((k : Int) + 1))))))
    (he : step (I (xs.length : Int)) = some (.inr no)) (hn : xs.length < 9223372036854775807) :
    loopF step (I 0) = some (if firstK p 0 xs = -1 then no else yes (firstK p 0 xs)) := by
  have := loopF_foldX (step := step) xs (fun k (_ : Unit) x => cond (p x) (.inr (k : Int)) (.inl ())) (fun _ i => I i) (fun _ => no) yes (fun _ _ => True) (fun k hk s _ => by
    refine ⟨?_, fun _ _ => trivial⟩
    rw [h k hk]
    cases p xs[k] <;> rfl) (fun _ _ => he) hn () trivial
  rw [this, foldE_firstE]
  by_cases hc : firstK p 0 xs = -1
  · rw [if_pos hc, if_pos hc]
  · rw [if_neg hc, if_neg hc]

def pairOf (h : THeld) : TCombo := (h.2.1.2.1, h.2.1.2.2.1, ())
def isPair (c m : Int) (h : THeld) : Bool := (h.2.1.2.1 == c) && (h.2.1.2.2.1 == m)
theorem impl_pairAt_ok (l : List TCombo) (c : TCombo) (hn : l.length ≤ big20) : impl_pairAt l c = some (firstK (fun x => eqT tCombo x c) 0 l, ()) := by
  have h20 : big20 = 1048576 := rfl
  have hl := loopF_first (step := fun x => impl_pairAt_2_R x.1.1 x.1.2.1 x.1.2.2.1 x.1.2.2.2.1 x.2.1) l (fun x => eqT tCombo x c) (fun i => (((), l, ((List.length l : Nat) : Int), i, ()), (c, ())))
    (.inl ((), ())) (fun i => .inr ((i, ()), ())) (by
      intro k hk
      simp only [impl_pairAt_2_R]
      rw [dec_true (show (k : Int) < (List.length l : Int) by omega), idx_lt hk]
      simp only [cond_true, Option.bind_some]
      cases eqT tCombo l[k] c <;> rfl) (by
      simp only [impl_pairAt_2_R]
      rw [dec_false (by omega)]; rfl) (by omega)
  unfold impl_pairAt impl_pairAt_2_loop
  erw [hl]
  simp only [Option.bind_some]
  by_cases hc : firstK (fun x => eqT tCombo x c) 0 l = -1
  · rw [if_pos hc, hc]; rfl
  · rw [if_neg hc]; rfl
theorem spec_l8Find_ok (l : List THeld) (x : TStep) (hn : l.length ≤ big20) : spec_l8Find l x = some (firstK (isPair x.2.1 x.2.2.1) 0 l, ()) := by
  have h20 : big20 = 1048576 := rfl
  have hl := loopF_first (step := fun y => spec_l8Find_2_R y.1.1 y.1.2.1 y.1.2.2.1 y.2.1) l (isPair x.2.1 x.2.2.1) (fun i => ((l, (), i, ()), (x, ())))
    (.inl ((), ())) (fun i => .inr ((i, ()), ())) (by
      intro k hk
      simp only [spec_l8Find_2_R]
      rw [dec_true (show (k : Int) < (List.length l : Int) by omega), idx_lt hk]
      simp only [cond_true, Option.bind_some, isPair]
      cases l[k].2.1.2.1 == x.2.1 <;> cases l[k].2.1.2.2.1 == x.2.2.1 <;> rfl) (by
      simp only [spec_l8Find_2_R]
      rw [dec_false (by omega)]; rfl) (by omega)
  unfold spec_l8Find spec_l8Find_2_loop
  erw [hl]
  simp only [Option.bind_some]
  by_cases hc : firstK (isPair x.2.1 x.2.2.1) 0 l = -1
  · rw [if_pos hc, hc]; rfl
  · rw [if_neg hc]; rfl
theorem pair_first (L : List THeld) (c m : Int) : firstK (fun x => eqT tCombo x (c, m, ())) 0 (L.map pairOf) = firstK (isPair c m) 0 L := by
  rw [firstK_map]
  congr 1
  funext h
  simp only [pairOf, eqT, isPair, Bool.and_true]

/-- a list without its place r -/
def without {α : Type} (l : List α) (r : Nat) : List α := List.append (cutl l 0 r) (cutl l (r + 1) l.length)
theorem without_len {α : Type} {l : List α} {r : Nat} (h : r < l.length) : (without l r).length = l.length - 1 := by
  simp [without, cutl]; omega
theorem without_map {α β : Type} (f : α → β) (l : List α) (r : Nat) : without (l.map f) r = (without l r).map f := by
  simp [without, cutl, List.map_take, List.map_drop]
  rw [List.take_of_length_le (by simp)]
theorem cut_first {α : Type} {l : List α} {r : Nat} (h : r < l.length) : cutOk (List.length l) 0 (r : Int) = true ∧ cutOk (List.length l) ((r + 1 : Nat) : Int) ((List.length l : Nat) : Int) = true := by
  simp only [cutOk, Bool.and_eq_true, decide_eq_true_eq]
  omega
theorem spec_l8Without_ok (l : List THeld) {r : Nat} (h : r < l.length) (hn : l.length ≤ big20) : spec_l8Without l (r : Int) = some (without l r, ()) := by
  have h20 : big20 = 1048576 := rfl
  have hc := cut_first h
  unfold spec_l8Without
  rw [wrap_succ (by omega), hc.1, hc.2]
  have e1 : Nat.ble (List.length ([] : List THeld) + List.length (cutl l (Int.toNat 0) (Int.toNat (r : Int)))) lim = true := Nat.ble_eq_true_of_le (by simp [cutl]; rw [lim_eq]; omega)
  have e2 : Nat.ble (List.length (List.append ([] : List THeld) (cutl l (Int.toNat 0) (Int.toNat (r : Int)))) + List.length (cutl l (Int.toNat ((r + 1 : Nat) : Int)) (Int.toNat ((List.length l : Nat) : Int)))) lim = true :=
    Nat.ble_eq_true_of_le (by simp [cutl]; rw [lim_eq]; omega)
  rw [e1, e2]
  simp only [cond_true]
  rfl

noncomputable def stepOkB (x : TStep) (r : Int) : Bool := isActionB (2, x.2.1, x.2.2.1, 0, ()) && (((x.1 == 0) && !decide (r ≥ 0)) || (((x.1 == 1) && !decide (r ≥ 0)) || ((x.1 == 2) && decide (r ≥ 0))))
def heldOf (x : TStep) : THeld := (0, (2, x.2.1, x.2.2.1, 0, ()), ())
def macN (x : TStep) (L : List THeld) (r : Int) : List THeld := cond (x.1 == 1) (List.append L [heldOf x]) (cond (x.1 == 2) (without L r.toNat) L)
noncomputable def macG (L : List THeld) (x : TStep) : List THeld ⊕ Unit := cond (stepOkB x (firstK (isPair x.2.1 x.2.2.1) 0 L)) (.inl (macN x L (firstK (isPair x.2.1 x.2.2.1) 0 L))) (.inr ())

theorem mac_len {L L' : List THeld} {x : TStep} (h : macG L x = .inl L') : L'.length ≤ L.length + 1 := by
  unfold macG at h
  cases hc : stepOkB x (firstK (isPair x.2.1 x.2.2.1) 0 L) with
  | false => rw [hc] at h; simp at h
  | true =>
    rw [hc] at h
    simp only [cond_true, Sum.inl.injEq] at h
    rw [← h]
    unfold macN
    cases x.1 == 1 with
    | true => simp
    | false =>
      cases x.1 == 2 with
      | true => simp [without, cutl]; omega
      | false => simp

theorem spec_mac_step (l : List TStep) (k : Nat) (hk : k < l.length) (L : List THeld) (hL : L.length ≤ k) (hn : l.length ≤ big20) :
    spec_IsMacro_3_R l L (k : Int) = some (match macG L l[k] with | .inl L' => .inl ((l, L', IntKind.wrap .i64 ((k : Int) + 1), ()), ()) | .inr _ => .inr (.inr ((false, ()), ()))) := by
  have h20 : big20 = 1048576 := rfl
  simp only [spec_IsMacro_3_R]
  rw [dec_true (show (k : Int) < (List.length l : Int) by omega), idx_lt hk]
  simp only [cond_true, Option.bind_some]
  rw [spec_l8Find_ok L l[k] (by omega)]
  simp only [Option.bind_some, spec_l1In_ok, spec_l8Action, spec_IsAction_ok, macG, stepOkB, macN, heldOf]
  generalize hx : l[k] = x
  generalize hr : firstK (isPair x.2.1 x.2.2.1) 0 L = r
  have hble : Nat.ble (List.length L + List.length [heldOf x]) lim = true := Nat.ble_eq_true_of_le (by simp [lim_eq]; omega)
  have hble' : Nat.ble (List.length L + List.length ([((0 : Int), ((2 : Int), x.2.1, x.2.2.1, (0 : Int), ()), ())] : List THeld)) lim = true := hble
  have hw : decide (r ≥ 0) = true → spec_l8Without L r = some (without L r.toNat, ()) := by
    intro h
    rcases firstK_bd (isPair x.2.1 x.2.2.1) L 0 with h1 | ⟨j, h1, h2⟩
    · rw [hr] at h1; rw [h1] at h; simp at h
    · rw [hr] at h2
      have : r = (j : Int) := by omega
      rw [this, spec_l8Without_ok L h1 (by omega)]
      simp
  by_cases k0 : x.1 = 0
  · simp only [k0]
    cases isActionB ((2 : Int), x.2.1, x.2.2.1, (0 : Int), ()) <;> cases decide (r ≥ 0) <;> rfl
  by_cases k1 : x.1 = 1
  · simp only [k1]
    rw [hble']
    cases isActionB ((2 : Int), x.2.1, x.2.2.1, (0 : Int), ()) <;> cases decide (r ≥ 0) <;> rfl
  by_cases k2 : x.1 = 2
  · simp only [k2]
    cases hd : decide (r ≥ 0) with
    | false => cases isActionB ((2 : Int), x.2.1, x.2.2.1, (0 : Int), ()) <;> rfl
    | true =>
      rw [hw hd]
      cases isActionB ((2 : Int), x.2.1, x.2.2.1, (0 : Int), ()) <;> rfl
  · have e0 : (x.1 == 0) = false := by simpa using k0
    have e1 : (x.1 == 1) = false := by simpa using k1
    have e2 : (x.1 == 2) = false := by simpa using k2
    rw [dec_false (show ¬ (0 ≤ x.1 ∧ x.1 ≤ 2) by omega), e0, e1, e2]
    cases isActionB ((2 : Int), x.2.1, x.2.2.1, (0 : Int), ()) <;> rfl

theorem impl_mac_step (l : List TStep) (k : Nat) (hk : k < l.length) (L : List THeld) (hL : L.length ≤ k) (hn : l.length ≤ big20) :
    impl_IsMacro_5_R (L.map pairOf) l ((List.length l : Nat) : Int) (k : Int) =
      some (match macG L l[k] with | .inl L' => .inl ((L'.map pairOf, l, ((List.length l : Nat) : Int), IntKind.wrap .i64 ((k : Int) + 1), ()), ()) | .inr _ => .inr (.inr ((false, ()), ()))) := by
  have h20 : big20 = 1048576 := rfl
  simp only [impl_IsMacro_5_R]
  rw [dec_true (show (k : Int) < (List.length l : Int) by omega), idx_lt hk]
  simp only [cond_true, Option.bind_some]
  rw [impl_pairAt_ok (L.map pairOf) _ (by simp; omega), pair_first]
  simp only [Option.bind_some, impl_IsAction_ok, macG, stepOkB, macN, heldOf]
  generalize hx : l[k] = x
  generalize hr : firstK (isPair x.2.1 x.2.2.1) 0 L = r
  have hble : Nat.ble (List.length (L.map pairOf) + List.length ([(x.2.1, x.2.2.1, ())] : List TCombo)) lim = true := Nat.ble_eq_true_of_le (by simp [lim_eq]; omega)
  have happ : List.append (L.map pairOf) ([(x.2.1, x.2.2.1, ())] : List TCombo) = (List.append L [((0 : Int), ((2 : Int), x.2.1, x.2.2.1, (0 : Int), ()), ())]).map pairOf := by
    show _ ++ _ = List.map pairOf (_ ++ _)
    rw [List.map_append]; rfl
  by_cases k0 : x.1 = 0
  · simp only [k0]
    cases isActionB ((2 : Int), x.2.1, x.2.2.1, (0 : Int), ()) <;> cases decide (r ≥ 0) <;> rfl
  by_cases k1 : x.1 = 1
  · simp only [k1]
    rw [hble, happ]
    cases isActionB ((2 : Int), x.2.1, x.2.2.1, (0 : Int), ()) <;> cases decide (r ≥ 0) <;> rfl
  by_cases k2 : x.1 = 2
  · simp only [k2]
    rcases firstK_bd (isPair x.2.1 x.2.2.1) L 0 with h1 | ⟨j, h1, h2⟩
    · rw [hr] at h1
      rw [h1]
      cases isActionB ((2 : Int), x.2.1, x.2.2.1, (0 : Int), ()) <;> rfl
    · rw [hr] at h2
      have hrj : r = (j : Int) := by omega
      rw [hrj]
      have hj : j < (L.map pairOf).length := by simpa using h1
      have hc := cut_first hj
      rw [wrap_succ (k := j) (by omega), hc.1, hc.2, dec_false (show ¬ (j : Int) < 0 by omega), dec_true (show (j : Int) ≥ 0 by omega)]
      have e1 : Nat.ble (List.length (cutl (L.map pairOf) (Int.toNat 0) (Int.toNat (j : Int))) + List.length (cutl (L.map pairOf) (Int.toNat ((j + 1 : Nat) : Int)) (Int.toNat ((List.length (L.map pairOf) : Nat) : Int)))) lim = true :=
        Nat.ble_eq_true_of_le (by simp [cutl]; rw [lim_eq]; omega)
      have e2 : List.append (cutl (L.map pairOf) (Int.toNat 0) (Int.toNat (j : Int))) (cutl (L.map pairOf) (Int.toNat ((j + 1 : Nat) : Int)) (Int.toNat ((List.length (L.map pairOf) : Nat) : Int))) = (without L (Int.toNat (j : Int))).map pairOf := by
        rw [← without_map]
        simp [without]
      rw [e1, e2]
      cases isActionB ((2 : Int), x.2.1, x.2.2.1, (0 : Int), ()) <;> rfl
  · have e0 : (x.1 == 0) = false := by simpa using k0
    have e1 : (x.1 == 1) = false := by simpa using k1
    have e2 : (x.1 == 2) = false := by simpa using k2
    rw [e0, e1, e2]
    cases isActionB ((2 : Int), x.2.1, x.2.2.1, (0 : Int), ()) <;> rfl

noncomputable def macR (l : List TStep) : List THeld ⊕ Unit := foldE (fun _ L x => macG L x) 0 [] l
noncomputable def isMacroB (l : List TStep) : Bool := decide (l.length ≤ 8) && (match macR l with | .inl L => ((L.length : Int) == 0) | .inr _ => false)

theorem spec_IsMacro_ok (l : List TStep) (hn : l.length ≤ big20) : spec_IsMacro l = some (isMacroB l, ()) := by
  have h20 : big20 = 1048576 := rfl
  have hl := loopF_foldX (step := fun x => spec_IsMacro_3_R x.1.1 x.1.2.1 x.1.2.2.1) l (fun _ L x => macG L x) (fun L i => ((l, L, i, ()), ()))
    (fun L => .inl ((l, L, ()), ())) (fun _ => .inr ((false, ()), ())) (fun k L => L.length ≤ k) (by
      intro k hk L hL
      refine ⟨?_, fun L' h => by have := mac_len h; omega⟩
      rw [spec_mac_step l k hk L hL hn]
      cases macG L l[k] <;> rfl) (by
      intro s _
      simp only [spec_IsMacro_3_R]
      rw [dec_false (by omega)]; rfl) (by omega) [] (by simp)
  unfold spec_IsMacro spec_IsMacro_3_loop
  erw [hl]
  simp only [Option.bind_some, isMacroB, macR]
  cases foldE (fun x L x => macG L x) 0 [] l with
  | inl L =>
    simp only [Sum.elim_inl]
    by_cases h : l.length ≤ 8
    · rw [dec_true (show ((List.length l : Nat) : Int) ≤ 8 by omega), dec_true h]; rfl
    · rw [dec_false (show ¬ ((List.length l : Nat) : Int) ≤ 8 by omega), dec_false h]; rfl
  | inr u => cases decide (l.length ≤ 8) <;> rfl

theorem impl_IsMacro_ok (l : List TStep) (hn : l.length ≤ big20) : impl_IsMacro l = some (isMacroB l, ()) := by
  have h20 : big20 = 1048576 := rfl
  unfold impl_IsMacro isMacroB
  by_cases h : l.length ≤ 8
  · rw [dec_false (show ¬ ((List.length l : Nat) : Int) > 8 by omega), dec_true h]
    have hl := loopF_foldX (step := fun x => impl_IsMacro_5_R x.1.1 x.1.2.1 x.1.2.2.1 x.1.2.2.2.1) l (fun _ L x => macG L x) (fun L i => ((L.map pairOf, l, ((List.length l : Nat) : Int), i, ()), ()))
      (fun L => .inl ((L.map pairOf, ()), ())) (fun _ => .inr ((false, ()), ())) (fun k L => L.length ≤ k) (by
        intro k hk L hL
        refine ⟨?_, fun L' h => by have := mac_len h; omega⟩
        rw [impl_mac_step l k hk L hL hn]
        cases macG L l[k] <;> rfl) (by
        intro s _
        simp only [impl_IsMacro_5_R]
        rw [dec_false (by omega)]; rfl) (by omega) [] (by simp)
    unfold impl_IsMacro_5_loop
    erw [hl]
    simp only [macR]
    cases foldE (fun x L x => macG L x) 0 [] l with
    | inl L =>
      show some _ = some _
      simp only [List.length_map]
      rfl
    | inr u => rfl
  · rw [dec_true (show ((List.length l : Nat) : Int) > 8 by omega), dec_false h]; rfl
end KF

namespace KF
open Go
set_option linter.unusedSimpArgs false
set_option linter.unusedVariables false

/-! ### Engines -/
noncomputable def heldInB (keys : Int) (nl : Nat) (x : THeld) : Bool := !decide (x.1 ≥ keys) && !((x.2.1.1 != 9) && decide (x.2.1.2.2.2.1 ≥ (nl : Int)))
noncomputable def isEngineB (e : TEngine) : Bool :=
  isKeymapB e.1 && (decide (e.2.1.length ≤ 4) && (isHeldB e.2.2.2.1 && (allK (fun _ m => isMacroB m) 0 e.2.1 && (allK (fun _ x => heldInB e.1.1 e.1.2.1.length x) 0 e.2.2.2.1 &&
    (decide (0 ≤ e.2.2.1 ∧ e.2.2.1 < ((2 ^ e.1.2.1.length : Nat) : Int)) && ((Int.tmod e.2.2.1 2 == 0) && decide (0 ≤ e.2.2.2.2.1 ∧ e.2.2.2.2.1 ≤ 15)))))))

theorem eng_sz (e : TEngine) : szT tEngine e = szT tKeymap e.1 + (szT (.sl (.sl tStep)) e.2.1 + szT (.sl tHeld) e.2.2.2.1) := by
  simp only [szT, Nat.add_zero, Nat.zero_add]
theorem szHelds (l : List THeld) : szT (.sl tHeld) l = l.length := szT_flat (e := tHeld) rfl l
theorem szSteps (l : List TStep) : szT (.sl tStep) l = l.length := szT_flat (e := tStep) rfl l
theorem szL_len {e : Ty} (l : List (T e)) : List.length l ≤ szT (.sl e) l := Nat.le_add_right _ _
theorem szL_el {e : Ty} {l : List (T e)} {k : Nat} (hk : k < List.length l) : szT e (List.get l ⟨k, hk⟩) ≤ szT (.sl e) l :=
  Nat.le_trans (sum_map_le (f := szT e) hk) (Nat.le_add_left _ _)

theorem impl_eng_macros (e : TEngine) (hz : szT tEngine e ≤ big20) : impl_IsEngine_4_loop (((), e.2.1, ((List.length e.2.1 : Nat) : Int), (0 : Int), ()), (e, ())) =
    some (cond (allK (fun _ m => isMacroB m) 0 e.2.1) (.inl (((), ()), (e, ()))) (.inr ((false, ()), ()))) := by
  have h20 : big20 = 1048576 := rfl
  rw [eng_sz] at hz
  have hl := szL_len (e := .sl tStep) e.2.1
  unfold impl_IsEngine_4_loop
  refine loopF_all (step := fun x => impl_IsEngine_4_R x.1.1 x.1.2.1 x.1.2.2.1 x.1.2.2.2.1 x.2.1) e.2.1 (fun _ m => isMacroB m) (fun i => (((), e.2.1, ((List.length e.2.1 : Nat) : Int), i, ()), (e, ()))) _ _ ?_ ?_ (by omega)
  · intro k hk
    simp only [impl_IsEngine_4_R]
    have hk2 : (k : Int) < ((List.length e.2.1 : Nat) : Int) := by omega
    rw [dec_true hk2, idx_lt hk]
    simp only [cond_true, Option.bind_some]
    have he := szL_el (e := .sl tStep) hk
    rw [szSteps] at he
    rw [impl_IsMacro_ok e.2.1[k] (by have : (List.get e.2.1 ⟨k, hk⟩) = e.2.1[k] := rfl; rw [this] at he; omega)]
    simp only [Option.bind_some]
    cases isMacroB e.2.1[k] <;> rfl
  · simp only [impl_IsEngine_4_R]
    rw [dec_false (by omega)]; rfl
theorem spec_eng_macros (e : TEngine) (hz : szT tEngine e ≤ big20) : spec_IsEngine_4_loop (((), (0 : Int), ()), (e, ())) =
    some (cond (allK (fun _ m => isMacroB m) 0 e.2.1) (.inl (((), ()), (e, ()))) (.inr ((false, ()), ()))) := by
  have h20 : big20 = 1048576 := rfl
  rw [eng_sz] at hz
  have hl := szL_len (e := .sl tStep) e.2.1
  unfold spec_IsEngine_4_loop
  refine loopF_all (step := fun x => spec_IsEngine_4_R x.1.1 x.1.2.1 x.2.1) e.2.1 (fun _ m => isMacroB m) (fun i => (((), i, ()), (e, ()))) _ _ ?_ ?_ (by omega)
  · intro k hk
    simp only [spec_IsEngine_4_R]
    have hk2 : (k : Int) < ((List.length e.2.1 : Nat) : Int) := by omega
    rw [dec_true hk2, idx_lt hk]
    simp only [cond_true, Option.bind_some]
    have he := szL_el (e := .sl tStep) hk
    rw [szSteps] at he
    rw [spec_IsMacro_ok e.2.1[k] (by have : (List.get e.2.1 ⟨k, hk⟩) = e.2.1[k] := rfl; rw [this] at he; omega)]
    simp only [Option.bind_some]
    cases isMacroB e.2.1[k] <;> rfl
  · simp only [spec_IsEngine_4_R]
    rw [dec_false (by omega)]; rfl
theorem impl_eng_held (e : TEngine) (hz : szT tEngine e ≤ big20) : impl_IsEngine_11_loop (((), ((List.length e.1.2.1 : Nat) : Int), e.2.2.2.1, ((List.length e.2.2.2.1 : Nat) : Int), (0 : Int), ()), (e, ())) =
    some (cond (allK (fun _ x => heldInB e.1.1 e.1.2.1.length x) 0 e.2.2.2.1) (.inl (((), ((List.length e.1.2.1 : Nat) : Int), ()), (e, ()))) (.inr ((false, ()), ()))) := by
  have h20 : big20 = 1048576 := rfl
  rw [eng_sz, szHelds] at hz
  unfold impl_IsEngine_11_loop
  refine loopF_all (step := fun x => impl_IsEngine_11_R x.1.1 x.1.2.1 x.1.2.2.1 x.1.2.2.2.1 x.1.2.2.2.2.1 x.2.1) e.2.2.2.1 (fun _ x => heldInB e.1.1 e.1.2.1.length x)
    (fun i => (((), ((List.length e.1.2.1 : Nat) : Int), e.2.2.2.1, ((List.length e.2.2.2.1 : Nat) : Int), i, ()), (e, ()))) _ _ ?_ ?_ (by omega)
  · intro k hk
    simp only [impl_IsEngine_11_R]
    have hk2 : (k : Int) < ((List.length e.2.2.2.1 : Nat) : Int) := by omega
    rw [dec_true hk2, idx_lt hk]
    simp only [cond_true, Option.bind_some, heldInB]
    cases decide (e.2.2.2.1[k].1 ≥ e.1.1) <;> cases (e.2.2.2.1[k].2.1.1 != 9) <;> cases decide (e.2.2.2.1[k].2.1.2.2.2.1 ≥ ((List.length e.1.2.1 : Nat) : Int)) <;> rfl
  · simp only [impl_IsEngine_11_R]
    rw [dec_false (by omega)]; rfl
theorem spec_eng_held (e : TEngine) (hz : szT tEngine e ≤ big20) : spec_IsEngine_9_loop (((), (0 : Int), ()), (e, ())) =
    some (cond (allK (fun _ x => heldInB e.1.1 e.1.2.1.length x) 0 e.2.2.2.1) (.inl (((), ()), (e, ()))) (.inr ((false, ()), ()))) := by
  have h20 : big20 = 1048576 := rfl
  rw [eng_sz, szHelds] at hz
  unfold spec_IsEngine_9_loop
  refine loopF_all (step := fun x => spec_IsEngine_9_R x.1.1 x.1.2.1 x.2.1) e.2.2.2.1 (fun _ x => heldInB e.1.1 e.1.2.1.length x) (fun i => (((), i, ()), (e, ()))) _ _ ?_ ?_ (by omega)
  · intro k hk
    simp only [spec_IsEngine_9_R]
    have hk2 : (k : Int) < ((List.length e.2.2.2.1 : Nat) : Int) := by omega
    rw [dec_true hk2, idx_lt hk]
    simp only [cond_true, Option.bind_some, heldInB]
    cases decide (e.2.2.2.1[k].1 ≥ e.1.1) <;> cases (e.2.2.2.1[k].2.1.1 != 9) <;> cases decide (e.2.2.2.1[k].2.1.2.2.2.1 ≥ ((List.length e.1.2.1 : Nat) : Int)) <;> rfl
  · simp only [spec_IsEngine_9_R]
    rw [dec_false (by omega)]; rfl

theorem impl_IsEngine_ok (e : TEngine) (hz : szT tEngine e ≤ big20) : impl_IsEngine e = some (isEngineB e, ()) := by
  have h20 : big20 = 1048576 := rfl
  have hz' := hz
  rw [eng_sz, szHelds] at hz'
  unfold impl_IsEngine isEngineB
  rw [impl_IsKeymap_ok e.1 (by omega)]
  cases hk : isKeymapB e.1 with
  | false => rfl
  | true =>
    simp only [Option.bind_some, Bool.not_true, cond_false, Bool.true_and]
    by_cases h4 : e.2.1.length ≤ 4
    · rw [dec_false (show ¬ ((List.length e.2.1 : Nat) : Int) > 4 by omega), dec_true h4, impl_IsHeld_ok _ (by omega)]
      simp only [Option.bind_some, cond_false, Bool.true_and]
      cases hh : isHeldB e.2.2.2.1 with
      | false => rfl
      | true =>
        simp only [Bool.not_true, cond_false, Bool.true_and]
        rw [impl_eng_macros e hz]
        have hl := (keymap_ok hk).l2
        by_cases ho : 0 ≤ e.2.2.2.2.1 ∧ e.2.2.2.2.1 ≤ 15
        · rw [dec_false (show ¬ e.2.2.2.2.1 < 0 by omega), dec_false (show ¬ e.2.2.2.2.1 > 15 by omega), dec_true ho]
          simp only [cond_false, Option.bind_some, Bool.and_true]
          cases allK (fun _ m => isMacroB m) 0 e.2.1 with
          | false => rfl
          | true =>
            simp only [cond_true, Sum.elim_inl, Bool.true_and]
            rw [impl_eng_held e hz]
            cases allK (fun _ x => heldInB e.1.1 e.1.2.1.length x) 0 e.2.2.2.1 with
            | false => rfl
            | true =>
              simp only [cond_true, Option.bind_some, Sum.elim_inl, Bool.true_and]
              rw [shl_one (by omega), dec_true (show (0 : Int) ≤ ((List.length e.1.2.1 : Nat) : Int) by omega)]
              have e2 : ((2 : Int) == 0) = false := rfl
              rw [e2]
              simp only [cond_false, cond_true]
              by_cases hf : 0 ≤ e.2.2.1
              · rw [dec_true (show e.2.2.1 ≥ 0 from hf)]
                by_cases hf2 : e.2.2.1 < ((2 ^ e.1.2.1.length : Nat) : Int)
                · rw [dec_true hf2, dec_true (show 0 ≤ e.2.2.1 ∧ e.2.2.1 < ((2 ^ e.1.2.1.length : Nat) : Int) from ⟨hf, hf2⟩)]
                  cases Int.tmod e.2.2.1 2 == 0 <;> rfl
                · rw [dec_false hf2, dec_false (show ¬ (0 ≤ e.2.2.1 ∧ e.2.2.1 < ((2 ^ e.1.2.1.length : Nat) : Int)) from fun h => hf2 h.2)]
                  cases Int.tmod e.2.2.1 2 == 0 <;> rfl
              · rw [dec_false (show ¬ e.2.2.1 ≥ 0 from hf), dec_false (show ¬ (0 ≤ e.2.2.1 ∧ e.2.2.1 < ((2 ^ e.1.2.1.length : Nat) : Int)) from fun h => hf h.1)]
                rfl
        · have hr : (allK (fun _ m => isMacroB m) 0 e.2.1 && (allK (fun _ x => heldInB e.1.1 e.1.2.1.length x) 0 e.2.2.2.1 && (decide (0 ≤ e.2.2.1 ∧ e.2.2.1 < ((2 ^ e.1.2.1.length : Nat) : Int)) && ((Int.tmod e.2.2.1 2 == 0) && decide (0 ≤ e.2.2.2.2.1 ∧ e.2.2.2.2.1 ≤ 15))))) = false := by
            rw [dec_false ho]; simp
          rw [hr]
          by_cases h1 : e.2.2.2.2.1 < 0
          · rw [dec_true h1]; rfl
          · rw [dec_false h1, dec_true (show e.2.2.2.2.1 > 15 by omega)]; rfl
    · rw [dec_true (show ((List.length e.2.1 : Nat) : Int) > 4 by omega), dec_false h4]; rfl

theorem spec_IsEngine_ok (e : TEngine) (hz : szT tEngine e ≤ big20) : spec_IsEngine e = some (isEngineB e, ()) := by
  have h20 : big20 = 1048576 := rfl
  have hz' := hz
  rw [eng_sz, szHelds] at hz'
  unfold spec_IsEngine isEngineB
  rw [spec_IsKeymap_ok e.1 (by omega)]
  cases hk : isKeymapB e.1 with
  | false => rfl
  | true =>
    simp only [Option.bind_some, Bool.not_true, cond_false, Bool.true_and]
    by_cases h4 : e.2.1.length ≤ 4
    · rw [dec_false (show ¬ ((List.length e.2.1 : Nat) : Int) > 4 by omega), dec_true h4, spec_IsHeld_ok _ (by omega)]
      simp only [Option.bind_some, cond_false, Bool.true_and]
      cases hh : isHeldB e.2.2.2.1 with
      | false => rfl
      | true =>
        simp only [Bool.not_true, cond_false, Bool.true_and]
        rw [spec_eng_macros e hz]
        have hl := (keymap_ok hk).l2
        cases allK (fun _ m => isMacroB m) 0 e.2.1 with
        | false => rfl
        | true =>
          simp only [cond_true, Option.bind_some, Sum.elim_inl, Bool.true_and]
          rw [spec_eng_held e hz]
          cases allK (fun _ x => heldInB e.1.1 e.1.2.1.length x) 0 e.2.2.2.1 with
          | false => rfl
          | true =>
            simp only [cond_true, Option.bind_some, Sum.elim_inl, Bool.true_and, spec_l1In_ok]
            have hp : (2 ^ e.1.2.1.length : Nat) ≤ 16 := Nat.pow_le_pow_right (n := 2) (by omega) hl
            rw [shl_one (by omega), dec_true (show (0 : Int) ≤ ((List.length e.1.2.1 : Nat) : Int) by omega)]
            generalize (2 ^ e.1.2.1.length : Nat) = P2 at hp ⊢
            rw [wrap64 (by omega) (by omega)]
            have e2 : ((2 : Int) == 0) = false := rfl
            rw [e2]
            simp only [cond_false, cond_true, Option.bind_some]
            have e3 : decide (0 ≤ e.2.2.1 ∧ e.2.2.1 ≤ (P2 : Int) - 1) = decide (0 ≤ e.2.2.1 ∧ e.2.2.1 < (P2 : Int)) := by
              rw [decide_eq_decide]; omega
            rw [e3]
            cases decide (0 ≤ e.2.2.1 ∧ e.2.2.1 < (P2 : Int)) <;> cases Int.tmod e.2.2.1 2 == 0 <;> rfl
    · rw [dec_true (show ((List.length e.2.1 : Nat) : Int) > 4 by omega), dec_false h4]; rfl
end KF

namespace KF
open Go
set_option linter.unusedSimpArgs false
set_option linter.unusedVariables false

/-! ### Events that follow each other -/
def isEventB (x : TEvent) : Bool := decide (0 ≤ x.1 ∧ x.1 ≤ 1000000) && decide (0 ≤ x.2.1 ∧ x.2.1 ≤ 31)
theorem impl_IsEvent_ok (x : TEvent) : impl_IsEvent x = some (isEventB x, ()) := by
  unfold impl_IsEvent isEventB
  simp only [cond_some, cond_unit]
  apply some_unit
  simp only [cond_iff, decide_eq_true_eq, Bool.false_eq_true, and_false, or_false, Bool.and_eq_true]
  omega
theorem spec_IsEvent_ok (x : TEvent) : spec_IsEvent x = some (isEventB x, ()) := by
  unfold spec_IsEvent isEventB
  simp only [spec_l1In_ok, Option.bind_some, cond_some, cond_unit]
  apply some_unit
  simp only [cond_iff, decide_eq_true_eq, Bool.false_eq_true, and_false, or_false, Bool.and_eq_true]

def folOkB (s : Int × Int) (x : TEvent) : Bool := isEventB x && (!decide (s.1 > x.1) && !(x.2.2.1 == (bitI s.2 x.2.1 == 1)))
def folG (s : Int × Int) (x : TEvent) : (Int × Int) ⊕ Unit := cond (folOkB s x) (.inl (x.1, ixor .i64 s.2 (ishl .i64 1 x.2.1))) (.inr ())
def folR (l : List TEvent) (d : Int) : (Int × Int) ⊕ Unit := foldE (fun _ s x => folG s x) 0 (0, d) l
def followI (l : List TEvent) (d : Int) : Int × Bool := cond (decide (l.length ≤ 64)) (match folR l d with | .inl s => (s.2, true) | .inr _ => (0, false)) (0, false)

theorem event_key {x : TEvent} (h : isEventB x = true) : 0 ≤ x.1 ∧ x.1 ≤ 1000000 ∧ 0 ≤ x.2.1 ∧ x.2.1 ≤ 31 := by
  simp only [isEventB, Bool.and_eq_true, decide_eq_true_eq] at h
  omega

theorem impl_follow_ok (l : List TEvent) (d : Int) (hn : l.length ≤ big20) : impl_follow l d = some ((followI l d).1, (followI l d).2, ()) := by
  have h20 : big20 = 1048576 := rfl
  unfold impl_follow followI
  by_cases h64 : l.length ≤ 64
  · rw [dec_false (show ¬ ((List.length l : Nat) : Int) > 64 by omega), dec_true h64]
    have hl := loopF_foldX (step := fun x => impl_follow_4_R x.1.1 x.1.2.1 x.1.2.2.1 x.1.2.2.2.1 x.1.2.2.2.2.1) l (fun _ s x => folG s x) (fun s i => ((l, s.2, l, ((List.length l : Nat) : Int), i, ()), ()))
      (fun s => .inl ((s.2, ()), ())) (fun _ => .inr (((0 : Int), false, ()), ())) (fun k s => (k = 0 → s.1 = 0) ∧ ∀ hk : k - 1 < l.length, 0 < k → s.1 = l[k - 1].1) (by
        intro k hk s ⟨hs0, hs1⟩
        refine ⟨?_, ?_⟩
        · simp only [impl_follow_4_R]
          rw [dec_true (show (k : Int) < ((List.length l : Nat) : Int) by omega), idx_lt hk]
          simp only [cond_true, Option.bind_some, impl_IsEvent_ok, folG, folOkB]
          generalize hx : l[k] = x
          cases hev : isEventB x with
          | false => rfl
          | true =>
            have hkey := event_key hev
            simp only [Bool.not_true, cond_false, Bool.true_and]
            rw [impl_bit_ok s.2 hkey.2.2.1, dec_true hkey.2.2.1]
            simp only [Option.bind_some, cond_true]
            by_cases h0 : k = 0
            · subst h0
              rw [dec_false (show ¬ ((0 : Nat) : Int) > 0 by omega), dec_false (show ¬ s.1 > x.1 by rw [hs0 rfl]; omega)]
              cases (x.2.2.1 == (bitI s.2 x.2.1 == 1)) <;> rfl
            · rw [dec_true (show (k : Int) > 0 by omega), wrap64 (by omega) (by omega), show (k : Int) - 1 = ((k - 1 : Nat) : Int) by omega, idx_lt (show k - 1 < l.length by omega)]
              rw [hs1 (by omega) (by omega)]
              simp only [Option.bind_some, cond_true]
              cases decide (l[k - 1].1 > x.1) <;> cases (x.2.2.1 == (bitI s.2 x.2.1 == 1)) <;> rfl
        · intro s' h
          unfold folG at h
          cases hc : folOkB s l[k] with
          | false => rw [hc] at h; simp at h
          | true =>
            rw [hc] at h
            simp only [cond_true, Sum.inl.injEq] at h
            refine ⟨by omega, fun _ _ => ?_⟩
            rw [← h]
            simp only [Nat.add_sub_cancel])
      (by
        intro s _
        simp only [impl_follow_4_R]
        rw [dec_false (by omega)]; rfl) (by omega) (0, d) ⟨fun _ => rfl, fun _ h => absurd h (by omega)⟩
    unfold impl_follow_4_loop
    erw [hl]
    simp only [cond_false, Option.bind_some, folR, cond_true]
    cases foldE (fun x s x => folG s x) 0 (0, d) l <;> rfl
  · rw [dec_true (show ((List.length l : Nat) : Int) > 64 by omega), dec_false h64]; rfl

def keysIn (keys : Int) (l : List TEvent) : Bool := allK (fun _ (x : TEvent) => !decide (x.2.1 ≥ keys)) 0 l
def queueFitsB (q : List TEvent) (d keys : Int) : Bool := keysIn keys q && (followI q d).2
theorem impl_queueFits_ok (q : List TEvent) (d keys : Int) (hn : q.length ≤ big20) : impl_queueFits q d keys = some (queueFitsB q d keys, ()) := by
  have h20 : big20 = 1048576 := rfl
  have hl := loopF_all (step := fun x => impl_queueFits_2_R x.1.1 x.1.2.1 x.1.2.2.1 x.1.2.2.2.1 x.1.2.2.2.2.1 x.1.2.2.2.2.2.1) q (fun _ (x : TEvent) => !decide (x.2.1 ≥ keys)) (fun i => ((q, d, keys, q, ((List.length q : Nat) : Int), i, ()), ()))
    (.inl ((q, d, ()), ())) (.inr ((false, ()), ())) (by
      intro k hk
      simp only [impl_queueFits_2_R]
      rw [dec_true (show (k : Int) < ((List.length q : Nat) : Int) by omega), idx_lt hk]
      simp only [cond_true, Option.bind_some]
      cases decide (q[k].2.1 ≥ keys) <;> rfl) (by
      simp only [impl_queueFits_2_R]
      rw [dec_false (by omega)]; rfl) (by omega)
  unfold impl_queueFits impl_queueFits_2_loop queueFitsB keysIn
  erw [hl]
  simp only [Option.bind_some]
  cases allK (fun _ (x : TEvent) => !decide (x.2.1 ≥ keys)) 0 q with
  | false => rfl
  | true => simp only [cond_true, Sum.elim_inl, impl_follow_ok q d hn, Option.bind_some]; rfl

/-- the reference's fold: keys and order in one -/
def folGs (keys : Int) (s : Int × Int) (x : TEvent) : (Int × Int) ⊕ Unit := cond (folOkB s x && !decide (x.2.1 ≥ keys)) (.inl (x.1, ixor .i64 s.2 (ishl .i64 1 x.2.1))) (.inr ())
theorem folGs_split (keys : Int) : ∀ (l : List TEvent) (k : Nat) (s : Int × Int), isL (foldE (fun _ s x => folGs keys s x) k s l) = (allK (fun _ (x : TEvent) => !decide (x.2.1 ≥ keys)) k l && isL (foldE (fun _ s x => folG s x) k s l))
  | [], _, _ => rfl
  | x :: l, k, s => by
    simp only [foldE, allK, folGs, folG]
    cases folOkB s x with
    | false => simp [isL]
    | true =>
      cases decide (x.2.1 ≥ keys) with
      | true => simp [isL]
      | false => simp only [Bool.true_and, Bool.not_false, cond_true]; exact folGs_split keys l (k + 1) _
theorem spec_l10Follows_ok (q : List TEvent) (d keys : Int) (hn : q.length ≤ big20) : spec_l10Follows q d keys 0 = some (queueFitsB q d keys, ()) := by
  have h20 : big20 = 1048576 := rfl
  have hl := loopF_foldX (step := fun x => spec_l10Follows_2_R x.1.1 x.1.2.1 x.1.2.2.1 x.1.2.2.2.1 x.1.2.2.2.2.1) q (fun _ s x => folGs keys s x) (fun s i => ((q, s.2, keys, s.1, i, ()), ()))
    (fun s => .inl ((q, ()), ())) (fun _ => .inr ((false, ()), ())) (fun _ _ => True) (by
      intro k hk s _
      refine ⟨?_, fun _ _ => trivial⟩
      simp only [spec_l10Follows_2_R]
      rw [dec_true (show (k : Int) < ((List.length q : Nat) : Int) by omega), idx_lt hk]
      simp only [cond_true, Option.bind_some, spec_IsEvent_ok, folGs, folOkB]
      generalize q[k] = x
      cases hev : isEventB x with
      | false => rfl
      | true =>
        have hkey := event_key hev
        simp only [Bool.not_true, cond_false, Bool.true_and, bitI]
        rw [dec_true hkey.2.2.1]
        simp only [gt_iff_lt]
        cases decide (x.2.1 ≥ keys) <;> cases decide (x.1 < s.1) <;> cases (x.2.2.1 == (iand .i64 (ishr .i64 s.2 x.2.1) 1 == 1)) <;> rfl)
    (by
      intro s _
      simp only [spec_l10Follows_2_R]
      rw [dec_false (by omega)]; rfl) (by omega) (0, d) trivial
  unfold spec_l10Follows spec_l10Follows_2_loop
  erw [hl]
  have hsp := folGs_split keys q 0 (0, d)
  simp only [Option.bind_some, queueFitsB, keysIn, followI, folR]
  by_cases h64 : q.length ≤ 64
  · rw [dec_true h64]
    cases h1 : foldE (fun _ s x => folGs keys s x) 0 (0, d) q with
    | inl s =>
      rw [h1] at hsp
      simp only [isL] at hsp
      cases h2 : foldE (fun _ s x => folG s x) 0 (0, d) q with
      | inl s2 =>
        rw [h2] at hsp
        simp only [isL, Bool.and_true] at hsp
        rw [← hsp]
        simp only [Sum.elim_inl]
        rw [dec_true (show ((List.length q : Nat) : Int) ≤ 64 by omega)]; rfl
      | inr u => rw [h2] at hsp; simp [isL] at hsp
    | inr u =>
      rw [h1] at hsp
      simp only [isL] at hsp
      cases h2 : foldE (fun _ s x => folG s x) 0 (0, d) q with
      | inl s2 =>
        rw [h2] at hsp
        simp only [isL, Bool.and_true] at hsp
        rw [← hsp]; rfl
      | inr u => cases allK (fun _ (x : TEvent) => !decide (x.2.1 ≥ keys)) 0 q <;> rfl
  · rw [dec_false h64]
    cases h1 : foldE (fun _ s x => folGs keys s x) 0 (0, d) q with
    | inl s => simp only [Sum.elim_inl]; rw [dec_false (show ¬ ((List.length q : Nat) : Int) ≤ 64 by omega)]; cases allK (fun _ (x : TEvent) => !decide (x.2.1 ≥ keys)) 0 q <;> rfl
    | inr u => cases allK (fun _ (x : TEvent) => !decide (x.2.1 ≥ keys)) 0 q <;> rfl

/-! ### Deciders -/
def isTimingB (t : TTiming) : Bool := decide (1 ≤ t.1 ∧ t.1 ≤ 1000) && (decide (0 ≤ t.2.1 ∧ t.2.1 ≤ 1000) && decide (0 ≤ t.2.2.1 ∧ t.2.2.1 ≤ 2))
theorem impl_IsTiming_ok' (t : TTiming) : impl_IsTiming t = some (isTimingB t, ()) := by
  unfold impl_IsTiming isTimingB
  simp only [cond_some, cond_unit]
  apply some_unit
  simp only [cond_iff, decide_eq_true_eq, Bool.false_eq_true, and_false, or_false, Bool.and_eq_true]
  omega
theorem spec_IsTiming_ok' (t : TTiming) : spec_IsTiming t = some (isTimingB t, ()) := by
  unfold spec_IsTiming isTimingB
  simp only [spec_l1In_ok, Option.bind_some, cond_some, cond_unit]
  apply some_unit
  simp only [cond_iff, decide_eq_true_eq, Bool.false_eq_true, and_false, or_false, Bool.and_eq_true]
theorem spec_l10Held_ok (e : TEngine) (hn : e.2.2.2.1.length ≤ big20) (hx : ∀ x ∈ e.2.2.2.1, HeldOk x) : spec_l10Held e = some (maskI e.2.2.2.1, ()) := by
  have h20 : big20 = 1048576 := rfl
  have hl := (loopF_fold (step := fun x => spec_l10Held_3_R x.1.1 x.1.2.1 x.1.2.2.1 x.2.1) e.2.2.2.1 (fun _ s (x : THeld) => ior .i64 s (ishl .i64 1 x.1)) (fun s i => (((), s, i, ()), (e, ())))
    (fun s => .inl ((s, ()), ())) (fun _ _ => True) (by
      intro k hk s _
      refine ⟨?_, trivial⟩
      simp only [spec_l10Held_3_R]
      rw [dec_true (show (k : Int) < ((List.length e.2.2.2.1 : Nat) : Int) by omega), idx_lt hk]
      have hk' := hx _ (List.getElem_mem hk)
      simp only [cond_true, Option.bind_some, spec_l10Bit, spec_l1In_ok]
      rw [dec_true (show 0 ≤ e.2.2.2.1[k].1 ∧ e.2.2.2.1[k].1 ≤ 31 from ⟨hk'.lo, hk'.hi⟩), dec_true hk'.lo]; rfl)
    (by
      intro s _
      simp only [spec_l10Held_3_R]
      rw [dec_false (by omega)]; rfl) (by omega) 0 trivial).1
  unfold spec_l10Held spec_l10Held_3_loop
  erw [hl]
  rfl
def lastT (l : List TEvent) : Int := (l.getD (l.length - 1) (0, 0, false, ())).1
def notBehindB (l : List TEvent) (t : Int) : Bool := ((l.length : Int) == 0) || decide (lastT l ≤ t)
theorem idx_last {l : List TEvent} (h : 0 < l.length) (hn : l.length ≤ big20) : ∃ x, idx l (IntKind.wrap .i64 (((List.length l : Nat) : Int) - 1)) = some x ∧ x.1 = lastT l := by
  have h20 : big20 = 1048576 := rfl
  refine ⟨l[l.length - 1], ?_, ?_⟩
  · rw [wrap64 (by omega) (by omega), show ((List.length l : Nat) : Int) - 1 = ((l.length - 1 : Nat) : Int) by omega, idx_lt (by omega)]
  · simp [lastT, List.getD, List.getElem?_eq_getElem (show l.length - 1 < l.length by omega)]
theorem impl_notBehind_ok (l : List TEvent) (t : Int) (hn : l.length ≤ big20) : impl_notBehind l t = some (notBehindB l t, ()) := by
  unfold impl_notBehind notBehindB
  by_cases h0 : l.length = 0
  · simp [h0]
  · obtain ⟨x, h1, h2⟩ := idx_last (l := l) (by omega) hn
    rw [h1, show (((l.length : Nat) : Int) == 0) = false by simp; intro h; rw [h] at h0; simp at h0]
    simp only [cond_false, Option.bind_some, h2, Bool.false_or]

noncomputable def isDeciderB (d : TDecider) : Bool :=
  isEngineB d.1 && (isTimingB d.2.1 && (decide (0 ≤ d.2.2.2.1 ∧ d.2.2.2.1 ≤ 1000000) && (decide (0 ≤ d.2.2.2.2.1 ∧ d.2.2.2.2.1 ≤ d.2.2.2.1) && (queueFitsB d.2.2.1 (maskI d.1.2.2.2.1) d.1.1.1 && (notBehindB d.2.2.1 d.2.2.2.1 &&
    (decide (0 ≤ d.2.2.2.2.2.1 ∧ d.2.2.2.2.2.1 ≤ d.1.1.1) && decide (0 ≤ d.2.2.2.2.2.2.1 ∧ d.2.2.2.2.2.2.1 ≤ d.2.2.2.1)))))))
theorem dec_sz (d : TDecider) : szT tDecider d = szT tEngine d.1 + szT (.sl tEvent) d.2.2.1 := by
  simp only [szT, Nat.add_zero, Nat.zero_add]
theorem szEvents (l : List TEvent) : szT (.sl tEvent) l = l.length := szT_flat (e := tEvent) rfl l
theorem engine_held {e : TEngine} (h : isEngineB e = true) : isHeldB e.2.2.2.1 = true := by
  simp only [isEngineB, Bool.and_eq_true] at h
  exact h.2.2.1

theorem impl_IsDecider_ok (d : TDecider) (hz : szT tDecider d ≤ big20) : impl_IsDecider d = some (isDeciderB d, ()) := by
  have hz' := hz
  rw [dec_sz, szEvents] at hz'
  have hz2 := hz'
  rw [eng_sz, szHelds] at hz2
  unfold impl_IsDecider isDeciderB
  rw [impl_IsEngine_ok _ (by omega)]
  cases he : isEngineB d.1 with
  | false => rfl
  | true =>
    have hh := isHeld_ok (engine_held he)
    simp only [Option.bind_some, Bool.not_true, cond_false, Bool.true_and, impl_IsTiming_ok']
    cases isTimingB d.2.1 with
    | false => rfl
    | true =>
      rw [impl_heldMask_ok _ (by omega) hh]
      simp only [Option.bind_some, Bool.not_true, cond_false, Bool.true_and]
      rw [impl_queueFits_ok _ _ _ (by omega), impl_notBehind_ok _ _ (by omega)]
      simp only [Option.bind_some]
      have key : ∀ a b c e f g h i j k : Bool, cond a (some (false, ())) (cond b (some (false, ())) (cond c (some (false, ())) (cond e (some (false, ())) (cond (!f) (some (false, ())) (cond (!g) (some (false, ())) (cond h (cond i (cond j (some (k, ())) (some (false, ()))) (some (false, ()))) (some (false, ())))))))) =
          some ((((!a && !b) && ((!c && !e) && (f && (g && ((h && i) && (j && k)))))), ()) : Bool × Unit) := by
        intro a b c e f g h i j k
        cases a <;> cases b <;> cases c <;> cases e <;> cases f <;> cases g <;> cases h <;> cases i <;> cases j <;> cases k <;> rfl
      erw [key]
      apply some_unit
      simp only [Bool.and_eq_true, Bool.not_eq_true', decide_eq_true_eq, decide_eq_false_iff_not]
      constructor
      · rintro ⟨⟨h1, h2⟩, ⟨h3, h4⟩, h5, h6, ⟨h7, h8⟩, h9, h10⟩
        exact ⟨⟨by omega, by omega⟩, ⟨by omega, by omega⟩, h5, h6, ⟨h7, h8⟩, h9, h10⟩
      · rintro ⟨⟨h1, h2⟩, ⟨h3, h4⟩, h5, h6, ⟨h7, h8⟩, h9, h10⟩
        exact ⟨⟨by omega, by omega⟩, ⟨by omega, by omega⟩, h5, h6, ⟨h7, h8⟩, h9, h10⟩
theorem spec_IsDecider_ok (d : TDecider) (hz : szT tDecider d ≤ big20) : spec_IsDecider d = some (isDeciderB d, ()) := by
  have hz' := hz
  rw [dec_sz, szEvents] at hz'
  have hz2 := hz'
  rw [eng_sz, szHelds] at hz2
  unfold spec_IsDecider isDeciderB
  rw [spec_IsEngine_ok _ (by omega)]
  cases he : isEngineB d.1 with
  | false => rfl
  | true =>
    have hh := isHeld_ok (engine_held he)
    simp only [Option.bind_some, Bool.not_true, cond_false, Bool.true_and, spec_IsTiming_ok', spec_l1In_ok]
    cases isTimingB d.2.1 with
    | false => rfl
    | true =>
      rw [spec_l10Held_ok _ (by omega) hh]
      simp only [Option.bind_some, Bool.not_true, cond_false, Bool.true_and]
      rw [spec_l10Follows_ok _ _ _ (by omega)]
      simp only [Option.bind_some, notBehindB]
      by_cases h0 : d.2.2.1.length = 0
      · rw [dec_false (show ¬ ((List.length d.2.2.1 : Nat) : Int) > 0 by omega), show (((d.2.2.1.length : Nat) : Int) == 0) = true by simp [h0]]
        simp only [cond_false, Bool.true_or, Bool.true_and]
        cases decide (0 ≤ d.2.2.2.1 ∧ d.2.2.2.1 ≤ 1000000) <;> cases decide (0 ≤ d.2.2.2.2.1 ∧ d.2.2.2.2.1 ≤ d.2.2.2.1) <;> cases queueFitsB d.2.2.1 (maskI d.1.2.2.2.1) d.1.1.1 <;> cases decide (0 ≤ d.2.2.2.2.2.1 ∧ d.2.2.2.2.2.1 ≤ d.1.1.1) <;> rfl
      · obtain ⟨x, h1, h2⟩ := idx_last (l := d.2.2.1) (by omega) (by omega)
        rw [dec_true (show ((List.length d.2.2.1 : Nat) : Int) > 0 by omega), h1, show (((d.2.2.1.length : Nat) : Int) == 0) = false by simp; intro h; rw [h] at h0; simp at h0]
        simp only [cond_true, Option.bind_some, Bool.false_or, h2]
        have e1 : decide (lastT d.2.2.1 > d.2.2.2.1) = !decide (lastT d.2.2.1 ≤ d.2.2.2.1) := by
          rw [Bool.eq_iff_iff]; simp only [decide_eq_true_eq, Bool.not_eq_true', decide_eq_false_iff_not]; omega
        rw [e1]
        cases decide (0 ≤ d.2.2.2.1 ∧ d.2.2.2.1 ≤ 1000000) <;> cases decide (0 ≤ d.2.2.2.2.1 ∧ d.2.2.2.2.1 ≤ d.2.2.2.1) <;> cases queueFitsB d.2.2.1 (maskI d.1.2.2.2.1) d.1.1.1 <;> cases decide (lastT d.2.2.1 ≤ d.2.2.2.1) <;> cases decide (0 ≤ d.2.2.2.2.2.1 ∧ d.2.2.2.2.2.1 ≤ d.1.1.1) <;> rfl
end KF

namespace KF
open Go

/-! ### Packets -/
def sealG (k : Nat) (s : Int) (x : Int) : Int := IntKind.wrap .i64 (s + IntKind.wrap .i64 (IntKind.wrap .i64 x * IntKind.wrap .i64 ((k : Int) + 1)))
def sealL (a : List Int) : List Int :=
  if a.length ≥ 8 then [] else (a ++ List.replicate (8 - a.length) 0).set 7 (IntKind.wrap .u8 (Int.tmod (foldK sealG 0 90 a) 256))

theorem foldK_two {α S T : Type} (g : Nat → S → α → S) (h : Nat → T → α → T) : ∀ (xs : List α) (k : Nat) (s : S) (t : T),
    foldK (fun k (p : S × T) x => (g k p.1 x, h k p.2 x)) k (s, t) xs = (foldK g k s xs, foldK h k t xs)
  | [], _, _, _ => rfl
  | x :: xs, k, s, t => by simp only [foldK]; exact foldK_two g h xs (k + 1) _ _

theorem foldK_set {α : Type} : ∀ (xs : List α) (k : Nat) (o : List α), k + xs.length ≤ o.length → foldK (fun k o x => o.set k x) k o xs = o.take k ++ xs ++ o.drop (k + xs.length)
  | [], k, o, h => by simp [foldK]
  | x :: xs, k, o, h => by
    simp only [List.length_cons] at h
    simp only [foldK]
    rw [foldK_set xs (k + 1) (o.set k x) (by simp; omega)]
    have h1 : (o.set k x).take (k + 1) = o.take k ++ [x] := by
      rw [List.take_succ_eq_append_getElem (by simp; omega), List.take_set_of_le (Nat.le_refl _), List.getElem_set_self]
    have h2 : (o.set k x).drop (k + 1 + xs.length) = o.drop (k + (xs.length + 1)) := by
      rw [List.drop_set, if_pos (by omega), show k + 1 + xs.length = k + (xs.length + 1) by omega]
    rw [h1, h2, List.length_cons]
    simp

theorem impl_SealPacket_ok (a : List Int) : impl_SealPacket a = some (sealL a, ()) := by
  unfold impl_SealPacket sealL
  by_cases h8 : a.length ≥ 8
  · rw [dec_true (show ((a.length : Nat) : Int) ≥ 8 by omega), if_pos h8]; rfl
  rw [dec_false (show ¬ ((a.length : Nat) : Int) ≥ 8 by omega), if_neg h8]
  have hz : (((8 : Int) == (8 : Int)) && (decide ((0 : Int) ≤ (8 : Int)) && decide ((8 : Int) ≤ ((lim : Nat) : Int)))) = true := by decide
  rw [hz]
  have hb : Nat.ble a.length (List.length (List.replicate (Int.toNat (8 : Int)) (0 : Int))) = true := by
    rw [Nat.ble_eq]; simp; omega
  rw [hb]
  have hl := (loopF_fold (step := fun x : ((List Int) × (Int × ((List Int) × (Int × (Int × Unit))))) × Unit => impl_SealPacket_7_R x.1.1 x.1.2.1 x.1.2.2.1 x.1.2.2.2.1 x.1.2.2.2.2.1) a sealG
    (fun s i => (((List.append a (List.drop (List.length a) (List.replicate (Int.toNat (8 : Int)) (0 : Int)))), s, a, (a.length : Int), i, ()), ())) (fun s => .inl (((List.append a (List.drop (List.length a) (List.replicate (Int.toNat (8 : Int)) (0 : Int)))), s, ()), ())) (fun _ _ => True)
    (by
      intro k hk s _
      refine ⟨?_, trivial⟩
      simp only [impl_SealPacket_7_R]
      rw [dec_true (show (k : Int) < (a.length : Int) by omega), idx_lt hk]
      rfl) (by
      intro s _
      simp only [impl_SealPacket_7_R]
      rw [dec_false (by omega)]
      rfl) (by omega) 90 trivial).1
  simp only [cond_true, cond_false]
  unfold impl_SealPacket_7_loop
  erw [hl]
  simp only [Option.bind_some, Sum.elim_inl, show ((256 : Int) == 0) = false from rfl, cond_false]
  have hd : List.append a (List.drop (List.length a) (List.replicate (Int.toNat (8 : Int)) (0 : Int))) = a ++ List.replicate (8 - a.length) 0 := by
    show a ++ _ = _
    rw [List.drop_replicate]
    rfl
  rw [hd]
  have hlen : (a ++ List.replicate (8 - a.length) (0 : Int)).length = 8 := by simp; omega
  have h7 : inb (a ++ List.replicate (8 - a.length) (0 : Int)).length 7 = true := by rw [hlen]; rfl
  rw [h7]
  simp only [cond_true, show Int.toNat (7 : Int) = 7 from rfl]
  rw [List.getElem?_eq_getElem (by omega)]
  rfl

theorem spec_SealPacket_ok (a : List Int) : spec_SealPacket a = some (sealL a, ()) := by
  unfold spec_SealPacket sealL
  by_cases h8 : a.length ≥ 8
  · rw [dec_true (show ((a.length : Nat) : Int) ≥ 8 by omega), if_pos h8]; rfl
  rw [dec_false (show ¬ ((a.length : Nat) : Int) ≥ 8 by omega), if_neg h8]
  have hz : (((8 : Int) == (8 : Int)) && (decide ((0 : Int) ≤ (8 : Int)) && decide ((8 : Int) ≤ ((lim : Nat) : Int)))) = true := by decide
  rw [hz]
  have hl := (loopF_fold (step := fun x : ((List Int) × ((List Int) × (Int × (Int × Unit)))) × Unit => spec_SealPacket_6_R x.1.1 x.1.2.1 x.1.2.2.1 x.1.2.2.2.1) a (fun k (p : List Int × Int) x => (p.1.set k x, sealG k p.2 x))
    (fun s i => ((a, s.1, s.2, i, ()), ())) (fun s => .inl ((s.1, s.2, ()), ())) (fun _ s => s.1.length = 8)
    (by
      intro k hk s hs
      refine ⟨?_, by simpa using hs⟩
      simp only [spec_SealPacket_6_R]
      rw [dec_true (show (k : Int) < (a.length : Int) by omega), idx_lt hk, inb_nat, dec_true (show k < s.1.length by omega)]
      simp only [cond_true, Option.bind_some, Int.toNat_natCast, List.getElem?_eq_getElem (show k < s.1.length by omega)]
      rw [Int.mul_comm (IntKind.wrap .i64 ((k : Int) + 1))]
      rfl) (by
      intro s _
      simp only [spec_SealPacket_6_R]
      rw [dec_false (by omega)]
      rfl) (by omega) (List.replicate (Int.toNat (8 : Int)) (0 : Int), 90) (by simp)).1
  rw [foldK_two (fun k (o : List Int) x => o.set k x) sealG, foldK_set _ _ _ (by simp; omega)] at hl
  simp only [cond_true, cond_false]
  unfold spec_SealPacket_6_loop
  erw [hl]
  simp only [Option.bind_some, Sum.elim_inl, show ((256 : Int) == 0) = false from rfl, cond_false, List.take_zero, List.nil_append, Nat.zero_add]
  have hd : a ++ List.drop a.length (List.replicate (Int.toNat (8 : Int)) (0 : Int)) = a ++ List.replicate (8 - a.length) 0 := by
    rw [List.drop_replicate]
    rfl
  rw [hd]
  have hlen : (a ++ List.replicate (8 - a.length) (0 : Int)).length = 8 := by simp; omega
  have h7 : inb (a ++ List.replicate (8 - a.length) (0 : Int)).length 7 = true := by rw [hlen]; rfl
  rw [h7]
  simp only [cond_true, show Int.toNat (7 : Int) = 7 from rfl]
  rw [List.getElem?_eq_getElem (by omega)]
  rfl

def isPacketB (b : List Int) : Bool := ((b.length : Int) == 8) && (strOf (sealL (cutl b 0 7)) == strOf b)
theorem impl_IsPacket_ok (b : List Int) : impl_IsPacket b = some (isPacketB b, ()) := by
  unfold impl_IsPacket isPacketB
  cases h : ((b.length : Int) == 8) with
  | false => rfl
  | true =>
    have h8 : (b.length : Int) = 8 := by simpa using h
    have hc : cutOk (List.length b) (0 : Int) (7 : Int) = true := by simp [cutOk]; omega
    rw [hc, impl_SealPacket_ok]
    rfl
theorem spec_IsPacket_ok (b : List Int) : spec_IsPacket b = some (isPacketB b, ()) := by
  unfold spec_IsPacket isPacketB
  cases h : ((b.length : Int) == 8) with
  | false => rfl
  | true =>
    have h8 : (b.length : Int) = 8 := by simpa using h
    have hc : cutOk (List.length b) (0 : Int) (7 : Int) = true := by simp [cutOk]; omega
    rw [hc, spec_SealPacket_ok]
    rfl

theorem szByteL (a : List Int) : szT (.sl byte) a = a.length := szT_flat (e := byte) rfl a
theorem IsPacket_same (a : List Int) (_ : Rng (.sl byte) a) (_ : szT (.sl byte) a ≤ big20) : ∃ w, spec_IsPacket a = some (w, ()) ∧ impl_IsPacket a = some (w, ()) :=
  ⟨_, spec_IsPacket_ok a, impl_IsPacket_ok a⟩
theorem sealL_len (a : List Int) : (sealL a).length ≤ 8 := by
  unfold sealL
  split
  · simp
  · simp; omega
theorem SealPacket_same (a : List Int) (_ : Rng (.sl byte) a) (_ : szT (.sl byte) a ≤ big20) : ∃ w, spec_SealPacket a = some (w, ()) ∧ impl_SealPacket a = some (w, ()) ∧ szT (.sl byte) w ≤ big20 :=
  ⟨_, spec_SealPacket_ok a, impl_SealPacket_ok a, by rw [szByteL]; have := sealL_len a; show _ ≤ 1048576; omega⟩
end KF

namespace KF
open Go
/-- n rounds -/
def iter {S : Type} (g : Nat → S → S) : Nat → S → S
  | 0, s => s
  | n + 1, s => g n (iter g n s)
theorem loopF_count {X R S : Type} {step : X → Option (X ⊕ R)} (n : Nat) (hn : n < 9223372036854775807) (g : Nat → S → S) (s0 : S) (I : S → Int → X) (out : S → R)
    (h : ∀ k, k < n → step (I (iter g k s0) (k : Int)) = some (.inl (I (g k (iter g k s0)) (IntKind.wrap .i64 ((k : Int) + 1))))) (he : step (I (iter g n s0) (n : Int)) = some (.inr (out (iter g n s0)))) :
    loopF step (I s0 0) = some (out (iter g n s0)) := by
  have := loopF_run (step := step) (fun k => I (iter g k s0) (k : Int)) n (out (iter g n s0)) (fun k hk => by
    rw [h k hk, wrap_succ (by omega)]; rfl) he
  exact this
theorem iter_inv {S : Type} {g : Nat → S → S} {p : Nat → S → Prop} {s0 : S} (h0 : p 0 s0) (hs : ∀ k s, p k s → p (k + 1) (g k s)) : ∀ n, p n (iter g n s0)
  | 0 => h0
  | n + 1 => hs n _ (iter_inv h0 hs n)
theorem sz_le {e : Ty} {c : Nat} : ∀ {w : List (T e)}, (∀ x ∈ w, szT e x ≤ c) → szT (.sl e) w ≤ (c + 1) * w.length
  | [], _ => by simp [szT]
  | x :: r, h => by
    have h1 := h x (by simp)
    have h2 : szT (.sl e) r ≤ (c + 1) * r.length := sz_le fun y hy => h y (by simp [hy])
    have h3 : szT (.sl e) r = List.length r + (List.map (szT e) r).sum := rfl
    have h4 : szT (.sl e) (x :: r) = (List.length r + 1) + (szT e x + (List.map (szT e) r).sum) := by simp [szT]
    rw [h4, List.length_cons, Nat.mul_add]
    omega
theorem lim_ok {n : Nat} (h : n ≤ 1073741824) : Nat.ble n lim = true := Nat.ble_eq_true_of_le h

def readP (i k : Nat) : List Int := sealL [2, IntKind.wrap .u8 (i : Int), IntKind.wrap .u8 (k : Int)]
def readI (n i : Nat) (o : List (List Int)) : List (List Int) := iter (fun k o => List.append o [readP i k]) n o
def readO (n l : Nat) : List (List Int) := iter (fun i o => readI n i o) l []
def small (c : Nat) (o : List (List Int)) : Prop := List.length o = c ∧ ∀ x ∈ o, List.length x ≤ 8
theorem small_snoc {c i k : Nat} {o : List (List Int)} (h : small c o) : small (c + 1) (List.append o [readP i k]) := by
  refine ⟨by simp [h.1], fun x hx => ?_⟩
  rcases List.mem_append.1 hx with hx | hx
  · exact h.2 x hx
  · simp only [List.mem_singleton] at hx
    subst hx
    exact sealL_len _
theorem readI_small {n i c : Nat} {o : List (List Int)} (h : small c o) : small (c + n) (readI n i o) :=
  iter_inv (p := fun k o => small (c + k) o) h (fun k s hs => by rw [← Nat.add_assoc]; exact small_snoc hs) n
theorem readO_small (n : Nat) : ∀ l, small (l * n) (readO n l) :=
  iter_inv (p := fun l o => small (l * n) o) ⟨by simp, by simp⟩ (fun k s hs => by rw [Nat.succ_mul]; exact readI_small hs)
theorem spec_read_in {n i c : Nat} (l : Int) {o : List (List Int)} (hn : n ≤ 32) (ho : small c o) (hc : c ≤ 1000) :
    spec_ReadScript_6_loop (((n : Int), l, o, (i : Int), 0, ()), ()) = some (.inl (((n : Int), l, readI n i o, (i : Int), ()), ())) := by
  unfold spec_ReadScript_6_loop
  have := loopF_count (step := fun x : (Int × Int × List (List Int) × Int × Int × Unit) × Unit => spec_ReadScript_6_R x.1.1 x.1.2.1 x.1.2.2.1 x.1.2.2.2.1 x.1.2.2.2.2.1) n (by omega) (fun k o => List.append o [readP i k]) o
    (fun o k => (((n : Int), l, o, (i : Int), k, ()), ())) (fun o => .inl (((n : Int), l, o, (i : Int), ()), ())) (fun k hk => by
      have hs : small (c + k) (readI k i o) := readI_small ho
      have hs1 := hs.1
      simp only [spec_ReadScript_6_R]
      rw [dec_true (by omega), spec_SealPacket_ok]
      simp only [cond_true, Option.bind_some]
      rw [lim_ok (by
        show List.length (readI k i o) + 1 ≤ _
        omega)]
      rfl) (by
      simp only [spec_ReadScript_6_R]
      rw [dec_false (by omega)]
      rfl)
  exact this
theorem impl_read_in {n i c : Nat} (l : Int) {o : List (List Int)} (hn : n ≤ 32) (ho : small c o) (hc : c ≤ 1000) :
    impl_ReadScript_8_loop (((n : Int), o, (i : Int), l, (i : Int), (n : Int), 0, ()), ()) = some (.inl (((n : Int), readI n i o, l, (i : Int), ()), ())) := by
  unfold impl_ReadScript_8_loop
  have := loopF_count (step := fun x : (Int × List (List Int) × Int × Int × Int × Int × Int × Unit) × Unit => impl_ReadScript_8_R x.1.1 x.1.2.1 x.1.2.2.1 x.1.2.2.2.1 x.1.2.2.2.2.1 x.1.2.2.2.2.2.1 x.1.2.2.2.2.2.2.1) n (by omega) (fun k o => List.append o [readP i k]) o
    (fun o k => (((n : Int), o, (i : Int), l, (i : Int), (n : Int), k, ()), ())) (fun o => .inl (((n : Int), o, l, (i : Int), ()), ())) (fun k hk => by
      have hs : small (c + k) (readI k i o) := readI_small ho
      have hs1 := hs.1
      simp only [impl_ReadScript_8_R]
      rw [dec_true (by omega), impl_SealPacket_ok]
      simp only [cond_true, Option.bind_some]
      rw [lim_ok (by
        show List.length (readI k i o) + 1 ≤ _
        omega)]
      rfl) (by
      simp only [impl_ReadScript_8_R]
      rw [dec_false (by omega)]
      rfl)
  exact this
theorem mul_small {l n : Nat} (hl : l ≤ 4) (hn : n ≤ 32) : l * n ≤ 128 := Nat.le_trans (Nat.mul_le_mul hl hn) (by omega)
def readF' (n l : Int) : List (List Int) := cond (decide (1 ≤ n ∧ n ≤ 32 ∧ 1 ≤ l ∧ l ≤ 4)) (readO n.toNat l.toNat) []
theorem impl_ReadScript_ok (n l : Int) : impl_ReadScript n l = some (readF' n l, ()) := by
  unfold impl_ReadScript readF'
  by_cases h : 1 ≤ n ∧ n ≤ 32 ∧ 1 ≤ l ∧ l ≤ 4
  case neg =>
    rw [dec_false h]
    by_cases h1 : n < 1
    · rw [dec_true h1]; rfl
    by_cases h2 : n > 32
    · rw [dec_false h1, dec_true h2]; rfl
    by_cases h3 : l < 1
    · rw [dec_false h1, dec_false h2, dec_true h3]; rfl
    · rw [dec_false h1, dec_false h2, dec_false h3, dec_true (by omega)]; rfl
  rw [dec_true h, dec_false (by omega), dec_false (by omega), dec_false (by omega), dec_false (by omega)]
  simp only [cond_true, cond_false]
  obtain ⟨n, rfl⟩ := Int.eq_ofNat_of_zero_le (show 0 ≤ n by omega)
  obtain ⟨l, rfl⟩ := Int.eq_ofNat_of_zero_le (show 0 ≤ l by omega)
  have hl := loopF_count (step := fun x : (Int × List (List Int) × Int × Int × Unit) × Unit => impl_ReadScript_5_R x.1.1 x.1.2.1 x.1.2.2.1 x.1.2.2.2.1) l (by omega) (fun i o => readI n i o) []
    (fun o k => (((n : Int), o, (l : Int), k, ()), ())) (fun o => .inl ((o, ()), ())) (fun k hk => by
      have hs : small (k * n) (readO n k) := readO_small n k
      simp only [impl_ReadScript_5_R]
      rw [dec_true (by omega)]
      simp only [cond_true]
      have hin := impl_read_in (i := k) (l : Int) (show n ≤ 32 by omega) hs (by have := mul_small (show k ≤ 4 by omega) (show n ≤ 32 by omega); omega)
      show Option.bind (impl_ReadScript_8_loop (((n : Int), readO n k, (k : Int), (l : Int), (k : Int), (n : Int), 0, ()), ())) _ = _
      rw [hin]
      rfl) (by
      simp only [impl_ReadScript_5_R]
      rw [dec_false (by omega)]
      rfl)
  unfold impl_ReadScript_5_loop
  erw [hl]
  rfl
theorem spec_ReadScript_ok (n l : Int) : spec_ReadScript n l = some (readF' n l, ()) := by
  unfold spec_ReadScript readF'
  by_cases h : 1 ≤ n ∧ n ≤ 32 ∧ 1 ≤ l ∧ l ≤ 4
  case neg =>
    rw [dec_false h]
    have : spec_ReadScript_3_R n l [] 0 = some (.inr (.inl (([], ()), ()))) := by
      simp only [spec_ReadScript_3_R, spec_l1In_ok, Option.bind_some]
      by_cases h1 : 0 < l
      · rw [dec_true h1]
        by_cases h2 : 1 ≤ n ∧ n ≤ 32
        · rw [dec_true h2, dec_false (by omega)]; rfl
        · rw [dec_false h2]; rfl
      · rw [dec_false h1]; rfl
    unfold spec_ReadScript_3_loop
    rw [loopF_of this]
    rfl
  rw [dec_true h]
  simp only [cond_true]
  obtain ⟨n, rfl⟩ := Int.eq_ofNat_of_zero_le (show 0 ≤ n by omega)
  obtain ⟨l, rfl⟩ := Int.eq_ofNat_of_zero_le (show 0 ≤ l by omega)
  have hl := loopF_count (step := fun x : (Int × Int × List (List Int) × Int × Unit) × Unit => spec_ReadScript_3_R x.1.1 x.1.2.1 x.1.2.2.1 x.1.2.2.2.1) l (by omega) (fun i o => readI n i o) []
    (fun o k => (((n : Int), (l : Int), o, k, ()), ())) (fun o => .inl ((o, ()), ())) (fun k hk => by
      have hs : small (k * n) (readO n k) := readO_small n k
      simp only [spec_ReadScript_3_R, spec_l1In_ok, Option.bind_some]
      rw [dec_true (show (k : Int) < (l : Int) by omega), dec_true (show 1 ≤ (n : Int) ∧ (n : Int) ≤ 32 by omega), dec_true (show (l : Int) ≤ 4 by omega)]
      simp only [cond_true]
      have hin := spec_read_in (i := k) (l : Int) (show n ≤ 32 by omega) hs (by have := mul_small (show k ≤ 4 by omega) (show n ≤ 32 by omega); omega)
      show Option.bind (spec_ReadScript_6_loop (((n : Int), (l : Int), readO n k, (k : Int), 0, ()), ())) _ = _
      rw [hin]
      rfl) (by
      simp only [spec_ReadScript_3_R]
      rw [dec_false (by omega)]
      rfl)
  unfold spec_ReadScript_3_loop
  erw [hl]
  rfl
theorem ReadScript_same (n l : Int) (_ : Rng int n) (_ : Rng int l) : ∃ w, spec_ReadScript n l = some (w, ()) ∧ impl_ReadScript n l = some (w, ()) ∧ szT (.sl (.sl byte)) w ≤ big20 := by
  refine ⟨_, spec_ReadScript_ok n l, impl_ReadScript_ok n l, ?_⟩
  unfold readF'
  by_cases h : 1 ≤ n ∧ n ≤ 32 ∧ 1 ≤ l ∧ l ≤ 4
  case neg => rw [dec_false h]; simp [szT]
  rw [dec_true h]
  have hs := readO_small n.toNat l.toNat
  have := sz_le (e := .sl byte) (c := 8) (w := readO n.toNat l.toNat) fun x hx => by rw [szByteL]; exact hs.2 x hx
  have hm := mul_small (show l.toNat ≤ 4 by omega) (show n.toNat ≤ 32 by omega)
  rw [hs.1] at this
  have h20 : big20 = 1048576 := rfl
  show szT (.sl (.sl byte)) (readO n.toNat l.toNat) ≤ big20
  omega
end KF

namespace KF
open Go
theorem foldK_snoc {α β : Type} (f : α → β) : ∀ (xs : List α) (k : Nat) (o : List β), foldK (fun _ o x => List.append o [f x]) k o xs = o ++ xs.map f
  | [], _, o => by simp [foldK]
  | x :: r, k, o => by
    simp only [foldK]
    rw [foldK_snoc f r]
    simp
/-- a loop that lays f of each element behind the others -/
theorem loopF_map {X R α β : Type} {step : X → Option (X ⊕ R)} (xs : List α) (f : α → β) (I : List β → Int → X) (out : List β → R) (hn : xs.length ≤ 1073741824)
    (h : ∀ k (hk : k < xs.length) (o : List β), List.length o = k → step (I o (k : Int)) = some (.inl (I (List.append o [f xs[k]]) (IntKind.wrap .i64 ((k : Int) + 1)))))
    (he : ∀ o : List β, step (I o (xs.length : Int)) = some (.inr (out o))) : loopF step (I [] 0) = some (out (xs.map f)) := by
  have := (loopF_fold (step := step) xs (fun _ o x => List.append o [f x]) I out (fun k o => List.length o = k) (fun k hk o ho => ⟨h k hk o ho, by simp [ho]⟩) (fun o _ => he o) (by omega) [] rfl).1
  rw [this, foldK_snoc]
  rfl
theorem szInts (a : List Int) : szT (.sl int) a = a.length := szT_flat (e := int) rfl a
theorem szActs (a : List TAction) : szT (.sl tAction) a = a.length := szT_flat (e := tAction) rfl a
theorem szReport (r : TReport) : szT tReport r = r.2.1.length := by
  show 0 + (szT (.sl int) r.2.1 + 0) = _
  rw [szInts]; omega
theorem spec_l7Copy_ok (r : TReport) (h : r.2.1.length ≤ big20) : spec_l7Copy r = some (r, ()) := by
  have h20 : big20 = 1048576 := rfl
  unfold spec_l7Copy
  rw [lim_ok (by simp; omega)]
  rfl
theorem impl_copyInts_ok (l : List Int) (h : l.length ≤ big20) : impl_copyInts l = some (l, ()) := by
  have h20 : big20 = 1048576 := rfl
  unfold impl_copyInts
  rw [lim_ok (by simp; omega)]
  rfl
theorem impl_copyReport_ok (r : TReport) (h : r.2.1.length ≤ big20) : impl_copyReport r = some (r, ()) := by
  unfold impl_copyReport
  rw [impl_copyInts_ok _ h]
  rfl
theorem sent_len {a : List TSent} (hz : szT (.sl tSent) a ≤ big20) {k : Nat} (hk : k < a.length) : a[k].2.1.2.1.length ≤ big20 := by
  have h1 : szT (.sl tSent) a = List.length a + (List.map (szT tSent) a).sum := rfl
  have h2 := sum_map_le (f := szT tSent) hk
  have h3 : szT tSent a[k] = szT tReport a[k].2.1 := by
    show 0 + (szT tReport a[k].2.1 + 0) = _
    omega
  rw [szReport] at h3
  omega
theorem impl_ReportsOf_ok (a : List TSent) (hz : szT (.sl tSent) a ≤ big20) : impl_ReportsOf a = some (a.map (fun x => x.2.1), ()) := by
  have h20 : big20 = 1048576 := rfl
  have h1 : szT (.sl tSent) a = List.length a + (List.map (szT tSent) a).sum := rfl
  have hl := loopF_map (step := fun x : (List TReport × List TSent × Int × Int × Unit) × Unit => impl_ReportsOf_3_R x.1.1 x.1.2.1 x.1.2.2.1 x.1.2.2.2.1) a (fun x => x.2.1)
    (fun o k => ((o, a, (a.length : Int), k, ()), ())) (fun o => .inl ((o, ()), ())) (by omega) (fun k hk o ho => by
      simp only [impl_ReportsOf_3_R]
      rw [dec_true (by omega), idx_lt hk]
      simp only [cond_true, Option.bind_some]
      rw [impl_copyReport_ok _ (sent_len hz hk)]
      simp only [Option.bind_some]
      rw [lim_ok (by simp only [List.length_cons, List.length_nil]; omega)]
      rfl) (fun o => by
      simp only [impl_ReportsOf_3_R]
      rw [dec_false (by omega)]
      rfl)
  unfold impl_ReportsOf impl_ReportsOf_3_loop
  erw [hl]
  rfl
theorem spec_ReportsOf_ok (a : List TSent) (hz : szT (.sl tSent) a ≤ big20) : spec_ReportsOf a = some (a.map (fun x => x.2.1), ()) := by
  have h20 : big20 = 1048576 := rfl
  have h1 : szT (.sl tSent) a = List.length a + (List.map (szT tSent) a).sum := rfl
  have hl := loopF_map (step := fun x : (List TSent × List TReport × Int × Unit) × Unit => spec_ReportsOf_3_R x.1.1 x.1.2.1 x.1.2.2.1) a (fun x => x.2.1)
    (fun o k => ((a, o, k, ()), ())) (fun o => .inl ((o, ()), ())) (by omega) (fun k hk o ho => by
      simp only [spec_ReportsOf_3_R]
      rw [dec_true (by omega), idx_lt hk]
      simp only [cond_true, Option.bind_some]
      rw [spec_l7Copy_ok _ (sent_len hz hk)]
      simp only [Option.bind_some]
      rw [lim_ok (by simp only [List.length_cons, List.length_nil]; omega)]
      rfl) (fun o => by
      simp only [spec_ReportsOf_3_R]
      rw [dec_false (by omega)]
      rfl)
  unfold spec_ReportsOf spec_ReportsOf_3_loop
  erw [hl]
  rfl
theorem ReportsOf_same (a : List TSent) (_ : Rng (.sl tSent) a) (hz : szT (.sl tSent) a ≤ big20) : ∃ w, spec_ReportsOf a = some (w, ()) ∧ impl_ReportsOf a = some (w, ()) ∧ szT (.sl tReport) w ≤ big20 := by
  refine ⟨_, spec_ReportsOf_ok a hz, impl_ReportsOf_ok a hz, ?_⟩
  have h : ∀ l : List TSent, szT (.sl tReport) (l.map (fun x => x.2.1)) = szT (.sl tSent) l := by
    intro l
    show List.length (l.map _) + (List.map (szT tReport) (l.map (fun x : TSent => x.2.1))).sum = List.length l + (List.map (szT tSent) l).sum
    rw [List.length_map, List.map_map]
    congr 2
    refine List.map_congr_left fun x _ => ?_
    show szT tReport x.2.1 = 0 + (szT tReport x.2.1 + 0)
    omega
  show szT (.sl tReport) (a.map _) ≤ big20
  rw [h]
  exact hz
end KF

namespace KF
open Go
set_option linter.unusedSimpArgs false
set_option linter.unusedVariables false

/-! ### Reports, sessions -/
def repOkB (l : List Int) (k : Nat) (x : Int) : Bool := decide (1 ≤ x ∧ x ≤ 56) && (decide (k = 0) || !decide (l.getD (k - 1) 0 ≥ x))
def isReportB (r : TReport) : Bool := decide (0 ≤ r.1 ∧ r.1 ≤ 15) && allK (fun k x => repOkB r.2.1 k x) 0 r.2.1
theorem prev_idx {l : List Int} {k : Nat} (h0 : 0 < k) (hk : k ≤ l.length) (hn : l.length ≤ big20) : idx l (IntKind.wrap .i64 ((k : Int) - 1)) = some (l.getD (k - 1) 0) := by
  have h20 : big20 = 1048576 := rfl
  rw [wrap64 (by omega) (by omega), show (k : Int) - 1 = ((k - 1 : Nat) : Int) by omega, idx_lt (by omega)]
  simp [List.getD, List.getElem?_eq_getElem (show k - 1 < l.length by omega)]
theorem impl_IsReport_ok (r : TReport) (hn : r.2.1.length ≤ big20) : impl_IsReport r = some (isReportB r, ()) := by
  have h20 : big20 = 1048576 := rfl
  have hl := loopF_all (step := fun x => impl_IsReport_4_R x.1.1 x.1.2.1 x.1.2.2.1 x.1.2.2.2.1 x.2.1) r.2.1 (fun k x => repOkB r.2.1 k x) (fun i => (((), r.2.1, ((List.length r.2.1 : Nat) : Int), i, ()), (r, ())))
    (.inl ((), ())) (.inr ((false, ()), ())) (by
      intro k hk
      simp only [impl_IsReport_4_R]
      rw [dec_true (show (k : Int) < ((List.length r.2.1 : Nat) : Int) by omega), idx_lt hk]
      simp only [cond_true, Option.bind_some, impl_isCode_ok, repOkB]
      by_cases h0 : k = 0
      · subst h0
        rw [dec_false (show ¬ ((0 : Nat) : Int) > 0 by omega)]
        simp only [cond_false]
        cases decide (1 ≤ r.2.1[0] ∧ r.2.1[0] ≤ 56) <;> rfl
      · rw [dec_true (show (k : Int) > 0 by omega), prev_idx (by omega) (by omega) hn, dec_false h0]
        simp only [cond_true, Option.bind_some, Bool.false_or]
        cases decide (1 ≤ r.2.1[k] ∧ r.2.1[k] ≤ 56) <;> cases decide (r.2.1.getD (k - 1) 0 ≥ r.2.1[k]) <;> rfl) (by
      simp only [impl_IsReport_4_R]
      rw [dec_false (by omega)]; rfl) (by omega)
  unfold impl_IsReport impl_IsReport_4_loop isReportB
  by_cases h1 : 0 ≤ r.1 ∧ r.1 ≤ 15
  · rw [dec_false (show ¬ r.1 < 0 by omega), dec_false (show ¬ r.1 > 15 by omega), dec_true h1]
    simp only [cond_false, Bool.true_and]
    erw [hl]
    cases allK (fun k x => repOkB r.2.1 k x) 0 r.2.1 <;> rfl
  · rw [dec_false h1]
    by_cases h2 : r.1 < 0
    · rw [dec_true h2]; rfl
    · rw [dec_false h2, dec_true (show r.1 > 15 by omega)]; rfl
theorem spec_IsReport_ok (r : TReport) (hn : r.2.1.length ≤ big20) : spec_IsReport r = some (isReportB r, ()) := by
  have h20 : big20 = 1048576 := rfl
  have hl := loopF_all (step := fun x => spec_IsReport_2_R x.1.1 x.1.2.1 x.2.1) r.2.1 (fun k x => repOkB r.2.1 k x) (fun i => (((), i, ()), (r, ())))
    (.inl (((), ()), (r, ()))) (.inr ((false, ()), ())) (by
      intro k hk
      simp only [spec_IsReport_2_R]
      rw [dec_true (show (k : Int) < ((List.length r.2.1 : Nat) : Int) by omega), idx_lt hk]
      simp only [cond_true, Option.bind_some, spec_l1In_ok, repOkB]
      by_cases h0 : k = 0
      · subst h0
        rw [dec_false (show ¬ ((0 : Nat) : Int) > 0 by omega)]
        simp only [cond_false]
        cases decide (1 ≤ r.2.1[0] ∧ r.2.1[0] ≤ 56) <;> rfl
      · rw [dec_true (show (k : Int) > 0 by omega), prev_idx (by omega) (by omega) hn, dec_false h0]
        simp only [cond_true, Option.bind_some, Bool.false_or]
        cases decide (1 ≤ r.2.1[k] ∧ r.2.1[k] ≤ 56) <;> cases decide (r.2.1.getD (k - 1) 0 ≥ r.2.1[k]) <;> rfl) (by
      simp only [spec_IsReport_2_R]
      rw [dec_false (by omega)]; rfl) (by omega)
  unfold spec_IsReport spec_IsReport_2_loop isReportB
  erw [hl]
  cases allK (fun k x => repOkB r.2.1 k x) 0 r.2.1 with
  | true => simp only [cond_true, Option.bind_some, Sum.elim_inl, spec_l1In_ok, Bool.and_true]
  | false => cases decide (0 ≤ r.1 ∧ r.1 ≤ 15) <;> rfl

def sentOkB (x : TSent) : Bool := decide (0 ≤ x.1 ∧ x.1 ≤ 1000000) && isReportB x.2.1
noncomputable def isSessionB (s : TSession) : Bool := isDeciderB s.1 && (decide (s.2.1.length ≤ 200) && allK (fun _ x => sentOkB x) 0 s.2.1)
theorem ses_sz (s : TSession) : szT tSession s = szT tDecider s.1 + szT (.sl tSent) s.2.1 := by
  simp only [szT, Nat.add_zero, Nat.zero_add]
theorem IsSession_same (s : TSession) (_ : Rng tSession s) (hz : szT tSession s ≤ big20) : ∃ w, spec_IsSession s = some (w, ()) ∧ impl_IsSession s = some (w, ()) := by
  have h20 : big20 = 1048576 := rfl
  rw [ses_sz] at hz
  have hlen := szL_len (e := tSent) s.2.1
  have hrep : ∀ k (hk : k < s.2.1.length), s.2.1[k].2.1.2.1.length ≤ big20 := fun k hk => sent_len (by omega) hk
  have hs := loopF_all (step := fun x => spec_IsSession_2_R x.1.1 x.1.2.1 x.2.1) s.2.1 (fun _ x => sentOkB x) (fun i => (((), i, ()), (s, ())))
    (.inl (((), ()), (s, ()))) (.inr ((false, ()), ())) (by
      intro k hk
      simp only [spec_IsSession_2_R]
      rw [dec_true (show (k : Int) < ((List.length s.2.1 : Nat) : Int) by omega), idx_lt hk]
      simp only [cond_true, Option.bind_some, spec_l1In_ok, sentOkB]
      rw [spec_IsReport_ok _ (hrep k hk)]
      simp only [Option.bind_some]
      cases decide (0 ≤ s.2.1[k].1 ∧ s.2.1[k].1 ≤ 1000000) <;> cases isReportB s.2.1[k].2.1 <;> rfl) (by
      simp only [spec_IsSession_2_R]
      rw [dec_false (by omega)]; rfl) (by omega)
  have hi := loopF_all (step := fun x => impl_IsSession_4_R x.1.1 x.1.2.1 x.1.2.2.1) s.2.1 (fun _ x => sentOkB x) (fun i => ((s.2.1, ((List.length s.2.1 : Nat) : Int), i, ()), ()))
    (.inl ((), ())) (.inr ((false, ()), ())) (by
      intro k hk
      simp only [impl_IsSession_4_R]
      rw [dec_true (show (k : Int) < ((List.length s.2.1 : Nat) : Int) by omega), idx_lt hk]
      simp only [cond_true, Option.bind_some, sentOkB]
      rw [impl_IsReport_ok _ (hrep k hk)]
      simp only [Option.bind_some]
      by_cases h1 : 0 ≤ s.2.1[k].1 ∧ s.2.1[k].1 ≤ 1000000
      · rw [dec_false (show ¬ s.2.1[k].1 < 0 by omega), dec_false (show ¬ s.2.1[k].1 > 1000000 by omega), dec_true h1]
        cases isReportB s.2.1[k].2.1 <;> rfl
      · rw [dec_false h1]
        by_cases h2 : s.2.1[k].1 < 0
        · rw [dec_true h2]; rfl
        · rw [dec_false h2, dec_true (show s.2.1[k].1 > 1000000 by omega)]; rfl) (by
      simp only [impl_IsSession_4_R]
      rw [dec_false (by omega)]; rfl) (by omega)
  refine ⟨isSessionB s, ?_, ?_⟩
  · unfold spec_IsSession spec_IsSession_2_loop isSessionB
    erw [hs]
    cases allK (fun _ x => sentOkB x) 0 s.2.1 with
    | false => cases isDeciderB s.1 <;> cases decide (s.2.1.length ≤ 200) <;> rfl
    | true =>
      simp only [cond_true, Option.bind_some, Sum.elim_inl]
      rw [spec_IsDecider_ok _ (by omega)]
      simp only [Option.bind_some, Bool.and_true]
      have e1 : decide (((List.length s.2.1 : Nat) : Int) ≤ 200) = decide (s.2.1.length ≤ 200) := by rw [decide_eq_decide]; omega
      rw [e1]
      cases isDeciderB s.1 <;> rfl
  · unfold impl_IsSession impl_IsSession_4_loop isSessionB
    rw [impl_IsDecider_ok _ (by omega)]
    cases isDeciderB s.1 with
    | false => rfl
    | true =>
      simp only [Option.bind_some, Bool.not_true, cond_false, Bool.true_and]
      by_cases h1 : s.2.1.length ≤ 200
      · rw [dec_false (show ¬ ((List.length s.2.1 : Nat) : Int) > 200 by omega), dec_true h1]
        simp only [cond_false, Bool.true_and]
        erw [hi]
        cases allK (fun _ x => sentOkB x) 0 s.2.1 <;> rfl
      · rw [dec_true (show ((List.length s.2.1 : Nat) : Int) > 200 by omega), dec_false h1]; rfl
end KF

namespace KF
open Go
set_option linter.unusedSimpArgs false
set_option linter.unusedVariables false

/-! ### Bits of numbers that are not negative -/
theorem p63 : (2 : Nat) ^ 63 = 9223372036854775808 := rfl
theorem bv_nat {a : Nat} (ha : a < 2 ^ 63) : (BitVec.ofInt 64 (a : Int)).toNat = a := by
  rw [BitVec.ofInt_natCast, BitVec.toNat_ofNat, Nat.mod_eq_of_lt (by omega)]
theorem iand_nat {a b : Nat} (ha : a < 2 ^ 63) (hb : b < 2 ^ 63) : iand .i64 (a : Int) (b : Int) = ((a &&& b : Nat) : Int) := by
  have h : (BitVec.ofInt (IntKind.bits .i64) (a : Int) &&& BitVec.ofInt (IntKind.bits .i64) (b : Int)).toNat = a &&& b := by
    rw [BitVec.toNat_and]; erw [bv_nat ha, bv_nat hb]
  unfold iand
  rw [h]
  have h2 : a &&& b ≤ a := Nat.and_le_left
  have h3 := p63
  exact wrap64 (by omega) (by omega)
theorem ior_nat {a b : Nat} (ha : a < 2 ^ 63) (hb : b < 2 ^ 63) : ior .i64 (a : Int) (b : Int) = ((a ||| b : Nat) : Int) := by
  have h : (BitVec.ofInt (IntKind.bits .i64) (a : Int) ||| BitVec.ofInt (IntKind.bits .i64) (b : Int)).toNat = a ||| b := by
    rw [BitVec.toNat_or]; erw [bv_nat ha, bv_nat hb]
  unfold ior
  rw [h]
  have h2 : a ||| b < 2 ^ 63 := Nat.or_lt_two_pow ha hb
  have h3 := p63
  exact wrap64 (by omega) (by omega)
theorem ixor_nat {a b : Nat} (ha : a < 2 ^ 63) (hb : b < 2 ^ 63) : ixor .i64 (a : Int) (b : Int) = ((a ^^^ b : Nat) : Int) := by
  have h : (BitVec.ofInt (IntKind.bits .i64) (a : Int) ^^^ BitVec.ofInt (IntKind.bits .i64) (b : Int)).toNat = a ^^^ b := by
    rw [BitVec.toNat_xor]; erw [bv_nat ha, bv_nat hb]
  unfold ixor
  rw [h]
  have h2 : a ^^^ b < 2 ^ 63 := Nat.xor_lt_two_pow ha hb
  have h3 := p63
  exact wrap64 (by omega) (by omega)
theorem bv_andn {w : Nat} (x y : BitVec w) : x &&& ~~~y = x ^^^ (x &&& y) := by
  ext i hi
  simp only [BitVec.getElem_and, BitVec.getElem_not, BitVec.getElem_xor]
  cases x[i] <;> cases y[i] <;> rfl
theorem iandn_nat {a b : Nat} (ha : a < 2 ^ 63) (hb : b < 2 ^ 63) : iandn .i64 (a : Int) (b : Int) = ((a ^^^ (a &&& b) : Nat) : Int) := by
  have h : (BitVec.ofInt (IntKind.bits .i64) (a : Int) &&& ~~~ BitVec.ofInt (IntKind.bits .i64) (b : Int)).toNat = a ^^^ (a &&& b) := by
    rw [bv_andn, BitVec.toNat_xor, BitVec.toNat_and]; erw [bv_nat ha, bv_nat hb]
  unfold iandn
  rw [h]
  have h1 : a &&& b ≤ a := Nat.and_le_left
  have h2 : a ^^^ (a &&& b) < 2 ^ 63 := Nat.xor_lt_two_pow ha (by omega)
  have h3 := p63
  exact wrap64 (by omega) (by omega)
theorem ishr_nat (a : Nat) {k : Nat} (hk : k ≤ 64) : ishr .i64 (a : Int) (k : Int) = ((a >>> k : Nat) : Int) := by
  unfold ishr
  have h1 : min (Int.toNat (k : Int)) (IntKind.bits .i64) = k := by
    show min (Int.toNat (k : Int)) 64 = k
    rw [Int.toNat_natCast]; omega
  rw [h1, Nat.shiftRight_eq_div_pow]
  have h2 : (2 : Int) ^ k = ((2 ^ k : Nat) : Int) := by simp
  rw [h2]
  exact (Int.fdiv_eq_ediv_of_nonneg _ (Int.natCast_nonneg _)).trans (by simp)
theorem ishl_nat {a k : Nat} (h : a * 2 ^ k < 2 ^ 63) (hk : k ≤ 64) : ishl .i64 (a : Int) (k : Int) = ((a <<< k : Nat) : Int) := by
  unfold ishl
  have h1 : min (Int.toNat (k : Int)) (IntKind.bits .i64) = k := by
    show min (Int.toNat (k : Int)) 64 = k
    rw [Int.toNat_natCast]; omega
  have h2 : (2 : Int) ^ k = ((2 ^ k : Nat) : Int) := by simp
  have h4 : (a : Int) * ((2 ^ k : Nat) : Int) = ((a * 2 ^ k : Nat) : Int) := by simp
  rw [h1, Nat.shiftLeft_eq, h2, h4]
  have h3 := p63
  generalize a * 2 ^ k = z at *
  exact wrap64 (by omega) (by omega)
theorem bitI_nat {a k : Nat} (ha : a < 2 ^ 63) (hk : k ≤ 64) : (bitI (a : Int) (k : Int) == 1) = a.testBit k := by
  unfold bitI
  have h1 : a >>> k ≤ a := by rw [Nat.shiftRight_eq_div_pow]; exact Nat.div_le_self _ _
  have h3 := p63
  rw [ishr_nat a hk]
  show (iand .i64 ((a >>> k : Nat) : Int) ((1 : Nat) : Int) == 1) = _
  rw [iand_nat (by omega) (by omega), Nat.and_one_is_mod, Nat.testBit_eq_decide_div_mod_eq, Nat.shiftRight_eq_div_pow]
  have : a / 2 ^ k % 2 = 0 ∨ a / 2 ^ k % 2 = 1 := by omega
  rcases this with h | h <;> rw [h] <;> rfl
theorem one_lt {k : Nat} (hk : k ≤ 62) : (2 : Nat) ^ k < 2 ^ 63 := Nat.pow_lt_pow_right (by omega) (by omega)
/-- a bit that is not set: set or turned, it is the same -/
theorem or_xor {a k : Nat} (ha : a < 2 ^ 63) (hk : k ≤ 62) (h : (bitI (a : Int) (k : Int) == 1) = false) :
    ior .i64 (a : Int) (ishl .i64 1 (k : Int)) = ixor .i64 (a : Int) (ishl .i64 1 (k : Int)) := by
  rw [bitI_nat ha (by omega)] at h
  rw [shl_one (by omega), ior_nat ha (one_lt hk), ixor_nat ha (one_lt hk)]
  congr 1
  apply Nat.eq_of_testBit_eq
  intro i
  rw [Nat.testBit_or, Nat.testBit_xor, Nat.testBit_two_pow]
  by_cases hi : k = i
  · subst hi; rw [h, dec_true rfl]; rfl
  · rw [dec_false hi]; cases a.testBit i <;> rfl
/-- a bit that is set: struck or turned, it is the same -/
theorem andn_xor {a k : Nat} (ha : a < 2 ^ 63) (hk : k ≤ 62) (h : (bitI (a : Int) (k : Int) == 1) = true) :
    iandn .i64 (a : Int) (ishl .i64 1 (k : Int)) = ixor .i64 (a : Int) (ishl .i64 1 (k : Int)) := by
  rw [bitI_nat ha (by omega)] at h
  rw [shl_one (by omega), iandn_nat ha (one_lt hk), ixor_nat ha (one_lt hk)]
  congr 1
  apply Nat.eq_of_testBit_eq
  intro i
  rw [Nat.testBit_xor, Nat.testBit_xor, Nat.testBit_and, Nat.testBit_two_pow]
  by_cases hi : k = i
  · subst hi; rw [h, dec_true rfl]; rfl
  · rw [dec_false hi]; cases a.testBit i <;> rfl
theorem xor_one_nat {a k : Nat} (ha : a < 2 ^ 63) (hk : k ≤ 62) : ∃ b : Nat, ixor .i64 (a : Int) (ishl .i64 1 (k : Int)) = (b : Int) ∧ b < 2 ^ 63 := by
  rw [shl_one (by omega), ixor_nat ha (one_lt hk)]
  exact ⟨_, rfl, Nat.xor_lt_two_pow ha (one_lt hk)⟩
/-- the bits of a set with one bit more -/
theorem bit_or {a k n : Nat} (ha : a < 2 ^ 63) (hk : k ≤ 62) (hn : n ≤ 64) :
    (bitI (ior .i64 (a : Int) (ishl .i64 1 (k : Int))) (n : Int) == 1) = ((bitI (a : Int) (n : Int) == 1) || decide (k = n)) := by
  rw [shl_one (by omega), ior_nat ha (one_lt hk), bitI_nat (Nat.or_lt_two_pow ha (one_lt hk)) hn, bitI_nat ha hn, Nat.testBit_or, Nat.testBit_two_pow]
end KF

namespace KF
open Go
set_option linter.unusedSimpArgs false
set_option linter.unusedVariables false

/-! ### How many bits are set -/
theorem bvu_nat {a : Nat} (ha : a < 2 ^ 64) : (BitVec.ofInt 64 (a : Int)).toNat = a := by
  rw [BitVec.ofInt_natCast, BitVec.toNat_ofNat, Nat.mod_eq_of_lt (by omega)]
theorem wrapu {a : Nat} (h : a < 2 ^ 64) : IntKind.wrap .u64 (a : Int) = (a : Int) := by
  have h2 : (2 : Nat) ^ 64 = 18446744073709551616 := by decide
  exact IntWalk.u64_in _ ⟨by omega, by omega⟩
theorem iandu_nat {a b : Nat} (ha : a < 2 ^ 64) (hb : b < 2 ^ 64) : iand .u64 (a : Int) (b : Int) = ((a &&& b : Nat) : Int) := by
  have h : (BitVec.ofInt (IntKind.bits .u64) (a : Int) &&& BitVec.ofInt (IntKind.bits .u64) (b : Int)).toNat = a &&& b := by
    rw [BitVec.toNat_and]; erw [bvu_nat ha, bvu_nat hb]
  unfold iand
  rw [h]
  have h2 : a &&& b ≤ a := Nat.and_le_left
  exact wrapu (by omega)
theorem ishru_nat (a : Nat) {k : Nat} (hk : k ≤ 64) : ishr .u64 (a : Int) (k : Int) = ((a / 2 ^ k : Nat) : Int) := by
  unfold ishr
  have h1 : min (Int.toNat (k : Int)) (IntKind.bits .u64) = k := by
    show min (Int.toNat (k : Int)) 64 = k
    rw [Int.toNat_natCast]; omega
  rw [h1]
  have h2 : (2 : Int) ^ k = ((2 ^ k : Nat) : Int) := by simp
  rw [h2]
  exact (Int.fdiv_eq_ediv_of_nonneg _ (Int.natCast_nonneg _)).trans (by simp)

def cnt : Nat → Nat → Nat
  | 0, _ => 0
  | k + 1, n => n % 2 + cnt k (n / 2)
theorem cnt_le : ∀ k n, cnt k n ≤ k
  | 0, _ => Nat.le_refl _
  | k + 1, n => by have := cnt_le k (n / 2); simp only [cnt]; omega
theorem cnt_add : ∀ j k n, cnt (j + k) n = cnt j n + cnt k (n / 2 ^ j)
  | 0, k, n => by simp [cnt]
  | j + 1, k, n => by
    have h := cnt_add j k (n / 2)
    rw [show j + 1 + k = (j + k) + 1 by omega]
    simp only [cnt, h, Nat.div_div_eq_div_mul, Nat.pow_succ, Nat.mul_comm]
    omega
theorem cnt_mod : ∀ j n, cnt j (n % 2 ^ j) = cnt j n
  | 0, _ => rfl
  | j + 1, n => by
    have h := cnt_mod j (n / 2)
    have e1 : n % 2 ^ (j + 1) % 2 = n % 2 := Nat.mod_mod_of_dvd _ (by rw [Nat.pow_succ]; exact ⟨2 ^ j, Nat.mul_comm _ _⟩)
    have e2 : n % 2 ^ (j + 1) / 2 = n / 2 % 2 ^ j := by
      rw [Nat.pow_succ, Nat.mul_comm, Nat.mod_mul_right_div_self]
    simp only [cnt, e1, e2, h]
theorem cnt_zero : ∀ k, cnt k 0 = 0
  | 0 => rfl
  | k + 1 => by have := cnt_zero k; simp [cnt, this]

def u1 (a : Nat) : Nat := ((a / 2) &&& 85) + (a &&& 85)
def u2 (a : Nat) : Nat := ((a / 4) &&& 51) + (a &&& 51)
theorem u1_lt : ∀ a : Fin 256, u1 a.val < 256 := by decide +kernel
theorem u2_lt : ∀ a : Fin 256, u2 (u1 a.val) % 16 ≤ 4 ∧ u2 (u1 a.val) / 16 ≤ 4 := by decide +kernel
theorem u3_eq : ∀ a : Fin 256, (u2 (u1 a.val) / 16 + u2 (u1 a.val)) % 16 = cnt 8 a.val := by decide +kernel
theorem m5 : ∀ a : Fin 128, (a.val &&& 85) = (a.val + 128 * 1) &&& 85 := by decide +kernel
theorem m3 : ∀ a : Fin 64, ∀ c : Fin 4, (a.val &&& 51) = (a.val + 64 * c.val) &&& 51 := by decide +kernel
theorem m5' {a c : Nat} (h : a < 128) (hc : c < 2) : (a + 128 * c) &&& 85 = a &&& 85 := by
  have : c = 0 ∨ c = 1 := by omega
  rcases this with rfl | rfl
  · rfl
  · exact (m5 ⟨a, h⟩).symm
theorem m3' {a c : Nat} (h : a < 64) (hc : c < 4) : (a + 64 * c) &&& 51 = a &&& 51 := (m3 ⟨a, h⟩ ⟨c, hc⟩).symm
theorem and_split {a b m p : Nat} (ha : a < 256) (hp : p < 256) : (a + 256 * b) &&& (p + 256 * m) = (a &&& p) + 256 * (b &&& m) := by
  have h1 : ((a + 256 * b) &&& (p + 256 * m)) % 2 ^ 8 = a &&& p := by
    rw [Nat.and_mod_two_pow]
    congr 1 <;> omega
  have h2 : ((a + 256 * b) &&& (p + 256 * m)) / 2 ^ 8 = b &&& m := by
    rw [← Nat.shiftRight_eq_div_pow, Nat.shiftRight_and_distrib, Nat.shiftRight_eq_div_pow, Nat.shiftRight_eq_div_pow]
    congr 1 <;> omega
  generalize (a + 256 * b) &&& (p + 256 * m) = z at *
  rw [← h1, ← h2]
  omega
theorem and3 {a b c M m : Nat} (ha : a < 256) (hb : b < 256) (hc : c < 256) (hm : m < 256) (hM : M = m + 256 * (m + 256 * (m + 256 * (M / 16777216)))) :
    (a + 256 * (b + 256 * c)) &&& M = (a &&& m) + 256 * ((b &&& m) + 256 * (c &&& m)) := by
  rw [hM, show c = c + 256 * 0 by omega, and_split ha hm, and_split hb hm, and_split hc hm]
  simp
def M5 : Nat := 6148914691236517205
def M3 : Nat := 3689348814741910323
def MF : Nat := 1085102592571150095
def s1 (n : Nat) : Nat := (n / 2 &&& M5) + (n &&& M5)
def s2 (n : Nat) : Nat := (n / 4 &&& M3) + (n &&& M3)
def s3 (n : Nat) : Nat := (n / 16 + n) &&& MF
theorem s1_eq {a b c : Nat} (ha : a < 256) (hb : b < 256) (hc : c < 256) : s1 (a + 256 * (b + 256 * c)) = u1 a + 256 * (u1 b + 256 * u1 c) := by
  unfold s1
  have h : (a + 256 * (b + 256 * c)) / 2 = (a / 2 + 128 * (b % 2)) + 256 * ((b / 2 + 128 * (c % 2)) + 256 * (c / 2 + 128 * 0)) := by omega
  rw [h, and3 (m := 85) (by omega) (by omega) (by omega) (by omega) rfl, and3 (m := 85) ha hb hc (by omega) rfl, m5' (by omega) (by omega), m5' (by omega) (by omega), m5' (by omega) (by omega)]
  unfold u1
  omega
theorem s2_eq {a b c : Nat} (ha : a < 256) (hb : b < 256) (hc : c < 256) : s2 (a + 256 * (b + 256 * c)) = u2 a + 256 * (u2 b + 256 * u2 c) := by
  unfold s2
  have h : (a + 256 * (b + 256 * c)) / 4 = (a / 4 + 64 * (b % 4)) + 256 * ((b / 4 + 64 * (c % 4)) + 256 * (c / 4 + 64 * 0)) := by omega
  rw [h, and3 (m := 51) (by omega) (by omega) (by omega) (by omega) rfl, and3 (m := 51) ha hb hc (by omega) rfl, m3' (by omega) (by omega), m3' (by omega) (by omega), m3' (by omega) (by omega)]
  unfold u2
  omega
theorem and15 (x : Nat) : x &&& 15 = x % 16 := by
  have := Nat.and_two_pow_sub_one_eq_mod x 4
  exact this
theorem s3_eq {a b c : Nat} (ha : a % 16 ≤ 4 ∧ a / 16 ≤ 4) (hb : b % 16 ≤ 4 ∧ b / 16 ≤ 4) (hc : c % 16 ≤ 4 ∧ c / 16 ≤ 4) :
    s3 (a + 256 * (b + 256 * c)) = (a / 16 + a) % 16 + 256 * ((b / 16 + b) % 16 + 256 * ((c / 16 + c) % 16)) := by
  unfold s3
  have h : (a + 256 * (b + 256 * c)) / 16 + (a + 256 * (b + 256 * c)) = (a / 16 + a + 16 * (b % 16)) + 256 * ((b / 16 + b + 16 * (c % 16)) + 256 * (c / 16 + c)) := by omega
  rw [h, and3 (m := 15) (by omega) (by omega) (by omega) (by omega) rfl, and15, and15, and15]
  omega
def popF (z : Nat) : Nat := (z + z / 256 + (z + z / 256) / 65536 + (z + z / 256 + (z + z / 256) / 65536) / 4294967296) % 128
theorem pop_eq {n : Nat} (h : n < 16777216) : popF (s3 (s2 (s1 n))) = cnt 32 n := by
  have e : n = n % 256 + 256 * (n / 256 % 256 + 256 * (n / 65536)) := by omega
  have ha : n % 256 < 256 := by omega
  have hb : n / 256 % 256 < 256 := by omega
  have hc : n / 65536 < 256 := by omega
  have hcnt : cnt 32 n = cnt 8 (n % 256) + (cnt 8 (n / 256 % 256) + cnt 8 (n / 65536)) := by
    rw [show (32 : Nat) = 8 + (8 + (8 + 8)) from rfl, cnt_add, cnt_add, cnt_add]
    have e1 := cnt_mod 8 n
    have e2 := cnt_mod 8 (n / 2 ^ 8)
    rw [← e1, ← e2]
    have e3 : n / 2 ^ 8 / 2 ^ 8 = n / 65536 := by omega
    have e4 : n / 65536 / 2 ^ 8 = 0 := by omega
    rw [e3, e4, cnt_zero]
    simp
  rw [hcnt]
  generalize n % 256 = a at *
  generalize n / 256 % 256 = b at *
  generalize n / 65536 = c at *
  rw [e, s1_eq ha hb hc, s2_eq (u1_lt ⟨a, ha⟩) (u1_lt ⟨b, hb⟩) (u1_lt ⟨c, hc⟩), s3_eq (u2_lt ⟨a, ha⟩) (u2_lt ⟨b, hb⟩) (u2_lt ⟨c, hc⟩), u3_eq ⟨a, ha⟩, u3_eq ⟨b, hb⟩, u3_eq ⟨c, hc⟩]
  have h1 := cnt_le 8 a
  have h2 := cnt_le 8 b
  have h3 := cnt_le 8 c
  show popF (cnt 8 a + 256 * (cnt 8 b + 256 * cnt 8 c)) = _
  unfold popF
  generalize cnt 8 a = i at *
  generalize cnt 8 b = j at *
  generalize cnt 8 c = k at *
  have g1 : (i + 256 * (j + 256 * k)) / 256 = j + 256 * k := by omega
  rw [g1]
  have g2 : (i + 256 * (j + 256 * k) + (j + 256 * k)) / 65536 = k := by omega
  rw [g2]
  have g3 : (i + 256 * (j + 256 * k) + (j + 256 * k) + k) / 4294967296 = 0 := by omega
  rw [g3]
  omega
theorem s1_bd {n : Nat} (h : n < 16777216) : s1 n < 33554432 := by
  have h1 : n / 2 &&& M5 ≤ n / 2 := Nat.and_le_left
  have h2 : n &&& M5 ≤ n := Nat.and_le_left
  unfold s1; omega
theorem s2_bd {n : Nat} (h : n < 33554432) : s2 n < 67108864 := by
  have h1 : n / 4 &&& M3 ≤ n / 4 := Nat.and_le_left
  have h2 : n &&& M3 ≤ n := Nat.and_le_left
  unfold s2; omega
theorem s3_bd {n : Nat} (h : n < 67108864) : s3 n < 134217728 := by
  have h1 : (n / 16 + n) &&& MF ≤ n / 16 + n := Nat.and_le_left
  unfold s3; omega
theorem and127 (x : Nat) : x &&& 127 = x % 128 := by
  have := Nat.and_two_pow_sub_one_eq_mod x 7
  exact this
theorem OnesCount_ok {n : Nat} (h : n < 16777216) : bits_OnesCount (n : Int) = some (((cnt 32 n : Nat) : Int), ()) := by
  unfold bits_OnesCount bits_OnesCount64
  have p64 : (2 : Nat) ^ 64 = 18446744073709551616 := by decide
  have sh : ∀ (x : Nat) (k : Int) (j : Nat), k = (j : Int) → j ≤ 64 → ishr .u64 (x : Int) k = ((x / 2 ^ j : Nat) : Int) := fun x k j hk hj => by rw [hk]; exact ishru_nat x hj
  have an : ∀ (x : Nat) (k : Int) (j : Nat), x < 2 ^ 64 → k = (j : Int) → j < 2 ^ 64 → iand .u64 (x : Int) k = ((x &&& j : Nat) : Int) := fun x k j hx hk hj => by rw [hk]; exact iandu_nat hx hj
  have ad : ∀ x y : Nat, (x : Int) + (y : Int) = ((x + y : Nat) : Int) := fun x y => (Int.natCast_add x y).symm
  have b1 := s1_bd h
  have b2 := s2_bd b1
  have b3 := s3_bd b2
  have h1 : IntKind.wrap .u64 ((iand .u64 (ishr .u64 (n : Int) 1) 6148914691236517205) + (iand .u64 (n : Int) 6148914691236517205)) = ((s1 n : Nat) : Int) := by
    rw [sh n 1 1 rfl (by omega), an _ 6148914691236517205 M5 (by omega) rfl (by decide), an _ 6148914691236517205 M5 (by omega) rfl (by decide), ad]
    exact wrapu (a := s1 n) (by omega)
  rw [h1]
  have h2 : IntKind.wrap .u64 ((iand .u64 (ishr .u64 ((s1 n : Nat) : Int) 2) 3689348814741910323) + (iand .u64 ((s1 n : Nat) : Int) 3689348814741910323)) = ((s2 (s1 n) : Nat) : Int) := by
    rw [sh _ 2 2 rfl (by omega), an _ 3689348814741910323 M3 (by omega) rfl (by decide), an _ 3689348814741910323 M3 (by omega) rfl (by decide), ad]
    exact wrapu (a := s2 (s1 n)) (by omega)
  rw [h2]
  have h3 : iand .u64 (IntKind.wrap .u64 ((ishr .u64 ((s2 (s1 n) : Nat) : Int) 4) + ((s2 (s1 n) : Nat) : Int))) 1085102592571150095 = ((s3 (s2 (s1 n)) : Nat) : Int) := by
    rw [sh _ 4 4 rfl (by omega), ad, wrapu (by omega), an _ 1085102592571150095 MF (by omega) rfl (by decide)]
    rfl
  rw [h3]
  have hp := pop_eq h
  generalize s3 (s2 (s1 n)) = z at *
  have g1 : IntKind.wrap .u64 ((z : Int) + ishr .u64 (z : Int) 8) = ((z + z / 256 : Nat) : Int) := by
    rw [sh _ 8 8 rfl (by omega), ad, wrapu (by omega)]
  rw [g1]
  have g2 : IntKind.wrap .u64 (((z + z / 256 : Nat) : Int) + ishr .u64 ((z + z / 256 : Nat) : Int) 16) = ((z + z / 256 + (z + z / 256) / 65536 : Nat) : Int) := by
    rw [sh _ 16 16 rfl (by omega), ad, wrapu (by omega)]
  rw [g2]
  have g3 : IntKind.wrap .u64 (((z + z / 256 + (z + z / 256) / 65536 : Nat) : Int) + ishr .u64 ((z + z / 256 + (z + z / 256) / 65536 : Nat) : Int) 32) = ((z + z / 256 + (z + z / 256) / 65536 + (z + z / 256 + (z + z / 256) / 65536) / 4294967296 : Nat) : Int) := by
    rw [sh _ 32 32 rfl (by omega), ad, wrapu (by omega)]
  rw [g3, wrap64 (by omega) (by omega)]
  show Option.bind (some (iand .i64 _ ((127 : Nat) : Int), ())) _ = _
  rw [iand_nat (by rw [p63]; omega) (by decide), and127]
  rw [← hp]
  rfl
/-- the reference's count -/
theorem spec_l11Count_ok {n : Nat} (h : n < 16777216) : spec_l11Count (n : Int) = some (((cnt 32 n : Nat) : Int), ()) := by
  have hl := loopF_count (step := fun x => spec_l11Count_3_R x.1.1 x.1.2.1 x.1.2.2.1) 32 (by omega) (fun k s => IntKind.wrap .i64 (s + iand .i64 (ishr .i64 (n : Int) (k : Int)) 1)) 0 (fun s i => (((n : Int), s, i, ()), ())) (fun s => .inl ((s, ()), ()))
    (by
      intro k hk
      simp only [spec_l11Count_3_R]
      rw [dec_true (show (k : Int) ≤ 31 by omega), dec_true (show (0 : Int) ≤ (k : Int) by omega)]; rfl)
    (by
      simp only [spec_l11Count_3_R]
      rw [dec_false (by decide)]; rfl)
  generalize hC : cnt 32 n = C
  have hi : ∀ k : Nat, k ≤ 32 → ∃ c : Nat, iter (fun k s => IntKind.wrap .i64 (s + iand .i64 (ishr .i64 (n : Int) (k : Int)) 1)) k (0 : Int) = (c : Int) ∧ c ≤ k ∧ c + cnt (32 - k) (n / 2 ^ k) = C := by
    intro k
    induction k with
    | zero => intro _; exact ⟨0, rfl, Nat.le_refl _, by rw [← hC, Nat.sub_zero, Nat.pow_zero, Nat.div_one, Nat.zero_add]⟩
    | succ k ih =>
      intro hk
      obtain ⟨c, h1, h2, h3⟩ := ih (by omega)
      refine ⟨c + n / 2 ^ k % 2, ?_, by omega, ?_⟩
      · simp only [iter, h1]
        rw [ishr_nat n (by omega), Nat.shiftRight_eq_div_pow]
        have hd : n / 2 ^ k ≤ n := Nat.div_le_self _ _
        have e : iand .i64 ((n / 2 ^ k : Nat) : Int) 1 = ((n / 2 ^ k % 2 : Nat) : Int) := by
          show iand .i64 ((n / 2 ^ k : Nat) : Int) ((1 : Nat) : Int) = _
          rw [iand_nat (by rw [p63]; omega) (by decide), Nat.and_one_is_mod]
        rw [e, ← Int.natCast_add, wrap64 (by omega) (by omega)]
      · rw [show 32 - k = (32 - (k + 1)) + 1 by omega] at h3
        have h4 : cnt (32 - (k + 1) + 1) (n / 2 ^ k) = n / 2 ^ k % 2 + cnt (32 - (k + 1)) (n / 2 ^ k / 2) := rfl
        rw [h4] at h3
        rw [Nat.pow_succ, ← Nat.div_div_eq_div_mul]
        omega
  obtain ⟨c, h1, _, h3⟩ := hi 32 (Nat.le_refl _)
  have h4 : cnt (32 - 32) (n / 2 ^ 32) = 0 := rfl
  rw [h4, Nat.add_zero] at h3
  rw [h1] at hl
  unfold spec_l11Count spec_l11Count_3_loop
  erw [hl]
  rw [← h3]
  rfl
end KF

namespace KF
open Go
def isMatrixB (m : TMatrix) : Bool := decide (1 ≤ m.1 ∧ m.1 ≤ 4 ∧ 1 ≤ m.2.1 ∧ m.2.1 ≤ 6)
theorem impl_IsMatrix_ok (m : TMatrix) : impl_IsMatrix m = some (isMatrixB m, ()) := by
  unfold impl_IsMatrix isMatrixB
  simp only [cond_some, cond_unit]
  apply some_unit
  simp only [cond_iff, decide_eq_true_eq, Bool.false_eq_true, and_false, or_false]
theorem spec_IsMatrix_ok (m : TMatrix) : spec_IsMatrix m = some (isMatrixB m, ()) := by
  unfold spec_IsMatrix isMatrixB
  simp only [spec_l1In_ok, Option.bind_some, cond_some, cond_unit]
  apply some_unit
  simp only [cond_iff, decide_eq_true_eq, Bool.false_eq_true, and_false, or_false]
  omega
def keyCountI (m : TMatrix) : Int := cond (isMatrixB m) (m.1 * m.2.1) 0
theorem mul_bd {m : TMatrix} (h : isMatrixB m = true) : 1 ≤ m.1 * m.2.1 ∧ m.1 * m.2.1 ≤ 24 := by
  simp only [isMatrixB, decide_eq_true_eq] at h
  obtain ⟨r, c, d, u⟩ := m
  obtain ⟨h1, h2, h3, h4⟩ := h
  simp only at h1 h2 h3 h4 ⊢
  have : r = 1 ∨ r = 2 ∨ r = 3 ∨ r = 4 := by omega
  rcases this with rfl | rfl | rfl | rfl <;> omega
theorem impl_KeyCount_ok (m : TMatrix) : impl_KeyCount m = some (keyCountI m, ()) := by
  unfold impl_KeyCount keyCountI
  rw [impl_IsMatrix_ok]
  cases h : isMatrixB m with
  | false => rfl
  | true => simp only [Option.bind_some, Bool.not_true, cond_false, cond_true]; rw [wrap64 (by have := mul_bd h; omega) (by have := mul_bd h; omega)]
theorem spec_KeyCount_ok (m : TMatrix) : spec_KeyCount m = some (keyCountI m, ()) := by
  unfold spec_KeyCount keyCountI
  rw [spec_IsMatrix_ok]
  cases h : isMatrixB m with
  | false => rfl
  | true => simp only [Option.bind_some, Bool.not_true, cond_false, cond_true]; rw [wrap64 (by have := mul_bd h; omega) (by have := mul_bd h; omega)]
theorem HalfKeys_same (h : THalves) (_ : Rng tHalves h) (_ : szT tHalves h ≤ big20) : ∃ w, spec_HalfKeys h = some (w, ()) ∧ impl_HalfKeys h = some (w, ()) := by
  unfold spec_HalfKeys impl_HalfKeys
  rw [spec_KeyCount_ok, impl_KeyCount_ok]
  cases ((Int.tmod h.1.1.1 2) != 0) <;> exact ⟨_, rfl, rfl⟩
end KF

namespace KF
open Go
set_option linter.unusedSimpArgs false
set_option linter.unusedVariables false

/-! ### Ranges as the program and as the reference ask for them -/
theorem cond_range {α : Type} (x lo hi : Int) (X r : α) : cond (decide (x < lo)) X (cond (decide (x > hi)) X r) = cond (decide (lo ≤ x ∧ x ≤ hi)) r X := by
  by_cases h1 : x < lo
  · rw [dec_true h1, dec_false (show ¬ (lo ≤ x ∧ x ≤ hi) by omega)]; rfl
  · rw [dec_false h1]
    by_cases h2 : x > hi
    · rw [dec_true h2, dec_false (show ¬ (lo ≤ x ∧ x ≤ hi) by omega)]; rfl
    · rw [dec_false h2, dec_true (show lo ≤ x ∧ x ≤ hi by omega)]; rfl
theorem cond_notb {α : Type} (b : Bool) (x y : α) : cond (!b) x y = cond b y x := by cases b <;> rfl
theorem cond_andb (a b : Bool) : cond a (some (b, ())) (some (false, ())) = some ((a && b, ()) : Bool × Unit) := by cases a <;> rfl
theorem shl_int {k : Int} (h : 0 ≤ k ∧ k ≤ 62) : ishl .i64 1 k = ((2 ^ k.toNat : Nat) : Int) := by
  have : k = ((k.toNat : Nat) : Int) := by omega
  rw [this, shl_one (by omega)]; rfl
theorem pow_bd {k : Nat} (h : k ≤ 62) : 1 ≤ 2 ^ k ∧ 2 ^ k ≤ 4611686018427387904 := by
  refine ⟨Nat.one_le_two_pow, ?_⟩
  have := Nat.pow_le_pow_right (n := 2) (by omega) h
  exact this

/-! ### Masks of a matrix -/
def inMaskB (k x : Int) : Bool := decide (0 ≤ x ∧ x < ((2 ^ k.toNat : Nat) : Int))
def isMaskB (m : TMatrix) (x : Int) : Bool := isMatrixB m && inMaskB (keyCountI m) x
theorem kc_bd {m : TMatrix} (h : isMatrixB m = true) : 1 ≤ keyCountI m ∧ keyCountI m ≤ 24 := by
  unfold keyCountI; rw [h]; exact mul_bd h
theorem impl_IsMask_ok (m : TMatrix) (x : Int) : impl_IsMask m x = some (isMaskB m x, ()) := by
  unfold impl_IsMask isMaskB
  rw [impl_IsMatrix_ok]
  cases h : isMatrixB m with
  | false => rfl
  | true =>
    have := kc_bd h
    rw [impl_KeyCount_ok]
    simp only [Option.bind_some, cond_true, Bool.true_and]
    rw [dec_true (show 0 ≤ keyCountI m by omega), shl_int (by omega)]
    simp only [cond_true, cond_andb, inMaskB]
    apply some_unit
    simp only [Bool.and_eq_true, decide_eq_true_eq]
theorem in_mask (k x : Int) (h : 0 ≤ k ∧ k ≤ 62) : decide (0 ≤ x ∧ x ≤ IntKind.wrap .i64 (ishl .i64 1 k - 1)) = inMaskB k x := by
  have hp := pow_bd (k := k.toNat) (by omega)
  rw [shl_int h]
  unfold inMaskB
  generalize 2 ^ k.toNat = z at hp
  rw [wrap64 (by omega) (by omega)]
  rw [decide_eq_decide]
  omega
theorem spec_IsMask_ok (m : TMatrix) (x : Int) : spec_IsMask m x = some (isMaskB m x, ()) := by
  unfold spec_IsMask isMaskB
  rw [spec_IsMatrix_ok]
  cases h : isMatrixB m with
  | false => rfl
  | true =>
    have := kc_bd h
    rw [spec_KeyCount_ok]
    simp only [Option.bind_some, cond_true, Bool.true_and, spec_l1In_ok]
    rw [dec_true (show 0 ≤ keyCountI m by omega), in_mask _ _ (by omega)]
    rfl

/-! ### Debouncers -/
def agesB (l : List Int) : Bool := allK (fun _ x => decide ((0 : Int) ≤ x ∧ x ≤ 99)) 0 l
def isDebouncerB (d : TDebouncer) : Bool :=
  decide (0 ≤ d.1 ∧ d.1 ≤ 2) && (decide (1 ≤ d.2.1 ∧ d.2.1 ≤ 20) && (decide (1 ≤ d.2.2.1 ∧ d.2.2.1 ≤ 24) && ((((List.length d.2.2.2.2.2.1 : Nat) : Int) == d.2.2.1) && (inMaskB d.2.2.1 d.2.2.2.1 && (inMaskB d.2.2.1 d.2.2.2.2.1 && agesB d.2.2.2.2.2.1)))))
theorem impl_IsDebouncer_ok (d : TDebouncer) (hn : d.2.2.2.2.2.1.length ≤ big20) : impl_IsDebouncer d = some (isDebouncerB d, ()) := by
  have h20 : big20 = 1048576 := rfl
  have hl := loopF_all (step := fun x => impl_IsDebouncer_6_R x.1.1 x.1.2.1 x.1.2.2.1) d.2.2.2.2.2.1 (fun _ x => decide ((0 : Int) ≤ x ∧ x ≤ 99)) (fun i => ((d.2.2.2.2.2.1, ((List.length d.2.2.2.2.2.1 : Nat) : Int), i, ()), ()))
    (.inl ((), ())) (.inr ((false, ()), ())) (by
      intro k hk
      simp only [impl_IsDebouncer_6_R]
      rw [dec_true (show (k : Int) < ((List.length d.2.2.2.2.2.1 : Nat) : Int) by omega), idx_lt hk]
      simp only [cond_true, Option.bind_some, cond_range]
      cases decide ((0 : Int) ≤ d.2.2.2.2.2.1[k] ∧ d.2.2.2.2.2.1[k] ≤ 99) <;> rfl) (by
      simp only [impl_IsDebouncer_6_R]
      rw [dec_false (by omega)]; rfl) (by omega)
  unfold impl_IsDebouncer impl_IsDebouncer_6_loop isDebouncerB
  simp only [cond_range]
  cases decide (0 ≤ d.1 ∧ d.1 ≤ 2) with
  | false => rfl
  | true =>
    cases decide (1 ≤ d.2.1 ∧ d.2.1 ≤ 20) with
    | false => rfl
    | true =>
      by_cases h3 : 1 ≤ d.2.2.1 ∧ d.2.2.1 ≤ 24
      · have hp := pow_bd (k := d.2.2.1.toNat) (by omega)
        rw [dec_true h3, dec_true (show 0 ≤ d.2.2.1 by omega), shl_int (by omega)]
        simp only [cond_true, Bool.true_and]
        simp only [bne, cond_notb]
        cases (((List.length d.2.2.2.2.2.1 : Nat) : Int) == d.2.2.1) with
        | false => rfl
        | true =>
          simp only [cond_true, Bool.true_and, inMaskB]
          have key : ∀ (s z : Int) (X r : Option (Bool × Unit)), cond (decide (s < 0)) X (cond (decide (s ≥ z)) X r) = cond (decide (0 ≤ s ∧ s < z)) r X := by
            intro s z X r
            by_cases h1 : s < 0
            · rw [dec_true h1, dec_false (show ¬ (0 ≤ s ∧ s < z) by omega)]; rfl
            · rw [dec_false h1]
              by_cases h2 : s ≥ z
              · rw [dec_true h2, dec_false (show ¬ (0 ≤ s ∧ s < z) by omega)]; rfl
              · rw [dec_false h2, dec_true (show 0 ≤ s ∧ s < z by omega)]; rfl
          erw [key, key, hl]
          unfold agesB
          cases allK (fun _ x => decide ((0 : Int) ≤ x ∧ x ≤ 99)) 0 d.2.2.2.2.2.1 <;> cases decide (0 ≤ d.2.2.2.1 ∧ d.2.2.2.1 < ((2 ^ d.2.2.1.toNat : Nat) : Int)) <;> cases decide (0 ≤ d.2.2.2.2.1 ∧ d.2.2.2.2.1 < ((2 ^ d.2.2.1.toNat : Nat) : Int)) <;> rfl
      · rw [dec_false h3]; rfl
theorem spec_IsDebouncer_ok (d : TDebouncer) (hn : d.2.2.2.2.2.1.length ≤ big20) : spec_IsDebouncer d = some (isDebouncerB d, ()) := by
  have h20 : big20 = 1048576 := rfl
  have hl := loopF_all (step := fun x => spec_IsDebouncer_4_R x.1.1 x.1.2.1 x.2.1) d.2.2.2.2.2.1 (fun _ x => decide ((0 : Int) ≤ x ∧ x ≤ 99)) (fun i => (((), i, ()), (d, ())))
    (.inl (((), ()), (d, ()))) (.inr ((false, ()), ())) (by
      intro k hk
      simp only [spec_IsDebouncer_4_R]
      rw [dec_true (show (k : Int) < ((List.length d.2.2.2.2.2.1 : Nat) : Int) by omega), idx_lt hk]
      simp only [cond_true, Option.bind_some, spec_l1In_ok]
      cases decide ((0 : Int) ≤ d.2.2.2.2.2.1[k] ∧ d.2.2.2.2.2.1[k] ≤ 99) <;> rfl) (by
      simp only [spec_IsDebouncer_4_R]
      rw [dec_false (by omega)]; rfl) (by omega)
  unfold spec_IsDebouncer spec_IsDebouncer_4_loop isDebouncerB
  simp only [spec_l1In_ok, Option.bind_some, cond_notb]
  cases decide (0 ≤ d.1 ∧ d.1 ≤ 2) with
  | false => rfl
  | true =>
    cases decide (1 ≤ d.2.1 ∧ d.2.1 ≤ 20) with
    | false => rfl
    | true =>
      by_cases h3 : 1 ≤ d.2.2.1 ∧ d.2.2.1 ≤ 24
      · rw [dec_true h3]
        simp only [cond_true, Bool.true_and]
        simp only [bne, cond_notb]
        cases (((List.length d.2.2.2.2.2.1 : Nat) : Int) == d.2.2.1) with
        | false => rfl
        | true =>
          simp only [cond_true, Bool.true_and]
          erw [hl]
          unfold agesB
          cases allK (fun _ x => decide ((0 : Int) ≤ x ∧ x ≤ 99)) 0 d.2.2.2.2.2.1 with
          | false => cases inMaskB d.2.2.1 d.2.2.2.1 <;> cases inMaskB d.2.2.1 d.2.2.2.2.1 <;> rfl
          | true =>
            simp only [cond_true, Option.bind_some, Sum.elim_inl]
            rw [dec_true (show 0 ≤ d.2.2.1 by omega), in_mask _ _ (by omega), in_mask _ _ (by omega)]
            cases inMaskB d.2.2.1 d.2.2.2.1 <;> cases inMaskB d.2.2.1 d.2.2.2.2.1 <;> rfl
      · rw [dec_false h3]; rfl

/-! ### Combinations -/
def comboOkB (L : List TCombo) (i : Nat) (x : TCombo) : Bool :=
  decide (0 ≤ x.1 ∧ x.1 ≤ 16777215) && (decide (24 ≤ x.2.1 ∧ x.2.1 ≤ 31) && (decide (2 ≤ ((cnt 32 x.1.toNat : Nat) : Int) ∧ ((cnt 32 x.1.toNat : Nat) : Int) ≤ 4) && allK (fun _ (y : TCombo) => !(y.1 == x.1) && !(y.2.1 == x.2.1)) 0 (L.take i)))
def combosB (L : List TCombo) : Bool := decide (L.length ≤ 8) && allK (fun i x => comboOkB L i x) 0 L
theorem take_getE {α : Type} {L : List α} {i k : Nat} (h : k < (L.take i).length) : (L.take i)[k] = L[k]'(by simp at h; omega) := by simp
theorem impl_IsCombos_ok (L : List TCombo) (hn : L.length ≤ big20) : impl_IsCombos L = some (combosB L, ()) := by
  have h20 : big20 = 1048576 := rfl
  have hl := loopF_all (step := fun x => impl_IsCombos_4_R x.1.1 x.1.2.1 x.1.2.2.1 x.1.2.2.2.1) L (fun i x => comboOkB L i x) (fun i => ((L, L, ((List.length L : Nat) : Int), i, ()), ()))
    (.inl ((), ())) (.inr ((false, ()), ())) (by
      intro k hk
      simp only [impl_IsCombos_4_R]
      rw [dec_true (show (k : Int) < ((List.length L : Nat) : Int) by omega), idx_lt hk]
      simp only [cond_true, Option.bind_some, cond_range, comboOkB]
      generalize hx : L[k] = x
      by_cases h1 : 0 ≤ x.1 ∧ x.1 ≤ 16777215
      · rw [dec_true h1]
        cases decide (24 ≤ x.2.1 ∧ x.2.1 ≤ 31) with
        | false => rfl
        | true =>
          have e : IntKind.wrap .u64 x.1 = ((x.1.toNat : Nat) : Int) := by
            have : x.1 = ((x.1.toNat : Nat) : Int) := by omega
            rw [this, wrapu (by have : (2 : Nat) ^ 64 = 18446744073709551616 := by decide
                                omega)]
            simp
          rw [e, OnesCount_ok (by omega)]
          simp only [cond_true, Option.bind_some, Bool.true_and, cond_range]
          cases decide (2 ≤ ((cnt 32 x.1.toNat : Nat) : Int) ∧ ((cnt 32 x.1.toNat : Nat) : Int) ≤ 4) with
          | false => rfl
          | true =>
            have hcut : cutOk (List.length L) 0 (k : Int) = true := cutOk_nat (lo := 0) (Nat.zero_le _) (by omega)
            rw [hcut]
            simp only [cond_true, Bool.true_and]
            have hin := loopF_all (step := fun y => impl_IsCombos_12_R y.1.1 y.1.2.1 y.1.2.2.1 y.1.2.2.2.1 y.1.2.2.2.2.1 y.1.2.2.2.2.2.1 y.1.2.2.2.2.2.2.1 y.1.2.2.2.2.2.2.2.1 y.2.1) (L.take k) (fun _ (y : TCombo) => !(y.1 == x.1) && !(y.2.1 == x.2.1)) (fun i => ((L, (), L, ((List.length L : Nat) : Int), (k : Int), L.take k, ((List.length (L.take k) : Nat) : Int), i, ()), (x, ())))
              (.inl ((L, L, ((List.length L : Nat) : Int), (k : Int), ()), ())) (.inr ((false, ()), ())) (by
                intro j hj
                simp only [impl_IsCombos_12_R]
                rw [dec_true (show (j : Int) < ((List.length (L.take k) : Nat) : Int) by omega), idx_lt hj]
                simp only [cond_true, Option.bind_some]
                cases ((L.take k)[j].1 == x.1) <;> cases ((L.take k)[j].2.1 == x.2.1) <;> rfl) (by
                simp only [impl_IsCombos_12_R]
                rw [dec_false (by omega)]; rfl) (by simp; omega)
            have hc : cutl L (Int.toNat (0 : Int)) (Int.toNat (k : Int)) = L.take k := by simp [cutl]
            rw [hc]
            unfold impl_IsCombos_12_loop
            erw [hin]
            cases allK (fun _ (y : TCombo) => !(y.1 == x.1) && !(y.2.1 == x.2.1)) 0 (L.take k) <;> rfl
      · rw [dec_false h1]; rfl) (by
      simp only [impl_IsCombos_4_R]
      rw [dec_false (by omega)]; rfl) (by omega)
  unfold impl_IsCombos impl_IsCombos_4_loop combosB
  by_cases h8 : L.length ≤ 8
  · rw [dec_false (show ¬ ((List.length L : Nat) : Int) > 8 by omega), dec_true h8]
    simp only [cond_false, Bool.true_and]
    erw [hl]
    cases allK (fun i x => comboOkB L i x) 0 L <;> rfl
  · rw [dec_true (show ((List.length L : Nat) : Int) > 8 by omega), dec_false h8]; rfl
theorem spec_IsCombos_ok (L : List TCombo) (hn : L.length ≤ big20) : spec_IsCombos L = some (combosB L, ()) := by
  have h20 : big20 = 1048576 := rfl
  have hl := loopF_all (step := fun x => spec_IsCombos_2_R x.1.1 x.1.2.1) L (fun i x => comboOkB L i x) (fun i => ((L, i, ()), ()))
    (.inl ((L, ()), ())) (.inr ((false, ()), ())) (by
      intro k hk
      simp only [spec_IsCombos_2_R]
      rw [dec_true (show (k : Int) < ((List.length L : Nat) : Int) by omega), idx_lt hk]
      simp only [cond_true, Option.bind_some, spec_l1In_ok, cond_notb, comboOkB]
      generalize hx : L[k] = x
      by_cases h1 : 0 ≤ x.1 ∧ x.1 ≤ 16777215
      · rw [dec_true h1]
        have e : spec_l11Count x.1 = some (((cnt 32 x.1.toNat : Nat) : Int), ()) := by
          obtain ⟨n, hnn⟩ := Int.eq_ofNat_of_zero_le h1.1
          rw [hnn, Int.toNat_natCast]
          exact spec_l11Count_ok (by omega)
        rw [e]
        simp only [cond_true, Option.bind_some, Bool.true_and]
        cases decide (2 ≤ ((cnt 32 x.1.toNat : Nat) : Int) ∧ ((cnt 32 x.1.toNat : Nat) : Int) ≤ 4) with
        | false => cases decide (24 ≤ x.2.1 ∧ x.2.1 ≤ 31) <;> rfl
        | true =>
          cases decide (24 ≤ x.2.1 ∧ x.2.1 ≤ 31) with
          | false => rfl
          | true =>
            simp only [cond_true, Bool.true_and]
            have hin := loopF_all (step := fun y => spec_IsCombos_7_R y.1.1 y.1.2.1 y.1.2.2.1) (L.take k) (fun _ (y : TCombo) => !(y.1 == x.1) && !(y.2.1 == x.2.1)) (fun i => ((L, (k : Int), i, ()), ()))
              (.inl ((L, (k : Int), ()), ())) (.inr ((false, ()), ())) (by
                intro j hj
                have hj2 : j < k := by simp at hj; omega
                simp only [spec_IsCombos_7_R]
                rw [dec_true (show (j : Int) < (k : Int) by omega), idx_lt (show j < L.length by omega), idx_lt hk, hx, take_getE hj]
                simp only [cond_true, Option.bind_some]
                cases (L[j].1 == x.1) <;> cases (L[j].2.1 == x.2.1) <;> rfl) (by
                have : ((List.length (L.take k) : Nat) : Int) = (k : Int) := by simp; omega
                simp only [spec_IsCombos_7_R]
                rw [dec_false (by omega)]; rfl) (by simp; omega)
            unfold spec_IsCombos_7_loop
            erw [hin]
            cases allK (fun _ (y : TCombo) => !(y.1 == x.1) && !(y.2.1 == x.2.1)) 0 (L.take k) <;> rfl
      · rw [dec_false h1]; rfl) (by
      simp only [spec_IsCombos_2_R]
      rw [dec_false (by omega)]; rfl) (by omega)
  unfold spec_IsCombos spec_IsCombos_2_loop combosB
  erw [hl]
  cases allK (fun i x => comboOkB L i x) 0 L with
  | true =>
    simp only [cond_true, Option.bind_some, Sum.elim_inl, Bool.and_true]
    apply some_unit
    simp only [decide_eq_true_eq]; omega
  | false => cases decide (L.length ≤ 8) <;> rfl
end KF

namespace KF
open Go
set_option linter.unusedSimpArgs false
set_option linter.unusedVariables false

/-! ### The combination of a key -/
def zCombo : TCombo := (0, 0, ())
def comboF (L : List TCombo) (o : Int) : Option TCombo := L.find? (fun c => c.2.1 == o)
theorem foldE_find {α : Type} (p : α → Bool) : ∀ (xs : List α) (k : Nat), (foldE (fun _ (_ : Unit) x => cond (p x) (.inr x) (.inl ())) k () xs : Unit ⊕ α) = match xs.find? p with | some x => .inr x | none => .inl ()
  | [], _ => rfl
  | x :: xs, k => by
    rcases Bool.eq_false_or_eq_true (p x) with hp | hp
    · simp only [foldE, hp, cond_true, List.find?_cons]
    · simp only [foldE, hp, cond_false, List.find?_cons]; exact foldE_find p xs (k + 1)
theorem impl_comboOf_ok (L : List TCombo) (o : Int) (hn : L.length ≤ big20) : impl_comboOf L o = some ((comboF L o).getD zCombo, (comboF L o).isSome, ()) := by
  have h20 : big20 = 1048576 := rfl
  have hl := loopF_foldX (step := fun x => impl_comboOf_2_R x.1.1 x.1.2.1 x.1.2.2.1 x.1.2.2.2.1 x.1.2.2.2.2.1 x.2.1) L (fun _ (_ : Unit) (x : TCombo) => cond (x.2.1 == o) (.inr x) (.inl ())) (fun _ i => ((o, (), L, ((List.length L : Nat) : Int), i, ()), (((0 : Int), (0 : Int), ()), ())))
    (fun _ => .inl (((), ()), (((0 : Int), (0 : Int), ()), ()))) (fun x => .inr (((), true, ()), (x, ()))) (fun _ _ => True) (by
      intro k hk s _
      refine ⟨?_, fun _ _ => trivial⟩
      simp only [impl_comboOf_2_R]
      rw [dec_true (show (k : Int) < ((List.length L : Nat) : Int) by omega), idx_lt hk]
      simp only [cond_true, Option.bind_some]
      cases (L[k].2.1 == o) <;> rfl) (by
      intro s _
      simp only [impl_comboOf_2_R]
      rw [dec_false (by omega)]; rfl) (by omega) () trivial
  unfold impl_comboOf impl_comboOf_2_loop comboF
  erw [hl, foldE_find]
  cases List.find? (fun c => c.2.1 == o) L <;> rfl
theorem spec_l11Keys_ok (L : List TCombo) (o : Int) (hn : L.length ≤ big20) : spec_l11Keys L o = some (((comboF L o).getD zCombo).1, ()) := by
  have h20 : big20 = 1048576 := rfl
  have hl := loopF_foldX (step := fun x => spec_l11Keys_2_R x.1.1 x.1.2.1 x.1.2.2.1) L (fun _ (_ : Unit) (x : TCombo) => cond (x.2.1 == o) (.inr x) (.inl ())) (fun _ i => ((L, o, i, ()), ()))
    (fun _ => .inl ((), ())) (fun x => .inr ((x.1, ()), ())) (fun _ _ => True) (by
      intro k hk s _
      refine ⟨?_, fun _ _ => trivial⟩
      simp only [spec_l11Keys_2_R]
      rw [dec_true (show (k : Int) < ((List.length L : Nat) : Int) by omega), idx_lt hk]
      simp only [cond_true, Option.bind_some]
      cases (L[k].2.1 == o) <;> rfl) (by
      intro s _
      simp only [spec_l11Keys_2_R]
      rw [dec_false (by omega)]; rfl) (by omega) () trivial
  unfold spec_l11Keys spec_l11Keys_2_loop comboF
  erw [hl, foldE_find]
  cases List.find? (fun c => c.2.1 == o) L <;> rfl
theorem combo_in {L : List TCombo} {o : Int} (h : combosB L = true) (hs : (comboF L o).isSome = true) : 24 ≤ o ∧ o ≤ 31 ∧ 0 ≤ ((comboF L o).getD zCombo).1 ∧ ((comboF L o).getD zCombo).1 ≤ 16777215 := by
  unfold comboF at *
  cases hc : List.find? (fun c => c.2.1 == o) L with
  | none => rw [hc] at hs; simp at hs
  | some c =>
    have h1 := List.find?_some hc
    have h2 := List.mem_of_find?_eq_some hc
    obtain ⟨i, hi, rfl⟩ := List.getElem_of_mem h2
    simp only [combosB, Bool.and_eq_true] at h
    have h3 := allK_true.1 h.2 i hi
    simp only [comboOkB, Bool.and_eq_true, decide_eq_true_eq] at h3
    simp only [beq_iff_eq] at h1
    simp only [Option.getD_some]
    omega

/-! ### Combinations that are on -/
def okA (K : Int) (x : TEvent) : Bool := !decide (x.2.1 ≤ 0) && (!(iandn .i64 x.2.1 K != 0) && !(x.2.2.1 != (x.2.1 == K)))
def keyF (L : List TCombo) (o : Int) : Int := ((comboF L o).getD zCombo).1
def okF (L : List TCombo) (x : TEvent) : Bool := (comboF L x.1).isSome && okA (keyF L x.1) x
theorem andn_zero {x : Int} (h0 : 0 < x) (h1 : x ≤ 9223372036854775807) : iandn .i64 x 0 = x := by
  obtain ⟨n, rfl⟩ := Int.eq_ofNat_of_zero_le (show 0 ≤ x by omega)
  show iandn .i64 (n : Int) ((0 : Nat) : Int) = _
  rw [iandn_nat (by rw [p63]; omega) (by decide), Nat.and_zero, Nat.xor_zero]
theorem okA_F {L : List TCombo} {x : TEvent} (h1 : x.2.1 ≤ 9223372036854775807) : okA (keyF L x.1) x = okF L x := by
  unfold okF keyF
  cases hc : comboF L x.1 with
  | some c => rfl
  | none =>
    simp only [Option.getD_none, Option.isSome_none, Bool.false_and, okA, zCombo]
    by_cases h0 : x.2.1 ≤ 0
    · rw [dec_true h0]; rfl
    · rw [andn_zero (by omega) h1, dec_false h0]
      have : (x.2.1 != 0) = true := by simp; omega
      rw [this]; rfl
def noneOf (pre : List TEvent) (x : TEvent) : Bool := allK (fun _ (y : TEvent) => !(y.1 == x.1)) 0 pre
def actAll (L : List TCombo) : List TEvent → List TEvent → Bool
  | _, [] => true
  | pre, x :: r => (okF L x && noneOf pre x) && actAll L (pre ++ [x]) r
def activeB (c : TCombiner) : Bool := actAll c.1 [] c.2.2.2.2.2.2.1
theorem allK_shift {α : Type} (p : α → Bool) : ∀ (xs : List α) (k j : Nat), allK (fun _ x => p x) k xs = allK (fun _ x => p x) j xs
  | [], _, _ => rfl
  | x :: xs, k, j => by simp only [allK]; rw [allK_shift p xs (k + 1) (j + 1)]
theorem allK_app {α : Type} (p : α → Bool) : ∀ (xs ys : List α) (k : Nat), allK (fun _ x => p x) k (xs ++ ys) = (allK (fun _ x => p x) k xs && allK (fun _ x => p x) k ys)
  | [], ys, k => by simp [allK]
  | x :: xs, ys, k => by
    simp only [List.cons_append, allK]
    rw [allK_app p xs ys (k + 1), Bool.and_assoc, allK_shift p ys (k + 1) k]
theorem none_snoc (pre : List TEvent) (y x : TEvent) : noneOf (pre ++ [y]) x = (noneOf pre x && !(y.1 == x.1)) := by
  unfold noneOf
  rw [allK_app]
  simp [allK]

/-- the program's: a set of the keys so far -/
def actG (L : List TCombo) (s : Int) (x : TEvent) : Int ⊕ Unit := cond (okF L x && !(bitI s x.1 == 1)) (.inl (ior .i64 s (ishl .i64 1 x.1))) (.inr ())
theorem actG_all {L : List TCombo} (hL : combosB L = true) : ∀ (l pre : List TEvent) (k : Nat) (s : Nat), s < 2 ^ 63 →
    (∀ x : TEvent, 24 ≤ x.1 → x.1 ≤ 31 → (bitI (s : Int) x.1 == 1) = !noneOf pre x) → isL (foldE (fun _ s x => actG L s x) k (s : Int) l) = actAll L pre l
  | [], _, _, _, _, _ => rfl
  | x :: l, pre, k, s, hs, hb => by
    simp only [foldE, actAll, actG]
    cases ho : okF L x with
    | false => rfl
    | true =>
      have hk : 24 ≤ x.1 ∧ x.1 ≤ 31 := by
        simp only [okF, Bool.and_eq_true] at ho
        have := combo_in hL ho.1
        omega
      rw [hb x hk.1 hk.2]
      simp only [Bool.not_not, Bool.true_and]
      cases hn : noneOf pre x with
      | false => rfl
      | true =>
        simp only [cond_true, Bool.true_and]
        obtain ⟨n, hn2⟩ := Int.eq_ofNat_of_zero_le (show 0 ≤ x.1 by omega)
        have hor : ior .i64 (s : Int) (ishl .i64 1 x.1) = ((s ||| 2 ^ n : Nat) : Int) := by
          rw [hn2, shl_one (by omega), ior_nat hs (one_lt (by omega))]
        rw [hor]
        refine actG_all hL l (pre ++ [x]) (k + 1) _ (Nat.or_lt_two_pow hs (one_lt (by omega))) fun y h1 h2 => ?_
        obtain ⟨m, hm⟩ := Int.eq_ofNat_of_zero_le (show 0 ≤ y.1 by omega)
        rw [← hor, hm, hn2, bit_or hs (by omega) (by omega), ← hm, hb y h1 h2, none_snoc]
        have : (x.1 == y.1) = decide (n = m) := by rw [hm, hn2, Bool.eq_iff_iff, beq_iff_eq, decide_eq_true_eq]; omega
        rw [this]
        cases noneOf pre y <;> cases decide (n = m) <;> rfl
theorem impl_activeFits_ok (c : TCombiner) (hc : combosB c.1 = true) (hn : c.2.2.2.2.2.2.1.length ≤ big20) (hn1 : c.1.length ≤ big20) : impl_activeFits c = some (activeB c, ()) := by
  have h20 : big20 = 1048576 := rfl
  have hl := loopF_foldX (step := fun x => impl_activeFits_3_R x.1.1 x.1.2.1 x.1.2.2.1 x.1.2.2.2.1 x.1.2.2.2.2.1 x.2.1) c.2.2.2.2.2.2.1 (fun _ s x => actG c.1 s x) (fun s i => (((), s, c.2.2.2.2.2.2.1, ((List.length c.2.2.2.2.2.2.1 : Nat) : Int), i, ()), (c, ())))
    (fun _ => .inl ((), ())) (fun _ => .inr ((false, ()), ())) (fun _ _ => True) (by
      intro k hk s _
      refine ⟨?_, fun _ _ => trivial⟩
      simp only [impl_activeFits_3_R]
      rw [dec_true (show (k : Int) < ((List.length c.2.2.2.2.2.2.1 : Nat) : Int) by omega), idx_lt hk]
      simp only [cond_true, Option.bind_some]
      generalize c.2.2.2.2.2.2.1[k] = x
      rw [impl_comboOf_ok _ _ hn1]
      simp only [Option.bind_some, actG, okF]
      cases hsome : (comboF c.1 x.1).isSome with
      | false => rfl
      | true =>
        have hk := combo_in hc hsome
        simp only [Bool.not_true, cond_false, Bool.true_and]
        rw [impl_bit_ok s (by omega), dec_true (show 0 ≤ x.1 by omega)]
        simp only [Option.bind_some, cond_true, okA, keyF]
        cases bitI s x.1 == 1 <;> cases decide (x.2.1 ≤ 0) <;> cases (iandn .i64 x.2.1 ((comboF c.1 x.1).getD zCombo).1 != 0) <;> cases (x.2.2.1 != (x.2.1 == ((comboF c.1 x.1).getD zCombo).1)) <;> rfl) (by
      intro s _
      simp only [impl_activeFits_3_R]
      rw [dec_false (by omega)]; rfl) (by omega) 0 trivial
  unfold impl_activeFits impl_activeFits_3_loop activeB
  erw [hl]
  rw [← actG_all hc c.2.2.2.2.2.2.1 [] 0 0 (by decide) (fun x h1 h2 => by
    obtain ⟨m, hm⟩ := Int.eq_ofNat_of_zero_le (show 0 ≤ x.1 by omega)
    rw [hm, bitI_nat (by decide) (by omega), Nat.zero_testBit]; rfl)]
  show Option.bind (some _) _ = _
  simp only [Option.bind_some]
  show Sum.elim _ _ _ = _
  cases foldE (fun x s x => actG c.1 s x) 0 ((0 : Nat) : Int) c.2.2.2.2.2.2.1 <;> rfl

/-! ### Switches that are down -/
def swG (s : Int) (x : TEvent) : Int ⊕ Unit := cond (iand .i64 s x.2.1 != 0) (.inr ()) (.inl (ior .i64 s x.2.1))
def swB (c : TCombiner) : Bool := isL (foldE (fun _ s x => swG s x) 0 c.2.2.2.2.2.1 c.2.2.2.2.2.2.1)
def orK (k : Nat) (s : Int) (l : List TEvent) : Int := foldK (fun _ s (x : TEvent) => ior .i64 s x.2.1) k s l
def downI (c : TCombiner) : Int := orK 0 c.2.2.2.2.2.1 c.2.2.2.2.2.2.1
theorem sw_or : ∀ (l : List TEvent) (k : Nat) (s : Int), foldE (fun _ s x => swG s x) k s l = cond (isL (foldE (fun _ s x => swG s x) k s l)) (.inl (orK k s l)) (.inr ())
  | [], _, _ => rfl
  | x :: l, k, s => by
    simp only [foldE, orK, foldK, swG]
    cases iand .i64 s x.2.1 != 0 with
    | true => rfl
    | false => simp only [cond_false]; exact sw_or l (k + 1) _
theorem impl_switchesDown_ok (c : TCombiner) (hn : c.2.2.2.2.2.2.1.length ≤ big20) : impl_switchesDown c = some (cond (swB c) (downI c) 0, swB c, ()) := by
  have h20 : big20 = 1048576 := rfl
  have hl := loopF_foldX (step := fun x => impl_switchesDown_3_R x.1.1 x.1.2.1 x.1.2.2.1 x.1.2.2.2.1) c.2.2.2.2.2.2.1 (fun _ s x => swG s x) (fun s i => ((s, c.2.2.2.2.2.2.1, ((List.length c.2.2.2.2.2.2.1 : Nat) : Int), i, ()), ()))
    (fun s => .inl ((s, ()), ())) (fun _ => .inr (((0 : Int), false, ()), ())) (fun _ _ => True) (by
      intro k hk s _
      refine ⟨?_, fun _ _ => trivial⟩
      simp only [impl_switchesDown_3_R]
      rw [dec_true (show (k : Int) < ((List.length c.2.2.2.2.2.2.1 : Nat) : Int) by omega), idx_lt hk]
      simp only [cond_true, Option.bind_some, swG]
      cases (iand .i64 s c.2.2.2.2.2.2.1[k].2.1 != 0) <;> rfl) (by
      intro s _
      simp only [impl_switchesDown_3_R]
      rw [dec_false (by omega)]; rfl) (by omega) c.2.2.2.2.2.1 trivial
  unfold impl_switchesDown impl_switchesDown_3_loop swB downI
  erw [hl, sw_or]
  show Option.bind (some _) _ = _
  cases isL (foldE (fun _ s x => swG s x) 0 c.2.2.2.2.2.1 c.2.2.2.2.2.2.1) <;> rfl
theorem spec_l11Held_ok (c : TCombiner) (hn : c.2.2.2.2.2.2.1.length ≤ big20) : spec_l11Held c = some (downI c, ()) := by
  have h20 : big20 = 1048576 := rfl
  have hl := (loopF_fold (step := fun x => spec_l11Held_3_R x.1.1 x.1.2.1 x.1.2.2.1 x.2.1) c.2.2.2.2.2.2.1 (fun _ s (x : TEvent) => ior .i64 s x.2.1) (fun s i => (((), s, i, ()), (c, ())))
    (fun s => .inl ((s, ()), ())) (fun _ _ => True) (by
      intro k hk s _
      refine ⟨?_, trivial⟩
      simp only [spec_l11Held_3_R]
      rw [dec_true (show (k : Int) < ((List.length c.2.2.2.2.2.2.1 : Nat) : Int) by omega), idx_lt hk]; rfl) (by
      intro s _
      simp only [spec_l11Held_3_R]
      rw [dec_false (by omega)]; rfl) (by omega) c.2.2.2.2.2.1 trivial).1
  unfold spec_l11Held spec_l11Held_3_loop downI orK
  erw [hl]; rfl

/-! ### The reference's: all in one -/
def actS (L : List TCombo) (l : List TEvent) (k : Nat) (s : Int) (x : TEvent) : Int ⊕ Unit :=
  cond (okA (keyF L x.1) x && (!(iand .i64 x.2.1 s != 0) && noneOf (l.take k) x)) (.inl (ior .i64 s x.2.1)) (.inr ())
theorem iand_comm (x y : Int) : iand .i64 x y = iand .i64 y x := by unfold iand; rw [BitVec.and_comm]
theorem actS_split (L : List TCombo) (l : List TEvent) : ∀ (r : List TEvent) (k : Nat) (s : Int), l.drop k = r → k ≤ l.length → (∀ x ∈ r, x.2.1 ≤ 9223372036854775807) →
    isL (foldE (actS L l) k s r) = (actAll L (l.take k) r && isL (foldE (fun _ s x => swG s x) k s r))
  | [], _, _, _, _, _ => rfl
  | x :: r, k, s, hd, hle, hr => by
    obtain ⟨hk, hx, hd'⟩ := drop_cons hd
    have ht : l.take (k + 1) = l.take k ++ [x] := by rw [take_snoc hk, hx]
    simp only [foldE, actAll, actS, swG]
    rw [okA_F (hr x (by simp)), iand_comm x.2.1 s]
    cases okF L x with
    | false => rfl
    | true =>
      cases (iand .i64 s x.2.1 != 0) with
      | true => simp [isL]
      | false =>
        cases noneOf (l.take k) x with
        | false => rfl
        | true =>
          simp only [Bool.not_false, Bool.true_and, cond_true, cond_false]
          rw [actS_split L l r (k + 1) _ hd' hk (fun y hy => hr y (by simp [hy])), ht]; rfl
theorem spec_l11Active_ok (c : TCombiner) (hr : ∀ x ∈ c.2.2.2.2.2.2.1, x.2.1 ≤ 9223372036854775807) (hn : c.2.2.2.2.2.2.1.length ≤ big20) (hn1 : c.1.length ≤ big20) :
    spec_l11Active c = some (decide (0 ≤ c.2.2.2.2.2.1 ∧ c.2.2.2.2.2.1 ≤ 16777215) && (activeB c && swB c), ()) := by
  have h20 : big20 = 1048576 := rfl
  have hl := loopF_foldX (step := fun x => spec_l11Active_3_R x.1.1 x.1.2.1 x.1.2.2.1 x.2.1) c.2.2.2.2.2.2.1 (actS c.1 c.2.2.2.2.2.2.1) (fun s i => (((), s, i, ()), (c, ())))
    (fun _ => .inl (((), ()), (c, ()))) (fun _ => .inr ((false, ()), ())) (fun _ _ => True) (by
      intro k hk s _
      refine ⟨?_, fun _ _ => trivial⟩
      simp only [spec_l11Active_3_R]
      rw [dec_true (show (k : Int) < ((List.length c.2.2.2.2.2.2.1 : Nat) : Int) by omega), idx_lt hk]
      simp only [cond_true, Option.bind_some]
      rw [spec_l11Keys_ok _ _ hn1]
      generalize hx : c.2.2.2.2.2.2.1[k] = x
      simp only [Option.bind_some, actS, okA, keyF]
      have hin := loopF_all (step := fun y => spec_l11Active_10_R y.1.1 y.1.2.1 y.1.2.2.1 y.1.2.2.2.1 y.1.2.2.2.2.1 y.2.1 y.2.2.1) (c.2.2.2.2.2.2.1.take k) (fun _ (y : TEvent) => !(y.1 == x.1)) (fun i => (((), s, (k : Int), (), i, ()), (c, x, ())))
        (.inl (((), s, (k : Int), (), ()), (c, x, ()))) (.inr ((false, ()), ())) (by
          intro j hj
          have hj2 : j < k := by simp at hj; omega
          simp only [spec_l11Active_10_R]
          rw [dec_true (show (j : Int) < (k : Int) by omega), idx_lt (show j < c.2.2.2.2.2.2.1.length by omega), take_getE hj]
          simp only [cond_true, Option.bind_some]
          cases (c.2.2.2.2.2.2.1[j].1 == x.1) <;> rfl) (by
          have : ((List.length (c.2.2.2.2.2.2.1.take k) : Nat) : Int) = (k : Int) := by simp; omega
          simp only [spec_l11Active_10_R]
          rw [dec_false (by omega)]; rfl) (by simp; omega)
      unfold spec_l11Active_10_loop noneOf
      erw [hin]
      cases decide (x.2.1 ≤ 0) with
      | true => rfl
      | false =>
        cases (iandn .i64 x.2.1 ((comboF c.1 x.1).getD zCombo).1 != 0) with
        | true => rfl
        | false =>
          cases (x.2.2.1 != (x.2.1 == ((comboF c.1 x.1).getD zCombo).1)) with
          | true => rfl
          | false =>
            cases (iand .i64 x.2.1 s != 0) with
            | true => rfl
            | false => cases allK (fun _ (y : TEvent) => !(y.1 == x.1)) 0 (c.2.2.2.2.2.2.1.take k) <;> rfl) (by
      intro s _
      simp only [spec_l11Active_3_R]
      rw [dec_false (by omega)]; rfl) (by omega) c.2.2.2.2.2.1 trivial
  unfold spec_l11Active spec_l11Active_3_loop activeB swB
  erw [hl]
  have hs := actS_split c.1 c.2.2.2.2.2.2.1 c.2.2.2.2.2.2.1 0 c.2.2.2.2.2.1 rfl (Nat.zero_le _) hr
  rw [List.take_zero] at hs
  rw [← hs]
  show Option.bind (some _) _ = _
  cases foldE (actS c.1 c.2.2.2.2.2.2.1) 0 c.2.2.2.2.2.1 c.2.2.2.2.2.2.1 with
  | inl s =>
    simp only [Option.bind_some, Sum.elim_inl, spec_l1In_ok, isL, Bool.and_true]
  | inr u => simp only [Option.bind_some, Sum.elim_inr, isL, Bool.and_false]

/-! ### Combiners -/
def isCombinerB (c : TCombiner) : Bool :=
  combosB c.1 && (decide (1 ≤ c.2.1 ∧ c.2.1 ≤ 200) && (decide (0 ≤ c.2.2.2.1 ∧ c.2.2.2.1 ≤ 1000000) && (decide (0 ≤ c.2.2.2.2.1 ∧ c.2.2.2.2.1 ≤ c.2.2.2.1) && ((decide (0 ≤ c.2.2.2.2.2.1 ∧ c.2.2.2.2.2.1 ≤ 16777215) && (activeB c && swB c)) &&
    (queueFitsB c.2.2.1 (downI c) 24 && notBehindB c.2.2.1 c.2.2.2.1)))))
structure CombinerSz (c : TCombiner) : Prop where
  a : c.1.length ≤ big20
  q : c.2.2.1.length ≤ big20
  e : c.2.2.2.2.2.2.1.length ≤ big20
  r : ∀ x ∈ c.2.2.2.2.2.2.1, x.2.1 ≤ 9223372036854775807
theorem impl_IsCombiner_ok (c : TCombiner) (h : CombinerSz c) : impl_IsCombiner c = some (isCombinerB c, ()) := by
  unfold impl_IsCombiner isCombinerB
  rw [impl_IsCombos_ok _ h.a]
  cases hc : combosB c.1 with
  | false => rfl
  | true =>
    rw [impl_activeFits_ok c hc h.e h.a, impl_switchesDown_ok c h.e]
    simp only [Option.bind_some, cond_notb, cond_true, Bool.true_and, cond_range]
    cases decide (1 ≤ c.2.1 ∧ c.2.1 ≤ 200) with
    | false => rfl
    | true =>
      cases decide (0 ≤ c.2.2.2.1 ∧ c.2.2.2.1 ≤ 1000000) with
      | false => rfl
      | true =>
        cases decide (0 ≤ c.2.2.2.2.1 ∧ c.2.2.2.2.1 ≤ c.2.2.2.1) with
        | false => rfl
        | true =>
          cases decide (0 ≤ c.2.2.2.2.2.1 ∧ c.2.2.2.2.2.1 ≤ 16777215) with
          | false => rfl
          | true =>
            cases activeB c with
            | false => rfl
            | true =>
              cases swB c with
              | false => rfl
              | true =>
                simp only [cond_true, Bool.true_and]
                rw [impl_queueFits_ok _ _ _ h.q, impl_notBehind_ok _ _ h.q]
                cases queueFitsB c.2.2.1 (downI c) 24 <;> rfl
theorem spec_IsCombiner_ok (c : TCombiner) (h : CombinerSz c) : spec_IsCombiner c = some (isCombinerB c, ()) := by
  have h20 : big20 = 1048576 := rfl
  unfold spec_IsCombiner isCombinerB
  rw [spec_IsCombos_ok _ h.a]
  cases hc : combosB c.1 with
  | false => rfl
  | true =>
    rw [spec_l11Active_ok c h.r h.e h.a, spec_l11Held_ok c h.e]
    simp only [Option.bind_some, cond_notb, cond_true, Bool.true_and, spec_l1In_ok]
    cases decide (1 ≤ c.2.1 ∧ c.2.1 ≤ 200) with
    | false => rfl
    | true =>
      cases decide (0 ≤ c.2.2.2.1 ∧ c.2.2.2.1 ≤ 1000000) with
      | false => rfl
      | true =>
        cases decide (0 ≤ c.2.2.2.2.1 ∧ c.2.2.2.2.1 ≤ c.2.2.2.1) with
        | false => rfl
        | true =>
          cases (decide (0 ≤ c.2.2.2.2.2.1 ∧ c.2.2.2.2.2.1 ≤ 16777215) && (activeB c && swB c)) with
          | false => rfl
          | true =>
            simp only [cond_true, Bool.true_and]
            rw [spec_l10Follows_ok _ _ _ h.q]
            simp only [Option.bind_some]
            cases queueFitsB c.2.2.1 (downI c) 24 with
            | false => rfl
            | true =>
              simp only [cond_true, Bool.true_and, notBehindB]
              by_cases h0 : c.2.2.1.length = 0
              · have : (((c.2.2.1.length : Nat) : Int) == 0) = true := by simp [h0]
                rw [this]; rfl
              · obtain ⟨x, h1, h2⟩ := idx_last (l := c.2.2.1) (by omega) h.q
                have : (((c.2.2.1.length : Nat) : Int) == 0) = false := by
                  rw [beq_eq_false_iff_ne]; omega
                rw [this, h1]
                simp only [cond_false, Option.bind_some, Bool.false_or, h2]
end KF

namespace KF
open Go
set_option linter.unusedSimpArgs false
set_option linter.unusedVariables false

/-! ### What is down after a queue -/
def qdG (s : Int) (x : TEvent) : Int := cond x.2.2.1 (ior .i64 s (ishl .i64 1 x.2.1)) (iandn .i64 s (ishl .i64 1 x.2.1))
def qdI (d : Int) (q : List TEvent) : Int := foldK (fun _ s x => qdG s x) 0 d q
def tgG (s : Int) (x : TEvent) : Int := ixor .i64 s (ishl .i64 1 x.2.1)
def tgI (d : Int) (q : List TEvent) : Int := foldK (fun _ s x => tgG s x) 0 d q
theorem impl_queueDown_ok (d : Int) (q : List TEvent) (hn : q.length ≤ big20) (hx : ∀ x ∈ q, 0 ≤ x.2.1) : impl_queueDown d q = some (qdI d q, ()) := by
  have h20 : big20 = 1048576 := rfl
  have hl := (loopF_fold (step := fun x => impl_queueDown_2_R x.1.1 x.1.2.1 x.1.2.2.1 x.1.2.2.2.1) q (fun _ s x => qdG s x) (fun s i => ((s, q, ((List.length q : Nat) : Int), i, ()), ()))
    (fun s => .inl ((s, ()), ())) (fun _ _ => True) (by
      intro k hk s _
      refine ⟨?_, trivial⟩
      simp only [impl_queueDown_2_R]
      rw [dec_true (show (k : Int) < ((List.length q : Nat) : Int) by omega), idx_lt hk]
      simp only [cond_true, Option.bind_some]
      rw [dec_true (hx _ (List.getElem_mem hk))]
      unfold qdG
      cases q[k].2.2.1 <;> rfl) (by
      intro s _
      simp only [impl_queueDown_2_R]
      rw [dec_false (by omega)]; rfl) (by omega) d trivial).1
  unfold impl_queueDown impl_queueDown_2_loop qdI
  erw [hl]; rfl
theorem spec_l10Bit_ok {k : Int} (h : 0 ≤ k ∧ k ≤ 31) : spec_l10Bit k = some (ishl .i64 1 k, ()) := by
  unfold spec_l10Bit
  rw [spec_l1In_ok, dec_true h, dec_true h.1]; rfl
theorem spec_l17Toggled_ok (d : Int) (q : List TEvent) (hn : q.length ≤ big20) (hx : ∀ x ∈ q, 0 ≤ x.2.1 ∧ x.2.1 ≤ 31) : spec_l17Toggled d q = some (tgI d q, ()) := by
  have h20 : big20 = 1048576 := rfl
  have hl := (loopF_fold (step := fun x => spec_l17Toggled_2_R x.1.1 x.1.2.1 x.1.2.2.1) q (fun _ s x => tgG s x) (fun s i => ((s, q, i, ()), ()))
    (fun s => .inl ((s, ()), ())) (fun _ _ => True) (by
      intro k hk s _
      refine ⟨?_, trivial⟩
      simp only [spec_l17Toggled_2_R]
      rw [dec_true (show (k : Int) < ((List.length q : Nat) : Int) by omega), idx_lt hk]
      simp only [cond_true, Option.bind_some]
      rw [spec_l10Bit_ok (hx _ (List.getElem_mem hk))]; rfl) (by
      intro s _
      simp only [spec_l17Toggled_2_R]
      rw [dec_false (by omega)]; rfl) (by omega) d trivial).1
  unfold spec_l17Toggled spec_l17Toggled_2_loop tgI
  erw [hl]; rfl
theorem fol_events : ∀ {q : List TEvent} {k : Nat} {s : Int × Int}, isL (foldE (fun _ s x => folG s x) k s q) = true → ∀ x ∈ q, isEventB x = true
  | [], _, _, _, x, hx => by simp at hx
  | y :: q, k, s, h, x, hx => by
    simp only [foldE, folG] at h
    cases hc : folOkB s y with
    | false => rw [hc] at h; simp [isL] at h
    | true =>
      rw [hc] at h
      rcases List.mem_cons.1 hx with rfl | hx
      · simp only [folOkB, Bool.and_eq_true] at hc; exact hc.1
      · exact fol_events h x hx
theorem qd_tg : ∀ (q : List TEvent) (k : Nat) (t : Int) (d : Nat), d < 2 ^ 63 → isL (foldE (fun _ s x => folG s x) k (t, (d : Int)) q) = true →
    foldK (fun _ s x => qdG s x) k (d : Int) q = foldK (fun _ s x => tgG s x) k (d : Int) q
  | [], _, _, _, _, _ => rfl
  | x :: q, k, t, d, hd, h => by
    simp only [foldE, folG] at h
    cases hc : folOkB (t, (d : Int)) x with
    | false => rw [hc] at h; simp [isL] at h
    | true =>
      rw [hc] at h
      simp only [cond_true] at h
      simp only [folOkB, Bool.and_eq_true, Bool.not_eq_true'] at hc
      have hk := event_key hc.1
      obtain ⟨n, hn⟩ := Int.eq_ofNat_of_zero_le hk.2.2.1
      have hn31 : n ≤ 31 := by omega
      have e : qdG (d : Int) x = tgG (d : Int) x := by
        unfold qdG tgG
        have hb := hc.2.2
        rw [hn] at hb ⊢
        cases hp : x.2.2.1 with
        | true =>
          rw [hp] at hb
          exact or_xor hd (by omega) (by cases hz : (bitI (d : Int) (n : Int) == 1) with
            | false => rfl
            | true => rw [hz] at hb; simp at hb)
        | false =>
          rw [hp] at hb
          exact andn_xor hd (by omega) (by cases hz : (bitI (d : Int) (n : Int) == 1) with
            | true => rfl
            | false => rw [hz] at hb; simp at hb)
      obtain ⟨b, hb1, hb2⟩ := xor_one_nat (a := d) (k := n) hd (by omega)
      have hg : tgG (d : Int) x = (b : Int) := by unfold tgG; rw [hn]; exact hb1
      simp only [foldK]
      rw [e, hg]
      rw [hn, hb1] at h
      exact qd_tg q (k + 1) x.1 b hb2 h
theorem fits_fol {q : List TEvent} {d keys : Int} (h : queueFitsB q d keys = true) : isL (foldE (fun _ s x => folG s x) 0 (0, d) q) = true := by
  simp only [queueFitsB, followI, folR, Bool.and_eq_true] at h
  have h2 := h.2
  cases hf : foldE (fun _ s x => folG s x) 0 (0, d) q with
  | inl s => rfl
  | inr u => rw [hf] at h2; cases hd : decide (q.length ≤ 64) <;> rw [hd] at h2 <;> simp at h2
theorem fits_qd {q : List TEvent} {d keys : Int} (hd : 0 ≤ d ∧ d ≤ 9223372036854775807) (h : queueFitsB q d keys = true) : (∀ x ∈ q, 0 ≤ x.2.1 ∧ x.2.1 ≤ 31) ∧ qdI d q = tgI d q := by
  have hf := fits_fol h
  refine ⟨fun x hx => ?_, ?_⟩
  · have := event_key (fol_events hf x hx); omega
  · obtain ⟨n, rfl⟩ := Int.eq_ofNat_of_zero_le hd.1
    exact qd_tg q 0 0 n (by rw [p63]; omega) hf

/-! ### Masks that are not negative -/
theorem mask_nat : ∀ (l : List THeld) (k : Nat) (s : Nat), s < 2 ^ 63 → (∀ x ∈ l, HeldOk x) → ∃ m : Nat, foldK (fun _ s (x : THeld) => ior .i64 s (ishl .i64 1 x.1)) k (s : Int) l = (m : Int) ∧ m < 2 ^ 63
  | [], _, s, hs, _ => ⟨s, rfl, hs⟩
  | x :: l, k, s, hs, h => by
    have hx := h x (by simp)
    obtain ⟨n, hn⟩ := Int.eq_ofNat_of_zero_le hx.lo
    have := hx.hi
    simp only [foldK]
    rw [hn, shl_one (by omega), ior_nat hs (one_lt (by omega))]
    exact mask_nat l (k + 1) _ (Nat.or_lt_two_pow hs (one_lt (by omega))) (fun y hy => h y (by simp [hy]))
theorem or_nat : ∀ (l : List TEvent) (k : Nat) (s : Nat), s < 2 ^ 63 → (∀ x ∈ l, 0 ≤ x.2.1 ∧ x.2.1 ≤ 9223372036854775807) → ∃ m : Nat, orK k (s : Int) l = (m : Int) ∧ m < 2 ^ 63
  | [], _, s, hs, _ => ⟨s, rfl, hs⟩
  | x :: l, k, s, hs, h => by
    have hx := h x (by simp)
    obtain ⟨n, hn⟩ := Int.eq_ofNat_of_zero_le hx.1
    have hn2 : n < 2 ^ 63 := by rw [p63]; omega
    have := or_nat l (k + 1) (s ||| n) (Nat.or_lt_two_pow hs hn2) (fun y hy => h y (by simp [hy]))
    simp only [orK, foldK] at this ⊢
    rw [hn, ior_nat hs hn2]
    exact this
theorem act_all {L : List TCombo} : ∀ {l pre : List TEvent}, actAll L pre l = true → ∀ x ∈ l, okF L x = true
  | [], _, _, x, hx => by simp at hx
  | y :: l, pre, h, x, hx => by
    simp only [actAll, Bool.and_eq_true] at h
    rcases List.mem_cons.1 hx with rfl | hx
    · exact h.1.1
    · exact act_all h.2 x hx
structure ActOk (x : TEvent) : Prop where
  lo : 0 ≤ x.1
  hi : x.1 ≤ 31
  left : 0 ≤ x.2.1
theorem combiner_acts {c : TCombiner} (h : isCombinerB c = true) : ∀ x ∈ c.2.2.2.2.2.2.1, ActOk x := by
  intro x hx
  simp only [isCombinerB, Bool.and_eq_true] at h
  have h1 := act_all (l := c.2.2.2.2.2.2.1) h.2.2.2.2.1.2.1 x hx
  simp only [okF, Bool.and_eq_true] at h1
  have h2 := combo_in h.1 h1.1
  have h3 := h1.2
  simp only [okA, Bool.and_eq_true, Bool.not_eq_true', decide_eq_false_iff_not] at h3
  exact ⟨by omega, by omega, by omega⟩
theorem combiner_down {c : TCombiner} (hz : CombinerSz c) (h : isCombinerB c = true) : 0 ≤ downI c ∧ downI c ≤ 9223372036854775807 := by
  have ha := combiner_acts h
  simp only [isCombinerB, Bool.and_eq_true, decide_eq_true_eq] at h
  have h1 := h.2.2.2.2.1.1
  obtain ⟨n, hn⟩ := Int.eq_ofNat_of_zero_le h1.1
  obtain ⟨m, hm, hm2⟩ := or_nat c.2.2.2.2.2.2.1 0 n (by rw [p63]; omega) (fun x hx => ⟨(ha x hx).left, hz.r x hx⟩)
  rw [p63] at hm2
  unfold downI
  rw [hn, hm]
  omega

/-! ### What is given on -/
def gvG (s : Int) (x : TEvent) : Int := cond x.2.2.1 (ior .i64 s (ishl .i64 1 x.1)) s
def gvI (c : TCombiner) : Int := foldK (fun _ s x => gvG s x) 0 c.2.2.2.2.2.1 c.2.2.2.2.2.2.1
theorem spec_l17Out_ok (c : TCombiner) (hn : c.2.2.2.2.2.2.1.length ≤ big20) (ha : ∀ x ∈ c.2.2.2.2.2.2.1, ActOk x) : spec_l17Out c = some (gvI c, ()) := by
  have h20 : big20 = 1048576 := rfl
  have hl := (loopF_fold (step := fun x => spec_l17Out_3_R x.1.1 x.1.2.1 x.1.2.2.1 x.2.1) c.2.2.2.2.2.2.1 (fun _ s x => gvG s x) (fun s i => (((), s, i, ()), (c, ())))
    (fun s => .inl ((s, ()), ())) (fun _ _ => True) (by
      intro k hk s _
      refine ⟨?_, trivial⟩
      have hx := ha _ (List.getElem_mem hk)
      simp only [spec_l17Out_3_R]
      rw [dec_true (show (k : Int) < ((List.length c.2.2.2.2.2.2.1 : Nat) : Int) by omega), idx_lt hk]
      simp only [cond_true, Option.bind_some]
      rw [spec_l10Bit_ok ⟨hx.lo, hx.hi⟩]
      unfold gvG
      cases c.2.2.2.2.2.2.1[k].2.2.1 <;> rfl) (by
      intro s _
      simp only [spec_l17Out_3_R]
      rw [dec_false (by omega)]; rfl) (by omega) c.2.2.2.2.2.1 trivial).1
  unfold spec_l17Out spec_l17Out_3_loop gvI
  erw [hl]; rfl
theorem impl_given_ok (b : TBoard) (t : Int) (hn : b.2.2.1.2.2.2.2.2.2.1.length ≤ big20) (ha : ∀ x ∈ b.2.2.1.2.2.2.2.2.2.1, ActOk x) :
    impl_IsBoard_17_loop (((), t, b.2.2.1.2.2.2.2.2.1, b.2.2.1.2.2.2.2.2.2.1, ((List.length b.2.2.1.2.2.2.2.2.2.1 : Nat) : Int), (0 : Int), ()), (b, ())) = some (.inl (((), t, gvI b.2.2.1, ()), (b, ()))) := by
  have h20 : big20 = 1048576 := rfl
  have hl := (loopF_fold (step := fun x => impl_IsBoard_17_R x.1.1 x.1.2.1 x.1.2.2.1 x.1.2.2.2.1 x.1.2.2.2.2.1 x.1.2.2.2.2.2.1 x.2.1) b.2.2.1.2.2.2.2.2.2.1 (fun _ s x => gvG s x) (fun s i => (((), t, s, b.2.2.1.2.2.2.2.2.2.1, ((List.length b.2.2.1.2.2.2.2.2.2.1 : Nat) : Int), i, ()), (b, ())))
    (fun s => .inl (((), t, s, ()), (b, ()))) (fun _ _ => True) (by
      intro k hk s _
      refine ⟨?_, trivial⟩
      have hx := ha _ (List.getElem_mem hk)
      simp only [impl_IsBoard_17_R]
      rw [dec_true (show (k : Int) < ((List.length b.2.2.1.2.2.2.2.2.2.1 : Nat) : Int) by omega), idx_lt hk]
      simp only [cond_true, Option.bind_some]
      rw [dec_true hx.lo]
      unfold gvG
      cases b.2.2.1.2.2.2.2.2.2.1[k].2.2.1 <;> rfl) (by
      intro s _
      simp only [impl_IsBoard_17_R]
      rw [dec_false (by omega)]; rfl) (by omega) b.2.2.1.2.2.2.2.2.1 trivial).1
  unfold impl_IsBoard_17_loop gvI
  exact hl

/-! ### Boards -/
def inBoardB (m : TMatrix) (keys : Int) (L : List TCombo) : Bool := allK (fun _ (x : TCombo) => isMaskB m x.1 && !decide (x.2.1 ≥ keys)) 0 L
noncomputable def isBoardB (b : TBoard) : Bool :=
  isMatrixB b.1 && (isDebouncerB b.2.1 && (isCombinerB b.2.2.1 && (isDeciderB b.2.2.2.1 && ((b.2.1.2.2.1 == keyCountI b.1) && (!decide (b.2.2.2.1.1.1.1 < keyCountI b.1) && (isMaskB b.1 b.2.2.2.2.1 &&
    (inBoardB b.1 b.2.2.2.1.1.1.1 b.2.2.1.1 && (decide (0 ≤ b.2.2.2.2.2.1 ∧ b.2.2.2.2.2.1 ≤ 1000000) && (!decide (b.2.2.1.2.2.2.1 > b.2.2.2.2.2.1) && (!decide (b.2.2.2.1.2.2.2.1 > b.2.2.2.2.2.1) &&
    ((tgI (downI b.2.2.1) b.2.2.1.2.2.1 == b.2.1.2.2.2.1) && (tgI (maskI b.2.2.2.1.1.2.2.2.1) b.2.2.2.1.2.2.1 == gvI b.2.2.1))))))))))))
structure BoardSz (b : TBoard) : Prop where
  d : b.2.1.2.2.2.2.2.1.length ≤ big20
  c : CombinerSz b.2.2.1
  x : szT tDecider b.2.2.2.1 ≤ big20
theorem impl_IsBoard_ok (b : TBoard) (h : BoardSz b) : impl_IsBoard b = some (isBoardB b, ()) := by
  have h20 : big20 = 1048576 := rfl
  have hq := h.x
  rw [dec_sz, szEvents, eng_sz, szHelds] at hq
  have hn1 := h.c.a
  have hl := loopF_all (step := fun x => impl_IsBoard_7_R x.1.1 x.1.2.1 x.1.2.2.1 x.1.2.2.2.1 x.1.2.2.2.2.1 x.2.1) b.2.2.1.1 (fun _ (x : TCombo) => isMaskB b.1 x.1 && !decide (x.2.1 ≥ b.2.2.2.1.1.1.1)) (fun i => (((), b.2.2.2.1.1.1.1, b.2.2.1.1, ((List.length b.2.2.1.1 : Nat) : Int), i, ()), (b, ())))
    (.inl (((), ()), (b, ()))) (.inr ((false, ()), ())) (by
      intro k hk
      simp only [impl_IsBoard_7_R]
      rw [dec_true (show (k : Int) < ((List.length b.2.2.1.1 : Nat) : Int) by omega), idx_lt hk]
      simp only [cond_true, Option.bind_some, impl_IsMask_ok]
      cases isMaskB b.1 b.2.2.1.1[k].1 <;> cases decide (b.2.2.1.1[k].2.1 ≥ b.2.2.2.1.1.1.1) <;> rfl) (by
      simp only [impl_IsBoard_7_R]
      rw [dec_false (by omega)]; rfl) (by omega)
  unfold impl_IsBoard impl_IsBoard_7_loop isBoardB
  rw [impl_IsMatrix_ok, impl_IsDebouncer_ok _ h.d, impl_IsCombiner_ok _ h.c, impl_IsDecider_ok _ h.x, impl_KeyCount_ok, impl_IsMask_ok]
  simp only [Option.bind_some, cond_notb, bne]
  cases isMatrixB b.1 with
  | false => rfl
  | true =>
    cases isDebouncerB b.2.1 with
    | false => rfl
    | true =>
      cases hc : isCombinerB b.2.2.1 with
      | false => rfl
      | true =>
        cases hd : isDeciderB b.2.2.2.1 with
        | false => rfl
        | true =>
          cases b.2.1.2.2.1 == keyCountI b.1 with
          | false => rfl
          | true =>
            cases decide (b.2.2.2.1.1.1.1 < keyCountI b.1) with
            | true => rfl
            | false =>
              cases isMaskB b.1 b.2.2.2.2.1 with
              | false => rfl
              | true =>
                simp only [cond_true, cond_false, Bool.true_and, Bool.not_false]
                erw [hl]
                unfold inBoardB
                cases allK (fun _ (x : TCombo) => isMaskB b.1 x.1 && !decide (x.2.1 ≥ b.2.2.2.1.1.1.1)) 0 b.2.2.1.1 with
                | false => rfl
                | true =>
                  have ha := combiner_acts hc
                  have hdn := combiner_down h.c hc
                  have hc2 := hc
                  simp only [isCombinerB, Bool.and_eq_true] at hc2
                  have hf := fits_qd hdn hc2.2.2.2.2.2.1
                  have hd2 := hd
                  simp only [isDeciderB, Bool.and_eq_true] at hd2
                  have hh := isHeld_ok (engine_held hd2.1)
                  obtain ⟨m, hm, hm2⟩ := mask_nat b.2.2.2.1.1.2.2.2.1 0 0 (by decide) hh
                  rw [p63] at hm2
                  have hm' : maskI b.2.2.2.1.1.2.2.2.1 = (m : Int) := hm
                  have hf2 := fits_qd (by rw [hm']; omega) hd2.2.2.2.2.1
                  simp only [cond_true, Option.bind_some, Sum.elim_inl, cond_range]
                  rw [impl_switchesDown_ok _ h.c.e, hc2.2.2.2.2.1.2.2]
                  simp only [cond_true, Option.bind_some]
                  rw [impl_given_ok _ _ h.c.e ha]
                  simp only [Option.bind_some, Sum.elim_inl]
                  rw [impl_queueDown_ok _ _ h.c.q (fun x hx => (hf.1 x hx).1), hf.2]
                  simp only [Option.bind_some]
                  rw [impl_heldMask_ok _ (by omega) hh]
                  simp only [Option.bind_some]
                  rw [impl_queueDown_ok _ _ (by omega) (fun x hx => (hf2.1 x hx).1), hf2.2]
                  simp only [Option.bind_some, Bool.true_and]
                  cases decide (0 ≤ b.2.2.2.2.2.1 ∧ b.2.2.2.2.2.1 ≤ 1000000) <;> cases decide (b.2.2.1.2.2.2.1 > b.2.2.2.2.2.1) <;> cases decide (b.2.2.2.1.2.2.2.1 > b.2.2.2.2.2.1) <;> cases (tgI (downI b.2.2.1) b.2.2.1.2.2.1 == b.2.1.2.2.2.1) <;> rfl
theorem spec_IsBoard_ok (b : TBoard) (h : BoardSz b) : spec_IsBoard b = some (isBoardB b, ()) := by
  have h20 : big20 = 1048576 := rfl
  have hq := h.x
  rw [dec_sz, szEvents, eng_sz, szHelds] at hq
  have hn1 := h.c.a
  have hl := loopF_all (step := fun x => spec_IsBoard_6_R x.1.1 x.1.2.1 x.1.2.2.1 x.2.1) b.2.2.1.1 (fun _ (x : TCombo) => isMaskB b.1 x.1 && !decide (x.2.1 ≥ b.2.2.2.1.1.1.1)) (fun i => (((), b.2.2.2.1.1.1.1, i, ()), (b, ())))
    (.inl (((), ()), (b, ()))) (.inr ((false, ()), ())) (by
      intro k hk
      simp only [spec_IsBoard_6_R]
      rw [dec_true (show (k : Int) < ((List.length b.2.2.1.1 : Nat) : Int) by omega), idx_lt hk]
      simp only [cond_true, Option.bind_some, spec_IsMask_ok]
      cases isMaskB b.1 b.2.2.1.1[k].1 <;> cases decide (b.2.2.1.1[k].2.1 ≥ b.2.2.2.1.1.1.1) <;> rfl) (by
      simp only [spec_IsBoard_6_R]
      rw [dec_false (by omega)]; rfl) (by omega)
  unfold spec_IsBoard spec_IsBoard_6_loop isBoardB
  rw [spec_IsDebouncer_ok _ h.d, spec_IsCombiner_ok _ h.c, spec_IsDecider_ok _ h.x, spec_KeyCount_ok, spec_IsMask_ok]
  simp only [Option.bind_some, cond_notb, bne]
  cases hmat : isMatrixB b.1 with
  | false =>
    have : keyCountI b.1 = 0 := by unfold keyCountI; rw [hmat]; rfl
    rw [this]; rfl
  | true =>
    have hk := kc_bd hmat
    have : (keyCountI b.1 == 0) = false := by rw [beq_eq_false_iff_ne]; omega
    rw [this]
    cases isDebouncerB b.2.1 with
    | false => rfl
    | true =>
      cases b.2.1.2.2.1 == keyCountI b.1 with
      | false => cases isCombinerB b.2.2.1 <;> cases isDeciderB b.2.2.2.1 <;> rfl
      | true =>
        cases isMaskB b.1 b.2.2.2.2.1 with
        | false => cases isCombinerB b.2.2.1 <;> cases isDeciderB b.2.2.2.1 <;> cases decide (b.2.2.2.1.1.1.1 < keyCountI b.1) <;> rfl
        | true =>
          cases hc : isCombinerB b.2.2.1 with
          | false => rfl
          | true =>
            cases hd : isDeciderB b.2.2.2.1 with
            | false => rfl
            | true =>
              cases decide (b.2.2.2.1.1.1.1 < keyCountI b.1) with
              | true => rfl
              | false =>
                simp only [cond_true, cond_false, Bool.true_and, Bool.not_false]
                erw [hl]
                unfold inBoardB
                cases allK (fun _ (x : TCombo) => isMaskB b.1 x.1 && !decide (x.2.1 ≥ b.2.2.2.1.1.1.1)) 0 b.2.2.1.1 with
                | false => rfl
                | true =>
                  have ha := combiner_acts hc
                  have hdn := combiner_down h.c hc
                  have hc2 := hc
                  simp only [isCombinerB, Bool.and_eq_true] at hc2
                  have hf := fits_qd hdn hc2.2.2.2.2.2.1
                  have hd2 := hd
                  simp only [isDeciderB, Bool.and_eq_true] at hd2
                  have hh := isHeld_ok (engine_held hd2.1)
                  obtain ⟨m, hm, hm2⟩ := mask_nat b.2.2.2.1.1.2.2.2.1 0 0 (by decide) hh
                  rw [p63] at hm2
                  have hm' : maskI b.2.2.2.1.1.2.2.2.1 = (m : Int) := hm
                  have hf2 := fits_qd (by rw [hm']; omega) hd2.2.2.2.2.1
                  simp only [cond_true, Option.bind_some, Sum.elim_inl, spec_l1In_ok, cond_notb]
                  rw [spec_l11Held_ok _ h.c.e]
                  simp only [cond_true, Option.bind_some]
                  rw [spec_l17Toggled_ok _ _ h.c.q hf.1]
                  simp only [Option.bind_some]
                  rw [spec_l10Held_ok _ (by omega) hh]
                  simp only [Option.bind_some]
                  rw [spec_l17Toggled_ok _ _ (by omega) hf2.1, spec_l17Out_ok _ h.c.e ha]
                  simp only [Option.bind_some, Bool.true_and]
                  cases decide (0 ≤ b.2.2.2.2.2.1 ∧ b.2.2.2.2.2.1 ≤ 1000000) <;> cases decide (b.2.2.1.2.2.2.1 > b.2.2.2.2.2.1) <;> cases decide (b.2.2.2.1.2.2.2.1 > b.2.2.2.2.2.1) <;> cases (tgI (downI b.2.2.1) b.2.2.1.2.2.1 == b.2.1.2.2.2.1) <;> rfl
/-! ### Sizes -/
theorem deb_sz (d : TDebouncer) : szT tDebouncer d = d.2.2.2.2.2.1.length := by
  have := szInts d.2.2.2.2.2.1
  simp only [szT, Nat.add_zero, Nat.zero_add] at this ⊢
  exact this
theorem comb_sz (c : TCombiner) : szT tCombiner c = c.1.length + (c.2.2.1.length + c.2.2.2.2.2.2.1.length) := by
  have h1 := szT_flat (e := tCombo) rfl c.1
  have h2 := szT_flat (e := tEvent) rfl c.2.2.1
  have h3 := szT_flat (e := tEvent) rfl c.2.2.2.2.2.2.1
  simp only [szT, Nat.add_zero, Nat.zero_add] at h1 h2 h3 ⊢
  rw [h1, h2, h3]
theorem comb_ok (c : TCombiner) (hr : Rng tCombiner c) (hz : szT tCombiner c ≤ big20) : CombinerSz c := by
  rw [comb_sz] at hz
  refine ⟨by omega, by omega, by omega, fun x hx => ?_⟩
  obtain ⟨i, hi, rfl⟩ := List.getElem_of_mem hx
  have h1 := hr.2.2.2.2.2.2.1.2 i hi
  exact h1.2.1.2
theorem board_sz (b : TBoard) : szT tBoard b = szT tDebouncer b.2.1 + (szT tCombiner b.2.2.1 + szT tDecider b.2.2.2.1) := by
  simp only [szT, Nat.add_zero, Nat.zero_add]
theorem board_ok (b : TBoard) (hr : Rng tBoard b) (hz : szT tBoard b ≤ big20) : BoardSz b := by
  rw [board_sz, deb_sz] at hz
  exact ⟨by omega, comb_ok _ hr.2.2.1 (by omega), by omega⟩
theorem IsBoard_same (b : TBoard) (hr : Rng tBoard b) (hz : szT tBoard b ≤ big20) : ∃ w, spec_IsBoard b = some (w, ()) ∧ impl_IsBoard b = some (w, ()) :=
  ⟨_, spec_IsBoard_ok b (board_ok b hr hz), impl_IsBoard_ok b (board_ok b hr hz)⟩
end KF

namespace KF
open Go
theorem krow_len {m : TKeymap} (hz : szT tKeymap m ≤ big20) : List.length m.2.1 ≤ big20 ∧ ∀ k (hk : k < m.2.1.length), m.2.1[k].length ≤ big20 := by
  have h0 : szT tKeymap m = 0 + (szT (.sl (.sl tAction)) m.2.1 + 0) := rfl
  have h1 : szT (.sl (.sl tAction)) m.2.1 = List.length m.2.1 + (List.map (szT (.sl tAction)) m.2.1).sum := rfl
  refine ⟨by omega, fun k hk => ?_⟩
  have h2 := sum_map_le (f := szT (.sl tAction)) hk
  rw [szActs] at h2
  omega
theorem impl_copyKeymap_ok (m : TKeymap) (hz : szT tKeymap m ≤ big20) : impl_copyKeymap m = some (m, ()) := by
  have h20 : big20 = 1048576 := rfl
  obtain ⟨h1, h2⟩ := krow_len hz
  have hl := loopF_map (step := fun x : (Unit × Unit × List (List TAction) × Int × Int × Unit) × TKeymap × TKeymap × Unit => impl_copyKeymap_3_R x.1.1 x.1.2.1 x.1.2.2.1 x.1.2.2.2.1 x.1.2.2.2.2.1 x.2.1 x.2.2.1) m.2.1 (fun x => x)
    (fun o k => (((), (), m.2.1, (m.2.1.length : Int), k, ()), ((0, [], ()), (m.1, o, ()), ()))) (fun o => .inl (((), (), ()), ((0, [], ()), (m.1, o, ()), ()))) (by omega) (fun k hk o ho => by
      have := h2 k hk
      simp only [impl_copyKeymap_3_R]
      rw [dec_true (by omega), idx_lt hk]
      simp only [cond_true, Option.bind_some]
      rw [lim_ok (by simp; omega), lim_ok (by simp only [List.length_cons, List.length_nil]; omega)]
      rfl) (fun o => by
      simp only [impl_copyKeymap_3_R]
      rw [dec_false (by omega)]
      rfl)
  unfold impl_copyKeymap impl_copyKeymap_3_loop
  erw [hl]
  rw [List.map_id']
  rfl
theorem spec_l6Copy_ok (m : TKeymap) (hz : szT tKeymap m ≤ big20) : spec_l6Copy m = some (m, ()) := by
  have h20 : big20 = 1048576 := rfl
  obtain ⟨h1, h2⟩ := krow_len hz
  have hl := loopF_map (step := fun x : (Unit × Unit × Unit × Int × Unit) × TKeymap × TKeymap × TKeymap × Unit => spec_l6Copy_3_R x.1.1 x.1.2.1 x.1.2.2.1 x.1.2.2.2.1 x.2.1 x.2.2.1 x.2.2.2.1) m.2.1 (fun x => x)
    (fun o k => (((), (), (), k, ()), (m, (0, [], ()), (m.1, o, ()), ()))) (fun o => .inl (((), (), ()), ((0, [], ()), (m.1, o, ()), ()))) (by omega) (fun k hk o ho => by
      have := h2 k hk
      simp only [spec_l6Copy_3_R]
      rw [dec_true (by omega), idx_lt hk]
      simp only [cond_true, Option.bind_some]
      rw [lim_ok (by simp; omega), lim_ok (by simp only [List.length_cons, List.length_nil]; omega)]
      rfl) (fun o => by
      simp only [spec_l6Copy_3_R]
      rw [dec_false (by omega)]
      rfl)
  unfold spec_l6Copy spec_l6Copy_3_loop
  erw [hl]
  rw [List.map_id']
  rfl
noncomputable def packL (a : TAction) : List Int := cond (isActionB a) [IntKind.wrap .u8 (IntKind.wrap .i64 (IntKind.wrap .i64 (16 * a.1) + a.2.2.2.1)), IntKind.wrap .u8 a.2.1, IntKind.wrap .u8 a.2.2.1] []
theorem packL_len (a : TAction) : (packL a).length ≤ 3 := by unfold packL; cases isActionB a <;> simp
theorem impl_PackAction_ok (a : TAction) : impl_PackAction a = some (packL a, ()) := by
  unfold impl_PackAction packL
  rw [impl_IsAction_ok]
  cases isActionB a <;> rfl
theorem spec_PackAction_ok (a : TAction) : spec_PackAction a = some (packL a, ()) := by
  unfold spec_PackAction packL
  rw [spec_IsAction_ok]
  cases isActionB a <;> rfl
theorem cons_len {α : Type} {l : List α} {n : Nat} (h : l.length = n + 1) : ∃ a r, l = a :: r ∧ r.length = n := by
  cases l with
  | nil => simp at h
  | cons a r => exact ⟨a, r, rfl, by simpa using h⟩
theorem Unpack_same (l : List Int) : ∃ a b, spec_UnpackAction l = some (a, b, ()) ∧ impl_UnpackAction l = some (a, b, ()) := by
  unfold spec_UnpackAction impl_UnpackAction
  by_cases h : l.length = 3
  case neg =>
    have : (((List.length l : Nat) : Int) != (3 : Int)) = true := by
      rw [bne_iff_ne]; omega
    rw [this]
    exact ⟨_, _, rfl, rfl⟩
  obtain ⟨p, r, rfl, h1⟩ := cons_len h
  obtain ⟨q, r, rfl, h2⟩ := cons_len h1
  obtain ⟨s, r, rfl, h3⟩ := cons_len h2
  have hr : r = [] := List.eq_nil_of_length_eq_zero h3
  subst hr
  rw [show (((List.length [p, q, s] : Nat) : Int) != (3 : Int)) = false from rfl, show idx [p, q, s] 0 = some p from rfl, show idx [p, q, s] 1 = some q from rfl, show idx [p, q, s] 2 = some s from rfl,
    show ((16 : Int) == 0) = false from rfl]
  simp only [cond_false, Option.bind_some, spec_IsAction_ok, impl_IsAction_ok]
  cases isActionB _ <;> exact ⟨_, _, rfl, rfl⟩

def setM (m : TKeymap) (i k : Int) (a : TAction) : TKeymap := (m.1, List.set m.2.1 i.toNat (List.set (m.2.1.getD i.toNat []) k.toNat a), ())
noncomputable def setB (m : TKeymap) (i k : Int) (a : TAction) : Bool := (isKeymapB m && decide (0 ≤ i ∧ i < m.2.1.length) && decide (0 ≤ k ∧ k < m.1)) && isKeymapB (setM m i k a)
theorem sum_set {α : Type} {f : α → Nat} : ∀ {xs : List α} {i : Nat} {y : α} (hi : i < xs.length), f y = f xs[i] → ((xs.set i y).map f).sum = (xs.map f).sum
  | x :: r, 0, y, _, h => by simpa using h
  | x :: r, i + 1, y, hi, h => by
    have := sum_set (xs := r) (i := i) (y := y) (by simpa using hi) (by simpa using h)
    rw [List.set_cons_succ, List.map_cons, List.sum_cons, this, List.map_cons, List.sum_cons]
theorem setM_sz {m : TKeymap} {i k : Int} (a : TAction) (hi : 0 ≤ i ∧ i < m.2.1.length) : szT tKeymap (setM m i k a) = szT tKeymap m := by
  show 0 + ((List.length (List.set m.2.1 i.toNat _) + (List.map (szT (.sl tAction)) (List.set m.2.1 i.toNat _)).sum) + 0) = 0 + ((List.length m.2.1 + (List.map (szT (.sl tAction)) m.2.1).sum) + 0)
  have hi' : i.toNat < m.2.1.length := by omega
  rw [List.length_set, sum_set hi']
  rw [szActs, szActs, List.length_set, List.getD_eq_getElem?_getD, List.getElem?_eq_getElem hi']
  rfl
theorem spec_SetAction_ok (m : TKeymap) (i k : Int) (a : TAction) (hz : szT tKeymap m ≤ big20) :
    spec_SetAction m i k a = some (cond (setB m i k a) (setM m i k a) (0, [], ()), setB m i k a, ()) := by
  have h20 : big20 = 1048576 := rfl
  obtain ⟨h1, h2⟩ := krow_len hz
  unfold spec_SetAction setB
  rw [spec_IsKeymap_ok m hz]
  cases hv : isKeymapB m with
  | false => rfl
  | true =>
    have hm := keymap_ok hv
    simp only [Option.bind_some, Bool.not_true, cond_false, spec_l1In_ok, Bool.true_and]
    rw [wrap64 (by omega) (by omega), wrap64 (by have := hm.k1; have := hm.k2; omega) (by have := hm.k1; have := hm.k2; omega)]
    by_cases hi : 0 ≤ i ∧ i < m.2.1.length
    case neg => rw [dec_false hi, dec_false (by omega)]; rfl
    rw [dec_true hi, dec_true (show 0 ≤ i ∧ i ≤ (m.2.1.length : Int) - 1 by omega)]
    by_cases hk : 0 ≤ k ∧ k < m.1
    case neg => rw [dec_false hk, dec_false (by omega)]; rfl
    rw [dec_true hk, dec_true (show 0 ≤ k ∧ k ≤ m.1 - 1 by omega), spec_l6Copy_ok m hz]
    have hi' : i.toNat < m.2.1.length := by omega
    have hrow := hm.row i.toNat hi'
    have hk' : k.toNat < m.2.1[i.toNat].length := by omega
    have e1 : inb (List.length m.2.1) i = true := by
      rw [show i = ((i.toNat : Nat) : Int) by omega, inb_nat]; exact dec_true hi'
    have e2 : inb (List.length m.2.1[i.toNat]) k = true := by
      rw [show k = ((k.toNat : Nat) : Int) by omega, inb_nat]; exact dec_true hk'
    have e3 : setM m i k a = (m.1, List.set m.2.1 i.toNat (List.set m.2.1[i.toNat] k.toNat a), ()) := by
      unfold setM; rw [List.getD_eq_getElem?_getD, List.getElem?_eq_getElem hi']; rfl
    have e4 := setM_sz a hi (k := k)
    simp only [Option.bind_some, Bool.not_true, cond_false, cond_true, e1, List.getElem?_eq_getElem hi', e2, List.getElem?_eq_getElem hk']
    rw [← e3, spec_IsKeymap_ok _ (by omega)]
    cases isKeymapB (setM m i k a) <;> rfl
theorem impl_SetAction_ok (m : TKeymap) (i k : Int) (a : TAction) (hz : szT tKeymap m ≤ big20) :
    impl_SetAction m i k a = some (cond (setB m i k a) (setM m i k a) (0, [], ()), setB m i k a, ()) := by
  have h20 : big20 = 1048576 := rfl
  obtain ⟨h1, h2⟩ := krow_len hz
  unfold impl_SetAction setB
  rw [impl_IsKeymap_ok m hz]
  cases hv : isKeymapB m with
  | false => rfl
  | true =>
    have hm := keymap_ok hv
    simp only [Option.bind_some, Bool.not_true, cond_false, Bool.true_and]
    by_cases hi : 0 ≤ i ∧ i < m.2.1.length
    case neg =>
      rw [dec_false hi]
      by_cases hi0 : i < 0
      · rw [dec_true hi0]; rfl
      · rw [dec_false hi0, dec_true (by omega)]; rfl
    rw [dec_true hi, dec_false (show ¬ i < 0 by omega), dec_false (show ¬ i ≥ (m.2.1.length : Int) by omega)]
    by_cases hk : 0 ≤ k ∧ k < m.1
    case neg =>
      rw [dec_false hk]
      by_cases hk0 : k < 0
      · rw [dec_true hk0]; rfl
      · rw [dec_false hk0, dec_true (by omega)]; rfl
    rw [dec_true hk, dec_false (show ¬ k < 0 by omega), dec_false (show ¬ k ≥ m.1 by omega), impl_copyKeymap_ok m hz]
    have hi' : i.toNat < m.2.1.length := by omega
    have hrow := hm.row i.toNat hi'
    have hk' : k.toNat < m.2.1[i.toNat].length := by omega
    have e1 : inb (List.length m.2.1) i = true := by
      rw [show i = ((i.toNat : Nat) : Int) by omega, inb_nat]; exact dec_true hi'
    have e2 : inb (List.length m.2.1[i.toNat]) k = true := by
      rw [show k = ((k.toNat : Nat) : Int) by omega, inb_nat]; exact dec_true hk'
    have e3 : setM m i k a = (m.1, List.set m.2.1 i.toNat (List.set m.2.1[i.toNat] k.toNat a), ()) := by
      unfold setM; rw [List.getD_eq_getElem?_getD, List.getElem?_eq_getElem hi']; rfl
    have e4 := setM_sz a hi (k := k)
    simp only [Option.bind_some, cond_false, cond_true, e1, List.getElem?_eq_getElem hi', e2, List.getElem?_eq_getElem hk']
    rw [← e3, impl_IsKeymap_ok _ (by omega)]
    cases isKeymapB (setM m i k a) <;> rfl

/-- an answer -/
theorem seal_sz (l : List Int) : szT (.sl byte) (sealL l) ≤ big20 := by
  rw [szByteL]
  have := sealL_len l
  have h20 : big20 = 1048576 := rfl
  omega
theorem rng_byte {l : List Int} (h : Rng (.sl byte) l) {k : Nat} (hk : k < l.length) : 0 ≤ l[k] ∧ l[k] ≤ 255 := h.2 k hk
theorem AnswerPacket_in (m : TKeymap) (b : List Int) (hb : Rng (.sl byte) b) (hz : szT tKeymap m ≤ big20) :
    ∃ m' w, spec_AnswerPacket m b = some (m', w, ()) ∧ impl_AnswerPacket m b = some (m', w, ()) ∧ szT tKeymap m' ≤ big20 ∧ w.length ≤ 8 := by
  unfold spec_AnswerPacket impl_AnswerPacket
  rw [spec_l6Copy_ok m hz, impl_copyKeymap_ok m hz, spec_IsKeymap_ok m hz, impl_IsKeymap_ok m hz, spec_IsPacket_ok, impl_IsPacket_ok]
  cases hv : isKeymapB m with
  | false =>
    simp only [Option.bind_some, Bool.not_false, cond_true, spec_SealPacket_ok, impl_SealPacket_ok]
    exact ⟨_, _, rfl, rfl, hz, sealL_len _⟩
  | true =>
    cases hp : isPacketB b with
    | false =>
      simp only [Option.bind_some, Bool.not_false, Bool.not_true, cond_true, cond_false, spec_SealPacket_ok, impl_SealPacket_ok]
      exact ⟨_, _, rfl, rfl, hz, sealL_len _⟩
    | true =>
      have hm := keymap_ok hv
      have hlen : b.length = 8 := by
        simp only [isPacketB, Bool.and_eq_true, beq_iff_eq] at hp
        omega
      obtain ⟨p0, r, rfl, h1⟩ := cons_len hlen
      obtain ⟨p1, r, rfl, h2⟩ := cons_len h1
      obtain ⟨p2, r, rfl, h3⟩ := cons_len h2
      have hp1 := rng_byte hb (show 1 < _ by simp)
      have hp2 := rng_byte hb (show 2 < _ by simp)
      simp only [List.getElem_cons_succ, List.getElem_cons_zero] at hp1 hp2
      have i0 : idx (p0 :: p1 :: p2 :: r) (0 : Int) = some p0 := rfl
      have i1 : idx (p0 :: p1 :: p2 :: r) (1 : Int) = some p1 := rfl
      have i2 : idx (p0 :: p1 :: p2 :: r) (2 : Int) = some p2 := rfl
      have c1 : cutOk (List.length (p0 :: p1 :: p2 :: r)) 3 6 = true := cutOk_nat (lo := 3) (hi := 6) (by omega) (by omega)
      have c2 : cutOk (List.length (p0 :: p1 :: p2 :: r)) 0 6 = true := cutOk_nat (lo := 0) (hi := 6) (by omega) (by omega)
      generalize hcut : cutl (p0 :: p1 :: p2 :: r) (Int.toNat 3) (Int.toNat 6) = q
      obtain ⟨ua, ub, u1, u2⟩ := Unpack_same q
      simp only [Option.bind_some, Bool.not_true, cond_false, i0, i1, i2, c1, c2, cond_true, u1, u2, wrap64 (show -9223372036854775808 ≤ p1 by omega) (show p1 ≤ 9223372036854775807 by omega),
        wrap64 (show -9223372036854775808 ≤ p2 by omega) (show p2 ≤ 9223372036854775807 by omega), spec_SealPacket_ok, impl_SealPacket_ok, spec_SetAction_ok m p1 p2 ua hz, impl_SetAction_ok m p1 p2 ua hz]
      by_cases hl : p1 < (m.2.1.length : Int)
      case neg =>
        have hsb : setB m p1 p2 ua = false := by
          unfold setB; rw [dec_false (show ¬ (0 ≤ p1 ∧ p1 < (m.2.1.length : Int)) by omega)]; simp
        rw [dec_false hl, hsb]
        simp only [cond_false]
        cases (p0 == 1) <;> cases (p0 == 2) <;> cases (p0 == 3) <;> cases ub <;> exact ⟨_, _, rfl, rfl, hz, sealL_len _⟩
      rw [dec_true hl]
      simp only [cond_true]
      cases (p0 == 1) with
      | true => exact ⟨_, _, rfl, rfl, hz, sealL_len _⟩
      | false =>
        simp only [cond_false]
        cases h02 : (p0 == 2) with
        | true =>
          simp only [cond_true]
          by_cases hk : p2 < m.1
          case neg =>
            rw [dec_false hk]
            exact ⟨_, _, rfl, rfl, hz, sealL_len _⟩
          rw [dec_true hk]
          simp only [Bool.not_true, cond_true, cond_false]
          have hi' : p1.toNat < m.2.1.length := by omega
          have hrow := hm.row p1.toNat hi'
          have hk' : p2.toNat < m.2.1[p1.toNat].length := by omega
          have e1 : idx m.2.1 p1 = some m.2.1[p1.toNat] := idx_at (by omega) hi'
          have e2 : idx m.2.1[p1.toNat] p2 = some m.2.1[p1.toNat][p2.toNat] := idx_at (by omega) hk'
          have e3 : p0 = 2 := by simpa using h02
          subst e3
          have hpl := packL_len m.2.1[p1.toNat][p2.toNat]
          rw [e1]
          simp only [Option.bind_some, e2, spec_PackAction_ok, impl_PackAction_ok]
          rw [lim_ok (by simp only [List.length_cons, List.length_nil]; omega)]
          exact ⟨_, _, rfl, rfl, hz, sealL_len _⟩
        | false =>
          simp only [cond_false]
          cases (p0 == 3) with
          | false => exact ⟨_, _, rfl, rfl, hz, sealL_len _⟩
          | true =>
            simp only [cond_true]
            by_cases hk : p2 < m.1
            case neg =>
              have hsb : setB m p1 p2 ua = false := by
                unfold setB; rw [dec_false (show ¬ (0 ≤ p2 ∧ p2 < m.1) by omega)]; simp
              rw [dec_false hk, hsb]
              cases ub <;> exact ⟨_, _, rfl, rfl, hz, sealL_len _⟩
            rw [dec_true hk]
            cases ub with
            | false => exact ⟨_, _, rfl, rfl, hz, sealL_len _⟩
            | true =>
              cases hsb : setB m p1 p2 ua with
              | false => exact ⟨_, _, rfl, rfl, hz, sealL_len _⟩
              | true =>
                simp only [Bool.not_true, cond_true, cond_false]
                rw [lim_ok (by
                  have : List.length (cutl (p0 :: p1 :: p2 :: r) (Int.toNat 0) (Int.toNat 6)) ≤ 8 := by
                    unfold cutl; simp only [List.length_drop, List.length_take]; omega
                  simp only [List.length_nil]; omega)]
                have hs := setM_sz (m := m) (i := p1) (k := p2) ua (by omega)
                exact ⟨_, _, rfl, rfl, by omega, sealL_len _⟩
theorem AnswerPacket_same (m : TKeymap) (b : List Int) (_ : Rng tKeymap m) (hb : Rng (.sl byte) b) (hz : szT tKeymap m ≤ big20) (_ : szT (.sl byte) b ≤ big20) :
    ∃ m' w, spec_AnswerPacket m b = some (m', w, ()) ∧ impl_AnswerPacket m b = some (m', w, ()) ∧ szT tKeymap m' ≤ big20 ∧ szT (.sl byte) w ≤ big20 := by
  obtain ⟨m', w, h1, h2, h3, h4⟩ := AnswerPacket_in m b hb hz
  have h20 : big20 = 1048576 := rfl
  exact ⟨m', w, h1, h2, h3, by rw [szByteL]; omega⟩
end KF
