/- Laws on the plain functions: program and reference agree (conditions: as each lemma tells). -/
import Derived.Test.YtbinnhkjbaoakaaH
namespace KF
open Go
set_option linter.unusedSimpArgs false
set_option linter.unusedVariables false

def isCodeP (c : Int) : Prop := 1 ≤ c ∧ c ≤ 56
def isModsP (m : Int) : Prop := 1 ≤ m ∧ m ≤ 15
def isUpperP (n : Int) : Prop := 1 ≤ n ∧ n ≤ 3
/-- an action is valid -/
def IsActionP (k c m n : Int) : Prop :=
  ((k = 0 ∨ k = 1 ∨ k = 10) ∧ c = 0 ∧ m = 0 ∧ n = 0) ∨
  (k = 2 ∧ n = 0 ∧ (c = 0 ∨ 1 ≤ c ∧ c ≤ 56) ∧ (m = 0 ∨ 1 ≤ m ∧ m ≤ 15) ∧ (c ≠ 0 ∨ m ≠ 0)) ∨
  ((k = 3 ∨ k = 4) ∧ c = 0 ∧ m = 0 ∧ 1 ≤ n ∧ n ≤ 3) ∨
  ((k = 5 ∨ k = 9) ∧ c = 0 ∧ m = 0 ∧ 0 ≤ n ∧ n ≤ 3) ∨
  (k = 6 ∧ 1 ≤ c ∧ c ≤ 56 ∧ 1 ≤ m ∧ m ≤ 15 ∧ n = 0) ∨
  (k = 7 ∧ 1 ≤ c ∧ c ≤ 56 ∧ m = 0 ∧ 1 ≤ n ∧ n ≤ 3) ∨
  (k = 8 ∧ c = 0 ∧ 1 ≤ m ∧ m ≤ 15 ∧ n = 0)
noncomputable def isActionB (a : TAction) : Bool := open Classical in decide (IsActionP a.1 a.2.1 a.2.2.1 a.2.2.2.1)
theorem isActionB_iff (a : TAction) : isActionB a = true ↔ IsActionP a.1 a.2.1 a.2.2.1 a.2.2.2.1 := by simp [isActionB]

theorem impl_isCode_ok (c : Int) : impl_isCode c = some (decide (1 ≤ c ∧ c ≤ 56), ()) := by
  simp only [impl_isCode, cond_some, cond_unit]
  apply some_unit; simp only [cond_iff, decide_eq_true_eq, beq_iff', bne_iff', Bool.false_eq_true, and_false, false_and, or_false, false_or, and_true, true_and, not_true_eq_false, not_false_eq_true]; try omega
theorem impl_isMods_ok (c : Int) : impl_isMods c = some (decide (1 ≤ c ∧ c ≤ 15), ()) := by
  simp only [impl_isMods, cond_some, cond_unit]
  apply some_unit; simp only [cond_iff, decide_eq_true_eq, beq_iff', bne_iff', Bool.false_eq_true, and_false, false_and, or_false, false_or, and_true, true_and, not_true_eq_false, not_false_eq_true]; try omega
theorem impl_isUpper_ok (c : Int) : impl_isUpper c = some (decide (1 ≤ c ∧ c ≤ 3), ()) := by
  simp only [impl_isUpper, cond_some, cond_unit]
  apply some_unit; simp only [cond_iff, decide_eq_true_eq, beq_iff', bne_iff', Bool.false_eq_true, and_false, false_and, or_false, false_or, and_true, true_and, not_true_eq_false, not_false_eq_true]; try omega
theorem spec_l1In_ok (c a b : Int) : spec_l1In c a b = some (decide (a ≤ c ∧ c ≤ b), ()) := by
  simp only [spec_l1In, cond_some, cond_unit]
  apply some_unit; simp only [cond_iff, decide_eq_true_eq, beq_iff', bne_iff', Bool.false_eq_true, and_false, false_and, or_false, false_or, and_true, true_and, not_true_eq_false, not_false_eq_true]; try omega

theorem impl_IsAction_ok (a : TAction) : impl_IsAction a = some (isActionB a, ()) := by
  obtain ⟨k, c, m, n, u⟩ := a
  have key : ∀ k c m n : Int, impl_IsAction (k, c, m, n, u) = some (isActionB (k, c, m, n, u), ()) := by
    intro k c m n
    simp only [impl_IsAction, impl_isCode_ok, impl_isMods_ok, impl_isUpper_ok, spec_l1In_ok, Option.bind_some, cond_some, cond_unit]
    by_cases h0 : k = 0
    · subst h0; apply some_unit; rw [isActionB_iff]; simp [IsActionP, cond_iff]; try omega
    by_cases h1 : k = 1
    · subst h1; apply some_unit; rw [isActionB_iff]; simp [IsActionP, cond_iff]; try omega
    by_cases h2 : k = 2
    · subst h2; apply some_unit; rw [isActionB_iff]; simp [IsActionP, cond_iff]; intro hn; (repeat' split) <;> omega
    by_cases h3 : k = 3
    · subst h3; apply some_unit; rw [isActionB_iff]; simp [IsActionP, cond_iff]; try omega
    by_cases h4 : k = 4
    · subst h4; apply some_unit; rw [isActionB_iff]; simp [IsActionP, cond_iff]; try omega
    by_cases h5 : k = 5
    · subst h5; apply some_unit; rw [isActionB_iff]; simp [IsActionP, cond_iff]; try omega
    by_cases h6 : k = 6
    · subst h6; apply some_unit; rw [isActionB_iff]; simp [IsActionP, cond_iff]; try omega
    by_cases h7 : k = 7
    · subst h7; apply some_unit; rw [isActionB_iff]; simp [IsActionP, cond_iff]; try omega
    by_cases h8 : k = 8
    · subst h8; apply some_unit; rw [isActionB_iff]; simp [IsActionP, cond_iff]; try omega
    by_cases h9 : k = 9
    · subst h9; apply some_unit; rw [isActionB_iff]; simp [IsActionP, cond_iff]; try omega
    by_cases h10 : k = 10
    · subst h10; apply some_unit; rw [isActionB_iff]; simp [IsActionP, cond_iff]; try omega
    have g : ∀ j : Int, (k == j) = decide (k = j) := fun j => by rw [Bool.eq_iff_iff]; simp
    apply some_unit; rw [isActionB_iff]; simp [IsActionP, cond_iff, h0, h1, h2, h3, h4, h5, h6, h7, h8, h9, h10]
  exact key k c m n
theorem spec_IsAction_ok (a : TAction) : spec_IsAction a = some (isActionB a, ()) := by
  obtain ⟨k, c, m, n, u⟩ := a
  have key : ∀ k c m n : Int, spec_IsAction (k, c, m, n, u) = some (isActionB (k, c, m, n, u), ()) := by
    intro k c m n
    simp only [spec_IsAction, impl_isCode_ok, impl_isMods_ok, impl_isUpper_ok, spec_l1In_ok, Option.bind_some, cond_some, cond_unit]
    by_cases h0 : k = 0
    · subst h0; apply some_unit; rw [isActionB_iff]; simp [IsActionP, cond_iff]; try omega
    by_cases h1 : k = 1
    · subst h1; apply some_unit; rw [isActionB_iff]; simp [IsActionP, cond_iff]; try omega
    by_cases h2 : k = 2
    · subst h2; apply some_unit; rw [isActionB_iff]; simp [IsActionP, cond_iff]; intro hn; (repeat' split) <;> omega
    by_cases h3 : k = 3
    · subst h3; apply some_unit; rw [isActionB_iff]; simp [IsActionP, cond_iff]; try omega
    by_cases h4 : k = 4
    · subst h4; apply some_unit; rw [isActionB_iff]; simp [IsActionP, cond_iff]; try omega
    by_cases h5 : k = 5
    · subst h5; apply some_unit; rw [isActionB_iff]; simp [IsActionP, cond_iff]; try omega
    by_cases h6 : k = 6
    · subst h6; apply some_unit; rw [isActionB_iff]; simp [IsActionP, cond_iff]; try omega
    by_cases h7 : k = 7
    · subst h7; apply some_unit; rw [isActionB_iff]; simp [IsActionP, cond_iff]; try omega
    by_cases h8 : k = 8
    · subst h8; apply some_unit; rw [isActionB_iff]; simp [IsActionP, cond_iff]; try omega
    by_cases h9 : k = 9
    · subst h9; apply some_unit; rw [isActionB_iff]; simp [IsActionP, cond_iff]; try omega
    by_cases h10 : k = 10
    · subst h10; apply some_unit; rw [isActionB_iff]; simp [IsActionP, cond_iff]; try omega
    have g : ∀ j : Int, (k == j) = decide (k = j) := fun j => by rw [Bool.eq_iff_iff]; simp
    apply some_unit; rw [isActionB_iff]; simp [IsActionP, cond_iff, h0, h1, h2, h3, h4, h5, h6, h7, h8, h9, h10]
  exact key k c m n

/-! ### Keymaps -/
/-- what is asked of the action of a layer -/
noncomputable def okActB (nl : Nat) (i : Nat) (a : TAction) : Bool := isActionB a && !(((i : Int) == 0) && (a.1 == 1)) && !((a.1 != 9) && decide (a.2.2.2.1 ≥ (nl : Int)))
noncomputable def okLayerB (keys : Int) (nl : Nat) (i : Nat) (l : List TAction) : Bool := ((List.length l : Int) == keys) && allK (fun _ a => okActB nl i a) 0 l
noncomputable def isKeymapB (m : TKeymap) : Bool :=
  decide (1 ≤ m.1 ∧ m.1 ≤ 32) && decide (1 ≤ m.2.1.length ∧ m.2.1.length ≤ 4) && allK (fun i l => okLayerB m.1 m.2.1.length i l) 0 m.2.1

theorem impl_IsKeymap_in (m : TKeymap) (i : Nat) (l : List TAction) (L : List (List TAction)) (n : Int) (t : Int) (hl : l.length < 9223372036854775807) :
    impl_IsKeymap_9_loop (((), (i : Int), L, n, t, l, (l.length : Int), (0 : Int), ()), (m, ())) =
      some (cond (allK (fun _ a => okActB m.2.1.length i a) 0 l) (.inl (((), L, n, t, ()), (m, ()))) (.inr ((false, ()), ()))) := by
  unfold impl_IsKeymap_9_loop
  refine loopF_all (step := _) l (fun _ a => okActB m.2.1.length i a) (fun j => (((), (i : Int), L, n, t, l, (l.length : Int), j, ()), (m, ()))) _ _ ?_ ?_ hl
  · intro k hk
    simp only [impl_IsKeymap_9_R]
    rw [dec_true (show (k : Int) < (l.length : Int) by omega), idx_lt hk]
    simp only [cond_true, Option.bind_some, okActB, impl_IsAction_ok]
    cases isActionB l[k] <;> cases ((i : Int) == 0) <;> cases (l[k].1 == 1) <;> cases (l[k].1 != 9) <;> cases decide (l[k].2.2.2.1 ≥ (m.2.1.length : Int)) <;> rfl
  · simp [impl_IsKeymap_9_R]

theorem impl_IsKeymap_ok (m : TKeymap) (hz : szT tKeymap m ≤ big20) : impl_IsKeymap m = some (isKeymapB m, ()) := by
  have h20 : big20 = 1048576 := rfl
  have hz' : m.2.1.length + (List.map (szT (.sl tAction)) m.2.1).sum ≤ big20 := by
    have : szT tKeymap m = szT (.sl (.sl tAction)) m.2.1 := by simp only [szT, Nat.add_zero, Nat.zero_add]
    rw [this] at hz; exact hz
  have hl : ∀ k (hk : k < m.2.1.length), m.2.1[k].length ≤ big20 := by
    intro k hk
    have := sum_map_le (f := szT (.sl tAction)) hk
    have h2 : m.2.1[k].length ≤ szT (.sl tAction) m.2.1[k] := Nat.le_add_right _ _
    omega
  have hloop : impl_IsKeymap_4_loop (((), m.2.1, ((List.length m.2.1 : Nat) : Int), (0 : Int), ()), (m, ())) =
      some (cond (allK (fun i l => okLayerB m.1 m.2.1.length i l) 0 m.2.1) (.inl ((), ())) (.inr ((false, ()), ()))) := by
    unfold impl_IsKeymap_4_loop
    refine loopF_all (step := _) m.2.1 (fun i l => okLayerB m.1 m.2.1.length i l) (fun j => (((), m.2.1, ((List.length m.2.1 : Nat) : Int), j, ()), (m, ()))) _ _ ?_ ?_ (by omega)
    · intro k hk
      have := hl k hk
      simp only [impl_IsKeymap_4_R]
      rw [dec_true (show (k : Int) < (m.2.1.length : Int) by omega), idx_lt hk]
      simp only [cond_true, Option.bind_some, okLayerB]
      rw [impl_IsKeymap_in m k _ _ _ _ (by omega)]
      show (cond (!((m.2.1[k].length : Int) == m.1)) _ _) = _
      cases ((m.2.1[k].length : Int) == m.1) <;> cases allK (fun _ a => okActB m.2.1.length k a) 0 m.2.1[k] <;> rfl
    · simp [impl_IsKeymap_4_R]
  unfold impl_IsKeymap
  rw [hloop]
  simp only [Option.bind_some, elim_cond, cond_some, cond_unit]
  apply some_unit
  simp only [cond_iff, isKeymapB, Bool.and_eq_true, decide_eq_true_eq, Bool.false_eq_true, and_false, false_or, and_true, or_false]
  generalize allK (fun i l => okLayerB m.1 m.2.1.length i l) 0 m.2.1 = b
  constructor
  · rintro ⟨h1, h2, h3, h4, h5⟩; exact ⟨⟨by omega, by omega⟩, h5⟩
  · rintro ⟨⟨h1, h2⟩, h5⟩; exact ⟨by omega, by omega, by omega, by omega, h5⟩

theorem spec_IsKeymap_in (m : TKeymap) (i : Nat) (hi : i < m.2.1.length) (hl : m.2.1[i].length < 9223372036854775807) :
    spec_IsKeymap_7_loop (((), (i : Int), (0 : Int), ()), (m, ())) =
      some (cond (allK (fun _ a => okActB m.2.1.length i a) 0 m.2.1[i]) (.inl (((), (i : Int), ()), (m, ()))) (.inr ((false, ()), ()))) := by
  unfold spec_IsKeymap_7_loop
  refine loopF_all (step := _) m.2.1[i] (fun _ a => okActB m.2.1.length i a) (fun j => (((), (i : Int), j, ()), (m, ()))) _ _ ?_ ?_ hl
  · intro k hk
    simp only [spec_IsKeymap_7_R]
    rw [idx_lt hi]
    simp only [Option.bind_some]
    rw [dec_true (show (k : Int) < (m.2.1[i].length : Int) by omega), idx_lt hk]
    simp only [cond_true, Option.bind_some, okActB, spec_IsAction_ok]
    cases isActionB m.2.1[i][k] <;> cases ((i : Int) == 0) <;> cases (m.2.1[i][k].1 == 1) <;> cases (m.2.1[i][k].1 != 9) <;> cases decide (m.2.1[i][k].2.2.2.1 ≥ (m.2.1.length : Int)) <;> rfl
  · simp [spec_IsKeymap_7_R, idx_lt hi]

theorem spec_IsKeymap_ok (m : TKeymap) (hz : szT tKeymap m ≤ big20) : spec_IsKeymap m = some (isKeymapB m, ()) := by
  have h20 : big20 = 1048576 := rfl
  have hz' : m.2.1.length + (List.map (szT (.sl tAction)) m.2.1).sum ≤ big20 := by
    have : szT tKeymap m = szT (.sl (.sl tAction)) m.2.1 := by simp only [szT, Nat.add_zero, Nat.zero_add]
    rw [this] at hz; exact hz
  have hl : ∀ k (hk : k < m.2.1.length), m.2.1[k].length ≤ big20 := by
    intro k hk
    have := sum_map_le (f := szT (.sl tAction)) hk
    have h2 : m.2.1[k].length ≤ szT (.sl tAction) m.2.1[k] := Nat.le_add_right _ _
    omega
  have hloop : spec_IsKeymap_2_loop (((), (0 : Int), ()), (m, ())) =
      some (cond (allK (fun i l => okLayerB m.1 m.2.1.length i l) 0 m.2.1) (.inl (((), ()), (m, ()))) (.inr ((false, ()), ()))) := by
    unfold spec_IsKeymap_2_loop
    refine loopF_all (step := _) m.2.1 (fun i l => okLayerB m.1 m.2.1.length i l) (fun j => (((), j, ()), (m, ()))) _ _ ?_ ?_ (by omega)
    · intro k hk
      have := hl k hk
      simp only [spec_IsKeymap_2_R]
      rw [dec_true (show (k : Int) < (m.2.1.length : Int) by omega), idx_lt hk]
      simp only [cond_true, Option.bind_some, okLayerB]
      rw [spec_IsKeymap_in m k hk (by omega)]
      show (cond (!((m.2.1[k].length : Int) == m.1)) _ _) = _
      cases ((m.2.1[k].length : Int) == m.1) <;> cases allK (fun _ a => okActB m.2.1.length k a) 0 m.2.1[k] <;> rfl
    · simp [spec_IsKeymap_2_R]
  unfold spec_IsKeymap
  rw [hloop]
  simp only [Option.bind_some, elim_cond, cond_some, cond_unit, spec_l1In_ok]
  apply some_unit
  simp only [cond_iff, isKeymapB, Bool.and_eq_true, decide_eq_true_eq, Bool.false_eq_true, and_false, false_or, and_true, or_false]
  generalize allK (fun i l => okLayerB m.1 m.2.1.length i l) 0 m.2.1 = b
  constructor
  · rintro ⟨h1, h2, h3⟩; exact ⟨⟨by omega, by omega⟩, h1⟩
  · rintro ⟨⟨h1, h2⟩, h5⟩; exact ⟨h5, by omega, by omega⟩

/-! ### Fixed masks -/
theorem shl_one {n : Nat} (h : n ≤ 62) : ishl .i64 1 (n : Int) = ((2 ^ n : Nat) : Int) := by
  unfold ishl
  have h1 : min (Int.toNat (n : Int)) (IntKind.bits .i64) = n := by
    show min (Int.toNat (n : Int)) 64 = n
    rw [Int.toNat_natCast]; omega
  rw [h1, Int.one_mul]
  have h2 : (2 : Int) ^ n = ((2 ^ n : Nat) : Int) := by simp
  have h3 : 2 ^ n ≤ 2 ^ 62 := Nat.pow_le_pow_right (by omega) h
  rw [h2]
  clear h1 h2
  generalize 2 ^ n = z at h3
  rw [wrap64 (by omega) (by omega)]

theorem IsFixed_same (m : TKeymap) (f : Int) (_ : Rng tKeymap m) (_ : Rng int f) (hz : szT tKeymap m ≤ big20) :
    ∃ b, spec_IsFixed m f = some (b, ()) ∧ impl_IsFixed m f = some (b, ()) := by
  unfold spec_IsFixed impl_IsFixed
  rw [spec_IsKeymap_ok m hz, impl_IsKeymap_ok m hz]
  simp only [Option.bind_some, spec_l1In_ok]
  cases hk : isKeymapB m with
  | false => exact ⟨false, rfl, rfl⟩
  | true =>
    simp only [cond_true]
    have hn : 1 ≤ m.2.1.length ∧ m.2.1.length ≤ 4 := by
      simp only [isKeymapB, Bool.and_eq_true, decide_eq_true_eq] at hk
      exact hk.1.2
    rw [shl_one (by omega), dec_true (show (0 : Int) ≤ (m.2.1.length : Int) by omega)]
    have hp : 1 ≤ 2 ^ m.2.1.length ∧ 2 ^ m.2.1.length ≤ 16 := by
      obtain ⟨h1, h2⟩ := hn
      generalize m.2.1.length = n at *
      have : n = 1 ∨ n = 2 ∨ n = 3 ∨ n = 4 := by omega
      rcases this with rfl | rfl | rfl | rfl <;> decide
    rw [wrap64 (by omega) (by omega)]
    simp only [cond_true, cond_some, cond_unit, show ((2 : Int) == 0) = false from rfl, cond_false]
    refine ⟨_, rfl, ?_⟩
    apply some_unit
    simp only [cond_iff, decide_eq_true_eq, Bool.false_eq_true, and_false, or_false, beq_iff']
    omega
end KF

namespace KF
open Go

/-! ### What a valid keymap is -/
structure KeymapOk (m : TKeymap) : Prop where
  k1 : 1 ≤ m.1
  k2 : m.1 ≤ 32
  l1 : 1 ≤ m.2.1.length
  l2 : m.2.1.length ≤ 4
  row : ∀ i (h : i < m.2.1.length), (m.2.1[i].length : Int) = m.1
  act : ∀ i (h : i < m.2.1.length) k (hk : k < m.2.1[i].length), okActB m.2.1.length i m.2.1[i][k] = true

theorem keymap_ok {m : TKeymap} (h : isKeymapB m = true) : KeymapOk m := by
  simp only [isKeymapB, Bool.and_eq_true, decide_eq_true_eq] at h
  obtain ⟨⟨h1, h2⟩, h3⟩ := h
  rw [allK_true] at h3
  refine ⟨h1.1, h1.2, h2.1, h2.2, fun i hi => ?_, fun i hi k hk => ?_⟩
  · have := h3 i hi
    simp only [Nat.zero_add, okLayerB, Bool.and_eq_true, beq_iff_eq] at this
    exact this.1
  · have := h3 i hi
    simp only [Nat.zero_add, okLayerB, Bool.and_eq_true, beq_iff_eq] at this
    have := allK_true.1 this.2 k hk
    simpa using this

theorem okAct_action {nl i : Nat} {a : TAction} (h : okActB nl i a = true) : isActionB a = true := by
  simp only [okActB, Bool.and_eq_true] at h
  exact h.1.1
theorem okAct_n {nl i : Nat} {a : TAction} (h : okActB nl i a = true) (hk : a.1 ≠ 9) : a.2.2.2.1 < (nl : Int) := by
  simp only [okActB, Bool.and_eq_true, Bool.not_eq_true', Bool.and_eq_false_iff] at h
  rcases h.2 with h | h
  · simp at h; exact absurd h hk
  · simpa using h

def bitI (m k : Int) : Int := iand .i64 (ishr .i64 m k) 1
theorem impl_bit_ok (m : Int) {k : Int} (h : 0 ≤ k) : impl_bit m k = some (bitI m k, ()) := by
  unfold impl_bit
  rw [dec_true h]; rfl

def zAct : TAction := (0, 0, 0, 0, ())
def actAt (L : List (List TAction)) (i k : Nat) : TAction := (L.getD i []).getD k zAct
theorem actAt_eq {L : List (List TAction)} {i k : Nat} (hi : i < L.length) (hk : k < L[i].length) : actAt L i k = L[i][k] := by
  simp [actAt, List.getD_eq_getElem?_getD, hi, hk]
theorem idx2 {α : Type} {L : List (List TAction)} {i k : Nat} (hi : i < L.length) (hk : k < L[i].length) (K : TAction → Option α) :
    (Option.bind (idx L (i : Int)) fun x => Option.bind (idx x (k : Int)) K) = K (actAt L i k) := by
  rw [idx_lt hi]
  simp only [Option.bind_some]
  rw [idx_lt hk, actAt_eq hi hk]
  rfl

/-- the layer that says what a key does -/
def layerDown (L : List (List TAction)) (on : Int) (k : Nat) : Nat → Nat
  | 0 => 0
  | n + 1 => cond ((bitI on ((n + 1 : Nat) : Int) == 1) && ((actAt L (n + 1) k).1 != 1)) (n + 1) (layerDown L on k n)
theorem layerDown_le {L : List (List TAction)} {on : Int} {k : Nat} : ∀ n, layerDown L on k n ≤ n
  | 0 => Nat.le_refl _
  | n + 1 => by
    simp only [layerDown]
    cases ((bitI on ((n + 1 : Nat) : Int) == 1) && ((actAt L (n + 1) k).1 != 1)) with
    | true => exact Nat.le_refl _
    | false => exact Nat.le_succ_of_le (layerDown_le n)

theorem impl_layer_loop {m : TKeymap} (hm : KeymapOk m) (on : Int) {k : Nat} (hk : (k : Int) < m.1) : ∀ n : Nat, n < m.2.1.length →
    impl_layerAt_2_loop ((on, (k : Int), (), (n : Int), ()), (m, ())) = some (cond (layerDown m.2.1 on k n == 0) (.inl ((), ())) (.inr ((((layerDown m.2.1 on k n : Nat) : Int), ()), ())))
  | 0, _ => by
    unfold impl_layerAt_2_loop
    rw [loopF_step]
    rfl
  | n + 1, h => by
    have hrow := hm.row (n + 1) h
    unfold impl_layerAt_2_loop
    rw [loopF_step]
    simp only [impl_layerAt_2_R]
    rw [dec_true (show (((n + 1 : Nat) : Int)) > 0 by omega), impl_bit_ok on (show (0 : Int) ≤ ((n + 1 : Nat) : Int) by omega)]
    simp only [cond_true, Option.bind_some]
    rw [idx2 h (by omega), wrap64 (by have := hm.l2; omega) (by have := hm.l2; omega), show (((n + 1 : Nat) : Int) - 1) = (n : Int) by omega]
    have ih := impl_layer_loop hm on hk n (by omega)
    unfold impl_layerAt_2_loop at ih
    simp only [layerDown]
    cases h1 : (bitI on ((n + 1 : Nat) : Int) == 1) with
    | false =>
      simp only [Bool.false_and, cond_false, Option.bind_some, Sum.elim_inl]
      exact ih
    | true =>
      cases h2 : ((actAt m.2.1 (n + 1) k).1 != 1) with
      | true => rfl
      | false =>
        simp only [Bool.and_false, cond_true, cond_false, Option.bind_some, Sum.elim_inl]
        exact ih

theorem impl_layerAt_ok {m : TKeymap} (hm : KeymapOk m) (on : Int) {k : Nat} (hk : (k : Int) < m.1) :
    impl_layerAt m on (k : Int) = some (((layerDown m.2.1 on k (m.2.1.length - 1) : Nat) : Int), ()) := by
  have h1 := hm.l1
  have h2 := hm.l2
  unfold impl_layerAt
  rw [wrap64 (by omega) (by omega), show ((m.2.1.length : Int) - 1) = ((m.2.1.length - 1 : Nat) : Int) by omega, impl_layer_loop hm on hk _ (by omega)]
  cases h : (layerDown m.2.1 on k (m.2.1.length - 1) == 0) with
  | false => rfl
  | true =>
    have h' : layerDown m.2.1 on k (m.2.1.length - 1) = 0 := by simpa using h
    rw [h']; rfl

theorem spec_layer_loop {m : TKeymap} (hm : KeymapOk m) (on : Int) {k : Nat} (hk : (k : Int) < m.1) : ∀ n : Nat, n < m.2.1.length →
    spec_LayerAt_4_loop ((on, (k : Int), (), (n : Int), ()), (m, ())) = some (cond (layerDown m.2.1 on k n == 0) (.inl ((), ())) (.inr ((((layerDown m.2.1 on k n : Nat) : Int), ()), ())))
  | 0, _ => by
    unfold spec_LayerAt_4_loop
    rw [loopF_step]
    rfl
  | n + 1, h => by
    have hrow := hm.row (n + 1) h
    unfold spec_LayerAt_4_loop
    rw [loopF_step]
    simp only [spec_LayerAt_4_R]
    rw [dec_true (show (((n + 1 : Nat) : Int)) > 0 by omega), dec_true (show (0 : Int) ≤ ((n + 1 : Nat) : Int) by omega)]
    simp only [cond_true]
    rw [idx2 h (by omega), wrap64 (by have := hm.l2; omega) (by have := hm.l2; omega), show (((n + 1 : Nat) : Int) - 1) = (n : Int) by omega]
    have ih := spec_layer_loop hm on hk n (by omega)
    unfold spec_LayerAt_4_loop at ih
    simp only [layerDown]
    show Option.bind (cond (bitI on ((n + 1 : Nat) : Int) == 1) _ _) _ = _
    cases h1 : (bitI on ((n + 1 : Nat) : Int) == 1) with
    | false =>
      simp only [Bool.false_and, cond_false, Option.bind_some, Sum.elim_inl]
      exact ih
    | true =>
      cases h2 : ((actAt m.2.1 (n + 1) k).1 != 1) with
      | true => rfl
      | false =>
        simp only [Bool.and_false, cond_true, cond_false, Option.bind_some, Sum.elim_inl]
        exact ih

def layerI (m : TKeymap) (on : Int) (k : Nat) : Nat := layerDown m.2.1 on k (m.2.1.length - 1)
theorem layerI_lt {m : TKeymap} (hm : KeymapOk m) (on : Int) (k : Nat) : layerI m on k < m.2.1.length := by
  have := layerDown_le (L := m.2.1) (on := on) (k := k) (m.2.1.length - 1)
  have := hm.l1
  unfold layerI
  omega

theorem spec_LayerAt_in {m : TKeymap} (hz : szT tKeymap m ≤ big20) (hv : isKeymapB m = true) (on : Int) {k : Nat} (hk : (k : Int) < m.1) :
    spec_LayerAt m on (k : Int) = some (((layerI m on k : Nat) : Int), ()) := by
  have hm := keymap_ok hv
  have h1 := hm.l1
  have h2 := hm.l2
  have h3 := hm.k2
  unfold spec_LayerAt
  rw [spec_IsKeymap_ok m hz, hv, wrap64 (n := m.1 - 1) (by omega) (by omega)]
  simp only [Option.bind_some, Bool.not_true, cond_false, spec_l1In_ok]
  rw [dec_true (show (0 : Int) ≤ (k : Int) ∧ (k : Int) ≤ m.1 - 1 by omega), wrap64 (by omega) (by omega), show ((m.2.1.length : Int) - 1) = ((m.2.1.length - 1 : Nat) : Int) by omega, spec_layer_loop hm on hk _ (by omega)]
  simp only [Bool.not_true, cond_false, Option.bind_some]
  show _ = some (((layerDown m.2.1 on k (m.2.1.length - 1) : Nat) : Int), ())
  cases h : (layerDown m.2.1 on k (m.2.1.length - 1) == 0) with
  | false => rfl
  | true =>
    have h' : layerDown m.2.1 on k (m.2.1.length - 1) = 0 := by simpa using h
    rw [h']; rfl

theorem spec_ActionAt_in {m : TKeymap} (hz : szT tKeymap m ≤ big20) (hv : isKeymapB m = true) (on : Int) {k : Nat} (hk : (k : Int) < m.1) :
    spec_ActionAt m on (k : Int) = some (actAt m.2.1 (layerI m on k) k, ()) := by
  have hm := keymap_ok hv
  have hl := layerI_lt hm on k
  have hrow := hm.row _ hl
  unfold spec_ActionAt
  rw [spec_LayerAt_in hz hv on hk]
  simp only [Option.bind_some]
  rw [dec_false (by omega)]
  simp only [cond_false]
  rw [idx2 hl (by omega)]

/-! ### After a tap -/
def afterI (f : Int) (a : TAction) : Int := cond (a.1 == 4) (ixor .i64 f (ishl .i64 1 a.2.2.2.1)) (cond (a.1 == 5) (iandn .i64 (ishl .i64 1 a.2.2.2.1) 1) f)

theorem act_n {nl i : Nat} {a : TAction} (h : okActB nl i a = true) (hk : a.1 = 3 ∨ a.1 = 4 ∨ a.1 = 5 ∨ a.1 = 7) : 0 ≤ a.2.2.2.1 ∧ a.2.2.2.1 < (nl : Int) ∧ a.2.2.2.1 ≤ 3 := by
  have h1 := okAct_action h
  rw [isActionB_iff] at h1
  have h2 := okAct_n h (by rcases hk with hk | hk | hk | hk <;> rw [hk] <;> decide)
  unfold IsActionP at h1
  omega

theorem impl_fixedAfter_ok {m : TKeymap} (hm : KeymapOk m) (f : Int) {k : Nat} (hk : (k : Int) < m.1) :
    impl_fixedAfter m f (k : Int) = some (afterI f (actAt m.2.1 (layerI m f k) k), ()) := by
  have hl := layerI_lt hm f k
  have hrow := hm.row _ hl
  have hact := hm.act _ hl k (by omega)
  rw [← actAt_eq hl (by omega)] at hact
  unfold impl_fixedAfter
  rw [impl_layerAt_ok hm f hk]
  simp only [Option.bind_some]
  rw [show layerDown m.2.1 f k (m.2.1.length - 1) = layerI m f k from rfl, idx2 hl (by omega)]
  generalize actAt m.2.1 (layerI m f k) k = a at hact
  unfold afterI
  cases h4 : (a.1 == 4) with
  | true =>
    rw [dec_true (act_n hact (.inr (.inl (by simpa using h4)))).1]; rfl
  | false =>
    cases h5 : (a.1 == 5) with
    | true => rw [dec_true (act_n hact (.inr (.inr (.inl (by simpa using h5))))).1]; rfl
    | false => rfl

theorem fixed_bits {f : Int} (h0 : 0 ≤ f) (h1 : f < 16) (h2 : f.tmod 2 = 0) : ∀ n : Nat, n < 4 → bitI (ior .i64 1 f) ((n + 1 : Nat) : Int) = bitI f ((n + 1 : Nat) : Int) := by
  have : f = 0 ∨ f = 1 ∨ f = 2 ∨ f = 3 ∨ f = 4 ∨ f = 5 ∨ f = 6 ∨ f = 7 ∨ f = 8 ∨ f = 9 ∨ f = 10 ∨ f = 11 ∨ f = 12 ∨ f = 13 ∨ f = 14 ∨ f = 15 := by omega
  clear h0 h1 h2
  rcases this with rfl | rfl | rfl | rfl | rfl | rfl | rfl | rfl | rfl | rfl | rfl | rfl | rfl | rfl | rfl | rfl <;> decide

theorem layer_congr {L : List (List TAction)} {on on' : Int} {k : Nat} : ∀ n : Nat, (∀ j : Nat, j < n → bitI on ((j + 1 : Nat) : Int) = bitI on' ((j + 1 : Nat) : Int)) → layerDown L on k n = layerDown L on' k n
  | 0, _ => rfl
  | n + 1, h => by
    simp only [layerDown]
    rw [h n (by omega), layer_congr n fun j hj => h j (by omega)]

theorem fixed_facts {m : TKeymap} {f : Int} {b : Bool} (hz : szT tKeymap m ≤ big20) (h : impl_IsFixed m f = some (b, ())) (hb : b = true) : isKeymapB m = true ∧ 0 ≤ f ∧ f < 16 ∧ f.tmod 2 = 0 := by
  unfold impl_IsFixed at h
  rw [impl_IsKeymap_ok m hz] at h
  cases hk : isKeymapB m with
  | false => rw [hk] at h; simp at h; rw [hb] at h; simp at h
  | true =>
    have hm := keymap_ok hk
    rw [hk] at h
    simp only [Option.bind_some, cond_true, show ((2 : Int) == 0) = false from rfl, cond_false] at h
    by_cases h1 : f ≥ 0
    case neg => rw [dec_false h1] at h; simp at h; rw [hb] at h; simp at h
    rw [dec_true h1] at h
    cases h2 : (f.tmod 2 == 0) with
    | false => rw [h2] at h; simp at h; rw [hb] at h; simp at h
    | true =>
      rw [h2, dec_true (show (0 : Int) ≤ (m.2.1.length : Int) by omega), shl_one (by have := hm.l2; omega)] at h
      simp only [cond_true, Option.some.injEq, Prod.mk.injEq, and_true] at h
      rw [hb, decide_eq_true_eq] at h
      have h3 := hm.l2
      have h4 : 2 ^ m.2.1.length ≤ 2 ^ 4 := Nat.pow_le_pow_right (by omega) h3
      exact ⟨rfl, h1, by omega, by simpa using h2⟩

theorem FixedAfter_same (m : TKeymap) (f k : Int) (hr0 : Rng tKeymap m) (hr1 : Rng int f) (_ : Rng int k) (hz : szT tKeymap m ≤ big20) :
    ∃ w, spec_FixedAfter m f k = some (w, ()) ∧ impl_FixedAfter m f k = some (w, ()) := by
  obtain ⟨b, e1, e2⟩ := IsFixed_same m f hr0 hr1 hz
  unfold spec_FixedAfter impl_FixedAfter
  rw [e1, e2]
  cases b with
  | false => exact ⟨-1, rfl, rfl⟩
  | true =>
    obtain ⟨hv, f0, f1, f2⟩ := fixed_facts hz e2 rfl
    have hm := keymap_ok hv
    have hk2 := hm.k2
    have hk1 := hm.k1
    simp only [Option.bind_some, Bool.not_true, cond_false, spec_l1In_ok]
    rw [wrap64 (n := m.1 - 1) (by omega) (by omega)]
    by_cases hk : 0 ≤ k ∧ k ≤ m.1 - 1
    case neg =>
      rw [dec_false hk]
      refine ⟨-1, rfl, ?_⟩
      by_cases h0 : k < 0
      · rw [dec_true h0]; rfl
      · rw [dec_false h0, dec_true (show k ≥ m.1 by omega)]; rfl
    rw [dec_true hk, dec_false (show ¬ k < 0 by omega), dec_false (show ¬ k ≥ m.1 by omega)]
    obtain ⟨n, rfl⟩ := Int.eq_ofNat_of_zero_le hk.1
    have hl2 := hm.l2
    rw [spec_ActionAt_in hz hv _ (by omega), impl_fixedAfter_ok hm f (by omega)]
    have hsame : layerI m (ior .i64 1 f) n = layerI m f n := layer_congr _ fun j hj => fixed_bits f0 f1 f2 j (by omega)
    rw [hsame]
    have hl := layerI_lt hm f n
    have hrow := hm.row _ hl
    have hact := hm.act _ hl n (by omega)
    rw [← actAt_eq hl (by omega)] at hact
    refine ⟨afterI f (actAt m.2.1 (layerI m f n) n), ?_, rfl⟩
    generalize actAt m.2.1 (layerI m f n) n = a at hact
    simp only [Bool.not_true, cond_false, Option.bind_some]
    unfold afterI
    cases h4 : (a.1 == 4) with
    | true =>
      rw [dec_true (act_n hact (.inr (.inl (by simpa using h4)))).1]; rfl
    | false =>
      cases h5 : (a.1 == 5) with
      | true => rw [dec_true (act_n hact (.inr (.inr (.inl (by simpa using h5))))).1]; rfl
      | false => rfl
end KF

namespace KF
open Go

/-! ### Tap and hold -/
noncomputable def isTapHoldB (a : TAction) : Bool := isActionB a && ((a.1 == 6) || (a.1 == 7))
noncomputable def tapOfA (a : TAction) : TAction := cond (isTapHoldB a) (2, a.2.1, 0, 0, ()) a
noncomputable def holdOfA (a : TAction) : TAction := cond (isTapHoldB a) (cond (a.1 == 6) (2, 0, a.2.2.1, 0, ()) (3, 0, 0, a.2.2.2.1, ())) a
theorem impl_IsTapHold_ok (a : TAction) : impl_IsTapHold a = some (isTapHoldB a, ()) := by
  unfold impl_IsTapHold isTapHoldB
  rw [impl_IsAction_ok]
  cases isActionB a <;> cases (a.1 == 6) <;> rfl
theorem spec_IsTapHold_ok (a : TAction) : spec_IsTapHold a = some (isTapHoldB a, ()) := by
  unfold spec_IsTapHold isTapHoldB
  rw [spec_IsAction_ok]
  cases isActionB a <;> cases (a.1 == 6) <;> rfl
theorem impl_TapOf_ok (a : TAction) : impl_TapOf a = some (tapOfA a, ()) := by
  unfold impl_TapOf tapOfA
  rw [impl_IsTapHold_ok]
  cases isTapHoldB a <;> rfl
theorem spec_TapOf_ok (a : TAction) : spec_TapOf a = some (tapOfA a, ()) := by
  unfold spec_TapOf tapOfA
  rw [spec_IsTapHold_ok]
  cases isTapHoldB a <;> rfl
theorem spec_HoldOf_ok (a : TAction) : spec_HoldOf a = some (holdOfA a, ()) := by
  unfold spec_HoldOf holdOfA
  rw [spec_IsTapHold_ok]
  cases isTapHoldB a <;> cases (a.1 == 6) <;> rfl

/-! ### Layers that are used -/
def turnsB (a : TAction) : Bool := (a.1 == 3) || (a.1 == 4) || (a.1 == 5) || (a.1 == 7)
def orU (u : Int) (a : TAction) : Int := cond (turnsB a) (ior .i64 u (ishl .i64 1 a.2.2.2.1)) u
def rowU (u : Int) (i : Nat) (row : List TAction) : Int := cond (bitI u (i : Int) == 1) (row.foldl orU u) u

theorem or_bits : ∀ u : Fin 16, ∀ n : Fin 4, 0 ≤ ior .i64 (u.val : Int) (ishl .i64 1 (n.val : Int)) ∧ ior .i64 (u.val : Int) (ishl .i64 1 (n.val : Int)) < 16 ∧
    ∀ i : Fin 4, bitI (u.val : Int) (i.val : Int) = 1 → bitI (ior .i64 (u.val : Int) (ishl .i64 1 (n.val : Int))) (i.val : Int) = 1 := by decide +kernel

theorem or_ok {u : Int} (hu : 0 ≤ u ∧ u < 16) {nl i j : Nat} (hi : i < 4) {a : TAction} (ha : okActB nl j a = true) :
    (0 ≤ orU u a ∧ orU u a < 16) ∧ (bitI u (i : Int) = 1 → bitI (orU u a) (i : Int) = 1) := by
  unfold orU
  cases ht : turnsB a with
  | false => exact ⟨hu, fun h => h⟩
  | true =>
    have hn := act_n ha (by simp only [turnsB, Bool.or_eq_true, beq_iff_eq] at ht; omega)
    obtain ⟨u', rfl⟩ := Int.eq_ofNat_of_zero_le hu.1
    obtain ⟨n', hn'⟩ := Int.eq_ofNat_of_zero_le hn.1
    have := or_bits ⟨u', by omega⟩ ⟨n', by omega⟩
    rw [hn']
    exact ⟨⟨this.1, this.2.1⟩, this.2.2 ⟨i, hi⟩⟩

theorem foldK_row {nl i j : Nat} (hi : i < 4) : ∀ (row : List TAction) (k : Nat) (u : Int), (0 ≤ u ∧ u < 16) → (∀ a ∈ row, okActB nl j a = true) →
    foldK (fun _ u a => cond (bitI u (i : Int) == 1) (orU u a) u) k u row = rowU u i row ∧ (0 ≤ rowU u i row ∧ rowU u i row < 16)
  | [], _, u, hu, _ => by
    refine ⟨?_, ?_⟩
    · simp only [foldK, rowU, List.foldl_nil]; cases (bitI u (i : Int) == 1) <;> rfl
    · simp only [rowU, List.foldl_nil]; cases (bitI u (i : Int) == 1) <;> exact hu
  | a :: row, k, u, hu, h => by
    have ha := or_ok (i := i) hu hi (h a (by simp))
    simp only [foldK]
    cases hb : (bitI u (i : Int) == 1) with
    | true =>
      have ih := foldK_row hi row (k + 1) (orU u a) ha.1 fun b hb => h b (by simp [hb])
      have hb2 : (bitI (orU u a) (i : Int) == 1) = true := by
        have := ha.2 (by simpa using hb)
        rw [this]; rfl
      simp only [cond_true]
      rw [ih.1]
      have e : rowU (orU u a) i row = rowU u i (a :: row) := by
        simp only [rowU, hb, hb2, cond_true, List.foldl_cons]
      rw [← e]
      exact ⟨rfl, ih.2⟩
    | false =>
      have ih := foldK_row hi row (k + 1) u hu fun b hb => h b (by simp [hb])
      simp only [cond_false]
      rw [ih.1]
      have e : rowU u i row = rowU u i (a :: row) := by simp only [rowU, hb, cond_false]
      rw [← e]
      exact ⟨rfl, ih.2⟩

theorem impl_used_in {nl i j : Nat} (hi : i < 4) (row : List TAction) (hrow : ∀ a ∈ row, okActB nl j a = true) (hn : row.length < 9223372036854775807) (u : Int) (hu : 0 ≤ u ∧ u < 16) (c d : Int) (L : List (List TAction)) (n t : Int) (m : TKeymap) :
    impl_LayersUsed_10_loop (((), u, (i : Int), c, d, L, n, t, row, (row.length : Int), (0 : Int), ()), (m, ())) = some (.inl (((), rowU u i row, c, d, L, n, t, ()), (m, ()))) := by
  unfold impl_LayersUsed_10_loop
  have hl := (loopF_fold (step := fun x : ((Unit × (Int × (Int × (Int × (Int × ((List (List TAction)) × (Int × (Int × ((List TAction) × (Int × (Int × Unit))))))))))) × (TKeymap × Unit)) =>
      impl_LayersUsed_10_R x.1.1 x.1.2.1 x.1.2.2.1 x.1.2.2.2.1 x.1.2.2.2.2.1 x.1.2.2.2.2.2.1 x.1.2.2.2.2.2.2.1 x.1.2.2.2.2.2.2.2.1 x.1.2.2.2.2.2.2.2.2.1 x.1.2.2.2.2.2.2.2.2.2.1 x.1.2.2.2.2.2.2.2.2.2.2.1 x.2.1)
    row (fun _ u a => cond (bitI u (i : Int) == 1) (orU u a) u) (fun u k => (((), u, (i : Int), c, d, L, n, t, row, (row.length : Int), k, ()), (m, ()))) (fun u => .inl (((), u, c, d, L, n, t, ()), (m, ())))
    (fun _ u => 0 ≤ u ∧ u < 16) (by
      intro k hk u hu
      have hok := hrow row[k] (List.getElem_mem hk)
      refine ⟨?_, ?_⟩
      · simp only [impl_LayersUsed_10_R]
        rw [dec_true (show (k : Int) < (row.length : Int) by omega), idx_lt hk, impl_bit_ok u (show (0 : Int) ≤ (i : Int) by omega)]
        simp only [cond_true, Option.bind_some]
        generalize row[k] = a at hok
        unfold orU turnsB
        cases h3 : (a.1 == 3) with
        | true =>
          rw [dec_true (act_n hok (.inl (by simpa using h3))).1]
          cases (bitI u (i : Int) == 1) <;> rfl
        | false =>
          cases h4 : (a.1 == 4) with
          | true =>
            rw [dec_true (act_n hok (.inr (.inl (by simpa using h4)))).1]
            cases (bitI u (i : Int) == 1) <;> rfl
          | false =>
            cases h5 : (a.1 == 5) with
            | true =>
              rw [dec_true (act_n hok (.inr (.inr (.inl (by simpa using h5))))).1]
              cases (bitI u (i : Int) == 1) <;> rfl
            | false =>
              cases h7 : (a.1 == 7) with
              | true =>
                rw [dec_true (act_n hok (.inr (.inr (.inr (by simpa using h7))))).1]
                cases (bitI u (i : Int) == 1) <;> rfl
              | false => cases (bitI u (i : Int) == 1) <;> rfl
      · show 0 ≤ cond (bitI u (i : Int) == 1) (orU u row[k]) u ∧ cond (bitI u (i : Int) == 1) (orU u row[k]) u < 16
        cases (bitI u (i : Int) == 1) with
        | true => exact (or_ok (i := i) hu hi hok).1
        | false => exact hu) (by
      intro u _
      simp only [impl_LayersUsed_10_R]
      rw [dec_false (by omega)]; rfl) hn u hu).1
  rw [(foldK_row hi row 0 u hu hrow).1] at hl
  exact hl

def midU (u : Int) (L : List (List TAction)) : Int := foldK (fun i u row => rowU u i row) 0 u L

theorem impl_used_mid {m : TKeymap} (hm : KeymapOk m) (u : Int) (hu : 0 ≤ u ∧ u < 16) (c d : Int) :
    impl_LayersUsed_7_loop (((), u, c, d, m.2.1, (m.2.1.length : Int), (0 : Int), ()), (m, ())) = some (.inl (((), midU u m.2.1, c, d, ()), (m, ()))) ∧ (0 ≤ midU u m.2.1 ∧ midU u m.2.1 < 16) := by
  unfold impl_LayersUsed_7_loop
  have hl2 := hm.l2
  have hk2 := hm.k2
  exact loopF_fold (step := fun x : ((Unit × (Int × (Int × (Int × ((List (List TAction)) × (Int × (Int × Unit))))))) × (TKeymap × Unit)) =>
      impl_LayersUsed_7_R x.1.1 x.1.2.1 x.1.2.2.1 x.1.2.2.2.1 x.1.2.2.2.2.1 x.1.2.2.2.2.2.1 x.1.2.2.2.2.2.2.1 x.2.1)
    m.2.1 (fun i u row => rowU u i row) (fun u k => (((), u, c, d, m.2.1, (m.2.1.length : Int), k, ()), (m, ()))) (fun u => .inl (((), u, c, d, ()), (m, ())))
    (fun _ u => 0 ≤ u ∧ u < 16) (by
      intro k hk u hu
      have hrow := hm.row k hk
      have hall : ∀ a ∈ m.2.1[k], okActB m.2.1.length k a = true := by
        intro a ha
        obtain ⟨j, hj, rfl⟩ := List.mem_iff_getElem.1 ha
        exact hm.act k hk j hj
      refine ⟨?_, (foldK_row (i := k) (by omega) _ 0 u hu hall).2⟩
      simp only [impl_LayersUsed_7_R]
      rw [dec_true (show (k : Int) < (m.2.1.length : Int) by omega), idx_lt hk]
      simp only [cond_true, Option.bind_some]
      rw [impl_used_in (by omega) _ hall (by omega) u hu]
      rfl) (by
      intro u _
      simp only [impl_LayersUsed_7_R]
      rw [dec_false (by omega)]; rfl) (by omega) u hu

def usedI (m : TKeymap) : Int := foldK (fun _ u (_ : List TAction) => midU u m.2.1) 0 1 m.2.1

theorem impl_LayersUsed_ok (m : TKeymap) (hz : szT tKeymap m ≤ big20) : impl_LayersUsed m = some (cond (isKeymapB m) (usedI m) 0, ()) := by
  unfold impl_LayersUsed
  rw [impl_IsKeymap_ok m hz]
  cases hv : isKeymapB m with
  | false => rfl
  | true =>
    have hm := keymap_ok hv
    have hl2 := hm.l2
    have hl := (loopF_fold (step := fun x : ((Unit × (Int × (Int × (Int × Unit)))) × (TKeymap × Unit)) => impl_LayersUsed_5_R x.1.1 x.1.2.1 x.1.2.2.1 x.1.2.2.2.1 x.2.1)
      m.2.1 (fun _ u (_ : List TAction) => midU u m.2.1) (fun u k => (((), u, (m.2.1.length : Int), k, ()), (m, ()))) (fun u => .inl ((u, ()), ())) (fun _ u => 0 ≤ u ∧ u < 16) (by
        intro k hk u hu
        have hmid := impl_used_mid hm u hu (m.2.1.length : Int) (k : Int)
        refine ⟨?_, hmid.2⟩
        simp only [impl_LayersUsed_5_R]
        rw [dec_true (show (k : Int) < (m.2.1.length : Int) by omega), hmid.1]
        rfl) (by
        intro u _
        simp only [impl_LayersUsed_5_R]
        rw [dec_false (by omega)]; rfl) (by omega) 1 (by omega)).1
    simp only [Option.bind_some, Bool.not_true, cond_false, cond_true]
    unfold impl_LayersUsed_5_loop
    erw [hl]
    rfl

theorem hold_turns {nl j : Nat} {a : TAction} (ha : okActB nl j a = true) : (((holdOfA a).1 == 3) || ((holdOfA a).1 == 4) || ((holdOfA a).1 == 5)) = turnsB a ∧ (turnsB a = true → (holdOfA a).2.2.2.1 = a.2.2.2.1) := by
  have h1 := okAct_action ha
  unfold holdOfA isTapHoldB turnsB
  rw [h1]
  cases h6 : (a.1 == 6) with
  | true =>
    have : a.1 = 6 := by simpa using h6
    rw [this]
    exact ⟨rfl, fun h => by simp at h⟩
  | false =>
    cases h7 : (a.1 == 7) with
    | true =>
      have : a.1 = 7 := by simpa using h7
      rw [this]
      exact ⟨rfl, fun _ => rfl⟩
    | false => exact ⟨by simp, fun _ => rfl⟩

theorem foldE_row {nl i j : Nat} (hi : i < 4) : ∀ (row : List TAction) (k : Nat) (u : Int), (0 ≤ u ∧ u < 16) → (∀ a ∈ row, okActB nl j a = true) →
    (match foldE (fun _ u a => cond (bitI u (i : Int) == 1) (.inl (orU u a)) (.inr u)) k u row with | .inl s => s | .inr s => s) = rowU u i row
  | [], _, u, _, _ => by simp only [foldE, rowU, List.foldl_nil]; cases (bitI u (i : Int) == 1) <;> rfl
  | a :: row, k, u, hu, h => by
    have ha := or_ok (i := i) hu hi (h a (by simp))
    simp only [foldE]
    cases hb : (bitI u (i : Int) == 1) with
    | true =>
      have ih := foldE_row hi row (k + 1) (orU u a) ha.1 fun b hb => h b (by simp [hb])
      have hb2 : (bitI (orU u a) (i : Int) == 1) = true := by
        have := ha.2 (by simpa using hb)
        rw [this]; rfl
      simp only [cond_true]
      rw [ih]
      simp only [rowU, hb, hb2, cond_true, List.foldl_cons]
    | false => simp only [rowU, hb, cond_false]

theorem spec_used_in {m : TKeymap} (hm : KeymapOk m) (i : Nat) (hi : i < m.2.1.length) (u : Int) (hu : 0 ≤ u ∧ u < 16) (c : Int) :
    spec_LayersUsed_11_loop (((), u, c, (i : Int), (0 : Int), ()), (m, ())) = some (.inl (((), rowU u i m.2.1[i], c, (i : Int), ()), (m, ()))) := by
  have hl2 := hm.l2
  have hk2 := hm.k2
  have hrow := hm.row i hi
  have hall : ∀ a ∈ m.2.1[i], okActB m.2.1.length i a = true := by
    intro a ha
    obtain ⟨j, hj, rfl⟩ := List.mem_iff_getElem.1 ha
    exact hm.act i hi j hj
  unfold spec_LayersUsed_11_loop
  have hl := loopF_foldX (step := fun x : ((Unit × (Int × (Int × (Int × (Int × Unit))))) × (TKeymap × Unit)) => spec_LayersUsed_11_R x.1.1 x.1.2.1 x.1.2.2.1 x.1.2.2.2.1 x.1.2.2.2.2.1 x.2.1)
    m.2.1[i] (fun _ u a => cond (bitI u (i : Int) == 1) (.inl (orU u a)) (.inr u)) (fun u k => (((), u, c, (i : Int), k, ()), (m, ()))) (fun u => .inl (((), u, c, (i : Int), ()), (m, ()))) (fun u => .inl (((), u, c, (i : Int), ()), (m, ())))
    (fun _ u => 0 ≤ u ∧ u < 16) (by
      intro k hk u hu
      have hok := hall m.2.1[i][k] (List.getElem_mem hk)
      refine ⟨?_, ?_⟩
      · simp only [spec_LayersUsed_11_R]
        rw [dec_true (show (k : Int) < m.1 by omega), dec_true (show (0 : Int) ≤ (i : Int) by omega), idx2 hi hk, actAt_eq hi hk]
        simp only [cond_true, spec_HoldOf_ok, Option.bind_some]
        show cond (bitI u (i : Int) == 1) _ _ = _
        generalize m.2.1[i][k] = a at hok
        obtain ⟨h1, h2⟩ := hold_turns hok
        cases hb : (bitI u (i : Int) == 1) with
        | false => rfl
        | true =>
          simp only [cond_true, orU]
          cases ht : turnsB a with
          | false =>
            rw [ht] at h1
            simp only [Bool.or_eq_false_iff] at h1
            rw [h1.1.1, h1.1.2, h1.2]; rfl
          | true =>
            have hn := act_n hok (by simp only [turnsB, Bool.or_eq_true, beq_iff_eq] at ht; omega)
            rw [h2 ht, dec_true hn.1]
            rw [ht] at h1
            cases h3 : ((holdOfA a).1 == 3) with
            | true => rfl
            | false =>
              cases h4 : ((holdOfA a).1 == 4) with
              | true => rfl
              | false =>
                rw [h3, h4] at h1
                simp only [Bool.false_or] at h1
                rw [h1]; rfl
      · intro s' hs
        cases hb : (bitI u (i : Int) == 1) with
        | false => rw [hb] at hs; simp at hs
        | true =>
          rw [hb] at hs
          simp only [cond_true, Sum.inl.injEq] at hs
          subst hs
          exact (or_ok (i := i) hu (by omega) hok).1) (by
      intro u _
      simp only [spec_LayersUsed_11_R]
      rw [dec_false (by omega)]; rfl) (by omega) u hu
  have hf := foldE_row (i := i) (by omega) m.2.1[i] 0 u hu hall
  refine Eq.trans hl ?_
  cases hfe : foldE (fun _ u a => cond (bitI u (i : Int) == 1) (.inl (orU u a)) (.inr u)) 0 u m.2.1[i] with
  | inl s => rw [hfe] at hf; simp only at hf; rw [hf]
  | inr s => rw [hfe] at hf; simp only at hf; rw [hf]

theorem spec_used_mid {m : TKeymap} (hm : KeymapOk m) (u : Int) (hu : 0 ≤ u ∧ u < 16) (c : Int) :
    spec_LayersUsed_8_loop (((), u, c, (0 : Int), ()), (m, ())) = some (.inl (((), midU u m.2.1, c, ()), (m, ()))) ∧ (0 ≤ midU u m.2.1 ∧ midU u m.2.1 < 16) := by
  unfold spec_LayersUsed_8_loop
  have hl2 := hm.l2
  exact loopF_fold (step := fun x : ((Unit × (Int × (Int × (Int × Unit)))) × (TKeymap × Unit)) => spec_LayersUsed_8_R x.1.1 x.1.2.1 x.1.2.2.1 x.1.2.2.2.1 x.2.1)
    m.2.1 (fun i u row => rowU u i row) (fun u k => (((), u, c, k, ()), (m, ()))) (fun u => .inl (((), u, c, ()), (m, ())))
    (fun _ u => 0 ≤ u ∧ u < 16) (by
      intro k hk u hu
      have hall : ∀ a ∈ m.2.1[k], okActB m.2.1.length k a = true := by
        intro a ha
        obtain ⟨j, hj, rfl⟩ := List.mem_iff_getElem.1 ha
        exact hm.act k hk j hj
      refine ⟨?_, (foldK_row (i := k) (by omega) _ 0 u hu hall).2⟩
      simp only [spec_LayersUsed_8_R]
      rw [dec_true (show (k : Int) < (m.2.1.length : Int) by omega), spec_used_in hm k hk u hu]
      rfl) (by
      intro u _
      simp only [spec_LayersUsed_8_R]
      rw [dec_false (by omega)]; rfl) (by omega) u hu

theorem spec_LayersUsed_ok (m : TKeymap) (hz : szT tKeymap m ≤ big20) : spec_LayersUsed m = some (cond (isKeymapB m) (usedI m) 0, ()) := by
  unfold spec_LayersUsed
  rw [spec_IsKeymap_ok m hz]
  cases hv : isKeymapB m with
  | false => rfl
  | true =>
    have hm := keymap_ok hv
    have hl2 := hm.l2
    have hl := (loopF_fold (step := fun x : ((Unit × (Int × (Int × Unit))) × (TKeymap × Unit)) => spec_LayersUsed_5_R x.1.1 x.1.2.1 x.1.2.2.1 x.2.1)
      m.2.1 (fun _ u (_ : List TAction) => midU u m.2.1) (fun u k => (((), u, k, ()), (m, ()))) (fun u => .inl ((u, ()), ())) (fun _ u => 0 ≤ u ∧ u < 16) (by
        intro k hk u hu
        have hmid := spec_used_mid hm u hu (k : Int)
        refine ⟨?_, hmid.2⟩
        simp only [spec_LayersUsed_5_R]
        rw [dec_true (show (k : Int) < (m.2.1.length : Int) by omega), hmid.1]
        rfl) (by
        intro u _
        simp only [spec_LayersUsed_5_R]
        rw [dec_false (by omega)]; rfl) (by omega) 1 (by omega)).1
    simp only [Option.bind_some, Bool.not_true, cond_false, cond_true]
    unfold spec_LayersUsed_5_loop
    erw [hl]
    rfl

theorem LayersUsed_same (m : TKeymap) (_ : Rng tKeymap m) (hz : szT tKeymap m ≤ big20) : ∃ w, spec_LayersUsed m = some (w, ()) ∧ impl_LayersUsed m = some (w, ()) :=
  ⟨_, spec_LayersUsed_ok m hz, impl_LayersUsed_ok m hz⟩
end KF

namespace KF
open Go
theorem law_LayersUsed (a0 : TKeymap) (hr0 : Rng tKeymap a0) : laws_FnExactLayersUsed a0 = some (true, ()) := by
  have h20 : big20 = 1048576 := rfl
  have h40 : big40 = 1099511627776 := rfl
  unfold laws_FnExactLayersUsed
  have s0 := szKeymap_ok a0 hr0 (1048576) (by omega)
  rw [show ((1048576 : Nat) : Int) = 1048576 from rfl] at s0
  rw [s0]
  simp only [Option.bind_some]
  by_cases z0 : szT tKeymap a0 ≤ 1048576
  case neg => rw [szR_gt z0]; rfl
  rw [szR_le z0, dec_false (by omega)]
  simp only [cond_false]
  have hz0 : szT tKeymap a0 ≤ big20 := by omega
  obtain ⟨w0, e1, e2⟩ := LayersUsed_same a0 hr0 hz0
  simp only [e1, e2, toKeymap_ok a0 hz0, eqKeymap_ok a0 (by omega), Option.bind_some, bne_self_eq_false', Bool.not_true, cond_false]
end KF
