/- Laws on the plain functions: program and reference agree (conditions: as each lemma tells). -/
import Derived.Test.YtabfbdolbfnfcaaH
namespace KF
open Go
set_option linter.unusedSimpArgs false
set_option linter.unusedVariables false

def isCodeP (c : Int) : Prop := 1 ≤ c ∧ c ≤ 56
def isModsP (m : Int) : Prop := 1 ≤ m ∧ m ≤ 15
def isUpperP (n : Int) : Prop := 1 ≤ n ∧ n ≤ 3
/-- an action is valid -/
def IsActionP (k c m n : Int) : Prop :=
  ((k = 0 ∨ k = 1 ∨ k = 10) ∧ c = 0 ∧ m = 0 ∧ n = 0) ∨
  (k = 2 ∧ n = 0 ∧ (c = 0 ∨ 1 ≤ c ∧ c ≤ 56) ∧ (m = 0 ∨ 1 ≤ m ∧ m ≤ 15) ∧ (c ≠ 0 ∨ m ≠ 0)) ∨
  ((k = 3 ∨ k = 4) ∧ c = 0 ∧ m = 0 ∧ 1 ≤ n ∧ n ≤ 3) ∨
  ((k = 5 ∨ k = 9) ∧ c = 0 ∧ m = 0 ∧ 0 ≤ n ∧ n ≤ 3) ∨
  (k = 6 ∧ 1 ≤ c ∧ c ≤ 56 ∧ 1 ≤ m ∧ m ≤ 15 ∧ n = 0) ∨
  (k = 7 ∧ 1 ≤ c ∧ c ≤ 56 ∧ m = 0 ∧ 1 ≤ n ∧ n ≤ 3) ∨
  (k = 8 ∧ c = 0 ∧ 1 ≤ m ∧ m ≤ 15 ∧ n = 0)
noncomputable def isActionB (a : TAction) : Bool := open Classical in decide (IsActionP a.1 a.2.1 a.2.2.1 a.2.2.2.1)
theorem isActionB_iff (a : TAction) : isActionB a = true ↔ IsActionP a.1 a.2.1 a.2.2.1 a.2.2.2.1 := by simp [isActionB]

theorem impl_isCode_ok (c : Int) : impl_isCode c = some (decide (1 ≤ c ∧ c ≤ 56), ()) := by
  simp only [impl_isCode, cond_some, cond_unit]
  apply some_unit; simp only [cond_iff, decide_eq_true_eq, beq_iff', bne_iff', Bool.false_eq_true, and_false, false_and, or_false, false_or, and_true, true_and, not_true_eq_false, not_false_eq_true]; try omega
theorem impl_isMods_ok (c : Int) : impl_isMods c = some (decide (1 ≤ c ∧ c ≤ 15), ()) := by
  simp only [impl_isMods, cond_some, cond_unit]
  apply some_unit; simp only [cond_iff, decide_eq_true_eq, beq_iff', bne_iff', Bool.false_eq_true, and_false, false_and, or_false, false_or, and_true, true_and, not_true_eq_false, not_false_eq_true]; try omega
theorem impl_isUpper_ok (c : Int) : impl_isUpper c = some (decide (1 ≤ c ∧ c ≤ 3), ()) := by
  simp only [impl_isUpper, cond_some, cond_unit]
  apply some_unit; simp only [cond_iff, decide_eq_true_eq, beq_iff', bne_iff', Bool.false_eq_true, and_false, false_and, or_false, false_or, and_true, true_and, not_true_eq_false, not_false_eq_true]; try omega
theorem spec_l1In_ok (c a b : Int) : spec_l1In c a b = some (decide (a ≤ c ∧ c ≤ b), ()) := by
  simp only [spec_l1In, cond_some, cond_unit]
  apply some_unit; simp only [cond_iff, decide_eq_true_eq, beq_iff', bne_iff', Bool.false_eq_true, and_false, false_and, or_false, false_or, and_true, true_and, not_true_eq_false, not_false_eq_true]; try omega

theorem impl_IsAction_ok (a : TAction) : impl_IsAction a = some (isActionB a, ()) := by
  obtain ⟨k, c, m, n, u⟩ := a
  have key : ∀ k c m n : Int, impl_IsAction (k, c, m, n, u) = some (isActionB (k, c, m, n, u), ()) := by
    intro k c m n
    simp only [impl_IsAction, impl_isCode_ok, impl_isMods_ok, impl_isUpper_ok, spec_l1In_ok, Option.bind_some, cond_some, cond_unit]
    by_cases h0 : k = 0
    · subst h0; apply some_unit; rw [isActionB_iff]; simp [IsActionP, cond_iff]; try omega
    by_cases h1 : k = 1
    · subst h1; apply some_unit; rw [isActionB_iff]; simp [IsActionP, cond_iff]; try omega
    by_cases h2 : k = 2
    · subst h2; apply some_unit; rw [isActionB_iff]; simp [IsActionP, cond_iff]; intro hn; (repeat' split) <;> omega
    by_cases h3 : k = 3
    · subst h3; apply some_unit; rw [isActionB_iff]; simp [IsActionP, cond_iff]; try omega
    by_cases h4 : k = 4
    · subst h4; apply some_unit; rw [isActionB_iff]; simp [IsActionP, cond_iff]; try omega
    by_cases h5 : k = 5
    · subst h5; apply some_unit; rw [isActionB_iff]; simp [IsActionP, cond_iff]; try omega
    by_cases h6 : k = 6
    · subst h6; apply some_unit; rw [isActionB_iff]; simp [IsActionP, cond_iff]; try omega
    by_cases h7 : k = 7
    · subst h7; apply some_unit; rw [isActionB_iff]; simp [IsActionP, cond_iff]; try omega
    by_cases h8 : k = 8
    · subst h8; apply some_unit; rw [isActionB_iff]; simp [IsActionP, cond_iff]; try omega
    by_cases h9 : k = 9
    · subst h9; apply some_unit; rw [isActionB_iff]; simp [IsActionP, cond_iff]; try omega
    by_cases h10 : k = 10
    · subst h10; apply some_unit; rw [isActionB_iff]; simp [IsActionP, cond_iff]; try omega
    have g : ∀ j : Int, (k == j) = decide (k = j) := fun j => by rw [Bool.eq_iff_iff]; simp
    apply some_unit; rw [isActionB_iff]; simp [IsActionP, cond_iff, h0, h1, h2, h3, h4, h5, h6, h7, h8, h9, h10]
  exact key k c m n
theorem spec_IsAction_ok (a : TAction) : spec_IsAction a = some (isActionB a, ()) := by
  obtain ⟨k, c, m, n, u⟩ := a
  have key : ∀ k c m n : Int, spec_IsAction (k, c, m, n, u) = some (isActionB (k, c, m, n, u), ()) := by
    intro k c m n
    simp only [spec_IsAction, impl_isCode_ok, impl_isMods_ok, impl_isUpper_ok, spec_l1In_ok, Option.bind_some, cond_some, cond_unit]
    by_cases h0 : k = 0
    · subst h0; apply some_unit; rw [isActionB_iff]; simp [IsActionP, cond_iff]; try omega
    by_cases h1 : k = 1
    · subst h1; apply some_unit; rw [isActionB_iff]; simp [IsActionP, cond_iff]; try omega
    by_cases h2 : k = 2
    · subst h2; apply some_unit; rw [isActionB_iff]; simp [IsActionP, cond_iff]; intro hn; (repeat' split) <;> omega
    by_cases h3 : k = 3
    · subst h3; apply some_unit; rw [isActionB_iff]; simp [IsActionP, cond_iff]; try omega
    by_cases h4 : k = 4
    · subst h4; apply some_unit; rw [isActionB_iff]; simp [IsActionP, cond_iff]; try omega
    by_cases h5 : k = 5
    · subst h5; apply some_unit; rw [isActionB_iff]; simp [IsActionP, cond_iff]; try omega
    by_cases h6 : k = 6
    · subst h6; apply some_unit; rw [isActionB_iff]; simp [IsActionP, cond_iff]; try omega
    by_cases h7 : k = 7
    · subst h7; apply some_unit; rw [isActionB_iff]; simp [IsActionP, cond_iff]; try omega
    by_cases h8 : k = 8
    · subst h8; apply some_unit; rw [isActionB_iff]; simp [IsActionP, cond_iff]; try omega
    by_cases h9 : k = 9
    · subst h9; apply some_unit; rw [isActionB_iff]; simp [IsActionP, cond_iff]; try omega
    by_cases h10 : k = 10
    · subst h10; apply some_unit; rw [isActionB_iff]; simp [IsActionP, cond_iff]; try omega
    have g : ∀ j : Int, (k == j) = decide (k = j) := fun j => by rw [Bool.eq_iff_iff]; simp
    apply some_unit; rw [isActionB_iff]; simp [IsActionP, cond_iff, h0, h1, h2, h3, h4, h5, h6, h7, h8, h9, h10]
  exact key k c m n

/-! ### Keymaps -/
/-- what is asked of the action of a layer -/
noncomputable def okActB (nl : Nat) (i : Nat) (a : TAction) : Bool := isActionB a && !(((i : Int) == 0) && (a.1 == 1)) && !((a.1 != 9) && decide (a.2.2.2.1 ≥ (nl : Int)))
noncomputable def okLayerB (keys : Int) (nl : Nat) (i : Nat) (l : List TAction) : Bool := ((List.length l : Int) == keys) && allK (fun _ a => okActB nl i a) 0 l
noncomputable def isKeymapB (m : TKeymap) : Bool :=
  decide (1 ≤ m.1 ∧ m.1 ≤ 32) && decide (1 ≤ m.2.1.length ∧ m.2.1.length ≤ 4) && allK (fun i l => okLayerB m.1 m.2.1.length i l) 0 m.2.1

theorem impl_IsKeymap_in (m : TKeymap) (i : Nat) (l : List TAction) (L : List (List TAction)) (n : Int) (t : Int) (hl : l.length < 9223372036854775807) :
    impl_IsKeymap_9_loop (((), (i : Int), L, n, t, l, (l.length : Int), (0 : Int), ()), (m, ())) =
      some (cond (allK (fun _ a => okActB m.2.1.length i a) 0 l) (.inl (((), L, n, t, ()), (m, ()))) (.inr ((false, ()), ()))) := by
  unfold impl_IsKeymap_9_loop
  refine loopF_all (step := _) l (fun _ a => okActB m.2.1.length i a) (fun j => (((), (i : Int), L, n, t, l, (l.length : Int), j, ()), (m, ()))) _ _ ?_ ?_ hl
  · intro k hk
    simp only [impl_IsKeymap_9_R]
    rw [dec_true (show (k : Int) < (l.length : Int) by omega), idx_lt hk]
    simp only [cond_true, Option.bind_some, okActB, impl_IsAction_ok]
    cases isActionB l[k] <;> cases ((i : Int) == 0) <;> cases (l[k].1 == 1) <;> cases (l[k].1 != 9) <;> cases decide (l[k].2.2.2.1 ≥ (m.2.1.length : Int)) <;> rfl
  · simp [impl_IsKeymap_9_R]

theorem impl_IsKeymap_ok (m : TKeymap) (hz : szT tKeymap m ≤ big20) : impl_IsKeymap m = some (isKeymapB m, ()) := by
  have h20 : big20 = 1048576 := rfl
  have hz' : m.2.1.length + (List.map (szT (.sl tAction)) m.2.1).sum ≤ big20 := by
    have : szT tKeymap m = szT (.sl (.sl tAction)) m.2.1 := by simp only [szT, Nat.add_zero, Nat.zero_add]
    rw [this] at hz; exact hz
  have hl : ∀ k (hk : k < m.2.1.length), m.2.1[k].length ≤ big20 := by
    intro k hk
    have := sum_map_le (f := szT (.sl tAction)) hk
    have h2 : m.2.1[k].length ≤ szT (.sl tAction) m.2.1[k] := Nat.le_add_right _ _
    omega
  have hloop : impl_IsKeymap_4_loop (((), m.2.1, ((List.length m.2.1 : Nat) : Int), (0 : Int), ()), (m, ())) =
      some (cond (allK (fun i l => okLayerB m.1 m.2.1.length i l) 0 m.2.1) (.inl ((), ())) (.inr ((false, ()), ()))) := by
    unfold impl_IsKeymap_4_loop
    refine loopF_all (step := _) m.2.1 (fun i l => okLayerB m.1 m.2.1.length i l) (fun j => (((), m.2.1, ((List.length m.2.1 : Nat) : Int), j, ()), (m, ()))) _ _ ?_ ?_ (by omega)
    · intro k hk
      have := hl k hk
      simp only [impl_IsKeymap_4_R]
      rw [dec_true (show (k : Int) < (m.2.1.length : Int) by omega), idx_lt hk]
      simp only [cond_true, Option.bind_some, okLayerB]
      rw [impl_IsKeymap_in m k _ _ _ _ (by omega)]
      show (cond (!((m.2.1[k].length : Int) == m.1)) _ _) = _
      cases ((m.2.1[k].length : Int) == m.1) <;> cases allK (fun _ a => okActB m.2.1.length k a) 0 m.2.1[k] <;> rfl
    · simp [impl_IsKeymap_4_R]
  unfold impl_IsKeymap
  rw [hloop]
  simp only [Option.bind_some, elim_cond, cond_some, cond_unit]
  apply some_unit
  simp only [cond_iff, isKeymapB, Bool.and_eq_true, decide_eq_true_eq, Bool.false_eq_true, and_false, false_or, and_true, or_false]
  generalize allK (fun i l => okLayerB m.1 m.2.1.length i l) 0 m.2.1 = b
  constructor
  · rintro ⟨h1, h2, h3, h4, h5⟩; exact ⟨⟨by omega, by omega⟩, h5⟩
  · rintro ⟨⟨h1, h2⟩, h5⟩; exact ⟨by omega, by omega, by omega, by omega, h5⟩

theorem spec_IsKeymap_in (m : TKeymap) (i : Nat) (hi : i < m.2.1.length) (hl : m.2.1[i].length < 9223372036854775807) :
    spec_IsKeymap_7_loop (((), (i : Int), (0 : Int), ()), (m, ())) =
      some (cond (allK (fun _ a => okActB m.2.1.length i a) 0 m.2.1[i]) (.inl (((), (i : Int), ()), (m, ()))) (.inr ((false, ()), ()))) := by
  unfold spec_IsKeymap_7_loop
  refine loopF_all (step := _) m.2.1[i] (fun _ a => okActB m.2.1.length i a) (fun j => (((), (i : Int), j, ()), (m, ()))) _ _ ?_ ?_ hl
  · intro k hk
    simp only [spec_IsKeymap_7_R]
    rw [idx_lt hi]
    simp only [Option.bind_some]
    rw [dec_true (show (k : Int) < (m.2.1[i].length : Int) by omega), idx_lt hk]
    simp only [cond_true, Option.bind_some, okActB, spec_IsAction_ok]
    cases isActionB m.2.1[i][k] <;> cases ((i : Int) == 0) <;> cases (m.2.1[i][k].1 == 1) <;> cases (m.2.1[i][k].1 != 9) <;> cases decide (m.2.1[i][k].2.2.2.1 ≥ (m.2.1.length : Int)) <;> rfl
  · simp [spec_IsKeymap_7_R, idx_lt hi]

theorem spec_IsKeymap_ok (m : TKeymap) (hz : szT tKeymap m ≤ big20) : spec_IsKeymap m = some (isKeymapB m, ()) := by
  have h20 : big20 = 1048576 := rfl
  have hz' : m.2.1.length + (List.map (szT (.sl tAction)) m.2.1).sum ≤ big20 := by
    have : szT tKeymap m = szT (.sl (.sl tAction)) m.2.1 := by simp only [szT, Nat.add_zero, Nat.zero_add]
    rw [this] at hz; exact hz
  have hl : ∀ k (hk : k < m.2.1.length), m.2.1[k].length ≤ big20 := by
    intro k hk
    have := sum_map_le (f := szT (.sl tAction)) hk
    have h2 : m.2.1[k].length ≤ szT (.sl tAction) m.2.1[k] := Nat.le_add_right _ _
    omega
  have hloop : spec_IsKeymap_2_loop (((), (0 : Int), ()), (m, ())) =
      some (cond (allK (fun i l => okLayerB m.1 m.2.1.length i l) 0 m.2.1) (.inl (((), ()), (m, ()))) (.inr ((false, ()), ()))) := by
    unfold spec_IsKeymap_2_loop
    refine loopF_all (step := _) m.2.1 (fun i l => okLayerB m.1 m.2.1.length i l) (fun j => (((), j, ()), (m, ()))) _ _ ?_ ?_ (by omega)
    · intro k hk
      have := hl k hk
      simp only [spec_IsKeymap_2_R]
      rw [dec_true (show (k : Int) < (m.2.1.length : Int) by omega), idx_lt hk]
      simp only [cond_true, Option.bind_some, okLayerB]
      rw [spec_IsKeymap_in m k hk (by omega)]
      show (cond (!((m.2.1[k].length : Int) == m.1)) _ _) = _
      cases ((m.2.1[k].length : Int) == m.1) <;> cases allK (fun _ a => okActB m.2.1.length k a) 0 m.2.1[k] <;> rfl
    · simp [spec_IsKeymap_2_R]
  unfold spec_IsKeymap
  rw [hloop]
  simp only [Option.bind_some, elim_cond, cond_some, cond_unit, spec_l1In_ok]
  apply some_unit
  simp only [cond_iff, isKeymapB, Bool.and_eq_true, decide_eq_true_eq, Bool.false_eq_true, and_false, false_or, and_true, or_false]
  generalize allK (fun i l => okLayerB m.1 m.2.1.length i l) 0 m.2.1 = b
  constructor
  · rintro ⟨h1, h2, h3⟩; exact ⟨⟨by omega, by omega⟩, h1⟩
  · rintro ⟨⟨h1, h2⟩, h5⟩; exact ⟨h5, by omega, by omega⟩

/-! ### Fixed masks -/
theorem shl_one {n : Nat} (h : n ≤ 62) : ishl .i64 1 (n : Int) = ((2 ^ n : Nat) : Int) := by
  unfold ishl
  have h1 : min (Int.toNat (n : Int)) (IntKind.bits .i64) = n := by
    show min (Int.toNat (n : Int)) 64 = n
    rw [Int.toNat_natCast]; omega
  rw [h1, Int.one_mul]
  have h2 : (2 : Int) ^ n = ((2 ^ n : Nat) : Int) := by simp
  have h3 : 2 ^ n ≤ 2 ^ 62 := Nat.pow_le_pow_right (by omega) h
  rw [h2]
  clear h1 h2
  generalize 2 ^ n = z at h3
  rw [wrap64 (by omega) (by omega)]

theorem IsFixed_same (m : TKeymap) (f : Int) (_ : Rng tKeymap m) (_ : Rng int f) (hz : szT tKeymap m ≤ big20) :
    ∃ b, spec_IsFixed m f = some (b, ()) ∧ impl_IsFixed m f = some (b, ()) := by
  unfold spec_IsFixed impl_IsFixed
  rw [spec_IsKeymap_ok m hz, impl_IsKeymap_ok m hz]
  simp only [Option.bind_some, spec_l1In_ok]
  cases hk : isKeymapB m with
  | false => exact ⟨false, rfl, rfl⟩
  | true =>
    simp only [cond_true]
    have hn : 1 ≤ m.2.1.length ∧ m.2.1.length ≤ 4 := by
      simp only [isKeymapB, Bool.and_eq_true, decide_eq_true_eq] at hk
      exact hk.1.2
    rw [shl_one (by omega), dec_true (show (0 : Int) ≤ (m.2.1.length : Int) by omega)]
    have hp : 1 ≤ 2 ^ m.2.1.length ∧ 2 ^ m.2.1.length ≤ 16 := by
      obtain ⟨h1, h2⟩ := hn
      generalize m.2.1.length = n at *
      have : n = 1 ∨ n = 2 ∨ n = 3 ∨ n = 4 := by omega
      rcases this with rfl | rfl | rfl | rfl <;> decide
    rw [wrap64 (by omega) (by omega)]
    simp only [cond_true, cond_some, cond_unit, show ((2 : Int) == 0) = false from rfl, cond_false]
    refine ⟨_, rfl, ?_⟩
    apply some_unit
    simp only [cond_iff, decide_eq_true_eq, Bool.false_eq_true, and_false, or_false, beq_iff']
    omega
end KF

namespace KF
open Go

/-! ### Packets -/
def sealG (k : Nat) (s : Int) (x : Int) : Int := IntKind.wrap .i64 (s + IntKind.wrap .i64 (IntKind.wrap .i64 x * IntKind.wrap .i64 ((k : Int) + 1)))
def sealL (a : List Int) : List Int :=
  if a.length ≥ 8 then [] else (a ++ List.replicate (8 - a.length) 0).set 7 (IntKind.wrap .u8 (Int.tmod (foldK sealG 0 90 a) 256))

theorem foldK_two {α S T : Type} (g : Nat → S → α → S) (h : Nat → T → α → T) : ∀ (xs : List α) (k : Nat) (s : S) (t : T),
    foldK (fun k (p : S × T) x => (g k p.1 x, h k p.2 x)) k (s, t) xs = (foldK g k s xs, foldK h k t xs)
  | [], _, _, _ => rfl
  | x :: xs, k, s, t => by simp only [foldK]; exact foldK_two g h xs (k + 1) _ _

theorem foldK_set {α : Type} : ∀ (xs : List α) (k : Nat) (o : List α), k + xs.length ≤ o.length → foldK (fun k o x => o.set k x) k o xs = o.take k ++ xs ++ o.drop (k + xs.length)
  | [], k, o, h => by simp [foldK]
  | x :: xs, k, o, h => by
    simp only [List.length_cons] at h
    simp only [foldK]
    rw [foldK_set xs (k + 1) (o.set k x) (by simp; omega)]
    have h1 : (o.set k x).take (k + 1) = o.take k ++ [x] := by
      rw [List.take_succ_eq_append_getElem (by simp; omega), List.take_set_of_le (Nat.le_refl _), List.getElem_set_self]
    have h2 : (o.set k x).drop (k + 1 + xs.length) = o.drop (k + (xs.length + 1)) := by
      rw [List.drop_set, if_pos (by omega), show k + 1 + xs.length = k + (xs.length + 1) by omega]
    rw [h1, h2, List.length_cons]
    simp

theorem impl_SealPacket_ok (a : List Int) : impl_SealPacket a = some (sealL a, ()) := by
  unfold impl_SealPacket sealL
  by_cases h8 : a.length ≥ 8
  · rw [dec_true (show ((a.length : Nat) : Int) ≥ 8 by omega), if_pos h8]; rfl
  rw [dec_false (show ¬ ((a.length : Nat) : Int) ≥ 8 by omega), if_neg h8]
  have hz : (((8 : Int) == (8 : Int)) && (decide ((0 : Int) ≤ (8 : Int)) && decide ((8 : Int) ≤ ((lim : Nat) : Int)))) = true := by decide
  rw [hz]
  have hb : Nat.ble a.length (List.length (List.replicate (Int.toNat (8 : Int)) (0 : Int))) = true := by
    rw [Nat.ble_eq]; simp; omega
  rw [hb]
  have hl := (loopF_fold (step := fun x : ((List Int) × (Int × ((List Int) × (Int × (Int × Unit))))) × Unit => impl_SealPacket_7_R x.1.1 x.1.2.1 x.1.2.2.1 x.1.2.2.2.1 x.1.2.2.2.2.1) a sealG
    (fun s i => (((List.append a (List.drop (List.length a) (List.replicate (Int.toNat (8 : Int)) (0 : Int)))), s, a, (a.length : Int), i, ()), ())) (fun s => .inl (((List.append a (List.drop (List.length a) (List.replicate (Int.toNat (8 : Int)) (0 : Int)))), s, ()), ())) (fun _ _ => True)
    (by
      intro k hk s _
      refine ⟨?_, trivial⟩
      simp only [impl_SealPacket_7_R]
      rw [dec_true (show (k : Int) < (a.length : Int) by omega), idx_lt hk]
      rfl) (by
      intro s _
      simp only [impl_SealPacket_7_R]
      rw [dec_false (by omega)]
      rfl) (by omega) 90 trivial).1
  simp only [cond_true, cond_false]
  unfold impl_SealPacket_7_loop
  erw [hl]
  simp only [Option.bind_some, Sum.elim_inl, show ((256 : Int) == 0) = false from rfl, cond_false]
  have hd : List.append a (List.drop (List.length a) (List.replicate (Int.toNat (8 : Int)) (0 : Int))) = a ++ List.replicate (8 - a.length) 0 := by
    show a ++ _ = _
    rw [List.drop_replicate]
    rfl
  rw [hd]
  have hlen : (a ++ List.replicate (8 - a.length) (0 : Int)).length = 8 := by simp; omega
  have h7 : inb (a ++ List.replicate (8 - a.length) (0 : Int)).length 7 = true := by rw [hlen]; rfl
  rw [h7]
  simp only [cond_true, show Int.toNat (7 : Int) = 7 from rfl]
  rw [List.getElem?_eq_getElem (by omega)]
  rfl

theorem spec_SealPacket_ok (a : List Int) : spec_SealPacket a = some (sealL a, ()) := by
  unfold spec_SealPacket sealL
  by_cases h8 : a.length ≥ 8
  · rw [dec_true (show ((a.length : Nat) : Int) ≥ 8 by omega), if_pos h8]; rfl
  rw [dec_false (show ¬ ((a.length : Nat) : Int) ≥ 8 by omega), if_neg h8]
  have hz : (((8 : Int) == (8 : Int)) && (decide ((0 : Int) ≤ (8 : Int)) && decide ((8 : Int) ≤ ((lim : Nat) : Int)))) = true := by decide
  rw [hz]
  have hl := (loopF_fold (step := fun x : ((List Int) × ((List Int) × (Int × (Int × Unit)))) × Unit => spec_SealPacket_6_R x.1.1 x.1.2.1 x.1.2.2.1 x.1.2.2.2.1) a (fun k (p : List Int × Int) x => (p.1.set k x, sealG k p.2 x))
    (fun s i => ((a, s.1, s.2, i, ()), ())) (fun s => .inl ((s.1, s.2, ()), ())) (fun _ s => s.1.length = 8)
    (by
      intro k hk s hs
      refine ⟨?_, by simpa using hs⟩
      simp only [spec_SealPacket_6_R]
      rw [dec_true (show (k : Int) < (a.length : Int) by omega), idx_lt hk, inb_nat, dec_true (show k < s.1.length by omega)]
      simp only [cond_true, Option.bind_some, Int.toNat_natCast, List.getElem?_eq_getElem (show k < s.1.length by omega)]
      rw [Int.mul_comm (IntKind.wrap .i64 ((k : Int) + 1))]
      rfl) (by
      intro s _
      simp only [spec_SealPacket_6_R]
      rw [dec_false (by omega)]
      rfl) (by omega) (List.replicate (Int.toNat (8 : Int)) (0 : Int), 90) (by simp)).1
  rw [foldK_two (fun k (o : List Int) x => o.set k x) sealG, foldK_set _ _ _ (by simp; omega)] at hl
  simp only [cond_true, cond_false]
  unfold spec_SealPacket_6_loop
  erw [hl]
  simp only [Option.bind_some, Sum.elim_inl, show ((256 : Int) == 0) = false from rfl, cond_false, List.take_zero, List.nil_append, Nat.zero_add]
  have hd : a ++ List.drop a.length (List.replicate (Int.toNat (8 : Int)) (0 : Int)) = a ++ List.replicate (8 - a.length) 0 := by
    rw [List.drop_replicate]
    rfl
  rw [hd]
  have hlen : (a ++ List.replicate (8 - a.length) (0 : Int)).length = 8 := by simp; omega
  have h7 : inb (a ++ List.replicate (8 - a.length) (0 : Int)).length 7 = true := by rw [hlen]; rfl
  rw [h7]
  simp only [cond_true, show Int.toNat (7 : Int) = 7 from rfl]
  rw [List.getElem?_eq_getElem (by omega)]
  rfl

def isPacketB (b : List Int) : Bool := ((b.length : Int) == 8) && (strOf (sealL (cutl b 0 7)) == strOf b)
theorem impl_IsPacket_ok (b : List Int) : impl_IsPacket b = some (isPacketB b, ()) := by
  unfold impl_IsPacket isPacketB
  cases h : ((b.length : Int) == 8) with
  | false => rfl
  | true =>
    have h8 : (b.length : Int) = 8 := by simpa using h
    have hc : cutOk (List.length b) (0 : Int) (7 : Int) = true := by simp [cutOk]; omega
    rw [hc, impl_SealPacket_ok]
    rfl
theorem spec_IsPacket_ok (b : List Int) : spec_IsPacket b = some (isPacketB b, ()) := by
  unfold spec_IsPacket isPacketB
  cases h : ((b.length : Int) == 8) with
  | false => rfl
  | true =>
    have h8 : (b.length : Int) = 8 := by simpa using h
    have hc : cutOk (List.length b) (0 : Int) (7 : Int) = true := by simp [cutOk]; omega
    rw [hc, spec_SealPacket_ok]
    rfl

theorem szByteL (a : List Int) : szT (.sl byte) a = a.length := szT_flat (e := byte) rfl a
theorem IsPacket_same (a : List Int) (_ : Rng (.sl byte) a) (_ : szT (.sl byte) a ≤ big20) : ∃ w, spec_IsPacket a = some (w, ()) ∧ impl_IsPacket a = some (w, ()) :=
  ⟨_, spec_IsPacket_ok a, impl_IsPacket_ok a⟩
theorem sealL_len (a : List Int) : (sealL a).length ≤ 8 := by
  unfold sealL
  split
  · simp
  · simp; omega
theorem SealPacket_same (a : List Int) (_ : Rng (.sl byte) a) (_ : szT (.sl byte) a ≤ big20) : ∃ w, spec_SealPacket a = some (w, ()) ∧ impl_SealPacket a = some (w, ()) ∧ szT (.sl byte) w ≤ big20 :=
  ⟨_, spec_SealPacket_ok a, impl_SealPacket_ok a, by rw [szByteL]; have := sealL_len a; show _ ≤ 1048576; omega⟩
end KF

namespace KF
open Go
/-- n rounds -/
def iter {S : Type} (g : Nat → S → S) : Nat → S → S
  | 0, s => s
  | n + 1, s => g n (iter g n s)
theorem loopF_count {X R S : Type} {step : X → Option (X ⊕ R)} (n : Nat) (hn : n < 9223372036854775807) (g : Nat → S → S) (s0 : S) (I : S → Int → X) (out : S → R)
    (h : ∀ k, k < n → step (I (iter g k s0) (k : Int)) = some (.inl (I (g k (iter g k s0)) (IntKind.wrap .i64 ((k : Int) + 1))))) (he : step (I (iter g n s0) (n : Int)) = some (.inr (out (iter g n s0)))) :
    loopF step (I s0 0) = some (out (iter g n s0)) := by
  have := loopF_run (step := step) (fun k => I (iter g k s0) (k : Int)) n (out (iter g n s0)) (fun k hk => by
    rw [h k hk, wrap_succ (by omega)]; rfl) he
  exact this
theorem iter_inv {S : Type} {g : Nat → S → S} {p : Nat → S → Prop} {s0 : S} (h0 : p 0 s0) (hs : ∀ k s, p k s → p (k + 1) (g k s)) : ∀ n, p n (iter g n s0)
  | 0 => h0
  | n + 1 => hs n _ (iter_inv h0 hs n)
theorem sz_le {e : Ty} {c : Nat} : ∀ {w : List (T e)}, (∀ x ∈ w, szT e x ≤ c) → szT (.sl e) w ≤ (c + 1) * w.length
  | [], _ => by simp [szT]
  | x :: r, h => by
    have h1 := h x (by simp)
    have h2 : szT (.sl e) r ≤ (c + 1) * r.length := sz_le fun y hy => h y (by simp [hy])
    have h3 : szT (.sl e) r = List.length r + (List.map (szT e) r).sum := rfl
    have h4 : szT (.sl e) (x :: r) = (List.length r + 1) + (szT e x + (List.map (szT e) r).sum) := by simp [szT]
    rw [h4, List.length_cons, Nat.mul_add]
    omega
theorem lim_ok {n : Nat} (h : n ≤ 1073741824) : Nat.ble n lim = true := Nat.ble_eq_true_of_le h

def readP (i k : Nat) : List Int := sealL [2, IntKind.wrap .u8 (i : Int), IntKind.wrap .u8 (k : Int)]
def readI (n i : Nat) (o : List (List Int)) : List (List Int) := iter (fun k o => List.append o [readP i k]) n o
def readO (n l : Nat) : List (List Int) := iter (fun i o => readI n i o) l []
def small (c : Nat) (o : List (List Int)) : Prop := List.length o = c ∧ ∀ x ∈ o, List.length x ≤ 8
theorem small_snoc {c i k : Nat} {o : List (List Int)} (h : small c o) : small (c + 1) (List.append o [readP i k]) := by
  refine ⟨by simp [h.1], fun x hx => ?_⟩
  rcases List.mem_append.1 hx with hx | hx
  · exact h.2 x hx
  · simp only [List.mem_singleton] at hx
    subst hx
    exact sealL_len _
theorem readI_small {n i c : Nat} {o : List (List Int)} (h : small c o) : small (c + n) (readI n i o) :=
  iter_inv (p := fun k o => small (c + k) o) h (fun k s hs => by rw [← Nat.add_assoc]; exact small_snoc hs) n
theorem readO_small (n : Nat) : ∀ l, small (l * n) (readO n l) :=
  iter_inv (p := fun l o => small (l * n) o) ⟨by simp, by simp⟩ (fun k s hs => by rw [Nat.succ_mul]; exact readI_small hs)
theorem spec_read_in {n i c : Nat} (l : Int) {o : List (List Int)} (hn : n ≤ 32) (ho : small c o) (hc : c ≤ 1000) :
    spec_ReadScript_6_loop (((n : Int), l, o, (i : Int), 0, ()), ()) = some (.inl (((n : Int), l, readI n i o, (i : Int), ()), ())) := by
  unfold spec_ReadScript_6_loop
  have := loopF_count (step := fun x : (Int × Int × List (List Int) × Int × Int × Unit) × Unit => spec_ReadScript_6_R x.1.1 x.1.2.1 x.1.2.2.1 x.1.2.2.2.1 x.1.2.2.2.2.1) n (by omega) (fun k o => List.append o [readP i k]) o
    (fun o k => (((n : Int), l, o, (i : Int), k, ()), ())) (fun o => .inl (((n : Int), l, o, (i : Int), ()), ())) (fun k hk => by
      have hs : small (c + k) (readI k i o) := readI_small ho
      have hs1 := hs.1
      simp only [spec_ReadScript_6_R]
      rw [dec_true (by omega), spec_SealPacket_ok]
      simp only [cond_true, Option.bind_some]
      rw [lim_ok (by
        show List.length (readI k i o) + 1 ≤ _
        omega)]
      rfl) (by
      simp only [spec_ReadScript_6_R]
      rw [dec_false (by omega)]
      rfl)
  exact this
theorem impl_read_in {n i c : Nat} (l : Int) {o : List (List Int)} (hn : n ≤ 32) (ho : small c o) (hc : c ≤ 1000) :
    impl_ReadScript_8_loop (((n : Int), o, (i : Int), l, (i : Int), (n : Int), 0, ()), ()) = some (.inl (((n : Int), readI n i o, l, (i : Int), ()), ())) := by
  unfold impl_ReadScript_8_loop
  have := loopF_count (step := fun x : (Int × List (List Int) × Int × Int × Int × Int × Int × Unit) × Unit => impl_ReadScript_8_R x.1.1 x.1.2.1 x.1.2.2.1 x.1.2.2.2.1 x.1.2.2.2.2.1 x.1.2.2.2.2.2.1 x.1.2.2.2.2.2.2.1) n (by omega) (fun k o => List.append o [readP i k]) o
    (fun o k => (((n : Int), o, (i : Int), l, (i : Int), (n : Int), k, ()), ())) (fun o => .inl (((n : Int), o, l, (i : Int), ()), ())) (fun k hk => by
      have hs : small (c + k) (readI k i o) := readI_small ho
      have hs1 := hs.1
      simp only [impl_ReadScript_8_R]
      rw [dec_true (by omega), impl_SealPacket_ok]
      simp only [cond_true, Option.bind_some]
      rw [lim_ok (by
        show List.length (readI k i o) + 1 ≤ _
        omega)]
      rfl) (by
      simp only [impl_ReadScript_8_R]
      rw [dec_false (by omega)]
      rfl)
  exact this
theorem mul_small {l n : Nat} (hl : l ≤ 4) (hn : n ≤ 32) : l * n ≤ 128 := Nat.le_trans (Nat.mul_le_mul hl hn) (by omega)
def readF' (n l : Int) : List (List Int) := cond (decide (1 ≤ n ∧ n ≤ 32 ∧ 1 ≤ l ∧ l ≤ 4)) (readO n.toNat l.toNat) []
theorem impl_ReadScript_ok (n l : Int) : impl_ReadScript n l = some (readF' n l, ()) := by
  unfold impl_ReadScript readF'
  by_cases h : 1 ≤ n ∧ n ≤ 32 ∧ 1 ≤ l ∧ l ≤ 4
  case neg =>
    rw [dec_false h]
    by_cases h1 : n < 1
    · rw [dec_true h1]; rfl
    by_cases h2 : n > 32
    · rw [dec_false h1, dec_true h2]; rfl
    by_cases h3 : l < 1
    · rw [dec_false h1, dec_false h2, dec_true h3]; rfl
    · rw [dec_false h1, dec_false h2, dec_false h3, dec_true (by omega)]; rfl
  rw [dec_true h, dec_false (by omega), dec_false (by omega), dec_false (by omega), dec_false (by omega)]
  simp only [cond_true, cond_false]
  obtain ⟨n, rfl⟩ := Int.eq_ofNat_of_zero_le (show 0 ≤ n by omega)
  obtain ⟨l, rfl⟩ := Int.eq_ofNat_of_zero_le (show 0 ≤ l by omega)
  have hl := loopF_count (step := fun x : (Int × List (List Int) × Int × Int × Unit) × Unit => impl_ReadScript_5_R x.1.1 x.1.2.1 x.1.2.2.1 x.1.2.2.2.1) l (by omega) (fun i o => readI n i o) []
    (fun o k => (((n : Int), o, (l : Int), k, ()), ())) (fun o => .inl ((o, ()), ())) (fun k hk => by
      have hs : small (k * n) (readO n k) := readO_small n k
      simp only [impl_ReadScript_5_R]
      rw [dec_true (by omega)]
      simp only [cond_true]
      have hin := impl_read_in (i := k) (l : Int) (show n ≤ 32 by omega) hs (by have := mul_small (show k ≤ 4 by omega) (show n ≤ 32 by omega); omega)
      show Option.bind (impl_ReadScript_8_loop (((n : Int), readO n k, (k : Int), (l : Int), (k : Int), (n : Int), 0, ()), ())) _ = _
      rw [hin]
      rfl) (by
      simp only [impl_ReadScript_5_R]
      rw [dec_false (by omega)]
      rfl)
  unfold impl_ReadScript_5_loop
  erw [hl]
  rfl
theorem spec_ReadScript_ok (n l : Int) : spec_ReadScript n l = some (readF' n l, ()) := by
  unfold spec_ReadScript readF'
  by_cases h : 1 ≤ n ∧ n ≤ 32 ∧ 1 ≤ l ∧ l ≤ 4
  case neg =>
    rw [dec_false h]
    have : spec_ReadScript_3_R n l [] 0 = some (.inr (.inl (([], ()), ()))) := by
      simp only [spec_ReadScript_3_R, spec_l1In_ok, Option.bind_some]
      by_cases h1 : 0 < l
      · rw [dec_true h1]
        by_cases h2 : 1 ≤ n ∧ n ≤ 32
        · rw [dec_true h2, dec_false (by omega)]; rfl
        · rw [dec_false h2]; rfl
      · rw [dec_false h1]; rfl
    unfold spec_ReadScript_3_loop
    rw [loopF_of this]
    rfl
  rw [dec_true h]
  simp only [cond_true]
  obtain ⟨n, rfl⟩ := Int.eq_ofNat_of_zero_le (show 0 ≤ n by omega)
  obtain ⟨l, rfl⟩ := Int.eq_ofNat_of_zero_le (show 0 ≤ l by omega)
  have hl := loopF_count (step := fun x : (Int × Int × List (List Int) × Int × Unit) × Unit => spec_ReadScript_3_R x.1.1 x.1.2.1 x.1.2.2.1 x.1.2.2.2.1) l (by omega) (fun i o => readI n i o) []
    (fun o k => (((n : Int), (l : Int), o, k, ()), ())) (fun o => .inl ((o, ()), ())) (fun k hk => by
      have hs : small (k * n) (readO n k) := readO_small n k
      simp only [spec_ReadScript_3_R, spec_l1In_ok, Option.bind_some]
      rw [dec_true (show (k : Int) < (l : Int) by omega), dec_true (show 1 ≤ (n : Int) ∧ (n : Int) ≤ 32 by omega), dec_true (show (l : Int) ≤ 4 by omega)]
      simp only [cond_true]
      have hin := spec_read_in (i := k) (l : Int) (show n ≤ 32 by omega) hs (by have := mul_small (show k ≤ 4 by omega) (show n ≤ 32 by omega); omega)
      show Option.bind (spec_ReadScript_6_loop (((n : Int), (l : Int), readO n k, (k : Int), 0, ()), ())) _ = _
      rw [hin]
      rfl) (by
      simp only [spec_ReadScript_3_R]
      rw [dec_false (by omega)]
      rfl)
  unfold spec_ReadScript_3_loop
  erw [hl]
  rfl
theorem ReadScript_same (n l : Int) (_ : Rng int n) (_ : Rng int l) : ∃ w, spec_ReadScript n l = some (w, ()) ∧ impl_ReadScript n l = some (w, ()) ∧ szT (.sl (.sl byte)) w ≤ big20 := by
  refine ⟨_, spec_ReadScript_ok n l, impl_ReadScript_ok n l, ?_⟩
  unfold readF'
  by_cases h : 1 ≤ n ∧ n ≤ 32 ∧ 1 ≤ l ∧ l ≤ 4
  case neg => rw [dec_false h]; simp [szT]
  rw [dec_true h]
  have hs := readO_small n.toNat l.toNat
  have := sz_le (e := .sl byte) (c := 8) (w := readO n.toNat l.toNat) fun x hx => by rw [szByteL]; exact hs.2 x hx
  have hm := mul_small (show l.toNat ≤ 4 by omega) (show n.toNat ≤ 32 by omega)
  rw [hs.1] at this
  have h20 : big20 = 1048576 := rfl
  show szT (.sl (.sl byte)) (readO n.toNat l.toNat) ≤ big20
  omega
end KF

namespace KF
open Go
theorem foldK_snoc {α β : Type} (f : α → β) : ∀ (xs : List α) (k : Nat) (o : List β), foldK (fun _ o x => List.append o [f x]) k o xs = o ++ xs.map f
  | [], _, o => by simp [foldK]
  | x :: r, k, o => by
    simp only [foldK]
    rw [foldK_snoc f r]
    simp
/-- a loop that lays f of each element behind the others -/
theorem loopF_map {X R α β : Type} {step : X → Option (X ⊕ R)} (xs : List α) (f : α → β) (I : List β → Int → X) (out : List β → R) (hn : xs.length ≤ 1073741824)
    (h : ∀ k (hk : k < xs.length) (o : List β), List.length o = k → step (I o (k : Int)) = some (.inl (I (List.append o [f xs[k]]) (IntKind.wrap .i64 ((k : Int) + 1)))))
    (he : ∀ o : List β, step (I o (xs.length : Int)) = some (.inr (out o))) : loopF step (I [] 0) = some (out (xs.map f)) := by
  have := (loopF_fold (step := step) xs (fun _ o x => List.append o [f x]) I out (fun k o => List.length o = k) (fun k hk o ho => ⟨h k hk o ho, by simp [ho]⟩) (fun o _ => he o) (by omega) [] rfl).1
  rw [this, foldK_snoc]
  rfl
theorem szInts (a : List Int) : szT (.sl int) a = a.length := szT_flat (e := int) rfl a
theorem szActs (a : List TAction) : szT (.sl tAction) a = a.length := szT_flat (e := tAction) rfl a
theorem szReport (r : TReport) : szT tReport r = r.2.1.length := by
  show 0 + (szT (.sl int) r.2.1 + 0) = _
  rw [szInts]; omega
theorem spec_l7Copy_ok (r : TReport) (h : r.2.1.length ≤ big20) : spec_l7Copy r = some (r, ()) := by
  have h20 : big20 = 1048576 := rfl
  unfold spec_l7Copy
  rw [lim_ok (by simp; omega)]
  rfl
theorem impl_copyInts_ok (l : List Int) (h : l.length ≤ big20) : impl_copyInts l = some (l, ()) := by
  have h20 : big20 = 1048576 := rfl
  unfold impl_copyInts
  rw [lim_ok (by simp; omega)]
  rfl
theorem impl_copyReport_ok (r : TReport) (h : r.2.1.length ≤ big20) : impl_copyReport r = some (r, ()) := by
  unfold impl_copyReport
  rw [impl_copyInts_ok _ h]
  rfl
theorem sent_len {a : List TSent} (hz : szT (.sl tSent) a ≤ big20) {k : Nat} (hk : k < a.length) : a[k].2.1.2.1.length ≤ big20 := by
  have h1 : szT (.sl tSent) a = List.length a + (List.map (szT tSent) a).sum := rfl
  have h2 := sum_map_le (f := szT tSent) hk
  have h3 : szT tSent a[k] = szT tReport a[k].2.1 := by
    show 0 + (szT tReport a[k].2.1 + 0) = _
    omega
  rw [szReport] at h3
  omega
theorem impl_ReportsOf_ok (a : List TSent) (hz : szT (.sl tSent) a ≤ big20) : impl_ReportsOf a = some (a.map (fun x => x.2.1), ()) := by
  have h20 : big20 = 1048576 := rfl
  have h1 : szT (.sl tSent) a = List.length a + (List.map (szT tSent) a).sum := rfl
  have hl := loopF_map (step := fun x : (List TReport × List TSent × Int × Int × Unit) × Unit => impl_ReportsOf_3_R x.1.1 x.1.2.1 x.1.2.2.1 x.1.2.2.2.1) a (fun x => x.2.1)
    (fun o k => ((o, a, (a.length : Int), k, ()), ())) (fun o => .inl ((o, ()), ())) (by omega) (fun k hk o ho => by
      simp only [impl_ReportsOf_3_R]
      rw [dec_true (by omega), idx_lt hk]
      simp only [cond_true, Option.bind_some]
      rw [impl_copyReport_ok _ (sent_len hz hk)]
      simp only [Option.bind_some]
      rw [lim_ok (by simp only [List.length_cons, List.length_nil]; omega)]
      rfl) (fun o => by
      simp only [impl_ReportsOf_3_R]
      rw [dec_false (by omega)]
      rfl)
  unfold impl_ReportsOf impl_ReportsOf_3_loop
  erw [hl]
  rfl
theorem spec_ReportsOf_ok (a : List TSent) (hz : szT (.sl tSent) a ≤ big20) : spec_ReportsOf a = some (a.map (fun x => x.2.1), ()) := by
  have h20 : big20 = 1048576 := rfl
  have h1 : szT (.sl tSent) a = List.length a + (List.map (szT tSent) a).sum := rfl
  have hl := loopF_map (step := fun x : (List TSent × List TReport × Int × Unit) × Unit => spec_ReportsOf_3_R x.1.1 x.1.2.1 x.1.2.2.1) a (fun x => x.2.1)
    (fun o k => ((a, o, k, ()), ())) (fun o => .inl ((o, ()), ())) (by omega) (fun k hk o ho => by
      simp only [spec_ReportsOf_3_R]
      rw [dec_true (by omega), idx_lt hk]
      simp only [cond_true, Option.bind_some]
      rw [spec_l7Copy_ok _ (sent_len hz hk)]
      simp only [Option.bind_some]
      rw [lim_ok (by simp only [List.length_cons, List.length_nil]; omega)]
      rfl) (fun o => by
      simp only [spec_ReportsOf_3_R]
      rw [dec_false (by omega)]
      rfl)
  unfold spec_ReportsOf spec_ReportsOf_3_loop
  erw [hl]
  rfl
theorem ReportsOf_same (a : List TSent) (_ : Rng (.sl tSent) a) (hz : szT (.sl tSent) a ≤ big20) : ∃ w, spec_ReportsOf a = some (w, ()) ∧ impl_ReportsOf a = some (w, ()) ∧ szT (.sl tReport) w ≤ big20 := by
  refine ⟨_, spec_ReportsOf_ok a hz, impl_ReportsOf_ok a hz, ?_⟩
  have h : ∀ l : List TSent, szT (.sl tReport) (l.map (fun x => x.2.1)) = szT (.sl tSent) l := by
    intro l
    show List.length (l.map _) + (List.map (szT tReport) (l.map (fun x : TSent => x.2.1))).sum = List.length l + (List.map (szT tSent) l).sum
    rw [List.length_map, List.map_map]
    congr 2
    refine List.map_congr_left fun x _ => ?_
    show szT tReport x.2.1 = 0 + (szT tReport x.2.1 + 0)
    omega
  show szT (.sl tReport) (a.map _) ≤ big20
  rw [h]
  exact hz
end KF

namespace KF
open Go
theorem law_ReportsOf (a0 : (List TSent)) (hr0 : Rng (.sl tSent) a0) : laws_FnExactReportsOf a0 = some (true, ()) := by
  have h20 : big20 = 1048576 := rfl
  have h40 : big40 = 1099511627776 := rfl
  unfold laws_FnExactReportsOf
  have s0 := szSentS_ok a0 hr0 (1048576) (by omega)
  rw [show ((1048576 : Nat) : Int) = 1048576 from rfl] at s0
  rw [s0]
  simp only [Option.bind_some]
  by_cases z0 : szT (.sl tSent) a0 ≤ 1048576
  case neg => rw [szR_gt z0]; rfl
  rw [szR_le z0, dec_false (by omega)]
  simp only [cond_false]
  have hz0 : szT (.sl tSent) a0 ≤ big20 := by omega
  obtain ⟨w0, e1, e2, b0⟩ := ReportsOf_same a0 hr0 hz0
  obtain ⟨x0, k0, g0, i0, m0, n0, _⟩ := markSentS_ok a0 1 (by omega)
  rw [show ((1 : Nat) : Int) = 1 from rfl] at m0 n0
  have d0 : decide ((k0 : Int) < 0) = false := dec_false (by omega)
  obtain ⟨x1, k1, g1, i1, m1, n1, _⟩ := markReportS_ok w0 1 (by omega)
  rw [show ((1 : Nat) : Int) = 1 from rfl] at m1 n1
  have d1 : decide ((k1 : Int) < 0) = false := dec_false (by omega)
  simp only [e1, e2, toSentS_ok a0 hz0, eqSentS_ok a0 (by omega), eqReportS_ok w0 (by omega), m0, d0, m1, d1, n1, Option.bind_some, bne_self_eq_false', Bool.not_true, cond_false]
end KF
