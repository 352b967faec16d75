/- Laws on the plain functions: program and reference agree (conditions: as each lemma tells). -/
import Derived.Test.YtnlnkfkpmcpbdaaH
namespace KF
open Go
set_option linter.unusedSimpArgs false
set_option linter.unusedVariables false

def isCodeP (c : Int) : Prop := 1 ≤ c ∧ c ≤ 56
def isModsP (m : Int) : Prop := 1 ≤ m ∧ m ≤ 15
def isUpperP (n : Int) : Prop := 1 ≤ n ∧ n ≤ 3
/-- an action is valid -/
def IsActionP (k c m n : Int) : Prop :=
  ((k = 0 ∨ k = 1 ∨ k = 10) ∧ c = 0 ∧ m = 0 ∧ n = 0) ∨
  (k = 2 ∧ n = 0 ∧ (c = 0 ∨ 1 ≤ c ∧ c ≤ 56) ∧ (m = 0 ∨ 1 ≤ m ∧ m ≤ 15) ∧ (c ≠ 0 ∨ m ≠ 0)) ∨
  ((k = 3 ∨ k = 4) ∧ c = 0 ∧ m = 0 ∧ 1 ≤ n ∧ n ≤ 3) ∨
  ((k = 5 ∨ k = 9) ∧ c = 0 ∧ m = 0 ∧ 0 ≤ n ∧ n ≤ 3) ∨
  (k = 6 ∧ 1 ≤ c ∧ c ≤ 56 ∧ 1 ≤ m ∧ m ≤ 15 ∧ n = 0) ∨
  (k = 7 ∧ 1 ≤ c ∧ c ≤ 56 ∧ m = 0 ∧ 1 ≤ n ∧ n ≤ 3) ∨
  (k = 8 ∧ c = 0 ∧ 1 ≤ m ∧ m ≤ 15 ∧ n = 0)
noncomputable def isActionB (a : TAction) : Bool := open Classical in decide (IsActionP a.1 a.2.1 a.2.2.1 a.2.2.2.1)
theorem isActionB_iff (a : TAction) : isActionB a = true ↔ IsActionP a.1 a.2.1 a.2.2.1 a.2.2.2.1 := by simp [isActionB]

theorem impl_isCode_ok (c : Int) : impl_isCode c = some (decide (1 ≤ c ∧ c ≤ 56), ()) := by
  simp only [impl_isCode, cond_some, cond_unit]
  apply some_unit; simp only [cond_iff, decide_eq_true_eq, beq_iff', bne_iff', Bool.false_eq_true, and_false, false_and, or_false, false_or, and_true, true_and, not_true_eq_false, not_false_eq_true]; try omega
theorem impl_isMods_ok (c : Int) : impl_isMods c = some (decide (1 ≤ c ∧ c ≤ 15), ()) := by
  simp only [impl_isMods, cond_some, cond_unit]
  apply some_unit; simp only [cond_iff, decide_eq_true_eq, beq_iff', bne_iff', Bool.false_eq_true, and_false, false_and, or_false, false_or, and_true, true_and, not_true_eq_false, not_false_eq_true]; try omega
theorem impl_isUpper_ok (c : Int) : impl_isUpper c = some (decide (1 ≤ c ∧ c ≤ 3), ()) := by
  simp only [impl_isUpper, cond_some, cond_unit]
  apply some_unit; simp only [cond_iff, decide_eq_true_eq, beq_iff', bne_iff', Bool.false_eq_true, and_false, false_and, or_false, false_or, and_true, true_and, not_true_eq_false, not_false_eq_true]; try omega
theorem spec_l1In_ok (c a b : Int) : spec_l1In c a b = some (decide (a ≤ c ∧ c ≤ b), ()) := by
  simp only [spec_l1In, cond_some, cond_unit]
  apply some_unit; simp only [cond_iff, decide_eq_true_eq, beq_iff', bne_iff', Bool.false_eq_true, and_false, false_and, or_false, false_or, and_true, true_and, not_true_eq_false, not_false_eq_true]; try omega

theorem impl_IsAction_ok (a : TAction) : impl_IsAction a = some (isActionB a, ()) := by
  obtain ⟨k, c, m, n, u⟩ := a
  have key : ∀ k c m n : Int, impl_IsAction (k, c, m, n, u) = some (isActionB (k, c, m, n, u), ()) := by
    intro k c m n
    simp only [impl_IsAction, impl_isCode_ok, impl_isMods_ok, impl_isUpper_ok, spec_l1In_ok, Option.bind_some, cond_some, cond_unit]
    by_cases h0 : k = 0
    · subst h0; apply some_unit; rw [isActionB_iff]; simp [IsActionP, cond_iff]; try omega
    by_cases h1 : k = 1
    · subst h1; apply some_unit; rw [isActionB_iff]; simp [IsActionP, cond_iff]; try omega
    by_cases h2 : k = 2
    · subst h2; apply some_unit; rw [isActionB_iff]; simp [IsActionP, cond_iff]; intro hn; (repeat' split) <;> omega
    by_cases h3 : k = 3
    · subst h3; apply some_unit; rw [isActionB_iff]; simp [IsActionP, cond_iff]; try omega
    by_cases h4 : k = 4
    · subst h4; apply some_unit; rw [isActionB_iff]; simp [IsActionP, cond_iff]; try omega
    by_cases h5 : k = 5
    · subst h5; apply some_unit; rw [isActionB_iff]; simp [IsActionP, cond_iff]; try omega
    by_cases h6 : k = 6
    · subst h6; apply some_unit; rw [isActionB_iff]; simp [IsActionP, cond_iff]; try omega
    by_cases h7 : k = 7
    · subst h7; apply some_unit; rw [isActionB_iff]; simp [IsActionP, cond_iff]; try omega
    by_cases h8 : k = 8
    · subst h8; apply some_unit; rw [isActionB_iff]; simp [IsActionP, cond_iff]; try omega
    by_cases h9 : k = 9
    · subst h9; apply some_unit; rw [isActionB_iff]; simp [IsActionP, cond_iff]; try omega
    by_cases h10 : k = 10
    · subst h10; apply some_unit; rw [isActionB_iff]; simp [IsActionP, cond_iff]; try omega
    have g : ∀ j : Int, (k == j) = decide (k = j) := fun j => by rw [Bool.eq_iff_iff]; simp
    apply some_unit; rw [isActionB_iff]; simp [IsActionP, cond_iff, h0, h1, h2, h3, h4, h5, h6, h7, h8, h9, h10]
  exact key k c m n
theorem spec_IsAction_ok (a : TAction) : spec_IsAction a = some (isActionB a, ()) := by
  obtain ⟨k, c, m, n, u⟩ := a
  have key : ∀ k c m n : Int, spec_IsAction (k, c, m, n, u) = some (isActionB (k, c, m, n, u), ()) := by
    intro k c m n
    simp only [spec_IsAction, impl_isCode_ok, impl_isMods_ok, impl_isUpper_ok, spec_l1In_ok, Option.bind_some, cond_some, cond_unit]
    by_cases h0 : k = 0
    · subst h0; apply some_unit; rw [isActionB_iff]; simp [IsActionP, cond_iff]; try omega
    by_cases h1 : k = 1
    · subst h1; apply some_unit; rw [isActionB_iff]; simp [IsActionP, cond_iff]; try omega
    by_cases h2 : k = 2
    · subst h2; apply some_unit; rw [isActionB_iff]; simp [IsActionP, cond_iff]; intro hn; (repeat' split) <;> omega
    by_cases h3 : k = 3
    · subst h3; apply some_unit; rw [isActionB_iff]; simp [IsActionP, cond_iff]; try omega
    by_cases h4 : k = 4
    · subst h4; apply some_unit; rw [isActionB_iff]; simp [IsActionP, cond_iff]; try omega
    by_cases h5 : k = 5
    · subst h5; apply some_unit; rw [isActionB_iff]; simp [IsActionP, cond_iff]; try omega
    by_cases h6 : k = 6
    · subst h6; apply some_unit; rw [isActionB_iff]; simp [IsActionP, cond_iff]; try omega
    by_cases h7 : k = 7
    · subst h7; apply some_unit; rw [isActionB_iff]; simp [IsActionP, cond_iff]; try omega
    by_cases h8 : k = 8
    · subst h8; apply some_unit; rw [isActionB_iff]; simp [IsActionP, cond_iff]; try omega
    by_cases h9 : k = 9
    · subst h9; apply some_unit; rw [isActionB_iff]; simp [IsActionP, cond_iff]; try omega
    by_cases h10 : k = 10
    · subst h10; apply some_unit; rw [isActionB_iff]; simp [IsActionP, cond_iff]; try omega
    have g : ∀ j : Int, (k == j) = decide (k = j) := fun j => by rw [Bool.eq_iff_iff]; simp
    apply some_unit; rw [isActionB_iff]; simp [IsActionP, cond_iff, h0, h1, h2, h3, h4, h5, h6, h7, h8, h9, h10]
  exact key k c m n

/-! ### Keymaps -/
/-- what is asked of the action of a layer -/
noncomputable def okActB (nl : Nat) (i : Nat) (a : TAction) : Bool := isActionB a && !(((i : Int) == 0) && (a.1 == 1)) && !((a.1 != 9) && decide (a.2.2.2.1 ≥ (nl : Int)))
noncomputable def okLayerB (keys : Int) (nl : Nat) (i : Nat) (l : List TAction) : Bool := ((List.length l : Int) == keys) && allK (fun _ a => okActB nl i a) 0 l
noncomputable def isKeymapB (m : TKeymap) : Bool :=
  decide (1 ≤ m.1 ∧ m.1 ≤ 32) && decide (1 ≤ m.2.1.length ∧ m.2.1.length ≤ 4) && allK (fun i l => okLayerB m.1 m.2.1.length i l) 0 m.2.1

theorem impl_IsKeymap_in (m : TKeymap) (i : Nat) (l : List TAction) (L : List (List TAction)) (n : Int) (t : Int) (hl : l.length < 9223372036854775807) :
    impl_IsKeymap_9_loop (((), (i : Int), L, n, t, l, (l.length : Int), (0 : Int), ()), (m, ())) =
      some (cond (allK (fun _ a => okActB m.2.1.length i a) 0 l) (.inl (((), L, n, t, ()), (m, ()))) (.inr ((false, ()), ()))) := by
  unfold impl_IsKeymap_9_loop
  refine loopF_all (step := _) l (fun _ a => okActB m.2.1.length i a) (fun j => (((), (i : Int), L, n, t, l, (l.length : Int), j, ()), (m, ()))) _ _ ?_ ?_ hl
  · intro k hk
    simp only [impl_IsKeymap_9_R]
    rw [dec_true (show (k : Int) < (l.length : Int) by omega), idx_lt hk]
    simp only [cond_true, Option.bind_some, okActB, impl_IsAction_ok]
    cases isActionB l[k] <;> cases ((i : Int) == 0) <;> cases (l[k].1 == 1) <;> cases (l[k].1 != 9) <;> cases decide (l[k].2.2.2.1 ≥ (m.2.1.length : Int)) <;> rfl
  · simp [impl_IsKeymap_9_R]

theorem impl_IsKeymap_ok (m : TKeymap) (hz : szT tKeymap m ≤ big20) : impl_IsKeymap m = some (isKeymapB m, ()) := by
  have h20 : big20 = 1048576 := rfl
  have hz' : m.2.1.length + (List.map (szT (.sl tAction)) m.2.1).sum ≤ big20 := by
    have : szT tKeymap m = szT (.sl (.sl tAction)) m.2.1 := by simp only [szT, Nat.add_zero, Nat.zero_add]
    rw [this] at hz; exact hz
  have hl : ∀ k (hk : k < m.2.1.length), m.2.1[k].length ≤ big20 := by
    intro k hk
    have := sum_map_le (f := szT (.sl tAction)) hk
    have h2 : m.2.1[k].length ≤ szT (.sl tAction) m.2.1[k] := Nat.le_add_right _ _
    omega
  have hloop : impl_IsKeymap_4_loop (((), m.2.1, ((List.length m.2.1 : Nat) : Int), (0 : Int), ()), (m, ())) =
      some (cond (allK (fun i l => okLayerB m.1 m.2.1.length i l) 0 m.2.1) (.inl ((), ())) (.inr ((false, ()), ()))) := by
    unfold impl_IsKeymap_4_loop
    refine loopF_all (step := _) m.2.1 (fun i l => okLayerB m.1 m.2.1.length i l) (fun j => (((), m.2.1, ((List.length m.2.1 : Nat) : Int), j, ()), (m, ()))) _ _ ?_ ?_ (by omega)
    · intro k hk
      have := hl k hk
      simp only [impl_IsKeymap_4_R]
      rw [dec_true (show (k : Int) < (m.2.1.length : Int) by omega), idx_lt hk]
      simp only [cond_true, Option.bind_some, okLayerB]
      rw [impl_IsKeymap_in m k _ _ _ _ (by omega)]
      show (cond (!((m.2.1[k].length : Int) == m.1)) _ _) = _
      cases ((m.2.1[k].length : Int) == m.1) <;> cases allK (fun _ a => okActB m.2.1.length k a) 0 m.2.1[k] <;> rfl
    · simp [impl_IsKeymap_4_R]
  unfold impl_IsKeymap
  rw [hloop]
  simp only [Option.bind_some, elim_cond, cond_some, cond_unit]
  apply some_unit
  simp only [cond_iff, isKeymapB, Bool.and_eq_true, decide_eq_true_eq, Bool.false_eq_true, and_false, false_or, and_true, or_false]
  generalize allK (fun i l => okLayerB m.1 m.2.1.length i l) 0 m.2.1 = b
  constructor
  · rintro ⟨h1, h2, h3, h4, h5⟩; exact ⟨⟨by omega, by omega⟩, h5⟩
  · rintro ⟨⟨h1, h2⟩, h5⟩; exact ⟨by omega, by omega, by omega, by omega, h5⟩

theorem spec_IsKeymap_in (m : TKeymap) (i : Nat) (hi : i < m.2.1.length) (hl : m.2.1[i].length < 9223372036854775807) :
    spec_IsKeymap_7_loop (((), (i : Int), (0 : Int), ()), (m, ())) =
      some (cond (allK (fun _ a => okActB m.2.1.length i a) 0 m.2.1[i]) (.inl (((), (i : Int), ()), (m, ()))) (.inr ((false, ()), ()))) := by
  unfold spec_IsKeymap_7_loop
  refine loopF_all (step := _) m.2.1[i] (fun _ a => okActB m.2.1.length i a) (fun j => (((), (i : Int), j, ()), (m, ()))) _ _ ?_ ?_ hl
  · intro k hk
    simp only [spec_IsKeymap_7_R]
    rw [idx_lt hi]
    simp only [Option.bind_some]
    rw [dec_true (show (k : Int) < (m.2.1[i].length : Int) by omega), idx_lt hk]
    simp only [cond_true, Option.bind_some, okActB, spec_IsAction_ok]
    cases isActionB m.2.1[i][k] <;> cases ((i : Int) == 0) <;> cases (m.2.1[i][k].1 == 1) <;> cases (m.2.1[i][k].1 != 9) <;> cases decide (m.2.1[i][k].2.2.2.1 ≥ (m.2.1.length : Int)) <;> rfl
  · simp [spec_IsKeymap_7_R, idx_lt hi]

theorem spec_IsKeymap_ok (m : TKeymap) (hz : szT tKeymap m ≤ big20) : spec_IsKeymap m = some (isKeymapB m, ()) := by
  have h20 : big20 = 1048576 := rfl
  have hz' : m.2.1.length + (List.map (szT (.sl tAction)) m.2.1).sum ≤ big20 := by
    have : szT tKeymap m = szT (.sl (.sl tAction)) m.2.1 := by simp only [szT, Nat.add_zero, Nat.zero_add]
    rw [this] at hz; exact hz
  have hl : ∀ k (hk : k < m.2.1.length), m.2.1[k].length ≤ big20 := by
    intro k hk
    have := sum_map_le (f := szT (.sl tAction)) hk
    have h2 : m.2.1[k].length ≤ szT (.sl tAction) m.2.1[k] := Nat.le_add_right _ _
    omega
  have hloop : spec_IsKeymap_2_loop (((), (0 : Int), ()), (m, ())) =
      some (cond (allK (fun i l => okLayerB m.1 m.2.1.length i l) 0 m.2.1) (.inl (((), ()), (m, ()))) (.inr ((false, ()), ()))) := by
    unfold spec_IsKeymap_2_loop
    refine loopF_all (step := _) m.2.1 (fun i l => okLayerB m.1 m.2.1.length i l) (fun j => (((), j, ()), (m, ()))) _ _ ?_ ?_ (by omega)
    · intro k hk
      have := hl k hk
      simp only [spec_IsKeymap_2_R]
      rw [dec_true (show (k : Int) < (m.2.1.length : Int) by omega), idx_lt hk]
      simp only [cond_true, Option.bind_some, okLayerB]
      rw [spec_IsKeymap_in m k hk (by omega)]
      show (cond (!((m.2.1[k].length : Int) == m.1)) _ _) = _
      cases ((m.2.1[k].length : Int) == m.1) <;> cases allK (fun _ a => okActB m.2.1.length k a) 0 m.2.1[k] <;> rfl
    · simp [spec_IsKeymap_2_R]
  unfold spec_IsKeymap
  rw [hloop]
  simp only [Option.bind_some, elim_cond, cond_some, cond_unit, spec_l1In_ok]
  apply some_unit
  simp only [cond_iff, isKeymapB, Bool.and_eq_true, decide_eq_true_eq, Bool.false_eq_true, and_false, false_or, and_true, or_false]
  generalize allK (fun i l => okLayerB m.1 m.2.1.length i l) 0 m.2.1 = b
  constructor
  · rintro ⟨h1, h2, h3⟩; exact ⟨⟨by omega, by omega⟩, h1⟩
  · rintro ⟨⟨h1, h2⟩, h5⟩; exact ⟨h5, by omega, by omega⟩

/-! ### Fixed masks -/
theorem shl_one {n : Nat} (h : n ≤ 62) : ishl .i64 1 (n : Int) = ((2 ^ n : Nat) : Int) := by
  unfold ishl
  have h1 : min (Int.toNat (n : Int)) (IntKind.bits .i64) = n := by
    show min (Int.toNat (n : Int)) 64 = n
    rw [Int.toNat_natCast]; omega
  rw [h1, Int.one_mul]
  have h2 : (2 : Int) ^ n = ((2 ^ n : Nat) : Int) := by simp
  have h3 : 2 ^ n ≤ 2 ^ 62 := Nat.pow_le_pow_right (by omega) h
  rw [h2]
  clear h1 h2
  generalize 2 ^ n = z at h3
  rw [wrap64 (by omega) (by omega)]

theorem IsFixed_same (m : TKeymap) (f : Int) (_ : Rng tKeymap m) (_ : Rng int f) (hz : szT tKeymap m ≤ big20) :
    ∃ b, spec_IsFixed m f = some (b, ()) ∧ impl_IsFixed m f = some (b, ()) := by
  unfold spec_IsFixed impl_IsFixed
  rw [spec_IsKeymap_ok m hz, impl_IsKeymap_ok m hz]
  simp only [Option.bind_some, spec_l1In_ok]
  cases hk : isKeymapB m with
  | false => exact ⟨false, rfl, rfl⟩
  | true =>
    simp only [cond_true]
    have hn : 1 ≤ m.2.1.length ∧ m.2.1.length ≤ 4 := by
      simp only [isKeymapB, Bool.and_eq_true, decide_eq_true_eq] at hk
      exact hk.1.2
    rw [shl_one (by omega), dec_true (show (0 : Int) ≤ (m.2.1.length : Int) by omega)]
    have hp : 1 ≤ 2 ^ m.2.1.length ∧ 2 ^ m.2.1.length ≤ 16 := by
      obtain ⟨h1, h2⟩ := hn
      generalize m.2.1.length = n at *
      have : n = 1 ∨ n = 2 ∨ n = 3 ∨ n = 4 := by omega
      rcases this with rfl | rfl | rfl | rfl <;> decide
    rw [wrap64 (by omega) (by omega)]
    simp only [cond_true, cond_some, cond_unit, show ((2 : Int) == 0) = false from rfl, cond_false]
    refine ⟨_, rfl, ?_⟩
    apply some_unit
    simp only [cond_iff, decide_eq_true_eq, Bool.false_eq_true, and_false, or_false, beq_iff']
    omega
end KF

namespace KF
open Go

/-! ### Packets -/
def sealG (k : Nat) (s : Int) (x : Int) : Int := IntKind.wrap .i64 (s + IntKind.wrap .i64 (IntKind.wrap .i64 x * IntKind.wrap .i64 ((k : Int) + 1)))
def sealL (a : List Int) : List Int :=
  if a.length ≥ 8 then [] else (a ++ List.replicate (8 - a.length) 0).set 7 (IntKind.wrap .u8 (Int.tmod (foldK sealG 0 90 a) 256))

theorem foldK_two {α S T : Type} (g : Nat → S → α → S) (h : Nat → T → α → T) : ∀ (xs : List α) (k : Nat) (s : S) (t : T),
    foldK (fun k (p : S × T) x => (g k p.1 x, h k p.2 x)) k (s, t) xs = (foldK g k s xs, foldK h k t xs)
  | [], _, _, _ => rfl
  | x :: xs, k, s, t => by simp only [foldK]; exact foldK_two g h xs (k + 1) _ _

theorem foldK_set {α : Type} : ∀ (xs : List α) (k : Nat) (o : List α), k + xs.length ≤ o.length → foldK (fun k o x => o.set k x) k o xs = o.take k ++ xs ++ o.drop (k + xs.length)
  | [], k, o, h => by simp [foldK]
  | x :: xs, k, o, h => by
    simp only [List.length_cons] at h
    simp only [foldK]
    rw [foldK_set xs (k + 1) (o.set k x) (by simp; omega)]
    have h1 : (o.set k x).take (k + 1) = o.take k ++ [x] := by
      rw [List.take_succ_eq_append_getElem (by simp; omega), List.take_set_of_le (Nat.le_refl _), List.getElem_set_self]
    have h2 : (o.set k x).drop (k + 1 + xs.length) = o.drop (k + (xs.length + 1)) := by
      rw [List.drop_set, if_pos (by omega), show k + 1 + xs.length = k + (xs.length + 1) by omega]
    rw [h1, h2, List.length_cons]
    simp

theorem impl_SealPacket_ok (a : List Int) : impl_SealPacket a = some (sealL a, ()) := by
  unfold impl_SealPacket sealL
  by_cases h8 : a.length ≥ 8
  · rw [dec_true (show ((a.length : Nat) : Int) ≥ 8 by omega), if_pos h8]; rfl
  rw [dec_false (show ¬ ((a.length : Nat) : Int) ≥ 8 by omega), if_neg h8]
  have hz : (((8 : Int) == (8 : Int)) && (decide ((0 : Int) ≤ (8 : Int)) && decide ((8 : Int) ≤ ((lim : Nat) : Int)))) = true := by decide
  rw [hz]
  have hb : Nat.ble a.length (List.length (List.replicate (Int.toNat (8 : Int)) (0 : Int))) = true := by
    rw [Nat.ble_eq]; simp; omega
  rw [hb]
  have hl := (loopF_fold (step := fun x : ((List Int) × (Int × ((List Int) × (Int × (Int × Unit))))) × Unit => impl_SealPacket_7_R x.1.1 x.1.2.1 x.1.2.2.1 x.1.2.2.2.1 x.1.2.2.2.2.1) a sealG
    (fun s i => (((List.append a (List.drop (List.length a) (List.replicate (Int.toNat (8 : Int)) (0 : Int)))), s, a, (a.length : Int), i, ()), ())) (fun s => .inl (((List.append a (List.drop (List.length a) (List.replicate (Int.toNat (8 : Int)) (0 : Int)))), s, ()), ())) (fun _ _ => True)
    (by
      intro k hk s _
      refine ⟨?_, trivial⟩
      simp only [impl_SealPacket_7_R]
      rw [dec_true (show (k : Int) < (a.length : Int) by omega), idx_lt hk]
      rfl) (by
      intro s _
      simp only [impl_SealPacket_7_R]
      rw [dec_false (by omega)]
      rfl) (by omega) 90 trivial).1
  simp only [cond_true, cond_false]
  unfold impl_SealPacket_7_loop
  erw [hl]
  simp only [Option.bind_some, Sum.elim_inl, show ((256 : Int) == 0) = false from rfl, cond_false]
  have hd : List.append a (List.drop (List.length a) (List.replicate (Int.toNat (8 : Int)) (0 : Int))) = a ++ List.replicate (8 - a.length) 0 := by
    show a ++ _ = _
    rw [List.drop_replicate]
    rfl
  rw [hd]
  have hlen : (a ++ List.replicate (8 - a.length) (0 : Int)).length = 8 := by simp; omega
  have h7 : inb (a ++ List.replicate (8 - a.length) (0 : Int)).length 7 = true := by rw [hlen]; rfl
  rw [h7]
  simp only [cond_true, show Int.toNat (7 : Int) = 7 from rfl]
  rw [List.getElem?_eq_getElem (by omega)]
  rfl

theorem spec_SealPacket_ok (a : List Int) : spec_SealPacket a = some (sealL a, ()) := by
  unfold spec_SealPacket sealL
  by_cases h8 : a.length ≥ 8
  · rw [dec_true (show ((a.length : Nat) : Int) ≥ 8 by omega), if_pos h8]; rfl
  rw [dec_false (show ¬ ((a.length : Nat) : Int) ≥ 8 by omega), if_neg h8]
  have hz : (((8 : Int) == (8 : Int)) && (decide ((0 : Int) ≤ (8 : Int)) && decide ((8 : Int) ≤ ((lim : Nat) : Int)))) = true := by decide
  rw [hz]
  have hl := (loopF_fold (step := fun x : ((List Int) × ((List Int) × (Int × (Int × Unit)))) × Unit => spec_SealPacket_6_R x.1.1 x.1.2.1 x.1.2.2.1 x.1.2.2.2.1) a (fun k (p : List Int × Int) x => (p.1.set k x, sealG k p.2 x))
    (fun s i => ((a, s.1, s.2, i, ()), ())) (fun s => .inl ((s.1, s.2, ()), ())) (fun _ s => s.1.length = 8)
    (by
      intro k hk s hs
      refine ⟨?_, by simpa using hs⟩
      simp only [spec_SealPacket_6_R]
      rw [dec_true (show (k : Int) < (a.length : Int) by omega), idx_lt hk, inb_nat, dec_true (show k < s.1.length by omega)]
      simp only [cond_true, Option.bind_some, Int.toNat_natCast, List.getElem?_eq_getElem (show k < s.1.length by omega)]
      rw [Int.mul_comm (IntKind.wrap .i64 ((k : Int) + 1))]
      rfl) (by
      intro s _
      simp only [spec_SealPacket_6_R]
      rw [dec_false (by omega)]
      rfl) (by omega) (List.replicate (Int.toNat (8 : Int)) (0 : Int), 90) (by simp)).1
  rw [foldK_two (fun k (o : List Int) x => o.set k x) sealG, foldK_set _ _ _ (by simp; omega)] at hl
  simp only [cond_true, cond_false]
  unfold spec_SealPacket_6_loop
  erw [hl]
  simp only [Option.bind_some, Sum.elim_inl, show ((256 : Int) == 0) = false from rfl, cond_false, List.take_zero, List.nil_append, Nat.zero_add]
  have hd : a ++ List.drop a.length (List.replicate (Int.toNat (8 : Int)) (0 : Int)) = a ++ List.replicate (8 - a.length) 0 := by
    rw [List.drop_replicate]
    rfl
  rw [hd]
  have hlen : (a ++ List.replicate (8 - a.length) (0 : Int)).length = 8 := by simp; omega
  have h7 : inb (a ++ List.replicate (8 - a.length) (0 : Int)).length 7 = true := by rw [hlen]; rfl
  rw [h7]
  simp only [cond_true, show Int.toNat (7 : Int) = 7 from rfl]
  rw [List.getElem?_eq_getElem (by omega)]
  rfl

def isPacketB (b : List Int) : Bool := ((b.length : Int) == 8) && (strOf (sealL (cutl b 0 7)) == strOf b)
theorem impl_IsPacket_ok (b : List Int) : impl_IsPacket b = some (isPacketB b, ()) := by
  unfold impl_IsPacket isPacketB
  cases h : ((b.length : Int) == 8) with
  | false => rfl
  | true =>
    have h8 : (b.length : Int) = 8 := by simpa using h
    have hc : cutOk (List.length b) (0 : Int) (7 : Int) = true := by simp [cutOk]; omega
    rw [hc, impl_SealPacket_ok]
    rfl
theorem spec_IsPacket_ok (b : List Int) : spec_IsPacket b = some (isPacketB b, ()) := by
  unfold spec_IsPacket isPacketB
  cases h : ((b.length : Int) == 8) with
  | false => rfl
  | true =>
    have h8 : (b.length : Int) = 8 := by simpa using h
    have hc : cutOk (List.length b) (0 : Int) (7 : Int) = true := by simp [cutOk]; omega
    rw [hc, spec_SealPacket_ok]
    rfl

theorem szByteL (a : List Int) : szT (.sl byte) a = a.length := szT_flat (e := byte) rfl a
theorem IsPacket_same (a : List Int) (_ : Rng (.sl byte) a) (_ : szT (.sl byte) a ≤ big20) : ∃ w, spec_IsPacket a = some (w, ()) ∧ impl_IsPacket a = some (w, ()) :=
  ⟨_, spec_IsPacket_ok a, impl_IsPacket_ok a⟩
theorem sealL_len (a : List Int) : (sealL a).length ≤ 8 := by
  unfold sealL
  split
  · simp
  · simp; omega
theorem SealPacket_same (a : List Int) (_ : Rng (.sl byte) a) (_ : szT (.sl byte) a ≤ big20) : ∃ w, spec_SealPacket a = some (w, ()) ∧ impl_SealPacket a = some (w, ()) ∧ szT (.sl byte) w ≤ big20 :=
  ⟨_, spec_SealPacket_ok a, impl_SealPacket_ok a, by rw [szByteL]; have := sealL_len a; show _ ≤ 1048576; omega⟩
end KF

namespace KF
open Go
/-- n rounds -/
def iter {S : Type} (g : Nat → S → S) : Nat → S → S
  | 0, s => s
  | n + 1, s => g n (iter g n s)
theorem loopF_count {X R S : Type} {step : X → Option (X ⊕ R)} (n : Nat) (hn : n < 9223372036854775807) (g : Nat → S → S) (s0 : S) (I : S → Int → X) (out : S → R)
    (h : ∀ k, k < n → step (I (iter g k s0) (k : Int)) = some (.inl (I (g k (iter g k s0)) (IntKind.wrap .i64 ((k : Int) + 1))))) (he : step (I (iter g n s0) (n : Int)) = some (.inr (out (iter g n s0)))) :
    loopF step (I s0 0) = some (out (iter g n s0)) := by
  have := loopF_run (step := step) (fun k => I (iter g k s0) (k : Int)) n (out (iter g n s0)) (fun k hk => by
    rw [h k hk, wrap_succ (by omega)]; rfl) he
  exact this
theorem iter_inv {S : Type} {g : Nat → S → S} {p : Nat → S → Prop} {s0 : S} (h0 : p 0 s0) (hs : ∀ k s, p k s → p (k + 1) (g k s)) : ∀ n, p n (iter g n s0)
  | 0 => h0
  | n + 1 => hs n _ (iter_inv h0 hs n)
theorem sz_le {e : Ty} {c : Nat} : ∀ {w : List (T e)}, (∀ x ∈ w, szT e x ≤ c) → szT (.sl e) w ≤ (c + 1) * w.length
  | [], _ => by simp [szT]
  | x :: r, h => by
    have h1 := h x (by simp)
    have h2 : szT (.sl e) r ≤ (c + 1) * r.length := sz_le fun y hy => h y (by simp [hy])
    have h3 : szT (.sl e) r = List.length r + (List.map (szT e) r).sum := rfl
    have h4 : szT (.sl e) (x :: r) = (List.length r + 1) + (szT e x + (List.map (szT e) r).sum) := by simp [szT]
    rw [h4, List.length_cons, Nat.mul_add]
    omega
theorem lim_ok {n : Nat} (h : n ≤ 1073741824) : Nat.ble n lim = true := Nat.ble_eq_true_of_le h

def readP (i k : Nat) : List Int := sealL [2, IntKind.wrap .u8 (i : Int), IntKind.wrap .u8 (k : Int)]
def readI (n i : Nat) (o : List (List Int)) : List (List Int) := iter (fun k o => List.append o [readP i k]) n o
def readO (n l : Nat) : List (List Int) := iter (fun i o => readI n i o) l []
def small (c : Nat) (o : List (List Int)) : Prop := List.length o = c ∧ ∀ x ∈ o, List.length x ≤ 8
theorem small_snoc {c i k : Nat} {o : List (List Int)} (h : small c o) : small (c + 1) (List.append o [readP i k]) := by
  refine ⟨by simp [h.1], fun x hx => ?_⟩
  rcases List.mem_append.1 hx with hx | hx
  · exact h.2 x hx
  · simp only [List.mem_singleton] at hx
    subst hx
    exact sealL_len _
theorem readI_small {n i c : Nat} {o : List (List Int)} (h : small c o) : small (c + n) (readI n i o) :=
  iter_inv (p := fun k o => small (c + k) o) h (fun k s hs => by rw [← Nat.add_assoc]; exact small_snoc hs) n
theorem readO_small (n : Nat) : ∀ l, small (l * n) (readO n l) :=
  iter_inv (p := fun l o => small (l * n) o) ⟨by simp, by simp⟩ (fun k s hs => by rw [Nat.succ_mul]; exact readI_small hs)
theorem spec_read_in {n i c : Nat} (l : Int) {o : List (List Int)} (hn : n ≤ 32) (ho : small c o) (hc : c ≤ 1000) :
    spec_ReadScript_6_loop (((n : Int), l, o, (i : Int), 0, ()), ()) = some (.inl (((n : Int), l, readI n i o, (i : Int), ()), ())) := by
  unfold spec_ReadScript_6_loop
  have := loopF_count (step := fun x : (Int × Int × List (List Int) × Int × Int × Unit) × Unit => spec_ReadScript_6_R x.1.1 x.1.2.1 x.1.2.2.1 x.1.2.2.2.1 x.1.2.2.2.2.1) n (by omega) (fun k o => List.append o [readP i k]) o
    (fun o k => (((n : Int), l, o, (i : Int), k, ()), ())) (fun o => .inl (((n : Int), l, o, (i : Int), ()), ())) (fun k hk => by
      have hs : small (c + k) (readI k i o) := readI_small ho
      have hs1 := hs.1
      simp only [spec_ReadScript_6_R]
      rw [dec_true (by omega), spec_SealPacket_ok]
      simp only [cond_true, Option.bind_some]
      rw [lim_ok (by
        show List.length (readI k i o) + 1 ≤ _
        omega)]
      rfl) (by
      simp only [spec_ReadScript_6_R]
      rw [dec_false (by omega)]
      rfl)
  exact this
theorem impl_read_in {n i c : Nat} (l : Int) {o : List (List Int)} (hn : n ≤ 32) (ho : small c o) (hc : c ≤ 1000) :
    impl_ReadScript_8_loop (((n : Int), o, (i : Int), l, (i : Int), (n : Int), 0, ()), ()) = some (.inl (((n : Int), readI n i o, l, (i : Int), ()), ())) := by
  unfold impl_ReadScript_8_loop
  have := loopF_count (step := fun x : (Int × List (List Int) × Int × Int × Int × Int × Int × Unit) × Unit => impl_ReadScript_8_R x.1.1 x.1.2.1 x.1.2.2.1 x.1.2.2.2.1 x.1.2.2.2.2.1 x.1.2.2.2.2.2.1 x.1.2.2.2.2.2.2.1) n (by omega) (fun k o => List.append o [readP i k]) o
    (fun o k => (((n : Int), o, (i : Int), l, (i : Int), (n : Int), k, ()), ())) (fun o => .inl (((n : Int), o, l, (i : Int), ()), ())) (fun k hk => by
      have hs : small (c + k) (readI k i o) := readI_small ho
      have hs1 := hs.1
      simp only [impl_ReadScript_8_R]
      rw [dec_true (by omega), impl_SealPacket_ok]
      simp only [cond_true, Option.bind_some]
      rw [lim_ok (by
        show List.length (readI k i o) + 1 ≤ _
        omega)]
      rfl) (by
      simp only [impl_ReadScript_8_R]
      rw [dec_false (by omega)]
      rfl)
  exact this
theorem mul_small {l n : Nat} (hl : l ≤ 4) (hn : n ≤ 32) : l * n ≤ 128 := Nat.le_trans (Nat.mul_le_mul hl hn) (by omega)
def readF' (n l : Int) : List (List Int) := cond (decide (1 ≤ n ∧ n ≤ 32 ∧ 1 ≤ l ∧ l ≤ 4)) (readO n.toNat l.toNat) []
theorem impl_ReadScript_ok (n l : Int) : impl_ReadScript n l = some (readF' n l, ()) := by
  unfold impl_ReadScript readF'
  by_cases h : 1 ≤ n ∧ n ≤ 32 ∧ 1 ≤ l ∧ l ≤ 4
  case neg =>
    rw [dec_false h]
    by_cases h1 : n < 1
    · rw [dec_true h1]; rfl
    by_cases h2 : n > 32
    · rw [dec_false h1, dec_true h2]; rfl
    by_cases h3 : l < 1
    · rw [dec_false h1, dec_false h2, dec_true h3]; rfl
    · rw [dec_false h1, dec_false h2, dec_false h3, dec_true (by omega)]; rfl
  rw [dec_true h, dec_false (by omega), dec_false (by omega), dec_false (by omega), dec_false (by omega)]
  simp only [cond_true, cond_false]
  obtain ⟨n, rfl⟩ := Int.eq_ofNat_of_zero_le (show 0 ≤ n by omega)
  obtain ⟨l, rfl⟩ := Int.eq_ofNat_of_zero_le (show 0 ≤ l by omega)
  have hl := loopF_count (step := fun x : (Int × List (List Int) × Int × Int × Unit) × Unit => impl_ReadScript_5_R x.1.1 x.1.2.1 x.1.2.2.1 x.1.2.2.2.1) l (by omega) (fun i o => readI n i o) []
    (fun o k => (((n : Int), o, (l : Int), k, ()), ())) (fun o => .inl ((o, ()), ())) (fun k hk => by
      have hs : small (k * n) (readO n k) := readO_small n k
      simp only [impl_ReadScript_5_R]
      rw [dec_true (by omega)]
      simp only [cond_true]
      have hin := impl_read_in (i := k) (l : Int) (show n ≤ 32 by omega) hs (by have := mul_small (show k ≤ 4 by omega) (show n ≤ 32 by omega); omega)
      show Option.bind (impl_ReadScript_8_loop (((n : Int), readO n k, (k : Int), (l : Int), (k : Int), (n : Int), 0, ()), ())) _ = _
      rw [hin]
      rfl) (by
      simp only [impl_ReadScript_5_R]
      rw [dec_false (by omega)]
      rfl)
  unfold impl_ReadScript_5_loop
  erw [hl]
  rfl
theorem spec_ReadScript_ok (n l : Int) : spec_ReadScript n l = some (readF' n l, ()) := by
  unfold spec_ReadScript readF'
  by_cases h : 1 ≤ n ∧ n ≤ 32 ∧ 1 ≤ l ∧ l ≤ 4
  case neg =>
    rw [dec_false h]
    have : spec_ReadScript_3_R n l [] 0 = some (.inr (.inl (([], ()), ()))) := by
      simp only [spec_ReadScript_3_R, spec_l1In_ok, Option.bind_some]
      by_cases h1 : 0 < l
      · rw [dec_true h1]
        by_cases h2 : 1 ≤ n ∧ n ≤ 32
        · rw [dec_true h2, dec_false (by omega)]; rfl
        · rw [dec_false h2]; rfl
      · rw [dec_false h1]; rfl
    unfold spec_ReadScript_3_loop
    rw [loopF_of this]
    rfl
  rw [dec_true h]
  simp only [cond_true]
  obtain ⟨n, rfl⟩ := Int.eq_ofNat_of_zero_le (show 0 ≤ n by omega)
  obtain ⟨l, rfl⟩ := Int.eq_ofNat_of_zero_le (show 0 ≤ l by omega)
  have hl := loopF_count (step := fun x : (Int × Int × List (List Int) × Int × Unit) × Unit => spec_ReadScript_3_R x.1.1 x.1.2.1 x.1.2.2.1 x.1.2.2.2.1) l (by omega) (fun i o => readI n i o) []
    (fun o k => (((n : Int), (l : Int), o, k, ()), ())) (fun o => .inl ((o, ()), ())) (fun k hk => by
      have hs : small (k * n) (readO n k) := readO_small n k
      simp only [spec_ReadScript_3_R, spec_l1In_ok, Option.bind_some]
      rw [dec_true (show (k : Int) < (l : Int) by omega), dec_true (show 1 ≤ (n : Int) ∧ (n : Int) ≤ 32 by omega), dec_true (show (l : Int) ≤ 4 by omega)]
      simp only [cond_true]
      have hin := spec_read_in (i := k) (l : Int) (show n ≤ 32 by omega) hs (by have := mul_small (show k ≤ 4 by omega) (show n ≤ 32 by omega); omega)
      show Option.bind (spec_ReadScript_6_loop (((n : Int), (l : Int), readO n k, (k : Int), 0, ()), ())) _ = _
      rw [hin]
      rfl) (by
      simp only [spec_ReadScript_3_R]
      rw [dec_false (by omega)]
      rfl)
  unfold spec_ReadScript_3_loop
  erw [hl]
  rfl
theorem ReadScript_same (n l : Int) (_ : Rng int n) (_ : Rng int l) : ∃ w, spec_ReadScript n l = some (w, ()) ∧ impl_ReadScript n l = some (w, ()) ∧ szT (.sl (.sl byte)) w ≤ big20 := by
  refine ⟨_, spec_ReadScript_ok n l, impl_ReadScript_ok n l, ?_⟩
  unfold readF'
  by_cases h : 1 ≤ n ∧ n ≤ 32 ∧ 1 ≤ l ∧ l ≤ 4
  case neg => rw [dec_false h]; simp [szT]
  rw [dec_true h]
  have hs := readO_small n.toNat l.toNat
  have := sz_le (e := .sl byte) (c := 8) (w := readO n.toNat l.toNat) fun x hx => by rw [szByteL]; exact hs.2 x hx
  have hm := mul_small (show l.toNat ≤ 4 by omega) (show n.toNat ≤ 32 by omega)
  rw [hs.1] at this
  have h20 : big20 = 1048576 := rfl
  show szT (.sl (.sl byte)) (readO n.toNat l.toNat) ≤ big20
  omega
end KF

namespace KF
open Go
theorem foldK_snoc {α β : Type} (f : α → β) : ∀ (xs : List α) (k : Nat) (o : List β), foldK (fun _ o x => List.append o [f x]) k o xs = o ++ xs.map f
  | [], _, o => by simp [foldK]
  | x :: r, k, o => by
    simp only [foldK]
    rw [foldK_snoc f r]
    simp
/-- a loop that lays f of each element behind the others -/
theorem loopF_map {X R α β : Type} {step : X → Option (X ⊕ R)} (xs : List α) (f : α → β) (I : List β → Int → X) (out : List β → R) (hn : xs.length ≤ 1073741824)
    (h : ∀ k (hk : k < xs.length) (o : List β), List.length o = k → step (I o (k : Int)) = some (.inl (I (List.append o [f xs[k]]) (IntKind.wrap .i64 ((k : Int) + 1)))))
    (he : ∀ o : List β, step (I o (xs.length : Int)) = some (.inr (out o))) : loopF step (I [] 0) = some (out (xs.map f)) := by
  have := (loopF_fold (step := step) xs (fun _ o x => List.append o [f x]) I out (fun k o => List.length o = k) (fun k hk o ho => ⟨h k hk o ho, by simp [ho]⟩) (fun o _ => he o) (by omega) [] rfl).1
  rw [this, foldK_snoc]
  rfl
theorem szInts (a : List Int) : szT (.sl int) a = a.length := szT_flat (e := int) rfl a
theorem szActs (a : List TAction) : szT (.sl tAction) a = a.length := szT_flat (e := tAction) rfl a
theorem szReport (r : TReport) : szT tReport r = r.2.1.length := by
  show 0 + (szT (.sl int) r.2.1 + 0) = _
  rw [szInts]; omega
theorem spec_l7Copy_ok (r : TReport) (h : r.2.1.length ≤ big20) : spec_l7Copy r = some (r, ()) := by
  have h20 : big20 = 1048576 := rfl
  unfold spec_l7Copy
  rw [lim_ok (by simp; omega)]
  rfl
theorem impl_copyInts_ok (l : List Int) (h : l.length ≤ big20) : impl_copyInts l = some (l, ()) := by
  have h20 : big20 = 1048576 := rfl
  unfold impl_copyInts
  rw [lim_ok (by simp; omega)]
  rfl
theorem impl_copyReport_ok (r : TReport) (h : r.2.1.length ≤ big20) : impl_copyReport r = some (r, ()) := by
  unfold impl_copyReport
  rw [impl_copyInts_ok _ h]
  rfl
theorem sent_len {a : List TSent} (hz : szT (.sl tSent) a ≤ big20) {k : Nat} (hk : k < a.length) : a[k].2.1.2.1.length ≤ big20 := by
  have h1 : szT (.sl tSent) a = List.length a + (List.map (szT tSent) a).sum := rfl
  have h2 := sum_map_le (f := szT tSent) hk
  have h3 : szT tSent a[k] = szT tReport a[k].2.1 := by
    show 0 + (szT tReport a[k].2.1 + 0) = _
    omega
  rw [szReport] at h3
  omega
theorem impl_ReportsOf_ok (a : List TSent) (hz : szT (.sl tSent) a ≤ big20) : impl_ReportsOf a = some (a.map (fun x => x.2.1), ()) := by
  have h20 : big20 = 1048576 := rfl
  have h1 : szT (.sl tSent) a = List.length a + (List.map (szT tSent) a).sum := rfl
  have hl := loopF_map (step := fun x : (List TReport × List TSent × Int × Int × Unit) × Unit => impl_ReportsOf_3_R x.1.1 x.1.2.1 x.1.2.2.1 x.1.2.2.2.1) a (fun x => x.2.1)
    (fun o k => ((o, a, (a.length : Int), k, ()), ())) (fun o => .inl ((o, ()), ())) (by omega) (fun k hk o ho => by
      simp only [impl_ReportsOf_3_R]
      rw [dec_true (by omega), idx_lt hk]
      simp only [cond_true, Option.bind_some]
      rw [impl_copyReport_ok _ (sent_len hz hk)]
      simp only [Option.bind_some]
      rw [lim_ok (by simp only [List.length_cons, List.length_nil]; omega)]
      rfl) (fun o => by
      simp only [impl_ReportsOf_3_R]
      rw [dec_false (by omega)]
      rfl)
  unfold impl_ReportsOf impl_ReportsOf_3_loop
  erw [hl]
  rfl
theorem spec_ReportsOf_ok (a : List TSent) (hz : szT (.sl tSent) a ≤ big20) : spec_ReportsOf a = some (a.map (fun x => x.2.1), ()) := by
  have h20 : big20 = 1048576 := rfl
  have h1 : szT (.sl tSent) a = List.length a + (List.map (szT tSent) a).sum := rfl
  have hl := loopF_map (step := fun x : (List TSent × List TReport × Int × Unit) × Unit => spec_ReportsOf_3_R x.1.1 x.1.2.1 x.1.2.2.1) a (fun x => x.2.1)
    (fun o k => ((a, o, k, ()), ())) (fun o => .inl ((o, ()), ())) (by omega) (fun k hk o ho => by
      simp only [spec_ReportsOf_3_R]
      rw [dec_true (by omega), idx_lt hk]
      simp only [cond_true, Option.bind_some]
      rw [spec_l7Copy_ok _ (sent_len hz hk)]
      simp only [Option.bind_some]
      rw [lim_ok (by simp only [List.length_cons, List.length_nil]; omega)]
      rfl) (fun o => by
      simp only [spec_ReportsOf_3_R]
      rw [dec_false (by omega)]
      rfl)
  unfold spec_ReportsOf spec_ReportsOf_3_loop
  erw [hl]
  rfl
theorem ReportsOf_same (a : List TSent) (_ : Rng (.sl tSent) a) (hz : szT (.sl tSent) a ≤ big20) : ∃ w, spec_ReportsOf a = some (w, ()) ∧ impl_ReportsOf a = some (w, ()) ∧ szT (.sl tReport) w ≤ big20 := by
  refine ⟨_, spec_ReportsOf_ok a hz, impl_ReportsOf_ok a hz, ?_⟩
  have h : ∀ l : List TSent, szT (.sl tReport) (l.map (fun x => x.2.1)) = szT (.sl tSent) l := by
    intro l
    show List.length (l.map _) + (List.map (szT tReport) (l.map (fun x : TSent => x.2.1))).sum = List.length l + (List.map (szT tSent) l).sum
    rw [List.length_map, List.map_map]
    congr 2
    refine List.map_congr_left fun x _ => ?_
    show szT tReport x.2.1 = 0 + (szT tReport x.2.1 + 0)
    omega
  show szT (.sl tReport) (a.map _) ≤ big20
  rw [h]
  exact hz
end KF

namespace KF
open Go

/-! ### What a valid keymap is -/
structure KeymapOk (m : TKeymap) : Prop where
  k1 : 1 ≤ m.1
  k2 : m.1 ≤ 32
  l1 : 1 ≤ m.2.1.length
  l2 : m.2.1.length ≤ 4
  row : ∀ i (h : i < m.2.1.length), (m.2.1[i].length : Int) = m.1
  act : ∀ i (h : i < m.2.1.length) k (hk : k < m.2.1[i].length), okActB m.2.1.length i m.2.1[i][k] = true

theorem keymap_ok {m : TKeymap} (h : isKeymapB m = true) : KeymapOk m := by
  simp only [isKeymapB, Bool.and_eq_true, decide_eq_true_eq] at h
  obtain ⟨⟨h1, h2⟩, h3⟩ := h
  rw [allK_true] at h3
  refine ⟨h1.1, h1.2, h2.1, h2.2, fun i hi => ?_, fun i hi k hk => ?_⟩
  · have := h3 i hi
    simp only [Nat.zero_add, okLayerB, Bool.and_eq_true, beq_iff_eq] at this
    exact this.1
  · have := h3 i hi
    simp only [Nat.zero_add, okLayerB, Bool.and_eq_true, beq_iff_eq] at this
    have := allK_true.1 this.2 k hk
    simpa using this

theorem okAct_action {nl i : Nat} {a : TAction} (h : okActB nl i a = true) : isActionB a = true := by
  simp only [okActB, Bool.and_eq_true] at h
  exact h.1.1
theorem okAct_n {nl i : Nat} {a : TAction} (h : okActB nl i a = true) (hk : a.1 ≠ 9) : a.2.2.2.1 < (nl : Int) := by
  simp only [okActB, Bool.and_eq_true, Bool.not_eq_true', Bool.and_eq_false_iff] at h
  rcases h.2 with h | h
  · simp at h; exact absurd h hk
  · simpa using h

def bitI (m k : Int) : Int := iand .i64 (ishr .i64 m k) 1
theorem impl_bit_ok (m : Int) {k : Int} (h : 0 ≤ k) : impl_bit m k = some (bitI m k, ()) := by
  unfold impl_bit
  rw [dec_true h]; rfl

def zAct : TAction := (0, 0, 0, 0, ())
def actAt (L : List (List TAction)) (i k : Nat) : TAction := (L.getD i []).getD k zAct
theorem actAt_eq {L : List (List TAction)} {i k : Nat} (hi : i < L.length) (hk : k < L[i].length) : actAt L i k = L[i][k] := by
  simp [actAt, List.getD_eq_getElem?_getD, hi, hk]
theorem idx2 {α : Type} {L : List (List TAction)} {i k : Nat} (hi : i < L.length) (hk : k < L[i].length) (K : TAction → Option α) :
    (Option.bind (idx L (i : Int)) fun x => Option.bind (idx x (k : Int)) K) = K (actAt L i k) := by
  rw [idx_lt hi]
  simp only [Option.bind_some]
  rw [idx_lt hk, actAt_eq hi hk]
  rfl

/-- the layer that says what a key does -/
def layerDown (L : List (List TAction)) (on : Int) (k : Nat) : Nat → Nat
  | 0 => 0
  | n + 1 => cond ((bitI on ((n + 1 : Nat) : Int) == 1) && ((actAt L (n + 1) k).1 != 1)) (n + 1) (layerDown L on k n)
theorem layerDown_le {L : List (List TAction)} {on : Int} {k : Nat} : ∀ n, layerDown L on k n ≤ n
  | 0 => Nat.le_refl _
  | n + 1 => by
    simp only [layerDown]
    cases ((bitI on ((n + 1 : Nat) : Int) == 1) && ((actAt L (n + 1) k).1 != 1)) with
    | true => exact Nat.le_refl _
    | false => exact Nat.le_succ_of_le (layerDown_le n)

theorem impl_layer_loop {m : TKeymap} (hm : KeymapOk m) (on : Int) {k : Nat} (hk : (k : Int) < m.1) : ∀ n : Nat, n < m.2.1.length →
    impl_layerAt_2_loop ((on, (k : Int), (), (n : Int), ()), (m, ())) = some (cond (layerDown m.2.1 on k n == 0) (.inl ((), ())) (.inr ((((layerDown m.2.1 on k n : Nat) : Int), ()), ())))
  | 0, _ => by
    unfold impl_layerAt_2_loop
    rw [loopF_step]
    rfl
  | n + 1, h => by
    have hrow := hm.row (n + 1) h
    unfold impl_layerAt_2_loop
    rw [loopF_step]
    simp only [impl_layerAt_2_R]
    rw [dec_true (show (((n + 1 : Nat) : Int)) > 0 by omega), impl_bit_ok on (show (0 : Int) ≤ ((n + 1 : Nat) : Int) by omega)]
    simp only [cond_true, Option.bind_some]
    rw [idx2 h (by omega), wrap64 (by have := hm.l2; omega) (by have := hm.l2; omega), show (((n + 1 : Nat) : Int) - 1) = (n : Int) by omega]
    have ih := impl_layer_loop hm on hk n (by omega)
    unfold impl_layerAt_2_loop at ih
    simp only [layerDown]
    cases h1 : (bitI on ((n + 1 : Nat) : Int) == 1) with
    | false =>
      simp only [Bool.false_and, cond_false, Option.bind_some, Sum.elim_inl]
      exact ih
    | true =>
      cases h2 : ((actAt m.2.1 (n + 1) k).1 != 1) with
      | true => rfl
      | false =>
        simp only [Bool.and_false, cond_true, cond_false, Option.bind_some, Sum.elim_inl]
        exact ih

theorem impl_layerAt_ok {m : TKeymap} (hm : KeymapOk m) (on : Int) {k : Nat} (hk : (k : Int) < m.1) :
    impl_layerAt m on (k : Int) = some (((layerDown m.2.1 on k (m.2.1.length - 1) : Nat) : Int), ()) := by
  have h1 := hm.l1
  have h2 := hm.l2
  unfold impl_layerAt
  rw [wrap64 (by omega) (by omega), show ((m.2.1.length : Int) - 1) = ((m.2.1.length - 1 : Nat) : Int) by omega, impl_layer_loop hm on hk _ (by omega)]
  cases h : (layerDown m.2.1 on k (m.2.1.length - 1) == 0) with
  | false => rfl
  | true =>
    have h' : layerDown m.2.1 on k (m.2.1.length - 1) = 0 := by simpa using h
    rw [h']; rfl

theorem spec_layer_loop {m : TKeymap} (hm : KeymapOk m) (on : Int) {k : Nat} (hk : (k : Int) < m.1) : ∀ n : Nat, n < m.2.1.length →
    spec_LayerAt_4_loop ((on, (k : Int), (), (n : Int), ()), (m, ())) = some (cond (layerDown m.2.1 on k n == 0) (.inl ((), ())) (.inr ((((layerDown m.2.1 on k n : Nat) : Int), ()), ())))
  | 0, _ => by
    unfold spec_LayerAt_4_loop
    rw [loopF_step]
    rfl
  | n + 1, h => by
    have hrow := hm.row (n + 1) h
    unfold spec_LayerAt_4_loop
    rw [loopF_step]
    simp only [spec_LayerAt_4_R]
    rw [dec_true (show (((n + 1 : Nat) : Int)) > 0 by omega), dec_true (show (0 : Int) ≤ ((n + 1 : Nat) : Int) by omega)]
    simp only [cond_true]
    rw [idx2 h (by omega), wrap64 (by have := hm.l2; omega) (by have := hm.l2; omega), show (((n + 1 : Nat) : Int) - 1) = (n : Int) by omega]
    have ih := spec_layer_loop hm on hk n (by omega)
    unfold spec_LayerAt_4_loop at ih
    simp only [layerDown]
    show Option.bind (cond (bitI on ((n + 1 : Nat) : Int) == 1) _ _) _ = _
    cases h1 : (bitI on ((n + 1 : Nat) : Int) == 1) with
    | false =>
      simp only [Bool.false_and, cond_false, Option.bind_some, Sum.elim_inl]
      exact ih
    | true =>
      cases h2 : ((actAt m.2.1 (n + 1) k).1 != 1) with
      | true => rfl
      | false =>
        simp only [Bool.and_false, cond_true, cond_false, Option.bind_some, Sum.elim_inl]
        exact ih

def layerI (m : TKeymap) (on : Int) (k : Nat) : Nat := layerDown m.2.1 on k (m.2.1.length - 1)
theorem layerI_lt {m : TKeymap} (hm : KeymapOk m) (on : Int) (k : Nat) : layerI m on k < m.2.1.length := by
  have := layerDown_le (L := m.2.1) (on := on) (k := k) (m.2.1.length - 1)
  have := hm.l1
  unfold layerI
  omega

theorem spec_LayerAt_in {m : TKeymap} (hz : szT tKeymap m ≤ big20) (hv : isKeymapB m = true) (on : Int) {k : Nat} (hk : (k : Int) < m.1) :
    spec_LayerAt m on (k : Int) = some (((layerI m on k : Nat) : Int), ()) := by
  have hm := keymap_ok hv
  have h1 := hm.l1
  have h2 := hm.l2
  have h3 := hm.k2
  unfold spec_LayerAt
  rw [spec_IsKeymap_ok m hz, hv, wrap64 (n := m.1 - 1) (by omega) (by omega)]
  simp only [Option.bind_some, Bool.not_true, cond_false, spec_l1In_ok]
  rw [dec_true (show (0 : Int) ≤ (k : Int) ∧ (k : Int) ≤ m.1 - 1 by omega), wrap64 (by omega) (by omega), show ((m.2.1.length : Int) - 1) = ((m.2.1.length - 1 : Nat) : Int) by omega, spec_layer_loop hm on hk _ (by omega)]
  simp only [Bool.not_true, cond_false, Option.bind_some]
  show _ = some (((layerDown m.2.1 on k (m.2.1.length - 1) : Nat) : Int), ())
  cases h : (layerDown m.2.1 on k (m.2.1.length - 1) == 0) with
  | false => rfl
  | true =>
    have h' : layerDown m.2.1 on k (m.2.1.length - 1) = 0 := by simpa using h
    rw [h']; rfl

theorem spec_ActionAt_in {m : TKeymap} (hz : szT tKeymap m ≤ big20) (hv : isKeymapB m = true) (on : Int) {k : Nat} (hk : (k : Int) < m.1) :
    spec_ActionAt m on (k : Int) = some (actAt m.2.1 (layerI m on k) k, ()) := by
  have hm := keymap_ok hv
  have hl := layerI_lt hm on k
  have hrow := hm.row _ hl
  unfold spec_ActionAt
  rw [spec_LayerAt_in hz hv on hk]
  simp only [Option.bind_some]
  rw [dec_false (by omega)]
  simp only [cond_false]
  rw [idx2 hl (by omega)]

/-! ### After a tap -/
def afterI (f : Int) (a : TAction) : Int := cond (a.1 == 4) (ixor .i64 f (ishl .i64 1 a.2.2.2.1)) (cond (a.1 == 5) (iandn .i64 (ishl .i64 1 a.2.2.2.1) 1) f)

theorem act_n {nl i : Nat} {a : TAction} (h : okActB nl i a = true) (hk : a.1 = 3 ∨ a.1 = 4 ∨ a.1 = 5 ∨ a.1 = 7) : 0 ≤ a.2.2.2.1 ∧ a.2.2.2.1 < (nl : Int) ∧ a.2.2.2.1 ≤ 3 := by
  have h1 := okAct_action h
  rw [isActionB_iff] at h1
  have h2 := okAct_n h (by rcases hk with hk | hk | hk | hk <;> rw [hk] <;> decide)
  unfold IsActionP at h1
  omega

theorem impl_fixedAfter_ok {m : TKeymap} (hm : KeymapOk m) (f : Int) {k : Nat} (hk : (k : Int) < m.1) :
    impl_fixedAfter m f (k : Int) = some (afterI f (actAt m.2.1 (layerI m f k) k), ()) := by
  have hl := layerI_lt hm f k
  have hrow := hm.row _ hl
  have hact := hm.act _ hl k (by omega)
  rw [← actAt_eq hl (by omega)] at hact
  unfold impl_fixedAfter
  rw [impl_layerAt_ok hm f hk]
  simp only [Option.bind_some]
  rw [show layerDown m.2.1 f k (m.2.1.length - 1) = layerI m f k from rfl, idx2 hl (by omega)]
  generalize actAt m.2.1 (layerI m f k) k = a at hact
  unfold afterI
  cases h4 : (a.1 == 4) with
  | true =>
    rw [dec_true (act_n hact (.inr (.inl (by simpa using h4)))).1]; rfl
  | false =>
    cases h5 : (a.1 == 5) with
    | true => rw [dec_true (act_n hact (.inr (.inr (.inl (by simpa using h5))))).1]; rfl
    | false => rfl

theorem fixed_bits {f : Int} (h0 : 0 ≤ f) (h1 : f < 16) (h2 : f.tmod 2 = 0) : ∀ n : Nat, n < 4 → bitI (ior .i64 1 f) ((n + 1 : Nat) : Int) = bitI f ((n + 1 : Nat) : Int) := by
  have : f = 0 ∨ f = 1 ∨ f = 2 ∨ f = 3 ∨ f = 4 ∨ f = 5 ∨ f = 6 ∨ f = 7 ∨ f = 8 ∨ f = 9 ∨ f = 10 ∨ f = 11 ∨ f = 12 ∨ f = 13 ∨ f = 14 ∨ f = 15 := by omega
  clear h0 h1 h2
  rcases this with rfl | rfl | rfl | rfl | rfl | rfl | rfl | rfl | rfl | rfl | rfl | rfl | rfl | rfl | rfl | rfl <;> decide

theorem layer_congr {L : List (List TAction)} {on on' : Int} {k : Nat} : ∀ n : Nat, (∀ j : Nat, j < n → bitI on ((j + 1 : Nat) : Int) = bitI on' ((j + 1 : Nat) : Int)) → layerDown L on k n = layerDown L on' k n
  | 0, _ => rfl
  | n + 1, h => by
    simp only [layerDown]
    rw [h n (by omega), layer_congr n fun j hj => h j (by omega)]

theorem fixed_facts {m : TKeymap} {f : Int} {b : Bool} (hz : szT tKeymap m ≤ big20) (h : impl_IsFixed m f = some (b, ())) (hb : b = true) : isKeymapB m = true ∧ 0 ≤ f ∧ f < 16 ∧ f.tmod 2 = 0 := by
  unfold impl_IsFixed at h
  rw [impl_IsKeymap_ok m hz] at h
  cases hk : isKeymapB m with
  | false => rw [hk] at h; simp at h; rw [hb] at h; simp at h
  | true =>
    have hm := keymap_ok hk
    rw [hk] at h
    simp only [Option.bind_some, cond_true, show ((2 : Int) == 0) = false from rfl, cond_false] at h
    by_cases h1 : f ≥ 0
    case neg => rw [dec_false h1] at h; simp at h; rw [hb] at h; simp at h
    rw [dec_true h1] at h
    cases h2 : (f.tmod 2 == 0) with
    | false => rw [h2] at h; simp at h; rw [hb] at h; simp at h
    | true =>
      rw [h2, dec_true (show (0 : Int) ≤ (m.2.1.length : Int) by omega), shl_one (by have := hm.l2; omega)] at h
      simp only [cond_true, Option.some.injEq, Prod.mk.injEq, and_true] at h
      rw [hb, decide_eq_true_eq] at h
      have h3 := hm.l2
      have h4 : 2 ^ m.2.1.length ≤ 2 ^ 4 := Nat.pow_le_pow_right (by omega) h3
      exact ⟨rfl, h1, by omega, by simpa using h2⟩

theorem FixedAfter_same (m : TKeymap) (f k : Int) (hr0 : Rng tKeymap m) (hr1 : Rng int f) (_ : Rng int k) (hz : szT tKeymap m ≤ big20) :
    ∃ w, spec_FixedAfter m f k = some (w, ()) ∧ impl_FixedAfter m f k = some (w, ()) := by
  obtain ⟨b, e1, e2⟩ := IsFixed_same m f hr0 hr1 hz
  unfold spec_FixedAfter impl_FixedAfter
  rw [e1, e2]
  cases b with
  | false => exact ⟨-1, rfl, rfl⟩
  | true =>
    obtain ⟨hv, f0, f1, f2⟩ := fixed_facts hz e2 rfl
    have hm := keymap_ok hv
    have hk2 := hm.k2
    have hk1 := hm.k1
    simp only [Option.bind_some, Bool.not_true, cond_false, spec_l1In_ok]
    rw [wrap64 (n := m.1 - 1) (by omega) (by omega)]
    by_cases hk : 0 ≤ k ∧ k ≤ m.1 - 1
    case neg =>
      rw [dec_false hk]
      refine ⟨-1, rfl, ?_⟩
      by_cases h0 : k < 0
      · rw [dec_true h0]; rfl
      · rw [dec_false h0, dec_true (show k ≥ m.1 by omega)]; rfl
    rw [dec_true hk, dec_false (show ¬ k < 0 by omega), dec_false (show ¬ k ≥ m.1 by omega)]
    obtain ⟨n, rfl⟩ := Int.eq_ofNat_of_zero_le hk.1
    have hl2 := hm.l2
    rw [spec_ActionAt_in hz hv _ (by omega), impl_fixedAfter_ok hm f (by omega)]
    have hsame : layerI m (ior .i64 1 f) n = layerI m f n := layer_congr _ fun j hj => fixed_bits f0 f1 f2 j (by omega)
    rw [hsame]
    have hl := layerI_lt hm f n
    have hrow := hm.row _ hl
    have hact := hm.act _ hl n (by omega)
    rw [← actAt_eq hl (by omega)] at hact
    refine ⟨afterI f (actAt m.2.1 (layerI m f n) n), ?_, rfl⟩
    generalize actAt m.2.1 (layerI m f n) n = a at hact
    simp only [Bool.not_true, cond_false, Option.bind_some]
    unfold afterI
    cases h4 : (a.1 == 4) with
    | true =>
      rw [dec_true (act_n hact (.inr (.inl (by simpa using h4)))).1]; rfl
    | false =>
      cases h5 : (a.1 == 5) with
      | true => rw [dec_true (act_n hact (.inr (.inr (.inl (by simpa using h5))))).1]; rfl
      | false => rfl
end KF

namespace KF
open Go
theorem krow_len {m : TKeymap} (hz : szT tKeymap m ≤ big20) : List.length m.2.1 ≤ big20 ∧ ∀ k (hk : k < m.2.1.length), m.2.1[k].length ≤ big20 := by
  have h0 : szT tKeymap m = 0 + (szT (.sl (.sl tAction)) m.2.1 + 0) := rfl
  have h1 : szT (.sl (.sl tAction)) m.2.1 = List.length m.2.1 + (List.map (szT (.sl tAction)) m.2.1).sum := rfl
  refine ⟨by omega, fun k hk => ?_⟩
  have h2 := sum_map_le (f := szT (.sl tAction)) hk
  rw [szActs] at h2
  omega
theorem impl_copyKeymap_ok (m : TKeymap) (hz : szT tKeymap m ≤ big20) : impl_copyKeymap m = some (m, ()) := by
  have h20 : big20 = 1048576 := rfl
  obtain ⟨h1, h2⟩ := krow_len hz
  have hl := loopF_map (step := fun x : (Unit × Unit × List (List TAction) × Int × Int × Unit) × TKeymap × TKeymap × Unit => impl_copyKeymap_3_R x.1.1 x.1.2.1 x.1.2.2.1 x.1.2.2.2.1 x.1.2.2.2.2.1 x.2.1 x.2.2.1) m.2.1 (fun x => x)
    (fun o k => (((), (), m.2.1, (m.2.1.length : Int), k, ()), ((0, [], ()), (m.1, o, ()), ()))) (fun o => .inl (((), (), ()), ((0, [], ()), (m.1, o, ()), ()))) (by omega) (fun k hk o ho => by
      have := h2 k hk
      simp only [impl_copyKeymap_3_R]
      rw [dec_true (by omega), idx_lt hk]
      simp only [cond_true, Option.bind_some]
      rw [lim_ok (by simp; omega), lim_ok (by simp only [List.length_cons, List.length_nil]; omega)]
      rfl) (fun o => by
      simp only [impl_copyKeymap_3_R]
      rw [dec_false (by omega)]
      rfl)
  unfold impl_copyKeymap impl_copyKeymap_3_loop
  erw [hl]
  rw [List.map_id']
  rfl
theorem spec_l6Copy_ok (m : TKeymap) (hz : szT tKeymap m ≤ big20) : spec_l6Copy m = some (m, ()) := by
  have h20 : big20 = 1048576 := rfl
  obtain ⟨h1, h2⟩ := krow_len hz
  have hl := loopF_map (step := fun x : (Unit × Unit × Unit × Int × Unit) × TKeymap × TKeymap × TKeymap × Unit => spec_l6Copy_3_R x.1.1 x.1.2.1 x.1.2.2.1 x.1.2.2.2.1 x.2.1 x.2.2.1 x.2.2.2.1) m.2.1 (fun x => x)
    (fun o k => (((), (), (), k, ()), (m, (0, [], ()), (m.1, o, ()), ()))) (fun o => .inl (((), (), ()), ((0, [], ()), (m.1, o, ()), ()))) (by omega) (fun k hk o ho => by
      have := h2 k hk
      simp only [spec_l6Copy_3_R]
      rw [dec_true (by omega), idx_lt hk]
      simp only [cond_true, Option.bind_some]
      rw [lim_ok (by simp; omega), lim_ok (by simp only [List.length_cons, List.length_nil]; omega)]
      rfl) (fun o => by
      simp only [spec_l6Copy_3_R]
      rw [dec_false (by omega)]
      rfl)
  unfold spec_l6Copy spec_l6Copy_3_loop
  erw [hl]
  rw [List.map_id']
  rfl
noncomputable def packL (a : TAction) : List Int := cond (isActionB a) [IntKind.wrap .u8 (IntKind.wrap .i64 (IntKind.wrap .i64 (16 * a.1) + a.2.2.2.1)), IntKind.wrap .u8 a.2.1, IntKind.wrap .u8 a.2.2.1] []
theorem packL_len (a : TAction) : (packL a).length ≤ 3 := by unfold packL; cases isActionB a <;> simp
theorem impl_PackAction_ok (a : TAction) : impl_PackAction a = some (packL a, ()) := by
  unfold impl_PackAction packL
  rw [impl_IsAction_ok]
  cases isActionB a <;> rfl
theorem spec_PackAction_ok (a : TAction) : spec_PackAction a = some (packL a, ()) := by
  unfold spec_PackAction packL
  rw [spec_IsAction_ok]
  cases isActionB a <;> rfl
theorem cons_len {α : Type} {l : List α} {n : Nat} (h : l.length = n + 1) : ∃ a r, l = a :: r ∧ r.length = n := by
  cases l with
  | nil => simp at h
  | cons a r => exact ⟨a, r, rfl, by simpa using h⟩
theorem Unpack_same (l : List Int) : ∃ a b, spec_UnpackAction l = some (a, b, ()) ∧ impl_UnpackAction l = some (a, b, ()) := by
  unfold spec_UnpackAction impl_UnpackAction
  by_cases h : l.length = 3
  case neg =>
    have : (((List.length l : Nat) : Int) != (3 : Int)) = true := by
      rw [bne_iff_ne]; omega
    rw [this]
    exact ⟨_, _, rfl, rfl⟩
  obtain ⟨p, r, rfl, h1⟩ := cons_len h
  obtain ⟨q, r, rfl, h2⟩ := cons_len h1
  obtain ⟨s, r, rfl, h3⟩ := cons_len h2
  have hr : r = [] := List.eq_nil_of_length_eq_zero h3
  subst hr
  rw [show (((List.length [p, q, s] : Nat) : Int) != (3 : Int)) = false from rfl, show idx [p, q, s] 0 = some p from rfl, show idx [p, q, s] 1 = some q from rfl, show idx [p, q, s] 2 = some s from rfl,
    show ((16 : Int) == 0) = false from rfl]
  simp only [cond_false, Option.bind_some, spec_IsAction_ok, impl_IsAction_ok]
  cases isActionB _ <;> exact ⟨_, _, rfl, rfl⟩

def setM (m : TKeymap) (i k : Int) (a : TAction) : TKeymap := (m.1, List.set m.2.1 i.toNat (List.set (m.2.1.getD i.toNat []) k.toNat a), ())
noncomputable def setB (m : TKeymap) (i k : Int) (a : TAction) : Bool := (isKeymapB m && decide (0 ≤ i ∧ i < m.2.1.length) && decide (0 ≤ k ∧ k < m.1)) && isKeymapB (setM m i k a)
theorem sum_set {α : Type} {f : α → Nat} : ∀ {xs : List α} {i : Nat} {y : α} (hi : i < xs.length), f y = f xs[i] → ((xs.set i y).map f).sum = (xs.map f).sum
  | x :: r, 0, y, _, h => by simpa using h
  | x :: r, i + 1, y, hi, h => by
    have := sum_set (xs := r) (i := i) (y := y) (by simpa using hi) (by simpa using h)
    rw [List.set_cons_succ, List.map_cons, List.sum_cons, this, List.map_cons, List.sum_cons]
theorem setM_sz {m : TKeymap} {i k : Int} (a : TAction) (hi : 0 ≤ i ∧ i < m.2.1.length) : szT tKeymap (setM m i k a) = szT tKeymap m := by
  show 0 + ((List.length (List.set m.2.1 i.toNat _) + (List.map (szT (.sl tAction)) (List.set m.2.1 i.toNat _)).sum) + 0) = 0 + ((List.length m.2.1 + (List.map (szT (.sl tAction)) m.2.1).sum) + 0)
  have hi' : i.toNat < m.2.1.length := by omega
  rw [List.length_set, sum_set hi']
  rw [szActs, szActs, List.length_set, List.getD_eq_getElem?_getD, List.getElem?_eq_getElem hi']
  rfl
theorem spec_SetAction_ok (m : TKeymap) (i k : Int) (a : TAction) (hz : szT tKeymap m ≤ big20) :
    spec_SetAction m i k a = some (cond (setB m i k a) (setM m i k a) (0, [], ()), setB m i k a, ()) := by
  have h20 : big20 = 1048576 := rfl
  obtain ⟨h1, h2⟩ := krow_len hz
  unfold spec_SetAction setB
  rw [spec_IsKeymap_ok m hz]
  cases hv : isKeymapB m with
  | false => rfl
  | true =>
    have hm := keymap_ok hv
    simp only [Option.bind_some, Bool.not_true, cond_false, spec_l1In_ok, Bool.true_and]
    rw [wrap64 (by omega) (by omega), wrap64 (by have := hm.k1; have := hm.k2; omega) (by have := hm.k1; have := hm.k2; omega)]
    by_cases hi : 0 ≤ i ∧ i < m.2.1.length
    case neg => rw [dec_false hi, dec_false (by omega)]; rfl
    rw [dec_true hi, dec_true (show 0 ≤ i ∧ i ≤ (m.2.1.length : Int) - 1 by omega)]
    by_cases hk : 0 ≤ k ∧ k < m.1
    case neg => rw [dec_false hk, dec_false (by omega)]; rfl
    rw [dec_true hk, dec_true (show 0 ≤ k ∧ k ≤ m.1 - 1 by omega), spec_l6Copy_ok m hz]
    have hi' : i.toNat < m.2.1.length := by omega
    have hrow := hm.row i.toNat hi'
    have hk' : k.toNat < m.2.1[i.toNat].length := by omega
    have e1 : inb (List.length m.2.1) i = true := by
      rw [show i = ((i.toNat : Nat) : Int) by omega, inb_nat]; exact dec_true hi'
    have e2 : inb (List.length m.2.1[i.toNat]) k = true := by
      rw [show k = ((k.toNat : Nat) : Int) by omega, inb_nat]; exact dec_true hk'
    have e3 : setM m i k a = (m.1, List.set m.2.1 i.toNat (List.set m.2.1[i.toNat] k.toNat a), ()) := by
      unfold setM; rw [List.getD_eq_getElem?_getD, List.getElem?_eq_getElem hi']; rfl
    have e4 := setM_sz a hi (k := k)
    simp only [Option.bind_some, Bool.not_true, cond_false, cond_true, e1, List.getElem?_eq_getElem hi', e2, List.getElem?_eq_getElem hk']
    rw [← e3, spec_IsKeymap_ok _ (by omega)]
    cases isKeymapB (setM m i k a) <;> rfl
theorem impl_SetAction_ok (m : TKeymap) (i k : Int) (a : TAction) (hz : szT tKeymap m ≤ big20) :
    impl_SetAction m i k a = some (cond (setB m i k a) (setM m i k a) (0, [], ()), setB m i k a, ()) := by
  have h20 : big20 = 1048576 := rfl
  obtain ⟨h1, h2⟩ := krow_len hz
  unfold impl_SetAction setB
  rw [impl_IsKeymap_ok m hz]
  cases hv : isKeymapB m with
  | false => rfl
  | true =>
    have hm := keymap_ok hv
    simp only [Option.bind_some, Bool.not_true, cond_false, Bool.true_and]
    by_cases hi : 0 ≤ i ∧ i < m.2.1.length
    case neg =>
      rw [dec_false hi]
      by_cases hi0 : i < 0
      · rw [dec_true hi0]; rfl
      · rw [dec_false hi0, dec_true (by omega)]; rfl
    rw [dec_true hi, dec_false (show ¬ i < 0 by omega), dec_false (show ¬ i ≥ (m.2.1.length : Int) by omega)]
    by_cases hk : 0 ≤ k ∧ k < m.1
    case neg =>
      rw [dec_false hk]
      by_cases hk0 : k < 0
      · rw [dec_true hk0]; rfl
      · rw [dec_false hk0, dec_true (by omega)]; rfl
    rw [dec_true hk, dec_false (show ¬ k < 0 by omega), dec_false (show ¬ k ≥ m.1 by omega), impl_copyKeymap_ok m hz]
    have hi' : i.toNat < m.2.1.length := by omega
    have hrow := hm.row i.toNat hi'
    have hk' : k.toNat < m.2.1[i.toNat].length := by omega
    have e1 : inb (List.length m.2.1) i = true := by
      rw [show i = ((i.toNat : Nat) : Int) by omega, inb_nat]; exact dec_true hi'
    have e2 : inb (List.length m.2.1[i.toNat]) k = true := by
      rw [show k = ((k.toNat : Nat) : Int) by omega, inb_nat]; exact dec_true hk'
    have e3 : setM m i k a = (m.1, List.set m.2.1 i.toNat (List.set m.2.1[i.toNat] k.toNat a), ()) := by
      unfold setM; rw [List.getD_eq_getElem?_getD, List.getElem?_eq_getElem hi']; rfl
    have e4 := setM_sz a hi (k := k)
    simp only [Option.bind_some, cond_false, cond_true, e1, List.getElem?_eq_getElem hi', e2, List.getElem?_eq_getElem hk']
    rw [← e3, impl_IsKeymap_ok _ (by omega)]
    cases isKeymapB (setM m i k a) <;> rfl

/-- an answer -/
theorem seal_sz (l : List Int) : szT (.sl byte) (sealL l) ≤ big20 := by
  rw [szByteL]
  have := sealL_len l
  have h20 : big20 = 1048576 := rfl
  omega
theorem rng_byte {l : List Int} (h : Rng (.sl byte) l) {k : Nat} (hk : k < l.length) : 0 ≤ l[k] ∧ l[k] ≤ 255 := h.2 k hk
theorem AnswerPacket_in (m : TKeymap) (b : List Int) (hb : Rng (.sl byte) b) (hz : szT tKeymap m ≤ big20) :
    ∃ m' w, spec_AnswerPacket m b = some (m', w, ()) ∧ impl_AnswerPacket m b = some (m', w, ()) ∧ szT tKeymap m' ≤ big20 ∧ w.length ≤ 8 := by
  unfold spec_AnswerPacket impl_AnswerPacket
  rw [spec_l6Copy_ok m hz, impl_copyKeymap_ok m hz, spec_IsKeymap_ok m hz, impl_IsKeymap_ok m hz, spec_IsPacket_ok, impl_IsPacket_ok]
  cases hv : isKeymapB m with
  | false =>
    simp only [Option.bind_some, Bool.not_false, cond_true, spec_SealPacket_ok, impl_SealPacket_ok]
    exact ⟨_, _, rfl, rfl, hz, sealL_len _⟩
  | true =>
    cases hp : isPacketB b with
    | false =>
      simp only [Option.bind_some, Bool.not_false, Bool.not_true, cond_true, cond_false, spec_SealPacket_ok, impl_SealPacket_ok]
      exact ⟨_, _, rfl, rfl, hz, sealL_len _⟩
    | true =>
      have hm := keymap_ok hv
      have hlen : b.length = 8 := by
        simp only [isPacketB, Bool.and_eq_true, beq_iff_eq] at hp
        omega
      obtain ⟨p0, r, rfl, h1⟩ := cons_len hlen
      obtain ⟨p1, r, rfl, h2⟩ := cons_len h1
      obtain ⟨p2, r, rfl, h3⟩ := cons_len h2
      have hp1 := rng_byte hb (show 1 < _ by simp)
      have hp2 := rng_byte hb (show 2 < _ by simp)
      simp only [List.getElem_cons_succ, List.getElem_cons_zero] at hp1 hp2
      have i0 : idx (p0 :: p1 :: p2 :: r) (0 : Int) = some p0 := rfl
      have i1 : idx (p0 :: p1 :: p2 :: r) (1 : Int) = some p1 := rfl
      have i2 : idx (p0 :: p1 :: p2 :: r) (2 : Int) = some p2 := rfl
      have c1 : cutOk (List.length (p0 :: p1 :: p2 :: r)) 3 6 = true := cutOk_nat (lo := 3) (hi := 6) (by omega) (by omega)
      have c2 : cutOk (List.length (p0 :: p1 :: p2 :: r)) 0 6 = true := cutOk_nat (lo := 0) (hi := 6) (by omega) (by omega)
      generalize hcut : cutl (p0 :: p1 :: p2 :: r) (Int.toNat 3) (Int.toNat 6) = q
      obtain ⟨ua, ub, u1, u2⟩ := Unpack_same q
      simp only [Option.bind_some, Bool.not_true, cond_false, i0, i1, i2, c1, c2, cond_true, u1, u2, wrap64 (show -9223372036854775808 ≤ p1 by omega) (show p1 ≤ 9223372036854775807 by omega),
        wrap64 (show -9223372036854775808 ≤ p2 by omega) (show p2 ≤ 9223372036854775807 by omega), spec_SealPacket_ok, impl_SealPacket_ok, spec_SetAction_ok m p1 p2 ua hz, impl_SetAction_ok m p1 p2 ua hz]
      by_cases hl : p1 < (m.2.1.length : Int)
      case neg =>
        have hsb : setB m p1 p2 ua = false := by
          unfold setB; rw [dec_false (show ¬ (0 ≤ p1 ∧ p1 < (m.2.1.length : Int)) by omega)]; simp
        rw [dec_false hl, hsb]
        simp only [cond_false]
        cases (p0 == 1) <;> cases (p0 == 2) <;> cases (p0 == 3) <;> cases ub <;> exact ⟨_, _, rfl, rfl, hz, sealL_len _⟩
      rw [dec_true hl]
      simp only [cond_true]
      cases (p0 == 1) with
      | true => exact ⟨_, _, rfl, rfl, hz, sealL_len _⟩
      | false =>
        simp only [cond_false]
        cases h02 : (p0 == 2) with
        | true =>
          simp only [cond_true]
          by_cases hk : p2 < m.1
          case neg =>
            rw [dec_false hk]
            exact ⟨_, _, rfl, rfl, hz, sealL_len _⟩
          rw [dec_true hk]
          simp only [Bool.not_true, cond_true, cond_false]
          have hi' : p1.toNat < m.2.1.length := by omega
          have hrow := hm.row p1.toNat hi'
          have hk' : p2.toNat < m.2.1[p1.toNat].length := by omega
          have e1 : idx m.2.1 p1 = some m.2.1[p1.toNat] := idx_at (by omega) hi'
          have e2 : idx m.2.1[p1.toNat] p2 = some m.2.1[p1.toNat][p2.toNat] := idx_at (by omega) hk'
          have e3 : p0 = 2 := by simpa using h02
          subst e3
          have hpl := packL_len m.2.1[p1.toNat][p2.toNat]
          rw [e1]
          simp only [Option.bind_some, e2, spec_PackAction_ok, impl_PackAction_ok]
          rw [lim_ok (by simp only [List.length_cons, List.length_nil]; omega)]
          exact ⟨_, _, rfl, rfl, hz, sealL_len _⟩
        | false =>
          simp only [cond_false]
          cases (p0 == 3) with
          | false => exact ⟨_, _, rfl, rfl, hz, sealL_len _⟩
          | true =>
            simp only [cond_true]
            by_cases hk : p2 < m.1
            case neg =>
              have hsb : setB m p1 p2 ua = false := by
                unfold setB; rw [dec_false (show ¬ (0 ≤ p2 ∧ p2 < m.1) by omega)]; simp
              rw [dec_false hk, hsb]
              cases ub <;> exact ⟨_, _, rfl, rfl, hz, sealL_len _⟩
            rw [dec_true hk]
            cases ub with
            | false => exact ⟨_, _, rfl, rfl, hz, sealL_len _⟩
            | true =>
              cases hsb : setB m p1 p2 ua with
              | false => exact ⟨_, _, rfl, rfl, hz, sealL_len _⟩
              | true =>
                simp only [Bool.not_true, cond_true, cond_false]
                rw [lim_ok (by
                  have : List.length (cutl (p0 :: p1 :: p2 :: r) (Int.toNat 0) (Int.toNat 6)) ≤ 8 := by
                    unfold cutl; simp only [List.length_drop, List.length_take]; omega
                  simp only [List.length_nil]; omega)]
                have hs := setM_sz (m := m) (i := p1) (k := p2) ua (by omega)
                exact ⟨_, _, rfl, rfl, by omega, sealL_len _⟩
theorem AnswerPacket_same (m : TKeymap) (b : List Int) (_ : Rng tKeymap m) (hb : Rng (.sl byte) b) (hz : szT tKeymap m ≤ big20) (_ : szT (.sl byte) b ≤ big20) :
    ∃ m' w, spec_AnswerPacket m b = some (m', w, ()) ∧ impl_AnswerPacket m b = some (m', w, ()) ∧ szT tKeymap m' ≤ big20 ∧ szT (.sl byte) w ≤ big20 := by
  obtain ⟨m', w, h1, h2, h3, h4⟩ := AnswerPacket_in m b hb hz
  have h20 : big20 = 1048576 := rfl
  exact ⟨m', w, h1, h2, h3, by rw [szByteL]; omega⟩
end KF

namespace KF
open Go

/-! ### Tap and hold -/
noncomputable def isTapHoldB (a : TAction) : Bool := isActionB a && ((a.1 == 6) || (a.1 == 7))
noncomputable def tapOfA (a : TAction) : TAction := cond (isTapHoldB a) (2, a.2.1, 0, 0, ()) a
noncomputable def holdOfA (a : TAction) : TAction := cond (isTapHoldB a) (cond (a.1 == 6) (2, 0, a.2.2.1, 0, ()) (3, 0, 0, a.2.2.2.1, ())) a
theorem impl_IsTapHold_ok (a : TAction) : impl_IsTapHold a = some (isTapHoldB a, ()) := by
  unfold impl_IsTapHold isTapHoldB
  rw [impl_IsAction_ok]
  cases isActionB a <;> cases (a.1 == 6) <;> rfl
theorem spec_IsTapHold_ok (a : TAction) : spec_IsTapHold a = some (isTapHoldB a, ()) := by
  unfold spec_IsTapHold isTapHoldB
  rw [spec_IsAction_ok]
  cases isActionB a <;> cases (a.1 == 6) <;> rfl
theorem impl_TapOf_ok (a : TAction) : impl_TapOf a = some (tapOfA a, ()) := by
  unfold impl_TapOf tapOfA
  rw [impl_IsTapHold_ok]
  cases isTapHoldB a <;> rfl
theorem spec_TapOf_ok (a : TAction) : spec_TapOf a = some (tapOfA a, ()) := by
  unfold spec_TapOf tapOfA
  rw [spec_IsTapHold_ok]
  cases isTapHoldB a <;> rfl
theorem spec_HoldOf_ok (a : TAction) : spec_HoldOf a = some (holdOfA a, ()) := by
  unfold spec_HoldOf holdOfA
  rw [spec_IsTapHold_ok]
  cases isTapHoldB a <;> cases (a.1 == 6) <;> rfl

/-! ### Layers that are used -/
def turnsB (a : TAction) : Bool := (a.1 == 3) || (a.1 == 4) || (a.1 == 5) || (a.1 == 7)
def orU (u : Int) (a : TAction) : Int := cond (turnsB a) (ior .i64 u (ishl .i64 1 a.2.2.2.1)) u
def rowU (u : Int) (i : Nat) (row : List TAction) : Int := cond (bitI u (i : Int) == 1) (row.foldl orU u) u

theorem or_bits : ∀ u : Fin 16, ∀ n : Fin 4, 0 ≤ ior .i64 (u.val : Int) (ishl .i64 1 (n.val : Int)) ∧ ior .i64 (u.val : Int) (ishl .i64 1 (n.val : Int)) < 16 ∧
    ∀ i : Fin 4, bitI (u.val : Int) (i.val : Int) = 1 → bitI (ior .i64 (u.val : Int) (ishl .i64 1 (n.val : Int))) (i.val : Int) = 1 := by decide +kernel

theorem or_ok {u : Int} (hu : 0 ≤ u ∧ u < 16) {nl i j : Nat} (hi : i < 4) {a : TAction} (ha : okActB nl j a = true) :
    (0 ≤ orU u a ∧ orU u a < 16) ∧ (bitI u (i : Int) = 1 → bitI (orU u a) (i : Int) = 1) := by
  unfold orU
  cases ht : turnsB a with
  | false => exact ⟨hu, fun h => h⟩
  | true =>
    have hn := act_n ha (by simp only [turnsB, Bool.or_eq_true, beq_iff_eq] at ht; omega)
    obtain ⟨u', rfl⟩ := Int.eq_ofNat_of_zero_le hu.1
    obtain ⟨n', hn'⟩ := Int.eq_ofNat_of_zero_le hn.1
    have := or_bits ⟨u', by omega⟩ ⟨n', by omega⟩
    rw [hn']
    exact ⟨⟨this.1, this.2.1⟩, this.2.2 ⟨i, hi⟩⟩

theorem foldK_row {nl i j : Nat} (hi : i < 4) : ∀ (row : List TAction) (k : Nat) (u : Int), (0 ≤ u ∧ u < 16) → (∀ a ∈ row, okActB nl j a = true) →
    foldK (fun _ u a => cond (bitI u (i : Int) == 1) (orU u a) u) k u row = rowU u i row ∧ (0 ≤ rowU u i row ∧ rowU u i row < 16)
  | [], _, u, hu, _ => by
    refine ⟨?_, ?_⟩
    · simp only [foldK, rowU, List.foldl_nil]; cases (bitI u (i : Int) == 1) <;> rfl
    · simp only [rowU, List.foldl_nil]; cases (bitI u (i : Int) == 1) <;> exact hu
  | a :: row, k, u, hu, h => by
    have ha := or_ok (i := i) hu hi (h a (by simp))
    simp only [foldK]
    cases hb : (bitI u (i : Int) == 1) with
    | true =>
      have ih := foldK_row hi row (k + 1) (orU u a) ha.1 fun b hb => h b (by simp [hb])
      have hb2 : (bitI (orU u a) (i : Int) == 1) = true := by
        have := ha.2 (by simpa using hb)
        rw [this]; rfl
      simp only [cond_true]
      rw [ih.1]
      have e : rowU (orU u a) i row = rowU u i (a :: row) := by
        simp only [rowU, hb, hb2, cond_true, List.foldl_cons]
      rw [← e]
      exact ⟨rfl, ih.2⟩
    | false =>
      have ih := foldK_row hi row (k + 1) u hu fun b hb => h b (by simp [hb])
      simp only [cond_false]
      rw [ih.1]
      have e : rowU u i row = rowU u i (a :: row) := by simp only [rowU, hb, cond_false]
      rw [← e]
      exact ⟨rfl, ih.2⟩

theorem impl_used_in {nl i j : Nat} (hi : i < 4) (row : List TAction) (hrow : ∀ a ∈ row, okActB nl j a = true) (hn : row.length < 9223372036854775807) (u : Int) (hu : 0 ≤ u ∧ u < 16) (c d : Int) (L : List (List TAction)) (n t : Int) (m : TKeymap) :
    impl_LayersUsed_10_loop (((), u, (i : Int), c, d, L, n, t, row, (row.length : Int), (0 : Int), ()), (m, ())) = some (.inl (((), rowU u i row, c, d, L, n, t, ()), (m, ()))) := by
  unfold impl_LayersUsed_10_loop
  have hl := (loopF_fold (step := fun x : ((Unit × (Int × (Int × (Int × (Int × ((List (List TAction)) × (Int × (Int × ((List TAction) × (Int × (Int × Unit))))))))))) × (TKeymap × Unit)) =>
      impl_LayersUsed_10_R x.1.1 x.1.2.1 x.1.2.2.1 x.1.2.2.2.1 x.1.2.2.2.2.1 x.1.2.2.2.2.2.1 x.1.2.2.2.2.2.2.1 x.1.2.2.2.2.2.2.2.1 x.1.2.2.2.2.2.2.2.2.1 x.1.2.2.2.2.2.2.2.2.2.1 x.1.2.2.2.2.2.2.2.2.2.2.1 x.2.1)
    row (fun _ u a => cond (bitI u (i : Int) == 1) (orU u a) u) (fun u k => (((), u, (i : Int), c, d, L, n, t, row, (row.length : Int), k, ()), (m, ()))) (fun u => .inl (((), u, c, d, L, n, t, ()), (m, ())))
    (fun _ u => 0 ≤ u ∧ u < 16) (by
      intro k hk u hu
      have hok := hrow row[k] (List.getElem_mem hk)
      refine ⟨?_, ?_⟩
      · simp only [impl_LayersUsed_10_R]
        rw [dec_true (show (k : Int) < (row.length : Int) by omega), idx_lt hk, impl_bit_ok u (show (0 : Int) ≤ (i : Int) by omega)]
        simp only [cond_true, Option.bind_some]
        generalize row[k] = a at hok
        unfold orU turnsB
        cases h3 : (a.1 == 3) with
        | true =>
          rw [dec_true (act_n hok (.inl (by simpa using h3))).1]
          cases (bitI u (i : Int) == 1) <;> rfl
        | false =>
          cases h4 : (a.1 == 4) with
          | true =>
            rw [dec_true (act_n hok (.inr (.inl (by simpa using h4)))).1]
            cases (bitI u (i : Int) == 1) <;> rfl
          | false =>
            cases h5 : (a.1 == 5) with
            | true =>
              rw [dec_true (act_n hok (.inr (.inr (.inl (by simpa using h5))))).1]
              cases (bitI u (i : Int) == 1) <;> rfl
            | false =>
              cases h7 : (a.1 == 7) with
              | true =>
                rw [dec_true (act_n hok (.inr (.inr (.inr (by simpa using h7))))).1]
                cases (bitI u (i : Int) == 1) <;> rfl
              | false => cases (bitI u (i : Int) == 1) <;> rfl
      · show 0 ≤ cond (bitI u (i : Int) == 1) (orU u row[k]) u ∧ cond (bitI u (i : Int) == 1) (orU u row[k]) u < 16
        cases (bitI u (i : Int) == 1) with
        | true => exact (or_ok (i := i) hu hi hok).1
        | false => exact hu) (by
      intro u _
      simp only [impl_LayersUsed_10_R]
      rw [dec_false (by omega)]; rfl) hn u hu).1
  rw [(foldK_row hi row 0 u hu hrow).1] at hl
  exact hl

def midU (u : Int) (L : List (List TAction)) : Int := foldK (fun i u row => rowU u i row) 0 u L

theorem impl_used_mid {m : TKeymap} (hm : KeymapOk m) (u : Int) (hu : 0 ≤ u ∧ u < 16) (c d : Int) :
    impl_LayersUsed_7_loop (((), u, c, d, m.2.1, (m.2.1.length : Int), (0 : Int), ()), (m, ())) = some (.inl (((), midU u m.2.1, c, d, ()), (m, ()))) ∧ (0 ≤ midU u m.2.1 ∧ midU u m.2.1 < 16) := by
  unfold impl_LayersUsed_7_loop
  have hl2 := hm.l2
  have hk2 := hm.k2
  exact loopF_fold (step := fun x : ((Unit × (Int × (Int × (Int × ((List (List TAction)) × (Int × (Int × Unit))))))) × (TKeymap × Unit)) =>
      impl_LayersUsed_7_R x.1.1 x.1.2.1 x.1.2.2.1 x.1.2.2.2.1 x.1.2.2.2.2.1 x.1.2.2.2.2.2.1 x.1.2.2.2.2.2.2.1 x.2.1)
    m.2.1 (fun i u row => rowU u i row) (fun u k => (((), u, c, d, m.2.1, (m.2.1.length : Int), k, ()), (m, ()))) (fun u => .inl (((), u, c, d, ()), (m, ())))
    (fun _ u => 0 ≤ u ∧ u < 16) (by
      intro k hk u hu
      have hrow := hm.row k hk
      have hall : ∀ a ∈ m.2.1[k], okActB m.2.1.length k a = true := by
        intro a ha
        obtain ⟨j, hj, rfl⟩ := List.mem_iff_getElem.1 ha
        exact hm.act k hk j hj
      refine ⟨?_, (foldK_row (i := k) (by omega) _ 0 u hu hall).2⟩
      simp only [impl_LayersUsed_7_R]
      rw [dec_true (show (k : Int) < (m.2.1.length : Int) by omega), idx_lt hk]
      simp only [cond_true, Option.bind_some]
      rw [impl_used_in (by omega) _ hall (by omega) u hu]
      rfl) (by
      intro u _
      simp only [impl_LayersUsed_7_R]
      rw [dec_false (by omega)]; rfl) (by omega) u hu

def usedI (m : TKeymap) : Int := foldK (fun _ u (_ : List TAction) => midU u m.2.1) 0 1 m.2.1

theorem impl_LayersUsed_ok (m : TKeymap) (hz : szT tKeymap m ≤ big20) : impl_LayersUsed m = some (cond (isKeymapB m) (usedI m) 0, ()) := by
  unfold impl_LayersUsed
  rw [impl_IsKeymap_ok m hz]
  cases hv : isKeymapB m with
  | false => rfl
  | true =>
    have hm := keymap_ok hv
    have hl2 := hm.l2
    have hl := (loopF_fold (step := fun x : ((Unit × (Int × (Int × (Int × Unit)))) × (TKeymap × Unit)) => impl_LayersUsed_5_R x.1.1 x.1.2.1 x.1.2.2.1 x.1.2.2.2.1 x.2.1)
      m.2.1 (fun _ u (_ : List TAction) => midU u m.2.1) (fun u k => (((), u, (m.2.1.length : Int), k, ()), (m, ()))) (fun u => .inl ((u, ()), ())) (fun _ u => 0 ≤ u ∧ u < 16) (by
        intro k hk u hu
        have hmid := impl_used_mid hm u hu (m.2.1.length : Int) (k : Int)
        refine ⟨?_, hmid.2⟩
        simp only [impl_LayersUsed_5_R]
        rw [dec_true (show (k : Int) < (m.2.1.length : Int) by omega), hmid.1]
        rfl) (by
        intro u _
        simp only [impl_LayersUsed_5_R]
        rw [dec_false (by omega)]; rfl) (by omega) 1 (by omega)).1
    simp only [Option.bind_some, Bool.not_true, cond_false, cond_true]
    unfold impl_LayersUsed_5_loop
    erw [hl]
    rfl

theorem hold_turns {nl j : Nat} {a : TAction} (ha : okActB nl j a = true) : (((holdOfA a).1 == 3) || ((holdOfA a).1 == 4) || ((holdOfA a).1 == 5)) = turnsB a ∧ (turnsB a = true → (holdOfA a).2.2.2.1 = a.2.2.2.1) := by
  have h1 := okAct_action ha
  unfold holdOfA isTapHoldB turnsB
  rw [h1]
  cases h6 : (a.1 == 6) with
  | true =>
    have : a.1 = 6 := by simpa using h6
    rw [this]
    exact ⟨rfl, fun h => by simp at h⟩
  | false =>
    cases h7 : (a.1 == 7) with
    | true =>
      have : a.1 = 7 := by simpa using h7
      rw [this]
      exact ⟨rfl, fun _ => rfl⟩
    | false => exact ⟨by simp, fun _ => rfl⟩

theorem foldE_row {nl i j : Nat} (hi : i < 4) : ∀ (row : List TAction) (k : Nat) (u : Int), (0 ≤ u ∧ u < 16) → (∀ a ∈ row, okActB nl j a = true) →
    (match foldE (fun _ u a => cond (bitI u (i : Int) == 1) (.inl (orU u a)) (.inr u)) k u row with | .inl s => s | .inr s => s) = rowU u i row
  | [], _, u, _, _ => by simp only [foldE, rowU, List.foldl_nil]; cases (bitI u (i : Int) == 1) <;> rfl
  | a :: row, k, u, hu, h => by
    have ha := or_ok (i := i) hu hi (h a (by simp))
    simp only [foldE]
    cases hb : (bitI u (i : Int) == 1) with
    | true =>
      have ih := foldE_row hi row (k + 1) (orU u a) ha.1 fun b hb => h b (by simp [hb])
      have hb2 : (bitI (orU u a) (i : Int) == 1) = true := by
        have := ha.2 (by simpa using hb)
        rw [this]; rfl
      simp only [cond_true]
      rw [ih]
      simp only [rowU, hb, hb2, cond_true, List.foldl_cons]
    | false => simp only [rowU, hb, cond_false]

theorem spec_used_in {m : TKeymap} (hm : KeymapOk m) (i : Nat) (hi : i < m.2.1.length) (u : Int) (hu : 0 ≤ u ∧ u < 16) (c : Int) :
    spec_LayersUsed_11_loop (((), u, c, (i : Int), (0 : Int), ()), (m, ())) = some (.inl (((), rowU u i m.2.1[i], c, (i : Int), ()), (m, ()))) := by
  have hl2 := hm.l2
  have hk2 := hm.k2
  have hrow := hm.row i hi
  have hall : ∀ a ∈ m.2.1[i], okActB m.2.1.length i a = true := by
    intro a ha
    obtain ⟨j, hj, rfl⟩ := List.mem_iff_getElem.1 ha
    exact hm.act i hi j hj
  unfold spec_LayersUsed_11_loop
  have hl := loopF_foldX (step := fun x : ((Unit × (Int × (Int × (Int × (Int × Unit))))) × (TKeymap × Unit)) => spec_LayersUsed_11_R x.1.1 x.1.2.1 x.1.2.2.1 x.1.2.2.2.1 x.1.2.2.2.2.1 x.2.1)
    m.2.1[i] (fun _ u a => cond (bitI u (i : Int) == 1) (.inl (orU u a)) (.inr u)) (fun u k => (((), u, c, (i : Int), k, ()), (m, ()))) (fun u => .inl (((), u, c, (i : Int), ()), (m, ()))) (fun u => .inl (((), u, c, (i : Int), ()), (m, ())))
    (fun _ u => 0 ≤ u ∧ u < 16) (by
      intro k hk u hu
      have hok := hall m.2.1[i][k] (List.getElem_mem hk)
      refine ⟨?_, ?_⟩
      · simp only [spec_LayersUsed_11_R]
        rw [dec_true (show (k : Int) < m.1 by omega), dec_true (show (0 : Int) ≤ (i : Int) by omega), idx2 hi hk, actAt_eq hi hk]
        simp only [cond_true, spec_HoldOf_ok, Option.bind_some]
        show cond (bitI u (i : Int) == 1) _ _ = _
        generalize m.2.1[i][k] = a at hok
        obtain ⟨h1, h2⟩ := hold_turns hok
        cases hb : (bitI u (i : Int) == 1) with
        | false => rfl
        | true =>
          simp only [cond_true, orU]
          cases ht : turnsB a with
          | false =>
            rw [ht] at h1
            simp only [Bool.or_eq_false_iff] at h1
            rw [h1.1.1, h1.1.2, h1.2]; rfl
          | true =>
            have hn := act_n hok (by simp only [turnsB, Bool.or_eq_true, beq_iff_eq] at ht; omega)
            rw [h2 ht, dec_true hn.1]
            rw [ht] at h1
            cases h3 : ((holdOfA a).1 == 3) with
            | true => rfl
            | false =>
              cases h4 : ((holdOfA a).1 == 4) with
              | true => rfl
              | false =>
                rw [h3, h4] at h1
                simp only [Bool.false_or] at h1
                rw [h1]; rfl
      · intro s' hs
        cases hb : (bitI u (i : Int) == 1) with
        | false => rw [hb] at hs; simp at hs
        | true =>
          rw [hb] at hs
          simp only [cond_true, Sum.inl.injEq] at hs
          subst hs
          exact (or_ok (i := i) hu (by omega) hok).1) (by
      intro u _
      simp only [spec_LayersUsed_11_R]
      rw [dec_false (by omega)]; rfl) (by omega) u hu
  have hf := foldE_row (i := i) (by omega) m.2.1[i] 0 u hu hall
  refine Eq.trans hl ?_
  cases hfe : foldE (fun _ u a => cond (bitI u (i : Int) == 1) (.inl (orU u a)) (.inr u)) 0 u m.2.1[i] with
  | inl s => rw [hfe] at hf; simp only at hf; rw [hf]
  | inr s => rw [hfe] at hf; simp only at hf; rw [hf]

theorem spec_used_mid {m : TKeymap} (hm : KeymapOk m) (u : Int) (hu : 0 ≤ u ∧ u < 16) (c : Int) :
    spec_LayersUsed_8_loop (((), u, c, (0 : Int), ()), (m, ())) = some (.inl (((), midU u m.2.1, c, ()), (m, ()))) ∧ (0 ≤ midU u m.2.1 ∧ midU u m.2.1 < 16) := by
  unfold spec_LayersUsed_8_loop
  have hl2 := hm.l2
  exact loopF_fold (step := fun x : ((Unit × (Int × (Int × (Int × Unit)))) × (TKeymap × Unit)) => spec_LayersUsed_8_R x.1.1 x.1.2.1 x.1.2.2.1 x.1.2.2.2.1 x.2.1)
    m.2.1 (fun i u row => rowU u i row) (fun u k => (((), u, c, k, ()), (m, ()))) (fun u => .inl (((), u, c, ()), (m, ())))
    (fun _ u => 0 ≤ u ∧ u < 16) (by
      intro k hk u hu
      have hall : ∀ a ∈ m.2.1[k], okActB m.2.1.length k a = true := by
        intro a ha
        obtain ⟨j, hj, rfl⟩ := List.mem_iff_getElem.1 ha
        exact hm.act k hk j hj
      refine ⟨?_, (foldK_row (i := k) (by omega) _ 0 u hu hall).2⟩
      simp only [spec_LayersUsed_8_R]
      rw [dec_true (show (k : Int) < (m.2.1.length : Int) by omega), spec_used_in hm k hk u hu]
      rfl) (by
      intro u _
      simp only [spec_LayersUsed_8_R]
      rw [dec_false (by omega)]; rfl) (by omega) u hu

theorem spec_LayersUsed_ok (m : TKeymap) (hz : szT tKeymap m ≤ big20) : spec_LayersUsed m = some (cond (isKeymapB m) (usedI m) 0, ()) := by
  unfold spec_LayersUsed
  rw [spec_IsKeymap_ok m hz]
  cases hv : isKeymapB m with
  | false => rfl
  | true =>
    have hm := keymap_ok hv
    have hl2 := hm.l2
    have hl := (loopF_fold (step := fun x : ((Unit × (Int × (Int × Unit))) × (TKeymap × Unit)) => spec_LayersUsed_5_R x.1.1 x.1.2.1 x.1.2.2.1 x.2.1)
      m.2.1 (fun _ u (_ : List TAction) => midU u m.2.1) (fun u k => (((), u, k, ()), (m, ()))) (fun u => .inl ((u, ()), ())) (fun _ u => 0 ≤ u ∧ u < 16) (by
        intro k hk u hu
        have hmid := spec_used_mid hm u hu (k : Int)
        refine ⟨?_, hmid.2⟩
        simp only [spec_LayersUsed_5_R]
        rw [dec_true (show (k : Int) < (m.2.1.length : Int) by omega), hmid.1]
        rfl) (by
        intro u _
        simp only [spec_LayersUsed_5_R]
        rw [dec_false (by omega)]; rfl) (by omega) 1 (by omega)).1
    simp only [Option.bind_some, Bool.not_true, cond_false, cond_true]
    unfold spec_LayersUsed_5_loop
    erw [hl]
    rfl

theorem LayersUsed_same (m : TKeymap) (_ : Rng tKeymap m) (hz : szT tKeymap m ≤ big20) : ∃ w, spec_LayersUsed m = some (w, ()) ∧ impl_LayersUsed m = some (w, ()) :=
  ⟨_, spec_LayersUsed_ok m hz, impl_LayersUsed_ok m hz⟩
end KF

namespace KF
open Go
theorem foldK_inv {α S : Type} {g : Nat → S → α → S} {p : S → Prop} : ∀ (xs : List α) (k : Nat) (s : S), p s → (∀ j s x, x ∈ xs → p s → p (g j s x)) → p (foldK g k s xs)
  | [], _, _, h, _ => h
  | x :: r, k, s, h, hg => foldK_inv r (k + 1) (g k s x) (hg k s x (by simp) h) fun j s y hy => hg j s y (by simp [hy])
def On0 (u : Int) : Prop := (0 ≤ u ∧ u < 16) ∧ bitI u 0 = 1
theorem rowU_on {nl j i : Nat} : ∀ {row : List TAction} {u : Int}, On0 u → (∀ a ∈ row, okActB nl j a = true) → On0 (rowU u i row) := by
  have key : ∀ (row : List TAction) (u : Int), On0 u → (∀ a ∈ row, okActB nl j a = true) → On0 (row.foldl orU u) := by
    intro row
    induction row with
    | nil => intro u h _; exact h
    | cons a row ih =>
      intro u h ha
      have := or_ok (u := u) (nl := nl) (i := 0) (j := j) h.1 (by omega) (ha a (by simp))
      exact ih (orU u a) ⟨this.1, this.2 h.2⟩ fun x hx => ha x (by simp [hx])
  intro row u h ha
  unfold rowU
  cases (bitI u (i : Int) == 1) with
  | true => exact key row u h ha
  | false => exact h
theorem keymap_mem {m : TKeymap} (hm : KeymapOk m) {row : List TAction} (hr : row ∈ m.2.1) : ∃ j, ∀ a ∈ row, okActB m.2.1.length j a = true := by
  obtain ⟨j, hj, rfl⟩ := List.mem_iff_getElem.1 hr
  refine ⟨j, fun a ha => ?_⟩
  obtain ⟨k, hk, rfl⟩ := List.mem_iff_getElem.1 ha
  exact hm.act j hj k hk
theorem usedI_pos {m : TKeymap} (hm : KeymapOk m) : usedI m > 0 := by
  have h : On0 (usedI m) := by
    unfold usedI
    refine foldK_inv m.2.1 0 1 ⟨by omega, by decide⟩ fun _ u _ _ hu => ?_
    unfold midU
    refine foldK_inv m.2.1 0 u hu fun i u row hr hu => ?_
    obtain ⟨j, hj⟩ := keymap_mem hm hr
    exact rowU_on hu hj
  have h2 := h.2
  rcases Int.lt_or_eq_of_le h.1.1 with h3 | h3
  · exact h3
  · rw [← h3] at h2
    exact absurd h2 (by decide)

def passA : TAction := (1, 0, 0, 0, ())
def rowP (u : Int) (i : Nat) (row : List TAction) : List TAction := iter (fun k r => cond (bitI u (i : Int) == 0) (List.set r k passA) r) row.length row
def rowPk (u : Int) (i : Nat) (row : List TAction) (k : Nat) : List TAction := iter (fun k r => cond (bitI u (i : Int) == 0) (List.set r k passA) r) k row
theorem rowPk_len (u : Int) (i : Nat) (row : List TAction) : ∀ k, (rowPk u i row k).length = row.length :=
  iter_inv (p := fun _ (r : List TAction) => r.length = row.length) rfl (fun k s hs => by cases (bitI u (i : Int) == 0) <;> simpa using hs)
theorem rowP_len (u : Int) (i : Nat) (row : List TAction) : (rowP u i row).length = row.length := rowPk_len u i row row.length
theorem rowP_no {u : Int} {i : Nat} {row : List TAction} (h : (bitI u (i : Int) == 0) = false) : ∀ k, rowPk u i row k = row :=
  iter_inv (p := fun _ r => r = row) rfl (fun k s hs => by rw [h]; exact hs)
def zKm : TKeymap := (0, [], ())
theorem impl_prune_in (u keys n : Int) (i : Nat) (L : List (List TAction)) (row : List TAction) (hr : row.length ≤ 1048576) :
    impl_PruneKeymap_9_loop (((), (), u, (i : Int), row, (L, (i : Int), row, row), n, (i : Int), (row.length : Int), 0, ()), (zKm, (keys, (L, (i : Int), row, row), ()), ())) =
      some (.inl (((), (), u, (L, (i : Int), row, rowP u i row), n, (i : Int), ()), (zKm, (keys, (L, (i : Int), row, rowP u i row), ()), ()))) := by
  unfold impl_PruneKeymap_9_loop
  have := loopF_count (step := fun x : (Unit × Unit × Int × Int × List TAction × (List (List TAction) × Int × List TAction × List TAction) × Int × Int × Int × Int × Unit) × TKeymap × (Int × (List (List TAction) × Int × List TAction × List TAction) × Unit) × Unit =>
      impl_PruneKeymap_9_R x.1.1 x.1.2.1 x.1.2.2.1 x.1.2.2.2.1 x.1.2.2.2.2.1 x.1.2.2.2.2.2.1 x.1.2.2.2.2.2.2.1 x.1.2.2.2.2.2.2.2.1 x.1.2.2.2.2.2.2.2.2.1 x.1.2.2.2.2.2.2.2.2.2.1 x.2.1 x.2.2.1) row.length (by omega)
    (fun k r => cond (bitI u (i : Int) == 0) (List.set r k passA) r) row
    (fun r k => (((), (), u, (i : Int), r, (L, (i : Int), row, r), n, (i : Int), (row.length : Int), k, ()), (zKm, (keys, (L, (i : Int), row, r), ()), ())))
    (fun r => .inl (((), (), u, (L, (i : Int), row, r), n, (i : Int), ()), (zKm, (keys, (L, (i : Int), row, r), ()), ())))
    (fun k hk => by
      have hl := rowPk_len u i row k
      unfold rowPk at hl
      generalize iter (fun k r => cond (bitI u (i : Int) == 0) (List.set r k passA) r) k row = r at *
      simp only [impl_PruneKeymap_9_R]
      rw [dec_true (by omega), impl_bit_ok u (by omega)]
      simp only [cond_true, Option.bind_some]
      cases (bitI u (i : Int) == 0) with
      | false => rfl
      | true =>
        simp only [cond_true]
        rw [inb_nat, dec_true (by omega)]
        simp only [cond_true, Int.toNat_natCast, List.getElem?_eq_getElem (show k < r.length by omega), Option.bind_some]
        rfl) (by
      simp only [impl_PruneKeymap_9_R]
      rw [dec_false (by omega)]
      rfl)
  exact this
theorem spec_prune_in {m : TKeymap} {u : Int} {keys : Int} {i : Nat} {L : List (List TAction)} (hi : i < L.length) (hr : (L[i].length : Int) = m.1) (hk : m.1 ≤ 32) :
    spec_PruneKeymap_7_loop (((), (), (), u, (i : Int), 0, ()), (m, zKm, (keys, L, ()), ())) = some (.inl (((), (), (), u, (i : Int), ()), (m, zKm, (keys, List.set L i (rowP u i L[i]), ()), ()))) := by
  unfold spec_PruneKeymap_7_loop
  cases hb : (bitI u (i : Int) == 0) with
  | false =>
    have e : rowP u i L[i] = L[i] := rowP_no hb _
    rw [e, List.set_getElem_self]
    have : spec_PruneKeymap_7_R () () () u (i : Int) 0 m zKm (keys, L, ()) = some (.inr (.inl (((), (), (), u, (i : Int), ()), (m, zKm, (keys, L, ()), ())))) := by
      simp only [spec_PruneKeymap_7_R]
      rw [dec_true (show (0 : Int) ≤ (i : Int) by omega), show iand .i64 (ishr .i64 u (i : Int)) 1 = bitI u (i : Int) from rfl, hb]
      cases decide (0 < m.1) <;> rfl
    rw [loopF_of this]
    rfl
  | true =>
    have := loopF_count (step := fun x : (Unit × Unit × Unit × Int × Int × Int × Unit) × TKeymap × TKeymap × TKeymap × Unit =>
        spec_PruneKeymap_7_R x.1.1 x.1.2.1 x.1.2.2.1 x.1.2.2.2.1 x.1.2.2.2.2.1 x.1.2.2.2.2.2.1 x.2.1 x.2.2.1 x.2.2.2.1) L[i].length (by omega)
      (fun k r => cond (bitI u (i : Int) == 0) (List.set r k passA) r) L[i]
      (fun r k => (((), (), (), u, (i : Int), k, ()), (m, zKm, (keys, List.set L i r, ()), ())))
      (fun r => .inl (((), (), (), u, (i : Int), ()), (m, zKm, (keys, List.set L i r, ()), ())))
      (fun k hk => by
        have hl := rowPk_len u i L[i] k
        unfold rowPk at hl
        generalize iter (fun k r => cond (bitI u (i : Int) == 0) (List.set r k passA) r) k L[i] = r at *
        simp only [spec_PruneKeymap_7_R]
        rw [dec_true (show (k : Int) < m.1 by omega), dec_true (show (0 : Int) ≤ (i : Int) by omega), show iand .i64 (ishr .i64 u (i : Int)) 1 = bitI u (i : Int) from rfl, hb]
        simp only [cond_true]
        rw [inb_nat, dec_true (by rw [List.length_set]; exact hi)]
        simp only [cond_true, Int.toNat_natCast]
        rw [List.getElem?_set_self hi]
        simp only [Option.bind_some]
        rw [inb_nat, dec_true (by omega)]
        simp only [cond_true, List.getElem?_eq_getElem (show k < r.length by omega), Option.bind_some, List.set_set]
        rfl) (by
        simp only [spec_PruneKeymap_7_R]
        rw [dec_false (by omega)]
        rfl)
    rw [List.set_getElem_self] at this
    exact this
def pruneG (u : Int) (i : Nat) (L : List (List TAction)) : List (List TAction) := List.set L i (rowP u i (L.getD i []))
def PrInv (m : TKeymap) (L : List (List TAction)) : Prop := L.length = m.2.1.length ∧ ∀ i (hi : i < L.length), (L[i].length : Int) = m.1
theorem getD_lt {α : Type} {L : List α} {i : Nat} {z : α} (h : i < L.length) : L.getD i z = L[i] := by
  rw [List.getD_eq_getElem?_getD, List.getElem?_eq_getElem h]; rfl
theorem prune_inv {m : TKeymap} {u : Int} {i : Nat} {L : List (List TAction)} (h : PrInv m L) : PrInv m (pruneG u i L) := by
  unfold pruneG
  refine ⟨by rw [List.length_set]; exact h.1, fun j hj => ?_⟩
  have hj' : j < L.length := by rwa [List.length_set] at hj
  rw [List.getElem_set]
  split
  · rename_i e
    subst e
    rw [rowP_len, getD_lt hj']
    exact h.2 _ hj'
  · exact h.2 j hj'
theorem PruneKeymap_same (m : TKeymap) (_ : Rng tKeymap m) (hz : szT tKeymap m ≤ big20) : ∃ w, spec_PruneKeymap m = some (w, ()) ∧ impl_PruneKeymap m = some (w, ()) ∧ szT tKeymap w ≤ big20 := by
  have h20 : big20 = 1048576 := rfl
  unfold spec_PruneKeymap impl_PruneKeymap
  rw [spec_l6Copy_ok m hz, impl_copyKeymap_ok m hz, impl_IsKeymap_ok m hz, spec_LayersUsed_ok m hz, impl_LayersUsed_ok m hz]
  cases hv : isKeymapB m with
  | false =>
    refine ⟨m, ?_, rfl, hz⟩
    simp only [Option.bind_some, cond_false]
    have : spec_PruneKeymap_4_R () () () 0 0 m zKm m = some (.inr (.inl (((), (), ()), (zKm, m, ())))) := by
      simp only [spec_PruneKeymap_4_R]
      cases decide (0 < (m.2.1.length : Int)) <;> rfl
    unfold spec_PruneKeymap_4_loop
    show Option.bind (loopF _ (((), (), (), 0, 0, ()), (m, zKm, m, ()))) _ = _
    rw [loopF_of this]
    rfl
  | true =>
    have hm := keymap_ok hv
    have hu := usedI_pos hm
    have hl2 := hm.l2
    have hk2 := hm.k2
    have h0 : PrInv m m.2.1 := ⟨rfl, hm.row⟩
    have hinv : ∀ n, PrInv m (iter (pruneG (usedI m)) n m.2.1) := iter_inv (p := fun _ L => PrInv m L) h0 fun k s hs => prune_inv hs
    simp only [Option.bind_some, Bool.not_true, cond_false, cond_true]
    generalize usedI m = u at *
    have s1 := loopF_count (step := fun x : (Unit × Unit × Unit × Int × Int × Unit) × TKeymap × TKeymap × TKeymap × Unit => spec_PruneKeymap_4_R x.1.1 x.1.2.1 x.1.2.2.1 x.1.2.2.2.1 x.1.2.2.2.2.1 x.2.1 x.2.2.1 x.2.2.2.1) m.2.1.length (by omega)
      (pruneG u) m.2.1 (fun L k => (((), (), (), u, k, ()), (m, zKm, (m.1, L, ()), ()))) (fun L => .inl (((), (), ()), (zKm, (m.1, L, ()), ()))) (fun k hk => by
        have hI := hinv k
        generalize iter (pruneG u) k m.2.1 = L at *
        have hkL : k < L.length := by rw [hI.1]; exact hk
        simp only [spec_PruneKeymap_4_R]
        rw [dec_true (by omega), dec_true hu]
        simp only [cond_true]
        have := spec_prune_in (m := m) (u := u) (keys := m.1) hkL (hI.2 k hkL) hk2
        rw [show spec_PruneKeymap_7_loop (((), (), (), u, (k : Int), 0, ()), (m, (zKm.1, zKm.2.1, ()), (m.1, L, ()), ())) = _ from this]
        unfold pruneG
        rw [getD_lt hkL]
        rfl) (by
        simp only [spec_PruneKeymap_4_R]
        rw [dec_false (by omega)]
        rfl)
    have s2 := loopF_count (step := fun x : (Unit × Unit × Int × List (List TAction) × Int × Int × Unit) × TKeymap × TKeymap × Unit => impl_PruneKeymap_6_R x.1.1 x.1.2.1 x.1.2.2.1 x.1.2.2.2.1 x.1.2.2.2.2.1 x.1.2.2.2.2.2.1 x.2.1 x.2.2.1) m.2.1.length (by omega)
      (pruneG u) m.2.1 (fun L k => (((), (), u, L, (m.2.1.length : Int), k, ()), (zKm, (m.1, L, ()), ()))) (fun L => .inl (((), (), ()), (zKm, (m.1, L, ()), ()))) (fun k hk => by
        have hI := hinv k
        generalize iter (pruneG u) k m.2.1 = L at *
        have hkL : k < L.length := by rw [hI.1]; exact hk
        have hrow := hI.2 k hkL
        simp only [impl_PruneKeymap_6_R]
        rw [dec_true (by omega), inb_nat, dec_true hkL]
        simp only [cond_true, Int.toNat_natCast, List.getElem?_eq_getElem hkL, Option.bind_some]
        have := impl_prune_in u m.1 (m.2.1.length : Int) k L L[k] (by omega)
        rw [show impl_PruneKeymap_9_loop (((), (), u, (k : Int), L[k], (L, (k : Int), L[k], L[k]), (m.2.1.length : Int), (k : Int), (L[k].length : Int), 0, ()), ((zKm.1, zKm.2.1, ()), (m.1, (L, (k : Int), L[k], L[k]), ()), ())) = _ from this]
        unfold pruneG
        rw [getD_lt hkL]
        rfl) (by
        simp only [impl_PruneKeymap_6_R]
        rw [dec_false (by omega)]
        rfl)
    have hI := hinv m.2.1.length
    generalize iter (pruneG u) m.2.1.length m.2.1 = L at *
    refine ⟨(m.1, L, ()), ?_, ?_, ?_⟩
    · unfold spec_PruneKeymap_4_loop
      erw [s1]
      rfl
    · unfold impl_PruneKeymap_6_loop
      erw [s2]
      rfl
    · have h1 : szT tKeymap (m.1, L, ()) = 0 + (szT (.sl (.sl tAction)) L + 0) := rfl
      have h2 := sz_le (e := .sl tAction) (c := 32) (w := L) fun x hx => by
        obtain ⟨j, hj, rfl⟩ := List.mem_iff_getElem.1 hx
        have := hI.2 j hj
        rw [szActs]
        omega
      rw [hI.1] at h2
      have : 33 * m.2.1.length ≤ 33 * 4 := Nat.mul_le_mul_left _ hl2
      omega
end KF

namespace KF
open Go
theorem law_PruneKeymap (a0 : TKeymap) (hr0 : Rng tKeymap a0) : laws_FnExactPruneKeymap a0 = some (true, ()) := by
  have h20 : big20 = 1048576 := rfl
  have h40 : big40 = 1099511627776 := rfl
  unfold laws_FnExactPruneKeymap
  have s0 := szKeymap_ok a0 hr0 (1048576) (by omega)
  rw [show ((1048576 : Nat) : Int) = 1048576 from rfl] at s0
  rw [s0]
  simp only [Option.bind_some]
  by_cases z0 : szT tKeymap a0 ≤ 1048576
  case neg => rw [szR_gt z0]; rfl
  rw [szR_le z0, dec_false (by omega)]
  simp only [cond_false]
  have hz0 : szT tKeymap a0 ≤ big20 := by omega
  obtain ⟨w0, e1, e2, b0⟩ := PruneKeymap_same a0 hr0 hz0
  obtain ⟨x0, k0, g0, i0, m0, n0, _⟩ := markKeymap_ok a0 1 (by omega)
  rw [show ((1 : Nat) : Int) = 1 from rfl] at m0 n0
  have d0 : decide ((k0 : Int) < 0) = false := dec_false (by omega)
  obtain ⟨x1, k1, g1, i1, m1, n1, f1⟩ := markKeymap_ok w0 1 (by omega)
  simp only [kf, true_and, and_true] at f1
  have q1 : ((w0.1, x1.2.1, ()) : TKeymap) = x1 := by simp only [Prod.ext_iff, f1, and_self]
  rw [show ((1 : Nat) : Int) = 1 from rfl] at m1 n1
  have d1 : decide ((k1 : Int) < 0) = false := dec_false (by omega)
  simp only [e1, e2, toKeymap_ok a0 hz0, eqKeymap_ok a0 (by omega), eqKeymap_ok w0 (by omega), m0, d0, q1, m1, d1, n1, Option.bind_some, bne_self_eq_false', Bool.not_true, cond_false]
end KF
