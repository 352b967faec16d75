/- Plain lemmas on loops, lists and numbers (conditions: as each lemma tells). -/
import Derived.Test.YtoncbegnhhcgmaaGreatCb
import Derived.IntWalk
set_option linter.unusedSimpArgs false
set_option linter.unusedVariables false
namespace KF
open Go

/-! ### Loops over a list, told plainly -/
def foldE {α S R : Type} (g : Nat → S → α → S ⊕ R) : Nat → S → List α → S ⊕ R
  | _, s, [] => .inl s
  | k, s, x :: xs => match g k s x with
    | .inl s' => foldE g (k + 1) s' xs
    | .inr r => .inr r

section
variable {X R : Type} {step : X → Option (X ⊕ R)}

theorem loopF_of {x : X} {z : Option (X ⊕ R)} (h : step x = z) : loopF step x = z.bind (Sum.elim (loopF step) some) := by
  rw [loopF_step, h]

theorem loopF_foldE {α S R' : Type} (xs : List α) (g : Nat → S → α → S ⊕ R') (I : Nat → S → X) (out : S → R) (ex : R' → R) (Inv : Nat → S → Prop)
    (h : ∀ k (hk : k < xs.length) s, Inv k s → step (I k s) = some (match g k s xs[k] with | .inl s' => .inl (I (k + 1) s') | .inr r => .inr (ex r)) ∧ ∀ s', g k s xs[k] = .inl s' → Inv (k + 1) s')
    (he : ∀ s, Inv xs.length s → step (I xs.length s) = some (.inr (out s))) (s0 : S) (h0 : Inv 0 s0) :
    loopF step (I 0 s0) = some (match foldE g 0 s0 xs with | .inl s => out s | .inr r => ex r) := by
  have key : ∀ (ys : List α) (k : Nat) (s : S), xs.drop k = ys → k ≤ xs.length → Inv k s → loopF step (I k s) = some (match foldE g k s ys with | .inl s => out s | .inr r => ex r) := by
    intro ys
    induction ys with
    | nil =>
      intro k s hd hle hi
      have : k = xs.length := by
        have := congrArg List.length hd
        simp at this
        omega
      subst this
      rw [loopF_of (he s hi)]
      rfl
    | cons y ys ih =>
      intro k s hd hle hi
      have hk : k < xs.length := by
        have := congrArg List.length hd
        simp at this
        omega
      have hy : xs[k] = y := by
        have := congrArg (·[0]?) hd
        simp [List.getElem?_drop, List.getElem?_eq_getElem hk] at this
        exact this
      obtain ⟨h1, h2⟩ := h k hk s hi
      rw [loopF_of h1]
      rw [hy] at h2 ⊢
      simp only [foldE]
      cases hg : g k s y with
      | inl s' =>
        simp only [Option.bind_some, Sum.elim_inl]
        refine ih (k + 1) s' ?_ hk (h2 s' hg)
        rw [← List.drop_drop, hd]
        rfl
      | inr r => rfl
  exact key xs 0 s0 rfl (Nat.zero_le _) h0

/-- a loop that goes on n times -/
theorem loopF_run (I : Nat → X) (n : Nat) (out : R) (h : ∀ k, k < n → step (I k) = some (.inl (I (k + 1)))) (he : step (I n) = some (.inr out)) : loopF step (I 0) = some out := by
  have key : ∀ m k, m + k = n → loopF step (I k) = some out := by
    intro m
    induction m with
    | zero =>
      intro k hk
      have : k = n := by omega
      subst this
      rw [loopF_of he]; rfl
    | succ m ih =>
      intro k hk
      rw [loopF_of (h k (by omega))]
      exact ih (k + 1) (by omega)
  exact key n 0 (by omega)
end

/-! ### Numbers -/
theorem wrap64 {n : Int} (h1 : -9223372036854775808 ≤ n) (h2 : n ≤ 9223372036854775807) : IntKind.wrap .i64 n = n := IntWalk.i64_in n ⟨h1, h2⟩
theorem wrap_succ {k : Nat} (h : k < 9223372036854775807) : IntKind.wrap .i64 ((k : Int) + 1) = ((k + 1 : Nat) : Int) := by
  rw [wrap64 (by omega) (by omega)]; omega
theorem wrap8 {n : Int} (h1 : 0 ≤ n) (h2 : n ≤ 255) : IntKind.wrap .u8 n = n := IntWalk.u8_in n ⟨h1, h2⟩

/-! ### Lists -/
section
variable {α : Type}
theorem idx_nat (xs : List α) (k : Nat) : idx xs (k : Int) = xs[k]? := by simp [idx]
theorem idx_lt {xs : List α} {k : Nat} (h : k < xs.length) : idx xs (k : Int) = some xs[k] := by rw [idx_nat, List.getElem?_eq_getElem h]
theorem idx_zero (x : α) (xs : List α) : idx (x :: xs) 0 = some x := rfl
theorem idx_at {xs : List α} {i : Int} {k : Nat} (hi : i = (k : Int)) (h : k < xs.length) : idx xs i = some xs[k] := by rw [hi, idx_lt h]
theorem inb_nat (n k : Nat) : inb n (k : Int) = decide (k < n) := by
  simp [inb]
theorem dec_true {p : Prop} [Decidable p] (h : p) : decide p = true := decide_eq_true h
theorem dec_false {p : Prop} [Decidable p] (h : ¬ p) : decide p = false := decide_eq_false h
theorem take_snoc {xs : List α} {k : Nat} (h : k < xs.length) : xs.take (k + 1) = xs.take k ++ [xs[k]] := by
  rw [List.take_succ_eq_append_getElem h]
end

/-! ### Choices -/
theorem cond_true' {α : Type} {b : Bool} {x y : α} (h : b = true) : cond b x y = x := by rw [h]; rfl
theorem cond_false' {α : Type} {b : Bool} {x y : α} (h : b = false) : cond b x y = y := by rw [h]; rfl

/-- a slice that is made, and filled cell by cell -/
theorem set_fill {α : Type} {xs : List α} {z : α} {k : Nat} (h : k < xs.length) : (xs.take k ++ List.replicate (xs.length - k) z).set k xs[k] = xs.take (k + 1) ++ List.replicate (xs.length - (k + 1)) z := by
  have h1 : (xs.take k).length = k := by simp; omega
  rw [List.set_append_right _ _ (by omega), h1, Nat.sub_self, show xs.length - k = (xs.length - (k + 1)) + 1 by omega, List.replicate_succ, List.set_cons_zero, take_snoc h, List.append_assoc]
  rfl
theorem fill_len {α : Type} {xs : List α} {z : α} {k : Nat} (h : k ≤ xs.length) : (xs.take k ++ List.replicate (xs.length - k) z).length = xs.length := by
  simp; omega
theorem fill_get {α : Type} {xs : List α} {z : α} {k : Nat} (h : k < xs.length) : ∃ y, (xs.take k ++ List.replicate (xs.length - k) z)[k]? = some y :=
  ⟨_, List.getElem?_eq_getElem (by rw [fill_len (by omega)]; exact h)⟩

/-- make, then fill: a copy -/
theorem copy_loop {α R : Type} {X : Type} {step : X → Option (X ⊕ R)} (xs : List α) (z : α) (I : List α → Int → X) (out : List α → R)
    (h : ∀ k (hk : k < xs.length) (o : List α), o.length = xs.length → step (I o (k : Int)) = some (.inl (I (o.set k xs[k]) (IntKind.wrap .i64 ((k : Int) + 1)))))
    (he : ∀ o, step (I o (xs.length : Int)) = some (.inr (out o))) (hn : xs.length < 9223372036854775807) :
    loopF step (I (List.replicate xs.length z) 0) = some (out xs) := by
  have := loopF_run (step := step) (fun k => I (xs.take k ++ List.replicate (xs.length - k) z) (k : Int)) xs.length (out xs) (fun k hk => by
    rw [h k hk _ (fill_len (by omega)), set_fill hk, wrap_succ (by omega)]) (by
    rw [List.take_length, Nat.sub_self]
    simpa using he xs)
  simpa using this
theorem make_ok {n : Nat} (h : n ≤ lim) : (((n : Int) == (n : Int)) && (decide ((0 : Int) ≤ (n : Int)) && decide ((n : Int) ≤ ((lim : Nat) : Int)))) = true := by
  simp only [beq_self_eq_true, Bool.true_and, Bool.and_eq_true, decide_eq_true_eq]
  omega
theorem lim_eq : lim = 1073741824 := rfl

/-! ### How much memory a datum takes, as the laws count it -/
def szT : (τ : Ty) → T τ → Nat
  | .i _, _ => 0
  | .b, _ => 0
  | .o, _ => 0
  | .s, x => List.length x
  | .sl e, xs => List.length xs + (List.map (szT e) xs).sum
  | .u, _ => 0
  | .p a c, v => szT a v.1 + szT c v.2

/-- has a string -/
def Ty.hasS : Ty → Bool
  | .s => true
  | .sl e => e.hasS
  | .p x y => x.hasS || y.hasS
  | _ => false
def big20 : Nat := 1048576
theorem sum_map_le {α : Type} {f : α → Nat} {xs : List α} {k : Nat} (hk : k < xs.length) : f xs[k] ≤ (xs.map f).sum := by
  induction xs generalizing k with
  | nil => simp at hk
  | cons x xs ih =>
    cases k with
    | zero => simp
    | succ k =>
      have := ih (k := k) (by simpa using hk)
      simp only [List.getElem_cons_succ, List.map_cons, List.sum_cons]
      omega

/-- what the laws' functions of size answer -/
def szR (n l : Nat) : Int := if n ≤ l then ((l - n : Nat) : Int) else -1
theorem szR_le {n l : Nat} (h : n ≤ l) : szR n l = ((l - n : Nat) : Int) := if_pos h
theorem szR_gt {n l : Nat} (h : ¬ n ≤ l) : szR n l = -1 := if_neg h

theorem sz_loop {α X R : Type} {step : X → Option (X ⊕ R)} (xs : List α) (n : α → Nat) (I : Int → Int → X) (yes : Int → R) (no : R)
    (h : ∀ k (hk : k < xs.length) (l : Nat), l ≤ big20 → step (I (l : Int) (k : Int)) = some (if n xs[k] ≤ l then .inl (I ((l - n xs[k] : Nat) : Int) (IntKind.wrap .i64 ((k : Int) + 1))) else .inr no))
    (he : ∀ l : Nat, step (I (l : Int) (xs.length : Int)) = some (.inr (yes (l : Int)))) (hn : xs.length < 9223372036854775807) (l : Nat) (hl : l ≤ big20) :
    loopF step (I (l : Int) 0) = some (if (xs.map n).sum ≤ l then yes ((l - (xs.map n).sum : Nat) : Int) else no) := by
  have key : ∀ (ys : List α) (k l : Nat), xs.drop k = ys → k ≤ xs.length → l ≤ big20 → loopF step (I (l : Int) (k : Int)) = some (if (ys.map n).sum ≤ l then yes ((l - (ys.map n).sum : Nat) : Int) else no) := by
    intro ys
    induction ys with
    | nil =>
      intro k l hd hle hi
      have : k = xs.length := by
        have := congrArg List.length hd
        simp at this
        omega
      subst this
      rw [loopF_of (he l)]
      simp
    | cons y ys ih =>
      intro k l hd hle hi
      have hk : k < xs.length := by
        have := congrArg List.length hd
        simp at this
        omega
      have hy : xs[k] = y := by
        have := congrArg (·[0]?) hd
        simp [List.getElem?_drop, List.getElem?_eq_getElem hk] at this
        exact this
      have hd' : xs.drop (k + 1) = ys := by rw [← List.drop_drop, hd]; rfl
      rw [loopF_of (h k hk l hi), hy]
      simp only [List.map_cons, List.sum_cons]
      by_cases hc : n y ≤ l
      · simp only [hc, if_true, Option.bind_some, Sum.elim_inl]
        rw [wrap_succ (by omega), ih (k + 1) (l - n y) hd' hk (by omega)]
        by_cases hc2 : (ys.map n).sum ≤ l - n y
        · rw [if_pos hc2, if_pos (by omega)]
          congr 3
          omega
        · rw [if_neg hc2, if_neg (by omega)]
      · rw [if_neg hc, if_neg (by omega)]
        rfl
  have := key xs 0 l rfl (Nat.zero_le _) hl
  simpa using this
theorem szT_zero : ∀ {τ : Ty} (_ : (τ.flat && !τ.hasS) = true) {x : T τ}, szT τ x = 0
  | .i _, _, _ => rfl
  | .b, _, _ => rfl
  | .o, _, _ => rfl
  | .s, h, _ => by simp [Ty.hasS] at h
  | .sl _, h, _ => by simp [Ty.flat] at h
  | .u, _, _ => rfl
  | .p a c, h, x => by
    simp only [Ty.flat, Ty.hasS, Bool.and_eq_true, Bool.not_eq_true', Bool.or_eq_false_iff] at h
    simp only [szT]
    rw [szT_zero (τ := a) (by simp [h.1.1, h.2.1]), szT_zero (τ := c) (by simp [h.1.2, h.2.2])]
theorem szT_flat {e : Ty} (h : (e.flat && !e.hasS) = true) (xs : List (T e)) : szT (.sl e) xs = List.length xs := by
  simp only [szT]
  have : List.map (szT e) xs = List.replicate xs.length 0 := by
    apply List.ext_getElem
    · simp
    · intro i h1 h2
      simp [szT_zero h]
  rw [this]
  simp

/-! ### Booleans out of choices -/
theorem cond_some {α : Type} (b : Bool) (x y : α) : cond b (some x) (some y) = some (cond b x y) := by cases b <;> rfl
theorem cond_unit {α : Type} (b : Bool) (x y : α) : cond b (x, ()) (y, ()) = (cond b x y, ()) := by cases b <;> rfl
theorem cond_iff (b x y : Bool) : (cond b x y = true) ↔ ((b = true ∧ x = true) ∨ (¬ b = true ∧ y = true)) := by cases b <;> simp
theorem not_iff (b : Bool) : ((!b) = true) ↔ ¬ b = true := by cases b <;> simp
theorem bool_eq {a b : Bool} (h : a = true ↔ b = true) : a = b := Bool.eq_iff_iff.2 h
theorem some_unit {a b : Bool} (h : a = true ↔ b = true) : some (a, ()) = some (b, ()) := by rw [bool_eq h]
theorem beq_iff' (a b : Int) : ((a == b) = true) ↔ a = b := by simp
theorem bne_iff' (a b : Int) : ((a != b) = true) ↔ ¬ a = b := by simp
theorem false_iff' : (false = true) ↔ False := by simp
theorem true_iff' : (true = true) ↔ True := by simp

/-! ### Loops that look whether all is right -/
def allK {α : Type} (p : Nat → α → Bool) : Nat → List α → Bool
  | _, [] => true
  | k, x :: xs => p k x && allK p (k + 1) xs

theorem loopF_all {X R : Type} {step : X → Option (X ⊕ R)} {α : Type} (xs : List α) (p : Nat → α → Bool) (I : Int → X) (yes no : R)
    (h : ∀ k (hk : k < xs.length), step (I (k : Int)) = some (cond (p k xs[k]) (.inl (I (IntKind.wrap .i64 ((k : Int) + 1)))) (.inr no)))
    (he : step (I (xs.length : Int)) = some (.inr yes)) (hn : xs.length < 9223372036854775807) :
    loopF step (I 0) = some (cond (allK p 0 xs) yes no) := by
  have key : ∀ (ys : List α) (k : Nat), xs.drop k = ys → k ≤ xs.length → loopF step (I (k : Int)) = some (cond (allK p k ys) yes no) := by
    intro ys
    induction ys with
    | nil =>
      intro k hd hle
      have : k = xs.length := by
        have := congrArg List.length hd
        simp at this
        omega
      subst this
      rw [loopF_of he]
      rfl
    | cons y ys ih =>
      intro k hd hle
      have hk : k < xs.length := by
        have := congrArg List.length hd
        simp at this
        omega
      have hy : xs[k] = y := by
        have := congrArg (·[0]?) hd
        simp [List.getElem?_drop, List.getElem?_eq_getElem hk] at this
        exact this
      have hd' : xs.drop (k + 1) = ys := by rw [← List.drop_drop, hd]; rfl
      rw [loopF_of (h k hk), hy]
      simp only [allK]
      cases hc : p k y with
      | true =>
        simp only [cond_true, Bool.true_and, Option.bind_some, Sum.elim_inl]
        rw [← ih (k + 1) hd' hk, wrap_succ (by omega)]
      | false => rfl
  have := key xs 0 rfl (Nat.zero_le _)
  simpa using this

theorem allK_congr {α : Type} {p q : Nat → α → Bool} : ∀ {xs : List α} {k : Nat}, (∀ j x, x ∈ xs → p j x = q j x) → allK p k xs = allK q k xs
  | [], _, _ => rfl
  | x :: xs, k, h => by simp only [allK]; rw [h k x (by simp), allK_congr fun j y hy => h j y (by simp [hy])]
theorem allK_true {α : Type} {p : Nat → α → Bool} : ∀ {xs : List α} {k : Nat}, allK p k xs = true ↔ ∀ j (hj : j < xs.length), p (k + j) xs[j] = true
  | [], _ => by simp [allK]
  | x :: xs, k => by
    simp only [allK, Bool.and_eq_true, allK_true (xs := xs)]
    constructor
    · rintro ⟨h1, h2⟩ j hj
      cases j with
      | zero => exact h1
      | succ j => simpa [Nat.add_assoc, Nat.add_comm 1 j] using h2 j (by simpa using hj)
    · intro h
      refine ⟨h 0 (by simp), fun j hj => ?_⟩
      have := h (j + 1) (by simpa using hj)
      rw [Nat.add_assoc, Nat.add_comm 1 j]
      exact this
theorem elim_cond {α β γ : Type} (b : Bool) (x : α) (y : β) (f : α → γ) (g : β → γ) : Sum.elim f g (cond b (.inl x) (.inr y)) = cond b (f x) (g y) := by cases b <;> rfl

/-! ### Loops that carry something along -/
def foldK {α S : Type} (g : Nat → S → α → S) : Nat → S → List α → S
  | _, s, [] => s
  | k, s, x :: xs => foldK g (k + 1) (g k s x) xs

theorem drop_cons {α : Type} {xs ys : List α} {y : α} {k : Nat} (hd : xs.drop k = y :: ys) : ∃ hk : k < xs.length, xs[k] = y ∧ xs.drop (k + 1) = ys := by
  have hk : k < xs.length := by
    have := congrArg List.length hd
    simp at this
    omega
  refine ⟨hk, ?_, by rw [← List.drop_drop, hd]; rfl⟩
  have := congrArg (·[0]?) hd
  simp [List.getElem?_drop, List.getElem?_eq_getElem hk] at this
  exact this
theorem drop_nil {α : Type} {xs : List α} {k : Nat} (hd : xs.drop k = []) (hk : k ≤ xs.length) : k = xs.length := by
  have := congrArg List.length hd
  simp at this
  omega

theorem loopF_fold {X R : Type} {step : X → Option (X ⊕ R)} {α S : Type} (xs : List α) (g : Nat → S → α → S) (I : S → Int → X) (out : S → R) (Inv : Nat → S → Prop)
    (h : ∀ k (hk : k < xs.length) s, Inv k s → step (I s (k : Int)) = some (.inl (I (g k s xs[k]) (IntKind.wrap .i64 ((k : Int) + 1)))) ∧ Inv (k + 1) (g k s xs[k]))
    (he : ∀ s, Inv xs.length s → step (I s (xs.length : Int)) = some (.inr (out s))) (hn : xs.length < 9223372036854775807) (s0 : S) (h0 : Inv 0 s0) :
    loopF step (I s0 0) = some (out (foldK g 0 s0 xs)) ∧ Inv xs.length (foldK g 0 s0 xs) := by
  have key : ∀ (ys : List α) (k : Nat) (s : S), xs.drop k = ys → k ≤ xs.length → Inv k s → loopF step (I s (k : Int)) = some (out (foldK g k s ys)) ∧ Inv xs.length (foldK g k s ys) := by
    intro ys
    induction ys with
    | nil =>
      intro k s hd hle hi
      have := drop_nil hd hle
      subst this
      rw [loopF_of (he s hi)]
      exact ⟨rfl, hi⟩
    | cons y ys ih =>
      intro k s hd hle hi
      obtain ⟨hk, hy, hd'⟩ := drop_cons hd
      obtain ⟨h1, h2⟩ := h k hk s hi
      rw [loopF_of h1, hy, wrap_succ (by omega)]
      rw [hy] at h2
      exact ih (k + 1) _ hd' hk h2
  have := key xs 0 s0 rfl (Nat.zero_le _) h0
  simpa using this

/-- with an end ahead of time -/
theorem loopF_foldX {X R : Type} {step : X → Option (X ⊕ R)} {α S R' : Type} (xs : List α) (g : Nat → S → α → S ⊕ R') (I : S → Int → X) (out : S → R) (ex : R' → R) (Inv : Nat → S → Prop)
    (h : ∀ k (hk : k < xs.length) s, Inv k s → step (I s (k : Int)) = some (match g k s xs[k] with | .inl s' => .inl (I s' (IntKind.wrap .i64 ((k : Int) + 1))) | .inr r => .inr (ex r)) ∧ ∀ s', g k s xs[k] = .inl s' → Inv (k + 1) s')
    (he : ∀ s, Inv xs.length s → step (I s (xs.length : Int)) = some (.inr (out s))) (hn : xs.length < 9223372036854775807) (s0 : S) (h0 : Inv 0 s0) :
    loopF step (I s0 0) = some (match foldE g 0 s0 xs with | .inl s => out s | .inr r => ex r) := by
  have := loopF_foldE (step := step) xs g (fun k s => I s (k : Int)) out ex Inv (fun k hk s hi => by
    obtain ⟨h1, h2⟩ := h k hk s hi
    refine ⟨?_, h2⟩
    rw [h1, wrap_succ (by omega)]) he s0 h0
  simpa using this

/-! ### Marks: what is written into a result is found there -/
theorem mark_held {X R X' R' : Type} {stepM : X → Option (X ⊕ R)} {stepH : X' → Option (X' ⊕ R')} {α : Type} (c : α → Nat) (B : Nat) (IM : List α → Int → Int → X) (outM : List α → Int → R) (IH : List α → Int → Int → X') (outH : List α → Int → R')
    (h : ∀ (o : List α) (k i : Nat) (hi : i < o.length), k + c o[i] ≤ B → ∃ x' k', k ≤ k' ∧ k' ≤ k + c o[i] ∧
      stepM (IM o (k : Int) (i : Int)) = some (.inl (IM (o.set i x') (k' : Int) (IntKind.wrap .i64 ((i : Int) + 1)))) ∧
      ∀ (o2 : List α) (hi2 : i < o2.length), o2[i] = x' → stepH (IH o2 (k : Int) (i : Int)) = some (.inl (IH o2 (k' : Int) (IntKind.wrap .i64 ((i : Int) + 1)))))
    (heM : ∀ (o : List α) (k : Nat), stepM (IM o (k : Int) (o.length : Int)) = some (.inr (outM o (k : Int))))
    (heH : ∀ (o : List α) (k : Nat), stepH (IH o (k : Int) (o.length : Int)) = some (.inr (outH o (k : Int))))
    (xs : List α) (k : Nat) (hB : k + (xs.map c).sum ≤ B) (hn : xs.length < 9223372036854775807) :
    ∃ (o : List α) (k' : Nat), k ≤ k' ∧ k' ≤ k + (xs.map c).sum ∧ o.length = xs.length ∧ loopF stepM (IM xs (k : Int) 0) = some (outM o (k' : Int)) ∧ loopF stepH (IH o (k : Int) 0) = some (outH o (k' : Int)) := by
  have key : ∀ (m i k : Nat) (o : List α), o.length = xs.length → m + i = xs.length → k + ((o.drop i).map c).sum ≤ B →
      ∃ (o' : List α) (k' : Nat), k ≤ k' ∧ k' ≤ k + ((o.drop i).map c).sum ∧ o'.length = xs.length ∧ o'.take i = o.take i ∧ loopF stepM (IM o (k : Int) (i : Int)) = some (outM o' (k' : Int)) ∧ loopF stepH (IH o' (k : Int) (i : Int)) = some (outH o' (k' : Int)) := by
    intro m
    induction m with
    | zero =>
      intro i k o ho hm hk
      have : i = o.length := by omega
      subst this
      refine ⟨o, k, Nat.le_refl _, by omega, ho, rfl, ?_, ?_⟩
      · rw [loopF_of (heM o k)]; rfl
      · rw [loopF_of (heH o k)]; rfl
    | succ m ih =>
      intro i k o ho hm hk
      have hi : i < o.length := by omega
      have hdrop : o.drop i = o[i] :: o.drop (i + 1) := List.drop_eq_getElem_cons hi
      rw [hdrop, List.map_cons, List.sum_cons] at hk ⊢
      obtain ⟨x', k1, h1, h2, h3, h4⟩ := h o k i hi (by omega)
      have hd1 : (o.set i x').drop (i + 1) = o.drop (i + 1) := by
        rw [List.drop_set]
        simp
      obtain ⟨o', k', g1, g2, g3, g4, g5, g6⟩ := ih (i + 1) k1 (o.set i x') (by simpa using ho) (by omega) (by rw [hd1]; omega)
      rw [hd1] at g2
      have ht : o'.take i = o.take i := by
        have := congrArg (List.take i) g4
        rw [List.take_take, List.take_take, Nat.min_eq_left (by omega), List.take_set_of_le (Nat.le_refl _)] at this
        exact this
      have hx : o'[i]'(by omega) = x' := by
        have := congrArg (·[i]?) g4
        simp [List.getElem?_eq_getElem (show i < o'.length by omega), hi] at this
        exact this
      refine ⟨o', k', by omega, by omega, g3, ht, ?_, ?_⟩
      · rw [loopF_of h3, wrap_succ (by omega)]
        exact g5
      · rw [loopF_of (h4 o' (by omega) hx), wrap_succ (by omega)]
        exact g6
  obtain ⟨o, k', h1, h2, h3, _, h5, h6⟩ := key xs.length 0 k xs rfl rfl (by simpa using hB)
  exact ⟨o, k', h1, by simpa using h2, h3, by simpa using h5, by simpa using h6⟩

def big40 : Nat := 1099511627776
theorem sum8 (e : Ty) (xs : List (T e)) : (List.map (fun x => 8 + 8 * szT e x) xs).sum = 8 * szT (.sl e) xs := by
  simp only [szT]
  induction xs with
  | nil => rfl
  | cons x xs ih =>
    simp only [List.map_cons, List.sum_cons, List.length_cons] at ih ⊢
    omega
theorem z3 : ((3 : Int) == 0) = false := rfl

/-! ### Parts of lists -/
theorem cutOk_nat {n lo hi : Nat} (h1 : lo ≤ hi) (h2 : hi ≤ n) : cutOk n (lo : Int) (hi : Int) = true := by
  simp [cutOk]; omega
theorem idx_cutl {α : Type} {w : List α} {lo hi j : Nat} (h : lo + j < hi) (h2 : hi ≤ w.length) : idx (cutl w lo hi) (j : Int) = some (w[lo + j]'(by omega)) := by
  have hl : j < (cutl w lo hi).length := by simp [cutl]; omega
  rw [idx_lt hl]
  simp [cutl]
/-- the flat parts are the same -/
def kf : (τ : Ty) → T τ → T τ → Prop
  | .sl _, _, _ => True
  | .p x y, a, c => kf x a.1 c.1 ∧ kf y a.2 c.2
  | .i _, a, c => a = c
  | .b, a, c => a = c
  | .o, a, c => a = c
  | .s, a, c => a = c
  | .u, a, c => a = c
theorem kf_refl : ∀ (τ : Ty) (a : T τ), kf τ a a
  | .sl _, _ => trivial
  | .p x y, a => ⟨kf_refl x a.1, kf_refl y a.2⟩
  | .i _, _ => rfl
  | .b, _ => rfl
  | .o, _ => rfl
  | .s, _ => rfl
  | .u, _ => rfl
end KF
