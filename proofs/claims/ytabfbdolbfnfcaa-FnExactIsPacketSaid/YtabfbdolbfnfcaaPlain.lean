/- Laws on the plain functions (conditions: as each lemma tells). -/
import Derived.Test.YtabfbdolbfnfcaaCb
import Derived.IntWalk
import Derived.Test.YtabfbdolbfnfcaaFns
namespace KF
open Go

/-! ### Loops over a list, told plainly -/
def foldE {α S R : Type} (g : Nat → S → α → S ⊕ R) : Nat → S → List α → S ⊕ R
  | _, s, [] => .inl s
  | k, s, x :: xs => match g k s x with
    | .inl s' => foldE g (k + 1) s' xs
    | .inr r => .inr r

section
variable {X R : Type} {step : X → Option (X ⊕ R)}

theorem loopF_of {x : X} {z : Option (X ⊕ R)} (h : step x = z) : loopF step x = z.bind (Sum.elim (loopF step) some) := by
  rw [loopF_step, h]

theorem loopF_foldE {α S R' : Type} (xs : List α) (g : Nat → S → α → S ⊕ R') (I : Nat → S → X) (out : S → R) (ex : R' → R) (Inv : Nat → S → Prop)
    (h : ∀ k (hk : k < xs.length) s, Inv k s → step (I k s) = some (match g k s xs[k] with | .inl s' => .inl (I (k + 1) s') | .inr r => .inr (ex r)) ∧ ∀ s', g k s xs[k] = .inl s' → Inv (k + 1) s')
    (he : ∀ s, Inv xs.length s → step (I xs.length s) = some (.inr (out s))) (s0 : S) (h0 : Inv 0 s0) :
    loopF step (I 0 s0) = some (match foldE g 0 s0 xs with | .inl s => out s | .inr r => ex r) := by
  have key : ∀ (ys : List α) (k : Nat) (s : S), xs.drop k = ys → k ≤ xs.length → Inv k s → loopF step (I k s) = some (match foldE g k s ys with | .inl s => out s | .inr r => ex r) := by
    intro ys
    induction ys with
    | nil =>
      intro k s hd hle hi
      have : k = xs.length := by
        have := congrArg List.length hd
        simp at this
        omega
      subst this
      rw [loopF_of (he s hi)]
      rfl
    | cons y ys ih =>
      intro k s hd hle hi
      have hk : k < xs.length := by
        have := congrArg List.length hd
        simp at this
        omega
      have hy : xs[k] = y := by
        have := congrArg (·[0]?) hd
        simp [List.getElem?_drop, List.getElem?_eq_getElem hk] at this
        exact this
      obtain ⟨h1, h2⟩ := h k hk s hi
      rw [loopF_of h1]
      rw [hy] at h2 ⊢
      simp only [foldE]
      cases hg : g k s y with
      | inl s' =>
        simp only [Option.bind_some, Sum.elim_inl]
        refine ih (k + 1) s' ?_ hk (h2 s' hg)
        rw [← List.drop_drop, hd]
        rfl
      | inr r => rfl
  exact key xs 0 s0 rfl (Nat.zero_le _) h0

/-- a loop that goes on n times -/
theorem loopF_run (I : Nat → X) (n : Nat) (out : R) (h : ∀ k, k < n → step (I k) = some (.inl (I (k + 1)))) (he : step (I n) = some (.inr out)) : loopF step (I 0) = some out := by
  have key : ∀ m k, m + k = n → loopF step (I k) = some out := by
    intro m
    induction m with
    | zero =>
      intro k hk
      have : k = n := by omega
      subst this
      rw [loopF_of he]; rfl
    | succ m ih =>
      intro k hk
      rw [loopF_of (h k (by omega))]
      exact ih (k + 1) (by omega)
  exact key n 0 (by omega)
end

/-! ### Numbers -/
theorem wrap64 {n : Int} (h1 : -9223372036854775808 ≤ n) (h2 : n ≤ 9223372036854775807) : IntKind.wrap .i64 n = n := IntWalk.i64_in n ⟨h1, h2⟩
theorem wrap_succ {k : Nat} (h : k < 9223372036854775807) : IntKind.wrap .i64 ((k : Int) + 1) = ((k + 1 : Nat) : Int) := by
  rw [wrap64 (by omega) (by omega)]; omega
theorem wrap8 {n : Int} (h1 : 0 ≤ n) (h2 : n ≤ 255) : IntKind.wrap .u8 n = n := IntWalk.u8_in n ⟨h1, h2⟩

/-! ### Lists -/
section
variable {α : Type}
theorem idx_nat (xs : List α) (k : Nat) : idx xs (k : Int) = xs[k]? := by simp [idx]
theorem idx_lt {xs : List α} {k : Nat} (h : k < xs.length) : idx xs (k : Int) = some xs[k] := by rw [idx_nat, List.getElem?_eq_getElem h]
theorem idx_zero (x : α) (xs : List α) : idx (x :: xs) 0 = some x := rfl
theorem idx_at {xs : List α} {i : Int} {k : Nat} (hi : i = (k : Int)) (h : k < xs.length) : idx xs i = some xs[k] := by rw [hi, idx_lt h]
theorem inb_nat (n k : Nat) : inb n (k : Int) = decide (k < n) := by
  simp [inb]
theorem dec_true {p : Prop} [Decidable p] (h : p) : decide p = true := decide_eq_true h
theorem dec_false {p : Prop} [Decidable p] (h : ¬ p) : decide p = false := decide_eq_false h
theorem take_snoc {xs : List α} {k : Nat} (h : k < xs.length) : xs.take (k + 1) = xs.take k ++ [xs[k]] := by
  rw [List.take_succ_eq_append_getElem h]
end

/-! ### Choices -/
theorem cond_true' {α : Type} {b : Bool} {x y : α} (h : b = true) : cond b x y = x := by rw [h]; rfl
theorem cond_false' {α : Type} {b : Bool} {x y : α} (h : b = false) : cond b x y = y := by rw [h]; rfl

/-- a slice that is made, and filled cell by cell -/
theorem set_fill {α : Type} {xs : List α} {z : α} {k : Nat} (h : k < xs.length) : (xs.take k ++ List.replicate (xs.length - k) z).set k xs[k] = xs.take (k + 1) ++ List.replicate (xs.length - (k + 1)) z := by
  have h1 : (xs.take k).length = k := by simp; omega
  rw [List.set_append_right _ _ (by omega), h1, Nat.sub_self, show xs.length - k = (xs.length - (k + 1)) + 1 by omega, List.replicate_succ, List.set_cons_zero, take_snoc h, List.append_assoc]
  rfl
theorem fill_len {α : Type} {xs : List α} {z : α} {k : Nat} (h : k ≤ xs.length) : (xs.take k ++ List.replicate (xs.length - k) z).length = xs.length := by
  simp; omega
theorem fill_get {α : Type} {xs : List α} {z : α} {k : Nat} (h : k < xs.length) : ∃ y, (xs.take k ++ List.replicate (xs.length - k) z)[k]? = some y :=
  ⟨_, List.getElem?_eq_getElem (by rw [fill_len (by omega)]; exact h)⟩

/-- make, then fill: a copy -/
theorem copy_loop {α R : Type} {X : Type} {step : X → Option (X ⊕ R)} (xs : List α) (z : α) (I : List α → Int → X) (out : List α → R)
    (h : ∀ k (hk : k < xs.length) (o : List α), o.length = xs.length → step (I o (k : Int)) = some (.inl (I (o.set k xs[k]) (IntKind.wrap .i64 ((k : Int) + 1)))))
    (he : ∀ o, step (I o (xs.length : Int)) = some (.inr (out o))) (hn : xs.length < 9223372036854775807) :
    loopF step (I (List.replicate xs.length z) 0) = some (out xs) := by
  have := loopF_run (step := step) (fun k => I (xs.take k ++ List.replicate (xs.length - k) z) (k : Int)) xs.length (out xs) (fun k hk => by
    rw [h k hk _ (fill_len (by omega)), set_fill hk, wrap_succ (by omega)]) (by
    rw [List.take_length, Nat.sub_self]
    simpa using he xs)
  simpa using this
theorem make_ok {n : Nat} (h : n ≤ lim) : (((n : Int) == (n : Int)) && (decide ((0 : Int) ≤ (n : Int)) && decide ((n : Int) ≤ ((lim : Nat) : Int)))) = true := by
  simp only [beq_self_eq_true, Bool.true_and, Bool.and_eq_true, decide_eq_true_eq]
  omega
theorem lim_eq : lim = 1073741824 := rfl

/-! ### How much memory a datum takes, as the laws count it -/
def szT : (τ : Ty) → T τ → Nat
  | .i _, _ => 0
  | .b, _ => 0
  | .s, x => List.length x
  | .sl e, xs => List.length xs + (List.map (szT e) xs).sum
  | .u, _ => 0
  | .p a c, v => szT a v.1 + szT c v.2

/-- has a string -/
def Ty.hasS : Ty → Bool
  | .s => true
  | .sl e => e.hasS
  | .p x y => x.hasS || y.hasS
  | _ => false
def big20 : Nat := 1048576
theorem sum_map_le {α : Type} {f : α → Nat} {xs : List α} {k : Nat} (hk : k < xs.length) : f xs[k] ≤ (xs.map f).sum := by
  induction xs generalizing k with
  | nil => simp at hk
  | cons x xs ih =>
    cases k with
    | zero => simp
    | succ k =>
      have := ih (k := k) (by simpa using hk)
      simp only [List.getElem_cons_succ, List.map_cons, List.sum_cons]
      omega

/-- what the laws' functions of size answer -/
def szR (n l : Nat) : Int := if n ≤ l then ((l - n : Nat) : Int) else -1
theorem szR_le {n l : Nat} (h : n ≤ l) : szR n l = ((l - n : Nat) : Int) := if_pos h
theorem szR_gt {n l : Nat} (h : ¬ n ≤ l) : szR n l = -1 := if_neg h

theorem sz_loop {α X R : Type} {step : X → Option (X ⊕ R)} (xs : List α) (n : α → Nat) (I : Int → Int → X) (yes : Int → R) (no : R)
    (h : ∀ k (hk : k < xs.length) (l : Nat), l ≤ big20 → step (I (l : Int) (k : Int)) = some (if n xs[k] ≤ l then .inl (I ((l - n xs[k] : Nat) : Int) (IntKind.wrap .i64 ((k : Int) + 1))) else .inr no))
    (he : ∀ l : Nat, step (I (l : Int) (xs.length : Int)) = some (.inr (yes (l : Int)))) (hn : xs.length < 9223372036854775807) (l : Nat) (hl : l ≤ big20) :
    loopF step (I (l : Int) 0) = some (if (xs.map n).sum ≤ l then yes ((l - (xs.map n).sum : Nat) : Int) else no) := by
  have key : ∀ (ys : List α) (k l : Nat), xs.drop k = ys → k ≤ xs.length → l ≤ big20 → loopF step (I (l : Int) (k : Int)) = some (if (ys.map n).sum ≤ l then yes ((l - (ys.map n).sum : Nat) : Int) else no) := by
    intro ys
    induction ys with
    | nil =>
      intro k l hd hle hi
      have : k = xs.length := by
        have := congrArg List.length hd
        simp at this
        omega
      subst this
      rw [loopF_of (he l)]
      simp
    | cons y ys ih =>
      intro k l hd hle hi
      have hk : k < xs.length := by
        have := congrArg List.length hd
        simp at this
        omega
      have hy : xs[k] = y := by
        have := congrArg (·[0]?) hd
        simp [List.getElem?_drop, List.getElem?_eq_getElem hk] at this
        exact this
      have hd' : xs.drop (k + 1) = ys := by rw [← List.drop_drop, hd]; rfl
      rw [loopF_of (h k hk l hi), hy]
      simp only [List.map_cons, List.sum_cons]
      by_cases hc : n y ≤ l
      · simp only [hc, if_true, Option.bind_some, Sum.elim_inl]
        rw [wrap_succ (by omega), ih (k + 1) (l - n y) hd' hk (by omega)]
        by_cases hc2 : (ys.map n).sum ≤ l - n y
        · rw [if_pos hc2, if_pos (by omega)]
          congr 3
          omega
        · rw [if_neg hc2, if_neg (by omega)]
      · rw [if_neg hc, if_neg (by omega)]
        rfl
  have := key xs 0 l rfl (Nat.zero_le _) hl
  simpa using this
theorem szT_zero : ∀ {τ : Ty} (_ : (τ.flat && !τ.hasS) = true) {x : T τ}, szT τ x = 0
  | .i _, _, _ => rfl
  | .b, _, _ => rfl
  | .s, h, _ => by simp [Ty.hasS] at h
  | .sl _, h, _ => by simp [Ty.flat] at h
  | .u, _, _ => rfl
  | .p a c, h, x => by
    simp only [Ty.flat, Ty.hasS, Bool.and_eq_true, Bool.not_eq_true', Bool.or_eq_false_iff] at h
    simp only [szT]
    rw [szT_zero (τ := a) (by simp [h.1.1, h.2.1]), szT_zero (τ := c) (by simp [h.1.2, h.2.2])]
theorem szT_flat {e : Ty} (h : (e.flat && !e.hasS) = true) (xs : List (T e)) : szT (.sl e) xs = List.length xs := by
  simp only [szT]
  have : List.map (szT e) xs = List.replicate xs.length 0 := by
    apply List.ext_getElem
    · simp
    · intro i h1 h2
      simp [szT_zero h]
  rw [this]
  simp

/-! ### Booleans out of choices -/
theorem cond_some {α : Type} (b : Bool) (x y : α) : cond b (some x) (some y) = some (cond b x y) := by cases b <;> rfl
theorem cond_unit {α : Type} (b : Bool) (x y : α) : cond b (x, ()) (y, ()) = (cond b x y, ()) := by cases b <;> rfl
theorem cond_iff (b x y : Bool) : (cond b x y = true) ↔ ((b = true ∧ x = true) ∨ (¬ b = true ∧ y = true)) := by cases b <;> simp
theorem not_iff (b : Bool) : ((!b) = true) ↔ ¬ b = true := by cases b <;> simp
theorem bool_eq {a b : Bool} (h : a = true ↔ b = true) : a = b := Bool.eq_iff_iff.2 h
theorem some_unit {a b : Bool} (h : a = true ↔ b = true) : some (a, ()) = some (b, ()) := by rw [bool_eq h]
theorem beq_iff' (a b : Int) : ((a == b) = true) ↔ a = b := by simp
theorem bne_iff' (a b : Int) : ((a != b) = true) ↔ ¬ a = b := by simp
theorem false_iff' : (false = true) ↔ False := by simp
theorem true_iff' : (true = true) ↔ True := by simp

/-! ### Loops that look whether all is right -/
def allK {α : Type} (p : Nat → α → Bool) : Nat → List α → Bool
  | _, [] => true
  | k, x :: xs => p k x && allK p (k + 1) xs

theorem loopF_all {X R : Type} {step : X → Option (X ⊕ R)} {α : Type} (xs : List α) (p : Nat → α → Bool) (I : Int → X) (yes no : R)
    (h : ∀ k (hk : k < xs.length), step (I (k : Int)) = some (cond (p k xs[k]) (.inl (I (IntKind.wrap .i64 ((k : Int) + 1)))) (.inr no)))
    (he : step (I (xs.length : Int)) = some (.inr yes)) (hn : xs.length < 9223372036854775807) :
    loopF step (I 0) = some (cond (allK p 0 xs) yes no) := by
  have key : ∀ (ys : List α) (k : Nat), xs.drop k = ys → k ≤ xs.length → loopF step (I (k : Int)) = some (cond (allK p k ys) yes no) := by
    intro ys
    induction ys with
    | nil =>
      intro k hd hle
      have : k = xs.length := by
        have := congrArg List.length hd
        simp at this
        omega
      subst this
      rw [loopF_of he]
      rfl
    | cons y ys ih =>
      intro k hd hle
      have hk : k < xs.length := by
        have := congrArg List.length hd
        simp at this
        omega
      have hy : xs[k] = y := by
        have := congrArg (·[0]?) hd
        simp [List.getElem?_drop, List.getElem?_eq_getElem hk] at this
        exact this
      have hd' : xs.drop (k + 1) = ys := by rw [← List.drop_drop, hd]; rfl
      rw [loopF_of (h k hk), hy]
      simp only [allK]
      cases hc : p k y with
      | true =>
        simp only [cond_true, Bool.true_and, Option.bind_some, Sum.elim_inl]
        rw [← ih (k + 1) hd' hk, wrap_succ (by omega)]
      | false => rfl
  have := key xs 0 rfl (Nat.zero_le _)
  simpa using this

theorem allK_congr {α : Type} {p q : Nat → α → Bool} : ∀ {xs : List α} {k : Nat}, (∀ j x, x ∈ xs → p j x = q j x) → allK p k xs = allK q k xs
  | [], _, _ => rfl
  | x :: xs, k, h => by simp only [allK]; rw [h k x (by simp), allK_congr fun j y hy => h j y (by simp [hy])]
theorem allK_true {α : Type} {p : Nat → α → Bool} : ∀ {xs : List α} {k : Nat}, allK p k xs = true ↔ ∀ j (hj : j < xs.length), p (k + j) xs[j] = true
  | [], _ => by simp [allK]
  | x :: xs, k => by
    simp only [allK, Bool.and_eq_true, allK_true (xs := xs)]
    constructor
    · rintro ⟨h1, h2⟩ j hj
      cases j with
      | zero => exact h1
      | succ j => simpa [Nat.add_assoc, Nat.add_comm 1 j] using h2 j (by simpa using hj)
    · intro h
      refine ⟨h 0 (by simp), fun j hj => ?_⟩
      have := h (j + 1) (by simpa using hj)
      rw [Nat.add_assoc, Nat.add_comm 1 j]
      exact this
theorem elim_cond {α β γ : Type} (b : Bool) (x : α) (y : β) (f : α → γ) (g : β → γ) : Sum.elim f g (cond b (.inl x) (.inr y)) = cond b (f x) (g y) := by cases b <;> rfl

/-! ### Loops that carry something along -/
def foldK {α S : Type} (g : Nat → S → α → S) : Nat → S → List α → S
  | _, s, [] => s
  | k, s, x :: xs => foldK g (k + 1) (g k s x) xs

theorem drop_cons {α : Type} {xs ys : List α} {y : α} {k : Nat} (hd : xs.drop k = y :: ys) : ∃ hk : k < xs.length, xs[k] = y ∧ xs.drop (k + 1) = ys := by
  have hk : k < xs.length := by
    have := congrArg List.length hd
    simp at this
    omega
  refine ⟨hk, ?_, by rw [← List.drop_drop, hd]; rfl⟩
  have := congrArg (·[0]?) hd
  simp [List.getElem?_drop, List.getElem?_eq_getElem hk] at this
  exact this
theorem drop_nil {α : Type} {xs : List α} {k : Nat} (hd : xs.drop k = []) (hk : k ≤ xs.length) : k = xs.length := by
  have := congrArg List.length hd
  simp at this
  omega

theorem loopF_fold {X R : Type} {step : X → Option (X ⊕ R)} {α S : Type} (xs : List α) (g : Nat → S → α → S) (I : S → Int → X) (out : S → R) (Inv : Nat → S → Prop)
    (h : ∀ k (hk : k < xs.length) s, Inv k s → step (I s (k : Int)) = some (.inl (I (g k s xs[k]) (IntKind.wrap .i64 ((k : Int) + 1)))) ∧ Inv (k + 1) (g k s xs[k]))
    (he : ∀ s, Inv xs.length s → step (I s (xs.length : Int)) = some (.inr (out s))) (hn : xs.length < 9223372036854775807) (s0 : S) (h0 : Inv 0 s0) :
    loopF step (I s0 0) = some (out (foldK g 0 s0 xs)) ∧ Inv xs.length (foldK g 0 s0 xs) := by
  have key : ∀ (ys : List α) (k : Nat) (s : S), xs.drop k = ys → k ≤ xs.length → Inv k s → loopF step (I s (k : Int)) = some (out (foldK g k s ys)) ∧ Inv xs.length (foldK g k s ys) := by
    intro ys
    induction ys with
    | nil =>
      intro k s hd hle hi
      have := drop_nil hd hle
      subst this
      rw [loopF_of (he s hi)]
      exact ⟨rfl, hi⟩
    | cons y ys ih =>
      intro k s hd hle hi
      obtain ⟨hk, hy, hd'⟩ := drop_cons hd
      obtain ⟨h1, h2⟩ := h k hk s hi
      rw [loopF_of h1, hy, wrap_succ (by omega)]
      rw [hy] at h2
      exact ih (k + 1) _ hd' hk h2
  have := key xs 0 s0 rfl (Nat.zero_le _) h0
  simpa using this

/-- with an end ahead of time -/
theorem loopF_foldX {X R : Type} {step : X → Option (X ⊕ R)} {α S R' : Type} (xs : List α) (g : Nat → S → α → S ⊕ R') (I : S → Int → X) (out : S → R) (ex : R' → R) (Inv : Nat → S → Prop)
    (h : ∀ k (hk : k < xs.length) s, Inv k s → step (I s (k : Int)) = some (match g k s xs[k] with | .inl s' => .inl (I s' (IntKind.wrap .i64 ((k : Int) + 1))) | .inr r => .inr (ex r)) ∧ ∀ s', g k s xs[k] = .inl s' → Inv (k + 1) s')
    (he : ∀ s, Inv xs.length s → step (I s (xs.length : Int)) = some (.inr (out s))) (hn : xs.length < 9223372036854775807) (s0 : S) (h0 : Inv 0 s0) :
    loopF step (I s0 0) = some (match foldE g 0 s0 xs with | .inl s => out s | .inr r => ex r) := by
  have := loopF_foldE (step := step) xs g (fun k s => I s (k : Int)) out ex Inv (fun k hk s hi => by
    obtain ⟨h1, h2⟩ := h k hk s hi
    refine ⟨?_, h2⟩
    rw [h1, wrap_succ (by omega)]) he s0 h0
  simpa using this

/-! ### Marks: what is written into a result is found there -/
theorem mark_held {X R X' R' : Type} {stepM : X → Option (X ⊕ R)} {stepH : X' → Option (X' ⊕ R')} {α : Type} (c : α → Nat) (B : Nat) (IM : List α → Int → Int → X) (outM : List α → Int → R) (IH : List α → Int → Int → X') (outH : List α → Int → R')
    (h : ∀ (o : List α) (k i : Nat) (hi : i < o.length), k + c o[i] ≤ B → ∃ x' k', k ≤ k' ∧ k' ≤ k + c o[i] ∧
      stepM (IM o (k : Int) (i : Int)) = some (.inl (IM (o.set i x') (k' : Int) (IntKind.wrap .i64 ((i : Int) + 1)))) ∧
      ∀ (o2 : List α) (hi2 : i < o2.length), o2[i] = x' → stepH (IH o2 (k : Int) (i : Int)) = some (.inl (IH o2 (k' : Int) (IntKind.wrap .i64 ((i : Int) + 1)))))
    (heM : ∀ (o : List α) (k : Nat), stepM (IM o (k : Int) (o.length : Int)) = some (.inr (outM o (k : Int))))
    (heH : ∀ (o : List α) (k : Nat), stepH (IH o (k : Int) (o.length : Int)) = some (.inr (outH o (k : Int))))
    (xs : List α) (k : Nat) (hB : k + (xs.map c).sum ≤ B) (hn : xs.length < 9223372036854775807) :
    ∃ (o : List α) (k' : Nat), k ≤ k' ∧ k' ≤ k + (xs.map c).sum ∧ o.length = xs.length ∧ loopF stepM (IM xs (k : Int) 0) = some (outM o (k' : Int)) ∧ loopF stepH (IH o (k : Int) 0) = some (outH o (k' : Int)) := by
  have key : ∀ (m i k : Nat) (o : List α), o.length = xs.length → m + i = xs.length → k + ((o.drop i).map c).sum ≤ B →
      ∃ (o' : List α) (k' : Nat), k ≤ k' ∧ k' ≤ k + ((o.drop i).map c).sum ∧ o'.length = xs.length ∧ o'.take i = o.take i ∧ loopF stepM (IM o (k : Int) (i : Int)) = some (outM o' (k' : Int)) ∧ loopF stepH (IH o' (k : Int) (i : Int)) = some (outH o' (k' : Int)) := by
    intro m
    induction m with
    | zero =>
      intro i k o ho hm hk
      have : i = o.length := by omega
      subst this
      refine ⟨o, k, Nat.le_refl _, by omega, ho, rfl, ?_, ?_⟩
      · rw [loopF_of (heM o k)]; rfl
      · rw [loopF_of (heH o k)]; rfl
    | succ m ih =>
      intro i k o ho hm hk
      have hi : i < o.length := by omega
      have hdrop : o.drop i = o[i] :: o.drop (i + 1) := List.drop_eq_getElem_cons hi
      rw [hdrop, List.map_cons, List.sum_cons] at hk ⊢
      obtain ⟨x', k1, h1, h2, h3, h4⟩ := h o k i hi (by omega)
      have hd1 : (o.set i x').drop (i + 1) = o.drop (i + 1) := by
        rw [List.drop_set]
        simp
      obtain ⟨o', k', g1, g2, g3, g4, g5, g6⟩ := ih (i + 1) k1 (o.set i x') (by simpa using ho) (by omega) (by rw [hd1]; omega)
      rw [hd1] at g2
      have ht : o'.take i = o.take i := by
        have := congrArg (List.take i) g4
        rw [List.take_take, List.take_take, Nat.min_eq_left (by omega), List.take_set_of_le (Nat.le_refl _)] at this
        exact this
      have hx : o'[i]'(by omega) = x' := by
        have := congrArg (·[i]?) g4
        simp [List.getElem?_eq_getElem (show i < o'.length by omega), hi] at this
        exact this
      refine ⟨o', k', by omega, by omega, g3, ht, ?_, ?_⟩
      · rw [loopF_of h3, wrap_succ (by omega)]
        exact g5
      · rw [loopF_of (h4 o' (by omega) hx), wrap_succ (by omega)]
        exact g6
  obtain ⟨o, k', h1, h2, h3, _, h5, h6⟩ := key xs.length 0 k xs rfl rfl (by simpa using hB)
  exact ⟨o, k', h1, by simpa using h2, h3, by simpa using h5, by simpa using h6⟩

def big40 : Nat := 1099511627776
theorem sum8 (e : Ty) (xs : List (T e)) : (List.map (fun x => 8 + 8 * szT e x) xs).sum = 8 * szT (.sl e) xs := by
  simp only [szT]
  induction xs with
  | nil => rfl
  | cons x xs ih =>
    simp only [List.map_cons, List.sum_cons, List.length_cons] at ih ⊢
    omega
theorem z3 : ((3 : Int) == 0) = false := rfl
end KF

namespace KF
open Go
theorem toByteS_ok (a : (List Int)) (hz : szT (.sl byte) a ≤ big20) : laws_toByteS a = some (a, ()) := by
  have h20 : big20 = 1048576 := rfl
  have hz' : List.length a + (List.map (szT byte) a).sum ≤ big20 := hz
  have hl := copy_loop (step := fun x : (((List Int) × ((List Int) × (Int × Unit))) × Unit) => laws_toByteS_3_R x.1.1 x.1.2.1 x.1.2.2.1) a (zT byte) (fun o i => ((a, o, i, ()), ())) (fun o => .inl ((o, ()), ())) (by
      intro k hk o ho
      simp only [laws_toByteS_3_R]
      rw [dec_true (show (k : Int) < (List.length a : Int) by omega), idx_lt hk]
      simp only [cond_true, Option.bind_some]
      rw [inb_nat, dec_true (show k < List.length o by omega)]
      simp [List.getElem?_eq_getElem (show k < List.length o by omega)]) (by
      intro o
      simp [laws_toByteS_3_R]) (by omega)
  unfold laws_toByteS laws_toByteS_3_loop
  rw [make_ok (by rw [lim_eq]; omega)]
  simp only [cond_true]
  rw [show Int.toNat ((List.length a : Nat) : Int) = List.length a by simp]
  erw [hl]
  rfl

theorem eqByteS_ok (a : (List Int)) (hz : szT (.sl byte) a ≤ big20) : laws_eqByteS a a = some (true, ()) := by
  have h20 : big20 = 1048576 := rfl
  have hz' : List.length a + (List.map (szT byte) a).sum ≤ big20 := hz
  have hl := loopF_run (step := fun x : (((List Int) × ((List Int) × (Int × Unit))) × Unit) => laws_eqByteS_4_R x.1.1 x.1.2.1 x.1.2.2.1) (fun k => ((a, a, (k : Int), ()), ())) (List.length a) (.inl ((), ())) (by
      intro k hk
      simp only [laws_eqByteS_4_R]
      rw [dec_true (show (k : Int) < (List.length a : Int) by omega), idx_lt hk]
      simp only [cond_true, Option.bind_some]
      rw [bne_self_eq_false']
      simp only [cond_false]
      rw [wrap_succ (by omega)]) (by
      simp [laws_eqByteS_4_R])
  unfold laws_eqByteS laws_eqByteS_4_loop
  rw [bne_self_eq_false']
  simp only [cond_false]
  erw [hl]
  rfl

theorem szActionS_ok (a : (List TAction)) (hr : Rng (.sl tAction) a) (l : Nat) (hl : l ≤ big20) : laws_szActionS a (l : Int) = some (szR (szT (.sl tAction) a) l, ()) := by
  have h20 : big20 = 1048576 := rfl
  have hlen : List.length a ≤ 9223372036854775807 := hr.1
  unfold laws_szActionS
  rw [wrap64 (by omega) (by omega)]
  rw [show szT (.sl tAction) a = List.length a from szT_flat (e := tAction) rfl a]
  by_cases h : List.length a ≤ l
  · rw [szR_le h, dec_false (by omega), show (l : Int) - (List.length a : Int) = ((l - List.length a : Nat) : Int) by omega]; rfl
  · rw [szR_gt h, dec_true (by omega)]; rfl

theorem szActionSS_ok (a : (List (List TAction))) (hr : Rng (.sl (.sl tAction)) a) (l : Nat) (hl : l ≤ big20) : laws_szActionSS a (l : Int) = some (szR (szT (.sl (.sl tAction)) a) l, ()) := by
  have h20 : big20 = 1048576 := rfl
  have hlen : List.length a ≤ 9223372036854775807 := hr.1
  unfold laws_szActionSS
  rw [wrap64 (by omega) (by omega)]
  by_cases h : List.length a ≤ l
  · rw [dec_false (by omega), show (l : Int) - (List.length a : Int) = ((l - List.length a : Nat) : Int) by omega]
    simp only [cond_false, laws_szActionSS_5_loop]
    have hx := sz_loop (step := fun x : (((List (List TAction)) × (Int × (Int × Unit))) × Unit) => laws_szActionSS_5_R x.1.1 x.1.2.1 x.1.2.2.1) a (szT (.sl tAction)) (fun l i => ((a, l, i, ()), ())) (fun l => .inl ((l, ()), ())) (.inr (((-1 : Int), ()), ())) (by
      intro k hk l hl
      simp only [laws_szActionSS_5_R]
      rw [dec_true (show (k : Int) < (List.length a : Int) by omega), idx_lt hk]
      simp only [cond_true, Option.bind_some]
      rw [szActionS_ok a[k] (hr.2 k hk) l hl]
      simp only [Option.bind_some]
      by_cases hc : szT (.sl tAction) a[k] ≤ l
      · rw [szR_le hc, dec_false (by omega), if_pos hc]; rfl
      · rw [szR_gt hc, if_neg hc]; rfl) (by
      intro l
      simp [laws_szActionSS_5_R]) (by omega) (l - List.length a) (by omega)
    rw [hx]
    simp only [Option.bind_some]
    have hs : szT (.sl (.sl tAction)) a = List.length a + (List.map (szT (.sl tAction)) a).sum := rfl
    rw [hs]
    by_cases h2 : (List.map (szT (.sl tAction)) a).sum ≤ l - List.length a
    · rw [if_pos h2, szR_le (by omega)]; simp only [Sum.elim_inl]; rw [show l - List.length a - (List.map (szT (.sl tAction)) a).sum = l - (List.length a + (List.map (szT (.sl tAction)) a).sum) by omega]
    · rw [if_neg h2, szR_gt (by omega)]; rfl
  · rw [szR_gt (show ¬ szT (.sl (.sl tAction)) a ≤ l by have hs : szT (.sl (.sl tAction)) a = List.length a + (List.map (szT (.sl tAction)) a).sum := rfl; omega), dec_true (by omega)]; rfl

theorem szKeymap_ok (a : TKeymap) (hr : Rng tKeymap a) (l : Nat) (hl : l ≤ big20) : laws_szKeymap a (l : Int) = some (szR (szT tKeymap a) l, ()) := by
  unfold laws_szKeymap
  have hs : szT tKeymap a = szT (.sl (.sl tAction)) a.2.1 := by simp only [szT, Nat.add_zero, Nat.zero_add, Nat.add_assoc]
  rw [szActionSS_ok a.2.1 hr.2.1 (l) (by omega)]
  simp only [Option.bind_some]
  by_cases h0 : szT (.sl (.sl tAction)) a.2.1 ≤ l
  case neg => rw [szR_gt h0, szR_gt (by omega)]; rfl
  rw [szR_le h0, dec_false (by omega)]
  simp only [cond_false]
  rw [szR_le (by omega), hs]
  try simp only [Nat.sub_sub, Nat.add_assoc]

theorem toAction_ok (a : TAction) (hz : szT tAction a ≤ big20) : laws_toAction a = some (a, ()) := by
  unfold laws_toAction
  rfl

theorem toActionS_ok (a : (List TAction)) (hz : szT (.sl tAction) a ≤ big20) : laws_toActionS a = some (a, ()) := by
  have h20 : big20 = 1048576 := rfl
  have hz' : List.length a + (List.map (szT tAction) a).sum ≤ big20 := hz
  have hl := copy_loop (step := fun x : (((List TAction) × ((List TAction) × (Int × Unit))) × Unit) => laws_toActionS_3_R x.1.1 x.1.2.1 x.1.2.2.1) a (zT tAction) (fun o i => ((a, o, i, ()), ())) (fun o => .inl ((o, ()), ())) (by
      intro k hk o ho
      simp only [laws_toActionS_3_R]
      rw [dec_true (show (k : Int) < (List.length a : Int) by omega), idx_lt hk]
      have hk' := sum_map_le (f := szT tAction) hk
      simp only [cond_true, Option.bind_some]
      rw [toAction_ok a[k] (by omega)]
      simp only [cond_true, Option.bind_some]
      rw [inb_nat, dec_true (show k < List.length o by omega)]
      simp [List.getElem?_eq_getElem (show k < List.length o by omega)]) (by
      intro o
      simp [laws_toActionS_3_R]) (by omega)
  unfold laws_toActionS laws_toActionS_3_loop
  rw [make_ok (by rw [lim_eq]; omega)]
  simp only [cond_true]
  rw [show Int.toNat ((List.length a : Nat) : Int) = List.length a by simp]
  erw [hl]
  rfl

theorem toActionSS_ok (a : (List (List TAction))) (hz : szT (.sl (.sl tAction)) a ≤ big20) : laws_toActionSS a = some (a, ()) := by
  have h20 : big20 = 1048576 := rfl
  have hz' : List.length a + (List.map (szT (.sl tAction)) a).sum ≤ big20 := hz
  have hl := copy_loop (step := fun x : (((List (List TAction)) × ((List (List TAction)) × (Int × Unit))) × Unit) => laws_toActionSS_3_R x.1.1 x.1.2.1 x.1.2.2.1) a (zT (.sl tAction)) (fun o i => ((a, o, i, ()), ())) (fun o => .inl ((o, ()), ())) (by
      intro k hk o ho
      simp only [laws_toActionSS_3_R]
      rw [dec_true (show (k : Int) < (List.length a : Int) by omega), idx_lt hk]
      have hk' := sum_map_le (f := szT (.sl tAction)) hk
      simp only [cond_true, Option.bind_some]
      rw [toActionS_ok a[k] (by omega)]
      simp only [cond_true, Option.bind_some]
      rw [inb_nat, dec_true (show k < List.length o by omega)]
      simp [List.getElem?_eq_getElem (show k < List.length o by omega)]) (by
      intro o
      simp [laws_toActionSS_3_R]) (by omega)
  unfold laws_toActionSS laws_toActionSS_3_loop
  rw [make_ok (by rw [lim_eq]; omega)]
  simp only [cond_true]
  rw [show Int.toNat ((List.length a : Nat) : Int) = List.length a by simp]
  erw [hl]
  rfl

theorem toKeymap_ok (a : TKeymap) (hz : szT tKeymap a ≤ big20) : laws_toKeymap a = some (a, ()) := by
  unfold laws_toKeymap
  have hs : szT tKeymap a = szT (.sl (.sl tAction)) a.2.1 := by simp only [szT, Nat.add_zero, Nat.zero_add, Nat.add_assoc]
  rw [toActionSS_ok a.2.1 (by omega)]
  simp only [Option.bind_some]

theorem eqAction_ok (a : TAction) (hz : szT tAction a ≤ big20) : laws_eqAction a a = some (true, ()) := by
  unfold laws_eqAction
  have hs : szT tAction a = 0 := by simp only [szT, Nat.add_zero, Nat.zero_add, Nat.add_assoc]
  simp only [bne_self_eq_false', cond_false, Bool.not_true, Option.bind_some]

theorem eqActionS_ok (a : (List TAction)) (hz : szT (.sl tAction) a ≤ big20) : laws_eqActionS a a = some (true, ()) := by
  have h20 : big20 = 1048576 := rfl
  have hz' : List.length a + (List.map (szT tAction) a).sum ≤ big20 := hz
  have hl := loopF_run (step := fun x : (((List TAction) × ((List TAction) × (Int × Unit))) × Unit) => laws_eqActionS_4_R x.1.1 x.1.2.1 x.1.2.2.1) (fun k => ((a, a, (k : Int), ()), ())) (List.length a) (.inl ((), ())) (by
      intro k hk
      simp only [laws_eqActionS_4_R]
      rw [dec_true (show (k : Int) < (List.length a : Int) by omega), idx_lt hk]
      simp only [cond_true, Option.bind_some]
      have hk' := sum_map_le (f := szT tAction) hk
      rw [eqAction_ok a[k] (by omega)]
      simp only [Option.bind_some, Bool.not_true, cond_false]
      rw [wrap_succ (by omega)]) (by
      simp [laws_eqActionS_4_R])
  unfold laws_eqActionS laws_eqActionS_4_loop
  rw [bne_self_eq_false']
  simp only [cond_false]
  erw [hl]
  rfl

theorem eqActionSS_ok (a : (List (List TAction))) (hz : szT (.sl (.sl tAction)) a ≤ big20) : laws_eqActionSS a a = some (true, ()) := by
  have h20 : big20 = 1048576 := rfl
  have hz' : List.length a + (List.map (szT (.sl tAction)) a).sum ≤ big20 := hz
  have hl := loopF_run (step := fun x : (((List (List TAction)) × ((List (List TAction)) × (Int × Unit))) × Unit) => laws_eqActionSS_4_R x.1.1 x.1.2.1 x.1.2.2.1) (fun k => ((a, a, (k : Int), ()), ())) (List.length a) (.inl ((), ())) (by
      intro k hk
      simp only [laws_eqActionSS_4_R]
      rw [dec_true (show (k : Int) < (List.length a : Int) by omega), idx_lt hk]
      simp only [cond_true, Option.bind_some]
      have hk' := sum_map_le (f := szT (.sl tAction)) hk
      rw [eqActionS_ok a[k] (by omega)]
      simp only [Option.bind_some, Bool.not_true, cond_false]
      rw [wrap_succ (by omega)]) (by
      simp [laws_eqActionSS_4_R])
  unfold laws_eqActionSS laws_eqActionSS_4_loop
  rw [bne_self_eq_false']
  simp only [cond_false]
  erw [hl]
  rfl

theorem eqKeymap_ok (a : TKeymap) (hz : szT tKeymap a ≤ big20) : laws_eqKeymap a a = some (true, ()) := by
  unfold laws_eqKeymap
  have hs : szT tKeymap a = szT (.sl (.sl tAction)) a.2.1 := by simp only [szT, Nat.add_zero, Nat.zero_add, Nat.add_assoc]
  simp only [bne_self_eq_false', cond_false, Bool.not_true, Option.bind_some, eqActionSS_ok a.2.1 (by omega)]

theorem markByteS_ok (a : (List Int)) (k : Nat) (hk : k + 8 * szT (.sl byte) a ≤ big40) : ∃ (a' : (List Int)) (k' : Nat), k ≤ k' ∧ k' ≤ k + 8 * szT (.sl byte) a ∧ laws_markByteS a (k : Int) = some (a', ((k' : Int), ())) ∧ laws_heldByteS a' (k : Int) = some ((k' : Int), ()) := by
  have h40 : big40 = 1099511627776 := rfl
  by_cases hlen : List.length a < 9223372036854775807
  case neg => exfalso; have h1 : List.length a ≤ szT (.sl byte) a := Nat.le_add_right _ _; omega
  have hsum : (List.map (fun x => 8 + 8 * szT byte x) a).sum = 8 * szT (.sl byte) a := sum8 _ _
  have hx := mark_held (stepM := fun x : (((List Int) × (Int × (Int × Unit))) × Unit) => laws_markByteS_2_R x.1.1 x.1.2.1 x.1.2.2.1) (stepH := fun x : (((List Int) × (Int × (Int × Unit))) × Unit) => laws_heldByteS_2_R x.1.1 x.1.2.1 x.1.2.2.1) (fun x => 8 + 8 * szT byte x) big40 (fun o k i => ((o, k, i, ()), ())) (fun o k => .inl ((o, k, ()), ())) (fun o k i => ((o, k, i, ()), ())) (fun _ k => .inl ((k, ()), ())) (by
      intro o k i hi hB
      have hw : IntKind.wrap .i64 (((k : Nat) : Int) + 1) = (((k + 1) : Nat) : Int) := wrap_succ (by omega)
      refine ⟨(Go.IntKind.wrap .u8 ((k : Nat) : Int)), k + 1, by omega, by omega, ?_, ?_⟩
      · simp only [laws_markByteS_2_R]
        rw [dec_true (show (i : Int) < (List.length o : Int) by omega)]
        simp only [hw, cond_true, inb_nat, List.length_set, dec_true hi, Int.toNat_natCast, List.getElem?_eq_getElem hi, List.getElem?_set_self hi, Option.bind_some, List.set_set, z3, cond_false]
      · intro o2 hi2 h2
        simp only [laws_heldByteS_2_R]
        rw [dec_true (show (i : Int) < (List.length o2 : Int) by omega), idx_lt hi2, h2]
        simp only [hw, cond_true, Option.bind_some, bne_self_eq_false', cond_false, z3]) (by
      intro o k
      simp only [laws_markByteS_2_R]
      rw [dec_false (by omega)]
      rfl) (by
      intro o k
      simp only [laws_heldByteS_2_R]
      rw [dec_false (by omega)]
      rfl) a k (by rw [hsum]; exact hk) hlen
  obtain ⟨o, k1, h1, h2, _, h4, h5⟩ := hx
  rw [hsum] at h2
  refine ⟨o, k1, h1, h2, ?_, ?_⟩
  · unfold laws_markByteS laws_markByteS_2_loop
    erw [h4]
    rfl
  · unfold laws_heldByteS laws_heldByteS_2_loop
    erw [h5]
    rfl
end KF

namespace KF
open Go
set_option linter.unusedSimpArgs false
set_option linter.unusedVariables false

def isCodeP (c : Int) : Prop := 1 ≤ c ∧ c ≤ 56
def isModsP (m : Int) : Prop := 1 ≤ m ∧ m ≤ 15
def isUpperP (n : Int) : Prop := 1 ≤ n ∧ n ≤ 3
/-- an action is valid -/
def IsActionP (k c m n : Int) : Prop :=
  ((k = 0 ∨ k = 1 ∨ k = 10) ∧ c = 0 ∧ m = 0 ∧ n = 0) ∨
  (k = 2 ∧ n = 0 ∧ (c = 0 ∨ 1 ≤ c ∧ c ≤ 56) ∧ (m = 0 ∨ 1 ≤ m ∧ m ≤ 15) ∧ (c ≠ 0 ∨ m ≠ 0)) ∨
  ((k = 3 ∨ k = 4) ∧ c = 0 ∧ m = 0 ∧ 1 ≤ n ∧ n ≤ 3) ∨
  ((k = 5 ∨ k = 9) ∧ c = 0 ∧ m = 0 ∧ 0 ≤ n ∧ n ≤ 3) ∨
  (k = 6 ∧ 1 ≤ c ∧ c ≤ 56 ∧ 1 ≤ m ∧ m ≤ 15 ∧ n = 0) ∨
  (k = 7 ∧ 1 ≤ c ∧ c ≤ 56 ∧ m = 0 ∧ 1 ≤ n ∧ n ≤ 3) ∨
  (k = 8 ∧ c = 0 ∧ 1 ≤ m ∧ m ≤ 15 ∧ n = 0)
noncomputable def isActionB (a : TAction) : Bool := open Classical in decide (IsActionP a.1 a.2.1 a.2.2.1 a.2.2.2.1)
theorem isActionB_iff (a : TAction) : isActionB a = true ↔ IsActionP a.1 a.2.1 a.2.2.1 a.2.2.2.1 := by simp [isActionB]

theorem impl_isCode_ok (c : Int) : impl_isCode c = some (decide (1 ≤ c ∧ c ≤ 56), ()) := by
  simp only [impl_isCode, cond_some, cond_unit]
  apply some_unit; simp only [cond_iff, decide_eq_true_eq, beq_iff', bne_iff', Bool.false_eq_true, and_false, false_and, or_false, false_or, and_true, true_and, not_true_eq_false, not_false_eq_true]; try omega
theorem impl_isMods_ok (c : Int) : impl_isMods c = some (decide (1 ≤ c ∧ c ≤ 15), ()) := by
  simp only [impl_isMods, cond_some, cond_unit]
  apply some_unit; simp only [cond_iff, decide_eq_true_eq, beq_iff', bne_iff', Bool.false_eq_true, and_false, false_and, or_false, false_or, and_true, true_and, not_true_eq_false, not_false_eq_true]; try omega
theorem impl_isUpper_ok (c : Int) : impl_isUpper c = some (decide (1 ≤ c ∧ c ≤ 3), ()) := by
  simp only [impl_isUpper, cond_some, cond_unit]
  apply some_unit; simp only [cond_iff, decide_eq_true_eq, beq_iff', bne_iff', Bool.false_eq_true, and_false, false_and, or_false, false_or, and_true, true_and, not_true_eq_false, not_false_eq_true]; try omega
theorem spec_l1In_ok (c a b : Int) : spec_l1In c a b = some (decide (a ≤ c ∧ c ≤ b), ()) := by
  simp only [spec_l1In, cond_some, cond_unit]
  apply some_unit; simp only [cond_iff, decide_eq_true_eq, beq_iff', bne_iff', Bool.false_eq_true, and_false, false_and, or_false, false_or, and_true, true_and, not_true_eq_false, not_false_eq_true]; try omega

theorem impl_IsAction_ok (a : TAction) : impl_IsAction a = some (isActionB a, ()) := by
  obtain ⟨k, c, m, n, u⟩ := a
  have key : ∀ k c m n : Int, impl_IsAction (k, c, m, n, u) = some (isActionB (k, c, m, n, u), ()) := by
    intro k c m n
    simp only [impl_IsAction, impl_isCode_ok, impl_isMods_ok, impl_isUpper_ok, spec_l1In_ok, Option.bind_some, cond_some, cond_unit]
    by_cases h0 : k = 0
    · subst h0; apply some_unit; rw [isActionB_iff]; simp [IsActionP, cond_iff]; try omega
    by_cases h1 : k = 1
    · subst h1; apply some_unit; rw [isActionB_iff]; simp [IsActionP, cond_iff]; try omega
    by_cases h2 : k = 2
    · subst h2; apply some_unit; rw [isActionB_iff]; simp [IsActionP, cond_iff]; intro hn; (repeat' split) <;> omega
    by_cases h3 : k = 3
    · subst h3; apply some_unit; rw [isActionB_iff]; simp [IsActionP, cond_iff]; try omega
    by_cases h4 : k = 4
    · subst h4; apply some_unit; rw [isActionB_iff]; simp [IsActionP, cond_iff]; try omega
    by_cases h5 : k = 5
    · subst h5; apply some_unit; rw [isActionB_iff]; simp [IsActionP, cond_iff]; try omega
    by_cases h6 : k = 6
    · subst h6; apply some_unit; rw [isActionB_iff]; simp [IsActionP, cond_iff]; try omega
    by_cases h7 : k = 7
    · subst h7; apply some_unit; rw [isActionB_iff]; simp [IsActionP, cond_iff]; try omega
    by_cases h8 : k = 8
    · subst h8; apply some_unit; rw [isActionB_iff]; simp [IsActionP, cond_iff]; try omega
    by_cases h9 : k = 9
    · subst h9; apply some_unit; rw [isActionB_iff]; simp [IsActionP, cond_iff]; try omega
    by_cases h10 : k = 10
    · subst h10; apply some_unit; rw [isActionB_iff]; simp [IsActionP, cond_iff]; try omega
    have g : ∀ j : Int, (k == j) = decide (k = j) := fun j => by rw [Bool.eq_iff_iff]; simp
    apply some_unit; rw [isActionB_iff]; simp [IsActionP, cond_iff, h0, h1, h2, h3, h4, h5, h6, h7, h8, h9, h10]
  exact key k c m n
theorem spec_IsAction_ok (a : TAction) : spec_IsAction a = some (isActionB a, ()) := by
  obtain ⟨k, c, m, n, u⟩ := a
  have key : ∀ k c m n : Int, spec_IsAction (k, c, m, n, u) = some (isActionB (k, c, m, n, u), ()) := by
    intro k c m n
    simp only [spec_IsAction, impl_isCode_ok, impl_isMods_ok, impl_isUpper_ok, spec_l1In_ok, Option.bind_some, cond_some, cond_unit]
    by_cases h0 : k = 0
    · subst h0; apply some_unit; rw [isActionB_iff]; simp [IsActionP, cond_iff]; try omega
    by_cases h1 : k = 1
    · subst h1; apply some_unit; rw [isActionB_iff]; simp [IsActionP, cond_iff]; try omega
    by_cases h2 : k = 2
    · subst h2; apply some_unit; rw [isActionB_iff]; simp [IsActionP, cond_iff]; intro hn; (repeat' split) <;> omega
    by_cases h3 : k = 3
    · subst h3; apply some_unit; rw [isActionB_iff]; simp [IsActionP, cond_iff]; try omega
    by_cases h4 : k = 4
    · subst h4; apply some_unit; rw [isActionB_iff]; simp [IsActionP, cond_iff]; try omega
    by_cases h5 : k = 5
    · subst h5; apply some_unit; rw [isActionB_iff]; simp [IsActionP, cond_iff]; try omega
    by_cases h6 : k = 6
    · subst h6; apply some_unit; rw [isActionB_iff]; simp [IsActionP, cond_iff]; try omega
    by_cases h7 : k = 7
    · subst h7; apply some_unit; rw [isActionB_iff]; simp [IsActionP, cond_iff]; try omega
    by_cases h8 : k = 8
    · subst h8; apply some_unit; rw [isActionB_iff]; simp [IsActionP, cond_iff]; try omega
    by_cases h9 : k = 9
    · subst h9; apply some_unit; rw [isActionB_iff]; simp [IsActionP, cond_iff]; try omega
    by_cases h10 : k = 10
    · subst h10; apply some_unit; rw [isActionB_iff]; simp [IsActionP, cond_iff]; try omega
    have g : ∀ j : Int, (k == j) = decide (k = j) := fun j => by rw [Bool.eq_iff_iff]; simp
    apply some_unit; rw [isActionB_iff]; simp [IsActionP, cond_iff, h0, h1, h2, h3, h4, h5, h6, h7, h8, h9, h10]
  exact key k c m n

/-! ### Keymaps -/
/-- what is asked of the action of a layer -/
noncomputable def okActB (nl : Nat) (i : Nat) (a : TAction) : Bool := isActionB a && !(((i : Int) == 0) && (a.1 == 1)) && !((a.1 != 9) && decide (a.2.2.2.1 ≥ (nl : Int)))
noncomputable def okLayerB (keys : Int) (nl : Nat) (i : Nat) (l : List TAction) : Bool := ((List.length l : Int) == keys) && allK (fun _ a => okActB nl i a) 0 l
noncomputable def isKeymapB (m : TKeymap) : Bool :=
  decide (1 ≤ m.1 ∧ m.1 ≤ 32) && decide (1 ≤ m.2.1.length ∧ m.2.1.length ≤ 4) && allK (fun i l => okLayerB m.1 m.2.1.length i l) 0 m.2.1

theorem impl_IsKeymap_in (m : TKeymap) (i : Nat) (l : List TAction) (L : List (List TAction)) (n : Int) (t : Int) (hl : l.length < 9223372036854775807) :
    impl_IsKeymap_9_loop (((), (i : Int), L, n, t, l, (l.length : Int), (0 : Int), ()), (m, ())) =
      some (cond (allK (fun _ a => okActB m.2.1.length i a) 0 l) (.inl (((), L, n, t, ()), (m, ()))) (.inr ((false, ()), ()))) := by
  unfold impl_IsKeymap_9_loop
  refine loopF_all (step := _) l (fun _ a => okActB m.2.1.length i a) (fun j => (((), (i : Int), L, n, t, l, (l.length : Int), j, ()), (m, ()))) _ _ ?_ ?_ hl
  · intro k hk
    simp only [impl_IsKeymap_9_R]
    rw [dec_true (show (k : Int) < (l.length : Int) by omega), idx_lt hk]
    simp only [cond_true, Option.bind_some, okActB, impl_IsAction_ok]
    cases isActionB l[k] <;> cases ((i : Int) == 0) <;> cases (l[k].1 == 1) <;> cases (l[k].1 != 9) <;> cases decide (l[k].2.2.2.1 ≥ (m.2.1.length : Int)) <;> rfl
  · simp [impl_IsKeymap_9_R]

theorem impl_IsKeymap_ok (m : TKeymap) (hz : szT tKeymap m ≤ big20) : impl_IsKeymap m = some (isKeymapB m, ()) := by
  have h20 : big20 = 1048576 := rfl
  have hz' : m.2.1.length + (List.map (szT (.sl tAction)) m.2.1).sum ≤ big20 := by
    have : szT tKeymap m = szT (.sl (.sl tAction)) m.2.1 := by simp only [szT, Nat.add_zero, Nat.zero_add]
    rw [this] at hz; exact hz
  have hl : ∀ k (hk : k < m.2.1.length), m.2.1[k].length ≤ big20 := by
    intro k hk
    have := sum_map_le (f := szT (.sl tAction)) hk
    have h2 : m.2.1[k].length ≤ szT (.sl tAction) m.2.1[k] := Nat.le_add_right _ _
    omega
  have hloop : impl_IsKeymap_4_loop (((), m.2.1, ((List.length m.2.1 : Nat) : Int), (0 : Int), ()), (m, ())) =
      some (cond (allK (fun i l => okLayerB m.1 m.2.1.length i l) 0 m.2.1) (.inl ((), ())) (.inr ((false, ()), ()))) := by
    unfold impl_IsKeymap_4_loop
    refine loopF_all (step := _) m.2.1 (fun i l => okLayerB m.1 m.2.1.length i l) (fun j => (((), m.2.1, ((List.length m.2.1 : Nat) : Int), j, ()), (m, ()))) _ _ ?_ ?_ (by omega)
    · intro k hk
      have := hl k hk
      simp only [impl_IsKeymap_4_R]
      rw [dec_true (show (k : Int) < (m.2.1.length : Int) by omega), idx_lt hk]
      simp only [cond_true, Option.bind_some, okLayerB]
      rw [impl_IsKeymap_in m k _ _ _ _ (by omega)]
      show (cond (!((m.2.1[k].length : Int) == m.1)) _ _) = _
      cases ((m.2.1[k].length : Int) == m.1) <;> cases allK (fun _ a => okActB m.2.1.length k a) 0 m.2.1[k] <;> rfl
    · simp [impl_IsKeymap_4_R]
  unfold impl_IsKeymap
  rw [hloop]
  simp only [Option.bind_some, elim_cond, cond_some, cond_unit]
  apply some_unit
  simp only [cond_iff, isKeymapB, Bool.and_eq_true, decide_eq_true_eq, Bool.false_eq_true, and_false, false_or, and_true, or_false]
  generalize allK (fun i l => okLayerB m.1 m.2.1.length i l) 0 m.2.1 = b
  constructor
  · rintro ⟨h1, h2, h3, h4, h5⟩; exact ⟨⟨by omega, by omega⟩, h5⟩
  · rintro ⟨⟨h1, h2⟩, h5⟩; exact ⟨by omega, by omega, by omega, by omega, h5⟩

theorem spec_IsKeymap_in (m : TKeymap) (i : Nat) (hi : i < m.2.1.length) (hl : m.2.1[i].length < 9223372036854775807) :
    spec_IsKeymap_7_loop (((), (i : Int), (0 : Int), ()), (m, ())) =
      some (cond (allK (fun _ a => okActB m.2.1.length i a) 0 m.2.1[i]) (.inl (((), (i : Int), ()), (m, ()))) (.inr ((false, ()), ()))) := by
  unfold spec_IsKeymap_7_loop
  refine loopF_all (step := _) m.2.1[i] (fun _ a => okActB m.2.1.length i a) (fun j => (((), (i : Int), j, ()), (m, ()))) _ _ ?_ ?_ hl
  · intro k hk
    simp only [spec_IsKeymap_7_R]
    rw [idx_lt hi]
    simp only [Option.bind_some]
    rw [dec_true (show (k : Int) < (m.2.1[i].length : Int) by omega), idx_lt hk]
    simp only [cond_true, Option.bind_some, okActB, spec_IsAction_ok]
    cases isActionB m.2.1[i][k] <;> cases ((i : Int) == 0) <;> cases (m.2.1[i][k].1 == 1) <;> cases (m.2.1[i][k].1 != 9) <;> cases decide (m.2.1[i][k].2.2.2.1 ≥ (m.2.1.length : Int)) <;> rfl
  · simp [spec_IsKeymap_7_R, idx_lt hi]

theorem spec_IsKeymap_ok (m : TKeymap) (hz : szT tKeymap m ≤ big20) : spec_IsKeymap m = some (isKeymapB m, ()) := by
  have h20 : big20 = 1048576 := rfl
  have hz' : m.2.1.length + (List.map (szT (.sl tAction)) m.2.1).sum ≤ big20 := by
    have : szT tKeymap m = szT (.sl (.sl tAction)) m.2.1 := by simp only [szT, Nat.add_zero, Nat.zero_add]
    rw [this] at hz; exact hz
  have hl : ∀ k (hk : k < m.2.1.length), m.2.1[k].length ≤ big20 := by
    intro k hk
    have := sum_map_le (f := szT (.sl tAction)) hk
    have h2 : m.2.1[k].length ≤ szT (.sl tAction) m.2.1[k] := Nat.le_add_right _ _
    omega
  have hloop : spec_IsKeymap_2_loop (((), (0 : Int), ()), (m, ())) =
      some (cond (allK (fun i l => okLayerB m.1 m.2.1.length i l) 0 m.2.1) (.inl (((), ()), (m, ()))) (.inr ((false, ()), ()))) := by
    unfold spec_IsKeymap_2_loop
    refine loopF_all (step := _) m.2.1 (fun i l => okLayerB m.1 m.2.1.length i l) (fun j => (((), j, ()), (m, ()))) _ _ ?_ ?_ (by omega)
    · intro k hk
      have := hl k hk
      simp only [spec_IsKeymap_2_R]
      rw [dec_true (show (k : Int) < (m.2.1.length : Int) by omega), idx_lt hk]
      simp only [cond_true, Option.bind_some, okLayerB]
      rw [spec_IsKeymap_in m k hk (by omega)]
      show (cond (!((m.2.1[k].length : Int) == m.1)) _ _) = _
      cases ((m.2.1[k].length : Int) == m.1) <;> cases allK (fun _ a => okActB m.2.1.length k a) 0 m.2.1[k] <;> rfl
    · simp [spec_IsKeymap_2_R]
  unfold spec_IsKeymap
  rw [hloop]
  simp only [Option.bind_some, elim_cond, cond_some, cond_unit, spec_l1In_ok]
  apply some_unit
  simp only [cond_iff, isKeymapB, Bool.and_eq_true, decide_eq_true_eq, Bool.false_eq_true, and_false, false_or, and_true, or_false]
  generalize allK (fun i l => okLayerB m.1 m.2.1.length i l) 0 m.2.1 = b
  constructor
  · rintro ⟨h1, h2, h3⟩; exact ⟨⟨by omega, by omega⟩, h1⟩
  · rintro ⟨⟨h1, h2⟩, h5⟩; exact ⟨h5, by omega, by omega⟩

/-! ### Fixed masks -/
theorem shl_one {n : Nat} (h : n ≤ 62) : ishl .i64 1 (n : Int) = ((2 ^ n : Nat) : Int) := by
  unfold ishl
  have h1 : min (Int.toNat (n : Int)) (IntKind.bits .i64) = n := by
    show min (Int.toNat (n : Int)) 64 = n
    rw [Int.toNat_natCast]; omega
  rw [h1, Int.one_mul]
  have h2 : (2 : Int) ^ n = ((2 ^ n : Nat) : Int) := by simp
  have h3 : 2 ^ n ≤ 2 ^ 62 := Nat.pow_le_pow_right (by omega) h
  rw [h2]
  clear h1 h2
  generalize 2 ^ n = z at h3
  rw [wrap64 (by omega) (by omega)]

theorem law_IsFixed (m : TKeymap) (f : Int) (hr : Rng tKeymap m) : laws_FnExactIsFixed m f = some (true, ()) := by
  have h20 : big20 = 1048576 := rfl
  unfold laws_FnExactIsFixed
  have hsz := szKeymap_ok m hr 1048576 (by omega)
  rw [show ((1048576 : Nat) : Int) = 1048576 by rfl] at hsz
  rw [hsz]
  simp only [Option.bind_some]
  by_cases hz : szT tKeymap m ≤ 1048576
  case neg => rw [szR_gt hz]; rfl
  rw [szR_le hz, dec_false (by omega)]
  simp only [cond_false]
  rw [toKeymap_ok m (by omega)]
  simp only [Option.bind_some]
  have he : ((m.1, m.2.1, ()) : TKeymap) = m := rfl
  rw [he, eqKeymap_ok m (by omega)]
  have key : ∃ b, spec_IsFixed m f = some (b, ()) ∧ impl_IsFixed m f = some (b, ()) := by
    unfold spec_IsFixed impl_IsFixed
    rw [spec_IsKeymap_ok m (by omega), impl_IsKeymap_ok m (by omega)]
    simp only [Option.bind_some, spec_l1In_ok]
    cases hk : isKeymapB m with
    | false => exact ⟨false, rfl, rfl⟩
    | true =>
      simp only [cond_true]
      have hn : 1 ≤ m.2.1.length ∧ m.2.1.length ≤ 4 := by
        simp only [isKeymapB, Bool.and_eq_true, decide_eq_true_eq] at hk
        exact hk.1.2
      rw [shl_one (by omega), dec_true (show (0 : Int) ≤ (m.2.1.length : Int) by omega)]
      have hp : 1 ≤ 2 ^ m.2.1.length ∧ 2 ^ m.2.1.length ≤ 16 := by
        obtain ⟨h1, h2⟩ := hn
        generalize m.2.1.length = n at *
        have : n = 1 ∨ n = 2 ∨ n = 3 ∨ n = 4 := by omega
        rcases this with rfl | rfl | rfl | rfl <;> decide
      rw [wrap64 (by omega) (by omega)]
      simp only [cond_true, cond_some, cond_unit, show ((2 : Int) == 0) = false from rfl, cond_false]
      refine ⟨_, rfl, ?_⟩
      apply some_unit
      simp only [cond_iff, decide_eq_true_eq, Bool.false_eq_true, and_false, or_false, beq_iff']
      omega
  obtain ⟨b, h1, h2⟩ := key
  rw [h1, h2]
  simp only [Option.bind_some, bne_self_eq_false', cond_false, Bool.not_true]
end KF

namespace KF
open Go

/-! ### Packets -/
def sealG (k : Nat) (s : Int) (x : Int) : Int := IntKind.wrap .i64 (s + IntKind.wrap .i64 (IntKind.wrap .i64 x * IntKind.wrap .i64 ((k : Int) + 1)))
def sealL (a : List Int) : List Int :=
  if a.length ≥ 8 then [] else (a ++ List.replicate (8 - a.length) 0).set 7 (IntKind.wrap .u8 (Int.tmod (foldK sealG 0 90 a) 256))

theorem foldK_two {α S T : Type} (g : Nat → S → α → S) (h : Nat → T → α → T) : ∀ (xs : List α) (k : Nat) (s : S) (t : T),
    foldK (fun k (p : S × T) x => (g k p.1 x, h k p.2 x)) k (s, t) xs = (foldK g k s xs, foldK h k t xs)
  | [], _, _, _ => rfl
  | x :: xs, k, s, t => by simp only [foldK]; exact foldK_two g h xs (k + 1) _ _

theorem foldK_set {α : Type} : ∀ (xs : List α) (k : Nat) (o : List α), k + xs.length ≤ o.length → foldK (fun k o x => o.set k x) k o xs = o.take k ++ xs ++ o.drop (k + xs.length)
  | [], k, o, h => by simp [foldK]
  | x :: xs, k, o, h => by
    simp only [List.length_cons] at h
    simp only [foldK]
    rw [foldK_set xs (k + 1) (o.set k x) (by simp; omega)]
    have h1 : (o.set k x).take (k + 1) = o.take k ++ [x] := by
      rw [List.take_succ_eq_append_getElem (by simp; omega), List.take_set_of_le (Nat.le_refl _), List.getElem_set_self]
    have h2 : (o.set k x).drop (k + 1 + xs.length) = o.drop (k + (xs.length + 1)) := by
      rw [List.drop_set, if_pos (by omega), show k + 1 + xs.length = k + (xs.length + 1) by omega]
    rw [h1, h2, List.length_cons]
    simp

theorem impl_SealPacket_ok (a : List Int) : impl_SealPacket a = some (sealL a, ()) := by
  unfold impl_SealPacket sealL
  by_cases h8 : a.length ≥ 8
  · rw [dec_true (show ((a.length : Nat) : Int) ≥ 8 by omega), if_pos h8]; rfl
  rw [dec_false (show ¬ ((a.length : Nat) : Int) ≥ 8 by omega), if_neg h8]
  have hz : (((8 : Int) == (8 : Int)) && (decide ((0 : Int) ≤ (8 : Int)) && decide ((8 : Int) ≤ ((lim : Nat) : Int)))) = true := by decide
  rw [hz]
  have hb : Nat.ble a.length (List.length (List.replicate (Int.toNat (8 : Int)) (0 : Int))) = true := by
    rw [Nat.ble_eq]; simp; omega
  rw [hb]
  have hl := (loopF_fold (step := fun x : ((List Int) × (Int × ((List Int) × (Int × (Int × Unit))))) × Unit => impl_SealPacket_7_R x.1.1 x.1.2.1 x.1.2.2.1 x.1.2.2.2.1 x.1.2.2.2.2.1) a sealG
    (fun s i => (((List.append a (List.drop (List.length a) (List.replicate (Int.toNat (8 : Int)) (0 : Int)))), s, a, (a.length : Int), i, ()), ())) (fun s => .inl (((List.append a (List.drop (List.length a) (List.replicate (Int.toNat (8 : Int)) (0 : Int)))), s, ()), ())) (fun _ _ => True)
    (by
      intro k hk s _
      refine ⟨?_, trivial⟩
      simp only [impl_SealPacket_7_R]
      rw [dec_true (show (k : Int) < (a.length : Int) by omega), idx_lt hk]
      rfl) (by
      intro s _
      simp only [impl_SealPacket_7_R]
      rw [dec_false (by omega)]
      rfl) (by omega) 90 trivial).1
  simp only [cond_true, cond_false]
  unfold impl_SealPacket_7_loop
  erw [hl]
  simp only [Option.bind_some, Sum.elim_inl, show ((256 : Int) == 0) = false from rfl, cond_false]
  have hd : List.append a (List.drop (List.length a) (List.replicate (Int.toNat (8 : Int)) (0 : Int))) = a ++ List.replicate (8 - a.length) 0 := by
    show a ++ _ = _
    rw [List.drop_replicate]
    rfl
  rw [hd]
  have hlen : (a ++ List.replicate (8 - a.length) (0 : Int)).length = 8 := by simp; omega
  have h7 : inb (a ++ List.replicate (8 - a.length) (0 : Int)).length 7 = true := by rw [hlen]; rfl
  rw [h7]
  simp only [cond_true, show Int.toNat (7 : Int) = 7 from rfl]
  rw [List.getElem?_eq_getElem (by omega)]
  rfl

theorem spec_SealPacket_ok (a : List Int) : spec_SealPacket a = some (sealL a, ()) := by
  unfold spec_SealPacket sealL
  by_cases h8 : a.length ≥ 8
  · rw [dec_true (show ((a.length : Nat) : Int) ≥ 8 by omega), if_pos h8]; rfl
  rw [dec_false (show ¬ ((a.length : Nat) : Int) ≥ 8 by omega), if_neg h8]
  have hz : (((8 : Int) == (8 : Int)) && (decide ((0 : Int) ≤ (8 : Int)) && decide ((8 : Int) ≤ ((lim : Nat) : Int)))) = true := by decide
  rw [hz]
  have hl := (loopF_fold (step := fun x : ((List Int) × ((List Int) × (Int × (Int × Unit)))) × Unit => spec_SealPacket_6_R x.1.1 x.1.2.1 x.1.2.2.1 x.1.2.2.2.1) a (fun k (p : List Int × Int) x => (p.1.set k x, sealG k p.2 x))
    (fun s i => ((a, s.1, s.2, i, ()), ())) (fun s => .inl ((s.1, s.2, ()), ())) (fun _ s => s.1.length = 8)
    (by
      intro k hk s hs
      refine ⟨?_, by simpa using hs⟩
      simp only [spec_SealPacket_6_R]
      rw [dec_true (show (k : Int) < (a.length : Int) by omega), idx_lt hk, inb_nat, dec_true (show k < s.1.length by omega)]
      simp only [cond_true, Option.bind_some, Int.toNat_natCast, List.getElem?_eq_getElem (show k < s.1.length by omega)]
      rw [Int.mul_comm (IntKind.wrap .i64 ((k : Int) + 1))]
      rfl) (by
      intro s _
      simp only [spec_SealPacket_6_R]
      rw [dec_false (by omega)]
      rfl) (by omega) (List.replicate (Int.toNat (8 : Int)) (0 : Int), 90) (by simp)).1
  rw [foldK_two (fun k (o : List Int) x => o.set k x) sealG, foldK_set _ _ _ (by simp; omega)] at hl
  simp only [cond_true, cond_false]
  unfold spec_SealPacket_6_loop
  erw [hl]
  simp only [Option.bind_some, Sum.elim_inl, show ((256 : Int) == 0) = false from rfl, cond_false, List.take_zero, List.nil_append, Nat.zero_add]
  have hd : a ++ List.drop a.length (List.replicate (Int.toNat (8 : Int)) (0 : Int)) = a ++ List.replicate (8 - a.length) 0 := by
    rw [List.drop_replicate]
    rfl
  rw [hd]
  have hlen : (a ++ List.replicate (8 - a.length) (0 : Int)).length = 8 := by simp; omega
  have h7 : inb (a ++ List.replicate (8 - a.length) (0 : Int)).length 7 = true := by rw [hlen]; rfl
  rw [h7]
  simp only [cond_true, show Int.toNat (7 : Int) = 7 from rfl]
  rw [List.getElem?_eq_getElem (by omega)]
  rfl

def isPacketB (b : List Int) : Bool := ((b.length : Int) == 8) && (strOf (sealL (cutl b 0 7)) == strOf b)
theorem impl_IsPacket_ok (b : List Int) : impl_IsPacket b = some (isPacketB b, ()) := by
  unfold impl_IsPacket isPacketB
  cases h : ((b.length : Int) == 8) with
  | false => rfl
  | true =>
    have h8 : (b.length : Int) = 8 := by simpa using h
    have hc : cutOk (List.length b) (0 : Int) (7 : Int) = true := by simp [cutOk]; omega
    rw [hc, impl_SealPacket_ok]
    rfl
theorem spec_IsPacket_ok (b : List Int) : spec_IsPacket b = some (isPacketB b, ()) := by
  unfold spec_IsPacket isPacketB
  cases h : ((b.length : Int) == 8) with
  | false => rfl
  | true =>
    have h8 : (b.length : Int) = 8 := by simpa using h
    have hc : cutOk (List.length b) (0 : Int) (7 : Int) = true := by simp [cutOk]; omega
    rw [hc, spec_SealPacket_ok]
    rfl

theorem szByteL (a : List Int) : szT (.sl (.i .u8)) a = a.length := szT_flat (e := .i .u8) rfl a

theorem law_IsPacket (a : List Int) : laws_FnExactIsPacket a = some (true, ()) := by
  have h20 : big20 = 1048576 := rfl
  have hs := szByteL a
  unfold laws_FnExactIsPacket
  by_cases h : ((a.length : Nat) : Int) > 1048576
  · rw [dec_true h]; rfl
  rw [dec_false h, toByteS_ok a (by show szT (.sl (.i .u8)) a ≤ big20; omega)]
  simp only [cond_false, Option.bind_some, impl_IsPacket_ok, spec_IsPacket_ok, bne_self_eq_false', eqByteS_ok a (show szT (.sl (.i .u8)) a ≤ big20 by omega), Bool.not_true]

theorem sealL_len (a : List Int) : (sealL a).length ≤ 8 := by
  unfold sealL
  split
  · simp
  · simp; omega

theorem law_SealPacket (a : List Int) : laws_FnExactSealPacket a = some (true, ()) := by
  have h20 : big20 = 1048576 := rfl
  have h40 : big40 = 1099511627776 := rfl
  have hs := szByteL a
  have hg := sealL_len a
  have hsg := szByteL (sealL a)
  unfold laws_FnExactSealPacket
  by_cases h : ((a.length : Nat) : Int) > 1048576
  · rw [dec_true h]; rfl
  rw [dec_false h, toByteS_ok a (by show szT (.sl (.i .u8)) a ≤ big20; omega)]
  obtain ⟨a1, k1, _, _, e1, _⟩ := markByteS_ok a 1 (by show 1 + 8 * szT (.sl (.i .u8)) a ≤ big40; omega)
  obtain ⟨a2, k2, _, _, e3, e4⟩ := markByteS_ok (sealL a) 1 (by show 1 + 8 * szT (.sl (.i .u8)) (sealL a) ≤ big40; omega)
  simp only [cond_false, Option.bind_some, impl_SealPacket_ok, spec_SealPacket_ok, bne_self_eq_false', eqByteS_ok a (show szT (.sl (.i .u8)) a ≤ big20 by omega), eqByteS_ok (sealL a) (show szT (.sl (.i .u8)) (sealL a) ≤ big20 by omega), Bool.not_true]
  rw [show ((1 : Nat) : Int) = 1 from rfl] at e1 e3 e4
  rw [e1]
  simp only [Option.bind_some]
  rw [dec_false (by omega), e3]
  simp only [Option.bind_some, e4, cond_false, bne_self_eq_false']
  rw [dec_false (by omega)]
  rfl
end KF
