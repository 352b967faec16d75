/- An evaluator of Go functions on plain data, its soundness, and plain laws on what the functions compute, part 1 (conditions: as each lemma tells). -/
import Derived.WalkKit
import Derived.Lib.ConvBytes
set_option linter.unusedSimpArgs false
set_option linter.unusedVariables false
namespace KF
open Go
open List renaming length → ja, getElem?_eq_getElem → je, append → jf, mem_append → jk, mem_cons → jn, mem_cons_of_mem → jp, set → jx, mem_singleton → j6, length_append → j7, getElem?_append_left → j9, getElem?_append_right → qa, getD_eq_getElem?_getD → qb, mem_map → qe, length_drop → qf
open Option renaming bind_some → jb, bind → jv, map_some → j5, bind_eq_some_iff → j8
open Option.some renaming injEq → jc
open Bool renaming and_eq_true → jd, not_true → jg, true_and → ji, false_eq_true → jo, not_eq_true → jz, eq_iff_iff → qg
open Prod.mk renaming injEq → jh
open Nat renaming mul_le_mul_right → jl, le_refl → jm, zero_add → jq, add_assoc → jr, eq_of_beq_eq_true → js, ble → jt, le_trans → j4, lt_of_lt_of_le → qd
open Int renaming toNat → ju
open Go.IntKind renaming wrap → jw
open Sum renaming elim → jy, elim_inl → qc
open Result renaming andThen_ok → qh
open Sem renaming run_bind → qi
inductive Ty where
 | i (k : IntKind)
 | b
 | s
 | sl (e : Ty)
 | u
 | p (x y : Ty)
 | o
 deriving DecidableEq
@[reducible] def T : Ty → Type
 | .i _ => Int
 | .b => Bool
 | .o => Option Addr × Nat × Nat
 | .s => List UInt8
 | .sl e => List (T e)
 | .u => Unit
 | .p x y => T x × T y
def Ty.size : Ty → Nat
 | .u => 0
 | .p x y => x.size + y.size
 | _ => 1
def Ty.flat : Ty → Bool
 | .sl _ => false
 | .p x y => x.flat && y.flat
 | _ => true
def Ty.cmp : Ty → Bool
 | .sl _ | .o => false
 | .p x y => x.cmp && y.cmp
 | _ => true
def Ke : Nat := 9223372036854775807
def Sb (cur : Array Value) (o n : Nat) : List Value := (cur.toList.drop o).take n
theorem Lb {cur : Array Value} {o n : Nat} (h : o + n ≤ cur.size) : (Sb cur o n).length = n := by
 simp [Sb]; omega
theorem Hc (cur : Array Value) (o n j : Nat) (h : j < n) : (Sb cur o n)[j]? = cur[o + j]? := by
 simp [Sb, h]
theorem Xn (cur : Array Value) (o n p m : Nat) (h : p + m ≤ n) : ((Sb cur o n).drop p).take m = Sb cur (o + p) m := by
 apply List.ext_getElem?
 intro j
 simp only [Sb, List.getElem?_take, List.getElem?_drop]
 split
 ·rw [if_pos (by omega)]; congr 1; omega
 ·rfl
theorem Jz (cur : Array Value) (o n m : Nat) (_ : o + n ≤ cur.size) : Sb cur o (n + m) = Sb cur o n ++ Sb cur (o + n) m := by
 simp only [Sb]
 rw [List.take_add]
 simp [List.drop_drop]
theorem EE (cur : Array Value) : Sb cur 0 cur.size = cur.toList := by simp [Sb, List.take_of_length_le]
def Ia (w : World) (O : Nat → Prop) : (τ : Ty) → T τ → List Value → Prop
 | .i k, n, cs => cs = [.int k n]
 | .b, x, cs => cs = [.bool x]
 | .o, x, cs => cs = [.slice x.1 x.2.1 x.2.2]
 | .s, x, cs => cs = [.string ⟨List.toArray x⟩]
 | .sl e, xs, cs => ∃ a cap, cs = [.slice a (ja xs) cap] ∧ ja xs ≤ cap ∧ ja xs ≤ Ke ∧
  (xs = ([] : List (T e)) ∨ ∃ bl off cur et fr, a = some ⟨bl, off, none⟩ ∧ ¬ O bl ∧ w.heap[bl]? = some (.cells cur et fr) ∧
   off + ja xs * e.size ≤ cur.size ∧
   ∀ i (h : i < ja xs), Ia w O e (List.get xs ⟨i, h⟩) (Sb cur (off + i * e.size) e.size))
 | .u, _, cs => cs = []
 | .p x y, v, cs => ∃ c1 c2, cs = c1 ++ c2 ∧ Ia w O x v.1 c1 ∧ Ia w O y v.2 c2
def Ua (w : World) : (τ : Ty) → T τ → List Value → List Nat → Prop
 | .i k, n, cs, F => cs = [.int k n] ∧ F = []
 | .b, x, cs, F => cs = [.bool x] ∧ F = []
 | .o, x, cs, F => cs = [.slice x.1 x.2.1 x.2.2] ∧ F = []
 | .s, x, cs, F => cs = [.string ⟨List.toArray x⟩] ∧ F = []
 | .sl e, xs, cs, F => ja xs ≤ Ke ∧ ((cs = [.slice none 0 0] ∧ xs = ([] : List (T e)) ∧ F = []) ∨
  ∃ bl off cap cur et Fs, cs = [.slice (some ⟨bl, off, none⟩) (ja xs) cap] ∧ w.heap[bl]? = some (.cells cur et (0, 0)) ∧
   ja xs ≤ cap ∧ cap ≤ Ke ∧ off + cap * e.size ≤ cur.size ∧ F = bl :: List.flatten Fs ∧ ja Fs = ja xs ∧
   ∀ i (h : i < ja xs), Ua w e (List.get xs ⟨i, h⟩) (Sb cur (off + i * e.size) e.size) (Fs.getD i []))
 | .u, _, cs, F => cs = [] ∧ F = []
 | .p x y, v, cs, F => ∃ c1 c2 F1 F2, cs = c1 ++ c2 ∧ F = F1 ++ F2 ∧ Ua w x v.1 c1 F1 ∧ Ua w y v.2 c2 F2
theorem Ia.length {w : World} {O : Nat → Prop} : ∀ {τ : Ty} {x : T τ} {cs : List Value}, Ia w O τ x cs → cs.length = τ.size
 | .i _, _, _, h => by simp [Ia] at h; simp [h, Ty.size]
 | .b, _, _, h => by simp [Ia] at h; simp [h, Ty.size]
 | .o, _, _, h => by simp [Ia] at h; simp [h, Ty.size]
 | .s, _, _, h => by simp [Ia] at h; simp [h, Ty.size]
 | .sl _, _, _, h => by obtain ⟨a, cap, h, _⟩ := h; simp [h, Ty.size]
 | .u, _, _, h => by simp [Ia] at h; simp [h, Ty.size]
 | .p x y, _, _, h => by
  obtain ⟨c1, c2, h, h1, h2⟩ := h
  have e1 := Ia.length h1
  have e2 := Ia.length h2
  simp [h, Ty.size, e1, e2]
theorem Ia.weaken {w : World} {O O' : Nat → Prop} (hO : ∀ b, O' b → O b) : ∀ {τ : Ty} {x : T τ} {cs : List Value}, Ia w O τ x cs → Ia w O' τ x cs
 | .i _, _, _, h => h
 | .b, _, _, h => h
 | .o, _, _, h => h
 | .s, _, _, h => h
 | .sl e, xs, _, h => by
  obtain ⟨a, cap, h, h1, h2, h3⟩ := h
  refine ⟨a, cap, h, h1, h2, h3.imp id ?_⟩
  rintro ⟨bl, off, cur, et, fr, ha, hb, hh, hs, hv⟩
  exact ⟨bl, off, cur, et, fr, ha, fun c => hb (hO _ c), hh, hs, fun i hi => Ia.weaken hO (hv i hi)⟩
 | .u, _, _, h => h
 | .p x y, _, _, h => by
  obtain ⟨c1, c2, h, h1, h2⟩ := h
  exact ⟨c1, c2, h, Ia.weaken hO h1, Ia.weaken hO h2⟩
theorem Ia.stable {w w' : World} {O O' : Nat → Prop} (hs : ∀ b, ¬ O b → b < w.heap.size → w'.heap[b]? = w.heap[b]?)
 (hO : ∀ b, b < w.heap.size → ¬ O b → ¬ O' b) :
 ∀ {τ : Ty} {x : T τ} {cs : List Value}, Ia w O τ x cs → Ia w' O' τ x cs
 | .i _, _, _, h => h
 | .b, _, _, h => h
 | .o, _, _, h => h
 | .s, _, _, h => h
 | .sl e, xs, _, h => by
  obtain ⟨a, cap, h, h1, h2, h3⟩ := h
  refine ⟨a, cap, h, h1, h2, h3.imp id ?_⟩
  rintro ⟨bl, off, cur, et, fr, ha, hb, hh, hs', hv⟩
  have hlt : bl < w.heap.size := (Array.getElem?_eq_some_iff.1 hh).1
  exact ⟨bl, off, cur, et, fr, ha, hO _ hlt hb, (hs bl hb hlt).trans hh, hs', fun i hi => Ia.stable hs hO (hv i hi)⟩
 | .u, _, _, h => h
 | .p x y, _, _, h => by
  obtain ⟨c1, c2, h, h1, h2⟩ := h
  exact ⟨c1, c2, h, Ia.stable hs hO h1, Ia.stable hs hO h2⟩
theorem Ua.length {w : World} : ∀ {τ : Ty} {x : T τ} {cs : List Value} {F : List Nat}, Ua w τ x cs F → cs.length = τ.size
 | .i _, _, _, _, h => by simp [h.1, Ty.size]
 | .b, _, _, _, h => by simp [h.1, Ty.size]
 | .o, _, _, _, h => by simp [h.1, Ty.size]
 | .s, _, _, _, h => by simp [h.1, Ty.size]
 | .sl _, _, _, _, h => by
  obtain ⟨_, ⟨h, _⟩ | ⟨_, _, _, _, _, _, h, _⟩⟩ := h <;> simp [h, Ty.size]
 | .u, _, _, _, h => by simp [h.1, Ty.size]
 | .p x y, _, _, _, h => by
  obtain ⟨c1, c2, F1, F2, h, _, h1, h2⟩ := h
  have e1 := Ua.length h1
  have e2 := Ua.length h2
  simp [h, Ty.size, e1, e2]
theorem Le {Fs : List (List Nat)} {i : Nat} {b : Nat} (h : b ∈ Fs.getD i []) : b ∈ Fs.flatten := by
 rw [List.mem_flatten]
 rcases Nat.lt_or_ge i Fs.length with hi | hi
 ·exact ⟨Fs[i], List.getElem_mem hi, by simpa [List.getD, hi] using h⟩
 ·simp [List.getD, List.getElem?_eq_none hi] at h
theorem Ph {Fs : List (List Nat)} {b : Nat} (h : b ∈ Fs.flatten) : ∃ i, i < Fs.length ∧ b ∈ Fs.getD i [] := by
 rw [List.mem_flatten] at h
 obtain ⟨l, hl, hb⟩ := h
 obtain ⟨i, hi, rfl⟩ := List.mem_iff_getElem.1 hl
 exact ⟨i, hi, by simpa [List.getD, hi] using hb⟩
theorem Ua.lt {w : World} : ∀ {τ : Ty} {x : T τ} {cs : List Value} {F : List Nat}, Ua w τ x cs F → ∀ b, b ∈ F → b < w.heap.size
 | .i _, _, _, _, h, b, hb => by simp [h.2] at hb
 | .b, _, _, _, h, b, hb => by simp [h.2] at hb
 | .o, _, _, _, h, b, hb => by simp [h.2] at hb
 | .s, _, _, _, h, b, hb => by simp [h.2] at hb
 | .sl e, xs, _, _, h, b, hb => by
  obtain ⟨_, ⟨_, _, h⟩ | ⟨bl, off, cap, cur, et, Fs, _, hh, _, _, _, hF, hl, hv⟩⟩ := h
  ·simp [h] at hb
  ·subst hF
   cases jn.1 hb with
   | inl h => subst h; exact (Array.getElem?_eq_some_iff.1 hh).1
   | inr h =>
    obtain ⟨i, hi, hm⟩ := Ph h
    exact Ua.lt (hv i (hl ▸ hi)) b hm
 | .u, _, _, _, h, b, hb => by simp [h.2] at hb
 | .p x y, _, _, _, h, b, hb => by
  obtain ⟨c1, c2, F1, F2, _, hF, h1, h2⟩ := h
  subst hF
  cases jk.1 hb with
  | inl h => exact Ua.lt h1 b h
  | inr h => exact Ua.lt h2 b h
theorem Ua.stable {w w' : World} : ∀ {τ : Ty} {x : T τ} {cs : List Value} {F : List Nat}, Ua w τ x cs F → (∀ b, b ∈ F → w'.heap[b]? = w.heap[b]?) → Ua w' τ x cs F
 | .i _, _, _, _, h, _ => h
 | .b, _, _, _, h, _ => h
 | .o, _, _, _, h, _ => h
 | .s, _, _, _, h, _ => h
 | .sl e, xs, _, _, h, hs => by
  obtain ⟨hm, h | ⟨bl, off, cap, cur, et, Fs, h1, hh, h2, h3, h4, hF, hl, hv⟩⟩ := h
  ·exact ⟨hm, .inl h⟩
  ·subst hF
   refine ⟨hm, .inr ⟨bl, off, cap, cur, et, Fs, h1, (hs bl (by simp)).trans hh, h2, h3, h4, rfl, hl, fun i hi => Ua.stable (hv i hi) fun b hb => hs b (jp _ (Le hb))⟩⟩
 | .u, _, _, _, h, _ => h
 | .p x y, _, _, _, h, hs => by
  obtain ⟨c1, c2, F1, F2, h0, hF, h1, h2⟩ := h
  subst hF
  exact ⟨c1, c2, F1, F2, h0, rfl, Ua.stable h1 fun b hb => hs b (List.mem_append_left _ hb), Ua.stable h2 fun b hb => hs b (List.mem_append_right _ hb)⟩
theorem Ua.view {w : World} {O : Nat → Prop} : ∀ {τ : Ty} {x : T τ} {cs : List Value} {F : List Nat}, Ua w τ x cs F → (∀ b, b ∈ F → ¬ O b) → Ia w O τ x cs
 | .i _, _, _, _, h, _ => h.1
 | .b, _, _, _, h, _ => h.1
 | .o, _, _, _, h, _ => h.1
 | .s, _, _, _, h, _ => h.1
 | .sl e, xs, _, _, h, hO => by
  obtain ⟨hm, ⟨h, hx, _⟩ | ⟨bl, off, cap, cur, et, Fs, h1, hh, h2, h3, h4, hF, hl, hv⟩⟩ := h
  ·subst hx; exact ⟨none, 0, h, jm _, hm, .inl rfl⟩
  ·subst hF
   refine ⟨_, cap, h1, h2, hm, .inr ⟨bl, off, cur, et, _, rfl, hO bl (by simp), hh, ?_, fun i hi => Ua.view (hv i hi) fun b hb => hO b (jp _ (Le hb))⟩⟩
   have := jl e.size h2
   omega
 | .u, _, _, _, h, _ => h.1
 | .p x y, _, _, _, h, hO => by
  obtain ⟨c1, c2, F1, F2, h0, hF, h1, h2⟩ := h
  subst hF
  exact ⟨c1, c2, h0, Ua.view h1 fun b hb => hO b (List.mem_append_left _ hb), Ua.view h2 fun b hb => hO b (List.mem_append_right _ hb)⟩
theorem Ia.flat {w w' : World} {O : Nat → Prop} : ∀ {τ : Ty} {x : T τ} {cs : List Value}, Ia w O τ x cs → τ.flat = true → Ua w' τ x cs []
 | .i _, _, _, h, _ => ⟨h, rfl⟩
 | .b, _, _, h, _ => ⟨h, rfl⟩
 | .o, _, _, h, _ => ⟨h, rfl⟩
 | .s, _, _, h, _ => ⟨h, rfl⟩
 | .sl e, xs, _, _, hf => by simp [Ty.flat] at hf
 | .u, _, _, h, _ => ⟨h, rfl⟩
 | .p x y, _, _, h, hf => by
  obtain ⟨c1, c2, h0, h1, h2⟩ := h
  simp only [Ty.flat, jd] at hf
  exact ⟨c1, c2, [], [], h0, rfl, Ia.flat h1 hf.1, Ia.flat h2 hf.2⟩
inductive D where
 | und
 | anyv
 | t (τ : Ty) (x : T τ)
 | nil
 | own (id : Nat)
 | cut (id lo hi : Nat)
 | ptr (id : Nat) (path : List Nat)
 | eptr (id : Nat) (i : Nat) (path : List Nat)
 | rp (τ : Ty) (x : T τ)
 | pr (a b : D)
 | un
 | tup (d : D)
def Ty.dec : (x y : Ty) → Option (PLift (x = y))
 | .i k, .i k' => if h : k = k' then some ⟨by rw [h]⟩ else none
 | .b, .b => some ⟨rfl⟩
 | .o, .o => some ⟨rfl⟩
 | .s, .s => some ⟨rfl⟩
 | .u, .u => some ⟨rfl⟩
 | .sl v, .sl w => match Ty.dec v w with
  | some ⟨h⟩ => some ⟨by rw [h]⟩
  | none => none
 | .p v v', .p w w' => match Ty.dec v w, Ty.dec v' w' with
  | some ⟨h⟩, some ⟨g⟩ => some ⟨by rw [h, g]⟩
  | _, _ => none
 | _, _ => none
def Nd : (e : Ty) → T e → List Nat → (τ : Ty) → T τ → Option (T e)
 | e, _, [], τ, y => match Ty.dec τ e with
  | some ⟨h⟩ => some (h ▸ y)
  | none => none
 | .p a _, v, 0 :: p, τ, y => match Nd a v.1 p τ y with
  | some u => some (u, v.2)
  | none => none
 | .p _ c, v, (n + 1) :: p, τ, y => match Nd c v.2 (n :: p) τ y with
  | some u => some (v.1, u)
  | none => none
 | _, _, _, _, _ => none
inductive Ca where
 | box (ρ : Ty) (d : D)
 | row (e : Ty) (deep : Bool) (xs : List (T e))
 | hol (e : Ty) (xs : List (T e)) (i : Nat) (x : T e) (path : List Nat) (τ : Ty) (d : D)
 | mov (e : Ty) (xs : List (T e)) (k : Nat)
def Ca.rowN : Ca → Option (Ty × Nat)
 | .box _ _ => none
 | .row e _ xs => some (e, ja xs)
 | .hol e xs _ _ _ _ _ => some (e, ja xs)
 | .mov e xs _ => some (e, ja xs)
def La {α : Type} : List (Nat × α) → Nat → Option α
 | [], _ => none
 | (j, a) :: r, k => bif Nat.beq j k then some a else La r k
theorem Hb {α : Type} (j k : Nat) (a : α) (r : List (Nat × α)) : La ((j, a) :: r) k = if j = k then some a else La r k := by
 simp only [La]
 by_cases h : j = k
 ·subst h; simp
 ·have : Nat.beq j k = false := by rw [← jz]; intro e; exact h (js e)
  simp [this, h]
structure AS where
 n : Nat
 tm : List (Nat × D)
 hp : List (Nat × Option Ca)
def AS.heap (s : AS) (id : Nat) : Option Ca := (La s.hp id).join
def Na (cs : List Value) (o : Nat) (ce : List Value) : List Value := cs.take o ++ ce ++ cs.drop (o + ce.length)
def Da : Ty → Nat → Option Ty
 | .p x _, 0 => some x
 | .p _ y, n + 1 => Da y n
 | _, _ => none
def Xa : Ty → Nat → Nat
 | .p _ _, 0 => 0
 | .p x y, n + 1 => x.size + Xa y n
 | _, _ => 0
def Zb : Ty → List Nat → Option Ty
 | τ, [] => some τ
 | τ, f :: p => (Da τ f).bind fun τ' => Zb τ' p
def Ka : Ty → List Nat → Nat
 | _, [] => 0
 | τ, f :: p => Xa τ f + ((Da τ f).map fun τ' => Ka τ' p).getD 0
def D.ment (id : Nat) : D → Bool
 | .own j | .ptr j _ | .eptr j _ _ | .cut j _ _ => Nat.beq j id
 | .pr a b => a.ment id || b.ment id
 | .tup d => d.ment id
 | _ => false
def Ca.ment (id : Nat) : Ca → Bool
 | .box _ d => d.ment id
 | .row _ _ _ => false
 | .hol _ _ _ _ _ _ d => d.ment id
 | .mov _ _ _ => false
def AS.ment (s : AS) (id : Nat) : Bool := (s.tm.any fun x => x.2.ment id) || (s.hp.any fun x => (x.2.map (Ca.ment id)).getD false)
def Ja : Ty → D → Prop
 | τ, .t τ' _ => τ' = τ
 | .sl _, .nil => True
 | .sl _, .own _ => True
 | .sl _, .cut _ _ _ => True
 | .p x y, .pr a b => Ja x a ∧ Ja y b
 | .u, .un => True
 | _, _ => False
section
variable (w : World) (O : Nat → Prop) (hp : Nat → Option Ca) (σ : Nat → Value)
def Ha : D → List Value → Prop
 | .und, _ => False
 | .anyv, _ => False
 | .t τ x, cs => Ia w O τ x cs
 | .nil, cs => cs = [.slice none 0 0]
 | .own id, cs => ∃ v, cs = [v] ∧ v.oneCell' = true ∧ ∀ blk r, hp id = some blk → blk.rowN = some r → v = σ id
 | .cut id lo hi, cs => ∃ v, cs = [v] ∧ v.oneCell' = true ∧ ∀ blk e n, hp id = some blk → blk.rowN = some (e, n) → lo ≤ hi ∧ hi ≤ n ∧
  ∃ ad cap j, σ id = .slice ad n cap ∧ n ≤ cap ∧ j ≤ lo ∧ (lo < cap → j = lo) ∧ v = .slice (ad.map (·.add (j * e.size))) (hi - lo) (cap - lo)
 | .ptr id path, cs => ∃ v, cs = [v] ∧ v.oneCell' = true ∧ ∀ ρ d, hp id = some (.box ρ d) → ∃ b, σ id = .pointer (some ⟨b, 0, none⟩) ∧ v = .pointer (some ⟨b, Ka ρ path, none⟩)
 | .eptr id i path, cs => ∃ v, cs = [v] ∧ v.oneCell' = true ∧ ∀ blk e n, hp id = some blk → blk.rowN = some (e, n) → i < n ∧
  ∃ b off cap, σ id = .slice (some ⟨b, off, none⟩) n cap ∧ v = .pointer (some ⟨b, off + i * e.size + Ka e path, none⟩)
 | .rp τ x, cs => ∃ b off cur et fr, cs = [.pointer (some ⟨b, off, none⟩)] ∧ ¬ O b ∧ w.heap[b]? = some (.cells cur et fr) ∧ off + τ.size ≤ cur.size ∧ Ia w O τ x (Sb cur off τ.size)
 | .pr a b, cs => ∃ c1 c2, cs = c1 ++ c2 ∧ Ha a c1 ∧ Ha b c2
 | .un, cs => cs = []
 | .tup _, _ => False
def D.isAgg : D → Bool
 | .t (.p _ _) _ | .t .u _ | .pr _ _ | .un => true
 | _ => false
def Ec (d : D) (v : Value) : Prop :=
 if d.isAgg then ∃ cs : Array Value, v = .agg cs ∧ Ha w O hp σ d cs.toList else Ha w O hp σ d [v]
def Cd : D → List Value → Prop
 | .pr a b, v :: vs => Ec w O hp σ a v ∧ Cd b vs
 | .un, [] => True
 | _, _ => False
def Jb (d : D) (v : Value) : Prop :=
 match d with
 | .tup ds => ∃ vs : Array Value, v = .tuple vs ∧ Cd w O hp σ ds vs.toList
 | .und => v = undef
 | .anyv => True
 | d => Ec w O hp σ d v
def Ya (id : Nat) : Ca → List Nat → Prop
 | .box ρ d, F => Ja ρ d ∧ ∃ b cur et, σ id = .pointer (some ⟨b, 0, none⟩) ∧ w.heap[b]? = some (.cells cur et (0, 0)) ∧ F = [b] ∧ Ha w O hp σ d cur.toList ∧ cur.size = ρ.size
 | .row e true xs, F => Ua w (.sl e) xs [σ id] F
 | .row e false xs, F => ja xs ≤ Ke ∧ ((σ id = .slice none 0 0 ∧ xs = ([] : List (T e)) ∧ F = []) ∨
  ∃ bl off cap cur et, σ id = .slice (some ⟨bl, off, none⟩) (ja xs) cap ∧ w.heap[bl]? = some (.cells cur et (0, 0)) ∧
   ja xs ≤ cap ∧ cap ≤ Ke ∧ off + cap * e.size ≤ cur.size ∧ F = [bl] ∧
   ∀ i (h : i < ja xs), Ia w O e (List.get xs ⟨i, h⟩) (Sb cur (off + i * e.size) e.size))
 | .hol e xs i x path τ d, F => Ja τ d ∧ xs[i]? = some x ∧ Zb e path = some τ ∧ (∀ b, b ∈ F → b < w.heap.size) ∧
  ∃ bl off cap cur et, σ id = .slice (some ⟨bl, off, none⟩) (ja xs) cap ∧ w.heap[bl]? = some (.cells cur et (0, 0)) ∧ bl ∈ F ∧ off + i * e.size + e.size ≤ cur.size ∧
   Ha w O hp σ d (Sb cur (off + i * e.size + Ka e path) τ.size) ∧
   ∀ (w' : World) (c' : List Value), c'.length = τ.size → (∀ b, b ∈ F → b ≠ bl → w'.heap[b]? = w.heap[b]?) →
    w'.heap[bl]? = some (.cells (Na cur.toList (off + i * e.size + Ka e path) c').toArray et (0, 0)) →
    ∀ (y : T τ) (Fy : List Nat) (x' : T e), Ua w' τ y c' Fy → Nd e x path τ y = some x' → ∃ F', F'.Perm (F ++ Fy) ∧ Ua w' (.sl e) (jx xs i x') [σ id] F'
 | .mov e xs k, F => ja xs ≤ Ke ∧ ((σ id = .slice none 0 0 ∧ xs = ([] : List (T e)) ∧ F = []) ∨
  ∃ bl off cap cur et Fs, σ id = .slice (some ⟨bl, off, none⟩) (ja xs) cap ∧ w.heap[bl]? = some (.cells cur et (0, 0)) ∧
   ja xs ≤ cap ∧ cap ≤ Ke ∧ off + cap * e.size ≤ cur.size ∧ F = bl :: List.flatten Fs ∧ ja Fs = ja xs ∧
   (∀ i (h : i < ja xs), k ≤ i → Ua w e (List.get xs ⟨i, h⟩) (Sb cur (off + i * e.size) e.size) (Fs.getD i [])) ∧ ∀ i, i < k → Fs.getD i [] = [])
end
structure Ug where
 base : Nat
 p : World → Prop
 st : ∀ w w' : World, (∀ b, b < base → w'.heap[b]? = w.heap[b]?) → p w → p w'
structure Fx where
 A : Nat → Prop
 pin : Nat → Option Value
 low : ∀ id v, pin id = some v → 500000 ≤ id
 I : Ug
 avoid : ∀ b, A b → I.base ≤ b
structure Fr (n0 : Nat) (A : Nat → Prop) (w0 w : World) : Prop where
 os : w.os = w0.os
 tape : w.tape = w0.tape
 output : w.output = w0.output
 size : n0 ≤ w.heap.size
 block : ∀ b, b < n0 → ¬ A b → w.heap[b]? = w0.heap[b]?
def OO (O0 : Nat → Prop) (s : AS) (φ : Nat → List Nat) (b : Nat) : Prop := O0 b ∨ ∃ id blk, s.heap id = some blk ∧ b ∈ φ id
structure Ga (n0 : Nat) (A : Fx) (O0 : Nat → Prop) (w0 : World) (s : AS) (σ : Nat → Value) (φ : Nat → List Nat) (a : Act) (w : World) : Prop where
 sz : a.tmps.size = s.n
 df : a.defers = []
 tm : ∀ t d, La s.tm t = some d → ∃ v, a.tmps[t]? = some v ∧ Jb w (OO O0 s φ) s.heap σ d v
 hp : ∀ id blk, s.heap id = some blk → Ya w (OO O0 s φ) s.heap σ id blk (φ id)
 nodup : ∀ id blk, s.heap id = some blk → (φ id).Nodup
 disj : ∀ id id' blk blk', id ≠ id' → s.heap id = some blk → s.heap id' = some blk' → ∀ b, b ∈ φ id → b ∉ φ id'
 fresh : ∀ id blk, s.heap id = some blk → ∀ b, b ∈ φ id → n0 ≤ b ∨ A.A b
 o0 : ∀ b, O0 b → b < n0
 fr : Fr n0 A.A w0 w
 pin : ∀ id v, A.pin id = some v → σ id = v
 iv0 : A.I.base ≤ n0
 ivw : A.I.p w0
theorem Ga.iv {n0 : Nat} {A : Fx} {O0 : Nat → Prop} {w0 w : World} {s : AS} {σ : Nat → Value} {φ : Nat → List Nat} {a : Act} (h : Ga n0 A O0 w0 s σ φ a w) : A.I.p w :=
 A.I.st w0 w (fun b hb => h.fr.block b (qd hb h.iv0) fun hA => by have := A.avoid b hA; omega) h.ivw
theorem Ga.ivb {n0 : Nat} {A : Fx} {O0 : Nat → Prop} {w0 w : World} {s : AS} {σ : Nat → Value} {φ : Nat → List Nat} {a : Act} (h : Ga n0 A O0 w0 s σ φ a w) {id : Nat} {blk : Ca} (hb : s.heap id = some blk) {b : Nat} (hm : b ∈ φ id) : A.I.base ≤ b := by
 rcases h.fresh id blk hb b hm with h1 | h1
 ·exact j4 h.iv0 h1
 ·exact A.avoid b h1
def Ca.like : Ca → Ca → Prop
 | .box ρ _, .box ρ' _ => ρ = ρ'
 | .row e _ xs, .row e' _ xs' => e = e' ∧ ja xs = ja xs'
 | .row e _ xs, .hol e' xs' _ _ _ _ _ => e = e' ∧ ja xs = ja xs'
 | .hol e xs _ _ _ _ _, .row e' _ xs' => e = e' ∧ ja xs = ja xs'
 | .hol e xs _ _ _ _ _, .hol e' xs' _ _ _ _ _ => e = e' ∧ ja xs = ja xs'
 | .row e _ xs, .mov e' xs' _ => e = e' ∧ ja xs = ja xs'
 | .mov e xs _, .mov e' xs' _ => e = e' ∧ ja xs = ja xs'
 | _, _ => False
theorem Ca.like_refl (b : Ca) : b.like b := by cases b <;> simp [Ca.like]
theorem Ca.like_rowN {a b : Ca} {r : Ty × Nat} (h : a.like b) (hr : b.rowN = some r) : a.rowN = some r := by
 cases a <;> cases b <;> simp_all [Ca.like, Ca.rowN]
theorem Yh {α : Type} {l : List (Nat × α)} {k : Nat} {a : α} (h : La l k = some a) : (k, a) ∈ l := by
 induction l with
 | nil => simp [La] at h
 | cons x r ih =>
  obtain ⟨j, b⟩ := x
  rw [Hb] at h
  split at h
  ·rename_i hj; subst hj; simp at h; simp [h]
  ·exact jp _ (ih h)
theorem AS.heap_mem {s : AS} {id : Nat} {b : Ca} (h : s.heap id = some b) : (id, some b) ∈ s.hp := by
 unfold AS.heap at h
 cases hh : La s.hp id with
 | none => simp [hh] at h
 | some o => simp [hh] at h; subst h; exact Yh hh
theorem AS.ment_heap {s : AS} {id j : Nat} {b : Ca} (h : s.heap j = some b) (hm : b.ment id = true) : s.ment id = true := by
 unfold AS.ment
 have := AS.heap_mem h
 simp only [Bool.or_eq_true, List.any_eq_true]
 exact .inr ⟨_, this, by simpa using hm⟩
theorem AS.ment_tm {s : AS} {id t : Nat} {d : D} (h : La s.tm t = some d) (hm : d.ment id = true) : s.ment id = true := by
 unfold AS.ment
 simp only [Bool.or_eq_true, List.any_eq_true]
 exact .inl ⟨_, Yh h, hm⟩
section
variable {w w' : World} {O O' : Nat → Prop} {hp hp' : Nat → Option Ca} {σ σ' : Nat → Value}
def Cp (hp hp' : Nat → Option Ca) (σ σ' : Nat → Value) (id : Nat) : Prop :=
 ∀ blk', hp' id = some blk' → ∃ blk, hp id = some blk ∧ blk.like blk' ∧ σ' id = σ id
theorem Ha.stable (hv : ∀ b, ¬ O b → b < w.heap.size → w'.heap[b]? = w.heap[b]?) (hO : ∀ b, b < w.heap.size → ¬ O b → ¬ O' b) :
 ∀ (d : D) (cs : List Value), (∀ id, d.ment id = true → Cp hp hp' σ σ' id) → Ha w O hp σ d cs → Ha w' O' hp' σ' d cs
 | .und, cs, _, h => h
 | .anyv, cs, _, h => h
 | .t τ x, cs, _, h => Ia.stable hv hO h
 | .nil, cs, _, h => h
 | .own id, cs, hc, h => by
  obtain ⟨v, hcs, h1c, h⟩ := h
  refine ⟨v, hcs, h1c, fun blk' r he hr => ?_⟩
  obtain ⟨blk, hb, hl, hs⟩ := hc id (by simp [D.ment]) _ he
  rw [hs]; exact h _ _ hb (Ca.like_rowN hl hr)
 | .ptr id path, cs, hc, h => by
  obtain ⟨v, hcs, h1c, h⟩ := h
  refine ⟨v, hcs, h1c, fun ρ d he => ?_⟩
  obtain ⟨blk, hb, hl, hs⟩ := hc id (by simp [D.ment]) _ he
  cases blk with
  | box ρ' d' => simp [Ca.like] at hl; subst hl; rw [hs]; exact h _ _ hb
  | row => simp [Ca.like] at hl
  | hol => simp [Ca.like] at hl
  | mov => simp [Ca.like] at hl
 | .cut id lo hi, cs, hc, h => by
  obtain ⟨v, hcs, h1c, h⟩ := h
  refine ⟨v, hcs, h1c, fun blk' e n he hr => ?_⟩
  obtain ⟨blk, hb, hl, hs⟩ := hc id (by simp [D.ment]) _ he
  rw [hs]; exact h _ _ _ hb (Ca.like_rowN hl hr)
 | .eptr id i path, cs, hc, h => by
  obtain ⟨v, hcs, h1c, h⟩ := h
  refine ⟨v, hcs, h1c, fun blk' e n he hr => ?_⟩
  obtain ⟨blk, hb, hl, hs⟩ := hc id (by simp [D.ment]) _ he
  rw [hs]; exact h _ _ _ hb (Ca.like_rowN hl hr)
 | .rp τ x, cs, _, h => by
  obtain ⟨b, off, cur, et, fr, hcs, hb, hh, hs, hvw⟩ := h
  have hlt : b < w.heap.size := (Array.getElem?_eq_some_iff.1 hh).1
  exact ⟨b, off, cur, et, fr, hcs, hO _ hlt hb, (hv _ hb hlt).trans hh, hs, Ia.stable hv hO hvw⟩
 | .pr a b, cs, hc, h => by
  obtain ⟨c1, c2, h0, h1, h2⟩ := h
  exact ⟨c1, c2, h0, Ha.stable hv hO a c1 (fun id hi => hc id (by simp [D.ment, hi])) h1,
   Ha.stable hv hO b c2 (fun id hi => hc id (by simp [D.ment, hi])) h2⟩
 | .un, cs, _, h => h
 | .tup d, cs, _, h => h
theorem Ec.stable (hv : ∀ b, ¬ O b → b < w.heap.size → w'.heap[b]? = w.heap[b]?) (hO : ∀ b, b < w.heap.size → ¬ O b → ¬ O' b)
 (d : D) (v : Value) (hc : ∀ id, d.ment id = true → Cp hp hp' σ σ' id) (h : Ec w O hp σ d v) : Ec w' O' hp' σ' d v := by
 unfold Ec at *
 split
 ·rename_i ha
  simp only [ha, if_true] at h
  obtain ⟨cs, h1, h2⟩ := h
  exact ⟨cs, h1, Ha.stable hv hO d _ hc h2⟩
 ·rename_i ha
  simp only [ha, if_false, jo] at h
  exact Ha.stable hv hO d _ hc h
theorem Cd.stable (hv : ∀ b, ¬ O b → b < w.heap.size → w'.heap[b]? = w.heap[b]?) (hO : ∀ b, b < w.heap.size → ¬ O b → ¬ O' b) :
 ∀ (d : D) (vs : List Value) (_ : ∀ id, d.ment id = true → Cp hp hp' σ σ' id) (_ : Cd w O hp σ d vs), Cd w' O' hp' σ' d vs
 | .pr a b, v :: vs, hc, h => ⟨Ec.stable hv hO a v (fun id hi => hc id (by simp [D.ment, hi])) h.1,
  Cd.stable hv hO b vs (fun id hi => hc id (by simp [D.ment, hi])) h.2⟩
 | .un, [], _, _ => trivial
 | .pr _ _, [], _, h => h.elim
 | .un, _ :: _, _, h => h.elim
 | .und, _, _, h => by simp [Cd] at h
 | .anyv, _, _, h => by simp [Cd] at h
 | .t _ _, _, _, h => by simp [Cd] at h
 | .nil, _, _, h => by simp [Cd] at h
 | .own _, _, _, h => by simp [Cd] at h
 | .cut _ _ _, _, _, h => by simp [Cd] at h
 | .ptr _ _, _, _, h => by simp [Cd] at h
 | .eptr _ _ _, _, _, h => by simp [Cd] at h
 | .rp _ _, _, _, h => by simp [Cd] at h
 | .tup _, _, _, h => by simp [Cd] at h
theorem Jb.stable (hv : ∀ b, ¬ O b → b < w.heap.size → w'.heap[b]? = w.heap[b]?) (hO : ∀ b, b < w.heap.size → ¬ O b → ¬ O' b)
 (d : D) (v : Value) (hc : ∀ id, d.ment id = true → Cp hp hp' σ σ' id) (h : Jb w O hp σ d v) : Jb w' O' hp' σ' d v := by
 cases d with
 | tup ds =>
  obtain ⟨vs, h1, h2⟩ := h
  exact ⟨vs, h1, Cd.stable hv hO ds _ hc h2⟩
 | und => exact h
 | anyv => exact h
 | _ => exact Ec.stable hv hO _ v hc h
theorem Ya.lt {id : Nat} {blk : Ca} {F : List Nat} (h : Ya w O hp σ id blk F) : ∀ b, b ∈ F → b < w.heap.size := by
 intro b hb
 cases blk with
 | box ρ d =>
  obtain ⟨_, bb, cur, et, _, hh, hF, _⟩ := h
  subst hF
  simp at hb; subst hb
  exact (Array.getElem?_eq_some_iff.1 hh).1
 | row e dp xs =>
  cases dp with
  | true => exact Ua.lt h b hb
  | false =>
   obtain ⟨_, ⟨_, _, hF⟩ | ⟨bl, off, cap, cur, et, _, hh, _, _, _, hF, _⟩⟩ := h
   ·subst hF; simp at hb
   ·subst hF
    simp at hb; subst hb
    exact (Array.getElem?_eq_some_iff.1 hh).1
 | hol e xs i x path τ d => exact h.2.2.2.1 b hb
 | mov e xs k =>
  obtain ⟨_, ⟨_, _, hF⟩ | ⟨bl, off, cap, cur, et, Fs, _, hh, _, _, _, hF, hl, hv, hk⟩⟩ := h
  ·subst hF; simp at hb
  ·subst hF
   rcases jn.1 hb with rfl | hb
   ·exact (Array.getElem?_eq_some_iff.1 hh).1
   ·obtain ⟨i, hi, hbi⟩ := Ph hb
    rw [hl] at hi
    rcases Nat.lt_or_ge i k with hik | hik
    ·rw [hk i hik] at hbi; simp at hbi
    ·exact (hv i hi hik).lt b hbi
theorem Ya.stable (hv : ∀ b, ¬ O b → b < w.heap.size → w'.heap[b]? = w.heap[b]?) (hO : ∀ b, b < w.heap.size → ¬ O b → ¬ O' b)
 {id : Nat} {blk : Ca} {F : List Nat} (hF : ∀ b, b ∈ F → w'.heap[b]? = w.heap[b]?) (hσ : σ' id = σ id)
 (hc : ∀ j, blk.ment j = true → Cp hp hp' σ σ' j) (h : Ya w O hp σ id blk F) : Ya w' O' hp' σ' id blk F := by
 cases blk with
 | box ρ d =>
  obtain ⟨h0, bb, cur, et, h1, hh, hF', h2, h3⟩ := h
  subst hF'
  exact ⟨h0, bb, cur, et, hσ.trans h1, (hF bb (by simp)).trans hh, rfl, Ha.stable hv hO d _ hc h2, h3⟩
 | row e dp xs =>
  cases dp with
  | true =>
   simp only [Ya] at h ⊢
   rw [hσ]
   exact Ua.stable h hF
  | false =>
   obtain ⟨hm, ⟨h1, h2, h3⟩ | ⟨bl, off, cap, cur, et, h1, hh, h2, h3, h4, hF', hvw⟩⟩ := h
   ·exact ⟨hm, .inl ⟨hσ.trans h1, h2, h3⟩⟩
   ·subst hF'
    exact ⟨hm, .inr ⟨bl, off, cap, cur, et, hσ.trans h1, (hF bl (by simp)).trans hh, h2, h3, h4, rfl, fun i hi => Ia.stable hv hO (hvw i hi)⟩⟩
 | hol e xs i x path τ d =>
  obtain ⟨h1, h2, h3, h4, bl, off, cap, cur, et, h5, h8, h9, h10, h6, h7⟩ := h
  refine ⟨h1, h2, h3, fun b hb => ?_, bl, off, cap, cur, et, hσ.trans h5, (hF bl h9).trans h8, h9, h10, Ha.stable hv hO d _ hc h6, fun w2 c' hl hw2 hbl y Fy x' hy hs => ?_⟩
  ·have := hF b hb
   rw [Array.getElem?_eq_getElem (h4 b hb)] at this
   exact (Array.getElem?_eq_some_iff.1 this).1
  ·obtain ⟨F', p1, p2⟩ := h7 w2 c' hl (fun b hb hne => (hw2 b hb hne).trans (hF b hb)) hbl y Fy x' hy hs
   exact ⟨F', p1, by rw [hσ]; exact p2⟩
 | mov e xs k =>
  obtain ⟨hm, ⟨h1, h2, h3⟩ | ⟨bl, off, cap, cur, et, Fs, h1, hh, h2, h3, h4, hF', hl, hv', hk⟩⟩ := h
  ·exact ⟨hm, .inl ⟨hσ.trans h1, h2, h3⟩⟩
  ·subst hF'
   exact ⟨hm, .inr ⟨bl, off, cap, cur, et, Fs, hσ.trans h1, (hF bl (by simp)).trans hh, h2, h3, h4, rfl, hl, fun i hi hik => (hv' i hi hik).stable fun b hb => hF b (jp _ (Le hb)), hk⟩⟩
end
section
variable {n0 : Nat} {A : Fx} {O0 : Nat → Prop} {w0 w w' : World} {s s' : AS} {σ σ' : Nat → Value} {φ φ' : Nat → List Nat} {a a' : Act}
theorem Ga.trans (h : Ga n0 A O0 w0 s σ φ a w) (Tid : Nat → Prop)
 (hn : s'.n = s.n) (htm : s'.tm = s.tm)
 (hother : ∀ id, ¬ Tid id → s'.heap id = s.heap id ∧ σ' id = σ id ∧ φ' id = φ id)
 (hw : ∀ b, b < w.heap.size → (∀ id blk, Tid id → s.heap id = some blk → b ∉ φ id) → w'.heap[b]? = w.heap[b]?)
 (hsize : w.heap.size ≤ w'.heap.size)
 (hsub : ∀ id blk', Tid id → s'.heap id = some blk' → ∀ b, b ∈ φ' id → w.heap.size ≤ b ∨ ∃ j blk, Tid j ∧ s.heap j = some blk ∧ b ∈ φ j)
 (hcomp : ∀ id blk', Tid id → s'.heap id = some blk' → s.ment id = true → ∃ blk, s.heap id = some blk ∧ blk.like blk' ∧ σ' id = σ id)
 (hblk : ∀ id blk', Tid id → s'.heap id = some blk' → Ya w' (OO O0 s' φ') s'.heap σ' id blk' (φ' id) ∧ (φ' id).Nodup)
 (hdT : ∀ id id' blk blk', Tid id → Tid id' → id ≠ id' → s'.heap id = some blk → s'.heap id' = some blk' → ∀ b, b ∈ φ' id → b ∉ φ' id')
 (hos : w'.os = w.os) (htape : w'.tape = w.tape) (hout : w'.output = w.output) (hpin : ∀ id, Tid id → σ' id = σ id ∨ id < 500000) :
 Ga n0 A O0 w0 s' σ' φ' a w' := by
 have hlt : ∀ id blk, s.heap id = some blk → ∀ b, b ∈ φ id → b < w.heap.size := fun id blk hb b hm => (h.hp id blk hb).lt b hm
 have hOO : ∀ b, b < w.heap.size → ¬ OO O0 s φ b → ¬ OO O0 s' φ' b := by
  rintro b hb hno (ho | ⟨id, blk, hl, hm⟩)
  ·exact hno (.inl ho)
  ·by_cases ht : Tid id
   ·rcases hsub id blk ht hl b hm with hge | ⟨j, blk', _, hj, hmj⟩
    ·omega
    ·exact hno (.inr ⟨j, blk', hj, hmj⟩)
   ·obtain ⟨e1, _, e3⟩ := hother id ht
    exact hno (.inr ⟨id, blk, e1 ▸ hl, e3 ▸ hm⟩)
 have hview : ∀ b, ¬ OO O0 s φ b → b < w.heap.size → w'.heap[b]? = w.heap[b]? := fun b hno hb =>
  hw b hb fun id blk _ hl hm => hno (.inr ⟨id, blk, hl, hm⟩)
 have hcp : ∀ id, s.ment id = true → Cp s.heap s'.heap σ σ' id := by
  intro id hm blk' hl
  by_cases ht : Tid id
  ·exact hcomp id blk' ht hl hm
  ·obtain ⟨e1, e2, _⟩ := hother id ht
   exact ⟨blk', e1 ▸ hl, Ca.like_refl _, e2⟩
 have hold : ∀ id blk, ¬ Tid id → s.heap id = some blk → ∀ b, b ∈ φ id → w'.heap[b]? = w.heap[b]? := fun id blk ht hl b hm =>
  hw b (hlt id blk hl b hm) fun j blk' hj hl' hmj => h.disj id j blk blk' (fun e => ht (e ▸ hj)) hl hl' b hm hmj
 refine ⟨?_, h.df, ?_, ?_, ?_, ?_, ?_, h.o0, ?_, ?pin, h.iv0, h.ivw⟩
 case pin =>
  intro id v hv
  by_cases ht : Tid id
  ·rcases hpin id ht with e | e
   ·exact e.trans (h.pin id v hv)
   ·exact absurd (A.low id v hv) (by omega)
  ·exact (hother id ht).2.1.trans (h.pin id v hv)
 ·rw [hn]; exact h.sz
 ·intro t d hd
  rw [htm] at hd
  obtain ⟨v, hv, hr⟩ := h.tm t d hd
  exact ⟨v, hv, Jb.stable hview hOO d v (fun id hi => hcp id (AS.ment_tm hd hi)) hr⟩
 ·intro id blk hl
  by_cases ht : Tid id
  ·exact (hblk id blk ht hl).1
  ·obtain ⟨e1, e2, e3⟩ := hother id ht
   rw [e1] at hl
   rw [e3]
   exact Ya.stable hview hOO (hold id blk ht hl) e2 (fun j hj => hcp j (AS.ment_heap hl hj)) (h.hp id blk hl)
 ·intro id blk hl
  by_cases ht : Tid id
  ·exact (hblk id blk ht hl).2
  ·obtain ⟨e1, _, e3⟩ := hother id ht
   rw [e3]; exact h.nodup id blk (e1 ▸ hl)
 ·intro id id' blk blk' hne hl hl' b hb
  by_cases ht : Tid id <;> by_cases ht' : Tid id'
  ·exact hdT id id' blk blk' ht ht' hne hl hl' b hb
  ·obtain ⟨e1', _, e3'⟩ := hother id' ht'
   rw [e3']
   rcases hsub id blk ht hl b hb with hge | ⟨j, blkj, hj, hlj, hmj⟩
   ·intro hm
    have := hlt id' blk' (e1' ▸ hl') b hm
    omega
   ·exact h.disj j id' blkj blk' (fun e => ht' (e ▸ hj)) hlj (e1' ▸ hl') b hmj
  ·obtain ⟨e1, _, e3⟩ := hother id ht
   rw [e3] at hb
   intro hm
   rcases hsub id' blk' ht' hl' b hm with hge | ⟨j, blkj, hj, hlj, hmj⟩
   ·have := hlt id blk (e1 ▸ hl) b hb
    omega
   ·exact h.disj j id blkj blk (fun e => ht (e ▸ hj)) hlj (e1 ▸ hl) b hmj hb
  ·obtain ⟨e1, _, e3⟩ := hother id ht
   obtain ⟨e1', _, e3'⟩ := hother id' ht'
   rw [e3'] ; rw [e3] at hb
   exact h.disj id id' blk blk' hne (e1 ▸ hl) (e1' ▸ hl') b hb
 ·intro id blk hl b hb
  by_cases ht : Tid id
  ·rcases hsub id blk ht hl b hb with hge | ⟨j, blkj, _, hlj, hmj⟩
   ·exact .inl (j4 h.fr.size hge)
   ·exact h.fresh j blkj hlj b hmj
  ·obtain ⟨e1, _, e3⟩ := hother id ht
   rw [e3] at hb
   exact h.fresh id blk (e1 ▸ hl) b hb
 ·refine ⟨hos.trans h.fr.os, htape.trans h.fr.tape, hout.trans h.fr.output, j4 h.fr.size hsize, fun b hb hA => ?_⟩
  refine Eq.trans ?_ (h.fr.block b hb hA)
  refine hw b (qd hb h.fr.size) fun id blk _ hl hm => ?_
  rcases h.fresh id blk hl b hm with hge | hA'
  ·omega
  ·exact hA hA'
theorem Ga.drew (h : Ga n0 A O0 w0 s σ φ a w) : Ga n0 A O0 w0 s σ φ a w.drew := by
 refine h.trans (fun _ => False) rfl rfl (fun _ _ => ⟨rfl, rfl, rfl⟩) (fun _ _ _ => rfl) (jm _) ?_ ?_ ?_ ?_ rfl rfl rfl ?_
 all_goals intro id; intros; contradiction
end
def Ty.isAgg : Ty → Bool
 | .p _ _ | .u => true
 | _ => false
def Ub (τ : Ty) (cs : List Value) : Value := if τ.isAgg then .agg cs.toArray else cs.headD undef
def D.fst : D → Option D
 | .t (.p x _) v => some (.t x v.1)
 | .pr a _ => some a
 | _ => none
def D.snd : D → Option D
 | .t (.p _ y) v => some (.t y v.2)
 | .pr _ y => some y
 | _ => none
def mkpr : D → D → D
 | .t a x, .t c y => .t (.p a c) (x, y)
 | .t a x, .un => .t (.p a .u) (x, ())
 | a, b => .pr a b
def D.field : D → Nat → Option D
 | d, 0 => d.fst
 | d, n + 1 => match d.snd with
  | some e => e.field n
  | none => none
def D.at : D → List Nat → Option D
 | d, [] => some d
 | d, f :: p => match d.field f with
  | some e => e.at p
  | none => none
def D.setField : D → Nat → D → Option D
 | d, 0, e => match d.snd with
  | some r => some (mkpr e r)
  | none => none
 | d, n + 1, e => match d.fst, d.snd with
  | some a, some b => match b.setField n e with
   | some b' => some (mkpr a b')
   | none => none
  | _, _ => none
def D.setAt : D → List Nat → D → Option D
 | _, [], e => some e
 | d, f :: p, e => match d.field f with
  | some x => match x.setAt p e with
   | some x' => d.setField f x'
   | none => none
  | none => none
theorem Ja.isAgg {τ : Ty} {d : D} (h : Ja τ d) : d.isAgg = τ.isAgg := by
 cases d <;> cases τ <;> simp_all [Ja, D.isAgg, Ty.isAgg]
 all_goals (subst h; rfl)
theorem Ja.p {x y : Ty} {d : D} (h : Ja (.p x y) d) : ∃ a b, d.fst = some a ∧ d.snd = some b ∧ Ja x a ∧ Ja y b := by
 cases d with
 | t τ v =>
  simp only [Ja] at h
  subst h
  exact ⟨.t x v.1, .t y v.2, rfl, rfl, by simp [Ja], by simp [Ja]⟩
 | pr a b => exact ⟨a, b, rfl, rfl, h.1, h.2⟩
 | _ => simp [Ja] at h
theorem Ja.mkpr {x y : Ty} {a b : D} (ha : Ja x a) (hb : Ja y b) : Ja (.p x y) (mkpr a b) := by
 unfold KF.mkpr
 split
 ·simp only [Ja] at ha hb ⊢; rw [ha, hb]
 ·cases y <;> simp_all [Ja]
 ·exact ⟨ha, hb⟩
section
variable {w : World} {O : Nat → Prop} {hp : Nat → Option Ca} {σ : Nat → Value}
theorem Ha.length : ∀ {τ : Ty} {d : D} {cs : List Value}, Ja τ d → Ha w O hp σ d cs → cs.length = τ.size
 | τ, .t τ' x, cs, hs, h => by
  simp only [Ja] at hs; subst hs; exact Ia.length h
 | .sl _, .nil, cs, _, h => by simp [Ha] at h; simp [h, Ty.size]
 | .sl _, .own _, cs, _, h => by obtain ⟨v, h, _⟩ := h; simp [h, Ty.size]
 | .sl _, .cut _ _ _, cs, _, h => by obtain ⟨v, h, _⟩ := h; simp [h, Ty.size]
 | .p x y, .pr a b, cs, hs, h => by
  obtain ⟨c1, c2, h0, h1, h2⟩ := h
  have e1 := Ha.length hs.1 h1
  have e2 := Ha.length hs.2 h2
  simp [h0, Ty.size, e1, e2]
 | .u, .un, cs, _, h => by simp [Ha] at h; simp [h, Ty.size]
 | τ, .und, _, hs, _ => by cases τ <;> simp [Ja] at hs
 | τ, .ptr _ _, _, hs, _ => by cases τ <;> simp [Ja] at hs
 | τ, .eptr _ _ _, _, hs, _ => by cases τ <;> simp [Ja] at hs
 | τ, .rp _ _, _, hs, _ => by cases τ <;> simp [Ja] at hs
theorem Ha.p {x y : Ty} {d a b : D} {cs : List Value} (hs : Ja (.p x y) d) (ha : d.fst = some a) (hb : d.snd = some b) (h : Ha w O hp σ d cs) :
 Ha w O hp σ a (cs.take x.size) ∧ Ha w O hp σ b (cs.drop x.size) := by
 cases d with
 | t τ v =>
  simp only [Ja] at hs
  subst hs
  simp only [D.fst, D.snd, jc] at ha hb
  subst ha; subst hb
  obtain ⟨c1, c2, h0, h1, h2⟩ := h
  have e1 := Ia.length h1
  subst h0
  simp only [← e1, List.take_left, List.drop_left]
  exact ⟨h1, h2⟩
 | pr a' b' =>
  simp only [D.fst, D.snd, jc] at ha hb
  subst ha; subst hb
  obtain ⟨c1, c2, h0, h1, h2⟩ := h
  have e1 := Ha.length hs.1 h1
  subst h0
  simp only [← e1, List.take_left, List.drop_left]
  exact ⟨h1, h2⟩
 | _ => simp [Ja] at hs
theorem Ha.mkpr {a b : D} {c1 c2 : List Value} (h1 : Ha w O hp σ a c1) (h2 : Ha w O hp σ b c2) : Ha w O hp σ (mkpr a b) (c1 ++ c2) := by
 unfold KF.mkpr
 split
 ·exact ⟨c1, c2, rfl, h1, h2⟩
 ·simp only [Ha] at h2; subst h2; exact ⟨c1, [], rfl, h1, rfl⟩
 ·exact ⟨c1, c2, rfl, h1, h2⟩
theorem Ng : ∀ {ρ τ : Ty} {n : Nat}, Da ρ n = some τ → Xa ρ n + τ.size ≤ ρ.size
 | .p x y, τ, 0, h => by simp [Da] at h; subst h; simp [Xa, Ty.size]
 | .p x y, τ, n + 1, h => by
  have := Ng (ρ := y) (n := n) h
  simp [Xa, Ty.size]; omega
 | .i _, _, _, h => by simp [Da] at h
 | .b, _, _, h => by simp [Da] at h
 | .o, _, _, h => by simp [Da] at h
 | .s, _, _, h => by simp [Da] at h
 | .sl _, _, _, h => by simp [Da] at h
 | .u, _, _, h => by simp [Da] at h
theorem Od : ∀ {p : List Nat} {ρ τ : Ty}, Zb ρ p = some τ → Ka ρ p + τ.size ≤ ρ.size
 | [], ρ, τ, h => by simp [Zb] at h; subst h; simp [Ka]
 | f :: p, ρ, τ, h => by
  simp only [Zb] at h
  cases hf : Da ρ f with
  | none => simp [hf] at h
  | some τ' =>
   simp only [hf, jb] at h
   have h1 := Ng hf
   have h2 := Od (p := p) h
   simp [Ka, hf]; omega
theorem Ha.field : ∀ {n : Nat} {ρ τ : Ty} {d e : D} {cs : List Value}, Ja ρ d → Da ρ n = some τ → d.field n = some e → Ha w O hp σ d cs →
 Ja τ e ∧ Ha w O hp σ e ((cs.drop (Xa ρ n)).take τ.size)
 | 0, .p x y, τ, d, e, cs, hs, ht, he, h => by
  simp only [Da, jc] at ht
  subst ht
  obtain ⟨a, b, ha, hb, h1, h2⟩ := hs.p
  simp only [D.field, ha, jc] at he
  subst he
  exact ⟨h1, by simpa [Xa] using (Ha.p hs ha hb h).1⟩
 | n + 1, .p x y, τ, d, e, cs, hs, ht, he, h => by
  obtain ⟨a, b, ha, hb, h1, h2⟩ := hs.p
  simp only [D.field, hb] at he
  have := Ha.field h2 (show Da y n = some τ from ht) he (Ha.p hs ha hb h).2
  simpa [Xa, List.drop_drop, Nat.add_comm] using this
 | 0, .i _, _, _, _, _, _, ht, _, _ => by simp [Da] at ht
 | 0, .b, _, _, _, _, _, ht, _, _ => by simp [Da] at ht
 | 0, .o, _, _, _, _, _, ht, _, _ => by simp [Da] at ht
 | 0, .s, _, _, _, _, _, ht, _, _ => by simp [Da] at ht
 | 0, .sl _, _, _, _, _, _, ht, _, _ => by simp [Da] at ht
 | 0, .u, _, _, _, _, _, ht, _, _ => by simp [Da] at ht
 | n + 1, .i _, _, _, _, _, _, ht, _, _ => by simp [Da] at ht
 | n + 1, .b, _, _, _, _, _, ht, _, _ => by simp [Da] at ht
 | n + 1, .o, _, _, _, _, _, ht, _, _ => by simp [Da] at ht
 | n + 1, .s, _, _, _, _, _, ht, _, _ => by simp [Da] at ht
 | n + 1, .sl _, _, _, _, _, _, ht, _, _ => by simp [Da] at ht
 | n + 1, .u, _, _, _, _, _, ht, _, _ => by simp [Da] at ht
theorem Ha.at : ∀ {p : List Nat} {ρ τ : Ty} {d e : D} {cs : List Value}, Ja ρ d → Zb ρ p = some τ → d.at p = some e → Ha w O hp σ d cs →
 Ja τ e ∧ Ha w O hp σ e ((cs.drop (Ka ρ p)).take τ.size)
 | [], ρ, τ, d, e, cs, hs, ht, he, h => by
  simp only [Zb, jc] at ht
  subst ht
  simp only [D.at, jc] at he
  subst he
  have := Ha.length hs h
  exact ⟨hs, by simpa [Ka, ← this] using h⟩
 | f :: p, ρ, τ, d, e, cs, hs, ht, he, h => by
  simp only [Zb] at ht
  cases hf : Da ρ f with
  | none => simp [hf] at ht
  | some τ' =>
   simp only [hf, jb] at ht
   simp only [D.at] at he
   cases hd : d.field f with
   | none => simp [hd] at he
   | some x =>
    simp only [hd] at he
    obtain ⟨s1, r1⟩ := Ha.field hs hf hd h
    obtain ⟨s2, r2⟩ := Ha.at s1 ht he r1
    refine ⟨s2, ?_⟩
    have hle := Od ht
    simp only [Ka, hf, j5, Option.getD_some]
    rw [List.drop_take, List.take_take, List.drop_drop] at r2
    rwa [Nat.min_eq_left (by omega)] at r2
theorem Dd {cs ce : List Value} {o : Nat} (h : o + ce.length ≤ cs.length) : (Na cs o ce).length = cs.length := by
 simp [Na]; omega
theorem Sd {cs ce : List Value} {o : Nat} (h : o + ce.length ≤ cs.length) (j : Nat) :
 (Na cs o ce)[j]? = if j < o then cs[j]? else if j < o + ce.length then ce[j - o]? else cs[j]? := by
 unfold Na
 by_cases h1 : j < o
 ·rw [if_pos h1, List.append_assoc, j9 (by simp; omega), List.getElem?_take, if_pos h1]
 ·rw [if_neg h1]
  by_cases h2 : j < o + ce.length
  ·rw [if_pos h2, j9 (by simp; omega), qa (by simp; omega)]
   congr 1
   simp
   omega
  ·rw [if_neg h2, qa (by simp; omega), List.getElem?_drop]
   congr 1
   simp
   omega
theorem Oj {c1 c2 ce : List Value} {o : Nat} : Na (c1 ++ c2) (c1.length + o) ce = c1 ++ Na c2 o ce := by
 unfold Na
 rw [List.take_append, List.drop_append]
 simp [List.take_of_length_le, jr]
theorem Vu {cs ce : List Value} {o o' n : Nat} (h1 : o + n ≤ cs.length) (h2 : o' + ce.length ≤ n) :
 Na cs o (Na ((cs.drop o).take n) o' ce) = Na cs (o + o') ce := by
 have hl : ((cs.drop o).take n).length = n := by simp; omega
 have hl2 : (Na ((cs.drop o).take n) o' ce).length = n := by rw [Dd (by omega), hl]
 apply List.ext_getElem?
 intro j
 rw [Sd (cs := cs) (ce := ce) (o := o + o') (by omega), Sd (cs := cs) (o := o) (by omega), hl2]
 split
 ·rw [if_pos (by omega)]
 ·split
  ·rw [Sd (by omega)]
   split
   ·rw [if_pos (by omega), List.getElem?_take, if_pos (by omega), List.getElem?_drop]; congr 1; omega
   ·split
    ·rw [if_neg (by omega), if_pos (by omega)]; congr 1; omega
    ·rw [if_neg (by omega), if_neg (by omega), List.getElem?_take, if_pos (by omega), List.getElem?_drop]; congr 1; omega
  ·rw [if_neg (by omega), if_neg (by omega)]
theorem Ha.setField : ∀ {n : Nat} {ρ τ : Ty} {d e d' : D} {cs ce : List Value}, Ja ρ d → Da ρ n = some τ → Ja τ e → d.setField n e = some d' →
 Ja ρ d' ∧ (Ha w O hp σ d cs → Ha w O hp σ e ce → Ha w O hp σ d' (Na cs (Xa ρ n) ce))
 | 0, .p x y, τ, d, e, d', cs, ce, hs, ht, hse, he => by
  simp only [Da, jc] at ht
  subst ht
  obtain ⟨a, b, ha, hb, h1, h2⟩ := hs.p
  simp only [D.setField, hb, jc] at he
  subst he
  refine ⟨hse.mkpr h2, fun h hre => ?_⟩
  have := Ha.mkpr hre (Ha.p hs ha hb h).2
  rw [← Ha.length hse hre] at this
  simpa [Na, Xa] using this
 | n + 1, .p x y, τ, d, e, d', cs, ce, hs, ht, hse, he => by
  obtain ⟨a, b, ha, hb, h1, h2⟩ := hs.p
  simp only [D.setField, ha, hb] at he
  cases hb' : b.setField n e with
  | none => simp [hb'] at he
  | some b' =>
   simp only [hb', jc] at he
   subst he
   have ih := fun cs => Ha.setField (cs := cs) (ce := ce) h2 (show Da y n = some τ from ht) hse hb'
   refine ⟨h1.mkpr (ih []).1, fun h hre => ?_⟩
   obtain ⟨r1, r2⟩ := Ha.p hs ha hb h
   have := Ha.mkpr r1 ((ih _).2 r2 hre)
   have hl := Ha.length h1 r1
   rw [← Oj, hl, List.take_append_drop] at this
   exact this
 | n, .i _, _, _, _, _, _, _, _, ht, _, _ => by cases n <;> simp [Da] at ht
 | n, .b, _, _, _, _, _, _, _, ht, _, _ => by cases n <;> simp [Da] at ht
 | n, .o, _, _, _, _, _, _, _, ht, _, _ => by cases n <;> simp [Da] at ht
 | n, .s, _, _, _, _, _, _, _, ht, _, _ => by cases n <;> simp [Da] at ht
 | n, .sl _, _, _, _, _, _, _, _, ht, _, _ => by cases n <;> simp [Da] at ht
 | n, .u, _, _, _, _, _, _, _, ht, _, _ => by cases n <;> simp [Da] at ht
theorem Ja.field : ∀ {n : Nat} {ρ τ : Ty} {d e : D}, Ja ρ d → Da ρ n = some τ → d.field n = some e → Ja τ e
 | 0, .p x y, τ, d, e, hs, ht, he => by
  simp only [Da, jc] at ht
  subst ht
  obtain ⟨a, b, ha, hb, h1, h2⟩ := hs.p
  simp only [D.field, ha, jc] at he
  subst he
  exact h1
 | n + 1, .p x y, τ, d, e, hs, ht, he => by
  obtain ⟨a, b, ha, hb, h1, h2⟩ := hs.p
  simp only [D.field, hb] at he
  exact Ja.field h2 (show Da y n = some τ from ht) he
 | n, .i _, _, _, _, _, ht, _ => by cases n <;> simp [Da] at ht
 | n, .b, _, _, _, _, ht, _ => by cases n <;> simp [Da] at ht
 | n, .o, _, _, _, _, ht, _ => by cases n <;> simp [Da] at ht
 | n, .s, _, _, _, _, ht, _ => by cases n <;> simp [Da] at ht
 | n, .sl _, _, _, _, _, ht, _ => by cases n <;> simp [Da] at ht
 | n, .u, _, _, _, _, ht, _ => by cases n <;> simp [Da] at ht
theorem Ja.at : ∀ {p : List Nat} {ρ τ : Ty} {d e : D}, Ja ρ d → Zb ρ p = some τ → d.at p = some e → Ja τ e
 | [], ρ, τ, d, e, hs, ht, he => by
  simp only [Zb, jc] at ht
  subst ht
  simp only [D.at, jc] at he
  subst he
  exact hs
 | f :: p, ρ, τ, d, e, hs, ht, he => by
  simp only [Zb] at ht
  cases hf : Da ρ f with
  | none => simp [hf] at ht
  | some τ' =>
   simp only [hf, jb] at ht
   simp only [D.at] at he
   cases hd : d.field f with
   | none => simp [hd] at he
   | some x =>
    simp only [hd] at he
    exact Ja.at (Ja.field hs hf hd) ht he
theorem Ha.setAt : ∀ {p : List Nat} {ρ τ : Ty} {d e d' : D} {cs ce : List Value}, Ja ρ d → Zb ρ p = some τ → Ja τ e → d.setAt p e = some d' →
 Ja ρ d' ∧ (Ha w O hp σ d cs → Ha w O hp σ e ce → Ha w O hp σ d' (Na cs (Ka ρ p) ce))
 | [], ρ, τ, d, e, d', cs, ce, hs, ht, hse, he => by
  simp only [Zb, jc] at ht
  subst ht
  simp only [D.setAt, jc] at he
  subst he
  refine ⟨hse, fun h hre => ?_⟩
  have e1 := Ha.length hs h
  have e2 := Ha.length hse hre
  have : cs.drop ce.length = [] := List.drop_eq_nil_of_le (by omega)
  simpa [Na, Ka, this] using hre
 | f :: p, ρ, τ, d, e, d', cs, ce, hs, ht, hse, he => by
  simp only [Zb] at ht
  cases hf : Da ρ f with
  | none => simp [hf] at ht
  | some τ' =>
   simp only [hf, jb] at ht
   simp only [D.setAt] at he
   cases hd : d.field f with
   | none => simp [hd] at he
   | some x =>
    simp only [hd] at he
    cases hx : x.setAt p e with
    | none => simp [hx] at he
    | some x' =>
     simp only [hx] at he
     have hsx : Ja τ' x := Ja.field hs hf hd
     have ih := fun cs => Ha.setAt (cs := cs) (ce := ce) hsx ht hse hx
     have hf' := fun ce => Ha.setField (w := w) (O := O) (hp := hp) (σ := σ) (cs := cs) (ce := ce) hs hf (ih []).1 he
     refine ⟨(hf' []).1, fun h hre => ?_⟩
     obtain ⟨_, r1⟩ := Ha.field hs hf hd h
     have := (hf' _).2 h ((ih _).2 r1 hre)
     have hle := Od ht
     have hle2 := Ng hf
     have e1 := Ha.length hs h
     have e2 := Ha.length hse hre
     rw [Vu (by omega) (by omega)] at this
     simpa [Ka, hf] using this
end
def Ty.zc : Ty → List Value
 | .i k => [.int k 0]
 | .b => [.bool false]
 | .o => [.slice none 0 0]
 | .s => [.string ⟨#[]⟩]
 | .sl _ => [.slice none 0 0]
 | .u => []
 | .p x y => x.zc ++ y.zc
def Iz : Value → Value → Bool
 | .int k n, .int k' n' => k == k' && n == n'
 | .bool a, .bool b => a == b
 | .string a, .string b => a.size == 0 && b.size == 0
 | .slice none 0 0, .slice none 0 0 => true
 | _, _ => false
def Hl : List Value → List Value → Bool
 | [], [] => true
 | a :: r, b :: q => Iz a b && Hl r q
 | _, _ => false
theorem VC {a b : Value} (h : Iz a b = true) : a = b := by
 unfold Iz at h
 split at h
 ·simp at h; rw [h.1, h.2]
 ·simp at h; rw [h]
 ·simp at h
  rw [h.1, h.2]
 ·rfl
 ·simp at h
theorem En : ∀ {a b : List Value}, Hl a b = true → a = b
 | [], [], _ => rfl
 | a :: r, b :: q, h => by
  simp only [Hl, jd] at h
  rw [VC h.1, En h.2]
 | [], _ :: _, h => by simp [Hl] at h
 | _ :: _, [], h => by simp [Hl] at h
def Tl (P : Program) (t : TypeId) (τ : Ty) : Bool :=
 match P.info? t with
 | some i => Nat.beq i.size τ.size && jt i.bytes 65536 && (match i.zero with
  | some (.agg cs) => τ.isAgg && Hl cs.toList τ.zc
  | some z => !τ.isAgg && Hl [z] τ.zc
  | none => false)
 | none => false
mutual
def Xb (P : Program) : Ty → TypeId → Bool
 | .i k, t => Tl P t (.i k) && (match P.underlying t with | some (.int k') => k == k' | _ => false)
 | .b, t => Tl P t .b && (match P.underlying t with | some .bool => true | _ => false)
 | .o, t => Tl P t .o && (match P.underlying t with | some (.slice _) => true | _ => false)
 | .s, t => Tl P t .s && (match P.underlying t with | some .string => true | _ => false)
 | .sl e, t => Tl P t (.sl e) && (match P.underlying t with | some (.slice et) => Xb P e et | _ => false)
 | .u, t => Tl P t .u && !P.stoodInHeld t && (match P.underlying t with | some (.struct fs) => Nat.beq fs.size 0 | _ => false)
 | .p x y, t => Tl P t (.p x y) && (!P.stoodInHeld t && (!(x.cmp && y.cmp) || !P.eqGuardType P.depth t)) && (match P.underlying t with
  | some (.struct fs) => match fs.toList with
   | f :: r => Nat.beq f.offset 0 && f.name != "_" && Xb P x f.type && Tc P y r x.size
   | [] => false
  | _ => false)
def Tc (P : Program) : Ty → List Field → Nat → Bool
 | .u, [], _ => true
 | .p x y, f :: r, o => Nat.beq f.offset o && f.name != "_" && Xb P x f.type && Tc P y r (o + x.size)
 | _, _, _ => false
end
variable {P : Program}
theorem Tok.info {τ : Ty} {t : TypeId} (h : Xb P τ t = true) : Tl P t τ = true := by
 cases τ <;> simp only [Xb, jd] at h <;> first | exact h.1 | exact h.1.1
theorem Tok.size {τ : Ty} {t : TypeId} (h : Xb P τ t = true) : ∃ i, P.info? t = some i ∧ i.size = τ.size ∧ i.bytes ≤ 65536 ∧ i.zero = some (Ub τ τ.zc) := by
 have h := Tok.info h
 unfold Tl at h
 split at h
 ·rename_i i hi
  simp only [jd] at h
  obtain ⟨⟨h1, h2⟩, h3⟩ := h
  refine ⟨i, hi, js h1, Nat.le_of_ble_eq_true h2, ?_⟩
  split at h3
  ·rename_i cs hz
   simp only [jd] at h3
   rw [hz, Ub, if_pos h3.1, ← En h3.2]
  ·rename_i z _ hz
   simp only [jd] at h3
   have : τ.isAgg = false := by simpa using h3.1
   rw [hz, Ub, this, ← En h3.2]
   rfl
  ·simp at h3
 ·simp at h
theorem Tok.i {k : IntKind} {t : TypeId} (h : Xb P (.i k) t = true) : P.underlying t = some (.int k) := by
 simp only [Xb, jd] at h
 obtain ⟨_, h⟩ := h
 split at h
 ·rename_i k' hk; simp at h; rw [hk, h]
 ·simp at h
theorem Tok.b {t : TypeId} (h : Xb P .b t = true) : P.underlying t = some .bool := by
 simp only [Xb, jd] at h
 obtain ⟨_, h⟩ := h
 split at h
 ·assumption
 ·simp at h
theorem Tok.s {t : TypeId} (h : Xb P .s t = true) : P.underlying t = some .string := by
 simp only [Xb, jd] at h
 obtain ⟨_, h⟩ := h
 split at h
 ·assumption
 ·simp at h
theorem Tok.sl {e : Ty} {t : TypeId} (h : Xb P (.sl e) t = true) : ∃ et, P.underlying t = some (.slice et) ∧ Xb P e et = true := by
 simp only [Xb, jd] at h
 obtain ⟨_, h⟩ := h
 split at h
 ·rename_i et he; exact ⟨et, he, h⟩
 ·simp at h
theorem Tok.o {t : TypeId} (h : Xb P .o t = true) : ∃ et, P.underlying t = some (.slice et) := by
 simp only [Xb, jd] at h
 obtain ⟨_, h⟩ := h
 split at h
 ·rename_i et he; exact ⟨et, he⟩
 ·simp at h
theorem Fok.field : ∀ {τ τf : Ty} {fs : List Field} {o n : Nat}, Tc P τ fs o = true → Da τ n = some τf →
 ∃ f, fs[n]? = some f ∧ f.offset = o + Xa τ n ∧ Xb P τf f.type = true
 | .p x y, τf, f :: r, o, 0, h, ht => by
  simp only [Tc, jd] at h
  simp only [Da, jc] at ht
  subst ht
  exact ⟨f, rfl, by simpa [Xa] using js h.1.1.1, h.1.2⟩
 | .p x y, τf, f :: r, o, n + 1, h, ht => by
  simp only [Tc, jd] at h
  obtain ⟨f', h1, h2, h3⟩ := Fok.field h.2 (show Da y n = some τf from ht)
  exact ⟨f', by simpa using h1, by simp only [Xa]; omega, h3⟩
 | .p x y, _, [], _, _, h, _ => by simp [Tc] at h
 | .i _, _, _, _, _, _, ht => by simp [Da] at ht
 | .b, _, _, _, _, _, ht => by simp [Da] at ht
 | .o, _, _, _, _, _, ht => by simp [Da] at ht
 | .s, _, _, _, _, _, ht => by simp [Da] at ht
 | .sl _, _, _, _, _, _, ht => by simp [Da] at ht
 | .u, _, _, _, _, _, ht => by simp [Da] at ht
theorem Tok.struct {τ : Ty} {t : TypeId} (ha : τ.isAgg = true) (h : Xb P τ t = true) : ∃ fs, P.underlying t = some (.struct fs) ∧ Tc P τ fs.toList 0 = true := by
 cases τ with
 | p x y =>
  simp only [Xb, jd] at h
  obtain ⟨_, h⟩ := h
  split at h
  ·rename_i fs hfs
   refine ⟨fs, hfs, ?_⟩
   split at h
   ·rename_i f r hr
    rw [hr]
    simpa [Tc, jq] using h
   ·simp at h
  ·simp at h
 | u =>
  simp only [Xb, jd] at h
  obtain ⟨_, h⟩ := h
  split at h
  ·rename_i fs hfs
   refine ⟨fs, hfs, ?_⟩
   have : fs.toList = [] := by
    have := js h
    exact List.eq_nil_of_length_eq_zero (by simpa using this)
   rw [this]; rfl
  ·simp at h
 | _ => simp [Ty.isAgg] at ha
theorem Tok.isAgg {τ : Ty} {t : TypeId} (h : Xb P τ t = true) (w : World) : (Go.isAgg t).run P w = .ok τ.isAgg w := by
 unfold Go.isAgg
 cases hτ : τ with
 | i k => subst hτ; simp [run_underlying (Tok.i h), Ty.isAgg]
 | b => subst hτ; simp [run_underlying (Tok.b h), Ty.isAgg]
 | o => subst hτ; obtain ⟨et, he⟩ := Tok.o h; simp [run_underlying he, Ty.isAgg]
 | s => subst hτ; simp [run_underlying (Tok.s h), Ty.isAgg]
 | sl e => subst hτ; obtain ⟨et, he, _⟩ := Tok.sl h; simp [run_underlying he, Ty.isAgg]
 | u => subst hτ; obtain ⟨fs, he, _⟩ := Tok.struct rfl h; simp [run_underlying he, Ty.isAgg]
 | p x y => subst hτ; obtain ⟨fs, he, _⟩ := Tok.struct rfl h; simp [run_underlying he, Ty.isAgg]
theorem Tok.sizeOf {τ : Ty} {t : TypeId} (h : Xb P τ t = true) (w : World) : (Go.sizeOf t).run P w = .ok τ.size w := by
 obtain ⟨i, hi, hs, _⟩ := Tok.size h
 simp [Go.sizeOf, typeInfo, hi, hs]
theorem Tok.zero {τ : Ty} {t : TypeId} (h : Xb P τ t = true) (w : World) : (zeroValue t).run P w = .ok (Ub τ τ.zc) w := by
 obtain ⟨i, hi, _, _, hz⟩ := Tok.size h
 simp [zeroValue, typeInfo, hi, hz]
theorem Nf (b o n : Nat) : (⟨b, o, none⟩ : Addr).add n = ⟨b, o + n, none⟩ := by unfold Addr.add; split <;> simp_all
theorem Ty.size_one {τ : Ty} (h : τ.isAgg = false) : τ.size = 1 := by cases τ <;> simp_all [Ty.isAgg, Ty.size]
theorem Pg {τ : Ty} {t : TypeId} (h : Xb P τ t = true) {w : World} {b off : Nat} {cur : Array Value} {et : TypeId} {fr : Nat × Nat}
 (hh : w.heap[b]? = some (.cells cur et fr)) (hs : off + τ.size ≤ cur.size) : (loadVar t ⟨b, off, none⟩).run P w = .ok (Ub τ (Sb cur off τ.size)) w := by
 unfold loadVar
 rw [qi, Tok.isAgg h w]
 have hcell : ∀ j v, (Sb cur off τ.size)[j]? = some v → w.cell? ((⟨b, off, none⟩ : Addr).add j) = some v := by
  intro j v hv
  rw [Nf, cell_of_row w b (off + j) cur et fr hh]
  have hj : j < τ.size := by
   have := (List.getElem?_eq_some_iff.1 hv).1
   rw [Lb hs] at this; exact this
  rw [Hc cur off τ.size j hj] at hv
  exact hv
 cases ha : τ.isAgg with
 | true =>
  have hl := run_loadCells_list (P := P) w ⟨b, off, none⟩ (Sb cur off τ.size) hcell
  rw [Lb hs] at hl
  simp [Tok.sizeOf h w, hl, Ub, ha]
 | false =>
  have h1 := Ty.size_one ha
  have hl := Lb hs
  rw [h1] at hl
  obtain ⟨v, hv⟩ := List.length_eq_one_iff.1 hl
  have := hcell 0 v (by rw [h1, hv]; rfl)
  rw [Nf, Nat.add_zero] at this
  simp [run_load, this, Ub, ha, h1, hv]
theorem Nj {τ : Ty} {t : TypeId} (h : Xb P τ t = true) {w : World} {b off : Nat} {cur : Array Value} {et : TypeId} {v : Value}
 (hh : w.heap[b]? = some (.cells cur et (0, 0))) (hs : off + τ.size ≤ cur.size) (hv : v.cells.toList.length = τ.size) (h1 : ∀ x ∈ v.cells.toList, x.oneCell' = true) :
 (storeVar t ⟨b, off, none⟩ v).run P w = .ok () (w.setRow b (Na cur.toList off v.cells.toList).toArray) := by
 unfold storeVar
 have hv' : v.cells.size = τ.size := by simpa using hv
 have := run_storeCells_at P b off et v.cells.toList 0 cur w hh (by rw [hv]; simpa using hs) h1
 simp only [Nat.add_zero] at this
 simp [Tok.sizeOf h w, hv', this, Na]
def Dk : Nat := 1073741824
def Oe {α : Type} (xs : List α) (i : Int) : Option α := bif decide (0 ≤ i) then xs[i.toNat]? else none
def Kk (n : Nat) (i : Int) : Bool := decide (0 ≤ i) && decide (i < n)
def SF (k : IntKind) (x y : Int) : Int := k.wrap (x * 2 ^ (min y.toNat k.bits))
def TF (k : IntKind) (x y : Int) : Int := x.fdiv (2 ^ (min y.toNat k.bits))
def Bi (k : IntKind) (x y : Int) : Int := k.wrap (BitVec.ofInt k.bits x &&& BitVec.ofInt k.bits y).toNat
def HH (k : IntKind) (x y : Int) : Int := k.wrap (BitVec.ofInt k.bits x ||| BitVec.ofInt k.bits y).toNat
def UF (k : IntKind) (x y : Int) : Int := k.wrap (BitVec.ofInt k.bits x ^^^ BitVec.ofInt k.bits y).toNat
def Dv (k : IntKind) (x y : Int) : Int := k.wrap (BitVec.ofInt k.bits x &&& ~~~ BitVec.ofInt k.bits y).toNat
def Fd {α : Type} (xs : List α) (lo hi : Nat) : List α := (xs.take hi).drop lo
def Wd (n : Nat) (lo hi : Int) : Bool := decide (0 ≤ lo) && (decide (lo ≤ hi) && decide (hi ≤ n))
def Tf (s : List UInt8) : List Int := s.map fun c => (c.toNat : Int)
def Xd (b : List Int) : List UInt8 := b.map fun n => UInt8.ofNat n.toNat
def Bl : (τ : Ty) → T τ → T τ → Bool
 | .i _, x, y => (show Int from x) == y
 | .b, x, y => (show Bool from x) == y
 | .o, _, _ => false
 | .s, x, y => (show List UInt8 from x) == y
 | .sl _, _, _ => false
 | .u, _, _ => true
 | .p a c, x, y => Bl a x.1 y.1 && Bl c x.2 y.2
def zT : (τ : Ty) → T τ
 | .i _ => (0 : Int)
 | .b => false
 | .o => ((none, 0, 0) : Option Addr × Nat × Nat)
 | .s => ([] : List UInt8)
 | .sl e => ([] : List (T e))
 | .u => ()
 | .p x y => (zT x, zT y)
def zD : Ty → D
 | .sl _ => .nil
 | .u => .un
 | .p x y => mkpr (zD x) (zD y)
 | τ => .t τ (zT τ)
def Za : Ty → D → Bool
 | τ, .t τ' _ => (Ty.dec τ' τ).isSome
 | .sl _, .nil => true
 | .sl _, .own _ => true
 | .p x y, .pr a b => Za x a && Za y b
 | .u, .un => true
 | _, _ => false
def Ve : (d : D) → (τ : Ty) → Option (T τ)
 | .t τ' x, τ => match Ty.dec τ' τ with
  | some ⟨h⟩ => some (h ▸ x)
  | none => none
 | .nil, .sl e => some ([] : List (T e))
 | .pr a b, .p x y => match Ve a x, Ve b y with
  | some u, some v => some (u, v)
  | _, _ => none
 | .un, .u => some ()
 | _, _ => none
def Ea (s : AS) : (d : D) → (τ : Ty) → Option (T τ)
 | .t τ' x, τ => match Ty.dec τ' τ with
  | some ⟨h⟩ => some (h ▸ x)
  | none => none
 | .nil, .sl e => some ([] : List (T e))
 | .own id, .sl e => match s.heap id with
  | some (.row e' _ xs) => match Ty.dec e' e with
   | some ⟨h⟩ => some (h ▸ xs)
   | none => none
  | _ => none
 | .cut id lo hi, .sl e => match s.heap id with
  | some (.row e' _ xs) => match Ty.dec e' e with
   | some ⟨h⟩ => some (h ▸ (Fd xs lo hi : List (T e')))
   | none => none
  | _ => none
 | .pr a b, .p x y => match Ea s a x, Ea s b y with
  | some u, some v => some (u, v)
  | _, _ => none
 | .un, .u => some ()
 | _, _ => none
def Sa (s : AS) : (d : D) → (τ : Ty) → Option (T τ × List Nat)
 | .t τ' x, τ => bif τ'.flat then match Ty.dec τ' τ with
  | some ⟨h⟩ => some (h ▸ x, [])
  | none => none
  else none
 | .nil, .sl e => some (([] : List (T e)), [])
 | .own id, .sl e => match s.heap id with
  | some (.row e' dp xs) => bif dp || e'.flat then match Ty.dec e' e with
   | some ⟨h⟩ => some (h ▸ xs, [id])
   | none => none
   else none
  | _ => none
 | .pr a b, .p x y => match Sa s a x, Sa s b y with
  | some (u, l), some (v, m) => some ((u, v), l ++ m)
  | _, _ => none
 | .un, .u => some ((), [])
 | _, _ => none
def Ty.cnt : Ty → Nat
 | .p x y => x.cnt + y.cnt + 1
 | _ => 1
def D.hasOwn : D → Bool
 | .own _ => true
 | .cut _ _ _ => true
 | .pr a b => a.hasOwn || b.hasOwn
 | _ => false
def Ld : List Nat → Bool
 | [] => true
 | a :: r => !(r.any (Nat.beq a)) && Ld r
inductive Qb where
 | pu (pt rt : Ty) (fr : List Bool) (f : T pt → Option (T rt))
 | io (τ pt rt : Ty) (fr : List Bool) (f : T τ → T pt → Option (T τ × T rt))
 | co (pt rt : Ty) (fr : List Bool) (f : T pt → Option (T rt))
 | bx (vw cv : Bool) (τ pt rt : Ty) (fr : List Bool) (f : T τ → T pt → Option (T τ × T rt))
 | nw (pt τ : Ty) (f : T pt → Option (T τ))
structure Pc where
 ty : List (Nat × Ty)
 fn : List (Nat × Qb)
 att : List (Nat × Nat)
 fz : Bool
 ar : List (Nat × Ty × Nat)
 mv : List Nat
 ml : List Nat
def Pp : Value → Option D
 | .int k n => some (.t (.i k) n)
 | .bool b => some (.t .b b)
 | .string s => some (.t .s s.data.toList)
 | .slice none 0 0 => some .nil
 | .pointer none => some .anyv
 | _ => none
def AS.ev (s : AS) : Operand → Option D
 | .tmp t => La s.tm t
 | .const v => Pp v
 | _ => none
def AS.newOk (s : AS) (id : Nat) : Bool := !s.ment id && Nat.blt id 500000
section
variable {Out : Type}
def Sf (s : AS) (dst : Option Tmp) (d : D) (upd : List (Nat × Option Ca)) (k : AS → Option Out) : Option Out :=
 match dst with
 | some t => bif Nat.blt t s.n then k ⟨s.n, (t, d) :: s.tm, upd ++ s.hp⟩ else none
 | none => k ⟨s.n, s.tm, upd ++ s.hp⟩
def Kb (l : List Nat) : List (Nat × Option Ca) := l.map fun id => (id, none)
def Lq (tb : Bool) (op : BinOp) (a b : D) (K : D → List (Nat × Option Ca) → Option Out) : Option Out :=
 match a, b with
 | .t (.i ka) x, .t (.i kb) y =>
  match op with
  | .shl => bif decide (0 ≤ (y : Int)) then K (.t (.i ka) (SF ka x y)) [] else none
  | .shr => bif decide (0 ≤ (y : Int)) then K (.t (.i ka) (TF ka x y)) [] else none
  | _ => bif ka == kb then
   match op with
   | .add => K (.t (.i ka) (ka.wrap ((x : Int) + y))) []
   | .sub => K (.t (.i ka) (ka.wrap ((x : Int) - y))) []
   | .mul => K (.t (.i ka) (ka.wrap ((x : Int) * y))) []
   | .quo => bif (y : Int) == 0 then none else K (.t (.i ka) (ka.wrap (Int.tdiv x y))) []
   | .rem => bif (y : Int) == 0 then none else K (.t (.i ka) (Int.tmod x y)) []
   | .and => K (.t (.i ka) (Bi ka x y)) []
   | .or => K (.t (.i ka) (HH ka x y)) []
   | .xor => K (.t (.i ka) (UF ka x y)) []
   | .andNot => K (.t (.i ka) (Dv ka x y)) []
   | .eql => K (.t .b ((x : Int) == y)) []
   | .neq => K (.t .b ((x : Int) != y)) []
   | .lss => K (.t .b (decide ((x : Int) < y))) []
   | .leq => K (.t .b (decide ((x : Int) ≤ y))) []
   | .gtr => K (.t .b (decide ((x : Int) > y))) []
   | .geq => K (.t .b (decide ((x : Int) ≥ y))) []
   | _ => none
   else none
 | .t .s x, .t .s y =>
  match op with
  | .add => bif jt (ja x + ja y) Dk then K (.t .s (jf x y)) [] else none
  | .eql => K (.t .b ((show List UInt8 from x) == y)) []
  | .neq => K (.t .b ((show List UInt8 from x) != y)) []
  | _ => none
 | .t .b x, .t .b y =>
  match op with
  | .eql => bif tb then K (.t .b ((show Bool from x) == y)) [] else none
  | .neq => bif tb then K (.t .b ((show Bool from x) != y)) [] else none
  | _ => none
 | _, _ => none
def IF (s : AS) (tb : Bool) (dst : Option Tmp) (op : BinOp) (a b : D) (k : AS → Option Out) : Option Out := Lq tb op a b fun d u => Sf s dst d u k
end
section
variable {Out : Type}
def Xg (s : AS) : List Operand → Option D
 | [] => some .un
 | x :: r => match s.ev x, Xg s r with
  | some a, some b => some (.pr a b)
  | _, _ => none
def Cc : (τ : Ty) → T τ → Nat → D × List (Nat × Option Ca) × Nat
 | .sl e, xs, n => (.own n, [(n, some (.row e true xs))], n + 1)
 | .u, _, n => (.un, [], n)
 | .p x y, v, n => match Cc x v.1 n with
  | (a, l, m) => match Cc y v.2 m with
   | (b, l', m') => (mkpr a b, l ++ l', m')
 | τ, x, n => (.t τ x, [], n)
def Zc : (τ : Ty) → T τ → List Bool → Nat → Option (D × List (Nat × Option Ca) × Nat)
 | .u, _, [], n => some (.un, [], n)
 | .p x y, v, f :: r, n =>
  match (bif f then Cc x v.1 n else (.t x v.1, [], n)) with
  | (a, l, m) => match Zc y v.2 r m with
   | some (b, l', m') => some (.pr a b, l ++ l', m')
   | none => none
 | _, _, _, _ => none
def Nm : D → Option D
 | .pr a .un => some a
 | d => some (.tup d)
def Fk : D → Nat → Option D
 | .pr a _, 0 => some a
 | .pr _ b, n + 1 => Fk b n
 | _, _ => none
def Rb (s : AS) (u : List (Nat × Option Ca)) : Bool := (u.all fun x => s.newOk x.1) && Ld (u.map (·.1))
def Vm (s : AS) (τ : Ty) : D → List (Nat × Operand) → Option D
 | d, [] => some d
 | d, (i, x) :: r => match s.ev x, Da τ i with
  | some e, some τ' => bif Za τ' e then match d.setField i e with
   | some d' => Vm s τ d' r
   | none => none
   else none
  | _, _ => none
def Wp (s : AS) (e : Ty) : Nat → List (Nat × Operand) → Option (List (T e) × List Nat)
 | _, [] => some ([], [])
 | n, (i, x) :: r => bif Nat.beq i n then match s.ev x with
  | some d => match Sa s d e, Wp s e (n + 1) r with
   | some (a, l), some (b, m) => some (a :: b, l ++ m)
   | _, _ => none
  | none => none
  else none
def Ym (s : AS) (e : Ty) : Nat → List (Nat × Operand) → Option (List (T e))
 | _, [] => some []
 | n, (i, x) :: r => bif Nat.beq i n then match s.ev x with
  | some d => match Ve d e, Ym s e (n + 1) r with
   | some a, some b => some (a :: b)
   | _, _ => none
  | none => none
  else none
def Un (s : AS) : Option Operand → Option Int
 | none => some 0
 | some x => match s.ev x with
  | some (.t (.i _) n) => some n
  | _ => none
def Sp (s : AS) (len : Nat) : Option Operand → Option Int
 | none => some (len : Int)
 | some x => match s.ev x with
  | some (.t (.i _) n) => some n
  | _ => none
def Fq (s : AS) (e : Ty) : D → Option (List (T e) × Bool × List Nat)
 | .nil => some ([], true, [])
 | .t (.sl e') ys => match Ty.dec e' e with
  | some ⟨h⟩ => some (h ▸ ys, e.flat, [])
  | none => none
 | .t .s y => match Ty.dec (.i .u8) e with
  | some ⟨h⟩ => some (h ▸ Tf y, true, [])
  | none => none
 | .own id => match s.heap id with
  | some (.row e' dp ys) => match Ty.dec e' e with
   | some ⟨h⟩ => some (h ▸ ys, dp || e.flat, bif e.flat then [] else [id])
   | none => none
  | _ => none
 | .cut id lo hi => match s.heap id with
  | some (.row e' dp ys) => match Ty.dec e' e with
   | some ⟨h⟩ => bif e.flat || !dp then some ((Fd (h ▸ ys : List (T e)) lo hi), e.flat, []) else none
   | none => none
  | _ => none
 | _ => none
def Lr (s : AS) (e : Ty) : D → Option (List (T e) × Option Bool × List Nat)
 | .nil => some ([], none, [])
 | .own id => match s.heap id with
  | some (.row e' dp ys) => match Ty.dec e' e with
   | some ⟨h⟩ => some (h ▸ ys, some (dp || e.flat), [id])
   | none => none
  | _ => none
 | .cut id lo hi => match s.heap id with
  | some (.row e' dp ys) => match Ty.dec e' e with
   | some ⟨h⟩ => bif e.flat || !dp then some ((Fd (h ▸ ys : List (T e)) lo hi), some e.flat, [id]) else none
   | none => none
  | _ => none
 | _ => none
def D.ids : D → List Nat
 | .own j | .ptr j _ | .eptr j _ _ | .cut j _ _ => [j]
 | .pr a b => a.ids ++ b.ids
 | .tup d => d.ids
 | _ => []
def D.owns : D → List Nat
 | .own j => [j]
 | .pr a b => a.owns ++ b.owns
 | _ => []
def D.noCut : D → Bool
 | .cut _ _ _ => false
 | .pr a b => a.noCut && b.noCut
 | _ => true
def Ek (l : List Nat) (x : Nat) : Bool := l.any (Nat.beq x)
def An (l m : List Nat) : Bool := l.any (Ek m)
def Ol : (d : D) → (τ : Ty) → T τ → List (Nat × Option Ca)
 | .own id, .sl e, xs => [(id, some (.row e true xs))]
 | .pr a b, .p x y, v => Ol a x v.1 ++ Ol b y v.2
 | _, _, _ => []
def Zk (G : Pc) (s : AS) (dst : Option Tmp) (f : FuncId) (args : List Operand) (K : D → List (Nat × Option Ca) → Option Out) : Option Out :=
 match La G.fn f with
 | some (.pu pt rt fr f) => match Xg s args with
  | some ds => match Ea s ds pt with
   | some x => jv (f x) fun r => match Zc rt r fr (100000 + 64 * dst.getD 0) with
    | some (d, u, m) => match Nm d with
     | some d' => bif jt m (100064 + 64 * dst.getD 0) && Rb s u && ((!ds.hasOwn || fr.all id) || (G.fz && ds.noCut)) then K d' (u ++ bif !ds.hasOwn || fr.all id then [] else Kb ds.owns) else none
     | none => none
    | none => none
   | none => none
  | none => none
 | some (.io τ pt rt fr f) => match args with
  | a0 :: args => match s.ev a0, Xg s args with
   | some d0, some ds => match Sa s d0 τ, Ea s ds pt with
    | some (x0, l), some x => jv (f x0 x) fun r => match Zc rt r.2 fr (100000 + 64 * dst.getD 0) with
     | some (d, u, m) => match Nm d with
      | some d' => bif jt m (100064 + 64 * dst.getD 0) && Rb s u && Ld l && !ds.hasOwn then K d' (u ++ Ol d0 τ r.1) else none
      | none => none
     | none => none
    | _, _ => none
   | _, _ => none
  | [] => none
 | some (.co pt rt fr f) => match Xg s args with
  | some ds => match Sa s ds pt with
   | some (x, l) => jv (f x) fun r => match Zc rt r fr (100000 + 64 * dst.getD 0) with
    | some (d, u, m) => match Nm d with
     | some d' => bif jt m (100064 + 64 * dst.getD 0) && Rb s u && Ld l then K d' (u ++ Kb l) else none
     | none => none
    | none => none
   | none => none
  | none => none
 | some (.bx vw cv τ pt rt fr f) => match args with
  | a0 :: args => match s.ev a0, Xg s args with
   | some (.ptr bid []), some ds => match s.heap bid with
    | some (.box τ' d0) => match Ty.dec τ' τ, (bif vw then (match Ve d0 τ with
     | some x => some (x, [])
     | none => none) else Sa s d0 τ), (bif cv then Sa s ds pt else match Ea s ds pt with
     | some x => some (x, [])
     | none => none) with
     | some _, some (x0, l), some (x, l2) => jv (f x0 x) fun r => match Zc rt r.2 fr (100000 + 64 * dst.getD 0) with
      | some (d, u, m) => match Nm d, (bif vw then (D.t τ r.1, [], m) else Cc τ r.1 m) with
       | some d', (e, v, m') => bif jt m' (100064 + 64 * dst.getD 0) && Rb s (u ++ v) && Ld (bid :: (l ++ l2)) && (cv || !ds.hasOwn) then K d' (u ++ (v ++ ((bid, some (.box τ e)) :: Kb (l ++ l2)))) else none
       | none, _ => none
      | none => none
     | _, _, _ => none
    | _ => none
   | _, _ => none
  | [] => none
 | some (.nw pt τ f) => match dst, Xg s args with
  | some tt, some ds => match Ea s ds pt with
   | some x => jv (f x) fun r => bif s.newOk tt && !ds.hasOwn then K (.ptr tt []) [(tt, some (.box τ (.t τ r)))] else none
   | none => none
  | _, _ => none
 | none => none
def Sq : Option Ty → Bool
 | some (.sl _) | some .s => true
 | _ => false
def Xh (G : Pc) (s : AS) (dst : Option Tmp) (t tx : TypeId) (a b : Operand) (K : D → List (Nat × Option Ca) → Option Out) : Option Out :=
 match dst, La G.ty t, s.ev a, s.ev b with
 | some tt, some (.sl e), some da, some db => match Lr s e da, Fq s e db with
  | some (xs, dp, l), some (ys, dq, m) =>
   bif (dp.getD dq == dq) && s.newOk tt && Ld (l ++ m) && Sq (La G.ty tx) then
    bif jt (ja xs + ja ys) Dk then
     K (.own tt) ((tt, some (.row e dq (jf xs ys))) :: Kb (l ++ m))
    else none
   else none
  | _, _ => none
 | _, _, _, _ => none
def Al (G : Pc) (s : AS) (t tx : TypeId) (a b : Operand) (K : D → List (Nat × Option Ca) → Option Out) : Option Out :=
 match La G.ty t, s.ev a, s.ev b with
 | some (.sl e), some (.own id), some db => match s.heap id with
  | some (.row e' dp xs) => match Ty.dec e' e, Fq s e' db with
   | some _, some (ys, _, _) => bif e'.flat && Sq (La G.ty tx) then
    bif jt (ja ys) (ja xs) then
     K (.t (.i .i64) ((ja ys : Nat) : Int)) [(id, some (.row e' dp (jf ys (List.drop (ja ys) xs))))]
    else none
    else none
   | _, _ => none
  | _ => none
 | _, _, _ => none
def Yy (G : Pc) : Option Tmp → Bool
 | some tt => Ek G.ml tt
 | none => false
def Jh (s : AS) (dst : Option Tmp) (τ : Ty) (id i : Nat) (e : Ty) (xs : List (T e)) (k : Nat) (K : D → List (Nat × Option Ca) → Option Out) : Option Out :=
 match Ty.dec e τ with
 | some _ => bif Nat.beq i k then jv xs[i]? fun x => match Cc e x (100000 + 64 * dst.getD 0) with
  | (d, u, m) => bif jt m (100064 + 64 * dst.getD 0) && Rb s u then K d ((id, some (.mov e xs (i + 1))) :: u) else none
  else none
 | none => none
def Mq (G : Pc) (s : AS) (dst : Option Tmp) (t : TypeId) (id : Nat) (lo hi : Option Operand) (K : D → List (Nat × Option Ca) → Option Out) : Option Out :=
 match s.heap id with
 | some (.row e dp xs) => match Un s lo, Sp s (ja xs) hi, La G.ty t with
  | some l, some h, some (.sl e') => match Ty.dec e e' with
   | some _ => bif Wd (ja xs) l h then (match dst with
    | some tt => bif Ek G.mv tt then (bif s.newOk tt then K (.own tt) [(tt, some (.row e dp (Fd xs l.toNat h.toNat))), (id, none)] else none) else K (.cut id l.toNat h.toNat) []
    | none => none) else none
   | none => none
  | _, _, _ => none
 | _ => none
def On (G : Pc) (s : AS) (t : TypeId) (id a b : Nat) (lo hi : Option Operand) (K : D → List (Nat × Option Ca) → Option Out) : Option Out :=
 match s.heap id with
 | some (.row e _ _) => match Un s lo, Sp s (b - a) hi, La G.ty t with
  | some l, some h, some (.sl e') => match Ty.dec e e' with
   | some _ => bif Wd (b - a) l h then K (.cut id (a + l.toNat) (a + h.toNat)) [] else none
   | none => none
  | _, _, _ => none
 | _ => none
def Ma (G : Pc) (s : AS) (o : Oper) (K : D → List (Nat × Option Ca) → Option Out) : Option Out :=
 match o.op with
 | .move x | .assign x => match s.ev x with
  | some d => K d []
  | none => none
 | .pick c a b => match s.ev c with
  | some (.t .b β) => cond (show Bool from β)
   (match s.ev a with | some d => K d [] | none => none)
   (match s.ev b with | some d => K d [] | none => none)
  | _ => none
 | .alloc t => match o.dst, La G.ty t with
  | some tt, some τ => bif s.newOk tt then K (.ptr tt []) [(tt, some (.box τ (zD τ)))] else none
  | some tt, none => match La G.ar t with
   | some (e, n) => bif s.newOk tt && (Nat.blt 0 n && (jt n 1000 && jt e.size 1000)) then K (.eptr tt 0 []) [(tt, some (.row e true (List.replicate n (zT e))))] else none
   | none => none
  | none, _ => none
 | .box t x => match o.dst, La G.ty t, s.ev x with
  | some tt, some τ, some d => bif s.newOk tt && Za τ d then K (.ptr tt []) [(tt, some (.box τ d))] else none
  | _, _, _ => none
 | .build t ps => match La G.ty t with
  | some τ => match Vm s τ (zD τ) ps.toList with
   | some d => bif τ.isAgg then K d [] else none
   | none => none
  | none => none
 | .buildSlice t n ps => match o.dst, La G.ty t with
  | some tt, some (.sl e) => match Wp s e 0 ps.toList with
   | some (xs, l) => bif s.newOk tt && Ld l && Nat.beq n ps.size && jt n 1000 && jt e.size 1000 then K (.own tt) ((tt, some (.row e true xs)) :: Kb l) else none
   | none => match Ym s e 0 ps.toList with
    | some xs => bif s.newOk tt && Nat.beq n ps.size && jt n 1000 && jt e.size 1000 then K (.own tt) [(tt, some (.row e false xs))] else none
    | none => none
  | _, _ => none
 | .load t x => match La G.ty t, s.ev x with
  | some τ, some (.ptr id path) => match s.heap id with
   | some (.box ρ d) => match Zb ρ path, d.at path with
    | some τ', some e => match Ty.dec τ' τ with
     | some _ => K e []
     | none => none
    | _, _ => none
   | _ => none
  | some τ, some (.rp τ' v) => match Ty.dec τ' τ with
   | some _ => K (.t τ' v) []
   | none => none
  | some τ, some (.eptr id i path) => bif Yy G o.dst then (match s.heap id, path with
   | some (.row e true xs), [] => Jh s o.dst τ id i e xs 0 K
   | some (.mov e xs k), [] => Jh s o.dst τ id i e xs k K
   | _, _ => none) else match s.heap id with
   | some (.row e dp xs) => jv xs[i]? fun x => match Zb e path, (D.t e x).at path with
    | some τ', some y => match Ty.dec τ' τ with
     | some _ => bif (!dp || e.flat) || τ'.flat then K y [] else match Ve y τ' with
      | some y' => match Cc τ' y' (100000 + 64 * o.dst.getD 0) with
       | (d, u, m) => bif jt m (100064 + 64 * o.dst.getD 0) && Rb s u then K d ((id, some (.hol e xs i x path τ' d)) :: u) else none
      | none => none
     | none => none
    | _, _ => none
   | _ => none
  | _, _ => none
 | .store t x v => match La G.ty t, s.ev x, s.ev v with
  | some τ, some (.ptr id path), some dv => match s.heap id with
   | some (.box ρ d) => match Zb ρ path, d.setAt path dv with
    | some τ', some d' => match Ty.dec τ' τ with
     | some _ => bif Za τ dv then K .und [(id, some (.box ρ d'))] else none
     | none => none
    | _, _ => none
   | _ => none
  | some τ, some (.eptr id i path), some dv => match s.heap id with
   | some (.row e dp xs) => match Zb e path with
    | some τ' => match Ty.dec τ' τ with
     | some _ => bif dp || e.flat then match Sa s dv τ with
      | some (y, l) => bif (dp || l.isEmpty) && Ld (id :: l) then jv xs[i]? fun x => match Nd e x path τ y with
       | some x' => K .und ((id, some (.row e dp (jx xs i x'))) :: Kb l)
       | none => none
       else none
      | none => none
      else match Ve dv τ with
       | some y => jv xs[i]? fun x => match Nd e x path τ y with
        | some x' => K .und [(id, some (.row e dp (jx xs i x')))]
        | none => none
       | none => none
     | none => none
    | none => none
   | some (.hol e xs i0 x path0 _ _) => match Zb e path with
    | some τ' => match Ty.dec τ' τ with
     | some _ => match Sa s dv τ with
      | some (y, l) => bif Ld (id :: l) && (path == path0) then
       bif Nat.beq i i0 then match Nd e x path τ y with
        | some x' => K .und ((id, some (.row e true (jx xs i x'))) :: Kb l)
        | none => none
       else none
       else none
      | none => none
     | none => none
    | none => none
   | _ => none
  | _, _, _ => none
 | .nilCheck x => match s.ev x with
  | some (.ptr id p) => match s.heap id with
   | some (.box _ _) => K (.ptr id p) []
   | _ => none
  | some (.rp τ v) => K (.rp τ v) []
  | some (.eptr id i p) => match (s.heap id).bind Ca.rowN with
   | some _ => K (.eptr id i p) []
   | none => none
  | _ => none
 | .binOp op t x y _ => match s.ev x, s.ev y with
  | some a, some b => bif a.isAgg then match La G.ty t with
   | some τ => match Ve a τ, Ve b τ with
    | some u, some v => bif τ.cmp && τ.isAgg && jt τ.cnt 9000 then match op with
     | .eql => K (.t .b (Bl τ u v)) []
     | .neq => K (.t .b (!Bl τ u v)) []
     | _ => none
     else none
    | _, _ => none
   | none => none
   else Lq (match La G.ty t with | some .b => true | _ => false) op a b K
  | _, _ => none
 | .unOp op _ x => match op, s.ev x with
  | .not, some (.t .b v) => K (.t .b (!(show Bool from v))) []
  | .neg, some (.t (.i kk) v) => K (.t (.i kk) (kk.wrap ((0 : Int) - v))) []
  | _, _ => none
 | .convert src t x => match La G.ty src, La G.ty t, s.ev x with
  | some _, some (.i kk), some (.t (.i _) n) => K (.t (.i kk) (kk.wrap n)) []
  | some .s, some .s, some (.t .s v) => K (.t .s v) []
  | some (.sl (.i .u8)), some .s, some d => match Ea s d (.sl (.i .u8)) with
   | some v => K (.t .s (Xd v)) []
   | none => none
  | some .s, some (.sl (.i .u8)), some (.t .s v) => bif jt (ja v) Dk then K (.t (.sl (.i .u8)) (Tf v)) [] else none
  | _, _, _ => none
 | .slice t x lo hi none => match s.ev x with
  | some (.t .s v) => match Un s lo, Sp s (ja v) hi, La G.ty t with
   | some l, some h, some .s => bif Wd (ja v) l h then K (.t .s (Fd v l.toNat h.toNat)) [] else none
   | _, _, _ => none
  | some (.t (.sl e) v) => match Un s lo, Sp s (ja v) hi, La G.ty t with
   | some l, some h, some (.sl e') => match Ty.dec e e' with
    | some _ => bif Wd (ja v) l h then K (.t (.sl e) (Fd v l.toNat h.toNat)) [] else none
    | none => none
   | _, _, _ => none
  | some (.own id) => Mq G s o.dst t id lo hi K
  | some .nil => match Un s lo, Sp s 0 hi, La G.ty t with
   | some l, some h, some (.sl _) => bif Wd 0 l h then K .nil [] else none
   | _, _, _ => none
  | some (.cut id a b) => On G s t id a b lo hi K
  | _ => none
 | .fieldAddr t x f => match La G.ty t, s.ev x with
  | some τ, some (.ptr id path) => match s.heap id with
   | some (.box ρ _) => match Zb ρ path, Da τ f with
    | some τ', some τf => match Ty.dec τ' τ with
     | some _ => bif Nat.blt 0 τf.size then K (.ptr id (path ++ [f])) [] else none
     | none => none
    | _, _ => none
   | _ => none
  | some τ, some (.eptr id i path) => match (s.heap id).bind Ca.rowN with
   | some (e, _) => match Zb e path, Da τ f with
    | some τ', some τf => match Ty.dec τ' τ with
     | some _ => bif Nat.blt 0 τf.size then K (.eptr id i (path ++ [f])) [] else none
     | none => none
    | _, _ => none
   | none => none
  | some τ, some (.rp τ' v) => match Ty.dec τ' τ, (D.t τ' v).field f, Da τ' f with
   | some _, some (.t τf u), some τg => bif Nat.blt 0 τg.size then K (.rp τf u) [] else none
   | _, _, _ => none
  | _, _ => none
 | .field t x f => match La G.ty t, s.ev x with
  | some τ, some d => bif Za τ d then match Da τ f, d.field f with
   | some _, some e => K e []
   | _, _ => none
   else none
  | _, _ => none
 | .indexAddr t x i => match La G.ty t, s.ev x, s.ev i with
  | some (.sl e'), some (.t (.sl e) xs), some (.t (.i _) n) => match Ty.dec e e' with
   | some _ => jv (Oe (show List (T e) from xs) n) fun v => K (.rp e v) []
   | none => none
  | some (.sl e'), some (.own id), some (.t (.i _) n) => match (s.heap id).bind Ca.rowN with
   | some (e, len) => match Ty.dec e e' with
    | some _ => bif Kk len n then K (.eptr id (ju n) []) [] else none
    | none => none
   | none => none
  | some (.sl e'), some (.cut id lo hi), some (.t (.i _) n) => match (s.heap id).bind Ca.rowN with
   | some (e, _) => match Ty.dec e e' with
    | some _ => bif Kk (hi - lo) n then K (.eptr id (lo + ju n) []) [] else none
    | none => none
   | none => none
  | none, some (.eptr id 0 []), some (.t (.i _) n) => match La G.ar t, (s.heap id).bind Ca.rowN with
   | some (e', c), some (e, len) => match Ty.dec e e' with
    | some _ => bif Nat.beq c len then bif Kk len n then K (.eptr id (ju n) []) [] else none else none
    | none => none
   | _, _ => none
  | _, _, _ => none
 | .index t x i => match La G.ty t, s.ev x, s.ev i with
  | some .s, some (.t .s v), some (.t (.i _) n) => jv (Oe (show List UInt8 from v) n) fun c => K (.t (.i .u8) (c.toNat : Int)) []
  | _, _, _ => none
 | .makeSlice t l c => match o.dst, La G.ty t, s.ev l, s.ev c with
  | some tt, some (.sl e), some (.t (.i .i64) n), some (.t (.i .i64) m) =>
   bif s.newOk tt then
    bif ((n : Int) == m) && (decide ((0 : Int) ≤ n) && decide ((n : Int) ≤ Dk)) then
     K (.own tt) [(tt, some (.row e true (List.replicate (ju n) (zT e))))]
    else none
   else none
  | _, _, _, _ => none
 | .extract x n => match s.ev x with
  | some (.tup d) => match Fk d n with
   | some e => K e []
   | none => none
  | _ => none
 | .call ⟨.value (.func f), args, _⟩ => Zk G s o.dst f args.toList K
 | .call ⟨.builtin .len, args, ts⟩ => match args.toList, ts.toList with
  | [x], [t] => match La G.ty t, s.ev x with
   | some (.sl _), some (.t (.sl _) xs) => K (.t (.i .i64) (ja xs : Int)) []
   | some .s, some (.t .s v) => K (.t (.i .i64) (ja v : Int)) []
   | some (.sl _), some .nil => K (.t (.i .i64) (0 : Int)) []
   | some (.sl _), some (.own id) => match (s.heap id).bind Ca.rowN with
    | some (_, len) => K (.t (.i .i64) (len : Int)) []
    | none => none
   | some (.sl _), some (.cut id lo hi) => match (s.heap id).bind Ca.rowN with
    | some _ => K (.t (.i .i64) ((hi - lo : Nat) : Int)) []
    | none => none
   | _, _ => none
  | _, _ => none
 | .call ⟨.builtin .append, args, ts⟩ => match args.toList, ts.toList with
  | [a, b], [t, tx] => Xh G s o.dst t tx a b K
  | _, _ => none
 | .call ⟨.builtin .copy, args, ts⟩ => match args.toList, ts.toList with
  | [a, b], [t, tx] => Al G s t tx a b K
  | _, _ => none
 | .call ⟨.builtin .max, args, _⟩ => match args.toList with
  | [x, y] => match s.ev x, s.ev y with
   | some (.t (.i ka) a), some (.t (.i kb) b) => bif ka == kb then K (.t (.i ka) (max (a : Int) b)) [] else none
   | _, _ => none
  | _ => none
 | .call ⟨.builtin .min, args, _⟩ => match args.toList with
  | [x, y] => match s.ev x, s.ev y with
   | some (.t (.i ka) a), some (.t (.i kb) b) => bif ka == kb then K (.t (.i ka) (min (a : Int) b)) [] else none
   | _, _ => none
  | _ => none
 | _ => none
def Gc (G : Pc) (s : AS) (o : Oper) (k : AS → Option Out) : Option Out := Ma G s o fun d u => Sf s o.dst d u k
end
inductive Ex where
 | normal
 | exit (id : Nat)
 | ret
inductive TD where
 | data (τ : Ty)
 | own (id : Nat) (e : Ty) (dp : Bool)
 | ptr (id : Nat) (path : List Nat)
 | pr (a b : TD)
 | un
 | hol (id : Nat) (e : Ty) (path : List Nat) (τ : Ty) (d : TD)
 | arr (id : Nat) (e : Ty)
 | mov (id : Nat) (e : Ty)
@[reducible] def TD.ty : TD → Ty
 | .data τ => τ
 | .own _ e _ => .sl e
 | .ptr _ _ => .u
 | .pr a b => .p a.ty b.ty
 | .un => .u
 | .hol _ e _ _ d => .p (.sl e) (.p (.i .i64) (.p e d.ty))
 | .arr _ e => .sl e
 | .mov _ e => .p (.sl e) (.i .i64)
structure Yi where
 tm : List (Tmp × TD)
 bx : List (Nat × Ty × TD)
@[reducible] def Yi.tyT : List (Tmp × TD) → Ty
 | [] => .u
 | (_, d) :: r => .p d.ty (Yi.tyT r)
@[reducible] def Yi.tyB : List (Nat × Ty × TD) → Ty
 | [] => .u
 | (_, _, d) :: r => .p d.ty (Yi.tyB r)
@[reducible] def Yi.X (p : Yi) : Type := T (Yi.tyT p.tm) × T (Yi.tyB p.bx)
abbrev He := List (Nat × Option Nat)
def Dh : (td : TD) → T td.ty → D
 | .data τ, x => .t τ x
 | .own id _ _, _ => .own id
 | .ptr id p, _ => .ptr id p
 | .pr a b, v => .pr (Dh a v.1) (Dh b v.2)
 | .un, _ => .un
 | .hol id _ _ _ _, _ => .own id
 | .arr id _, _ => .eptr id 0 []
 | .mov id _, _ => .own id
def Ac (s : AS) : (td : TD) → D → Option (T td.ty × He)
 | .data τ, d => match Ve d τ with
  | some x => some (x, [])
  | none => none
 | .own id' e dp, .own id => match s.heap id with
  | some (.row e' dp' xs) => match Ty.dec e' e with
   | some ⟨h⟩ => bif (dp' == dp) || e.flat then some ((h ▸ xs : List (T e)), [(id', some id)]) else none
   | none => none
  | _ => none
 | .own id' _ _, .nil => some (([] : List _), [(id', none)])
 | .hol id' e path τ td, .own id => match s.heap id with
  | some (.hol e' xs i x path' τ' d) => match Ty.dec e' e, Ty.dec τ' τ with
   | some ⟨h⟩, some _ => bif path == path' then match Ac s td d with
    | some (y, m) => bif Za τ (Dh td y) then some (((h ▸ xs : List (T e)), ((((i : Nat) : Int), ((h ▸ x : T e), y)))), (id', some id) :: m) else none
    | none => none
    else none
   | _, _ => none
  | _ => none
 | .arr id' e, .eptr id 0 [] => match s.heap id with
  | some (.row e' true xs) => match Ty.dec e' e with
   | some ⟨h⟩ => some ((h ▸ xs : List (T e)), [(id', some id)])
   | none => none
  | _ => none
 | .mov id' e, .own id => match s.heap id with
  | some (.row e' true xs) => match Ty.dec e' e with
   | some ⟨h⟩ => some (((h ▸ xs : List (T e)), (0 : Int)), [(id', some id)])
   | none => none
  | some (.mov e' xs k) => match Ty.dec e' e with
   | some ⟨h⟩ => some (((h ▸ xs : List (T e)), ((k : Nat) : Int)), [(id', some id)])
   | none => none
  | _ => none
 | .ptr id' p, .ptr id q => bif p == q then some ((), [(id', some id)]) else none
 | .pr a b, d => match d.fst, d.snd with
  | some x, some y => match Ac s a x, Ac s b y with
   | some (u, l), some (v, m) => some ((u, v), l ++ m)
   | _, _ => none
  | _, _ => none
 | .un, d => match Ve d .u with
  | some x => some (x, [])
  | none => none
 | _, _ => none
def Sy (s : AS) : (l : List (Tmp × TD)) → Option (T (Yi.tyT l) × He)
 | [] => some ((), [])
 | (t, td) :: r => match La s.tm t with
  | some d => match Ac s td d, Sy s r with
   | some (x, m), some (y, n) => some ((x, y), m ++ n)
   | _, _ => none
  | none => none
def Rv (s : AS) : (l : List (Nat × Ty × TD)) → He → Option (T (Yi.tyB l) × He)
 | [], m => some ((), m)
 | (id', ρ, td) :: r, m => match La m id' with
  | some (some id) => match s.heap id with
   | some (.box ρ' d) => match Ty.dec ρ' ρ with
    | some _ => match Ac s td d with
     | some (x, m') => bif Za ρ (Dh td x) then match Rv s r (m ++ m') with
      | some (y, m'') => some ((x, y), m'')
      | none => none
      else none
     | none => none
    | none => none
   | _ => none
  | _ => none
def Ul : He → Bool
 | [] => true
 | (j, some i) :: r => ((Nat.blt j 500000 && Nat.blt i 500000) || Nat.beq j i) && Ul r
 | (j, none) :: r => Nat.blt j 500000 && Ul r
def Fl (x y : Nat × Option Nat) : Bool := match x.2, y.2 with
 | some a, some c => Nat.beq x.1 y.1 == Nat.beq a c
 | none, none => true
 | _, _ => !Nat.beq x.1 y.1
def ID (m : He) : Bool := (m.all fun x => m.all fun y => Fl x y) && Ul m
def ext (p : Yi) (s : AS) : Option p.X :=
 match Sy s p.tm with
 | some (x, m) => match Rv s p.bx m with
  | some (y, m') => bif ID m' then some (x, y) else none
  | none => none
 | none => none
def Mj : (td : TD) → T td.ty → List (Nat × Option Ca)
 | .own id e dp, xs => [(id, some (.row e dp xs))]
 | .pr a b, v => Mj a v.1 ++ Mj b v.2
 | .hol id e path τ d, v => (id, some (.hol e v.1 (ju v.2.1) v.2.2.1 path τ (Dh d v.2.2.2))) :: Mj d v.2.2.2
 | .arr id e, xs => [(id, some (.row e true xs))]
 | .mov id e, v => [(id, some (.mov e v.1 (ju v.2)))]
 | _, _ => []
def Xs : (l : List (Tmp × TD)) → T (Yi.tyT l) → List (Nat × D)
 | [], _ => []
 | (t, td) :: r, v => (t, Dh td v.1) :: Xs r v.2
def Et : (l : List (Tmp × TD)) → T (Yi.tyT l) → List (Nat × Option Ca)
 | [], _ => []
 | (_, td) :: r, v => Mj td v.1 ++ Et r v.2
def Ws : (l : List (Nat × Ty × TD)) → T (Yi.tyB l) → List (Nat × Option Ca)
 | [], _ => []
 | (id, ρ, td) :: r, v => (id, some (.box ρ (Dh td v.1))) :: (Mj td v.1 ++ Ws r v.2)
def Km (p : Yi) (x : p.X) (n : Nat) : AS := ⟨n, Xs p.tm x.1, Et p.tm x.1 ++ Ws p.bx x.2⟩
structure Nb where
 n : Nat
 inT : Yi
 exitId : Nat
 outT : Yi
 retT : Yi
 F : inT.X → Option (outT.X ⊕ retT.X)
def Pe : Code → Option Nat
 | .region id _ _ => some id
 | .seq a b => match Pe a with
  | some r => some r
  | none => Pe b
 | .cond _ a b => match Pe a with
  | some r => some r
  | none => Pe b
 | .block _ c | .loop c | .scope c => Pe c
 | _ => none
def Ca.ids : Ca → List Nat
 | .box _ d => d.ids
 | .row _ _ _ => []
 | .hol _ _ _ _ _ _ d => d.ids
 | .mov _ _ _ => []
def AS.attach (s : AS) (id : Nat) : Option AS := match s.heap id with
 | some (.hol e xs i x path τ d) => match Sa s d τ with
  | some (y, l) => bif Ld (id :: l) then match Nd e x path τ y with
   | some x' => some ⟨s.n, s.tm, (id, some (.row e true (jx xs i x'))) :: (Kb l ++ s.hp)⟩
   | none => none
   else none
  | none => none
 | _ => some s
def D.frz (id : Nat) (τ : Ty) (x : T τ) : D → D
 | .own j => bif Nat.beq j id then .t τ x else .own j
 | .pr a b => .pr (a.frz id τ x) (b.frz id τ x)
 | .tup d => .tup (d.frz id τ x)
 | d => d
def Ca.frz (id : Nat) (τ : Ty) (x : T τ) : Ca → Ca
 | .box ρ d => .box ρ (d.frz id τ x)
 | .hol e xs i z path τ' d => .hol e xs i z path τ' (d.frz id τ x)
 | b => b
def Ca.shaped : Ca → Bool
 | .box ρ d => Za ρ d
 | .hol _ _ _ _ _ τ d => Za τ d
 | _ => true
def AS.freeze (s : AS) (id : Nat) : Option AS := match s.heap id with
 | some (.row e _ xs) => match (s.hp.map fun p => (p.1, p.2.map (Ca.frz id (.sl e) xs))) with
  | hp => bif hp.all fun p => (p.2.map Ca.shaped).getD true then some ⟨s.n, s.tm.map fun p => (p.1, p.2.frz id (.sl e) xs), (id, none) :: hp⟩ else none
 | _ => some s
def Hn (fz : Bool) : List (Nat × Nat) → Nat → AS → Option AS
 | [], _, s => some s
 | (r, id) :: l, n, s => bif Nat.beq r n then match (bif jt 1000000000 id then (bif fz then s.freeze (id - 1000000000) else none) else s.attach id) with
  | some s' => Hn fz l n s'
  | none => none
  else Hn fz l n s
structure FP where
 rt : List Nat
 ri : List Nat
 wt : Option Nat
 wi : List Nat
 mi : List Nat
def Db : Op → List Operand
 | .move x | .assign x => [x]
 | .pick c a b => [c, a, b]
 | .box _ x => [x]
 | .build _ ps => ps.toList.map (·.2)
 | .buildSlice _ _ ps => ps.toList.map (·.2)
 | .load _ x => [x]
 | .store _ x v => [x, v]
 | .nilCheck x => [x]
 | .binOp _ _ x y _ => [x, y]
 | .unOp _ _ x => [x]
 | .convert _ _ x => [x]
 | .slice _ x lo hi _ => x :: (lo.toList ++ hi.toList)
 | .fieldAddr _ x _ => [x]
 | .field _ x _ => [x]
 | .indexAddr _ x i => [x, i]
 | .index _ x i => [x, i]
 | .makeSlice _ l c => [l, c]
 | .extract x _ => [x]
 | .call ⟨_, args, _⟩ => args.toList
 | _ => []
def Bg : List Operand → List Nat
 | [] => []
 | .tmp t :: r => t :: Bg r
 | _ :: r => Bg r
def Dm (s : AS) : D → List Nat
 | .ptr id _ => match s.heap id with
  | some (.box _ d) => d.ids
  | _ => []
 | _ => []
def Pk : Op → Bool
 | .call _ => true
 | _ => false
def Sj : Op → Bool
 | .move _ | .assign _ => true
 | _ => false
def Hd : Op → Bool
 | .nilCheck _ | .fieldAddr _ _ _ | .indexAddr _ _ _ => true
 | .call ⟨.builtin .len, _, _⟩ => true
 | _ => false
def Qq : Op → Bool
 | .load _ _ | .store _ _ _ => true
 | _ => false
def Wm (s : AS) (c : Bool) : List Operand → List Nat
 | [] => []
 | x :: r => match s.ev x with
  | some d => (d.ids ++ bif c then Dm s d else []) ++ Wm s c r
  | none => Wm s c r
def Tg : List (Nat × Option Ca) → List Nat
 | [] => []
 | (_, some b) :: r => b.ids ++ Tg r
 | (_, none) :: r => Tg r
def Xp (H : List Nat) : List Nat → List Nat
 | [] => []
 | x :: r => bif Ek H x then Xp H r else x :: Xp H r
def Rt (H : List Nat) (s : AS) (o : Oper) (g : List Nat) (d : D) (u : List (Nat × Option Ca)) : FP :=
 ⟨g ++ Bg (Db o.op), bif Sj o.op then [] else bif Hd o.op then Xp H (Wm s (Pk o.op) (Db o.op)) else Wm s (Pk o.op) (Db o.op), o.dst, u.map (·.1), d.ids ++ Tg u⟩
def Ts (H : List Nat) (o : Op) (u : List (Nat × Option Ca)) : Bool := match H with
 | [] => true
 | _ => bif Qq o then !An H (u.tail.map (·.1)) else !An H (u.map (·.1))
def Wv : List (Nat × Nat) → Nat → List Nat
 | [], _ => []
 | (r, id) :: l, n => bif Nat.beq r n then id :: Wv l n else Wv l n
def Ct (dst : Option Nat) (l : List Nat) : Bool := match dst with
 | some t => l.any fun id => Nat.beq id t || (jt (100000 + 64 * t) id && Nat.blt id (100064 + 64 * t))
 | none => l.any fun id => jt 100000 id && Nat.blt id 100064
def Nw (t : Option Nat) (l : List Nat) : Bool := match t with
 | some t => Ek l t
 | none => false
def Vs (f g : FP) : Bool :=
 !Nw f.wt g.rt && !Nw g.wt f.rt && !Nw f.wt g.wt.toList && !An f.wi g.ri && !An g.wi f.ri && !An f.wi g.wi && !Ct f.wt g.mi && !Ct g.wt f.mi
def Ks : List Nat → List Nat → List Nat
 | [], l => l
 | x :: r, l => Ks r (bif Ek l x then l else x :: l)
def Nq (prev : List (Nat × (List Nat × FP))) : List Edge → List Nat → List Nat
 | [], l => l
 | e :: r, l => bif Region.binds .any e then Nq prev r (Ks (e.on :: (match La prev e.on with
  | some (a, _) => a
  | none => [])) l) else Nq prev r l
def Ny (i : Nat) (es : List Edge) : Bool := es.all fun e => !Region.binds .any e || Nat.blt e.on i
def Cl (anc : List Nat) (f : FP) (prev : List (Nat × (List Nat × FP))) : Bool := prev.all fun p => Ek anc p.1 || Vs p.2.2 f
section
variable {Out : Type}
def Xj (G : Pc) (H : List Nat) (ops : Array Oper) : List Oper → Nat → List (Nat × (List Nat × FP)) → AS → (AS → Option Out) → Option Out
 | [], _, _, s, k => k s
 | o :: r, i, prev, s, k => bif Ny i o.after.toList then
  match Nq prev o.after.toList [] with
  | anc => match o.guard with
   | none => Ma G s o fun d u => match Rt H s o [] d u with
    | f => bif Cl anc f prev && Ts H o.op u then Sf s o.dst d u fun s' => Xj G H ops r (i + 1) ((i, (anc, f)) :: prev) s' k else none
   | some (j, want) => match (ops[j]?).bind (·.dst) with
    | some t => match La s.tm t with
     | some (.t .b β) => match Rt H s o [t] .und [] with
      | f0 => cond (show Bool from β)
       (bif want then Ma G ⟨s.n, (t, .t .b true) :: s.tm, s.hp⟩ o fun d u => match Rt H s o [t] d u with
        | f => bif Cl anc f prev && Ts H o.op u then Sf ⟨s.n, (t, .t .b true) :: s.tm, s.hp⟩ o.dst d u fun s' => Xj G H ops r (i + 1) ((i, (anc, f)) :: prev) s' k else none
        else bif Cl anc f0 prev then Sf ⟨s.n, (t, .t .b true) :: s.tm, s.hp⟩ o.dst .und [] fun s' => Xj G H ops r (i + 1) ((i, (anc, f0)) :: prev) s' k else none)
       (bif want then bif Cl anc f0 prev then Sf ⟨s.n, (t, .t .b false) :: s.tm, s.hp⟩ o.dst .und [] fun s' => Xj G H ops r (i + 1) ((i, (anc, f0)) :: prev) s' k else none
        else Ma G ⟨s.n, (t, .t .b false) :: s.tm, s.hp⟩ o fun d u => match Rt H s o [t] d u with
         | f => bif Cl anc f prev && Ts H o.op u then Sf ⟨s.n, (t, .t .b false) :: s.tm, s.hp⟩ o.dst d u fun s' => Xj G H ops r (i + 1) ((i, (anc, f)) :: prev) s' k else none)
     | some .und => match Rt H s o [t] .und [] with
      | f0 => bif Cl anc f0 prev then Sf s o.dst .und [] fun s' => Xj G H ops r (i + 1) ((i, (anc, f0)) :: prev) s' k else none
     | _ => none
    | none => none
  else none
end
section
variable {Out : Type}
def Nk (G : Pc) (r : Nat) (ops : Array Oper) : List Oper → Nat → AS → (AS → Option Out) → Option Out
 | [], _, s, k => k s
 | o :: rest, i, s, k => match Hn G.fz G.att (1000 * r + i + 1) s with
  | none => none
  | some s => match o.guard with
   | none => Gc G s o fun s' => Nk G r ops rest (i + 1) s' k
   | some (j, want) => match (ops[j]?).bind (·.dst) with
    | some t => match La s.tm t with
     | some (.t .b β) => cond (show Bool from β)
      (bif want then Gc G ⟨s.n, (t, .t .b true) :: s.tm, s.hp⟩ o fun s' => Nk G r ops rest (i + 1) s' k
       else Sf ⟨s.n, (t, .t .b true) :: s.tm, s.hp⟩ o.dst .und [] fun s' => Nk G r ops rest (i + 1) s' k)
      (bif want then Sf ⟨s.n, (t, .t .b false) :: s.tm, s.hp⟩ o.dst .und [] fun s' => Nk G r ops rest (i + 1) s' k
       else Gc G ⟨s.n, (t, .t .b false) :: s.tm, s.hp⟩ o fun s' => Nk G r ops rest (i + 1) s' k)
     | some .und => Sf s o.dst .und [] fun s' => Nk G r ops rest (i + 1) s' k
     | _ => none
    | none => none
def Pi (G : Pc) (L : List (Nat × Nb)) : Code → AS → (Ex → AS → Option Out) → Option Out
 | .skip, s, k => k .normal s
 | .region r ops draw, s, k => match Hn G.fz G.att (1000 * r) s with
  | some s => bif draw then Xj G (Wv G.att (1000 * r + 998)) ops ops.toList 0 [] s fun s' => match Hn G.fz G.att (1000 * r + 999) s' with
   | some s' => k .normal s'
   | none => none
   else Nk G r ops ops.toList 0 s fun s' => match Hn G.fz G.att (1000 * r + 999) s' with
    | some s' => k .normal s'
    | none => none
  | none => none
 | .seq a b, s, k => Pi G L a s fun e s' => match e with
  | .normal => Pi G L b s' k
  | .exit j => k (.exit j) s'
  | .ret => k .ret s'
 | .cond (.tmp t) x y, s, k => match La s.tm t with
  | some (.t .b β) => cond (show Bool from β) (Pi G L x ⟨s.n, (t, .t .b true) :: s.tm, s.hp⟩ k) (Pi G L y ⟨s.n, (t, .t .b false) :: s.tm, s.hp⟩ k)
  | _ => none
 | .cond (.const (.bool β)) x y, s, k => cond β (Pi G L x s k) (Pi G L y s k)
 | .block id c, s, k => Pi G L c s fun e s' => match e with
  | .normal => k .normal s'
  | .exit j => bif Nat.beq j id then k .normal s' else k (.exit j) s'
  | .ret => k .ret s'
 | .loop c, s, k => match Pe c with
  | some r => match La L r with
   | some ls => match ext ls.inT s with
    | some x => bif Nat.beq s.n ls.n then jv (ls.F x) (jy (fun y => k (.exit ls.exitId) (Km ls.outT y s.n)) (fun z => k .ret (Km ls.retT z s.n))) else none
    | none => none
   | none => none
  | none => none
 | .exit id, s, k => k (.exit id) s
 | .ret, s, k => k .ret s
 | _, _, _ => none
def Dn (G : Pc) (L : List (Nat × Nb)) (ls : Nb) (body : Code) (x : ls.inT.X) : Option (ls.inT.X ⊕ (ls.outT.X ⊕ ls.retT.X)) :=
 Pi G L body (Km ls.inT x ls.n) fun e s' => bif Nat.beq s'.n ls.n then match e with
  | .normal => match ext ls.inT s' with
   | some x => some (.inl x)
   | none => none
  | .exit j => bif Nat.beq j ls.exitId then match ext ls.outT s' with
   | some y => some (.inr (.inl y))
   | none => none
   else none
  | .ret => match ext ls.retT s' with
   | some z => some (.inr (.inr z))
   | none => none
  else none
def Cn (G : Pc) (s : AS) : List ResultVar → Option D
 | [] => some .un
 | .tmp t :: r => match La s.tm t, Cn G s r with
  | some d, some e => some (.pr d e)
  | _, _ => none
 | .cell t ty :: r => match La s.tm t, Cn G s r with
  | some (.ptr id []), some e => match s.heap id, La G.ty ty with
   | some (.box ρ d), some τ => match Ty.dec ρ τ with
    | some _ => some (.pr d e)
    | none => none
   | _, _ => none
  | _, _ => none
def Md (s : AS) : (rt : Ty) → List Bool → D → Option (T rt × List Nat)
 | .u, [], .un => some ((), [])
 | .p x y, f :: r, .pr a b => match (bif f then Sa s a x else match Ve a x with
  | some u => some (u, [])
  | none => none), Md s y r b with
  | some (u, l), some (v, m) => some ((u, v), l ++ m)
  | _, _ => none
 | _, _, _ => none
def Bn : (pt : Ty) → T pt → Nat → List (Nat × D)
 | .p x y, v, n => (n, .t x v.1) :: Bn y v.2 (n + 1)
 | _, _, _ => []
def BA (G : Pc) (L : List (Nat × Nb)) (fn : Func) (pt rt : Ty) (fr : List Bool) (x : T pt) : Option (T rt) :=
 match fn.body with
 | some c => Pi G L c ⟨fn.ntmps, Bn pt x 0, []⟩ fun e s => match e with
  | .exit _ => none
  | _ => match Cn G s fn.results.toList with
   | some d => match Md s rt fr d with
    | some (r, l) => bif Ld l then some r else none
    | none => none
   | none => none
 | none => none
end
section
variable {P : Program} {Out : Type} {n0 : Nat} {A : Fx} {O0 : Nat → Prop} {w0 w w' : World} {s : AS} {σ σ' : Nat → Value} {φ φ' : Nat → List Nat} {a : Act}
def Jc (n0 : Nat) (A : Fx) (O0 : Nat → Prop) (w0 : World) (k : AS → Option Out) (out : Out) (a : Act) (w : World) : Prop :=
 ∃ s σ φ, k s = some out ∧ Ga n0 A O0 w0 s σ φ a w
theorem Ga.put (h : Ga n0 A O0 w0 s σ φ a w) {t : Nat} (ht : t < s.n) {d : D} {v : Value} (hr : Jb w (OO O0 s φ) s.heap σ d v) :
 Ga n0 A O0 w0 ⟨s.n, (t, d) :: s.tm, s.hp⟩ σ φ (a.put (some t) v) w := by
 refine ⟨?_, h.df, ?_, h.hp, h.nodup, h.disj, h.fresh, h.o0, h.fr, h.pin, h.iv0, h.ivw⟩
 ·simpa [Act.put] using h.sz
 ·intro t' d' hd
  rw [Hb] at hd
  have hsz := h.sz
  split at hd
  ·rename_i e
   subst e
   simp only [jc] at hd
   subst hd
   exact ⟨v, by simp [Act.put, hsz, ht], hr⟩
  ·rename_i e
   obtain ⟨v', hv', hr'⟩ := h.tm t' d' hd
   exact ⟨v', by simpa [Act.put, Array.getElem?_setIfInBounds_ne e] using hv', hr'⟩
theorem Ga.same (h : Ga n0 A O0 w0 s σ φ a w) {t : Nat} {d : D} (hd : La s.tm t = some d) :
 Ga n0 A O0 w0 ⟨s.n, (t, d) :: s.tm, s.hp⟩ σ φ a w := by
 refine ⟨h.sz, h.df, ?_, h.hp, h.nodup, h.disj, h.fresh, h.o0, h.fr, h.pin, h.iv0, h.ivw⟩
 intro t' d' hd'
 rw [Hb] at hd'
 split at hd'
 ·rename_i e
  subst e
  simp only [jc] at hd'
  subst hd'
  exact h.tm _ _ hd
 ·exact h.tm _ _ hd'
variable {o : Oper} {Q : Exit → Act → World → Prop} {k : AS → Option Out} {out : Out} {d : D} {v : Value} {upd : List (Nat × Option Ca)} {dst : Option Tmp}
theorem Qc {s₁ : AS} (hn : s₁ = ⟨s.n, s.tm, upd ++ s.hp⟩) (hc : Ga n0 A O0 w0 s₁ σ' φ' a w') (hr : Jb w' (OO O0 s₁ φ') s₁.heap σ' d v)
 (he : Sf s dst d upd k = some out) : Jc n0 A O0 w0 k out (a.put dst v) w' := by
 subst hn
 unfold Sf at he
 cases dst with
 | none => exact ⟨_, σ', φ', he, hc⟩
 | some t =>
  simp only at he
  cases hb : Nat.blt t s.n with
  | false => simp [hb] at he
  | true =>
   rw [hb] at he
   have ht : t < s.n := by rwa [Nat.blt_eq] at hb
   exact ⟨_, σ', φ', he, Ga.put (s := ⟨s.n, s.tm, upd ++ s.hp⟩) hc ht hr⟩
theorem Qa (h : Ga n0 A O0 w0 s σ φ a w) (hr : Jb w (OO O0 s φ) s.heap σ d v) (he : Sf s dst d [] k = some out) :
 Jc n0 A O0 w0 k out (a.put dst v) w := Qc (s := s) (s₁ := s) rfl h hr he
theorem Ez {cv : Value} {d : D} (h : Pp cv = some d) {O : Nat → Prop} {hp : Nat → Option Ca} : Jb w O hp σ d cv := by
 unfold Pp at h
 split at h <;> simp only [jc, reduceCtorEq] at h
 ·subst h; simp [Jb, Ec, D.isAgg, Ha, Ia]
 ·subst h; simp [Jb, Ec, D.isAgg, Ha, Ia]
 ·subst h; simp [Jb, Ec, D.isAgg, Ha, Ia]
 ·subst h; simp [Jb, Ec, D.isAgg, Ha]
 ·subst h; simp [Jb]
theorem Ga.ev (h : Ga n0 A O0 w0 s σ φ a w) {x : Operand} {d : D} (hx : s.ev x = some d) : Jb w (OO O0 s φ) s.heap σ d (a.eval x) := by
 cases x with
 | tmp t =>
  obtain ⟨v, hv, hr⟩ := h.tm t d hx
  simp only [Act.eval]
  rw [Array.getD_eq_getD_getElem?, hv]
  exact hr
 | const v => exact Ez hx
 | _ => simp [AS.ev] at hx
theorem Nc {O : Nat → Prop} {hp : Nat → Option Ca} {k : IntKind} {n : Int} {v : Value} : Jb w O hp σ (.t (.i k) n) v ↔ v = .int k n := by
 simp [Jb, Ec, D.isAgg, Ha, Ia]
theorem Vd {O : Nat → Prop} {hp : Nat → Option Ca} {n : Bool} {v : Value} : Jb w O hp σ (.t .b n) v ↔ v = .bool n := by
 simp [Jb, Ec, D.isAgg, Ha, Ia]
theorem Ye {O : Nat → Prop} {hp : Nat → Option Ca} {n : List UInt8} {v : Value} : Jb w O hp σ (.t .s n) v ↔ v = .string ⟨n.toArray⟩ := by
 simp [Jb, Ec, D.isAgg, Ha, Ia]
theorem Rk {O : Nat → Prop} {hp : Nat → Option Ca} {v : Value} : Jb w O hp σ .und v ↔ v = undef := by simp [Jb]
theorem LD (h : Ga n0 A O0 w0 s σ φ a w) {tb : Bool} {op : BinOp} {t : TypeId} {x y : D} {u v : Value} {X Y : Operand}
 (hx : Jb w (OO O0 s φ) s.heap σ x u) (hy : Jb w (OO O0 s φ) s.heap σ y v) (he : IF s tb dst op x y k = some out) (htb : tb = true → P.underlying t = some .bool) :
 ∃ r, (do eqGuard op t X Y u v; binOp op t u v : Sem Value).run P w = .ok r w ∧ Jc n0 A O0 w0 k out (a.put dst r) w := by
 unfold IF Lq at he
 split at he
 ·rename_i ka x kb y
  rw [Nc] at hx hy
  subst hx; subst hy
  have hg : (eqGuard op t X Y (.int ka x) (.int kb y)).run P w = .ok () w := by
   unfold eqGuard; split <;> rfl
  simp only [qi, hg, qh]
  have shi : ∀ {op : BinOp} {z : Int}, Sf s dst (.t (.i ka) z) [] k = some out → (binOp op t (.int ka x) (.int kb y)).run P w = .ok (.int ka z) w →
   ∃ r, (binOp op t (.int ka x) (.int kb y)).run P w = .ok r w ∧ Jc n0 A O0 w0 k out (a.put dst r) w :=
   fun hf hr => ⟨_, hr, Qa h (Nc.2 rfl) hf⟩
  have shb : ∀ {op : BinOp} {z : Bool}, Sf s dst (.t .b z) [] k = some out → (binOp op t (.int ka x) (.int kb y)).run P w = .ok (.bool z) w →
   ∃ r, (binOp op t (.int ka x) (.int kb y)).run P w = .ok r w ∧ Jc n0 A O0 w0 k out (a.put dst r) w :=
   fun hf hr => ⟨_, hr, Qa h (Vd.2 rfl) hf⟩
  split at he
  ·cases hy0 : decide (0 ≤ y) with
   | false => simp [hy0] at he
   | true =>
    simp only [hy0, cond_true] at he
    have : ¬ y < 0 := by simpa using hy0
    refine shi he ?_
    simp [binOp, Op.shift, this, SF]
  ·cases hy0 : decide (0 ≤ y) with
   | false => simp [hy0] at he
   | true =>
    simp only [hy0, cond_true] at he
    have : ¬ y < 0 := by simpa using hy0
    refine shi he ?_
    simp [binOp, Op.shift, this, TF]
  ·cases hk : (ka == kb) with
   | false => simp [hk] at he
   | true =>
    simp only [hk, cond_true] at he
    have hkk : ka = kb := by simpa using hk
    subst hkk
    split at he
    ·refine shi he ?_; simp [binOp, Op.intArith]
    ·refine shi he ?_; simp [binOp, Op.intArith]
    ·refine shi he ?_; simp [binOp, Op.intArith]
    ·cases hz : ((y : Int) == 0) with
     | true => simp [hz] at he
     | false =>
      simp only [hz, cond_false] at he
      have : ¬ y = 0 := by simpa using hz
      refine shi he ?_
      simp [binOp, Op.intDiv, this]
    ·cases hz : ((y : Int) == 0) with
     | true => simp [hz] at he
     | false =>
      simp only [hz, cond_false] at he
      have : ¬ y = 0 := by simpa using hz
      refine shi he ?_
      simp [binOp, Op.intDiv, this]
    ·refine shi he ?_; simp [binOp, Op.intBits, Bi]
    ·refine shi he ?_; simp [binOp, Op.intBits, HH]
    ·refine shi he ?_; simp [binOp, Op.intBits, UF]
    ·refine shi he ?_; simp [binOp, Op.intBits, Dv]
    ·refine shb he ?_; simp [binOp, Op.intCmp]
    ·refine shb he ?_; simp [binOp, Op.intCmp]
    ·refine shb he ?_; simp [binOp, Op.intCmp]
    ·refine shb he ?_; simp [binOp, Op.intCmp]
    ·refine shb he ?_; simp [binOp, Op.intCmp]
    ·refine shb he ?_; simp [binOp, Op.intCmp]
    ·simp at he
 ·rename_i x y
  rw [Ye] at hx hy
  subst hx; subst hy
  have hg : (eqGuard op t X Y (.string ⟨List.toArray x⟩) (.string ⟨List.toArray y⟩)).run P w = .ok () w := by
   unfold eqGuard; split <;> rfl
  simp only [qi, hg, qh]
  have e1 : (ByteArray.mk (List.toArray x)).toList = x := ByteArray.toList_mk x
  have e2 : (ByteArray.mk (List.toArray y)).toList = y := ByteArray.toList_mk y
  split at he
  ·cases hl : jt (ja x + ja y) Dk with
   | false => simp [hl] at he
   | true =>
    simp only [hl, cond_true] at he
    have hle := Nat.le_of_ble_eq_true hl
    refine ⟨_, ?_, Qa h (Ye.2 rfl) he⟩
    have hs : ¬ (((ByteArray.mk (List.toArray x)).size + (ByteArray.mk (List.toArray y)).size : Nat) : Int) > IntKind.i64.max := by
     have : (ByteArray.mk (List.toArray x)).size + (ByteArray.mk (List.toArray y)).size = ja x + ja y := by simp [ByteArray.size]
     rw [this]
     have : IntKind.i64.max = 9223372036854775807 := by decide
     rw [this]
     unfold Dk at hle
     omega
    have ha : ByteArray.mk (List.toArray x) ++ ByteArray.mk (List.toArray y) = ByteArray.mk (List.toArray (jf x y)) := by
     apply ByteArray.ext
     simp
    simp only [binOp, Op.stringOp, if_neg hs, ha]
    rfl
  ·refine ⟨_, ?_, Qa h (Vd.2 rfl) he⟩
   simp [binOp, Op.stringOp, e1, e2]
  ·refine ⟨_, ?_, Qa h (Vd.2 rfl) he⟩
   simp [binOp, Op.stringOp, e1, e2, bne]
  ·simp at he
 ·rename_i x y
  rw [Vd] at hx hy
  subst hx; subst hy
  have hg : (eqGuard op t X Y (.bool x) (.bool y)).run P w = .ok () w := by
   unfold eqGuard; split <;> rfl
  simp only [qi, hg, qh]
  split at he
  ·cases tb with
   | false => simp at he
   | true =>
    refine ⟨_, ?_, Qa h (Vd.2 rfl) he⟩
    simp [binOp, run_equal_bool w t x y (htb rfl)]
  ·cases tb with
   | false => simp at he
   | true =>
    refine ⟨_, ?_, Qa h (Vd.2 rfl) he⟩
    simp [binOp, run_equal_bool w t x y (htb rfl), bne]
  ·simp at he
 ·simp at he
end
def Ot (P : Program) (t : TypeId) (e : Ty) (n : Nat) : Bool :=
 (match P.underlying t with
 | some (.array m et) => Nat.beq m n && Xb P e et
 | _ => false) && (match P.info? t with
 | some i => (match i.zero with
  | some (.agg cs) => Hl cs.toList (List.replicate n e.zc).flatten
  | _ => false)
 | none => false)
structure EnvTy (P : Program) (G : Pc) : Prop where
 ty : ∀ t τ, La G.ty t = some τ → Xb P τ t = true
 ar : ∀ t e n, La G.ar t = some (e, n) → Ot P t e n = true
section
variable {P : Program} {Out : Type} {n0 : Nat} {A : Fx} {O0 : Nat → Prop} {w0 w w' : World} {s : AS} {σ σ' : Nat → Value} {φ φ' : Nat → List Nat} {a : Act}
variable {o : Oper} {Q : Exit → Act → World → Prop} {k : AS → Option Out} {out : Out} {d : D} {v : Value} {upd : List (Nat × Option Ca)} {dst : Option Tmp} {G : Pc}
theorem Oa (hrun : (execOp a.eval o).run P w = .ok (.value v) w') (hg : Jc n0 A O0 w0 k out (a.put o.dst v) w') : o.wp P a w (Jc n0 A O0 w0 k out) Q := by
 unfold Oper.wp; rw [hrun]; exact hg
theorem Vo (hrun : (execOp a.eval o).run P w = .ok .skip w') (hg : Jc n0 A O0 w0 k out (a.put o.dst undef) w') : o.wp P a w (Jc n0 A O0 w0 k out) Q := by
 unfold Oper.wp; rw [hrun]; exact hg
theorem Qx (h : Ga n0 A O0 w0 s σ φ a w) {x : Operand} (ho : o.op = .move x ∨ o.op = .assign x)
 (he : (match s.ev x with | some d => Sf s o.dst d [] k | none => none) = some out) : o.wp P a w (Jc n0 A O0 w0 k out) Q := by
 split at he
 ·rename_i d hd
  refine Oa (v := a.eval x) (w' := w) ?_ (Qa h (h.ev hd) he)
  rcases ho with ho | ho <;> simp [execOp, ho]
 ·simp at he
theorem AE (h : Ga n0 A O0 w0 s σ φ a w) {c x y : Operand} (ho : o.op = .pick c x y)
 (he : Gc G s o k = some out) : o.wp P a w (Jc n0 A O0 w0 k out) Q := by
 simp only [Gc, Ma, ho] at he
 split at he
 ·rename_i β hc
  have hv := h.ev hc
  rw [Vd] at hv
  have hrun : ∀ z : Value, (if (show Bool from β) then a.eval x else a.eval y) = z → (execOp a.eval o).run P w = .ok (.value z) w := by
   intro z hz
   simp only [execOp, ho, hv, asBool, qi, Sem.run_pure, qh]
   rw [← hz]
  cases hb : (show Bool from β) with
  | true =>
   have hb' : β = true := hb
   subst hb'
   simp only [cond_true] at he
   split at he
   ·rename_i d hd
    exact Oa (hrun _ rfl) (Qa h (h.ev hd) he)
   ·simp at he
  | false =>
   have hb' : β = false := hb
   subst hb'
   simp only [cond_false] at he
   split at he
   ·rename_i d hd
    exact Oa (hrun _ rfl) (Qa h (h.ev hd) he)
   ·simp at he
 ·simp at he
theorem BE (h : Ga n0 A O0 w0 s σ φ a w) {op : UnOp} {t : TypeId} {x : Operand} (ho : o.op = .unOp op t x)
 (he : Gc G s o k = some out) : o.wp P a w (Jc n0 A O0 w0 k out) Q := by
 simp only [Gc, Ma, ho] at he
 split at he
 ·rename_i b hx
  have hv := h.ev hx
  rw [Vd] at hv
  exact Oa (w' := w) (by simp [execOp, ho, hv, Op.unary]) (Qa h (Vd.2 rfl) he)
 ·rename_i kk n hx
  have hv := h.ev hx
  rw [Nc] at hv
  exact Oa (w' := w) (by simp [execOp, ho, hv, Op.unary, Op.intArith]) (Qa h (Nc.2 rfl) he)
 ·simp at he
theorem IC (hG : EnvTy P G) (h : Ga n0 A O0 w0 s σ φ a w) {op : BinOp} {t t' : TypeId} {x y : Operand} (ho : o.op = .binOp op t x y t')
 (hagg : ∀ u, s.ev x = some u → u.isAgg = false) (he : Gc G s o k = some out) : o.wp P a w (Jc n0 A O0 w0 k out) Q := by
 simp only [Gc, Ma, ho] at he
 split at he
 ·rename_i u v hu hv
  rw [hagg u hu] at he
  simp only [cond_false] at he
  obtain ⟨r, hr, hg⟩ := LD (P := P) (t := t) (X := x) (Y := y) h (h.ev hu) (h.ev hv) he (by
   intro htb
   split at htb
   ·rename_i hb; exact Tok.b (hG.ty _ _ hb)
   ·simp at htb)
  exact Oa (w' := w) (by simp only [execOp, ho]; rw [qi, hr]; rfl) hg
 ·simp at he
theorem Gh {O : Nat → Prop} {hp : Nat → Option Ca} {τ : Ty} {d : D} {cs : List Value} (hs : Ja τ d) (h : Ha w O hp σ d cs) : Jb w O hp σ d (Ub τ cs) := by
 have ha := hs.isAgg
 have hl := Ha.length hs h
 have key : Ec w O hp σ d (Ub τ cs) := by
  unfold Ec Ub
  rw [ha]
  cases hτ : τ.isAgg with
  | true => simp only [if_true]; exact ⟨cs.toArray, rfl, by simpa using h⟩
  | false =>
   simp only [jo, if_false]
   rw [Ty.size_one hτ] at hl
   obtain ⟨v, rfl⟩ := List.length_eq_one_iff.1 hl
   simpa using h
 unfold Jb
 split
 ·cases τ <;> simp [Ja] at hs
 ·cases τ <;> simp [Ja] at hs
 ·cases τ <;> simp [Ja] at hs
 ·exact key
theorem Dc {O : Nat → Prop} {hp : Nat → Option Ca} {τ : Ty} {d : D} {v : Value} (hs : Ja τ d) (h : Jb w O hp σ d v) : Ha w O hp σ d v.cells.toList ∧ v = Ub τ v.cells.toList := by
 have hV : Ec w O hp σ d v := by
  cases d <;> first | (exact h) | (cases τ <;> simp [Ja] at hs)
 have ha := hs.isAgg
 unfold Ec at hV
 rw [ha] at hV
 cases hτ : τ.isAgg with
 | true =>
  rw [hτ] at hV
  simp only [if_true] at hV
  obtain ⟨cs, rfl, hr⟩ := hV
  exact ⟨by simpa [Value.cells] using hr, by simp [Ub, hτ, Value.cells]⟩
 | false =>
  rw [hτ] at hV
  simp only [jo, if_false] at hV
  have hone : v.cells = #[v] := by
   cases d with
   | t τ' x =>
    simp only [Ja] at hs
    subst hs
    cases τ' with
    | i k => simp only [Ha, Ia] at hV; simp at hV; subst hV; rfl
    | b => simp only [Ha, Ia] at hV; simp at hV; subst hV; rfl
    | o => simp only [Ha, Ia] at hV; simp at hV; subst hV; rfl
    | s => simp only [Ha, Ia] at hV; simp at hV; subst hV; rfl
    | sl e => obtain ⟨q, c, hq, _⟩ := hV; simp at hq; subst hq; rfl
    | u => simp [Ty.isAgg] at hτ
    | p x y => simp [Ty.isAgg] at hτ
   | nil => simp only [Ha] at hV; simp at hV; subst hV; rfl
   | own id =>
    obtain ⟨u, hu, h1, _⟩ := hV
    simp at hu; subst hu
    cases v <;> simp_all [Value.oneCell', Value.cells]
   | cut id lo hi =>
    obtain ⟨u, hu, h1, _⟩ := hV
    simp at hu; subst hu
    cases v <;> simp_all [Value.oneCell', Value.cells]
   | _ => cases τ <;> simp [Ja, Ty.isAgg] at hs hτ
  rw [hone]
  exact ⟨by simpa using hV, by simp [Ub, hτ]⟩
end
theorem Mc {x y : Ty} {q : PLift (x = y)} (_ : Ty.dec x y = some q) : x = y := q.down
section
variable {P : Program} {Out : Type} {n0 : Nat} {A : Fx} {O0 : Nat → Prop} {w0 w w' : World} {s : AS} {σ σ' : Nat → Value} {φ φ' : Nat → List Nat} {a : Act}
variable {o : Oper} {Q : Exit → Act → World → Prop} {k : AS → Option Out} {out : Out} {d : D} {v : Value} {upd : List (Nat × Option Ca)} {dst : Option Tmp} {G : Pc}
theorem Fi {id : Nat} {path : List Nat} {hp : Nat → Option Ca} {O : Nat → Prop} : Jb w O hp σ (.ptr id path) v ↔
 v.oneCell' = true ∧ ∀ ρ d, hp id = some (.box ρ d) → ∃ b, σ id = .pointer (some ⟨b, 0, none⟩) ∧ v = .pointer (some ⟨b, Ka ρ path, none⟩) := by
 simp only [Jb, Ec, D.isAgg, jo, if_false, Ha]
 constructor
 ·rintro ⟨u, hu, h1, h2⟩
  simp at hu; subst hu; exact ⟨h1, h2⟩
 ·rintro ⟨h1, h2⟩; exact ⟨v, rfl, h1, h2⟩
theorem Ce {id i : Nat} {path : List Nat} {hp : Nat → Option Ca} {O : Nat → Prop} : Jb w O hp σ (.eptr id i path) v ↔
 v.oneCell' = true ∧ ∀ blk e n, hp id = some blk → blk.rowN = some (e, n) → i < n ∧
  ∃ b off cap, σ id = .slice (some ⟨b, off, none⟩) n cap ∧ v = .pointer (some ⟨b, off + i * e.size + Ka e path, none⟩) := by
 simp only [Jb, Ec, D.isAgg, jo, if_false, Ha]
 constructor
 ·rintro ⟨u, hu, h1, h2⟩
  simp at hu; subst hu; exact ⟨h1, h2⟩
 ·rintro ⟨h1, h2⟩; exact ⟨v, rfl, h1, h2⟩
theorem Vn {τ : Ty} {x : T τ} {hp : Nat → Option Ca} {O : Nat → Prop} : Jb w O hp σ (.rp τ x) v ↔
 ∃ b off cur et fr, v = .pointer (some ⟨b, off, none⟩) ∧ ¬ O b ∧ w.heap[b]? = some (.cells cur et fr) ∧ off + τ.size ≤ cur.size ∧ Ia w O τ x (Sb cur off τ.size) := by
 simp [Jb, Ec, D.isAgg, Ha]
theorem Am {e : Ty} {x : List (T e)} {hp : Nat → Option Ca} {O : Nat → Prop} : Jb w O hp σ (.t (.sl e) x) v ↔ Ia w O (.sl e) x [v] := by
 simp [Jb, Ec, D.isAgg, Ha]
theorem Fh {w : World} : ∀ {τ : Ty} {x : T τ} {cs : List Value} {F : List Nat}, τ.flat = true → Ua w τ x cs F → F = []
 | .i _, _, _, _, _, h => h.2
 | .b, _, _, _, _, h => h.2
 | .o, _, _, _, _, h => h.2
 | .s, _, _, _, _, h => h.2
 | .sl _, _, _, _, hf, _ => by simp [Ty.flat] at hf
 | .u, _, _, _, _, h => h.2
 | .p x y, _, _, _, hf, h => by
  obtain ⟨c1, c2, F1, F2, _, hF, h1, h2⟩ := h
  simp only [Ty.flat, jd] at hf
  rw [hF, Fh hf.1 h1, Fh hf.2 h2]; rfl
theorem TC {id : Nat} {e : Ty} {dp : Bool} {xs : List (T e)} {O : Nat → Prop} {hp : Nat → Option Ca} {F : List Nat} (h : Ya w O hp σ id (.row e dp xs) F)
 (hf : dp = false ∨ e.flat = true) {i : Nat} {x : T e} (hx : xs[i]? = some x) {b off cap : Nat} (hσ : σ id = .slice (some ⟨b, off, none⟩) (ja xs) cap) :
 ∃ cur et, w.heap[b]? = some (.cells cur et (0, 0)) ∧ off + i * e.size + e.size ≤ cur.size ∧ Ia w O e x (Sb cur (off + i * e.size) e.size) := by
 have hi : i < ja xs := (List.getElem?_eq_some_iff.1 hx).1
 have hxe : List.get xs ⟨i, hi⟩ = x := by simpa [je hi] using hx
 have hlt : (i + 1) * e.size ≤ ja xs * e.size := jl _ hi
 rw [Nat.add_mul, Nat.one_mul] at hlt
 cases dp with
 | true =>
  have hfl : e.flat = true := by simpa using hf
  simp only [Ya, Ua, hσ] at h
  obtain ⟨hm, ⟨h1, _⟩ | ⟨bl, off', cap', cur, et, Fs, h1, hh, h2, h3, h4, hF, hl, hv⟩⟩ := h
  ·simp at h1
  ·simp at h1
   obtain ⟨⟨rfl, rfl⟩, rfl⟩ := h1
   have := hv i hi
   rw [hxe] at this
   have hcap := jl e.size h2
   refine ⟨cur, et, hh, by omega, ?_⟩
   have hnil : Fs.getD i [] = [] := Fh hfl this
   exact this.view (by rw [hnil]; simp)
 | false =>
  simp only [Ya, hσ] at h
  obtain ⟨hm, ⟨h1, _⟩ | ⟨bl, off', cap', cur, et, h1, hh, h2, h3, h4, hF, hv⟩⟩ := h
  ·simp at h1
  ·simp at h1
   obtain ⟨⟨rfl, rfl⟩, rfl⟩ := h1
   have := hv i hi
   rw [hxe] at this
   have hcap := jl e.size h2
   exact ⟨cur, et, hh, by omega, this⟩
end
section
variable {P : Program} {Out : Type} {n0 : Nat} {A : Fx} {O0 : Nat → Prop} {w0 w w' : World} {s : AS} {σ σ' : Nat → Value} {φ φ' : Nat → List Nat} {a : Act}
variable {o : Oper} {Q : Exit → Act → World → Prop} {k : AS → Option Out} {out : Out} {d : D} {v : Value} {upd : List (Nat × Option Ca)} {dst : Option Tmp} {G : Pc}
theorem Tok.field {τ τf : Ty} {t : TypeId} {n : Nat} (h : Xb P τ t = true) (hf : Da τ n = some τf) :
 ∃ fs f, P.underlying t = some (.struct fs) ∧ fs[n]? = some f ∧ f.offset = Xa τ n ∧ Xb P τf f.type = true := by
 have ha : τ.isAgg = true := by cases τ <;> simp_all [Da, Ty.isAgg]
 obtain ⟨fs, hu, hk⟩ := Tok.struct ha h
 obtain ⟨f, h1, h2, h3⟩ := Fok.field hk hf
 exact ⟨fs, f, hu, by simpa using h1, by simpa using h2, h3⟩
theorem Kn {τ τf : Ty} {t : TypeId} {n : Nat} (h : Xb P τ t = true) (hf : Da τ n = some τf) (hs : 0 < τf.size) (b off : Nat) :
 (Instr.fieldAt t (.pointer (some ⟨b, off, none⟩)) n).run P w = .ok (.pointer (some ⟨b, off + Xa τ n, none⟩)) w := by
 obtain ⟨fs, f, hu, h1, h2, h3⟩ := Tok.field h hf
 have hz : ¬ τf.size = 0 := by omega
 simp [Instr.fieldAt, run_underlying hu, h1, Instr.sureAddr, fieldPlace, Tok.sizeOf h3 w, hz, Nf, h2]
theorem Oo : ∀ {p : List Nat} {ρ τ : Ty} {f : Nat}, Zb ρ p = some τ → Ka ρ (p ++ [f]) = Ka ρ p + Xa τ f
 | [], ρ, τ, f, h => by
  simp only [Zb, jc] at h
  subst h
  simp only [List.nil_append, Ka, jq]
  cases Da ρ f <;> simp
 | g :: p, ρ, τ, f, h => by
  simp only [Zb] at h
  cases hg : Da ρ g with
  | none => simp [hg] at h
  | some τ' =>
   simp only [hg, jb] at h
   have := Oo (f := f) h
   simp only [List.cons_append, Ka, hg, j5, Option.getD_some, this]
   omega
theorem Cw (hG : EnvTy P G) (h : Ga n0 A O0 w0 s σ φ a w) {t : TypeId} {x : Operand} {f : Nat} (ho : o.op = .fieldAddr t x f)
 (he : Gc G s o k = some out) : o.wp P a w (Jc n0 A O0 w0 k out) Q := by
 simp only [Gc, Ma, ho] at he
 split at he
 ·rename_i τ id path hty hx
  split at he
  ·rename_i ρ d hb
   split at he
   ·rename_i τ' τf ht hf
    split at he
    ·rename_i q hq
     obtain rfl := Mc hq
     cases hz : Nat.blt 0 τf.size with
     | false => simp [hz] at he
     | true =>
      simp only [hz, cond_true] at he
      rw [Nat.blt_eq] at hz
      have hv := h.ev hx
      rw [Fi] at hv
      obtain ⟨b, hσ, hv⟩ := hv.2 ρ d hb
      have hr := Kn (w := w) (hG.ty _ _ hty) hf hz b (Ka ρ path)
      refine Oa (w' := w) (v := .pointer (some ⟨b, Ka ρ path + Xa τ' f, none⟩)) (by simp [execOp, ho, hv, hr]) (Qa h ?_ he)
      rw [Fi]
      refine ⟨rfl, fun ρ' d' hb' => ?_⟩
      rw [hb] at hb'
      simp at hb'
      obtain ⟨rfl, rfl⟩ := hb'
      exact ⟨b, hσ, by rw [Oo ht]⟩
    ·simp at he
   ·simp at he
  ·simp at he
 ·rename_i τ id i path hty hx
  split at he
  ·rename_i e len hbN
   obtain ⟨blk, hb, hN⟩ := j8.1 hbN
   split at he
   ·rename_i τ' τf ht hf
    split at he
    ·rename_i q hq
     obtain rfl := Mc hq
     cases hz : Nat.blt 0 τf.size with
     | false => simp [hz] at he
     | true =>
      simp only [hz, cond_true] at he
      rw [Nat.blt_eq] at hz
      have hv := h.ev hx
      rw [Ce] at hv
      obtain ⟨hi, b, off, cap, hσ, hv⟩ := hv.2 _ _ _ hb hN
      have hr := Kn (w := w) (hG.ty _ _ hty) hf hz b (off + i * e.size + Ka e path)
      refine Oa (w' := w) (v := .pointer (some ⟨b, off + i * e.size + Ka e path + Xa τ' f, none⟩)) (by simp [execOp, ho, hv, hr]) (Qa h ?_ he)
      rw [Ce]
      refine ⟨rfl, fun blk' e' n' hb' hr' => ?_⟩
      rw [hb] at hb'
      cases hb'
      rw [hN] at hr'
      simp only [jc, jh] at hr'
      obtain ⟨rfl, rfl⟩ := hr'
      exact ⟨hi, b, off, cap, hσ, by rw [Oo ht]; congr 3; omega⟩
    ·simp at he
   ·simp at he
  ·simp at he
 ·rename_i τ τ' y hty hx
  split at he
  ·rename_i q τf u τg hq hfd hf
   obtain rfl := Mc hq
   cases hz : Nat.blt 0 τg.size with
   | false => simp [hz] at he
   | true =>
    simp only [hz, cond_true] at he
    rw [Nat.blt_eq] at hz
    have hv := h.ev hx
    rw [Vn] at hv
    obtain ⟨b, off, cur, et, fr, hv, hO, hh, hs, hvw⟩ := hv
    have hr := Kn (w := w) (hG.ty _ _ hty) hf hz b off
    have hrep : Ha w (OO O0 s φ) s.heap σ (.t τ' y) (Sb cur off τ'.size) := hvw
    obtain ⟨hse, hre⟩ := Ha.field (by simp [Ja]) hf hfd hrep
    simp only [Ja] at hse
    subst hse
    have hle := Ng hf
    rw [Xn _ _ _ _ _ hle] at hre
    refine Oa (w' := w) (v := .pointer (some ⟨b, off + Xa τ' f, none⟩)) (by simp [execOp, ho, hv, hr]) (Qa h ?_ he)
    rw [Vn]
    exact ⟨b, off + Xa τ' f, cur, et, fr, rfl, hO, hh, by omega, hre⟩
  ·simp at he
 ·simp at he
theorem Ww (h : Ga n0 A O0 w0 s σ φ a w) {x : Operand} (ho : o.op = .nilCheck x)
 (he : Gc G s o k = some out) : o.wp P a w (Jc n0 A O0 w0 k out) Q := by
 simp only [Gc, Ma, ho] at he
 split at he
 ·rename_i id p hx
  split at he
  ·rename_i ρ d hb
   have hv := h.ev hx
   have hv' := hv
   rw [Fi] at hv
   obtain ⟨b, hσ, hv⟩ := hv.2 ρ d hb
   refine Oa (w' := w) (v := a.eval x) ?_ (Qa h hv' he)
   simp [execOp, ho, hv]
  ·simp at he
 ·rename_i τ y hx
  have hv := h.ev hx
  have hv' := hv
  rw [Vn] at hv
  obtain ⟨b, off, cur, et, fr, hv, _⟩ := hv
  refine Oa (w' := w) (v := a.eval x) ?_ (Qa h hv' he)
  simp [execOp, ho, hv]
 ·rename_i id i p hx
  split at he
  ·rename_i r hbN
   obtain ⟨blk, hb, hN⟩ := j8.1 hbN
   have hv := h.ev hx
   have hv' := hv
   rw [Ce] at hv
   obtain ⟨_, b, off, cap, _, hv⟩ := hv.2 blk r.1 r.2 hb hN
   refine Oa (w' := w) (v := a.eval x) ?_ (Qa h hv' he)
   simp [execOp, ho, hv]
  ·simp at he
 ·simp at he
theorem Xv {α : Type} {xs : List α} {i : Int} {x : α} (h : Oe xs i = some x) : 0 ≤ i ∧ i.toNat < xs.length ∧ xs[i.toNat]? = some x := by
 unfold Oe at h
 cases hd : decide (0 ≤ i) with
 | false => simp [hd] at h
 | true =>
  simp only [hd, cond_true] at h
  exact ⟨by simpa using hd, (List.getElem?_eq_some_iff.1 h).1, h⟩
theorem LC (h : Ga n0 A O0 w0 s σ φ a w) (hG : EnvTy P G) {t : TypeId} {x y : Operand} (ho : o.op = .index t x y)
 (he : Gc G s o k = some out) : o.wp P a w (Jc n0 A O0 w0 k out) Q := by
 simp only [Gc, Ma, ho] at he
 split at he
 ·rename_i v kk n ht hx hy
  cases hi : Oe (show List UInt8 from v) n with
  | none => simp [hi] at he
  | some c =>
   simp only [hi, jb] at he
   obtain ⟨h0, hlt, hg⟩ := Xv hi
   have hv := h.ev hx
   have hn := h.ev hy
   rw [Ye] at hv
   rw [Nc] at hn
   have hlt2 : n.toNat < ja v := hlt
   have hsz : n < ((ByteArray.mk (List.toArray v)).size : Int) := by
    have : (ByteArray.mk (List.toArray v)).size = ja v := by simp [ByteArray.size]
    rw [this]; exact (Int.toNat_lt h0).1 hlt2
   have hg' : List.get v ⟨n.toNat, hlt2⟩ = c := by
    have : (show List UInt8 from v)[n.toNat]? = some c := hg
    simpa [je hlt2] using this
   have hr := run_index_string (P := P) w t (ByteArray.mk (List.toArray v)) kk n (Tok.s (hG.ty _ _ ht))
   rw [dif_pos ⟨h0, hsz⟩] at hr
   have hsz2 : n.toNat < (ByteArray.mk (List.toArray v)).size := by simpa [ByteArray.size] using hlt2
   have hc : ((ByteArray.mk (List.toArray v))[n.toNat]'hsz2) = c := hg'
   rw [hc] at hr
   refine Oa (w' := w) (v := .int .u8 c.toNat) ?_ (Qa h (Nc.2 rfl) he)
   simp only [execOp, ho, hv, hn, qi, hr, qh, Sem.run_pure]
 ·simp at he
theorem To {id : Nat} {blk : Ca} {e : Ty} {n : Nat} {O : Nat → Prop} {hp : Nat → Option Ca} {F : List Nat} (h : Ya w O hp σ id blk F) (hr : blk.rowN = some (e, n)) :
 ∃ ad cap, σ id = .slice ad n cap ∧ (0 < n → ∃ b off, ad = some ⟨b, off, none⟩) := by
 cases blk with
 | box ρ d => simp [Ca.rowN] at hr
 | row e' dp xs =>
  simp only [Ca.rowN, jc, jh] at hr
  obtain ⟨rfl, rfl⟩ := hr
  cases dp with
  | true =>
   simp only [Ya, Ua] at h
   obtain ⟨_, ⟨h1, h2, _⟩ | ⟨bl, off, cap, _, _, _, h2, _⟩⟩ := h
   ·simp at h1; subst h2; exact ⟨none, 0, h1, fun h => by simp at h⟩
   ·simp at h2; exact ⟨_, cap, h2, fun _ => ⟨bl, off, rfl⟩⟩
  | false =>
   simp only [Ya] at h
   obtain ⟨_, ⟨h1, h2, _⟩ | ⟨bl, off, cap, _, _, h2, _⟩⟩ := h
   ·subst h2; exact ⟨none, 0, h1, fun h => by simp at h⟩
   ·exact ⟨_, cap, h2, fun _ => ⟨bl, off, rfl⟩⟩
 | hol e' xs i x p τ d =>
  simp only [Ca.rowN, jc, jh] at hr
  obtain ⟨rfl, rfl⟩ := hr
  obtain ⟨_, _, _, _, bl, off, cap, cur, et, h1, _⟩ := h
  exact ⟨_, cap, h1, fun _ => ⟨bl, off, rfl⟩⟩
 | mov e' xs k =>
  simp only [Ca.rowN, jc, jh] at hr
  obtain ⟨rfl, rfl⟩ := hr
  obtain ⟨_, ⟨h1, h2, _⟩ | ⟨bl, off, cap, cur, et, Fs, h1, _⟩⟩ := h
  ·subst h2; exact ⟨none, 0, h1, fun h => by simp at h⟩
  ·exact ⟨_, cap, h1, fun _ => ⟨bl, off, rfl⟩⟩
theorem Dw (hG : EnvTy P G) (h : Ga n0 A O0 w0 s σ φ a w) {t : TypeId} {x y : Operand} (ho : o.op = .indexAddr t x y)
 (he : Gc G s o k = some out) : o.wp P a w (Jc n0 A O0 w0 k out) Q := by
 simp only [Gc, Ma, ho] at he
 split at he
 ·rename_i e' e xs kk n hty hx hy
  split at he
  ·rename_i q hq
   obtain rfl := Mc hq
   cases hi : Oe (show List (T e) from xs) n with
   | none => simp [hi] at he
   | some c =>
    simp only [hi, jb] at he
    obtain ⟨h0, hlt, hg⟩ := Xv hi
    have hv := h.ev hx
    have hn := h.ev hy
    rw [Am] at hv
    rw [Nc] at hn
    obtain ⟨et, hu, hte⟩ := Tok.sl (hG.ty _ _ hty)
    obtain ⟨ad, cap, hc, hcap, hm, hemp | ⟨bl, off, cur, et', fr, rfl, hO, hh, hs, hvw⟩⟩ := hv
    ·rw [hemp] at hlt; simp at hlt
    ·simp at hc
     have hlt' : n.toNat < ja xs := hlt
     have hxe : List.get xs ⟨n.toNat, hlt'⟩ = c := by
      have : (show List (T e) from xs)[n.toNat]? = some c := hg
      simpa [je hlt'] using this
     have hel := hvw n.toNat hlt'
     rw [hxe] at hel
     have hle : (n.toNat + 1) * e.size ≤ ja xs * e.size := jl _ hlt'
     rw [Nat.add_mul, Nat.one_mul] at hle
     have hnl : n < (ja xs : Int) := (Int.toNat_lt h0).1 hlt'
     refine Oa (w' := w) (v := .pointer (some ⟨bl, off + n.toNat * e.size, none⟩)) ?_ (Qa h ?_ he)
     ·simp [execOp, ho, hc, hn, Instr.indexAt, asIntOf, run_underlying hu, h0, hnl, Tok.sizeOf hte w, Nf]
     ·rw [Vn]
      exact ⟨bl, off + n.toNat * e.size, cur, et', fr, rfl, hO, hh, by omega, hel⟩
  ·simp at he
 ·rename_i e' id kk n hty hx hy
  split at he
  ·rename_i e len hbN
   obtain ⟨blk, hb, hN⟩ := j8.1 hbN
   split at he
   ·rename_i q hq
    obtain rfl := Mc hq
    cases hi : Kk len n with
    | false => simp [hi] at he
    | true =>
     simp only [hi, cond_true] at he
     simp only [Kk, jd, decide_eq_true_eq] at hi
     have hv := h.ev hx
     have hn := h.ev hy
     rw [Nc] at hn
     simp only [Jb, Ec, D.isAgg, jo, if_false, Ha] at hv
     obtain ⟨u, hu', h1c, hv⟩ := hv
     simp at hu'
     have hσ := hv _ _ hb hN
     obtain ⟨et, hu, hte⟩ := Tok.sl (hG.ty _ _ hty)
     have hlt : n.toNat < len := (Int.toNat_lt hi.1).2 hi.2
     have hsl : ∃ b off cap, σ id = .slice (some ⟨b, off, none⟩) len cap := by
      obtain ⟨ad, cap, h1, h2⟩ := To (h.hp id _ hb) hN
      obtain ⟨b, off, rfl⟩ := h2 (by omega)
      exact ⟨b, off, cap, h1⟩
     obtain ⟨b, off, cap, hs⟩ := hsl
     refine Oa (w' := w) (v := .pointer (some ⟨b, off + n.toNat * e.size, none⟩)) ?_ (Qa h ?_ he)
     ·simp [execOp, ho, hu', hσ, hs, hn, Instr.indexAt, asIntOf, run_underlying hu, hi, Tok.sizeOf hte w, Nf]
     ·rw [Ce]
      refine ⟨rfl, fun blk' e' n' hb' hr' => ?_⟩
      rw [hb] at hb'
      cases hb'
      rw [hN] at hr'
      simp only [jc, jh] at hr'
      obtain ⟨rfl, rfl⟩ := hr'
      exact ⟨hlt, b, off, cap, hs, by simp [Ka]⟩
   ·simp at he
  ·simp at he
 ·rename_i e' id lo hi kk n hty hx hy
  split at he
  ·rename_i e len hbN
   obtain ⟨blk, hb, hN⟩ := j8.1 hbN
   split at he
   ·rename_i q hq
    obtain rfl := Mc hq
    cases hi' : Kk (hi - lo) n with
    | false => simp [hi'] at he
    | true =>
     simp only [hi', cond_true] at he
     simp only [Kk, jd, decide_eq_true_eq] at hi'
     have hv := h.ev hx
     have hn := h.ev hy
     rw [Nc] at hn
     simp only [Jb, Ec, D.isAgg, jo, if_false, Ha] at hv
     obtain ⟨u, hu', h1c, hv⟩ := hv
     simp only [List.cons.injEq, and_true] at hu'
     obtain ⟨hlo, hhi, ad0, cap, jj, hs0, hcap, hj1, hj2, hu2⟩ := hv _ _ _ hb hN
     obtain ⟨et, hu, hte⟩ := Tok.sl (hG.ty _ _ hty)
     have hlt : n.toNat < hi - lo := (Int.toNat_lt hi'.1).2 hi'.2
     have hsl : ∃ b off, σ id = .slice (some ⟨b, off, none⟩) len cap ∧ ad0 = some ⟨b, off, none⟩ := by
      obtain ⟨ad, cap', h1, h2⟩ := To (h.hp id _ hb) hN
      obtain ⟨b, off, rfl⟩ := h2 (by omega)
      rw [h1] at hs0
      simp only [Value.slice.injEq, true_and] at hs0
      obtain ⟨rfl, rfl⟩ := hs0
      exact ⟨b, off, h1, rfl⟩
     obtain ⟨b, off, hs, rfl⟩ := hsl
     obtain rfl := hj2 (by omega)
     simp only [j5, Nf] at hu2
     have hnl : n < ((hi - jj : Nat) : Int) := hi'.2
     refine Oa (w' := w) (v := .pointer (some ⟨b, off + jj * e.size + n.toNat * e.size, none⟩)) ?_ (Qa h ?_ he)
     ·simp [execOp, ho, hu', hu2, hn, Instr.indexAt, asIntOf, run_underlying hu, hi'.1, hnl, Tok.sizeOf hte w, Nf]
     ·rw [Ce]
      refine ⟨rfl, fun blk' e' n' hb' hr' => ?_⟩
      rw [hb] at hb'
      cases hb'
      rw [hN] at hr'
      simp only [jc, jh] at hr'
      obtain ⟨rfl, rfl⟩ := hr'
      exact ⟨by omega, b, off, cap, hs, by rw [Nat.add_mul, ← jr]; simp [Ka]⟩
   ·simp at he
  ·simp at he
 ·rename_i id kk n hty hx hy
  split at he
  ·rename_i e' c e len har hbN
   obtain ⟨blk, hb, hN⟩ := j8.1 hbN
   split at he
   ·rename_i q hq
    obtain rfl := Mc hq
    cases hc : Nat.beq c len with
    | false => simp [hc] at he
    | true =>
     obtain rfl := js hc
     cases hi : Kk c n with
     | false => simp [hi] at he
     | true =>
      simp only [Nat.beq_refl, hi, cond_true] at he
      simp only [Kk, jd, decide_eq_true_eq] at hi
      have hv := h.ev hx
      have hn := h.ev hy
      rw [Nc] at hn
      rw [Ce] at hv
      obtain ⟨_, b, off, cap, hs, hv⟩ := hv.2 _ _ _ hb hN
      simp only [Nat.zero_mul, Nat.add_zero, Ka] at hv
      have har' := hG.ar _ _ _ har
      simp only [Ot, jd] at har'
      have har1 := har'.1
      split at har1
      ·rename_i m et hu
       simp only [jd] at har1
       obtain rfl := js har1.1
       have hte := har1.2
       have hlt : n.toNat < m := (Int.toNat_lt hi.1).2 hi.2
       refine Oa (w' := w) (v := .pointer (some ⟨b, off + n.toNat * e.size, none⟩)) ?_ (Qa h ?_ he)
       ·simp [execOp, ho, hv, hn, Instr.indexAt, Instr.sureAddr, asIntOf, run_underlying hu, hi, Tok.sizeOf hte w, Nf]
       ·rw [Ce]
        refine ⟨rfl, fun blk' e' n' hb' hr' => ?_⟩
        rw [hb] at hb'
        cases hb'
        rw [hN] at hr'
        simp only [jc, jh] at hr'
        obtain ⟨rfl, rfl⟩ := hr'
        exact ⟨hlt, b, off, cap, hs, by simp [Ka]⟩
      ·simp at har1
   ·simp at he
  ·simp at he
 ·simp at he
end
section
variable {P : Program} {Out : Type} {n0 : Nat} {A : Fx} {O0 : Nat → Prop} {w0 w w' : World} {s : AS} {σ σ' : Nat → Value} {φ φ' : Nat → List Nat} {a : Act}
variable {o : Oper} {Q : Exit → Act → World → Prop} {k : AS → Option Out} {out : Out} {d : D} {v : Value} {upd : List (Nat × Option Ca)} {dst : Option Tmp} {G : Pc}
theorem Hw {O : Nat → Prop} {hp : Nat → Option Ca} : ∀ {ds e : D} {vs : List Value} {n : Nat}, Cd w O hp σ ds vs → Fk ds n = some e → ∃ v, vs[n]? = some v ∧ Ec w O hp σ e v
 | .pr x y, e, v :: vs, 0, h, hn => by
  simp only [Fk, jc] at hn
  subst hn
  exact ⟨v, rfl, h.1⟩
 | .pr x y, e, v :: vs, n + 1, h, hn => by
  obtain ⟨u, h1, h2⟩ := Hw h.2 hn
  exact ⟨u, by simpa using h1, h2⟩
 | .pr _ _, _, [], _, h, _ => h.elim
 | .und, _, _, _, _, hn => by simp [Fk] at hn
 | .anyv, _, _, _, _, hn => by simp [Fk] at hn
 | .t _ _, _, _, _, _, hn => by simp [Fk] at hn
 | .nil, _, _, _, _, hn => by simp [Fk] at hn
 | .own _, _, _, _, _, hn => by simp [Fk] at hn
 | .ptr _ _, _, _, _, _, hn => by simp [Fk] at hn
 | .eptr _ _ _, _, _, _, _, hn => by simp [Fk] at hn
 | .rp _ _, _, _, _, _, hn => by simp [Fk] at hn
 | .un, _, _, _, _, hn => by simp [Fk] at hn
 | .tup _, _, _, _, _, hn => by simp [Fk] at hn
theorem Gk {O : Nat → Prop} {hp : Nat → Option Ca} (h : Ec w O hp σ d v) : Jb w O hp σ d v := by
 cases d with
 | tup ds => simp [Ec, D.isAgg, Ha] at h
 | und => simp [Ec, D.isAgg, Ha] at h
 | anyv => simp [Ec, D.isAgg, Ha] at h
 | _ => exact h
theorem Cz (h : Ga n0 A O0 w0 s σ φ a w) {x : Operand} {n : Nat} (ho : o.op = .extract x n)
 (he : Gc G s o k = some out) : o.wp P a w (Jc n0 A O0 w0 k out) Q := by
 simp only [Gc, Ma, ho] at he
 split at he
 ·rename_i ds hx
  split at he
  ·rename_i e hn
   have hv := h.ev hx
   obtain ⟨vs, hv, hr⟩ := hv
   obtain ⟨u, h1, h2⟩ := Hw hr hn
   have h1' : vs[n]? = some u := by simpa using h1
   refine Oa (w' := w) (v := u) ?_ (Qa h (Gk h2) he)
   simp [execOp, ho, hv, Instr.extract, h1']
  ·simp at he
 ·simp at he
theorem Mm {id : Nat} {hp : Nat → Option Ca} {O : Nat → Prop} : Jb w O hp σ (.own id) v ↔ v.oneCell' = true ∧ ∀ blk r, hp id = some blk → blk.rowN = some r → v = σ id := by
 simp only [Jb, Ec, D.isAgg, jo, if_false, Ha]
 constructor
 ·rintro ⟨u, hu, h1, h2⟩
  simp at hu; subst hu; exact ⟨h1, h2⟩
 ·rintro ⟨h1, h2⟩; exact ⟨v, rfl, h1, h2⟩
theorem Lm {hp : Nat → Option Ca} {O : Nat → Prop} : Jb w O hp σ .nil v ↔ v = .slice none 0 0 := by
 simp [Jb, Ec, D.isAgg, Ha]
theorem Jg {b : Builtin} {args : Array Operand} {ts : Array TypeId} {x : List Operand} (ho : o.op = .call ⟨.builtin b, args, ts⟩) (ha : args.toList = x) :
 execOp a.eval o = builtin b ts o.type (args.map fun | .const _ => true | _ => false) (x.map a.eval).toArray := by
 subst ha
 have : (args.toList.map a.eval).toArray = args.map a.eval := by rw [← Array.toList_map, Array.toArray_toList]
 simp only [execOp, ho, resolve, this]
 rfl
theorem DJ {α : Type} {ts : Array α} {t : α} (h : ts.toList = [t]) : ts = #[t] := by
 rw [← Array.toArray_toList (xs := ts), h]
theorem PG (hG : EnvTy P G) (h : Ga n0 A O0 w0 s σ φ a w) {args : Array Operand} {ts : Array TypeId} (ho : o.op = .call ⟨.builtin .len, args, ts⟩)
 (he : Gc G s o k = some out) : o.wp P a w (Jc n0 A O0 w0 k out) Q := by
 simp only [Gc, Ma, ho] at he
 split at he
 ·rename_i x t ha hts
  have hex := Jg (a := a) ho ha
  have hts' := DJ hts
  subst hts'
  have key : ∀ (V : Value) (n : Int), a.eval x = V → (Builtin.len_ #[t] o.type #[V]).run P w = .ok (.int .i64 n) w → Sf s o.dst (.t (.i .i64) n) [] k = some out → o.wp P a w (Jc n0 A O0 w0 k out) Q := by
   intro V n hV hr hf
   refine Oa (w' := w) (v := .int .i64 n) ?_ (Qa h (Nc.2 rfl) hf)
   rw [hex]
   simp only [List.map_cons, List.map_nil, hV, builtin, qi, hr, qh]
   rfl
  split at he
  ·rename_i e' e xs hty hx
   have hv := h.ev hx
   rw [Am] at hv
   obtain ⟨et, hu, _⟩ := Tok.sl (hG.ty _ _ hty)
   obtain ⟨ad, cap, hc, _⟩ := hv
   simp at hc
   exact key _ _ hc (by simp [Builtin.len_, run_underlying hu, goInt]) he
  ·rename_i v hty hx
   have hv := h.ev hx
   rw [Ye] at hv
   exact key _ _ hv (run_len_string w t o.type _ (Tok.s (hG.ty _ _ hty))) he
  ·rename_i e' hty hx
   have hv := h.ev hx
   rw [Lm] at hv
   obtain ⟨et, hu, _⟩ := Tok.sl (hG.ty _ _ hty)
   exact key _ _ hv (by simp [Builtin.len_, run_underlying hu, goInt]) he
  ·rename_i e' id hty hx
   split at he
   ·rename_i e len hbN
    obtain ⟨blk, hb, hN⟩ := j8.1 hbN
    have hv := h.ev hx
    rw [Mm] at hv
    obtain ⟨et, hu, _⟩ := Tok.sl (hG.ty _ _ hty)
    obtain ⟨ad, cap, hσ, _⟩ := To (h.hp id _ hb) hN
    exact key _ _ ((hv.2 _ _ hb hN).trans hσ) (by simp [Builtin.len_, run_underlying hu, goInt]) he
   ·simp at he
  ·rename_i e' id lo hi hty hx
   split at he
   ·rename_i r hbN
    obtain ⟨blk, hb, hN⟩ := j8.1 hbN
    have hv := h.ev hx
    simp only [Jb, Ec, D.isAgg, jo, if_false, Ha] at hv
    obtain ⟨u, hu', h1c, hv⟩ := hv
    simp only [List.cons.injEq, and_true] at hu'
    obtain ⟨hlo, hhi, ad0, cap, jj, hs0, hcap, _, _, hu2⟩ := hv _ _ _ hb hN
    obtain ⟨et, hu, _⟩ := Tok.sl (hG.ty _ _ hty)
    exact key _ _ (hu'.trans hu2) (by simp [Builtin.len_, run_underlying hu, goInt]) he
   ·simp at he
  ·simp at he
 ·simp at he
theorem QG (h : Ga n0 A O0 w0 s σ φ a w) {args : Array Operand} {ts : Array TypeId} (ho : o.op = .call ⟨.builtin .max, args, ts⟩)
 (he : Gc G s o k = some out) : o.wp P a w (Jc n0 A O0 w0 k out) Q := by
 simp only [Gc, Ma, ho] at he
 split at he
 ·rename_i x y ha
  have hex := Jg (a := a) ho ha
  split at he
  ·rename_i ka n kb m hx hy
   cases hk : (ka == kb) with
   | false => simp [hk] at he
   | true =>
    simp only [hk, cond_true] at he
    have hkk : ka = kb := by simpa using hk
    subst hkk
    have hv := h.ev hx
    have hw := h.ev hy
    rw [Nc] at hv hw
    refine Oa (w' := w) (v := .int ka (max (n : Int) m)) ?_ (Qa h (Nc.2 rfl) he)
    rw [hex]
    have : (Builtin.max_ ts o.type #[.int ka n, .int ka m]).run P w = .ok (.int ka (max (n : Int) m)) w := by
     simp only [Builtin.max_, List.foldlM_cons, List.foldlM_nil, Builtin.max2, qi, Sem.run_pure, qh]
     congr 2
     rcases Int.lt_or_le n m with hlt | hle
     ·rw [if_pos hlt, Int.max_eq_right (by omega)]
     ·rw [if_neg (by exact Int.not_lt.2 hle), Int.max_eq_left hle]
    simp only [List.map_cons, List.map_nil, hv, hw, builtin, qi, this, qh]
    rfl
  ·simp at he
 ·simp at he
theorem RG (h : Ga n0 A O0 w0 s σ φ a w) {args : Array Operand} {ts : Array TypeId} (ho : o.op = .call ⟨.builtin .min, args, ts⟩)
 (he : Gc G s o k = some out) : o.wp P a w (Jc n0 A O0 w0 k out) Q := by
 simp only [Gc, Ma, ho] at he
 split at he
 ·rename_i x y ha
  have hex := Jg (a := a) ho ha
  split at he
  ·rename_i ka n kb m hx hy
   cases hk : (ka == kb) with
   | false => simp [hk] at he
   | true =>
    simp only [hk, cond_true] at he
    have hkk : ka = kb := by simpa using hk
    subst hkk
    have hv := h.ev hx
    have hw := h.ev hy
    rw [Nc] at hv hw
    refine Oa (w' := w) (v := .int ka (min (n : Int) m)) ?_ (Qa h (Nc.2 rfl) he)
    rw [hex]
    have : (Builtin.min_ ts o.type #[.int ka n, .int ka m]).run P w = .ok (.int ka (min (n : Int) m)) w := by
     simp only [Builtin.min_, List.foldlM_cons, List.foldlM_nil, Builtin.min2, qi, Sem.run_pure, qh]
     congr 2
     rcases Int.lt_or_le m n with hlt | hle
     ·rw [if_pos hlt, Int.min_eq_right (by omega)]
     ·rw [if_neg (by exact Int.not_lt.2 hle), Int.min_eq_left hle]
    simp only [List.map_cons, List.map_nil, hv, hw, builtin, qi, this, qh]
    rfl
  ·simp at he
 ·simp at he
end
section
variable {P : Program} {Out : Type} {n0 : Nat} {A : Fx} {O0 : Nat → Prop} {w0 w w' : World} {s : AS} {σ σ' : Nat → Value} {φ φ' : Nat → List Nat} {a : Act}
variable {o : Oper} {Q : Exit → Act → World → Prop} {k : AS → Option Out} {out : Out} {d : D} {v : Value} {upd : List (Nat × Option Ca)} {dst : Option Tmp} {G : Pc}
theorem Tok.some {τ : Ty} {t : TypeId} (h : Xb P τ t = true) : ∃ d, P.underlying t = some d := by
 cases hτ : τ with
 | i k => subst hτ; exact ⟨_, Tok.i h⟩
 | b => subst hτ; exact ⟨_, Tok.b h⟩
 | o => subst hτ; obtain ⟨et, he⟩ := Tok.o h; exact ⟨_, he⟩
 | s => subst hτ; exact ⟨_, Tok.s h⟩
 | sl e => subst hτ; obtain ⟨et, he, _⟩ := Tok.sl h; exact ⟨_, he⟩
 | u => subst hτ; obtain ⟨fs, he, _⟩ := Tok.struct rfl h; exact ⟨_, he⟩
 | p x y => subst hτ; obtain ⟨fs, he, _⟩ := Tok.struct rfl h; exact ⟨_, he⟩
def noO : Nat → Prop := fun _ => False
theorem Ia.noO {O : Nat → Prop} {τ : Ty} {x : T τ} {cs : List Value} (h : Ia w O τ x cs) : Ia w noO τ x cs := h.weaken fun _ h => h.elim
theorem Jw {id : Nat} {e : Ty} {dp : Bool} {xs : List (T e)} {O : Nat → Prop} {hp : Nat → Option Ca} {F : List Nat} (h : Ya w O hp σ id (.row e dp xs) F) :
 Ia w noO (.sl e) xs [σ id] := by
 cases dp with
 | true => exact Ua.view (show Ua w (.sl e) xs [σ id] F from h) fun _ _ hb => hb
 | false =>
  simp only [Ya] at h
  obtain ⟨hm, ⟨h1, h2, _⟩ | ⟨bl, off, cap, cur, et, h1, hh, h2, h3, h4, hF, hv⟩⟩ := h
  ·subst h2; exact ⟨none, 0, by rw [h1]; rfl, jm _, hm, .inl rfl⟩
  ·have := jl e.size h2
   exact ⟨_, cap, by rw [h1], h2, hm, .inr ⟨bl, off, cur, et, _, rfl, fun hb => hb, hh, by omega, fun i hi => (hv i hi).noO⟩⟩
theorem Xk {α : Type} {xs : List α} {lo hi : Nat} (h : hi ≤ xs.length) : (Fd xs lo hi).length = hi - lo := by
 simp [Fd]; omega
theorem Kr {α : Type} {xs : List α} {lo hi i : Nat} (hi' : i < (Fd xs lo hi).length) (h2 : lo + i < xs.length) : (Fd xs lo hi).get ⟨i, hi'⟩ = xs.get ⟨lo + i, h2⟩ := by
 simp [Fd]
theorem Ia.cut {w : World} {O : Nat → Prop} {e : Ty} {xs : List (T e)} {ad : Option Addr} {n cap lo hi j : Nat} (h : Ia w O (.sl e) xs [.slice ad n cap]) (hlo : lo ≤ hi) (hhi : hi ≤ ja xs) (hj : lo < cap → j = lo) :
 Ia w O (.sl e) (Fd xs lo hi) [.slice (ad.map (·.add (j * e.size))) (hi - lo) (cap - lo)] := by
 obtain ⟨ad', cap', hcs, hcap, hmx, hcase⟩ := h
 simp only [List.cons.injEq, Value.slice.injEq, and_true] at hcs
 obtain ⟨rfl, rfl, rfl⟩ := hcs
 have hlen : ja (Fd xs lo hi) = hi - lo := Xk (xs := (xs : List (T e))) (lo := lo) hhi
 refine ⟨_, cap - lo, by rw [hlen], by rw [hlen]; omega, by rw [hlen]; omega, ?_⟩
 rcases Nat.eq_or_lt_of_le hlo with heq | hlt
 ·left
  exact List.eq_nil_of_length_eq_zero (by rw [hlen]; omega)
 ·right
  rcases hcase with hemp | ⟨bl, off, cur, et', fr, rfl, hO, hh, hs, hvv⟩
  ·rw [hemp] at hhi; simp at hhi; omega
  ·obtain rfl := hj (by omega)
   have hmul : (j + (hi - j)) * e.size ≤ ja xs * e.size := jl _ (by omega)
   rw [Nat.add_mul] at hmul
   refine ⟨bl, off + j * e.size, cur, et', fr, by simp [Nf], hO, hh, by rw [hlen]; omega, fun i hi' => ?_⟩
   have hi2 : i < hi - j := by rw [← hlen]; exact hi'
   have h2 : j + i < ja xs := by omega
   have := hvv (j + i) h2
   rw [Kr (xs := (xs : List (T e))) hi' h2]
   rw [Nat.add_mul, ← jr] at this
   exact this
theorem Yg (h : Ga n0 A O0 w0 s σ φ a w) : ∀ {d : D} {τ : Ty} {x : T τ} {cs : List Value}, Ea s d τ = some x → Ha w (OO O0 s φ) s.heap σ d cs → Ia w noO τ x cs
 | .t τ' y, τ, x, cs, he, hr => by
  simp only [Ea] at he
  split at he
  ·rename_i q hq
   obtain rfl := Mc hq
   simp only [jc] at he
   subst he
   exact Ia.noO hr
  ·simp at he
 | .nil, .sl e, x, cs, he, hr => by
  simp only [Ea, jc] at he
  subst he
  simp only [Ha] at hr
  exact ⟨none, 0, hr, jm _, by simp, .inl rfl⟩
 | .own id, .sl e, x, cs, he, hr => by
  simp only [Ea] at he
  split at he
  ·rename_i e' dp xs hb
   split at he
   ·rename_i q hq
    obtain rfl := Mc hq
    simp only [jc] at he
    subst he
    obtain ⟨v, hcs, _, hv⟩ := hr
    rw [hcs, hv _ _ hb rfl]
    exact Jw (h.hp id _ hb)
   ·simp at he
  ·simp at he
 | .cut id lo hi, .sl e, x, cs, he, hr => by
  simp only [Ea] at he
  split at he
  ·rename_i e' dp xs hb
   split at he
   ·rename_i q hq
    obtain rfl := Mc hq
    simp only [jc] at he
    subst he
    obtain ⟨v, hcs, _, hv⟩ := hr
    obtain ⟨hlo, hhi, ad, cap, j, hs, hcap, _, hj, hv⟩ := hv _ _ _ hb rfl
    rw [hcs, hv]
    have := Jw (h.hp id _ hb)
    rw [hs] at this
    exact this.cut hlo hhi hj
   ·simp at he
  ·simp at he
 | .pr y z, .p t1 t2, x, cs, he, hr => by
  simp only [Ea] at he
  split at he
  ·rename_i u v hu hv
   simp only [jc] at he
   subst he
   obtain ⟨c1, c2, h0, h1, h2⟩ := hr
   exact ⟨c1, c2, h0, Yg h hu h1, Yg h hv h2⟩
  ·simp at he
 | .un, .u, x, cs, he, hr => by
  simp only [Ha] at hr
  exact hr
 | .und, τ, _, _, he, _ => by cases τ <;> simp [Ea] at he
 | .anyv, τ, _, _, he, _ => by cases τ <;> simp [Ea] at he
 | .nil, .i _, _, _, he, _ => by simp [Ea] at he
 | .nil, .b, _, _, he, _ => by simp [Ea] at he
 | .nil, .o, _, _, he, _ => by simp [Ea] at he
 | .nil, .s, _, _, he, _ => by simp [Ea] at he
 | .nil, .u, _, _, he, _ => by simp [Ea] at he
 | .nil, .p _ _, _, _, he, _ => by simp [Ea] at he
 | .own _, .i _, _, _, he, _ => by simp [Ea] at he
 | .own _, .b, _, _, he, _ => by simp [Ea] at he
 | .own _, .o, _, _, he, _ => by simp [Ea] at he
 | .own _, .s, _, _, he, _ => by simp [Ea] at he
 | .own _, .u, _, _, he, _ => by simp [Ea] at he
 | .own _, .p _ _, _, _, he, _ => by simp [Ea] at he
 | .cut _ _ _, .i _, _, _, he, _ => by simp [Ea] at he
 | .cut _ _ _, .b, _, _, he, _ => by simp [Ea] at he
 | .cut _ _ _, .o, _, _, he, _ => by simp [Ea] at he
 | .cut _ _ _, .s, _, _, he, _ => by simp [Ea] at he
 | .cut _ _ _, .u, _, _, he, _ => by simp [Ea] at he
 | .cut _ _ _, .p _ _, _, _, he, _ => by simp [Ea] at he
 | .pr _ _, .i _, _, _, he, _ => by simp [Ea] at he
 | .pr _ _, .b, _, _, he, _ => by simp [Ea] at he
 | .pr _ _, .o, _, _, he, _ => by simp [Ea] at he
 | .pr _ _, .s, _, _, he, _ => by simp [Ea] at he
 | .pr _ _, .u, _, _, he, _ => by simp [Ea] at he
 | .pr _ _, .sl _, _, _, he, _ => by simp [Ea] at he
 | .un, .i _, _, _, he, _ => by simp [Ea] at he
 | .un, .b, _, _, he, _ => by simp [Ea] at he
 | .un, .o, _, _, he, _ => by simp [Ea] at he
 | .un, .s, _, _, he, _ => by simp [Ea] at he
 | .un, .sl _, _, _, he, _ => by simp [Ea] at he
 | .un, .p _ _, _, _, he, _ => by simp [Ea] at he
 | .ptr _ _, τ, _, _, he, _ => by cases τ <;> simp [Ea] at he
 | .eptr _ _ _, τ, _, _, he, _ => by cases τ <;> simp [Ea] at he
 | .rp _ _, τ, _, _, he, _ => by cases τ <;> simp [Ea] at he
 | .tup _, τ, _, _, he, _ => by cases τ <;> simp [Ea] at he
theorem Ij : ∀ {d : D} {τ : Ty} {x : T τ}, Ea s d τ = some x → Ja τ d
 | .t τ' y, τ, x, he => by
  simp only [Ea] at he
  split at he
  ·rename_i q hq
   have := Mc hq
   simpa [Ja] using this
  ·simp at he
 | .nil, .sl e, x, he => trivial
 | .own id, .sl e, x, he => trivial
 | .cut _ _ _, .sl e, x, he => trivial
 | .pr y z, .p t1 t2, x, he => by
  simp only [Ea] at he
  split at he
  ·rename_i u v hu hv
   exact ⟨Ij hu, Ij hv⟩
  ·simp at he
 | .un, .u, x, he => trivial
 | .und, τ, _, he => by cases τ <;> simp [Ea] at he
 | .anyv, τ, _, he => by cases τ <;> simp [Ea] at he
 | .nil, .i _, _, he => by simp [Ea] at he
 | .nil, .b, _, he => by simp [Ea] at he
 | .nil, .o, _, he => by simp [Ea] at he
 | .nil, .s, _, he => by simp [Ea] at he
 | .nil, .u, _, he => by simp [Ea] at he
 | .nil, .p _ _, _, he => by simp [Ea] at he
 | .own _, .i _, _, he => by simp [Ea] at he
 | .own _, .b, _, he => by simp [Ea] at he
 | .own _, .o, _, he => by simp [Ea] at he
 | .own _, .s, _, he => by simp [Ea] at he
 | .own _, .u, _, he => by simp [Ea] at he
 | .own _, .p _ _, _, he => by simp [Ea] at he
 | .cut _ _ _, .i _, _, he => by simp [Ea] at he
 | .cut _ _ _, .b, _, he => by simp [Ea] at he
 | .cut _ _ _, .o, _, he => by simp [Ea] at he
 | .cut _ _ _, .s, _, he => by simp [Ea] at he
 | .cut _ _ _, .u, _, he => by simp [Ea] at he
 | .cut _ _ _, .p _ _, _, he => by simp [Ea] at he
 | .pr _ _, .i _, _, he => by simp [Ea] at he
 | .pr _ _, .b, _, he => by simp [Ea] at he
 | .pr _ _, .o, _, he => by simp [Ea] at he
 | .pr _ _, .s, _, he => by simp [Ea] at he
 | .pr _ _, .u, _, he => by simp [Ea] at he
 | .pr _ _, .sl _, _, he => by simp [Ea] at he
 | .un, .i _, _, he => by simp [Ea] at he
 | .un, .b, _, he => by simp [Ea] at he
 | .un, .o, _, he => by simp [Ea] at he
 | .un, .s, _, he => by simp [Ea] at he
 | .un, .sl _, _, he => by simp [Ea] at he
 | .un, .p _ _, _, he => by simp [Ea] at he
 | .ptr _ _, τ, _, he => by cases τ <;> simp [Ea] at he
 | .eptr _ _ _, τ, _, he => by cases τ <;> simp [Ea] at he
 | .rp _ _, τ, _, he => by cases τ <;> simp [Ea] at he
 | .tup _, τ, _, he => by cases τ <;> simp [Ea] at he
theorem Ga.OO_lt (h : Ga n0 A O0 w0 s σ φ a w) {b : Nat} (hb : OO O0 s φ b) : b < w.heap.size := by
 rcases hb with hb | ⟨id, blk, hl, hm⟩
 ·exact qd (h.o0 b hb) h.fr.size
 ·exact (h.hp id blk hl).lt b hm
theorem JB {O : Nat → Prop} {hp : Nat → Option Ca} {τ : Ty} {x : T τ} (he : Ea s d τ = some x) (h : Jb w O hp σ d v) :
 Ha w O hp σ d v.cells.toList ∧ v = Ub τ v.cells.toList := Dc (Ij he) h
theorem Qw {b off : Nat} {cur : Array Value} {et : TypeId} {fr : Nat × Nat} {xs : List Int} (hh : w.heap[b]? = some (.cells cur et fr)) {O : Nat → Prop}
 (hv : ∀ i (h : i < xs.length), Ia w O (.i .u8) (xs.get ⟨i, h⟩) (Sb cur (off + i * 1) 1)) :
 ∀ i, i < xs.length → w.cell? ⟨b, off + i, none⟩ = some (.int .u8 (xs.getD i 0)) := by
 intro i hi
 have h1 := hv i hi
 simp only [Ia, Nat.mul_one] at h1
 have h2 := Hc cur (off + i) 1 0 (by omega)
 rw [h1] at h2
 simp only [List.getElem?_cons_zero, Nat.add_zero] at h2
 rw [cell_of_row w b (off + i) cur et fr hh, ← h2]
 simp [List.getD, hi]
theorem Nz (xs : List Int) : strOfNums xs = ⟨(Xd xs).toArray⟩ := by
 simp [strOfNums, Xd]
theorem Ga.ext (h : Ga n0 A O0 w0 s σ φ a w) (hs : w.heap.size ≤ w'.heap.size) (hb : ∀ b, b < w.heap.size → w'.heap[b]? = w.heap[b]?)
 (hos : w'.os = w.os) (htape : w'.tape = w.tape) (hout : w'.output = w.output) : Ga n0 A O0 w0 s σ φ a w' := by
 refine h.trans (fun _ => False) rfl rfl (fun _ _ => ⟨rfl, rfl, rfl⟩) (fun b hb' _ => hb b hb') hs ?_ ?_ ?_ ?_ hos htape hout (fun _ h => h.elim)
 all_goals intro id; intros; contradiction
theorem Bz (hG : EnvTy P G) (h : Ga n0 A O0 w0 s σ φ a w) {src t : TypeId} {x : Operand} (ho : o.op = .convert src t x)
 (he : Gc G s o k = some out) : o.wp P a w (Jc n0 A O0 w0 k out) Q := by
 simp only [Gc, Ma, ho] at he
 split at he
 ·rename_i τs kk k' n hts htt hx
  have hv := h.ev hx
  rw [Nc] at hv
  obtain ⟨ds, hds⟩ := Tok.some (hG.ty _ _ hts)
  have hd := Tok.i (hG.ty _ _ htt)
  refine Oa (w' := w) (v := .int kk (kk.wrap n)) ?_ (Qa h (Nc.2 rfl) he)
  have : (convert src t (.int k' n)).run P w = .ok (.int kk (kk.wrap n)) w := by
   simp [convert, run_underlying hds, run_underlying hd, Conv.intToInt]
  simp [execOp, ho, hv, this]
 ·rename_i v hts htt hx
  have hv := h.ev hx
  rw [Ye] at hv
  have hds := Tok.s (hG.ty _ _ hts)
  have hd := Tok.s (hG.ty _ _ htt)
  refine Oa (w' := w) (v := .string ⟨List.toArray v⟩) ?_ (Qa h (Ye.2 rfl) he)
  have : (convert src t (.string ⟨List.toArray v⟩)).run P w = .ok (.string ⟨List.toArray v⟩) w := by
   simp [convert, run_underlying hds, run_underlying hd]
  simp [execOp, ho, hv, this]
 ·rename_i d hts htt hx
  split at he
  ·rename_i v hvt
   have hv := h.ev hx
   obtain ⟨hr, hvof⟩ := JB hvt hv
   have hvw := Yg h hvt hr
   obtain ⟨et, hu, hte⟩ := Tok.sl (hG.ty _ _ hts)
   have hu8 := Tok.i hte
   have hd := Tok.s (hG.ty _ _ htt)
   obtain ⟨ad, cap, hc, hcap, hm, hemp | ⟨bl, off, cur, et', fr, hee, hO, hh, hs, hvv⟩⟩ := hvw
   ·rw [hc] at hvof
    have hv' : a.eval x = .slice ad (ja v) cap := by rw [hvof]; rfl
    refine Oa (w' := w) (v := .string ⟨(Xd v).toArray⟩) ?_ (Qa h (Ye.2 rfl) he)
    have hcv := run_convert_bytes_string (P := P) w src t et ad (ja v) cap hu hu8 hd
    have hst : (Conv.bytesToString (.slice ad (ja v) cap)).run P w = .ok (.string ⟨(Xd v).toArray⟩) w := by
     rw [hemp]
     cases ad with
     | none => simp [Conv.bytesToString, Xd]; rfl
     | some ad =>
      have := run_bytesToString (P := P) w ad 0 cap [] (by simp [loadCells, loadCellsFrom])
      exact this
    simp [execOp, ho, hv', hcv, hst]
   ·rw [hc] at hvof
    have hv' : a.eval x = .slice ad (ja v) cap := by rw [hvof]; rfl
    subst hee
    refine Oa (w' := w) (v := .string ⟨(Xd v).toArray⟩) ?_ (Qa h (Ye.2 rfl) he)
    have hcell := Qw (off := off) (xs := v) hh hvv
    have hcv := run_convert_bytes_arg (P := P) w src et hu hu8 bl off (ja v) cap v rfl hcell t hd
    rw [Nz] at hcv
    simp [execOp, ho, hv', hcv]
  ·simp at he
 ·rename_i v hts htt hx
  cases hl : jt (ja v) Dk with
  | false => simp [hl] at he
  | true =>
   simp only [hl, cond_true] at he
   have hle := Nat.le_of_ble_eq_true hl
   have hv := h.ev hx
   rw [Ye] at hv
   have hds := Tok.s (hG.ty _ _ hts)
   obtain ⟨et, hu, hte⟩ := Tok.sl (hG.ty _ _ htt)
   have hu8 := Tok.i hte
   have hr := Lib.run_convert_string_bytes (P := P) w src t et ⟨List.toArray v⟩ hds hu hu8
   have hc : Ga n0 A O0 w0 s σ φ a (Lib.bytesWorld w et ⟨List.toArray v⟩) := by
    refine h.ext ?_ (fun b hb => Lib.bytesWorld_at_old w et _ b hb) ?_ ?_ ?_
    ·rw [Lib.bytesWorld_size]; omega
    all_goals (simp [Lib.bytesWorld, World.freeze] <;> rfl)
   refine Oa (w' := Lib.bytesWorld w et ⟨List.toArray v⟩) (v := .slice (some ⟨w.heap.size, 0, none⟩) (ByteArray.mk (List.toArray v)).size (grownCap w (ByteArray.mk (List.toArray v)).size 0 et)) ?_ (Qa hc ?_ he)
   ·simp [execOp, ho, hv, hr]
   ·rw [Am]
    have hlen : (ByteArray.mk (List.toArray v)).size = ja v := by simp [ByteArray.size]
    have hbl : (Tf v).length = ja v := by simp [Tf]
    have hcs : ja v ≤ (Lib.bytesCells w et ⟨List.toArray v⟩).size := by simp [Lib.bytesCells]
    refine ⟨some ⟨w.heap.size, 0, none⟩, grownCap w (ByteArray.mk (List.toArray v)).size 0 et, by rw [hbl, hlen], ?_, ?_, .inr ⟨w.heap.size, 0, _, et, _, rfl, ?_, Lib.bytesWorld_at_new w et _, ?_, ?_⟩⟩
    ·rw [hbl, ← hlen]; exact grownCap_ge w _ _ _
    ·rw [hbl]; unfold Ke; unfold Dk at hle; omega
    ·intro hb; exact Nat.lt_irrefl _ (h.OO_lt hb)
    ·rw [hbl]; simpa [Ty.size] using hcs
    ·intro i hi
     have hi' : i < ja v := by rw [hbl] at hi; exact hi
     simp only [Ia, Ty.size, Nat.mul_one, jq]
     have h1 : Sb (Lib.bytesCells w et ⟨List.toArray v⟩) i 1 = [.int .u8 ((List.get v ⟨i, hi'⟩).toNat : Int)] := by
      apply List.ext_getElem?
      intro j
      rcases Nat.lt_or_ge j 1 with hj | hj
      ·have : j = 0 := by omega
       subst this
       rw [Hc _ _ _ _ (by omega)]
       simp [Lib.bytesCells, hi', Array.getElem?_append]
      ·rw [List.getElem?_eq_none (by rw [Lb (by omega)]; exact hj), List.getElem?_eq_none (by simpa using hj)]
     rw [h1]
     simp [Tf]
 ·simp at he
end
section
variable {P : Program} {Out : Type} {n0 : Nat} {A : Fx} {O0 : Nat → Prop} {w0 w w' : World} {s : AS} {σ σ' : Nat → Value} {φ φ' : Nat → List Nat} {a : Act}
variable {o : Oper} {Q : Exit → Act → World → Prop} {k : AS → Option Out} {out : Out} {d : D} {v : Value} {upd : List (Nat × Option Ca)} {dst : Option Tmp} {G : Pc}
theorem NG (h : Ga n0 A O0 w0 s σ φ a w) {x : Option Operand} {l : Int} (hl : Un s x = some l) :
 (x = none ∧ l = 0) ∨ ∃ y k, x = some y ∧ a.eval y = .int k l := by
 unfold Un at hl
 split at hl
 ·simp at hl; exact .inl ⟨rfl, hl.symm⟩
 ·rename_i y
  split at hl
  ·rename_i k n hx
   simp at hl; subst hl
   have := h.ev hx
   rw [Nc] at this
   exact .inr ⟨y, k, rfl, this⟩
  ·simp at hl
theorem QF (h : Ga n0 A O0 w0 s σ φ a w) {n : Nat} {x : Option Operand} {l : Int} (hl : Sp s n x = some l) :
 (x = none ∧ l = n) ∨ ∃ y k, x = some y ∧ a.eval y = .int k l := by
 unfold Sp at hl
 split at hl
 ·simp at hl; exact .inl ⟨rfl, hl.symm⟩
 ·rename_i y
  split at hl
  ·rename_i k m hx
   simp at hl; subst hl
   have := h.ev hx
   rw [Nc] at this
   exact .inr ⟨y, k, rfl, this⟩
  ·simp at hl
theorem Zf (h : Ga n0 A O0 w0 s σ φ a w) {n cap : Nat} {lo hi : Option Operand} {l m : Int} (hl : Un s lo = some l) (hh : Sp s n hi = some m)
 (hc : Wd n l m = true) (hcap : n ≤ cap) (b : Bool) : (Instr.sliceBounds b n cap (lo.map a.eval) (hi.map a.eval) none).run P w = .ok (l.toNat, m.toNat, cap) w := by
 simp only [Wd, jd, decide_eq_true_eq] at hc
 have hm : m ≤ (cap : Int) := by omega
 have e1 : 0 ≤ m := by omega
 rcases QF h hh with ⟨rfl, hm'⟩ | ⟨y, ky, rfl, hy⟩ <;> rcases NG h hl with ⟨rfl, hl'⟩ | ⟨z, kz, rfl, hz⟩
 ·subst hl'; subst hm'
  simp [Instr.sliceBounds]
 ·subst hm'
  simp [Instr.sliceBounds, Instr.sliceBound, hz, asIntOf, hc]
 ·subst hl'
  simp [Instr.sliceBounds, Instr.sliceBound, hy, asIntOf, e1, hm]
 ·have hlm : l ≤ (m.toNat : Int) := by omega
  have hmax : max m 0 = m := Int.max_eq_left e1
  simp [Instr.sliceBounds, Instr.sliceBound, hy, hz, asIntOf, e1, hm, hc, hmax]
theorem Kf : ∀ {d : D} {τ : Ty}, Za τ d = true → Ja τ d
 | .t τ' x, τ, h => by
  simp only [Za] at h
  obtain ⟨q, hq⟩ := Option.isSome_iff_exists.1 h
  have := q.down
  simpa [Ja] using this
 | .nil, .sl _, _ => trivial
 | .own _, .sl _, _ => trivial
 | .pr x y, .p t1 t2, h => by
  simp only [Za, jd] at h
  exact ⟨Kf h.1, Kf h.2⟩
 | .un, .u, _ => trivial
 | .und, τ, h => by cases τ <;> simp [Za] at h
 | .anyv, τ, h => by cases τ <;> simp [Za] at h
 | .nil, .i _, h => by simp [Za] at h
 | .nil, .b, h => by simp [Za] at h
 | .nil, .o, h => by simp [Za] at h
 | .nil, .s, h => by simp [Za] at h
 | .nil, .u, h => by simp [Za] at h
 | .nil, .p _ _, h => by simp [Za] at h
 | .own _, .i _, h => by simp [Za] at h
 | .own _, .b, h => by simp [Za] at h
 | .own _, .o, h => by simp [Za] at h
 | .own _, .s, h => by simp [Za] at h
 | .own _, .u, h => by simp [Za] at h
 | .own _, .p _ _, h => by simp [Za] at h
 | .cut _ _ _, τ, h => by cases τ <;> simp [Za] at h
 | .pr _ _, .i _, h => by simp [Za] at h
 | .pr _ _, .b, h => by simp [Za] at h
 | .pr _ _, .o, h => by simp [Za] at h
 | .pr _ _, .s, h => by simp [Za] at h
 | .pr _ _, .u, h => by simp [Za] at h
 | .pr _ _, .sl _, h => by simp [Za] at h
 | .un, .i _, h => by simp [Za] at h
 | .un, .b, h => by simp [Za] at h
 | .un, .o, h => by simp [Za] at h
 | .un, .s, h => by simp [Za] at h
 | .un, .sl _, h => by simp [Za] at h
 | .un, .p _ _, h => by simp [Za] at h
 | .ptr _ _, τ, h => by cases τ <;> simp [Za] at h
 | .eptr _ _ _, τ, h => by cases τ <;> simp [Za] at h
 | .rp _ _, τ, h => by cases τ <;> simp [Za] at h
 | .tup _, τ, h => by cases τ <;> simp [Za] at h
theorem KC (hG : EnvTy P G) (h : Ga n0 A O0 w0 s σ φ a w) {t : TypeId} {x : Operand} {f : Nat} (ho : o.op = .field t x f)
 (he : Gc G s o k = some out) : o.wp P a w (Jc n0 A O0 w0 k out) Q := by
 simp only [Gc, Ma, ho] at he
 split at he
 ·rename_i τ d hty hx
  cases hs : Za τ d with
  | false => simp [hs] at he
  | true =>
   simp only [hs, cond_true] at he
   split at he
   ·rename_i τf e hf hd
    have hsh := Kf hs
    obtain ⟨hr, hv⟩ := Dc hsh (h.ev hx)
    obtain ⟨hse, hre⟩ := Ha.field hsh hf hd hr
    obtain ⟨fs, fl, hu, h1, h2, h3⟩ := Tok.field (hG.ty _ _ hty) hf
    have hagg : τ.isAgg = true := by
     clear hr hv hse hre hsh hs hx hd hty hu
     cases τ <;> first | rfl | simp [Da] at hf
    have hlen := Ha.length hsh hr
    have hle := Ng hf
    refine Oa (w' := w) (v := Ub τf (((a.eval x).cells.toList.drop (Xa τ f)).take τf.size)) ?_ (Qa h (Gh hse hre) he)
    have hv' : a.eval x = .agg (a.eval x).cells := by
     conv => lhs; rw [hv]
     simp [Ub, hagg]
    generalize (a.eval x).cells = cs at *
    have hpart : (part fl.type cs fl.offset).run P w = .ok (Ub τf ((cs.toList.drop (Xa τ f)).take τf.size)) w := by
     unfold part
     rw [qi, Tok.isAgg h3 w, h2]
     cases ha : τf.isAgg with
     | true =>
      simp only [qh, if_true, qi, Tok.sizeOf h3 w, Sem.run_pure, Ub, ha]
      congr 2
      apply Array.ext'
      simp
     | false =>
      have h1' := Ty.size_one ha
      have hlt : Xa τ f < cs.size := by
       have : cs.toList.length = τ.size := hlen
       simp at this; omega
      simp only [qh, jo, if_false, Ub, ha, h1']
      have : (cs.toList.drop (Xa τ f)).take 1 = [cs[Xa τ f]] := by
       rw [List.drop_eq_getElem_cons (by simpa using hlt)]
       simp
      simp [this, hlt]
    simp only [execOp, ho, hv', Instr.field, qi, run_underlying hu, qh, h1, asAgg, Sem.run_pure, hpart]
   ·simp at he
 ·simp at he
end
def Ae {α : Type} (f : Nat → α) (id : Nat) (v : α) : Nat → α := fun j => if j = id then v else f j
theorem Rc {α : Type} (f : Nat → α) (id : Nat) (v : α) : Ae f id v id = v := by simp [Ae]
theorem Mf {α : Type} (f : Nat → α) {id j : Nat} (v : α) (h : j ≠ id) : Ae f id v j = f j := by simp [Ae, h]
theorem Kd (s : AS) (id : Nat) (b : Option Ca) : AS.heap ⟨s.n, s.tm, (id, b) :: s.hp⟩ id = b := by
 simp [AS.heap, Hb]
theorem Ai (s : AS) {id j : Nat} (b : Option Ca) (h : j ≠ id) : AS.heap ⟨s.n, s.tm, (id, b) :: s.hp⟩ j = s.heap j := by
 simp [AS.heap, Hb, Ne.symm h]
section
variable {P : Program} {Out : Type} {n0 : Nat} {A : Fx} {O0 : Nat → Prop} {w0 w w' : World} {s : AS} {σ σ' : Nat → Value} {φ φ' : Nat → List Nat} {a : Act}
variable {o : Oper} {Q : Exit → Act → World → Prop} {k : AS → Option Out} {out : Out} {d : D} {v : Value} {upd : List (Nat × Option Ca)} {dst : Option Tmp} {G : Pc}
theorem Pj {id : Nat} (h : s.newOk id = true) : id < 500000 := by
 simp only [AS.newOk, jd] at h
 have := h.2
 rwa [Nat.blt_eq] at this
theorem Ga.new1 (h : Ga n0 A O0 w0 s σ φ a w) {id : Nat} (hnew : s.newOk id = true) (blk : Ca) (val : Value) (F : List Nat)
 (hs : w.heap.size ≤ w'.heap.size) (hb : ∀ b, b < w.heap.size → w'.heap[b]? = w.heap[b]?)
 (hos : w'.os = w.os) (htape : w'.tape = w.tape) (hout : w'.output = w.output) (hF : F.Nodup) (hFn : ∀ b, b ∈ F → w.heap.size ≤ b)
 (hrep : ∀ (hp' : Nat → Option Ca) (σ' : Nat → Value) (O' : Nat → Prop), σ' id = val → (∀ b, b < w.heap.size → ¬ OO O0 s φ b → ¬ O' b) →
  (∀ j, j ≠ id → Cp s.heap hp' σ σ' j) → Ya w' O' hp' σ' id blk F) :
 Ga n0 A O0 w0 ⟨s.n, s.tm, (id, some blk) :: s.hp⟩ (Ae σ id val) (Ae φ id F) a w' := by
 have hnm : s.ment id = false := by
  simp only [AS.newOk, jd, Bool.not_eq_true'] at hnew
  exact hnew.1
 have hOO : ∀ b, b < w.heap.size → ¬ OO O0 s φ b → ¬ OO O0 ⟨s.n, s.tm, (id, some blk) :: s.hp⟩ (Ae φ id F) b := by
  rintro b hlt hno (ho | ⟨j, blk', hl, hm⟩)
  ·exact hno (.inl ho)
  ·by_cases hj : j = id
   ·subst hj
    rw [Rc] at hm
    have := hFn b hm
    omega
   ·rw [Ai s _ hj] at hl
    rw [Mf _ _ hj] at hm
    exact hno (.inr ⟨j, blk', hl, hm⟩)
 refine h.trans (fun j => j = id) rfl rfl ?_ ?_ hs ?_ ?_ ?_ ?_ hos htape hout (fun j hj => .inr (hj ▸ Pj hnew))
 ·intro j hj
  exact ⟨Ai s _ hj, Mf _ _ hj, Mf _ _ hj⟩
 ·intro b hlt _; exact hb b hlt
 ·rintro j blk' rfl _ b hbm
  rw [Rc] at hbm
  exact .inl (hFn b hbm)
 ·rintro j blk' rfl _ hm
  rw [hnm] at hm; simp at hm
 ·rintro j blk' rfl hl
  rw [Kd] at hl
  simp only [jc] at hl
  subst hl
  rw [Rc]
  refine ⟨hrep _ _ _ (Rc _ _ _) hOO ?_, hF⟩
  intro j' hj' blk' hl'
  rw [Ai s _ hj'] at hl'
  exact ⟨blk', hl', Ca.like_refl _, Mf _ _ hj'⟩
 ·rintro j j' _ _ rfl rfl hne; exact absurd rfl hne
theorem Ga.new1b (h : Ga n0 A O0 w0 s σ φ a w) {id : Nat} (hnew : s.newOk id = true) (blk : Ca) (val : Value) (F : List Nat)
 (hs : w.heap.size ≤ w'.heap.size) (hb : ∀ b, b < w.heap.size → w'.heap[b]? = w.heap[b]?)
 (hos : w'.os = w.os) (htape : w'.tape = w.tape) (hout : w'.output = w.output) (hF : F.Nodup) (hFn : ∀ b, b ∈ F → w.heap.size ≤ b)
 (hrep : ∀ (hp' : Nat → Option Ca) (σ' : Nat → Value) (O' : Nat → Prop), σ' id = val → (∀ b, O' b → OO O0 s φ b ∨ b ∈ F) → Ya w' O' hp' σ' id blk F) :
 Ga n0 A O0 w0 ⟨s.n, s.tm, (id, some blk) :: s.hp⟩ (Ae σ id val) (Ae φ id F) a w' := by
 have hnm : s.ment id = false := by
  simp only [AS.newOk, jd, Bool.not_eq_true'] at hnew
  exact hnew.1
 have hOO : ∀ b, OO O0 ⟨s.n, s.tm, (id, some blk) :: s.hp⟩ (Ae φ id F) b → OO O0 s φ b ∨ b ∈ F := by
  rintro b (ho | ⟨j, blk', hl, hm⟩)
  ·exact .inl (.inl ho)
  ·by_cases hj : j = id
   ·subst hj
    rw [Rc] at hm
    exact .inr hm
   ·rw [Ai s _ hj] at hl
    rw [Mf _ _ hj] at hm
    exact .inl (.inr ⟨j, blk', hl, hm⟩)
 refine h.trans (fun j => j = id) rfl rfl ?_ ?_ hs ?_ ?_ ?_ ?_ hos htape hout (fun j hj => .inr (hj ▸ Pj hnew))
 ·intro j hj
  exact ⟨Ai s _ hj, Mf _ _ hj, Mf _ _ hj⟩
 ·intro b hlt _; exact hb b hlt
 ·rintro j blk' rfl _ b hbm
  rw [Rc] at hbm
  exact .inl (hFn b hbm)
 ·rintro j blk' rfl _ hm
  rw [hnm] at hm; simp at hm
 ·rintro j blk' rfl hl
  rw [Kd] at hl
  simp only [jc] at hl
  subst hl
  rw [Rc]
  exact ⟨hrep _ _ _ (Rc _ _ _) hOO, hF⟩
 ·rintro j j' _ _ rfl rfl hne; exact absurd rfl hne
theorem Rd (w : World) (o : Obj) (b : Nat) (h : b < w.heap.size) : (w.alloc o).heap[b]? = w.heap[b]? := Go.RowKit.Below.heap_alloc w o b h
theorem Px (h : Ga n0 A O0 w0 s σ φ a w) {id : Nat} (hnew : s.newOk id = true) {ρ : Ty} {d : D} {cs : List Value} (t : TypeId) (hsh : Ja ρ d)
 (hr : Ha w (OO O0 s φ) s.heap σ d cs) (hm : ∀ j, d.ment j = true → s.ment j = true) :
 Ga n0 A O0 w0 ⟨s.n, s.tm, (id, some (.box ρ d)) :: s.hp⟩ (Ae σ id (.pointer (some ⟨w.heap.size, 0, none⟩))) (Ae φ id [w.heap.size]) a (w.alloc (.cells cs.toArray t)) := by
 have hnm : s.ment id = false := by
  simp only [AS.newOk, jd, Bool.not_eq_true'] at hnew
  exact hnew.1
 refine h.new1 hnew _ _ _ (by simp) (fun b hb => Rd w _ b hb) rfl rfl rfl (by simp) (by simp) ?_
 intro hp' σ' O' hσ hO hc
 have hlen := Ha.length hsh hr
 refine ⟨hsh, w.heap.size, cs.toArray, t, hσ, heap_alloc_new w _, rfl, ?_, by simpa using hlen⟩
 refine Ha.stable (fun b _ hlt => Rd w _ b hlt) hO d _ (fun j hj => hc j ?_) (by simpa using hr)
 intro e
 subst e
 rw [hm j hj] at hnm
 simp at hnm
theorem Bo (w : World) (O : Nat → Prop) (hp : Nat → Option Ca) (σ : Nat → Value) : ∀ τ : Ty, Ja τ (zD τ) ∧ Ha w O hp σ (zD τ) τ.zc ∧ ∀ j, (zD τ).ment j = false
 | .i k => ⟨by simp [zD, Ja], by simp [zD, Ha, Ia, zT, Ty.zc], fun _ => rfl⟩
 | .b => ⟨by simp [zD, Ja], by simp [zD, Ha, Ia, zT, Ty.zc], fun _ => rfl⟩
 | .o => ⟨by simp [zD, Ja], by simp [zD, Ha, Ia, zT, Ty.zc], fun _ => rfl⟩
 | .s => ⟨by simp [zD, Ja], by simp [zD, Ha, Ia, zT, Ty.zc], fun _ => rfl⟩
 | .sl e => ⟨by simp [zD, Ja], by simp [zD, Ha, Ty.zc], fun _ => rfl⟩
 | .u => ⟨by simp [zD, Ja], by simp [zD, Ha, Ty.zc], fun _ => rfl⟩
 | .p x y => by
  obtain ⟨a1, a2, a3⟩ := Bo w O hp σ x
  obtain ⟨b1, b2, b3⟩ := Bo w O hp σ y
  refine ⟨Ja.mkpr a1 b1, Ha.mkpr a2 b2, fun j => ?_⟩
  have e1 := a3 j
  have e2 := b3 j
  simp only [zD]
  unfold mkpr
  split
  ·rfl
  ·rfl
  ·simp [D.ment, e1, e2]
theorem Cm {id : Nat} {ρ : Ty} {d : D} {path : List Nat} (b : Nat) (hρ : Ka ρ path = 0) {O : Nat → Prop} {s' : AS} (hs' : s'.heap id = some (.box ρ d)) :
 Jb w O s'.heap (Ae σ id (.pointer (some ⟨b, 0, none⟩))) (.ptr id path) (.pointer (some ⟨b, 0, none⟩)) := by
 rw [Fi]
 refine ⟨rfl, fun ρ' d' hb => ?_⟩
 rw [hs'] at hb
 simp at hb
 obtain ⟨rfl, rfl⟩ := hb
 exact ⟨b, Rc _ _ _, by rw [hρ]⟩
theorem OG (_ : EnvTy P G) (h : Ga n0 A O0 w0 s σ φ a w) {t : TypeId} {x : Operand} (ho : o.op = .box t x)
 (he : Gc G s o k = some out) : o.wp P a w (Jc n0 A O0 w0 k out) Q := by
 simp only [Gc, Ma, ho] at he
 split at he
 ·rename_i tt τ d hd hty hx
  cases hn : (s.newOk tt && Za τ d) with
  | false => simp [hn] at he
  | true =>
   simp only [hn, cond_true] at he
   simp only [jd] at hn
   have hsh := Kf hn.2
   obtain ⟨hr, hv⟩ := Dc hsh (h.ev hx)
   have hm : ∀ j, d.ment j = true → s.ment j = true := by
    intro j hj
    cases x with
    | tmp q => exact AS.ment_tm hx hj
    | const c =>
     exfalso
     simp only [AS.ev] at hx
     unfold Pp at hx
     split at hx <;> simp at hx <;> subst hx <;> simp [D.ment] at hj
    | _ => simp [AS.ev] at hx
   have hc := Px (id := tt) h hn.1 t hsh hr hm
   refine Oa (w' := w.alloc (.cells (a.eval x).cells.toList.toArray t)) (v := .pointer (some ⟨w.heap.size, 0, none⟩)) ?_ (Qc rfl hc (Cm _ rfl (Kd _ _ _)) he)
   simp [execOp, ho, Instr.box, newVar, newRow]
 ·simp at he
end
theorem Rn : ∀ (l : List Value) (i off : Nat) (arr : Array Value), off + i + l.length ≤ arr.size →
 (l.zipIdx i).foldl (fun cs (x : Value × Nat) => cs.setIfInBounds (off + x.2) x.1) arr = (Na arr.toList (off + i) l).toArray
 | [], i, off, arr, _ => by
  simp [Na]
 | c :: l, i, off, arr, h => by
  simp only [List.length_cons] at h
  rw [List.zipIdx_cons, List.foldl_cons, Rn l (i + 1) off _ (by simpa using by omega)]
  congr 1
  apply List.ext_getElem?
  intro j
  have hl : off + (i + 1) + l.length ≤ (arr.setIfInBounds (off + i) c).toList.length := by simp; omega
  have hl2 : off + i + (c :: l).length ≤ arr.toList.length := by simp; omega
  rw [Sd hl, Sd hl2]
  simp only [Array.toList_setIfInBounds]
  have hal : arr.toList.length = arr.size := by simp
  rcases Nat.lt_trichotomy j (off + i) with hlt | heq | hgt
  ·rw [if_pos (show j < off + (i + 1) by omega), if_pos hlt, List.getElem?_set_ne (by omega)]
  ·subst heq
   rw [if_pos (show off + i < off + (i + 1) by omega), if_neg (by omega), if_pos (by simp), List.getElem?_set_self (by omega), Nat.sub_self]
   rfl
  ·by_cases h2 : j < off + i + (l.length + 1)
   ·rw [if_neg (show ¬ j < off + (i + 1) by omega), if_pos (show j < off + (i + 1) + l.length by omega), if_neg (by omega), if_pos (by simpa using h2)]
    have : j - (off + i) = (j - (off + (i + 1))) + 1 := by omega
    rw [this, List.getElem?_cons_succ]
   ·rw [if_neg (show ¬ j < off + (i + 1) by omega), if_neg (show ¬ j < off + (i + 1) + l.length by omega), if_neg (by omega), if_neg (by simpa using h2), List.getElem?_set_ne (by omega)]
theorem BC (cells : Array Value) (off : Nat) (v : Value) (h : off + v.cells.size ≤ cells.size) :
 v.cells.zipIdx.foldl (fun cs (c, j) => cs.setIfInBounds (off + j) c) cells = (Na cells.toList off v.cells.toList).toArray := by
 rw [← Array.foldl_toList, Array.toList_zipIdx]
 have := Rn v.cells.toList 0 off cells (by simpa using h)
 simpa using this
theorem Bu {place : Nat → Option (Nat × Nat)} {cells : Array Value} {i off size : Nat} {v : Value} {r : List (Nat × Value)} (hp : place i = some (off, size))
 (hs : v.cells.size = size) (hle : off + size ≤ cells.size) : Instr.fill place cells ((i, v) :: r) = Instr.fill place (Na cells.toList off v.cells.toList).toArray r := by
 have h1 : ¬ (decide (v.cells.size ≠ size) || decide (off + v.cells.size > cells.size)) = true := by simp; omega
 rw [Instr.fill]
 simp only [hp]
 rw [if_neg h1, BC cells off v (by omega)]
section
variable {P : Program} {Out : Type} {n0 : Nat} {A : Fx} {O0 : Nat → Prop} {w0 w w' : World} {s : AS} {σ σ' : Nat → Value} {φ φ' : Nat → List Nat} {a : Act}
variable {o : Oper} {Q : Exit → Act → World → Prop} {k : AS → Option Out} {out : Out} {d : D} {v : Value} {upd : List (Nat × Option Ca)} {dst : Option Tmp} {G : Pc}
theorem Sv (h : Ga n0 A O0 w0 s σ φ a w) {τ : Ty} {place : Nat → Option (Nat × Nat)} (hpl : ∀ i τ', Da τ i = some τ' → place i = some (Xa τ i, τ'.size)) :
 ∀ (ps : List (Nat × Operand)) (d d' : D) (cs : Array Value), Vm s τ d ps = some d' → Ja τ d → Ha w (OO O0 s φ) s.heap σ d cs.toList →
  ∃ cs', Instr.fill place cs (ps.map fun x => (x.1, a.eval x.2)) = some cs' ∧ Ja τ d' ∧ Ha w (OO O0 s φ) s.heap σ d' cs'.toList
 | [], d, d', cs, he, hs, hr => by
  simp only [Vm, jc] at he
  subst he
  exact ⟨cs, rfl, hs, hr⟩
 | (i, x) :: r, d, d', cs, he, hs, hr => by
  simp only [Vm] at he
  split at he
  ·rename_i e τ' hx ht
   cases hsb : Za τ' e with
   | false => simp [hsb] at he
   | true =>
    simp only [hsb, cond_true] at he
    split at he
    ·rename_i d1 hd1
     have hse := Kf hsb
     obtain ⟨hre, hve⟩ := Dc hse (h.ev hx)
     obtain ⟨hs1, hr1⟩ := Ha.setField (cs := cs.toList) (ce := (a.eval x).cells.toList) hs ht hse hd1
     have hlen := Ha.length hse hre
     have hle := Ng ht
     have hl0 := Ha.length hs hr
     have hsz : (a.eval x).cells.size = τ'.size := by simpa using hlen
     have hfit : Xa τ i + τ'.size ≤ cs.size := by
      have : cs.size = τ.size := by simpa using hl0
      omega
     obtain ⟨cs', h1, h2, h3⟩ := Sv h hpl r d1 d' (Na cs.toList (Xa τ i) (a.eval x).cells.toList).toArray he hs1 (by simpa using hr1 hr hre)
     refine ⟨cs', ?_, h2, h3⟩
     rw [List.map_cons, Bu (hpl i τ' ht) hsz hfit]
     exact h1
    ·simp at he
  ·simp at he
theorem Rs : ∀ {τ : Ty} {fs : List Field} {o : Nat}, Tc P τ fs o = true → τ.isAgg = true →
 ∃ places, fs.mapM (fun f => (P.info? f.type).map fun i => (f.offset, i.size)) = some places ∧ ∀ i τ', Da τ i = some τ' → places[i]? = some (o + Xa τ i, τ'.size)
 | .u, [], o, _, _ => ⟨[], rfl, fun i τ' h => by simp [Da] at h⟩
 | .p x y, f :: r, o, h, _ => by
  simp only [Tc, jd] at h
  obtain ⟨i, hi, hs, _⟩ := Tok.size h.1.2
  have hy : y.isAgg = true := by
   cases y <;> simp_all [Tc, Ty.isAgg]
  obtain ⟨pl, h1, h2⟩ := Rs h.2 hy
  refine ⟨(f.offset, i.size) :: pl, by simp [List.mapM_cons, hi, h1], fun j τ' hj => ?_⟩
  have ho := js h.1.1.1
  cases j with
  | zero =>
   simp only [Da, jc] at hj
   subst hj
   simp [Xa, ho, hs]
  | succ j =>
   have := h2 j τ' hj
   simp only [List.getElem?_cons_succ, this, Xa]
   congr 2; omega
 | .u, _ :: _, _, h, _ => by simp [Tc] at h
 | .p _ _, [], _, h, _ => by simp [Tc] at h
 | .i _, _, _, _, h => by simp [Ty.isAgg] at h
 | .b, _, _, _, h => by simp [Ty.isAgg] at h
 | .o, _, _, _, h => by simp [Ty.isAgg] at h
 | .s, _, _, _, h => by simp [Ty.isAgg] at h
 | .sl _, _, _, _, h => by simp [Ty.isAgg] at h
theorem JC (hG : EnvTy P G) (h : Ga n0 A O0 w0 s σ φ a w) {t : TypeId} {ps : Array (Nat × Operand)} (ho : o.op = .build t ps)
 (he : Gc G s o k = some out) : o.wp P a w (Jc n0 A O0 w0 k out) Q := by
 simp only [Gc, Ma, ho] at he
 split at he
 ·rename_i τ hty
  split at he
  ·rename_i d hd
   cases ha : τ.isAgg with
   | false => simp [ha] at he
   | true =>
    simp only [ha, cond_true] at he
    obtain ⟨z1, z2, _⟩ := Bo w (OO O0 s φ) s.heap σ τ
    obtain ⟨fs, hu, hk⟩ := Tok.struct ha (hG.ty _ _ hty)
    obtain ⟨pl, hp1, hp2⟩ := Rs hk ha
    obtain ⟨i, hi, hs, _, hz⟩ := Tok.size (hG.ty _ _ hty)
    obtain ⟨cs', h1, h2, h3⟩ := Sv (place := (pl.toArray[·]?)) h (fun j τ' hj => by have := hp2 j τ' hj; simpa using this) ps.toList (zD τ) d τ.zc.toArray hd z1 (by simpa using z2)
    have hb : P.built t (ps.map fun (j, y) => (j, a.eval y)).toList = some cs' := by
     unfold Program.built
     simp only [hi, hu, hz, hp1]
     have : (ps.map fun (j, y) => (j, a.eval y)).toList = ps.toList.map fun x => (x.1, a.eval x.2) := by simp
     rw [this]
     simpa [Ub, ha, Value.cells] using h1
    have hr := run_build (P := P) w t (ps.map fun (j, y) => (j, a.eval y)) cs' hb
    refine Oa (w' := w) (v := .agg cs') ?_ (Qa h ?_ he)
    ·simp only [execOp, ho, qi, hr, qh, Sem.run_pure]
    ·have := Gh h2 h3
     simpa [Ub, ha] using this
  ·simp at he
 ·simp at he
end
theorem Ah {l : List Nat} {hp : List (Nat × Option Ca)} {j : Nat} : La (Kb l ++ hp) j = if j ∈ l then some none else La hp j := by
 induction l with
 | nil => simp [Kb]
 | cons x l ih =>
  have : Kb (x :: l) ++ hp = (x, none) :: (Kb l ++ hp) := by simp [Kb]
  rw [this, Hb, ih]
  by_cases h : x = j
  ·subst h; simp
  ·have h' : ¬ j = x := fun e => h e.symm
   simp [h, h']
theorem Yc (s : AS) (id : Nat) (b : Option Ca) (l : List Nat) (j : Nat) :
 AS.heap ⟨s.n, s.tm, (id, b) :: (Kb l ++ s.hp)⟩ j = if j = id then b else if j ∈ l then none else s.heap j := by
 simp only [AS.heap, Hb, Ah]
 by_cases h : j = id
 ·subst h; simp
 ·have h' : ¬ id = j := fun e => h e.symm
  simp only [h, h', if_false]
  split <;> simp
section
variable {P : Program} {Out : Type} {n0 : Nat} {A : Fx} {O0 : Nat → Prop} {w0 w w' : World} {s : AS} {σ σ' : Nat → Value} {φ φ' : Nat → List Nat} {a : Act}
variable {o : Oper} {Q : Exit → Act → World → Prop} {k : AS → Option Out} {out : Out} {d : D} {v : Value} {upd : List (Nat × Option Ca)} {dst : Option Tmp} {G : Pc}
theorem Ga.absorb (h : Ga n0 A O0 w0 s σ φ a w) {id : Nat} (hnew : s.newOk id = true) (l : List Nat) (hlive : ∀ j, j ∈ l → ∃ b, s.heap j = some b) (blk : Ca) (val : Value) (F : List Nat)
 (hs : w.heap.size ≤ w'.heap.size) (hb : ∀ b, b < w.heap.size → (∀ j, j ∈ l → b ∉ φ j) → w'.heap[b]? = w.heap[b]?)
 (hos : w'.os = w.os) (htape : w'.tape = w.tape) (hout : w'.output = w.output) (hF : F.Nodup) (hFn : ∀ b, b ∈ F → w.heap.size ≤ b ∨ ∃ j, j ∈ l ∧ b ∈ φ j)
 (hrep : ∀ (hp' : Nat → Option Ca) (σ' : Nat → Value) (O' : Nat → Prop), σ' id = val → (∀ b, b < w.heap.size → ¬ OO O0 s φ b → ¬ O' b) →
  Ya w' O' hp' σ' id blk F) :
 Ga n0 A O0 w0 ⟨s.n, s.tm, (id, some blk) :: (Kb l ++ s.hp)⟩ (Ae σ id val) (Ae φ id F) a w' := by
 have hnm : s.ment id = false := by
  simp only [AS.newOk, jd, Bool.not_eq_true'] at hnew
  exact hnew.1
 have hOO : ∀ b, b < w.heap.size → ¬ OO O0 s φ b → ¬ OO O0 ⟨s.n, s.tm, (id, some blk) :: (Kb l ++ s.hp)⟩ (Ae φ id F) b := by
  rintro b hlt hno (ho | ⟨j, blk', hl, hm⟩)
  ·exact hno (.inl ho)
  ·rw [Yc] at hl
   by_cases hj : j = id
   ·subst hj
    rw [Rc] at hm
    rcases hFn b hm with hge | ⟨j', hj', hm'⟩
    ·omega
    ·obtain ⟨b', hb'⟩ := hlive j' hj'
     exact hno (.inr ⟨j', b', hb', hm'⟩)
   ·rw [if_neg hj] at hl
    split at hl
    ·simp at hl
    ·rw [Mf _ _ hj] at hm
     exact hno (.inr ⟨j, blk', hl, hm⟩)
 refine h.trans (fun j => j = id ∨ j ∈ l) rfl rfl ?_ ?_ hs ?_ ?_ ?_ ?_ hos htape hout (fun j _ => by
  by_cases hj : j = id
  ·exact .inr (hj ▸ Pj hnew)
  ·exact .inl (Mf _ _ hj))
 ·intro j hj
  simp only [not_or] at hj
  exact ⟨by rw [Yc, if_neg hj.1, if_neg hj.2], Mf _ _ hj.1, Mf _ _ hj.1⟩
 ·intro b hlt hno
  refine hb b hlt fun j hj hm => ?_
  obtain ⟨b', hb'⟩ := hlive j hj
  exact hno j b' (.inr hj) hb' hm
 ·intro j blk' _ hl b hbm
  rw [Yc] at hl
  by_cases hj : j = id
  ·subst hj
   rw [Rc] at hbm
   rcases hFn b hbm with hge | ⟨j', hj', hm'⟩
   ·exact .inl hge
   ·obtain ⟨b', hb'⟩ := hlive j' hj'
    exact .inr ⟨j', b', .inr hj', hb', hm'⟩
  ·rename_i ht
   rw [if_neg hj, if_pos (ht.resolve_left hj)] at hl
   simp at hl
 ·intro j blk' ht hl hm
  rw [Yc] at hl
  by_cases hj : j = id
  ·subst hj; rw [hnm] at hm; simp at hm
  ·rw [if_neg hj, if_pos (ht.resolve_left hj)] at hl
   simp at hl
 ·intro j blk' ht hl
  rw [Yc] at hl
  by_cases hj : j = id
  ·subst hj
   rw [if_pos rfl] at hl
   simp only [jc] at hl
   subst hl
   rw [Rc]
   exact ⟨hrep _ _ _ (Rc _ _ _) hOO, hF⟩
  ·rw [if_neg hj, if_pos (ht.resolve_left hj)] at hl
   simp at hl
 ·intro j j' b1 b2 ht ht' hne hl hl'
  rw [Yc] at hl hl'
  have e1 : j = id := by
   by_cases hj : j = id
   ·exact hj
   ·rw [if_neg hj, if_pos (ht.resolve_left hj)] at hl; simp at hl
  have e2 : j' = id := by
   by_cases hj : j' = id
   ·exact hj
   ·rw [if_neg hj, if_pos (ht'.resolve_left hj)] at hl'; simp at hl'
  exact absurd (e1.trans e2.symm) hne
theorem Te : ∀ {l : List Nat}, Ld l = true → l.Nodup
 | [], _ => List.nodup_nil
 | x :: l, h => by
  simp only [Ld, jd, Bool.not_eq_true'] at h
  refine List.nodup_cons.2 ⟨fun hm => ?_, Te h.2⟩
  have : l.any (Nat.beq x) = true := List.any_eq_true.2 ⟨x, hm, Nat.beq_refl x⟩
  rw [h.1] at this; simp at this
def Ba (φ : Nat → List Nat) (l : List Nat) : List Nat := (l.map φ).flatten
theorem Pa {l : List Nat} {b : Nat} : b ∈ Ba φ l ↔ ∃ j, j ∈ l ∧ b ∈ φ j := by
 simp only [Ba, List.mem_flatten, qe]
 constructor
 ·rintro ⟨_, ⟨j, hj, rfl⟩, hb⟩; exact ⟨j, hj, hb⟩
 ·rintro ⟨j, hj, hb⟩; exact ⟨_, ⟨j, hj, rfl⟩, hb⟩
theorem Sc {l m : List Nat} : Ba φ (l ++ m) = Ba φ l ++ Ba φ m := by simp [Ba]
theorem Qd (h : Ga n0 A O0 w0 s σ φ a w) : ∀ {l : List Nat}, l.Nodup → (∀ j, j ∈ l → ∃ b, s.heap j = some b) → (Ba φ l).Nodup
 | [], _, _ => by simp [Ba]
 | x :: l, hn, hl => by
  rw [List.nodup_cons] at hn
  have ih := Qd h hn.2 fun j hj => hl j (jp _ hj)
  obtain ⟨bx, hbx⟩ := hl x (by simp)
  have : Ba φ (x :: l) = φ x ++ Ba φ l := by simp [Ba]
  rw [this, List.nodup_append]
  refine ⟨h.nodup x bx hbx, ih, ?_⟩
  intro b hb c hc e
  subst e
  obtain ⟨j, hj, hm⟩ := Pa.1 hc
  obtain ⟨bj, hbj⟩ := hl j (jp _ hj)
  exact h.disj x j bx bj (fun e => hn.1 (e ▸ hj)) hbx hbj b hb hm
theorem Rq {id : Nat} {e : Ty} {dp : Bool} {xs : List (T e)} {O : Nat → Prop} {hp : Nat → Option Ca} {F : List Nat} (h : Ya w O hp σ id (.row e dp xs) F)
 (hd : dp = true ∨ e.flat = true) : Ua w (.sl e) xs [σ id] F := by
 cases dp with
 | true => exact h
 | false =>
  have hf : e.flat = true := by simpa using hd
  simp only [Ya] at h
  obtain ⟨hm, ⟨h1, h2, h3⟩ | ⟨bl, off, cap, cur, et, h1, hh, h2, h3, h4, hF, hv⟩⟩ := h
  ·exact ⟨hm, .inl ⟨by rw [h1], h2, h3⟩⟩
  ·refine ⟨hm, .inr ⟨bl, off, cap, cur, et, List.replicate (ja xs) [], by rw [h1], hh, h2, h3, h4, ?_, by simp, fun i hi => ?_⟩⟩
   ·rw [hF]; congr 1; simp
   ·have := (hv i hi).flat (w' := w) hf
    simpa [List.getD, hi] using this
theorem Og (h : Ga n0 A O0 w0 s σ φ a w) : ∀ {d : D} {τ : Ty} {x : T τ} {l : List Nat} {cs : List Value}, Sa s d τ = some (x, l) → Ha w (OO O0 s φ) s.heap σ d cs →
 Ua w τ x cs (Ba φ l) ∧ (∀ j, j ∈ l → ∃ b, s.heap j = some b)
 | .t τ' y, τ, x, l, cs, he, hr => by
  simp only [Sa] at he
  cases hf : τ'.flat with
  | false => simp [hf] at he
  | true =>
   simp only [hf, cond_true] at he
   split at he
   ·rename_i q hq
    obtain rfl := Mc hq
    simp only [jc, jh] at he
    obtain ⟨rfl, rfl⟩ := he
    exact ⟨Ia.flat hr hf, by simp⟩
   ·simp at he
 | .nil, .sl e, x, l, cs, he, hr => by
  simp only [Sa, jc, jh] at he
  obtain ⟨rfl, rfl⟩ := he
  simp only [Ha] at hr
  exact ⟨⟨by simp, .inl ⟨hr, rfl, rfl⟩⟩, by simp⟩
 | .own id, .sl e, x, l, cs, he, hr => by
  simp only [Sa] at he
  split at he
  ·rename_i e' dp xs hb
   cases hd : (dp || e'.flat) with
   | false => simp [hd] at he
   | true =>
    simp only [hd, cond_true] at he
    split at he
    ·rename_i q hq
     obtain rfl := Mc hq
     simp only [jc, jh] at he
     obtain ⟨rfl, rfl⟩ := he
     obtain ⟨v, hcs, _, hv⟩ := hr
     rw [hcs, hv _ _ hb rfl]
     have := Rq (h.hp id _ hb) (by simpa using hd)
     exact ⟨by simpa [Ba] using this, by simp; exact ⟨_, hb⟩⟩
    ·simp at he
  ·simp at he
 | .pr y z, .p t1 t2, x, l, cs, he, hr => by
  simp only [Sa] at he
  split at he
  ·rename_i u l1 v l2 hu hv
   simp only [jc, jh] at he
   obtain ⟨rfl, rfl⟩ := he
   obtain ⟨c1, c2, h0, h1, h2⟩ := hr
   obtain ⟨a1, b1⟩ := Og h hu h1
   obtain ⟨a2, b2⟩ := Og h hv h2
   refine ⟨⟨c1, c2, _, _, h0, Sc, a1, a2⟩, fun j hj => ?_⟩
   cases jk.1 hj with
   | inl h => exact b1 j h
   | inr h => exact b2 j h
  ·simp at he
 | .un, .u, x, l, cs, he, hr => by
  simp only [Sa, jc, jh, true_and] at he
  subst he
  simp only [Ha] at hr
  exact ⟨⟨hr, rfl⟩, by simp⟩
 | .und, τ, _, _, _, he, _ => by cases τ <;> simp [Sa] at he
 | .anyv, τ, _, _, _, he, _ => by cases τ <;> simp [Sa] at he
 | .nil, .i _, _, _, _, he, _ => by simp [Sa] at he
 | .nil, .b, _, _, _, he, _ => by simp [Sa] at he
 | .nil, .o, _, _, _, he, _ => by simp [Sa] at he
 | .nil, .s, _, _, _, he, _ => by simp [Sa] at he
 | .nil, .u, _, _, _, he, _ => by simp [Sa] at he
 | .nil, .p _ _, _, _, _, he, _ => by simp [Sa] at he
 | .own _, .i _, _, _, _, he, _ => by simp [Sa] at he
 | .own _, .b, _, _, _, he, _ => by simp [Sa] at he
 | .own _, .o, _, _, _, he, _ => by simp [Sa] at he
 | .own _, .s, _, _, _, he, _ => by simp [Sa] at he
 | .own _, .u, _, _, _, he, _ => by simp [Sa] at he
 | .own _, .p _ _, _, _, _, he, _ => by simp [Sa] at he
 | .cut _ _ _, τ, _, _, _, he, _ => by cases τ <;> simp [Sa] at he
 | .pr _ _, .i _, _, _, _, he, _ => by simp [Sa] at he
 | .pr _ _, .b, _, _, _, he, _ => by simp [Sa] at he
 | .pr _ _, .o, _, _, _, he, _ => by simp [Sa] at he
 | .pr _ _, .s, _, _, _, he, _ => by simp [Sa] at he
 | .pr _ _, .u, _, _, _, he, _ => by simp [Sa] at he
 | .pr _ _, .sl _, _, _, _, he, _ => by simp [Sa] at he
 | .un, .i _, _, _, _, he, _ => by simp [Sa] at he
 | .un, .b, _, _, _, he, _ => by simp [Sa] at he
 | .un, .o, _, _, _, he, _ => by simp [Sa] at he
 | .un, .s, _, _, _, he, _ => by simp [Sa] at he
 | .un, .sl _, _, _, _, he, _ => by simp [Sa] at he
 | .un, .p _ _, _, _, _, he, _ => by simp [Sa] at he
 | .ptr _ _, τ, _, _, _, he, _ => by cases τ <;> simp [Sa] at he
 | .eptr _ _ _, τ, _, _, _, he, _ => by cases τ <;> simp [Sa] at he
 | .rp _ _, τ, _, _, _, he, _ => by cases τ <;> simp [Sa] at he
 | .tup _, τ, _, _, _, he, _ => by cases τ <;> simp [Sa] at he
end
theorem Ux {cur : Array Value} {o n : Nat} {l : List Value} (ho : o + n ≤ cur.size) (hl : l.length = n) (h : ∀ j, j < n → cur[o + j]? = l[j]?) : Sb cur o n = l := by
 apply List.ext_getElem?
 intro j
 rcases Nat.lt_or_ge j n with hj | hj
 ·rw [Hc _ _ _ _ hj, h j hj]
 ·rw [List.getElem?_eq_none (by rw [Lb ho]; exact hj), List.getElem?_eq_none (by omega)]
theorem Nr (size : Nat) : ∀ (ps : List (Nat × Value)) (m : Nat) (cs : Array Value), (∀ j p, ps[j]? = some p → p.1 = m + j ∧ p.2.cells.size = size) → (m + ps.length) * size ≤ cs.size →
 ∃ cs', Instr.fill (fun i => some (i * size, size)) cs ps = some cs' ∧ cs'.size = cs.size ∧ (∀ k, k < m * size → cs'[k]? = cs[k]?) ∧
  ∀ j p, ps[j]? = some p → Sb cs' ((m + j) * size) size = p.2.cells.toList
 | [], m, cs, _, _ => ⟨cs, rfl, rfl, fun _ _ => rfl, fun j p h => by simp at h⟩
 | (i, v) :: r, m, cs, hp, hle => by
  obtain ⟨hi, hv⟩ := hp 0 (i, v) rfl
  simp only [Nat.add_zero] at hi hv
  subst hi
  simp only [List.length_cons] at hle
  have e1 : (i + 1) * size = i * size + size := by rw [Nat.add_mul, Nat.one_mul]
  have hmono : (i + 1) * size ≤ (i + (r.length + 1)) * size := jl _ (by omega)
  have hvl : v.cells.toList.length = size := by simpa using hv
  have hfit : i * size + v.cells.toList.length ≤ cs.toList.length := by rw [hvl]; simp; omega
  have hsz : (Na cs.toList (i * size) v.cells.toList).toArray.size = cs.size := by
   simp only [List.size_toArray]; rw [Dd hfit]; simp
  obtain ⟨cs', h1, h2, h3, h4⟩ := Nr size r (i + 1) (Na cs.toList (i * size) v.cells.toList).toArray (fun j p hj => by
   obtain ⟨a1, a2⟩ := hp (j + 1) p (by simpa using hj)
   exact ⟨by omega, a2⟩) (by
    rw [hsz]; have : i + 1 + r.length = i + (r.length + 1) := by omega
    rw [this]; exact hle)
  refine ⟨cs', ?_, by rw [h2, hsz], ?_, ?_⟩
  ·rw [Bu rfl hv (by omega)]; exact h1
  ·intro k hk
   rw [h3 k (by omega)]
   have := Sd hfit k
   rw [if_pos hk] at this
   simpa using this
  ·intro j p hj
   cases j with
   | zero =>
    simp only [List.getElem?_cons_zero, jc] at hj
    subst hj
    simp only [Nat.add_zero]
    refine Ux (by rw [h2, hsz]; omega) hvl fun j' hj' => ?_
    rw [h3 _ (by omega)]
    have := Sd hfit (i * size + j')
    rw [if_neg (by omega), if_pos (by omega)] at this
    rw [Nat.add_sub_cancel_left] at this
    simpa using this
   | succ j =>
    have := h4 j p (by simpa using hj)
    have e2 : i + 1 + j = i + (j + 1) := by omega
    rwa [e2] at this
theorem Ru {z : Array Value} {n sz i j : Nat} (hz : z.size = sz) (hi : i < n) (hj : j < sz) : (madeCells z (n * sz))[i * sz + j]? = z[j]? := by
 have hlt : i * sz + j < n * sz := by
  have : (i + 1) * sz ≤ n * sz := jl _ hi
  rw [Nat.add_mul, Nat.one_mul] at this
  omega
 have hm : (i * sz + j) % sz = j := by rw [Nat.mul_comm, Nat.mul_add_mod, Nat.mod_eq_of_lt hj]
 simp [madeCells, hlt, hz, hm, hj]
theorem WC {z : Array Value} {n sz i : Nat} (hz : z.size = sz) (hi : i < n) : Sb (madeCells z (n * sz)) (i * sz) sz = z.toList := by
 refine Ux ?_ (by simpa using hz) fun j hj => ?_
 ·have : (i + 1) * sz ≤ n * sz := jl _ hi
  rw [Nat.add_mul, Nat.one_mul] at this
  simpa [size_madeCells] using this
 ·rw [Ru hz hi hj]; simp
theorem DE {τ : Ty} {d : D} {v : Value} {w : World} {O : Nat → Prop} {hp : Nat → Option Ca} {σ : Nat → Value} (hs : Ja τ d) (ha : τ.isAgg = false) (h : Ha w O hp σ d [v]) : v.cells = #[v] := by
 cases d with
 | t τ' x =>
  simp only [Ja] at hs
  subst hs
  cases τ' with
  | i k => simp only [Ha, Ia, List.cons.injEq, and_true] at h; rw [h]; rfl
  | b => simp only [Ha, Ia, List.cons.injEq, and_true] at h; rw [h]; rfl
  | o => simp only [Ha, Ia, List.cons.injEq, and_true] at h; rw [h]; rfl
  | s => simp only [Ha, Ia, List.cons.injEq, and_true] at h; rw [h]; rfl
  | sl e => obtain ⟨q, c, hq, _⟩ := h; simp only [List.cons.injEq, and_true] at hq; rw [hq]; rfl
  | u => simp [Ty.isAgg] at ha
  | p x y => simp [Ty.isAgg] at ha
 | nil => simp only [Ha, List.cons.injEq, and_true] at h; rw [h]; rfl
 | own id =>
  obtain ⟨u, hu, h1, _⟩ := h
  simp only [List.cons.injEq, and_true] at hu
  subst hu
  cases v <;> first | rfl | simp [Value.oneCell'] at h1
 | cut id lo hi =>
  obtain ⟨u, hu, h1, _⟩ := h
  simp only [List.cons.injEq, and_true] at hu
  subst hu
  cases v <;> first | rfl | simp [Value.oneCell'] at h1
 | _ => cases τ <;> simp [Ja, Ty.isAgg] at hs ha
theorem KB {τ : Ty} {cs : List Value} {w : World} {O : Nat → Prop} {hp : Nat → Option Ca} {σ : Nat → Value} {d : D} (hs : Ja τ d) (h : Ha w O hp σ d cs) : (Ub τ cs).cells.toList = cs := by
 have hl := Ha.length hs h
 unfold Ub
 cases ha : τ.isAgg with
 | true => simp [Value.cells]
 | false =>
  rw [Ty.size_one ha] at hl
  obtain ⟨u, rfl⟩ := List.length_eq_one_iff.1 hl
  have := DE hs ha h
  simp [this]
theorem Xo (τ : Ty) : (Ub τ τ.zc).cells.toList = τ.zc := by
 obtain ⟨h1, h2, _⟩ := Bo default (fun _ => False) (fun _ => none) (fun _ => default) τ
 exact KB h1 h2
theorem Il (τ : Ty) : τ.zc.length = τ.size := by
 obtain ⟨h1, h2, _⟩ := Bo default (fun _ => False) (fun _ => none) (fun _ => default) τ
 exact Ha.length h1 h2
theorem Tv {z : List Value} {sz : Nat} (hz : z.length = sz) : ∀ {n j : Nat}, j < n → Sb (List.replicate n z).flatten.toArray (j * sz) sz = z
 | 0, _, h => by omega
 | n + 1, 0, _ => by
  simp only [Sb, List.replicate_succ, List.flatten_cons, Nat.zero_mul, List.drop_zero, ← hz]
  simp
 | n + 1, j + 1, h => by
  have := Tv hz (n := n) (j := j) (by omega)
  simp only [Sb, List.replicate_succ, List.flatten_cons] at this ⊢
  rw [Nat.succ_mul, Nat.add_comm, List.drop_append, List.drop_eq_nil_of_le (by omega)]
  have e : sz + j * sz - z.length = j * sz := by omega
  rw [e]
  simpa using this
theorem Qz (w : World) : ∀ τ : Ty, Ua w τ (zT τ) τ.zc []
 | .i _ => ⟨rfl, rfl⟩
 | .b => ⟨rfl, rfl⟩
 | .o => ⟨rfl, rfl⟩
 | .s => ⟨rfl, rfl⟩
 | .sl e => ⟨by simp [zT], .inl ⟨rfl, rfl, rfl⟩⟩
 | .u => ⟨rfl, rfl⟩
 | .p x y => ⟨_, _, [], [], rfl, rfl, Qz w x, Qz w y⟩
section
variable {P : Program} {Out : Type} {n0 : Nat} {A : Fx} {O0 : Nat → Prop} {w0 w w' : World} {s : AS} {σ σ' : Nat → Value} {φ φ' : Nat → List Nat} {a : Act}
variable {o : Oper} {Q : Exit → Act → World → Prop} {k : AS → Option Out} {out : Out} {d : D} {v : Value} {upd : List (Nat × Option Ca)} {dst : Option Tmp} {G : Pc}
theorem Ei {id : Nat} {e : Ty} {dp : Bool} {xs : List (T e)} {O : Nat → Prop} {val : Value} (hv : val.oneCell' = true) {s' : AS} (_ : s'.heap id = some (.row e dp xs)) :
 Jb w O s'.heap (Ae σ id val) (.own id) val := by
 rw [Mm]
 exact ⟨hv, fun _ _ _ _ => (Rc _ _ _).symm⟩
theorem EC (h : Ga n0 A O0 w0 s σ φ a w) {tt : Nat} (hn : s.newOk tt = true) {e : Ty} {et : TypeId} (n : Nat) (hle : n ≤ 1073741824) :
 Ga n0 A O0 w0 ⟨s.n, s.tm, (tt, some (.row e true (List.replicate n (zT e)))) :: s.hp⟩ (Ae σ tt (.slice (some ⟨w.heap.size, 0, none⟩) n n)) (Ae φ tt [w.heap.size]) a
  (w.alloc (.cells (madeCells (Ub e e.zc).cells (n * e.size)) et)) := by
 have hzc : (Ub e e.zc).cells.size = e.size := by
  have := Xo e
  rw [← Array.length_toList, this, Il]
 have hmade : (madeCells (Ub e e.zc).cells (n * e.size)).size = n * e.size := size_madeCells _ _
 have hlen : ja (List.replicate n (zT e)) = n := List.length_replicate
 refine h.new1 (id := tt) hn _ _ _ (by simp) (fun b hb => Rd w _ b hb) rfl rfl rfl (by simp) (by simp) ?_
 intro hp' σ' O' hσ _ _
 simp only [Ya, hσ]
 refine ⟨by rw [hlen]; unfold Ke; omega, .inr ⟨w.heap.size, 0, n, _, et, List.replicate n [], by rw [hlen], heap_alloc_new w _, by rw [hlen]; exact jm _, by unfold Ke; omega, by rw [hmade]; omega, by simp, by simp, fun j hj => ?_⟩⟩
 have hj' : j < n := by rw [hlen] at hj; exact hj
 simp only [jq]
 rw [WC hzc hj', Xo]
 have e1 : List.get (List.replicate n (zT e)) ⟨j, hj⟩ = zT e := List.getElem_replicate hj
 have e2 : (List.replicate n ([] : List Nat)).getD j [] = [] := by
  rw [qb, List.getElem?_replicate]; split <;> rfl
 rw [e1, e2]
 exact Qz _ e
theorem EB {e : Ty} {t et : TypeId} (hu : P.underlying t = some (.slice et)) (hte : Xb P e et = true) (n : Int) (h0 : 0 ≤ n) (h30 : n ≤ 1073741824) :
 (Instr.makeSlice t (.int .i64 n) (.int .i64 n)).run P w = .ok (.slice (some ⟨w.heap.size, 0, none⟩) n.toNat n.toNat) (w.alloc (.cells (madeCells (Ub e e.zc).cells (n.toNat * e.size)) et)) := by
 obtain ⟨i, hi, hsz, hby, hz⟩ := Tok.size hte
 have hbytes : (i.bytes : Int) * n ≤ 281474976710656 := by
  have h1 : (i.bytes : Int) ≤ 65536 := by omega
  have := Int.mul_le_mul h1 h30 h0 (by omega)
  omega
 have hr := run_make (P := P) w t et i _ hu hi hz .i64 .i64 n n h0 (Int.le_refl _) hbytes (by omega)
 rwa [hsz] at hr
theorem Ew (hG : EnvTy P G) (h : Ga n0 A O0 w0 s σ φ a w) {t : TypeId} {x y : Operand} (ho : o.op = .makeSlice t x y)
 (he : Gc G s o k = some out) : o.wp P a w (Jc n0 A O0 w0 k out) Q := by
 simp only [Gc, Ma, ho] at he
 split at he
 ·rename_i tt e n m hd hty hx hy
  cases hn : s.newOk tt with
  | false => simp [hn] at he
  | true =>
   simp only [hn, cond_true] at he
   cases hc : (((n : Int) == m) && (decide ((0 : Int) ≤ n) && decide ((n : Int) ≤ Dk))) with
   | false => rw [hc] at he; exact absurd he (by simp)
   | true =>
    rw [hc] at he
    simp only [cond_true] at he
    simp only [jd, beq_iff_eq, decide_eq_true_eq] at hc
    obtain ⟨hnm, h0, hle⟩ := hc
    subst hnm
    have hv := h.ev hx
    have hv2 := h.ev hy
    rw [Nc] at hv hv2
    obtain ⟨et, hu, hte⟩ := Tok.sl (hG.ty _ _ hty)
    have hr := EB (w := w) hu hte n h0 hle
    have hc := EC (tt := tt) (et := et) h hn (e := e) (ju n) (by
     have : (ju n : Int) ≤ 1073741824 := by rw [Int.toNat_of_nonneg h0]; exact hle
     exact Int.ofNat_le.1 this)
    refine Oa (v := .slice (some ⟨w.heap.size, 0, none⟩) (ju n) (ju n)) ?_ (Qc rfl hc (Ei rfl (Kd _ _ _)) he)
    simp only [execOp, ho, hv, hv2, qi, hr, qh, Sem.run_pure]
 ·simp at he
theorem HC (hG : EnvTy P G) (h : Ga n0 A O0 w0 s σ φ a w) {t : TypeId} (ho : o.op = .alloc t)
 (he : Gc G s o k = some out) : o.wp P a w (Jc n0 A O0 w0 k out) Q := by
 simp only [Gc, Ma, ho] at he
 split at he
 ·rename_i tt τ hd hty
  cases hn : s.newOk tt with
  | false => simp [hn] at he
  | true =>
   simp only [hn, cond_true] at he
   obtain ⟨h1, h2, h3⟩ := Bo w (OO O0 s φ) s.heap σ τ
   have hc := Px (id := tt) h hn t h1 h2 (fun j hj => by rw [h3 j] at hj; simp at hj)
   refine Oa (w' := w.alloc (.cells τ.zc.toArray t)) (v := .pointer (some ⟨w.heap.size, 0, none⟩)) ?_ (Qc rfl hc (Cm _ rfl (Kd _ _ _)) he)
   have hz := Tok.zero (hG.ty _ _ hty) w
   have hcells : (Ub τ τ.zc).cells = τ.zc.toArray := by
    have hl := Ha.length h1 h2
    unfold Ub
    cases ha : τ.isAgg with
    | true => simp [Value.cells]
    | false =>
     rw [Ty.size_one ha] at hl
     obtain ⟨u, hu⟩ := List.length_eq_one_iff.1 hl
     rw [hu]
     cases τ <;> simp_all [Ty.zc, Ty.isAgg] <;> subst hu <;> rfl
   simp [execOp, ho, Instr.alloc, hz, newVar, newRow, hcells]
 ·rename_i tt hd hty
  split at he
  ·rename_i e n har
   cases hn : (s.newOk tt && (Nat.blt 0 n && (jt n 1000 && jt e.size 1000))) with
   | false => rw [hn] at he; simp at he
   | true =>
    rw [hn] at he
    simp only [cond_true] at he
    simp only [jd] at hn
    obtain ⟨hnew, hn0, hn1, _⟩ := hn
    rw [Nat.blt_eq] at hn0
    have hn1 := Nat.le_of_ble_eq_true hn1
    have hlen : ja (List.replicate n (zT e)) = n := List.length_replicate
    have hsz : (List.replicate n e.zc).flatten.length = n * e.size := by simp [List.length_flatten, Il]
    have hc : Ga n0 A O0 w0 ⟨s.n, s.tm, (tt, some (.row e true (List.replicate n (zT e)))) :: s.hp⟩ (Ae σ tt (.slice (some ⟨w.heap.size, 0, none⟩) n n)) (Ae φ tt [w.heap.size]) a
     (w.alloc (.cells (List.replicate n e.zc).flatten.toArray t)) := by
     refine h.new1 (id := tt) hnew _ _ _ (by simp) (fun b hb => Rd w _ b hb) rfl rfl rfl (by simp) (by simp) ?_
     intro hp' σ' O' hσ _ _
     simp only [Ya, hσ]
     refine ⟨by rw [hlen]; unfold Ke; omega, .inr ⟨w.heap.size, 0, n, _, t, List.replicate n [], by rw [hlen], heap_alloc_new w _, by rw [hlen]; exact jm _, by unfold Ke; omega, by simp only [List.size_toArray, hsz]; omega, by simp, by simp, fun j hj => ?_⟩⟩
     have hj' : j < n := by rw [hlen] at hj; exact hj
     simp only [jq]
     have hseg : Sb (List.replicate n e.zc).flatten.toArray (j * e.size) e.size = e.zc := Tv (Il e) hj'
     have e1 : List.get (List.replicate n (zT e)) ⟨j, hj⟩ = zT e := List.getElem_replicate hj
     have e2 : (List.replicate n ([] : List Nat)).getD j [] = [] := by
      rw [qb, List.getElem?_replicate]; split <;> rfl
     rw [hseg, e1, e2]
     exact Qz _ e
    refine Oa (v := .pointer (some ⟨w.heap.size, 0, none⟩)) ?_ (Qc rfl hc ?_ he)
    ·have har' := hG.ar _ _ _ har
     simp only [Ot, jd] at har'
     have h2 := har'.2
     split at h2
     ·rename_i inf hinf
      split at h2
      ·rename_i cs hz
       have hcs : cs = (List.replicate n e.zc).flatten.toArray := by
        apply Array.toList_inj.1
        simpa using En h2
       simp [execOp, ho, Instr.alloc, zeroValue, typeInfo, hinf, hz, newVar, newRow, Value.cells, hcs]
      ·simp at h2
     ·simp at h2
    ·rw [Ce]
     refine ⟨rfl, fun blk' e' n' hb' hr' => ?_⟩
     have hb2 : AS.heap ⟨s.n, s.tm, (tt, some (.row e true (List.replicate n (zT e)))) :: s.hp⟩ tt = some (.row e true (List.replicate n (zT e))) := Kd _ _ _
     have hb3 := hb2.symm.trans hb'
     cases hb3
     simp only [Ca.rowN, jc, jh] at hr'
     obtain ⟨rfl, hr'⟩ := hr'
     rw [hlen] at hr'
     subst hr'
     exact ⟨hn0, w.heap.size, 0, n, by rw [Rc], by simp [Ka]⟩
  ·simp at he
 ·simp at he
theorem Mx (h : Ga n0 A O0 w0 s σ φ a w) {e : Ty} : ∀ {ps : List (Nat × Operand)} {m : Nat} {xs : List (T e)} {l : List Nat}, Wp s e m ps = some (xs, l) →
 xs.length = ps.length ∧ ∃ Ls : List (List Nat), Ls.length = ps.length ∧ l = Ls.flatten ∧
  ∀ j p, ps[j]? = some p → p.1 = m + j ∧ ∃ d x lj, s.ev p.2 = some d ∧ Sa s d e = some (x, lj) ∧ xs[j]? = some x ∧ Ls[j]? = some lj
 | [], m, xs, l, he => by
  simp only [Wp, jc, jh] at he
  obtain ⟨rfl, rfl⟩ := he
  exact ⟨rfl, [], rfl, rfl, fun j p hj => by simp at hj⟩
 | (i, x) :: r, m, xs, l, he => by
  simp only [Wp] at he
  cases hi : Nat.beq i m with
  | false => simp [hi] at he
  | true =>
   simp only [hi, cond_true] at he
   split at he
   ·rename_i d hx
    split at he
    ·rename_i y l1 ys l2 hy hys
     simp only [jc, jh] at he
     obtain ⟨rfl, rfl⟩ := he
     obtain ⟨h1, Ls, h2, h3, h4⟩ := Mx h hys
     refine ⟨by simp [h1], l1 :: Ls, by simp [h2], by simp [h3], fun j p hj => ?_⟩
     cases j with
     | zero =>
      simp only [List.getElem?_cons_zero, jc] at hj
      subst hj
      exact ⟨by simpa using js hi, d, y, l1, hx, hy, rfl, rfl⟩
     | succ j =>
      obtain ⟨a1, a2⟩ := h4 j p (by simpa using hj)
      exact ⟨by omega, by simpa using a2⟩
    ·simp at he
   ·simp at he
theorem Bw {e : Ty} : ∀ {ps : List (Nat × Operand)} {m : Nat} {xs : List (T e)}, Ym s e m ps = some xs →
 xs.length = ps.length ∧ ∀ j p, ps[j]? = some p → p.1 = m + j ∧ ∃ d x, s.ev p.2 = some d ∧ Ve d e = some x ∧ xs[j]? = some x
 | [], m, xs, he => by
  simp only [Ym, jc] at he
  subst he
  exact ⟨rfl, fun j p hj => by simp at hj⟩
 | (i, x) :: r, m, xs, he => by
  simp only [Ym] at he
  cases hi : Nat.beq i m with
  | false => simp [hi] at he
  | true =>
   simp only [hi, cond_true] at he
   split at he
   ·rename_i d hx
    split at he
    ·rename_i y ys hy hys
     simp only [jc] at he
     subst he
     obtain ⟨h1, h4⟩ := Bw hys
     refine ⟨by simp [h1], fun j p hj => ?_⟩
     cases j with
     | zero =>
      simp only [List.getElem?_cons_zero, jc] at hj
      subst hj
      exact ⟨by simpa using js hi, d, y, hx, hy, rfl⟩
     | succ j =>
      obtain ⟨a1, a2⟩ := h4 j p (by simpa using hj)
      exact ⟨by omega, by simpa using a2⟩
    ·simp at he
   ·simp at he
theorem Re : ∀ {d : D} {τ : Ty} {x : T τ} {l : List Nat}, Sa s d τ = some (x, l) → Ja τ d := by
 intro d
 induction d with
 | t τ' y =>
  intro τ x l he
  simp only [Sa] at he
  cases hf : τ'.flat with
  | false => simp [hf] at he
  | true =>
   simp only [hf, cond_true] at he
   split at he
   ·rename_i q hq
    have := Mc hq
    simpa [Ja] using this
   ·simp at he
 | pr y z ih1 ih2 =>
  intro τ x l he
  cases τ with
  | p t1 t2 =>
   simp only [Sa] at he
   split at he
   ·rename_i u l1 v l2 hu hv
    exact ⟨ih1 hu, ih2 hv⟩
   ·simp at he
  | _ => simp [Sa] at he
 | nil => intro τ x l he; cases τ <;> first | trivial | simp [Sa] at he
 | own id => intro τ x l he; cases τ <;> first | trivial | simp [Sa] at he
 | un => intro τ x l he; cases τ <;> first | trivial | simp [Sa] at he
 | _ => intro τ x l he; cases τ <;> simp [Sa] at he
theorem Ud {O : Nat → Prop} {hp : Nat → Option Ca} : ∀ {d : D} {τ : Ty} {x : T τ}, Ve d τ = some x → Ja τ d ∧ ∀ cs, Ha w O hp σ d cs → Ia w O τ x cs := by
 intro d
 induction d with
 | t τ' y =>
  intro τ x he
  simp only [Ve] at he
  split at he
  ·rename_i q hq
   obtain rfl := Mc hq
   simp only [jc] at he
   subst he
   exact ⟨by simp [Ja], fun cs hr => hr⟩
  ·simp at he
 | pr y z ih1 ih2 =>
  intro τ x he
  cases τ with
  | p t1 t2 =>
   simp only [Ve] at he
   split at he
   ·rename_i u v hu hv
    simp only [jc] at he
    subst he
    refine ⟨⟨(ih1 hu).1, (ih2 hv).1⟩, ?_⟩
    rintro cs ⟨c1, c2, h0, h1, h2⟩
    exact ⟨c1, c2, h0, (ih1 hu).2 _ h1, (ih2 hv).2 _ h2⟩
   ·simp at he
  | _ => simp [Ve] at he
 | nil =>
  intro τ x he
  cases τ with
  | sl e =>
   simp only [Ve, jc] at he
   subst he
   refine ⟨trivial, fun cs hr => ?_⟩
   simp only [Ha] at hr
   exact ⟨none, 0, hr, jm _, by simp, .inl rfl⟩
  | _ => simp [Ve] at he
 | un =>
  intro τ x he
  cases τ with
  | u => exact ⟨trivial, fun cs hr => hr⟩
  | _ => simp [Ve] at he
 | _ => intro τ x he; cases τ <;> simp [Ve] at he
theorem Wn {e : Ty} {t et : TypeId} (hu : P.underlying t = some (.slice et)) (hte : Xb P e et = true) {n : Nat} (hn : n ≤ 1000) (he : e.size ≤ 1000) {parts : Array (Nat × Value)} {cells : Array Value}
 (hf : Instr.fill (fun i => some (i * e.size, e.size)) (madeCells (Ub e e.zc).cells (n * e.size)) parts.toList = some cells) :
 (Instr.buildSlice t n parts).run P w = .ok (.slice (some ⟨w.heap.size, 0, none⟩) n n) (w.alloc (.cells cells et)) := by
 have hle : n * e.size ≤ 1000 * 1000 := Nat.mul_le_mul hn he
 have h24 : ¬ (n * e.size > 2 ^ 24) := by omega
 unfold Instr.buildSlice
 simp only [qi, run_underlying hu, qh, Tok.sizeOf hte w]
 rw [if_neg h24]
 by_cases hz : n * e.size = 0
 ·have hm0 : (Array.range (n * e.size)).map ((#[] : Array Value)[· % (#[] : Array Value).size]!) = madeCells (Ub e e.zc).cells (n * e.size) := by
   rw [hz]; simp [madeCells]
  rw [if_pos hz]
  simp only [qi, Sem.run_pure, qh]
  rw [hm0, hf]
  simp [newRow]
 ·rw [if_neg hz]
  simp only [qi, Tok.zero hte w, Sem.run_pure, qh]
  have hm0 : (Array.range (n * e.size)).map ((Ub e e.zc).cells[· % (Ub e e.zc).cells.size]!) = madeCells (Ub e e.zc).cells (n * e.size) := rfl
  rw [hm0, hf]
  simp [newRow]
end
section
variable {P : Program} {Out : Type} {n0 : Nat} {A : Fx} {O0 : Nat → Prop} {w0 w w' : World} {s : AS} {σ σ' : Nat → Value} {φ φ' : Nat → List Nat} {a : Act}
variable {o : Oper} {Q : Exit → Act → World → Prop} {k : AS → Option Out} {out : Out} {d : D} {v : Value} {upd : List (Nat × Option Ca)} {dst : Option Tmp} {G : Pc}
theorem Ua.block_ext {τ : Ty} {x : T τ} {cs : List Value} {F : List Nat} (h : Ua w τ x cs F) (hb : ∀ b, b < w.heap.size → w'.heap[b]? = w.heap[b]?) : Ua w' τ x cs F :=
 h.stable fun b hm => hb b (h.lt b hm)
theorem Su (hG : EnvTy P G) (h : Ga n0 A O0 w0 s σ φ a w) {t : TypeId} {n : Nat} {ps : Array (Nat × Operand)} (ho : o.op = .buildSlice t n ps)
 (he : Gc G s o k = some out) : o.wp P a w (Jc n0 A O0 w0 k out) Q := by
 simp only [Gc, Ma, ho] at he
 split at he
 ·rename_i tt e hd hty
  obtain ⟨et, hu, hte⟩ := Tok.sl (hG.ty _ _ hty)
  have hzc : (Ub e e.zc).cells.size = e.size := by
   have := Xo e
   rw [← Array.length_toList, this, Il]
  have hpm : (ps.map fun (j, y) => (j, a.eval y)).toList = ps.toList.map fun x => (x.1, a.eval x.2) := by simp
  split at he
  ·rename_i xs l hl
   cases hc : (s.newOk tt && Ld l && Nat.beq n ps.size && jt n 1000 && jt e.size 1000) with
   | false => rw [hc] at he; simp at he
   | true =>
    rw [hc] at he
    simp only [cond_true] at he
    simp only [jd] at hc
    obtain ⟨⟨⟨⟨hn, hnd⟩, hnp⟩, hn1⟩, he1⟩ := hc
    have hnp := js hnp
    have hn1 := Nat.le_of_ble_eq_true hn1
    have he1 := Nat.le_of_ble_eq_true he1
    obtain ⟨hlen, Ls, hL1, hL2, hL3⟩ := Mx h hl
    have hpl : ps.toList.length = n := by simp [hnp]
    have hparts : ∀ j p, (ps.toList.map fun x => (x.1, a.eval x.2))[j]? = some p → p.1 = 0 + j ∧ p.2.cells.size = e.size := by
     intro j p hj
     rw [List.getElem?_map] at hj
     cases hq : ps.toList[j]? with
     | none => rw [hq] at hj; simp at hj
     | some q =>
      rw [hq] at hj
      simp only [j5, jc] at hj
      subst hj
      obtain ⟨h1, d, x, lj, h2, h3, h4, h5⟩ := hL3 j q hq
      obtain ⟨hr, _⟩ := Dc (Re h3) (h.ev h2)
      have := Ha.length (Re h3) hr
      exact ⟨h1, by simpa using this⟩
    obtain ⟨cs', hf, hsz, _, hseg⟩ := Nr e.size (ps.toList.map fun x => (x.1, a.eval x.2)) 0 (madeCells (Ub e e.zc).cells (n * e.size)) hparts (by
     rw [size_madeCells]; simp [hnp])
    rw [size_madeCells] at hsz
    rw [← hpm] at hf
    have hr := Wn (w := w) hu hte hn1 he1 hf
    have hxl : ja xs = n := by rw [← hpl]; exact hlen
    have hlive : ∀ j, j ∈ l → ∃ b, s.heap j = some b := by
     intro j hj
     rw [hL2] at hj
     obtain ⟨lj, hlj, hm⟩ := List.mem_flatten.1 hj
     obtain ⟨q, hq, rfl⟩ := List.mem_iff_getElem.1 hlj
     have hq' : q < ps.toList.length := by rw [← hL1]; exact hq
     obtain ⟨_, d, x, lj, h2, h3, h4, h5⟩ := hL3 q _ (je hq')
     obtain ⟨hr, _⟩ := Dc (Re h3) (h.ev h2)
     rw [je hq] at h5
     simp only [jc] at h5
     rw [h5] at hm
     exact (Og h h3 hr).2 j hm
    have hflat : (Ls.map (Ba φ)).flatten = Ba φ l := by
     rw [hL2]
     clear hL1 hL2 hL3
     induction Ls with
     | nil => simp [Ba]
     | cons x r ih => simp only [List.map_cons, List.flatten_cons, Sc, ih]
    have hlt : ∀ b, b ∈ Ba φ l → b < w.heap.size := by
     intro b hb
     obtain ⟨j, hj, hm⟩ := Pa.1 hb
     obtain ⟨bj, hbj⟩ := hlive j hj
     exact (h.hp j bj hbj).lt b hm
    have hc := h.absorb (id := tt) (w' := w.alloc (.cells cs' et)) hn l hlive (.row e true xs) (.slice (some ⟨w.heap.size, 0, none⟩) n n) (w.heap.size :: Ba φ l)
     (by simp) (fun b hb _ => Rd w _ b hb) rfl rfl rfl (by
      rw [List.nodup_cons]
      exact ⟨fun hm => Nat.lt_irrefl _ (hlt _ hm), Qd h (Te hnd) hlive⟩) (by
      intro b hb
      cases jn.1 hb with
      | inl e => left; omega
      | inr hm => right; exact Pa.1 hm) (by
      intro hp' σ' O' hσ _
      simp only [Ya, hσ]
      refine ⟨by rw [hxl]; unfold Ke; omega, .inr ⟨w.heap.size, 0, n, cs', et, Ls.map (Ba φ), by rw [hxl], heap_alloc_new w _, by omega, by unfold Ke; omega, by rw [hsz]; omega, by rw [hflat], by rw [List.length_map, hL1, hxl, hpl], fun j hj => ?_⟩⟩
      have hj' : j < ps.toList.length := by rw [hpl, ← hxl]; exact hj
      obtain ⟨_, d, x, lj, h2, h3, h4, h5⟩ := hL3 j _ (je hj')
      obtain ⟨hrep, _⟩ := Dc (Re h3) (h.ev h2)
      have hown := (Og h h3 hrep).1
      have hx : List.get xs ⟨j, hj⟩ = x := by
       rw [je hj] at h4
       simpa using h4
      have hF : (Ls.map (Ba φ)).getD j [] = Ba φ lj := by
       rw [qb, List.getElem?_map, h5]; rfl
      have hs := hseg j (ps.toList[j].1, a.eval ps.toList[j].2) (by rw [List.getElem?_map, je hj']; rfl)
      simp only [jq] at hs ⊢
      rw [hx, hF, hs]
      exact hown.block_ext fun b hb => Rd w _ b hb)
    refine Oa (v := .slice (some ⟨w.heap.size, 0, none⟩) n n) ?_ (Qc (upd := (tt, some (.row e true xs)) :: Kb l) rfl hc (Ei rfl (by rw [List.cons_append, Yc, if_pos rfl])) he)
    simp only [execOp, ho, qi, hr, qh, Sem.run_pure]
  ·split at he
   ·rename_i xs hl
    cases hc : (s.newOk tt && Nat.beq n ps.size && jt n 1000 && jt e.size 1000) with
    | false => rw [hc] at he; simp at he
    | true =>
     rw [hc] at he
     simp only [cond_true] at he
     simp only [jd] at hc
     obtain ⟨⟨⟨hn, hnp⟩, hn1⟩, he1⟩ := hc
     have hnp := js hnp
     have hn1 := Nat.le_of_ble_eq_true hn1
     have he1 := Nat.le_of_ble_eq_true he1
     obtain ⟨hlen, hL3⟩ := Bw hl
     have hpl : ps.toList.length = n := by simp [hnp]
     have hparts : ∀ j p, (ps.toList.map fun x => (x.1, a.eval x.2))[j]? = some p → p.1 = 0 + j ∧ p.2.cells.size = e.size := by
      intro j p hj
      rw [List.getElem?_map] at hj
      cases hq : ps.toList[j]? with
      | none => rw [hq] at hj; simp at hj
      | some q =>
       rw [hq] at hj
       simp only [j5, jc] at hj
       subst hj
       obtain ⟨h1, d, x, h2, h3, h4⟩ := hL3 j q hq
       have hsh := (Ud (w := w) (O := OO O0 s φ) (hp := s.heap) (σ := σ) h3).1
       obtain ⟨hr, _⟩ := Dc hsh (h.ev h2)
       have := Ha.length hsh hr
       exact ⟨h1, by simpa using this⟩
     obtain ⟨cs', hf, hsz, _, hseg⟩ := Nr e.size (ps.toList.map fun x => (x.1, a.eval x.2)) 0 (madeCells (Ub e e.zc).cells (n * e.size)) hparts (by
      rw [size_madeCells]; simp [hnp])
     rw [size_madeCells] at hsz
     rw [← hpm] at hf
     have hr := Wn (w := w) hu hte hn1 he1 hf
     have hxl : ja xs = n := by rw [← hpl]; exact hlen
     have hc := h.new1 (id := tt) (w' := w.alloc (.cells cs' et)) hn (.row e false xs) (.slice (some ⟨w.heap.size, 0, none⟩) n n) [w.heap.size]
      (by simp) (fun b hb => Rd w _ b hb) rfl rfl rfl (by simp) (by simp) (by
       intro hp' σ' O' hσ hO _
       simp only [Ya, hσ]
       refine ⟨by rw [hxl]; unfold Ke; omega, .inr ⟨w.heap.size, 0, n, cs', et, by rw [hxl], heap_alloc_new w _, by omega, by unfold Ke; omega, by rw [hsz]; omega, rfl, fun j hj => ?_⟩⟩
       have hj' : j < ps.toList.length := by rw [hpl, ← hxl]; exact hj
       obtain ⟨_, d, x, h2, h3, h4⟩ := hL3 j _ (je hj')
       obtain ⟨hsh, hvw⟩ := Ud (w := w) (O := OO O0 s φ) (hp := s.heap) (σ := σ) h3
       obtain ⟨hrep, _⟩ := Dc hsh (h.ev h2)
       have hx : List.get xs ⟨j, hj⟩ = x := by
        rw [je hj] at h4
        simpa using h4
       have hs := hseg j (ps.toList[j].1, a.eval ps.toList[j].2) (by rw [List.getElem?_map, je hj']; rfl)
       simp only [jq] at hs ⊢
       rw [hx, hs]
       exact (hvw _ hrep).stable (fun b _ hb => Rd w _ b hb) hO)
     refine Oa (v := .slice (some ⟨w.heap.size, 0, none⟩) n n) ?_ (Qc rfl hc (Ei rfl (Kd _ _ _)) he)
     simp only [execOp, ho, qi, hr, qh, Sem.run_pure]
   ·simp at he
 ·simp at he
end
section
variable {P : Program} {w : World}
theorem Hu {τ : Ty} {t : TypeId} (h : Xb P τ t = true) {xs : Array Value} {o : Nat} (hs : o + τ.size ≤ xs.size) :
 (part t xs o).run P w = .ok (Ub τ (Sb xs o τ.size)) w := by
 unfold part
 rw [qi, Tok.isAgg h w]
 simp only [qh]
 cases ha : τ.isAgg with
 | true =>
  simp only [if_true, qi, Tok.sizeOf h w, qh, Sem.run_pure, Ub, ha]
  congr 2
  apply Array.ext'
  simp [Sb, List.take_drop]
 | false =>
  have h1 := Ty.size_one ha
  have hl := Lb hs
  rw [h1] at hl
  obtain ⟨v, hv⟩ := List.length_eq_one_iff.1 hl
  have : xs[o]? = some v := by
   have := Hc xs o 1 0 (by omega)
   rw [hv] at this
   simpa using this.symm
  simp [Ub, ha, h1, hv, this]
theorem Ix {τ : Ty} (hF : ∀ (x y : T τ) (fs : List Field) (o d : Nat) (xs ys : Array Value) (O : Nat → Prop), τ.cmp = true → τ.isAgg = true → Tc P τ fs o = true → τ.cnt ≤ d + 1 →
 Ia w O τ x (Sb xs o τ.size) → Ia w O τ y (Sb ys o τ.size) → o + τ.size ≤ xs.size → o + τ.size ≤ ys.size → (Op.eqFields d xs ys fs).run P w = .ok (Bl τ x y) w)
 {t : TypeId} (h : Xb P τ t = true) (hf : τ.cmp = true) {d : Nat} (hd : τ.cnt ≤ d) {x y : T τ} {cs ds : List Value} {O : Nat → Prop} (hx : Ia w O τ x cs) (hy : Ia w O τ y ds) :
 (Op.equalIn d t (Ub τ cs) (Ub τ ds)).run P w = .ok (Bl τ x y) w := by
 have h0 : 0 < τ.cnt := by cases τ <;> simp [Ty.cnt]
 obtain ⟨d, rfl⟩ : ∃ e, d = e + 1 := ⟨d - 1, by omega⟩
 have lx := Ia.length hx
 have ly := Ia.length hy
 cases τ with
 | i k => simp only [Ia] at hx hy; subst hx; subst hy; simp [Ub, Ty.isAgg, Bl, run_equalIn_int w d t k k _ _ (Tok.i h)]
 | b => simp only [Ia] at hx hy; subst hx; subst hy; simp [Ub, Ty.isAgg, Bl, run_equalIn_bool' w d t _ _ (Tok.b h)]
 | o => simp [Ty.cmp] at hf
 | s =>
  simp only [Ia] at hx hy; subst hx; subst hy
  have e1 : (ByteArray.mk (List.toArray x)).toList = x := ByteArray.toList_mk x
  have e2 : (ByteArray.mk (List.toArray y)).toList = y := ByteArray.toList_mk y
  simp [Ub, Ty.isAgg, Bl, run_equalIn_string w d t _ _ (Tok.s h), e1, e2]
 | sl e => simp [Ty.cmp] at hf
 | u =>
  obtain ⟨fs, hfs, hfo⟩ := Tok.struct rfl h
  have hfs0 : fs.toList = [] := by
   cases hq : fs.toList with
   | nil => rfl
   | cons a r => rw [hq] at hfo; simp [Tc] at hfo
  have : fs = #[] := by apply Array.ext'; simpa using hfs0
  subst this
  have hst : P.stoodInHeld t = false := by
   have h' := h
   simp only [Xb, jd, Bool.not_eq_true'] at h'
   exact h'.1.2
  simp [Ub, Ty.isAgg, Bl, Op.equalIn, run_underlying hfs, qi, hst]
 | p a b' =>
  have ha : (Ty.p a b').isAgg = true := rfl
  obtain ⟨fs, hfs, hfo⟩ := Tok.struct ha h
  have hst : P.stoodInHeld t = false := by
   have h' := h
   simp only [Xb, jd, Bool.not_eq_true'] at h'
   exact h'.1.2.1
  have hfo' : P.fieldsOf t = fs := by simp [Program.fieldsOf, hfs]
  have hvx : Ub (Ty.p a b') cs = .agg cs.toArray := by simp [Ub, ha]
  have hvy : Ub (Ty.p a b') ds = .agg ds.toArray := by simp [Ub, ha]
  rw [hvx, hvy, run_equalIn_agg w d t _ _ (by rw [hfo']; exact hfs) hst, hfo']
  refine hF x y fs.toList 0 d _ _ O hf ha hfo hd ?_ ?_ (by simpa using Nat.le_of_eq lx.symm) (by simpa using Nat.le_of_eq ly.symm)
  ·simpa [Sb, ← lx] using hx
  ·simpa [Sb, ← ly] using hy
theorem Uy (d : Nat) {t : TypeId} {xs ys : Array Value} (hfs : P.underlying t = some (.struct #[])) : (Op.eqGuardIn (d + 1) t (.agg xs) (.agg ys)).run P w = .ok false w := by
 simp [Op.eqGuardIn, run_underlying hfs]
theorem LF : ∀ {τ : Ty} (x y : T τ) (fs : List Field) (o d : Nat) (xs ys : Array Value) (O : Nat → Prop), τ.cmp = true → τ.isAgg = true → Tc P τ fs o = true → τ.cnt ≤ d + 1 →
 Ia w O τ x (Sb xs o τ.size) → Ia w O τ y (Sb ys o τ.size) → o + τ.size ≤ xs.size → o + τ.size ≤ ys.size → (Op.eqFields d xs ys fs).run P w = .ok (Bl τ x y) w
 | .u, x, y, fs, o, d, xs, ys, O, _, _, hfo, _, _, _, _, _ => by
  cases fs with
  | nil => simp [Op.eqFields, Bl]
  | cons a r => simp [Tc] at hfo
 | .p a c2, x, y, fs, o, d, xs, ys, O, hf, _, hfo, hd, hx, hy, hxs, hys => by
  cases fs with
  | nil => simp [Tc] at hfo
  | cons f r =>
   simp only [Tc, jd, bne_iff_ne, ne_eq] at hfo
   obtain ⟨⟨⟨hfo0, hname⟩, hta⟩, hfr⟩ := hfo
   have hoff := js hfo0
   simp only [Ty.cmp, jd] at hf
   simp only [Ty.size] at hx hy hxs hys
   simp only [Ty.cnt] at hd
   obtain ⟨c1, c2, hc, hc1, hc2⟩ := hx
   obtain ⟨e1, e2, hec, he1, he2⟩ := hy
   rw [Jz _ _ _ _ (by omega)] at hc hec
   have hc' := List.append_inj hc (by rw [Lb (by omega), Ia.length hc1])
   have he' := List.append_inj hec (by rw [Lb (by omega), Ia.length he1])
   obtain ⟨q1, q2⟩ := hc'
   obtain ⟨q3, q4⟩ := he'
   subst q1; subst q2; subst q3; subst q4
   have p1 := Hu (w := w) hta (xs := xs) (o := o) (by omega)
   have p2 := Hu (w := w) hta (xs := ys) (o := o) (by omega)
   have hI := Ix (P := P) (w := w) (τ := a) (fun x y => LF x y) hta hf.1 (d := d) (by omega) hc1 he1
   simp only [Op.eqFields, hname, not_false_eq_true, if_true, ne_eq, qi, hoff, p1, p2, hI, qh, Bl]
   cases hq : Bl a x.1 y.1 with
   | false => simp
   | true =>
    simp only [jg, jo, if_false, ji]
    have hb : c2.isAgg = true := by
     cases c2 with
     | p _ _ => rfl
     | u => rfl
     | _ => simp [Tc] at hfr
    exact LF x.2 y.2 r (o + a.size) d xs ys O hf.2 hb hfr (by omega) hc2 he2 (by omega) (by omega)
 | .i _, _, _, _, _, _, _, _, _, _, ha, _, _, _, _, _, _ => by simp [Ty.isAgg] at ha
 | .b, _, _, _, _, _, _, _, _, _, ha, _, _, _, _, _, _ => by simp [Ty.isAgg] at ha
 | .o, _, _, _, _, _, _, _, _, _, ha, _, _, _, _, _, _ => by simp [Ty.isAgg] at ha
 | .s, _, _, _, _, _, _, _, _, _, ha, _, _, _, _, _, _ => by simp [Ty.isAgg] at ha
 | .sl _, _, _, _, _, _, _, _, _, _, ha, _, _, _, _, _, _ => by simp [Ty.isAgg] at ha
theorem Hz {τ : Ty} {t : TypeId} (h : Xb P τ t = true) (hf : τ.cmp = true) (hc : τ.cnt ≤ 9000) {x y : T τ} {cs ds : List Value} {O : Nat → Prop} (hx : Ia w O τ x cs) (hy : Ia w O τ y ds) :
 (Op.equalIn 10000 t (Ub τ cs) (Ub τ ds)).run P w = .ok (Bl τ x y) w :=
 Ix (fun x y => LF x y) h hf (by omega) hx hy
theorem IB {τ : Ty} {t : TypeId} (h : Xb P τ t = true) (ha : τ.isAgg = true) (hf : τ.cmp = true) (op : BinOp) (X Y : Operand) (xs ys : Array Value) :
 (eqGuard op t X Y (.agg xs) (.agg ys)).run P w = .ok () w := by
 cases τ with
 | p a c2 =>
  refine run_eqGuard_agg w op t X Y xs ys ?_
  simp only [Xb, jd, Bool.or_eq_true, Bool.not_eq_true'] at h
  have := h.1.2.2
  simp only [Ty.cmp, jd] at hf
  simpa [hf] using this
 | u =>
  obtain ⟨fs, hfs, hfo⟩ := Tok.struct ha h
  have hfs0 : fs.toList = [] := by
   cases hq : fs.toList with
   | nil => rfl
   | cons a r => rw [hq] at hfo; simp [Tc] at hfo
  have : fs = #[] := by apply Array.ext'; simpa using hfs0
  subst this
  by_cases hg : P.eqGuardType P.depth t = false
  ·exact run_eqGuard_agg w op t X Y xs ys hg
  ·simp only [Bool.not_eq_false] at hg
   have hgn := Uy (P := P) (w := w) 9999 (xs := xs) (ys := ys) hfs
   have : Op.maxDepth = 9999 + 1 := rfl
   cases op <;> simp [eqGuard, run_program, hg, this, hgn]
 | _ => simp [Ty.isAgg] at ha
end
section
variable {P : Program} {Out : Type} {n0 : Nat} {A : Fx} {O0 : Nat → Prop} {w0 w w' : World} {s : AS} {σ σ' : Nat → Value} {φ φ' : Nat → List Nat} {a : Act}
variable {o : Oper} {Q : Exit → Act → World → Prop} {k : AS → Option Out} {out : Out} {d : D} {v : Value} {upd : List (Nat × Option Ca)} {dst : Option Tmp} {G : Pc}
theorem CB (hG : EnvTy P G) (h : Ga n0 A O0 w0 s σ φ a w) {op : BinOp} {t t' : TypeId} {x y : Operand} (ho : o.op = .binOp op t x y t')
 (he : Gc G s o k = some out) : o.wp P a w (Jc n0 A O0 w0 k out) Q := by
 by_cases hagg : ∀ u, s.ev x = some u → u.isAgg = false
 ·exact IC hG h ho hagg he
 ·simp only [Gc, Ma, ho] at he
  split at he
  ·rename_i u v hu hv
   have hua : u.isAgg = true := by
    cases hq : u.isAgg with
    | true => rfl
    | false => exact absurd (fun u' hu' => by rw [hu] at hu'; simp at hu'; subst hu'; exact hq) hagg
   rw [hua] at he
   simp only [cond_true] at he
   split at he
   ·rename_i τ hty
    split at he
    ·rename_i p q hp hq
     cases hc : (τ.cmp && τ.isAgg && jt τ.cnt 9000) with
     | false => rw [hc] at he; simp at he
     | true =>
      rw [hc] at he
      simp only [cond_true] at he
      simp only [jd] at hc
      have hcnt := Nat.le_of_ble_eq_true hc.2
      obtain ⟨s1, v1⟩ := Ud (w := w) (O := OO O0 s φ) (hp := s.heap) (σ := σ) hp
      obtain ⟨s2, v2⟩ := Ud (w := w) (O := OO O0 s φ) (hp := s.heap) (σ := σ) hq
      obtain ⟨r1, e1⟩ := Dc s1 (h.ev hu)
      obtain ⟨r2, e2⟩ := Dc s2 (h.ev hv)
      have hrun := Hz (P := P) (hG.ty _ _ hty) hc.1.1 hcnt (v1 _ r1) (v2 _ r2)
      have g1 : Ub τ (a.eval x).cells.toList = .agg (a.eval x).cells.toList.toArray := by simp [Ub, hc.1.2]
      have g2 : Ub τ (a.eval y).cells.toList = .agg (a.eval y).cells.toList.toArray := by simp [Ub, hc.1.2]
      have hgd := fun op => IB (P := P) (w := w) (hG.ty _ _ hty) hc.1.2 hc.1.1 op x y (a.eval x).cells.toList.toArray (a.eval y).cells.toList.toArray
      rw [g1, g2] at hrun
      rw [g1] at e1
      rw [g2] at e2
      split at he
      ·refine Oa (w' := w) (v := .bool (Bl τ p q)) ?_ (Qa h (Vd.2 rfl) he)
       simp only [execOp, ho]
       rw [e1, e2]
       simp only [qi, hgd, qh, run_eql_struct, hrun, Sem.run_pure]
      ·refine Oa (w' := w) (v := .bool (!Bl τ p q)) ?_ (Qa h (Vd.2 rfl) he)
       simp only [execOp, ho]
       rw [e1, e2]
       simp only [qi, hgd, qh, run_neq_struct, hrun, Sem.run_pure]
      ·simp at he
    ·simp at he
   ·simp at he
  ·simp at he
end
theorem Ia.one {w : World} {O : Nat → Prop} : ∀ {τ : Ty} {x : T τ} {cs : List Value}, Ia w O τ x cs → ∀ v ∈ cs, v.oneCell' = true
 | .i _, _, _, h, v, hv => by simp only [Ia] at h; subst h; simp at hv; subst hv; rfl
 | .b, _, _, h, v, hv => by simp only [Ia] at h; subst h; simp at hv; subst hv; rfl
 | .o, _, _, h, v, hv => by simp only [Ia] at h; subst h; simp at hv; subst hv; rfl
 | .s, _, _, h, v, hv => by simp only [Ia] at h; subst h; simp at hv; subst hv; rfl
 | .sl _, _, _, h, v, hv => by obtain ⟨a, cap, h, _⟩ := h; subst h; simp at hv; subst hv; rfl
 | .u, _, _, h, v, hv => by simp only [Ia] at h; subst h; simp at hv
 | .p x y, _, _, h, v, hv => by
  obtain ⟨c1, c2, h, h1, h2⟩ := h
  subst h
  rcases jk.1 hv with hv | hv
  ·exact Ia.one h1 v hv
  ·exact Ia.one h2 v hv
theorem Ua.one {w : World} : ∀ {τ : Ty} {x : T τ} {cs : List Value} {F : List Nat}, Ua w τ x cs F → ∀ v ∈ cs, v.oneCell' = true
 | .i _, _, _, _, h, v, hv => by simp only [Ua] at h; rw [h.1] at hv; simp at hv; subst hv; rfl
 | .b, _, _, _, h, v, hv => by simp only [Ua] at h; rw [h.1] at hv; simp at hv; subst hv; rfl
 | .o, _, _, _, h, v, hv => by simp only [Ua] at h; rw [h.1] at hv; simp at hv; subst hv; rfl
 | .s, _, _, _, h, v, hv => by simp only [Ua] at h; rw [h.1] at hv; simp at hv; subst hv; rfl
 | .sl _, _, _, _, h, v, hv => by
  obtain ⟨_, ⟨h, _⟩ | ⟨_, _, _, _, _, _, h, _⟩⟩ := h <;> (subst h; simp at hv; subst hv; rfl)
 | .u, _, _, _, h, v, hv => by simp only [Ua] at h; rw [h.1] at hv; simp at hv
 | .p x y, _, _, _, h, v, hv => by
  obtain ⟨c1, c2, F1, F2, h, _, h1, h2⟩ := h
  subst h
  rcases jk.1 hv with hv | hv
  ·exact Ua.one h1 v hv
  ·exact Ua.one h2 v hv
theorem Ha.one {w : World} {O : Nat → Prop} {hp : Nat → Option Ca} {σ : Nat → Value} : ∀ {d : D} {cs : List Value}, Ha w O hp σ d cs → ∀ v ∈ cs, v.oneCell' = true
 | .und, _, h, _, _ => by simp [Ha] at h
 | .anyv, _, h, _, _ => by simp [Ha] at h
 | .t τ x, _, h, v, hv => Ia.one h v hv
 | .nil, _, h, v, hv => by simp only [Ha] at h; subst h; simp at hv; subst hv; rfl
 | .own _, _, h, v, hv => by obtain ⟨u, h, h1, _⟩ := h; subst h; simp at hv; subst hv; exact h1
 | .cut _ _ _, _, h, v, hv => by obtain ⟨u, h, h1, _⟩ := h; subst h; simp at hv; subst hv; exact h1
 | .ptr _ _, _, h, v, hv => by obtain ⟨u, h, h1, _⟩ := h; subst h; simp at hv; subst hv; exact h1
 | .eptr _ _ _, _, h, v, hv => by obtain ⟨u, h, h1, _⟩ := h; subst h; simp at hv; subst hv; exact h1
 | .rp _ _, _, h, v, hv => by obtain ⟨b, off, cur, et, fr, h, _⟩ := h; subst h; simp at hv; subst hv; rfl
 | .pr a b, _, h, v, hv => by
  obtain ⟨c1, c2, h, h1, h2⟩ := h
  subst h
  rcases jk.1 hv with hv | hv
  ·exact Ha.one h1 v hv
  ·exact Ha.one h2 v hv
 | .un, _, h, v, hv => by simp only [Ha] at h; subst h; simp at hv
 | .tup _, _, h, _, _ => by simp [Ha] at h
theorem Ln {c1 c2 ce : List Value} {o : Nat} (h : o + ce.length ≤ c1.length) : Na (c1 ++ c2) o ce = Na c1 o ce ++ c2 := by
 unfold Na
 rw [List.take_append_of_le_length (by omega), List.drop_append_of_le_length h]
 simp [List.append_assoc]
theorem Uo {cs ce : List Value} (h : ce.length = cs.length) : Na cs 0 ce = ce := by
 unfold Na
 rw [List.drop_eq_nil_of_le (by omega)]
 simp
theorem Wh {cur : Array Value} {o n o' : Nat} {ce : List Value} (h1 : o + n ≤ cur.size) (h2 : o' + ce.length ≤ n) :
 Sb (Na cur.toList (o + o') ce).toArray o n = Na (Sb cur o n) o' ce := by
 have hl : (Sb cur o n).length = n := Lb h1
 have hs : (Na cur.toList (o + o') ce).length = cur.size := by rw [Dd (by simp; omega)]; simp
 apply List.ext_getElem?
 intro j
 rw [Sd (by omega)]
 by_cases hj : j < n
 ·rw [Hc _ _ _ _ hj, List.getElem?_toArray, Sd (by simp; omega), Hc _ _ _ _ hj]
  by_cases c1 : j < o'
  ·rw [if_pos (by omega), if_pos c1]; simp
  ·rw [if_neg (by omega), if_neg c1]
   by_cases c2 : j < o' + ce.length
   ·rw [if_pos (by omega), if_pos c2]; congr 1; omega
   ·rw [if_neg (by omega), if_neg c2]; simp
 ·rw [List.getElem?_eq_none (by rw [Lb (by simpa [hs] using h1)]; omega), if_neg (by omega), if_neg (by omega), List.getElem?_eq_none (by omega)]
theorem Qj {cur : Array Value} {o p m : Nat} {ce : List Value} (h : o + ce.length ≤ cur.size) (hm : p + m ≤ cur.size) (hd : p + m ≤ o ∨ o + ce.length ≤ p) :
 Sb (Na cur.toList o ce).toArray p m = Sb cur p m := by
 have hs : (Na cur.toList o ce).length = cur.size := by rw [Dd (by simpa using h)]; simp
 apply List.ext_getElem?
 intro j
 by_cases hj : j < m
 ·rw [Hc _ _ _ _ hj, List.getElem?_toArray, Sd (by simpa using h), Hc _ _ _ _ hj]
  by_cases c1 : p + j < o
  ·rw [if_pos c1]; simp
  ·rw [if_neg c1, if_neg (by omega)]; simp
 ·rw [List.getElem?_eq_none (by rw [Lb (by simpa [hs] using hm)]; omega), List.getElem?_eq_none (by rw [Lb hm]; omega)]
theorem Cq {w : World} {O : Nat → Prop} : ∀ {e : Ty} {x x' : T e} {p : List Nat} {τ : Ty} {y : T τ} {cs ce : List Value}, Nd e x p τ y = some x' → Zb e p = some τ →
 Ia w O e x cs → Ia w O τ y ce → Ia w O e x' (Na cs (Ka e p) ce)
 | e, x, x', [], τ, y, cs, ce, hs, ht, hx, hy => by
  unfold Nd at hs
  split at hs
  ·rename_i q hq
   subst q
   simp only [jc] at hs
   subst hs
   have l1 := Ia.length hx
   have l2 := Ia.length hy
   simp only [Ka]
   rw [Uo (by omega)]
   exact hy
  ·simp at hs
 | .p a b', x, x', 0 :: p, τ, y, cs, ce, hs, ht, hx, hy => by
  simp only [Nd] at hs
  split at hs
  ·rename_i u hu
   simp only [jc] at hs
   subst hs
   obtain ⟨c1, c2, hc, h1, h2⟩ := hx
   subst hc
   have ht' : Zb a p = some τ := by simpa [Zb, Da] using ht
   have hle := Od ht'
   have ih := Cq hu ht' h1 hy
   have l1 := Ia.length h1
   have l2 := Ia.length hy
   have ho : Ka (.p a b') (0 :: p) = Ka a p := by simp [Ka, Xa, Da]
   rw [ho, Ln (by omega)]
   exact ⟨_, _, rfl, ih, h2⟩
  ·simp at hs
 | .p a b', x, x', (n + 1) :: p, τ, y, cs, ce, hs, ht, hx, hy => by
  simp only [Nd] at hs
  split at hs
  ·rename_i u hu
   simp only [jc] at hs
   subst hs
   obtain ⟨c1, c2, hc, h1, h2⟩ := hx
   subst hc
   have ht' : Zb b' (n :: p) = some τ := by simpa [Zb, Da] using ht
   have ih := Cq hu ht' h2 hy
   have l1 := Ia.length h1
   have ho : Ka (.p a b') ((n + 1) :: p) = c1.length + Ka b' (n :: p) := by simp [Ka, Xa, Da, l1, jr]
   rw [ho, Oj]
   exact ⟨_, _, rfl, h1, ih⟩
  ·simp at hs
 | .i _, _, _, _ :: _, _, _, _, _, hs, _, _, _ => by simp [Nd] at hs
 | .b, _, _, _ :: _, _, _, _, _, hs, _, _, _ => by simp [Nd] at hs
 | .o, _, _, _ :: _, _, _, _, _, hs, _, _, _ => by simp [Nd] at hs
 | .s, _, _, _ :: _, _, _, _, _, hs, _, _, _ => by simp [Nd] at hs
 | .sl _, _, _, _ :: _, _, _, _, _, hs, _, _, _ => by simp [Nd] at hs
 | .u, _, _, _ :: _, _, _, _, _, hs, _, _, _ => by simp [Nd] at hs
theorem As {w : World} : ∀ {e : Ty} {x x' : T e} {p : List Nat} {τ : Ty} {y : T τ} {cs ce : List Value} {F Fy : List Nat}, Nd e x p τ y = some x' → Zb e p = some τ →
 Ua w e x cs F → Ua w τ y ce Fy → ∃ F1 F2 F3, F = F1 ++ F2 ++ F3 ∧ Ua w e x' (Na cs (Ka e p) ce) (F1 ++ Fy ++ F3)
 | e, x, x', [], τ, y, cs, ce, F, Fy, hs, ht, hx, hy => by
  unfold Nd at hs
  split at hs
  ·rename_i q hq
   subst q
   simp only [jc] at hs
   subst hs
   have l1 := Ua.length hx
   have l2 := Ua.length hy
   simp only [Ka]
   rw [Uo (by omega)]
   exact ⟨[], F, [], by simp, by simpa using hy⟩
  ·simp at hs
 | .p a b', x, x', 0 :: p, τ, y, cs, ce, F, Fy, hs, ht, hx, hy => by
  simp only [Nd] at hs
  split at hs
  ·rename_i u hu
   simp only [jc] at hs
   subst hs
   obtain ⟨c1, c2, Fa, Fb, hc, hF, h1, h2⟩ := hx
   subst hc
   subst hF
   have ht' : Zb a p = some τ := by simpa [Zb, Da] using ht
   have hle := Od ht'
   obtain ⟨F1, F2, F3, e1, ih⟩ := As hu ht' h1 hy
   have l1 := Ua.length h1
   have l2 := Ua.length hy
   have ho : Ka (.p a b') (0 :: p) = Ka a p := by simp [Ka, Xa, Da]
   rw [ho, Ln (by omega)]
   exact ⟨F1, F2, F3 ++ Fb, by simp [e1], _, _, F1 ++ Fy ++ F3, Fb, rfl, by simp, ih, h2⟩
  ·simp at hs
 | .p a b', x, x', (n + 1) :: p, τ, y, cs, ce, F, Fy, hs, ht, hx, hy => by
  simp only [Nd] at hs
  split at hs
  ·rename_i u hu
   simp only [jc] at hs
   subst hs
   obtain ⟨c1, c2, Fa, Fb, hc, hF, h1, h2⟩ := hx
   subst hc
   subst hF
   have ht' : Zb b' (n :: p) = some τ := by simpa [Zb, Da] using ht
   obtain ⟨F1, F2, F3, e1, ih⟩ := As hu ht' h2 hy
   have l1 := Ua.length h1
   have ho : Ka (.p a b') ((n + 1) :: p) = c1.length + Ka b' (n :: p) := by simp [Ka, Xa, Da, l1, jr]
   rw [ho, Oj]
   exact ⟨Fa ++ F1, F2, F3, by simp [e1], _, _, Fa, F1 ++ Fy ++ F3, rfl, by simp, h1, ih⟩
  ·simp at hs
 | .i _, _, _, _ :: _, _, _, _, _, _, _, hs, _, _, _ => by simp [Nd] at hs
 | .b, _, _, _ :: _, _, _, _, _, _, _, hs, _, _, _ => by simp [Nd] at hs
 | .o, _, _, _ :: _, _, _, _, _, _, _, hs, _, _, _ => by simp [Nd] at hs
 | .s, _, _, _ :: _, _, _, _, _, _, _, hs, _, _, _ => by simp [Nd] at hs
 | .sl _, _, _, _ :: _, _, _, _, _, _, _, hs, _, _, _ => by simp [Nd] at hs
 | .u, _, _, _ :: _, _, _, _, _, _, _, hs, _, _, _ => by simp [Nd] at hs
section
variable {P : Program} {Out : Type} {n0 : Nat} {A : Fx} {O0 : Nat → Prop} {w0 w w' : World} {s : AS} {σ σ' : Nat → Value} {φ φ' : Nat → List Nat} {a : Act}
variable {o : Oper} {Q : Exit → Act → World → Prop} {k : AS → Option Out} {out : Out} {d : D} {v : Value} {upd : List (Nat × Option Ca)} {dst : Option Tmp} {G : Pc}
theorem Ga.turn (h : Ga n0 A O0 w0 s σ φ a w) {id : Nat} {blk0 blk : Ca} (hid : s.heap id = some blk0) (hlike : blk0.like blk) (l : List Nat)
 (hlive : ∀ j, j ∈ l → ∃ b, s.heap j = some b) (_hl : id ∉ l) (F : List Nat)
 (hs : w.heap.size ≤ w'.heap.size) (hb : ∀ b, b < w.heap.size → b ∉ φ id → (∀ j, j ∈ l → b ∉ φ j) → w'.heap[b]? = w.heap[b]?)
 (hos : w'.os = w.os) (htape : w'.tape = w.tape) (hout : w'.output = w.output) (hF : F.Nodup) (hFn : ∀ b, b ∈ F → w.heap.size ≤ b ∨ b ∈ φ id ∨ ∃ j, j ∈ l ∧ b ∈ φ j)
 (hrep : ∀ (hp' : Nat → Option Ca) (O' : Nat → Prop), (∀ b, b < w.heap.size → ¬ OO O0 s φ b → ¬ O' b) → (∀ j, Cp s.heap hp' σ σ j) →
  Ya w' O' hp' σ id blk F) :
 Ga n0 A O0 w0 ⟨s.n, s.tm, (id, some blk) :: (Kb l ++ s.hp)⟩ σ (Ae φ id F) a w' := by
 have hOO : ∀ b, b < w.heap.size → ¬ OO O0 s φ b → ¬ OO O0 ⟨s.n, s.tm, (id, some blk) :: (Kb l ++ s.hp)⟩ (Ae φ id F) b := by
  rintro b hlt hno (ho | ⟨j, blk', hl, hm⟩)
  ·exact hno (.inl ho)
  ·rw [Yc] at hl
   by_cases hj : j = id
   ·subst hj
    rw [Rc] at hm
    rcases hFn b hm with hge | hm' | ⟨j', hj', hm'⟩
    ·omega
    ·exact hno (.inr ⟨j, blk0, hid, hm'⟩)
    ·obtain ⟨b', hb'⟩ := hlive j' hj'
     exact hno (.inr ⟨j', b', hb', hm'⟩)
   ·rw [if_neg hj] at hl
    split at hl
    ·simp at hl
    ·rw [Mf _ _ hj] at hm
     exact hno (.inr ⟨j, blk', hl, hm⟩)
 have hcp : ∀ j, Cp s.heap (AS.heap ⟨s.n, s.tm, (id, some blk) :: (Kb l ++ s.hp)⟩) σ σ j := by
  intro j blk' hj
  rw [Yc] at hj
  by_cases hji : j = id
  ·subst hji
   rw [if_pos rfl] at hj
   simp only [jc] at hj
   subst hj
   exact ⟨blk0, hid, hlike, rfl⟩
  ·rw [if_neg hji] at hj
   split at hj
   ·simp at hj
   ·exact ⟨blk', hj, Ca.like_refl _, rfl⟩
 refine h.trans (fun j => j = id ∨ j ∈ l) rfl rfl ?_ ?_ hs ?_ ?_ ?_ ?_ hos htape hout (fun _ _ => .inl rfl)
 ·intro j hj
  simp only [not_or] at hj
  exact ⟨by rw [Yc, if_neg hj.1, if_neg hj.2], rfl, Mf _ _ hj.1⟩
 ·intro b hlt hno
  refine hb b hlt (fun hm => hno id blk0 (.inl rfl) hid hm) fun j hj hm => ?_
  obtain ⟨b', hb'⟩ := hlive j hj
  exact hno j b' (.inr hj) hb' hm
 ·intro j blk' ht hl b hbm
  rw [Yc] at hl
  by_cases hj : j = id
  ·subst hj
   rw [Rc] at hbm
   rcases hFn b hbm with hge | hm' | ⟨j', hj', hm'⟩
   ·exact .inl hge
   ·exact .inr ⟨j, blk0, .inl rfl, hid, hm'⟩
   ·obtain ⟨b', hb'⟩ := hlive j' hj'
    exact .inr ⟨j', b', .inr hj', hb', hm'⟩
  ·rw [if_neg hj, if_pos (ht.resolve_left hj)] at hl
   simp at hl
 ·intro j blk' ht hl _
  exact hcp j blk' hl
 ·intro j blk' ht hl
  rw [Yc] at hl
  by_cases hj : j = id
  ·subst hj
   rw [if_pos rfl] at hl
   simp only [jc] at hl
   subst hl
   rw [Rc]
   exact ⟨hrep _ _ hOO hcp, hF⟩
  ·rw [if_neg hj, if_pos (ht.resolve_left hj)] at hl
   simp at hl
 ·intro j j' b1 b2 ht ht' hne hl hl'
  rw [Yc] at hl hl'
  have e1 : j = id := by
   by_cases hj : j = id
   ·exact hj
   ·rw [if_neg hj, if_pos (ht.resolve_left hj)] at hl; simp at hl
  have e2 : j' = id := by
   by_cases hj : j' = id
   ·exact hj
   ·rw [if_neg hj, if_pos (ht'.resolve_left hj)] at hl'; simp at hl'
  exact absurd (e1.trans e2.symm) hne
theorem Vt {id : Nat} {e : Ty} {xs : List (T e)} {O : Nat → Prop} {hp : Nat → Option Ca} {F : List Nat} (h : Ua w (.sl e) xs [σ id] F) (hf : e.flat = true) :
 Ya w O hp σ id (.row e false xs) F := by
 obtain ⟨hm, ⟨h1, h2, h3⟩ | ⟨bl, off, cap, cur, et, Fs, h1, hh, h2, h3, h4, hF, hl, hv⟩⟩ := h
 ·simp only [List.cons.injEq, and_true] at h1
  exact ⟨hm, .inl ⟨h1, h2, h3⟩⟩
 ·simp only [List.cons.injEq, and_true] at h1
  have hnil : ∀ i, i < Fs.length → Fs.getD i [] = [] := fun i hi => Fh hf (hv i (by omega))
  have hfl : Fs.flatten = [] := by
   rw [List.flatten_eq_nil_iff]
   intro l hl'
   obtain ⟨i, hi, rfl⟩ := List.mem_iff_getElem.1 hl'
   have := hnil i hi
   simpa [List.getD, hi] using this
  refine ⟨hm, .inr ⟨bl, off, cap, cur, et, h1, hh, h2, h3, h4, by rw [hF, hfl], fun i hi => ?_⟩⟩
  have := hv i hi
  rw [hnil i (by omega)] at this
  exact this.view (by simp)
theorem Yk {Fs : List (List Nat)} {i : Nat} (hi : i < Fs.length) (X : List Nat) :
 Fs.flatten = (Fs.take i).flatten ++ Fs.getD i [] ++ (Fs.drop (i + 1)).flatten ∧ (Fs.set i X).flatten = (Fs.take i).flatten ++ X ++ (Fs.drop (i + 1)).flatten := by
 have h1 : Fs = Fs.take i ++ Fs.getD i [] :: Fs.drop (i + 1) := by
  have : Fs.getD i [] = Fs[i] := by simp [List.getD, hi]
  rw [this, List.getElem_cons_drop hi, List.take_append_drop]
 have h2 : Fs.set i X = Fs.take i ++ X :: Fs.drop (i + 1) := by rw [List.set_eq_take_append_cons_drop]; simp [hi]
 constructor
 ·conv => lhs; rw [h1]
  simp
 ·rw [h2]; simp
theorem GB {e τ : Ty} {xs : List (T e)} {b off cap : Nat} {F Fy : List Nat} {i : Nat} {x x' : T e} {y : T τ} {p : List Nat} {ce : List Value} {cur : Array Value} {et : TypeId}
 (hx : Ua w (.sl e) xs [.slice (some ⟨b, off, none⟩) (ja xs) cap] F) (hn : (F ++ Fy).Nodup) (hi : xs[i]? = some x) (hs : Nd e x p τ y = some x') (ht : Zb e p = some τ)
 (hy : Ua w τ y ce Fy) (hcur : w.heap[b]? = some (.cells cur et (0, 0))) :
 ∃ F', Ua (w.setRow b (Na cur.toList (off + i * e.size + Ka e p) ce).toArray) (.sl e) (jx xs i x') [.slice (some ⟨b, off, none⟩) (ja xs) cap] F' ∧ F'.Nodup ∧
  (∀ c, c ∈ F' → c ∈ F ∨ c ∈ Fy) := by
 obtain ⟨hm, ⟨h1, _⟩ | ⟨bl, off', cap', cur', et', Fs, h1, hh, h2, h3, h4, hF, hl, hv⟩⟩ := hx
 ·simp at h1
 ·simp at h1
  obtain ⟨⟨rfl, rfl⟩, rfl⟩ := h1
  rw [hcur] at hh
  simp only [jc, Obj.cells.injEq] at hh
  obtain ⟨rfl, rfl, _⟩ := hh
  have hil : i < ja xs := (List.getElem?_eq_some_iff.1 hi).1
  have hxe : List.get xs ⟨i, hil⟩ = x := by simpa [je hil] using hi
  have hle := Od ht
  have hyl := Ua.length hy
  have hcap := jl e.size h2
  have hlt : (i + 1) * e.size ≤ ja xs * e.size := jl _ hil
  rw [Nat.add_mul, Nat.one_mul] at hlt
  have hoi := hv i hil
  rw [hxe] at hoi
  have hbF : b ∉ Fs.flatten ∧ b ∉ Fy := by
   rw [hF] at hn
   simp only [List.cons_append, List.nodup_cons, jk, not_or] at hn
   exact hn.1
  have hst : ∀ c, c ≠ b → (w.setRow b (Na cur.toList (off + i * e.size + Ka e p) ce).toArray).heap[c]? = w.heap[c]? := fun c hc => setRow_other w b c _ hc
  have hoi' := hoi.stable (w' := w.setRow b (Na cur.toList (off + i * e.size + Ka e p) ce).toArray) fun c hc => hst c fun e => hbF.1 (e ▸ Le hc)
  have hy' := hy.stable (w' := w.setRow b (Na cur.toList (off + i * e.size + Ka e p) ce).toArray) fun c hc => hst c fun e => hbF.2 (e ▸ hc)
  obtain ⟨F1, F2, F3, hFi, hown⟩ := As hs ht hoi' hy'
  have hiF : i < Fs.length := by omega
  obtain ⟨g1, g2⟩ := Yk hiF (F1 ++ Fy ++ F3)
  refine ⟨b :: (Fs.set i (F1 ++ Fy ++ F3)).flatten, ⟨by simpa using hm, .inr ⟨b, off, cap, _, et, _, by simp, setRow_heap w b cur _ et (0, 0) hcur, by simpa using h2, h3, ?_, rfl, by simpa using hl, ?_⟩⟩, ?_, ?_⟩
  ·rw [List.size_toArray, Dd (by simp; omega)]
   simpa using h4
  ·intro j hj
   have hjl : j < ja xs := by simpa using hj
   by_cases hji : j = i
   ·subst hji
    have e1 : List.get (jx xs j x') ⟨j, hj⟩ = x' := by simp
    have e2 : (Fs.set j (F1 ++ Fy ++ F3)).getD j [] = F1 ++ Fy ++ F3 := by simp [List.getD, hiF]
    rw [e1, e2, Wh (by omega) (by omega)]
    exact hown
   ·have e1 : List.get (jx xs i x') ⟨j, hj⟩ = List.get xs ⟨j, hjl⟩ := by simp [Ne.symm hji]
    have e2 : (Fs.set i (F1 ++ Fy ++ F3)).getD j [] = Fs.getD j [] := by simp [List.getD, Ne.symm hji]
    have hjle : (j + 1) * e.size ≤ ja xs * e.size := jl _ hjl
    rw [Nat.add_mul, Nat.one_mul] at hjle
    rw [e1, e2, Qj (by omega) (by omega) ?_]
    ·exact (hv j hjl).stable fun c hc => hst c fun e => hbF.1 (e ▸ Le hc)
    ·rcases Nat.lt_or_gt_of_ne hji with hlt' | hlt'
     ·left
      have := jl e.size hlt'
      rw [Nat.succ_mul] at this
      omega
     ·right
      have := jl e.size hlt'
      rw [Nat.succ_mul] at this
      omega
  ·rw [g2]
   rw [hF, g1, hFi] at hn
   refine (List.Perm.nodup_iff (l₁ := b :: ((Fs.take i).flatten ++ (F1 ++ Fy ++ F3) ++ (Fs.drop (i + 1)).flatten)) (l₂ := (b :: ((Fs.take i).flatten ++ (F1 ++ F3) ++ (Fs.drop (i + 1)).flatten)) ++ Fy) ?_).2 (List.Sublist.nodup ?_ hn)
   ·rw [List.perm_iff_count]
    intro c
    simp only [List.count_append, List.count_cons]
    omega
   ·refine List.Sublist.append (List.Sublist.cons_cons _ (List.Sublist.append (List.Sublist.append (List.Sublist.refl _) ?_) (List.Sublist.refl _))) (List.Sublist.refl _)
    exact List.Sublist.append (List.sublist_append_left _ _) (List.Sublist.refl _)
  ·intro c hc
   rw [g2] at hc
   rw [hF, g1, hFi]
   simp only [jn, jk] at hc ⊢
   grind
end
section
variable {P : Program} {Out : Type} {n0 : Nat} {A : Fx} {O0 : Nat → Prop} {w0 w w' : World} {s : AS} {σ σ' : Nat → Value} {φ φ' : Nat → List Nat} {a : Act}
variable {o : Oper} {Q : Exit → Act → World → Prop} {k : AS → Option Out} {out : Out} {d : D} {v : Value} {upd : List (Nat × Option Ca)} {dst : Option Tmp} {G : Pc}
theorem NC (hG : EnvTy P G) (h : Ga n0 A O0 w0 s σ φ a w) {t : TypeId} {x y : Operand} (ho : o.op = .store t x y)
 (he : Gc G s o k = some out) : o.wp P a w (Jc n0 A O0 w0 k out) Q := by
 simp only [Gc, Ma, ho] at he
 split at he
 ·
  rename_i τ id path dv hty hx hy
  split at he
  ·rename_i ρ d hb
   split at he
   ·rename_i τ' d' ht hd
    split at he
    ·rename_i q hq
     obtain rfl := Mc hq
     cases hsb : Za τ' dv with
     | false => rw [hsb] at he; simp at he
     | true =>
      rw [hsb] at he
      simp only [cond_true] at he
      have hse := Kf hsb
      have hv := h.ev hx
      rw [Fi] at hv
      obtain ⟨b, hσ, hv⟩ := hv.2 ρ d hb
      obtain ⟨hs, b', cur, et, hσ', hh, hF, hr, hsz⟩ := h.hp id _ hb
      rw [hσ] at hσ'
      simp at hσ'
      subst hσ'
      obtain ⟨hre, hve⟩ := Dc hse (h.ev hy)
      have hlen := Ha.length hse hre
      have hle := Od ht
      have hl := Nj (w := w) (hG.ty _ _ hty) hh (by omega : Ka ρ path + τ'.size ≤ cur.size) hlen (Ha.one hre)
      obtain ⟨hsd, hrd⟩ := Ha.setAt (w := w) (O := OO O0 s φ) (hp := s.heap) (σ := σ) hs ht hse hd
      have hr' := hrd hr hre
      have hc : Ga n0 A O0 w0 ⟨s.n, s.tm, (id, some (.box ρ d')) :: (Kb [] ++ s.hp)⟩ σ (Ae φ id (φ id)) a (w.setRow b (Na cur.toList (Ka ρ path) (a.eval y).cells.toList).toArray) := by
       refine h.turn (blk0 := .box ρ d) (blk := .box ρ d') hb rfl [] (by simp) (by simp) (φ id) (by simp) ?_ rfl rfl rfl (h.nodup _ _ hb) (fun c hc => .inr (.inl hc)) ?_
       ·intro c _ hc _
        rw [hF] at hc
        exact setRow_other w b c _ (by simpa using hc)
       ·intro hp' O' hO hcp
        refine ⟨hsd, b, _, et, hσ, setRow_heap w b cur _ et (0, 0) hh, hF, ?_, ?_⟩
        ·refine Ha.stable ?_ hO d' _ (fun j _ => hcp j) (by simpa using hr')
         intro c hc _
         refine setRow_other w b c _ fun e => hc (.inr ⟨id, _, hb, ?_⟩)
         rw [hF, e]; simp
        ·have := Dd (cs := cur.toList) (ce := (a.eval y).cells.toList) (o := Ka ρ path) (by rw [hlen]; simp; omega)
         simpa [this] using hsz
      refine Vo (w' := w.setRow b (Na cur.toList (Ka ρ path) (a.eval y).cells.toList).toArray) ?_ (Qc rfl hc ?_ he)
      ·simp [execOp, ho, hv, Instr.storeAt, Instr.sureAddr, hl]
      ·exact Rk.2 rfl
    ·simp at he
   ·simp at he
  ·simp at he
 ·
  rename_i τ id i path dv hty hx hy
  split at he
  ·rename_i e dp xs hb
   split at he
   ·rename_i τ' ht
    split at he
    ·rename_i q hq
     obtain rfl := Mc hq
     have hv := h.ev hx
     rw [Ce] at hv
     obtain ⟨hi, b, off, cap, hσ, hv⟩ := hv.2 _ _ _ hb rfl
     have hle := Od ht
     cases hf : (dp || e.flat) with
     | true =>
      rw [hf] at he
      simp only [cond_true] at he
      split at he
      ·rename_i y' l hoT
       cases hck : ((dp || l.isEmpty) && Ld (id :: l)) with
       | false => rw [hck] at he; simp at he
       | true =>
        rw [hck] at he
        simp only [cond_true] at he
        simp only [jd] at hck
        have hnd := Te hck.2
        cases hxi : xs[i]? with
        | none => simp [hxi] at he
        | some x0 =>
         simp only [hxi, jb] at he
         split at he
         ·rename_i x' hset
          have hse := Re hoT
          obtain ⟨hre, hve⟩ := Dc hse (h.ev hy)
          have hlen := Ha.length hse hre
          obtain ⟨hoy, hlive⟩ := Og h hoT hre
          have hrow := Rq (h.hp id _ hb) (by simpa using hf)
          rw [hσ] at hrow
          have hblk : ∃ cur et, w.heap[b]? = some (.cells cur et (0, 0)) ∧ off + cap * e.size ≤ cur.size ∧ ja xs ≤ cap ∧ b ∈ φ id := by
           obtain ⟨hm, ⟨h1, _⟩ | ⟨bl, off', cap', cur', et', Fs, h1, hh, h2, h3, h4, hF, hl, _⟩⟩ := hrow
           ·simp at h1
           ·simp at h1
            obtain ⟨⟨rfl, rfl⟩, rfl⟩ := h1
            exact ⟨cur', et', hh, h4, h2, by rw [hF]; simp⟩
          obtain ⟨cur, et, hh, hsz, hnc, hbm⟩ := hblk
          have hlt : (i + 1) * e.size ≤ cap * e.size := jl _ (by omega)
          rw [Nat.succ_mul] at hlt
          have hl := Nj (w := w) (hG.ty _ _ hty) hh (by omega : off + i * e.size + Ka e path + τ'.size ≤ cur.size) hlen (Ua.one hoy)
          have hFF : (φ id ++ Ba φ l).Nodup := by
           have := Qd h hnd (by
            intro j hj
            rcases jn.1 hj with rfl | hj
            ·exact ⟨_, hb⟩
            ·exact hlive j hj)
           simpa [Ba] using this
          obtain ⟨F', hown', hF', hsub⟩ := GB hrow hFF hxi hset ht hoy hh
          have hc : Ga n0 A O0 w0 ⟨s.n, s.tm, (id, some (.row e dp (jx xs i x'))) :: (Kb l ++ s.hp)⟩ σ (Ae φ id F') a (w.setRow b (Na cur.toList (off + i * e.size + Ka e path) (a.eval y).cells.toList).toArray) := by
           refine h.turn (blk0 := .row e dp xs) hb (by simp [Ca.like]) l hlive (List.nodup_cons.1 hnd).1 F' (by simp) ?_ rfl rfl rfl hF' ?_ ?_
           ·intro c _ hc _
            exact setRow_other w b c _ fun e => hc (e ▸ hbm)
           ·intro c hc
            rcases hsub c hc with hc | hc
            ·exact .inr (.inl hc)
            ·exact .inr (.inr (Pa.1 hc))
           ·intro hp' O' _ _
            cases dp with
            | true => simp only [Ya]; rw [hσ]; exact hown'
            | false => exact Vt (by rw [hσ]; exact hown') (by simpa using hf)
          refine Vo (w' := w.setRow b (Na cur.toList (off + i * e.size + Ka e path) (a.eval y).cells.toList).toArray) ?_ (Qc rfl hc ?_ he)
          ·simp [execOp, ho, hv, Instr.storeAt, Instr.sureAddr, hl]
          ·exact Rk.2 rfl
         ·simp at he
      ·simp at he
     | false =>
      rw [hf] at he
      simp only [cond_false] at he
      split at he
      ·rename_i y' hoT
       cases hxi : xs[i]? with
       | none => simp [hxi] at he
       | some x0 =>
        simp only [hxi, jb] at he
        split at he
        ·rename_i x' hset
         obtain ⟨hse, hvw⟩ := Ud (w := w) (O := OO O0 s φ) (hp := s.heap) (σ := σ) hoT
         obtain ⟨hre, hve⟩ := Dc hse (h.ev hy)
         have hlen := Ha.length hse hre
         have hvy := hvw _ hre
         have hdp : dp = false := by
          simp only [Bool.or_eq_false_iff] at hf
          exact hf.1
         subst hdp
         have hrow := h.hp id _ hb
         simp only [Ya, hσ] at hrow
         obtain ⟨hm, ⟨h1, _⟩ | ⟨bl, off', cap', cur, et, h1, hh, h2, h3, h4, hF, hvs⟩⟩ := hrow
         ·simp at h1
         ·simp at h1
          obtain ⟨⟨rfl, rfl⟩, rfl⟩ := h1
          have hlt : (i + 1) * e.size ≤ ja xs * e.size := jl _ hi
          rw [Nat.succ_mul] at hlt
          have hcap := jl e.size h2
          have hl := Nj (w := w) (hG.ty _ _ hty) hh (by omega : off + i * e.size + Ka e path + τ'.size ≤ cur.size) hlen (Ia.one hvy)
          have hxe : List.get xs ⟨i, hi⟩ = x0 := by simpa [je hi] using hxi
          have hvi := hvs i hi
          rw [hxe] at hvi
          have hnew := Cq hset ht hvi hvy
          have hc : Ga n0 A O0 w0 ⟨s.n, s.tm, (id, some (.row e false (jx xs i x'))) :: (Kb [] ++ s.hp)⟩ σ (Ae φ id (φ id)) a (w.setRow b (Na cur.toList (off + i * e.size + Ka e path) (a.eval y).cells.toList).toArray) := by
           refine h.turn (blk0 := .row e false xs) hb (by simp [Ca.like]) [] (by simp) (by simp) (φ id) (by simp) ?_ rfl rfl rfl (h.nodup _ _ hb) (fun c hc => .inr (.inl hc)) ?_
           ·intro c _ hc _
            rw [hF] at hc
            exact setRow_other w b c _ (by simpa using hc)
           ·intro hp' O' hO _
            have hst : ∀ {τ : Ty} {z : T τ} {cs : List Value}, Ia w (OO O0 s φ) τ z cs → Ia (w.setRow b (Na cur.toList (off + i * e.size + Ka e path) (a.eval y).cells.toList).toArray) O' τ z cs := by
             intro τ z cs hz
             refine Ia.stable ?_ hO hz
             intro c hc _
             refine setRow_other w b c _ fun e => hc (.inr ⟨id, _, hb, ?_⟩)
             rw [hF, e]; simp
            have hyl := Ia.length hvy
            refine ⟨by simpa using hm, .inr ⟨b, off, cap, _, et, by simpa using hσ, setRow_heap w b cur _ et (0, 0) hh, by simpa using h2, h3, ?_, hF, ?_⟩⟩
            ·rw [List.size_toArray, Dd (by have : cur.toList.length = cur.size := Array.length_toList; omega)]
             simpa using h4
            ·intro j hj
             have hjl : j < ja xs := by simpa using hj
             by_cases hji : j = i
             ·subst hji
              have e1 : List.get (jx xs j x') ⟨j, hj⟩ = x' := by simp
              rw [e1, Wh (by omega) (by omega)]
              exact hst hnew
             ·have e1 : List.get (jx xs i x') ⟨j, hj⟩ = List.get xs ⟨j, hjl⟩ := by simp [Ne.symm hji]
              have hjle : (j + 1) * e.size ≤ ja xs * e.size := jl _ hjl
              rw [Nat.succ_mul] at hjle
              rw [e1, Qj (by omega) (by omega) ?_]
              ·exact hst (hvs j hjl)
              ·rcases Nat.lt_or_gt_of_ne hji with hlt' | hlt'
               ·left
                have := jl e.size hlt'
                rw [Nat.succ_mul] at this
                omega
               ·right
                have := jl e.size hlt'
                rw [Nat.succ_mul] at this
                omega
          refine Vo (w' := w.setRow b (Na cur.toList (off + i * e.size + Ka e path) (a.eval y).cells.toList).toArray) ?_ (Qc rfl hc ?_ he)
          ·simp [execOp, ho, hv, Instr.storeAt, Instr.sureAddr, hl]
          ·exact Rk.2 rfl
        ·simp at he
      ·simp at he
    ·simp at he
   ·simp at he
  ·
   rename_i e xs i0 x0 path0 τ0 d hb
   split at he
   ·rename_i τ' ht
    split at he
    ·rename_i q hq
     obtain rfl := Mc hq
     split at he
     ·rename_i y' l hoT
      cases hck : (Ld (id :: l) && (path == path0)) with
      | false => rw [hck] at he; simp at he
      | true =>
       rw [hck] at he
       simp only [cond_true] at he
       simp only [jd, beq_iff_eq] at hck
       obtain ⟨hnd, hpp⟩ := hck
       subst hpp
       have hnd := Te hnd
       cases hbi : Nat.beq i i0 with
       | false => rw [hbi] at he; simp at he
       | true =>
        rw [hbi] at he
        simp only [cond_true] at he
        have hii := js hbi
        subst hii
        split at he
        ·rename_i x' hset
         obtain ⟨hsh, hxi, ht0, hlt, bl, off, cap, cur, et, hσ, hh, hbF, hsz, hrep, hwand⟩ := h.hp id _ hb
         have e1 : τ0 = τ' := by rw [ht0] at ht; simpa using ht
         subst e1
         have hv := h.ev hx
         rw [Ce] at hv
         obtain ⟨hi, b, off', cap', hσ', hv⟩ := hv.2 _ _ _ hb rfl
         rw [hσ] at hσ'
         simp at hσ'
         obtain ⟨⟨rfl, rfl⟩, rfl⟩ := hσ'
         have hle := Od ht
         have hse := Re hoT
         obtain ⟨hre, hve⟩ := Dc hse (h.ev hy)
         have hlen := Ha.length hse hre
         obtain ⟨hoy, hlive⟩ := Og h hoT hre
         have hl := Nj (w := w) (hG.ty _ _ hty) hh (by omega : off + i * e.size + Ka e path + τ0.size ≤ cur.size) hlen (Ua.one hoy)
         have hFF : (φ id ++ Ba φ l).Nodup := by
          have := Qd h hnd (by
           intro j hj
           rcases jn.1 hj with rfl | hj
           ·exact ⟨_, hb⟩
           ·exact hlive j hj)
          simpa [Ba] using this
         have hnot : bl ∉ Ba φ l := fun hm => (List.nodup_append.1 hFF).2.2 bl hbF bl hm rfl
         have hst : ∀ c, c ≠ bl → (w.setRow bl (Na cur.toList (off + i * e.size + Ka e path) (a.eval y).cells.toList).toArray).heap[c]? = w.heap[c]? := fun c hc => setRow_other w bl c _ hc
         obtain ⟨F', hperm, hown'⟩ := hwand (w.setRow bl (Na cur.toList (off + i * e.size + Ka e path) (a.eval y).cells.toList).toArray) _ hlen (fun c _ hne => hst c hne)
          (setRow_heap w bl cur _ et (0, 0) hh) y' (Ba φ l) x' (hoy.stable fun c hc => hst c fun e => hnot (e ▸ hc)) hset
         have hc : Ga n0 A O0 w0 ⟨s.n, s.tm, (id, some (.row e true (jx xs i x'))) :: (Kb l ++ s.hp)⟩ σ (Ae φ id F') a (w.setRow bl (Na cur.toList (off + i * e.size + Ka e path) (a.eval y).cells.toList).toArray) := by
          refine h.turn (blk0 := .hol e xs i x0 path τ0 d) hb (by simp [Ca.like]) l hlive (List.nodup_cons.1 hnd).1 F' (by simp) ?_ rfl rfl rfl (hperm.nodup_iff.2 hFF) ?_ ?_
          ·intro c _ hc _
           exact hst c fun e => hc (e ▸ hbF)
          ·intro c hc
           rcases jk.1 (hperm.mem_iff.1 hc) with hc | hc
           ·exact .inr (.inl hc)
           ·exact .inr (.inr (Pa.1 hc))
          ·intro hp' O' _ _
           exact hown'
         refine Vo (w' := w.setRow bl (Na cur.toList (off + i * e.size + Ka e path) (a.eval y).cells.toList).toArray) ?_ (Qc rfl hc ?_ he)
         ·simp [execOp, ho, hv, Instr.storeAt, Instr.sureAddr, hl]
         ·exact Rk.2 rfl
        ·simp at he
     ·simp at he
    ·simp at he
   ·simp at he
  ·simp at he
 ·simp at he
end
end KF
