/- An evaluator of Go functions on plain data, its soundness, and plain laws on what the functions compute, part 1 (conditions: as each lemma tells). -/
import Derived.WalkKit
import Derived.Lib.ConvBytes
set_option linter.unusedSimpArgs false
set_option linter.unusedVariables false
namespace KF
open Go
open List renaming length → ja, getElem?_eq_getElem → je, append → jf, mem_append → jm, mem_cons → jq, mem_cons_of_mem → js, length_cons → jx, set → j7, length_nil → j8, length_set → j9, mem_singleton → qd, length_append → qe, getD_eq_getElem?_getD → qg, getElem_mem → qi, getElem_of_mem → qj, mem_map → qk, ext_getElem? → qn, drop_drop → qo, toArray → qp, getD → qq, getElem?_eq_none → qr, mem_iff_getElem → qs, mem_append_left → qt, mem_append_right → qu, append_assoc → qy, eq_nil_of_length_eq_zero → q6, getElem?_eq_some_iff → q7, length_eq_one_iff → q8, replicate → yb, cons_append → yf, map_cons → yh, map_nil → yi, nodup_cons → yk, nodup_append → yl, size_toArray → ym, flatten_cons → yn, length_map → yp, mem_map_of_mem → yt, map_append → yu, all_eq_true → yv, range → yx, not_mem_nil → yz
open Option renaming bind_some → jb, bind → j4, map_some → qc, bind_eq_some_iff → qf, getD_some → qx, map_eq_some_iff → yw
open Option.some renaming injEq → jc, inj → yy
open Bool renaming and_eq_true → jd, not_true → jg, true_and → jl, false_eq_true → jr, not_eq_true → qa, or_eq_true → qw, not_eq_true' → yj, or_eq_false_iff → yq, false_or → yr
open Prod.mk renaming injEq → jh
open Nat renaming ble_eq_true_of_le → jk, mul_le_mul_right → jn, le_refl → jp, zero_add → jt, add_assoc → ju, eq_of_beq_eq_true → jv, ble → jy, le_trans → qb, beq → qv, le_of_ble_eq_true → qz, add_zero → q9, blt → ya, blt_eq → yc, add_mul → yd, one_mul → ye, succ_mul → yo
open Int renaming toNat_natCast → jo, eq_ofNat_of_zero_le → jw, toNat → jz
open Go.IntKind renaming wrap → j5, wrap → j6
open Sum renaming elim_inl → qh
open Result renaming andThen_ok → ql
open Sem renaming run_bind → qm
open List.cons renaming injEq → yg
theorem y3.{u} {α : Sort u} (a b : α) : cond true a b = a := rfl
theorem y8.{u} {α : Sort u} (a b : α) : cond false a b = b := rfl
inductive Ty where
 | i (k : IntKind)
 | b
 | s
 | sl (e : Ty)
 | u
 | p (x y : Ty)
 | o
 | mp (k v : Ty)
 deriving DecidableEq
@[reducible] def T : Ty → Type
 | .i _ => Int
 | .b => Bool
 | .o => Option Addr × Nat × Nat
 | .mp k v => List (T k × T v)
 | .s => List UInt8
 | .sl e => List (T e)
 | .u => Unit
 | .p x y => T x × T y
def Ty.size : Ty → Nat
 | .u => 0
 | .p x y => x.size + y.size
 | _ => 1
def Ty.flat : Ty → Bool
 | .sl _ => false
 | .mp _ _ => false
 | .p x y => x.flat && y.flat
 | _ => true
def Ty.cmp : Ty → Bool
 | .sl _ | .o | .mp _ _ => false
 | .p x y => x.cmp && y.cmp
 | _ => true
def Ph : Nat := 9223372036854775807
def Rc (cur : Array Value) (o n : Nat) : List Value := (cur.toList.drop o).take n
theorem Vc {cur : Array Value} {o n : Nat} (h : o + n ≤ cur.size) : (Rc cur o n).length = n := by
 simp [Rc]; omega
theorem Me (cur : Array Value) (o n j : Nat) (h : j < n) : (Rc cur o n)[j]? = cur[o + j]? := by
 simp [Rc, h]
theorem GG (cur : Array Value) (o n p m : Nat) (h : p + m ≤ n) : ((Rc cur o n).drop p).take m = Rc cur (o + p) m := by
 apply qn
 intro j
 simp only [Rc, List.getElem?_take, List.getElem?_drop]
 split
 ·rw [if_pos (by omega)]; congr 1; omega
 ·rfl
theorem GQ (cur : Array Value) (o n m : Nat) (_ : o + n ≤ cur.size) : Rc cur o (n + m) = Rc cur o n ++ Rc cur (o + n) m := by
 simp only [Rc]
 rw [List.take_add]
 simp [qo]
theorem Taj (cur : Array Value) : Rc cur 0 cur.size = cur.toList := by simp [Rc, List.take_of_length_le]
def Bd : Ty → List Value → Value
 | .p _ _, cs => .agg cs.toArray
 | .u, cs => .agg cs.toArray
 | _, cs => cs.headD undef
def Ka (w : World) (O : Nat → Prop) : (τ : Ty) → T τ → List Value → Prop
 | .i k, n, cs => cs = [.int k n]
 | .b, x, cs => cs = [.bool x]
 | .o, x, cs => cs = [.slice x.1 x.2.1 x.2.2]
 | .mp k v, xs, cs => (cs = [.map none] ∧ xs = ([] : List (T k × T v))) ∨ ∃ r es clk, cs = [.map (some r)] ∧ ¬ O r ∧ w.heap[r]? = some (.map es clk) ∧ es.size = ja xs ∧
  ∀ i (h : i < ja xs), ∃ e ck cv, es[i]? = some e ∧ e.key = Bd k ck ∧ e.val = Bd v cv ∧ Ka w O k (List.get xs ⟨i, h⟩).1 ck ∧ Ka w O v (List.get xs ⟨i, h⟩).2 cv
 | .s, x, cs => cs = [.string ⟨qp x⟩]
 | .sl e, xs, cs => ∃ a cap, cs = [.slice a (ja xs) cap] ∧ ja xs ≤ cap ∧ ja xs ≤ Ph ∧
  (xs = ([] : List (T e)) ∨ ∃ bl off cur et fr, a = some ⟨bl, off, none⟩ ∧ ¬ O bl ∧ w.heap[bl]? = some (.cells cur et fr) ∧
   off + ja xs * e.size ≤ cur.size ∧
   ∀ i (h : i < ja xs), Ka w O e (List.get xs ⟨i, h⟩) (Rc cur (off + i * e.size) e.size))
 | .u, _, cs => cs = []
 | .p x y, v, cs => ∃ c1 c2, cs = c1 ++ c2 ∧ Ka w O x v.1 c1 ∧ Ka w O y v.2 c2
def Ob (w : World) : (τ : Ty) → T τ → List Value → List Nat → Prop
 | .i k, n, cs, F => cs = [.int k n] ∧ F = []
 | .b, x, cs, F => cs = [.bool x] ∧ F = []
 | .o, x, cs, F => cs = [.slice x.1 x.2.1 x.2.2] ∧ F = []
 | .mp k v, xs, cs, F => (cs = [.map none] ∧ xs = ([] : List (T k × T v)) ∧ F = []) ∨
  ∃ r es clk Fs, cs = [.map (some r)] ∧ w.heap[r]? = some (.map es clk) ∧ es.size = ja xs ∧ F = r :: List.flatten Fs ∧ ja Fs = ja xs ∧
   ∀ i (h : i < ja xs), ∃ e ck cv, es[i]? = some e ∧ e.key = Bd k ck ∧ e.val = Bd v cv ∧ Ob w k (List.get xs ⟨i, h⟩).1 ck [] ∧ Ob w v (List.get xs ⟨i, h⟩).2 cv (Fs.getD i [])
 | .s, x, cs, F => cs = [.string ⟨qp x⟩] ∧ F = []
 | .sl e, xs, cs, F => ja xs ≤ Ph ∧ ((cs = [.slice none 0 0] ∧ xs = ([] : List (T e)) ∧ F = []) ∨
  ∃ bl off cap cur et Fs, cs = [.slice (some ⟨bl, off, none⟩) (ja xs) cap] ∧ w.heap[bl]? = some (.cells cur et (0, 0)) ∧
   ja xs ≤ cap ∧ cap ≤ Ph ∧ off + cap * e.size ≤ cur.size ∧ F = bl :: List.flatten Fs ∧ ja Fs = ja xs ∧
   ∀ i (h : i < ja xs), Ob w e (List.get xs ⟨i, h⟩) (Rc cur (off + i * e.size) e.size) (Fs.getD i []))
 | .u, _, cs, F => cs = [] ∧ F = []
 | .p x y, v, cs, F => ∃ c1 c2 F1 F2, cs = c1 ++ c2 ∧ F = F1 ++ F2 ∧ Ob w x v.1 c1 F1 ∧ Ob w y v.2 c2 F2
theorem Ka.length {w : World} {O : Nat → Prop} : ∀ {τ : Ty} {x : T τ} {cs : List Value}, Ka w O τ x cs → cs.length = τ.size
 | .i _, _, _, h => by simp [Ka] at h; simp [h, Ty.size]
 | .b, _, _, h => by simp [Ka] at h; simp [h, Ty.size]
 | .o, _, _, h => by simp [Ka] at h; simp [h, Ty.size]
 | .mp _ _, _, _, h => by obtain ⟨h, _⟩ | ⟨r, es, clk, h, _⟩ := h <;> simp [h, Ty.size]
 | .s, _, _, h => by simp [Ka] at h; simp [h, Ty.size]
 | .sl _, _, _, h => by obtain ⟨a, cap, h, _⟩ := h; simp [h, Ty.size]
 | .u, _, _, h => by simp [Ka] at h; simp [h, Ty.size]
 | .p x y, _, _, h => by
  obtain ⟨c1, c2, h, h1, h2⟩ := h
  have e1 := Ka.length h1
  have e2 := Ka.length h2
  simp [h, Ty.size, e1, e2]
theorem Ka.weaken {w : World} {O O' : Nat → Prop} (hO : ∀ b, O' b → O b) : ∀ {τ : Ty} {x : T τ} {cs : List Value}, Ka w O τ x cs → Ka w O' τ x cs
 | .i _, _, _, h => h
 | .b, _, _, h => h
 | .o, _, _, h => h
 | .mp k v, xs, _, h => by
  obtain h | ⟨r, es, clk, h, hr, hh, hs, hv⟩ := h
  ·exact .inl h
  ·refine .inr ⟨r, es, clk, h, fun c => hr (hO _ c), hh, hs, fun i hi => ?_⟩
   obtain ⟨e, ck, cv, h1, h2, h3, h4, h5⟩ := hv i hi
   exact ⟨e, ck, cv, h1, h2, h3, Ka.weaken hO h4, Ka.weaken hO h5⟩
 | .s, _, _, h => h
 | .sl e, xs, _, h => by
  obtain ⟨a, cap, h, h1, h2, h3⟩ := h
  refine ⟨a, cap, h, h1, h2, h3.imp id ?_⟩
  rintro ⟨bl, off, cur, et, fr, ha, hb, hh, hs, hv⟩
  exact ⟨bl, off, cur, et, fr, ha, fun c => hb (hO _ c), hh, hs, fun i hi => Ka.weaken hO (hv i hi)⟩
 | .u, _, _, h => h
 | .p x y, _, _, h => by
  obtain ⟨c1, c2, h, h1, h2⟩ := h
  exact ⟨c1, c2, h, Ka.weaken hO h1, Ka.weaken hO h2⟩
theorem Ka.stable {w w' : World} {O O' : Nat → Prop} (hs : ∀ b, ¬ O b → b < w.heap.size → w'.heap[b]? = w.heap[b]?)
 (hO : ∀ b, b < w.heap.size → ¬ O b → ¬ O' b) :
 ∀ {τ : Ty} {x : T τ} {cs : List Value}, Ka w O τ x cs → Ka w' O' τ x cs
 | .i _, _, _, h => h
 | .b, _, _, h => h
 | .o, _, _, h => h
 | .mp k v, xs, _, h => by
  obtain h | ⟨r, es, clk, h, hr, hh, hz, hv⟩ := h
  ·exact .inl h
  ·have hlt : r < w.heap.size := (Array.getElem?_eq_some_iff.1 hh).1
   refine .inr ⟨r, es, clk, h, hO _ hlt hr, (hs r hr hlt).trans hh, hz, fun i hi => ?_⟩
   obtain ⟨e, ck, cv, h1, h2, h3, h4, h5⟩ := hv i hi
   exact ⟨e, ck, cv, h1, h2, h3, Ka.stable hs hO h4, Ka.stable hs hO h5⟩
 | .s, _, _, h => h
 | .sl e, xs, _, h => by
  obtain ⟨a, cap, h, h1, h2, h3⟩ := h
  refine ⟨a, cap, h, h1, h2, h3.imp id ?_⟩
  rintro ⟨bl, off, cur, et, fr, ha, hb, hh, hs', hv⟩
  have hlt : bl < w.heap.size := (Array.getElem?_eq_some_iff.1 hh).1
  exact ⟨bl, off, cur, et, fr, ha, hO _ hlt hb, (hs bl hb hlt).trans hh, hs', fun i hi => Ka.stable hs hO (hv i hi)⟩
 | .u, _, _, h => h
 | .p x y, _, _, h => by
  obtain ⟨c1, c2, h, h1, h2⟩ := h
  exact ⟨c1, c2, h, Ka.stable hs hO h1, Ka.stable hs hO h2⟩
theorem Ob.length {w : World} : ∀ {τ : Ty} {x : T τ} {cs : List Value} {F : List Nat}, Ob w τ x cs F → cs.length = τ.size
 | .i _, _, _, _, h => by simp [h.1, Ty.size]
 | .b, _, _, _, h => by simp [h.1, Ty.size]
 | .o, _, _, _, h => by simp [h.1, Ty.size]
 | .mp _ _, _, _, _, h => by obtain ⟨h, _⟩ | ⟨_, _, _, _, h, _⟩ := h <;> simp [h, Ty.size]
 | .s, _, _, _, h => by simp [h.1, Ty.size]
 | .sl _, _, _, _, h => by
  obtain ⟨_, ⟨h, _⟩ | ⟨_, _, _, _, _, _, h, _⟩⟩ := h <;> simp [h, Ty.size]
 | .u, _, _, _, h => by simp [h.1, Ty.size]
 | .p x y, _, _, _, h => by
  obtain ⟨c1, c2, F1, F2, h, _, h1, h2⟩ := h
  have e1 := Ob.length h1
  have e2 := Ob.length h2
  simp [h, Ty.size, e1, e2]
theorem Ke {Fs : List (List Nat)} {i : Nat} {b : Nat} (h : b ∈ Fs.getD i []) : b ∈ Fs.flatten := by
 rw [List.mem_flatten]
 rcases Nat.lt_or_ge i Fs.length with hi | hi
 ·exact ⟨Fs[i], qi hi, by simpa [qq, hi] using h⟩
 ·simp [qq, qr hi] at h
theorem Uh {Fs : List (List Nat)} {b : Nat} (h : b ∈ Fs.flatten) : ∃ i, i < Fs.length ∧ b ∈ Fs.getD i [] := by
 rw [List.mem_flatten] at h
 obtain ⟨l, hl, hb⟩ := h
 obtain ⟨i, hi, rfl⟩ := qs.1 hl
 exact ⟨i, hi, by simpa [qq, hi] using hb⟩
theorem Ob.lt {w : World} : ∀ {τ : Ty} {x : T τ} {cs : List Value} {F : List Nat}, Ob w τ x cs F → ∀ b, b ∈ F → b < w.heap.size
 | .i _, _, _, _, h, b, hb => by simp [h.2] at hb
 | .b, _, _, _, h, b, hb => by simp [h.2] at hb
 | .o, _, _, _, h, b, hb => by simp [h.2] at hb
 | .mp k v, xs, _, _, h, b, hb => by
  obtain ⟨_, _, h⟩ | ⟨r, es, clk, Fs, _, hh, _, hF, hl, hv⟩ := h
  ·simp [h] at hb
  ·subst hF
   cases jq.1 hb with
   | inl h => subst h; exact (Array.getElem?_eq_some_iff.1 hh).1
   | inr h =>
    obtain ⟨i, hi, hm⟩ := Uh h
    obtain ⟨e, ck, cv, _, _, _, _, h5⟩ := hv i (hl ▸ hi)
    exact Ob.lt h5 b hm
 | .s, _, _, _, h, b, hb => by simp [h.2] at hb
 | .sl e, xs, _, _, h, b, hb => by
  obtain ⟨_, ⟨_, _, h⟩ | ⟨bl, off, cap, cur, et, Fs, _, hh, _, _, _, hF, hl, hv⟩⟩ := h
  ·simp [h] at hb
  ·subst hF
   cases jq.1 hb with
   | inl h => subst h; exact (Array.getElem?_eq_some_iff.1 hh).1
   | inr h =>
    obtain ⟨i, hi, hm⟩ := Uh h
    exact Ob.lt (hv i (hl ▸ hi)) b hm
 | .u, _, _, _, h, b, hb => by simp [h.2] at hb
 | .p x y, _, _, _, h, b, hb => by
  obtain ⟨c1, c2, F1, F2, _, hF, h1, h2⟩ := h
  subst hF
  cases jm.1 hb with
  | inl h => exact Ob.lt h1 b h
  | inr h => exact Ob.lt h2 b h
theorem Ob.stable {w w' : World} : ∀ {τ : Ty} {x : T τ} {cs : List Value} {F : List Nat}, Ob w τ x cs F → (∀ b, b ∈ F → w'.heap[b]? = w.heap[b]?) → Ob w' τ x cs F
 | .i _, _, _, _, h, _ => h
 | .b, _, _, _, h, _ => h
 | .o, _, _, _, h, _ => h
 | .mp k v, xs, _, _, h, hs => by
  obtain h | ⟨r, es, clk, Fs, h1, hh, hz, hF, hl, hv⟩ := h
  ·exact .inl h
  ·subst hF
   refine .inr ⟨r, es, clk, Fs, h1, (hs r (by simp)).trans hh, hz, rfl, hl, fun i hi => ?_⟩
   obtain ⟨e, ck, cv, g1, g2, g3, g4, g5⟩ := hv i hi
   exact ⟨e, ck, cv, g1, g2, g3, Ob.stable g4 (fun b hb => by simp at hb), Ob.stable g5 fun b hb => hs b (js _ (Ke hb))⟩
 | .s, _, _, _, h, _ => h
 | .sl e, xs, _, _, h, hs => by
  obtain ⟨hm, h | ⟨bl, off, cap, cur, et, Fs, h1, hh, h2, h3, h4, hF, hl, hv⟩⟩ := h
  ·exact ⟨hm, .inl h⟩
  ·subst hF
   refine ⟨hm, .inr ⟨bl, off, cap, cur, et, Fs, h1, (hs bl (by simp)).trans hh, h2, h3, h4, rfl, hl, fun i hi => Ob.stable (hv i hi) fun b hb => hs b (js _ (Ke hb))⟩⟩
 | .u, _, _, _, h, _ => h
 | .p x y, _, _, _, h, hs => by
  obtain ⟨c1, c2, F1, F2, h0, hF, h1, h2⟩ := h
  subst hF
  exact ⟨c1, c2, F1, F2, h0, rfl, Ob.stable h1 fun b hb => hs b (qt _ hb), Ob.stable h2 fun b hb => hs b (qu _ hb)⟩
theorem Ob.view {w : World} {O : Nat → Prop} : ∀ {τ : Ty} {x : T τ} {cs : List Value} {F : List Nat}, Ob w τ x cs F → (∀ b, b ∈ F → ¬ O b) → Ka w O τ x cs
 | .i _, _, _, _, h, _ => h.1
 | .b, _, _, _, h, _ => h.1
 | .o, _, _, _, h, _ => h.1
 | .mp k v, xs, _, _, h, hO => by
  obtain ⟨h1, h2, _⟩ | ⟨r, es, clk, Fs, h1, hh, hz, hF, hl, hv⟩ := h
  ·exact .inl ⟨h1, h2⟩
  ·subst hF
   refine .inr ⟨r, es, clk, h1, hO r (by simp), hh, hz, fun i hi => ?_⟩
   obtain ⟨e, ck, cv, g1, g2, g3, g4, g5⟩ := hv i hi
   exact ⟨e, ck, cv, g1, g2, g3, Ob.view g4 (fun b hb => by simp at hb), Ob.view g5 fun b hb => hO b (js _ (Ke hb))⟩
 | .s, _, _, _, h, _ => h.1
 | .sl e, xs, _, _, h, hO => by
  obtain ⟨hm, ⟨h, hx, _⟩ | ⟨bl, off, cap, cur, et, Fs, h1, hh, h2, h3, h4, hF, hl, hv⟩⟩ := h
  ·subst hx; exact ⟨none, 0, h, jp _, hm, .inl rfl⟩
  ·subst hF
   refine ⟨_, cap, h1, h2, hm, .inr ⟨bl, off, cur, et, _, rfl, hO bl (by simp), hh, ?_, fun i hi => Ob.view (hv i hi) fun b hb => hO b (js _ (Ke hb))⟩⟩
   have := jn e.size h2
   omega
 | .u, _, _, _, h, _ => h.1
 | .p x y, _, _, _, h, hO => by
  obtain ⟨c1, c2, F1, F2, h0, hF, h1, h2⟩ := h
  subst hF
  exact ⟨c1, c2, h0, Ob.view h1 fun b hb => hO b (qt _ hb), Ob.view h2 fun b hb => hO b (qu _ hb)⟩
theorem Ka.flat {w w' : World} {O : Nat → Prop} : ∀ {τ : Ty} {x : T τ} {cs : List Value}, Ka w O τ x cs → τ.flat = true → Ob w' τ x cs []
 | .i _, _, _, h, _ => ⟨h, rfl⟩
 | .b, _, _, h, _ => ⟨h, rfl⟩
 | .o, _, _, h, _ => ⟨h, rfl⟩
 | .mp _ _, _, _, _, hf => by simp [Ty.flat] at hf
 | .s, _, _, h, _ => ⟨h, rfl⟩
 | .sl e, xs, _, _, hf => by simp [Ty.flat] at hf
 | .u, _, _, h, _ => ⟨h, rfl⟩
 | .p x y, _, _, h, hf => by
  obtain ⟨c1, c2, h0, h1, h2⟩ := h
  simp only [Ty.flat, jd] at hf
  exact ⟨c1, c2, [], [], h0, rfl, Ka.flat h1 hf.1, Ka.flat h2 hf.2⟩
inductive D where
 | und
 | anyv
 | t (τ : Ty) (x : T τ)
 | nil
 | own (id : Nat)
 | mpo (id : Nat)
 | cut (id lo hi : Nat)
 | ptr (id : Nat) (path : List Nat)
 | eptr (id : Nat) (i : Nat) (path : List Nat)
 | rp (τ : Ty) (x : T τ)
 | pr (a b : D)
 | un
 | tup (d : D)
def Ty.dec : (x y : Ty) → Option (PLift (x = y))
 | .i k, .i k' => if h : k = k' then some ⟨by rw [h]⟩ else none
 | .b, .b => some ⟨rfl⟩
 | .o, .o => some ⟨rfl⟩
 | .s, .s => some ⟨rfl⟩
 | .u, .u => some ⟨rfl⟩
 | .sl v, .sl w => match Ty.dec v w with
  | some ⟨h⟩ => some ⟨by rw [h]⟩
  | none => none
 | .p v v', .p w w' => match Ty.dec v w, Ty.dec v' w' with
  | some ⟨h⟩, some ⟨g⟩ => some ⟨by rw [h, g]⟩
  | _, _ => none
 | .mp v v', .mp w w' => match Ty.dec v w, Ty.dec v' w' with
  | some ⟨h⟩, some ⟨g⟩ => some ⟨by rw [h, g]⟩
  | _, _ => none
 | _, _ => none
def Zg : (e : Ty) → T e → List Nat → (τ : Ty) → T τ → Option (T e)
 | e, _, [], τ, y => match Ty.dec τ e with
  | some ⟨h⟩ => some (h ▸ y)
  | none => none
 | .p a _, v, 0 :: p, τ, y => match Zg a v.1 p τ y with
  | some u => some (u, v.2)
  | none => none
 | .p _ c, v, (n + 1) :: p, τ, y => match Zg c v.2 (n :: p) τ y with
  | some u => some (v.1, u)
  | none => none
 | _, _, _, _, _ => none
inductive Ja where
 | box (ρ : Ty) (d : D)
 | row (e : Ty) (deep : Bool) (xs : List (T e))
 | hol (e : Ty) (xs : List (T e)) (i : Nat) (x : T e) (path : List Nat) (τ : Ty) (d : D)
 | mov (e : Ty) (xs : List (T e)) (k : Nat)
 | mp (k v : Ty) (xs : List (T k × T v))
 | mq (kk : IntKind) (e : Ty) (xs : List (Int × List (T e)))
 | mx (k v : Ty) (xs : List (T k × T v))
 | fz (e : Ty) (xs : List (T e))
def Ja.rowN : Ja → Option (Ty × Nat)
 | .box _ _ => none
 | .row e _ xs => some (e, ja xs)
 | .hol e xs _ _ _ _ _ => some (e, ja xs)
 | .mov e xs _ => some (e, ja xs)
 | .mp _ _ _ => none
 | .mq _ _ _ => none
 | .mx _ _ _ => none
 | .fz e xs => some (e, ja xs)
def Ja.isM : Ja → Bool
 | .mp _ _ _ | .mq _ _ _ | .mx _ _ _ => true
 | _ => false
def Eb {α : Type} : List (Nat × α) → Nat → Option α
 | [], _ => none
 | (j, a) :: r, k => bif qv j k then some a else Eb r k
theorem Vb {α : Type} (j k : Nat) (a : α) (r : List (Nat × α)) : Eb ((j, a) :: r) k = if j = k then some a else Eb r k := by
 simp only [Eb]
 by_cases h : j = k
 ·subst h; simp
 ·have : qv j k = false := by rw [← qa]; intro e; exact h (jv e)
  simp [this, h]
structure AS where
 n : Nat
 tm : List (Nat × D)
 hp : List (Nat × Option Ja)
def AS.heap (s : AS) (id : Nat) : Option Ja := (Eb s.hp id).join
def Pb (cs : List Value) (o : Nat) (ce : List Value) : List Value := cs.take o ++ ce ++ cs.drop (o + ce.length)
def Oa : Ty → Nat → Option Ty
 | .p x _, 0 => some x
 | .p _ y, n + 1 => Oa y n
 | _, _ => none
def Bc : Ty → Nat → Nat
 | .p _ _, 0 => 0
 | .p x y, n + 1 => x.size + Bc y n
 | _, _ => 0
def Ee : Ty → List Nat → Option Ty
 | τ, [] => some τ
 | τ, f :: p => (Oa τ f).bind fun τ' => Ee τ' p
def Db : Ty → List Nat → Nat
 | _, [] => 0
 | τ, f :: p => Bc τ f + ((Oa τ f).map fun τ' => Db τ' p).getD 0
def D.ment (id : Nat) : D → Bool
 | .own j | .mpo j | .ptr j _ | .eptr j _ _ | .cut j _ _ => qv j id
 | .pr a b => a.ment id || b.ment id
 | .tup d => d.ment id
 | _ => false
def Ja.ment (id : Nat) : Ja → Bool
 | .box _ d => d.ment id
 | .row _ _ _ => false
 | .hol _ _ _ _ _ _ d => d.ment id
 | .mov _ _ _ => false
 | .mp _ _ _ => false
 | .mq _ _ _ => false
 | .mx _ _ _ => false
 | .fz _ _ => false
def AS.ment (s : AS) (id : Nat) : Bool := (s.tm.any fun x => x.2.ment id) || (s.hp.any fun x => (x.2.map (Ja.ment id)).getD false)
def Ab : Ty → D → Prop
 | τ, .t τ' _ => τ' = τ
 | .sl _, .nil => True
 | .sl _, .own _ => True
 | .sl _, .cut _ _ _ => True
 | .mp _ _, .mpo _ => True
 | .p x y, .pr a b => Ab x a ∧ Ab y b
 | .u, .un => True
 | _, _ => False
section
variable (w : World) (O : Nat → Prop) (hp : Nat → Option Ja) (σ : Nat → Value)
def Wa : D → List Value → Prop
 | .und, _ => False
 | .anyv, _ => False
 | .t τ x, cs => Ka w O τ x cs
 | .nil, cs => cs = [.slice none 0 0]
 | .own id, cs => ∃ v, cs = [v] ∧ v.oneCell' = true ∧ ∀ Da r, hp id = some Da → Da.rowN = some r → v = σ id
 | .mpo id, cs => ∃ v, cs = [v] ∧ v.oneCell' = true ∧ ∀ Da, hp id = some Da → Da.isM = true → v = σ id
 | .cut id lo hi, cs => ∃ v, cs = [v] ∧ v.oneCell' = true ∧ ∀ Da e n, hp id = some Da → Da.rowN = some (e, n) → lo ≤ hi ∧ hi ≤ n ∧
  ∃ ad cap j, σ id = .slice ad n cap ∧ n ≤ cap ∧ j ≤ lo ∧ (lo < cap → j = lo) ∧ v = .slice (ad.map (·.add (j * e.size))) (hi - lo) (cap - lo)
 | .ptr id path, cs => ∃ v, cs = [v] ∧ v.oneCell' = true ∧ ∀ ρ d, hp id = some (.box ρ d) → ∃ b, σ id = .pointer (some ⟨b, 0, none⟩) ∧ v = .pointer (some ⟨b, Db ρ path, none⟩)
 | .eptr id i path, cs => ∃ v, cs = [v] ∧ v.oneCell' = true ∧ ∀ Da e n, hp id = some Da → Da.rowN = some (e, n) → i < n ∧
  ∃ b off cap, σ id = .slice (some ⟨b, off, none⟩) n cap ∧ v = .pointer (some ⟨b, off + i * e.size + Db e path, none⟩)
 | .rp τ x, cs => ∃ b off cur et fr, cs = [.pointer (some ⟨b, off, none⟩)] ∧ ¬ O b ∧ w.heap[b]? = some (.cells cur et fr) ∧ off + τ.size ≤ cur.size ∧ Ka w O τ x (Rc cur off τ.size)
 | .pr a b, cs => ∃ c1 c2, cs = c1 ++ c2 ∧ Wa a c1 ∧ Wa b c2
 | .un, cs => cs = []
 | .tup _, _ => False
def D.isAgg : D → Bool
 | .t (.p _ _) _ | .t .u _ | .pr _ _ | .un => true
 | _ => false
def Ae (d : D) (v : Value) : Prop :=
 if d.isAgg then ∃ cs : Array Value, v = .agg cs ∧ Wa w O hp σ d cs.toList else Wa w O hp σ d [v]
def Wf : D → List Value → Prop
 | .pr a b, v :: vs => Ae w O hp σ a v ∧ Wf b vs
 | .un, [] => True
 | _, _ => False
def Nc (d : D) (v : Value) : Prop :=
 match d with
 | .tup ds => ∃ vs : Array Value, v = .tuple vs ∧ Wf w O hp σ ds vs.toList
 | .und => v = undef
 | .anyv => True
 | d => Ae w O hp σ d v
def Ec (id : Nat) : Ja → List Nat → Prop
 | .box ρ d, F => Ab ρ d ∧ ∃ b cur et, σ id = .pointer (some ⟨b, 0, none⟩) ∧ w.heap[b]? = some (.cells cur et (0, 0)) ∧ F = [b] ∧ Wa w O hp σ d cur.toList ∧ cur.size = ρ.size
 | .row e true xs, F => Ob w (.sl e) xs [σ id] F
 | .row e false xs, F => ja xs ≤ Ph ∧ ((σ id = .slice none 0 0 ∧ xs = ([] : List (T e)) ∧ F = []) ∨
  ∃ bl off cap cur et, σ id = .slice (some ⟨bl, off, none⟩) (ja xs) cap ∧ w.heap[bl]? = some (.cells cur et (0, 0)) ∧
   ja xs ≤ cap ∧ cap ≤ Ph ∧ off + cap * e.size ≤ cur.size ∧ F = [bl] ∧
   ∀ i (h : i < ja xs), Ka w O e (List.get xs ⟨i, h⟩) (Rc cur (off + i * e.size) e.size))
 | .hol e xs i x path τ d, F => Ab τ d ∧ xs[i]? = some x ∧ Ee e path = some τ ∧ (∀ b, b ∈ F → b < w.heap.size) ∧
  ∃ bl off cap cur et, σ id = .slice (some ⟨bl, off, none⟩) (ja xs) cap ∧ w.heap[bl]? = some (.cells cur et (0, 0)) ∧ bl ∈ F ∧ off + i * e.size + e.size ≤ cur.size ∧
   Wa w O hp σ d (Rc cur (off + i * e.size + Db e path) τ.size) ∧
   ∀ (w' : World) (c' : List Value), c'.length = τ.size → (∀ b, b ∈ F → b ≠ bl → w'.heap[b]? = w.heap[b]?) →
    w'.heap[bl]? = some (.cells (Pb cur.toList (off + i * e.size + Db e path) c').toArray et (0, 0)) →
    ∀ (y : T τ) (Fy : List Nat) (x' : T e), Ob w' τ y c' Fy → Zg e x path τ y = some x' → ∃ F', F'.Perm (F ++ Fy) ∧ Ob w' (.sl e) (j7 xs i x') [σ id] F'
 | .mov e xs k, F => ja xs ≤ Ph ∧ ((σ id = .slice none 0 0 ∧ xs = ([] : List (T e)) ∧ F = []) ∨
  ∃ bl off cap cur et Fs, σ id = .slice (some ⟨bl, off, none⟩) (ja xs) cap ∧ w.heap[bl]? = some (.cells cur et (0, 0)) ∧
   ja xs ≤ cap ∧ cap ≤ Ph ∧ off + cap * e.size ≤ cur.size ∧ F = bl :: List.flatten Fs ∧ ja Fs = ja xs ∧
   (∀ i (h : i < ja xs), k ≤ i → Ob w e (List.get xs ⟨i, h⟩) (Rc cur (off + i * e.size) e.size) (Fs.getD i [])) ∧ ∀ i, i < k → Fs.getD i [] = [])
 | .mp k v xs, F => ∃ r es clk, σ id = .map (some r) ∧ w.heap[r]? = some (.map es clk) ∧ F = [r] ∧ es.size = ja xs ∧
  ∀ i (h : i < ja xs), ∃ e ck cv, es[i]? = some e ∧ e.key = Bd k ck ∧ e.val = Bd v cv ∧ Ka w O k (List.get xs ⟨i, h⟩).1 ck ∧ Ka w O v (List.get xs ⟨i, h⟩).2 cv
 | .mq _ _ xs, F => ∃ r es clk, σ id = .map (some r) ∧ w.heap[r]? = some (.map es clk) ∧ F = [r] ∧ es.size = ja xs
 | .mx k v xs, F => Ob w (.mp k v) xs [σ id] F
 | .fz e xs, F => F = [] ∧ Ka w O (.sl e) xs [σ id]
end
def AW (w : World) (n0 : Nat) (O : Nat → Prop) (v : Value) (kk : IntKind) (e : Ty) (xs : List (Int × List (T e))) : Prop :=
 ∃ r es clk Gs, v = .map (some r) ∧ w.heap[r]? = some (.map es clk) ∧ es.size = ja xs ∧ ja Gs = ja xs ∧ (List.flatten Gs).Nodup ∧
  (∀ b, b ∈ List.flatten Gs → n0 ≤ b ∧ ¬ O b) ∧
  ∀ i (h : i < ja xs), ∃ en, es[i]? = some en ∧ en.key = .int kk (List.get xs ⟨i, h⟩).1 ∧ Ob w (.sl e) (List.get xs ⟨i, h⟩).2 [en.val] (Gs.getD i [])
theorem AW.stable {w w' : World} {n0 : Nat} {O O' : Nat → Prop} {v : Value} {kk : IntKind} {e : Ty} {xs : List (Int × List (T e))} (hv : ∀ b, ¬ O b → b < w.heap.size → w'.heap[b]? = w.heap[b]?) (hO : ∀ b, b < w.heap.size → ¬ O b → ¬ O' b)
 (hr : ∀ r, v = .map (some r) → w'.heap[r]? = w.heap[r]?) (h : AW w n0 O v kk e xs) : AW w' n0 O' v kk e xs := by
 obtain ⟨r, es, clk, Gs, h1, h2, h3, h4, h5, h6, h7⟩ := h
 have hlt : ∀ b, b ∈ List.flatten Gs → b < w.heap.size := fun b hb => by
  obtain ⟨i, hi, hm⟩ := Uh hb
  obtain ⟨en, _, _, ho⟩ := h7 i (h4 ▸ hi)
  exact ho.lt b hm
 refine ⟨r, es, clk, Gs, h1, (hr r h1).trans h2, h3, h4, h5, fun b hb => ⟨(h6 b hb).1, hO b (hlt b hb) (h6 b hb).2⟩, fun i hi => ?_⟩
 obtain ⟨en, g1, g2, g3⟩ := h7 i hi
 exact ⟨en, g1, g2, g3.stable fun b hb => hv b (h6 b (Ke hb)).2 (hlt b (Ke hb))⟩
structure Ei where
 base : Nat
 p : World → Prop
 st : ∀ w w' : World, (∀ b, b < base → w'.heap[b]? = w.heap[b]?) → p w → p w'
structure Fx where
 A : Nat → Prop
 pin : Nat → Option Value
 low : ∀ id v, pin id = some v → 500000 ≤ id
 I : Ei
 avoid : ∀ b, A b → I.base ≤ b
structure Fr (n0 : Nat) (A : Nat → Prop) (w0 w : World) : Prop where
 os : w.os = w0.os
 tape : w.tape = w0.tape
 output : w.output = w0.output
 size : n0 ≤ w.heap.size
 block : ∀ b, b < n0 → ¬ A b → w.heap[b]? = w0.heap[b]?
def OO (O0 : Nat → Prop) (s : AS) (φ : Nat → List Nat) (b : Nat) : Prop := O0 b ∨ ∃ id Da, s.heap id = some Da ∧ b ∈ φ id
structure Ra (n0 : Nat) (A : Fx) (O0 : Nat → Prop) (w0 : World) (s : AS) (σ : Nat → Value) (φ : Nat → List Nat) (a : Act) (w : World) : Prop where
 sz : a.tmps.size = s.n
 df : a.defers = []
 tm : ∀ t d, Eb s.tm t = some d → ∃ v, a.tmps[t]? = some v ∧ Nc w (OO O0 s φ) s.heap σ d v
 hp : ∀ id Da, s.heap id = some Da → Ec w (OO O0 s φ) s.heap σ id Da (φ id)
 nodup : ∀ id Da, s.heap id = some Da → (φ id).Nodup
 disj : ∀ id id' Da blk', id ≠ id' → s.heap id = some Da → s.heap id' = some blk' → ∀ b, b ∈ φ id → b ∉ φ id'
 fresh : ∀ id Da, s.heap id = some Da → ∀ b, b ∈ φ id → n0 ≤ b ∨ A.A b
 o0 : ∀ b, O0 b → b < n0
 fr : Fr n0 A.A w0 w
 pin : ∀ id v, A.pin id = some v → σ id = v
 iv0 : A.I.base ≤ n0
 ivw : A.I.p w0
 shr : ∀ id kk e xs, s.heap id = some (.mq kk e xs) → AW w n0 (OO O0 s φ) (σ id) kk e xs
theorem Ra.iv {n0 : Nat} {A : Fx} {O0 : Nat → Prop} {w0 w : World} {s : AS} {σ : Nat → Value} {φ : Nat → List Nat} {a : Act} (h : Ra n0 A O0 w0 s σ φ a w) : A.I.p w :=
 A.I.st w0 w (fun b hb => h.fr.block b (Nat.lt_of_lt_of_le hb h.iv0) fun hA => by have := A.avoid b hA; omega) h.ivw
theorem Ra.ivb {n0 : Nat} {A : Fx} {O0 : Nat → Prop} {w0 w : World} {s : AS} {σ : Nat → Value} {φ : Nat → List Nat} {a : Act} (h : Ra n0 A O0 w0 s σ φ a w) {id : Nat} {Da : Ja} (hb : s.heap id = some Da) {b : Nat} (hm : b ∈ φ id) : A.I.base ≤ b := by
 rcases h.fresh id Da hb b hm with h1 | h1
 ·exact qb h.iv0 h1
 ·exact A.avoid b h1
def Ja.like : Ja → Ja → Prop
 | .box ρ _, .box ρ' _ => ρ = ρ'
 | .row e _ xs, .row e' _ xs' => e = e' ∧ ja xs = ja xs'
 | .row e _ xs, .hol e' xs' _ _ _ _ _ => e = e' ∧ ja xs = ja xs'
 | .hol e xs _ _ _ _ _, .row e' _ xs' => e = e' ∧ ja xs = ja xs'
 | .hol e xs _ _ _ _ _, .hol e' xs' _ _ _ _ _ => e = e' ∧ ja xs = ja xs'
 | .row e _ xs, .mov e' xs' _ => e = e' ∧ ja xs = ja xs'
 | .mov e xs _, .mov e' xs' _ => e = e' ∧ ja xs = ja xs'
 | .mp k v _, .mp k' v' _ => k = k' ∧ v = v'
 | .mq k e _, .mq k' e' _ => k = k' ∧ e = e'
 | .mx k e _, .mx k' e' _ => k = k' ∧ e = e'
 | .row e _ xs, .fz e' xs' => e = e' ∧ ja xs = ja xs'
 | .fz e xs, .fz e' xs' => e = e' ∧ ja xs = ja xs'
 | _, _ => False
theorem Ja.like_refl (b : Ja) : b.like b := by cases b <;> simp [Ja.like]
theorem Ja.like_rowN {a b : Ja} {r : Ty × Nat} (h : a.like b) (hr : b.rowN = some r) : a.rowN = some r := by
 cases a <;> cases b <;> simp_all [Ja.like, Ja.rowN]
theorem Ja.like_isM {a b : Ja} (h : a.like b) (hr : b.isM = true) : a.isM = true := by
 cases a <;> cases b <;> simp_all [Ja.like, Ja.isM]
theorem Wt {α : Type} {l : List (Nat × α)} {k : Nat} {a : α} (h : Eb l k = some a) : (k, a) ∈ l := by
 induction l with
 | nil => simp [Eb] at h
 | cons x r ih =>
  obtain ⟨j, b⟩ := x
  rw [Vb] at h
  split at h
  ·rename_i hj; subst hj; simp at h; simp [h]
  ·exact js _ (ih h)
theorem AS.heap_mem {s : AS} {id : Nat} {b : Ja} (h : s.heap id = some b) : (id, some b) ∈ s.hp := by
 unfold AS.heap at h
 cases hh : Eb s.hp id with
 | none => simp [hh] at h
 | some o => simp [hh] at h; subst h; exact Wt hh
theorem AS.ment_heap {s : AS} {id j : Nat} {b : Ja} (h : s.heap j = some b) (hm : b.ment id = true) : s.ment id = true := by
 unfold AS.ment
 have := AS.heap_mem h
 simp only [qw, List.any_eq_true]
 exact .inr ⟨_, this, by simpa using hm⟩
theorem AS.ment_tm {s : AS} {id t : Nat} {d : D} (h : Eb s.tm t = some d) (hm : d.ment id = true) : s.ment id = true := by
 unfold AS.ment
 simp only [qw, List.any_eq_true]
 exact .inl ⟨_, Wt h, hm⟩
section
variable {w w' : World} {O O' : Nat → Prop} {hp hp' : Nat → Option Ja} {σ σ' : Nat → Value}
def Cp (hp hp' : Nat → Option Ja) (σ σ' : Nat → Value) (id : Nat) : Prop :=
 ∀ blk', hp' id = some blk' → ∃ Da, hp id = some Da ∧ Da.like blk' ∧ σ' id = σ id
theorem Wa.stable (hv : ∀ b, ¬ O b → b < w.heap.size → w'.heap[b]? = w.heap[b]?) (hO : ∀ b, b < w.heap.size → ¬ O b → ¬ O' b) :
 ∀ (d : D) (cs : List Value), (∀ id, d.ment id = true → Cp hp hp' σ σ' id) → Wa w O hp σ d cs → Wa w' O' hp' σ' d cs
 | .und, cs, _, h => h
 | .anyv, cs, _, h => h
 | .t τ x, cs, _, h => Ka.stable hv hO h
 | .nil, cs, _, h => h
 | .own id, cs, hc, h => by
  obtain ⟨v, hcs, h1c, h⟩ := h
  refine ⟨v, hcs, h1c, fun blk' r he hr => ?_⟩
  obtain ⟨Da, hb, hl, hs⟩ := hc id (by simp [D.ment]) _ he
  rw [hs]; exact h _ _ hb (Ja.like_rowN hl hr)
 | .ptr id path, cs, hc, h => by
  obtain ⟨v, hcs, h1c, h⟩ := h
  refine ⟨v, hcs, h1c, fun ρ d he => ?_⟩
  obtain ⟨Da, hb, hl, hs⟩ := hc id (by simp [D.ment]) _ he
  cases Da with
  | box ρ' d' => simp [Ja.like] at hl; subst hl; rw [hs]; exact h _ _ hb
  | row => simp [Ja.like] at hl
  | hol => simp [Ja.like] at hl
  | mov => simp [Ja.like] at hl
  | mp => simp [Ja.like] at hl
  | mq => simp [Ja.like] at hl
  | mx => simp [Ja.like] at hl
  | fz => simp [Ja.like] at hl
 | .mpo id, cs, hc, h => by
  obtain ⟨v, hcs, h1c, h⟩ := h
  refine ⟨v, hcs, h1c, fun blk' he hm => ?_⟩
  obtain ⟨Da, hb, hl, hs⟩ := hc id (by simp [D.ment]) _ he
  rw [hs]; exact h _ hb (Ja.like_isM hl hm)
 | .cut id lo hi, cs, hc, h => by
  obtain ⟨v, hcs, h1c, h⟩ := h
  refine ⟨v, hcs, h1c, fun blk' e n he hr => ?_⟩
  obtain ⟨Da, hb, hl, hs⟩ := hc id (by simp [D.ment]) _ he
  rw [hs]; exact h _ _ _ hb (Ja.like_rowN hl hr)
 | .eptr id i path, cs, hc, h => by
  obtain ⟨v, hcs, h1c, h⟩ := h
  refine ⟨v, hcs, h1c, fun blk' e n he hr => ?_⟩
  obtain ⟨Da, hb, hl, hs⟩ := hc id (by simp [D.ment]) _ he
  rw [hs]; exact h _ _ _ hb (Ja.like_rowN hl hr)
 | .rp τ x, cs, _, h => by
  obtain ⟨b, off, cur, et, fr, hcs, hb, hh, hs, hvw⟩ := h
  have hlt : b < w.heap.size := (Array.getElem?_eq_some_iff.1 hh).1
  exact ⟨b, off, cur, et, fr, hcs, hO _ hlt hb, (hv _ hb hlt).trans hh, hs, Ka.stable hv hO hvw⟩
 | .pr a b, cs, hc, h => by
  obtain ⟨c1, c2, h0, h1, h2⟩ := h
  exact ⟨c1, c2, h0, Wa.stable hv hO a c1 (fun id hi => hc id (by simp [D.ment, hi])) h1,
   Wa.stable hv hO b c2 (fun id hi => hc id (by simp [D.ment, hi])) h2⟩
 | .un, cs, _, h => h
 | .tup d, cs, _, h => h
theorem Ae.stable (hv : ∀ b, ¬ O b → b < w.heap.size → w'.heap[b]? = w.heap[b]?) (hO : ∀ b, b < w.heap.size → ¬ O b → ¬ O' b)
 (d : D) (v : Value) (hc : ∀ id, d.ment id = true → Cp hp hp' σ σ' id) (h : Ae w O hp σ d v) : Ae w' O' hp' σ' d v := by
 unfold Ae at *
 split
 ·rename_i ha
  simp only [ha, if_true] at h
  obtain ⟨cs, h1, h2⟩ := h
  exact ⟨cs, h1, Wa.stable hv hO d _ hc h2⟩
 ·rename_i ha
  simp only [ha, if_false, jr] at h
  exact Wa.stable hv hO d _ hc h
theorem Wf.stable (hv : ∀ b, ¬ O b → b < w.heap.size → w'.heap[b]? = w.heap[b]?) (hO : ∀ b, b < w.heap.size → ¬ O b → ¬ O' b) :
 ∀ (d : D) (vs : List Value) (_ : ∀ id, d.ment id = true → Cp hp hp' σ σ' id) (_ : Wf w O hp σ d vs), Wf w' O' hp' σ' d vs
 | .pr a b, v :: vs, hc, h => ⟨Ae.stable hv hO a v (fun id hi => hc id (by simp [D.ment, hi])) h.1,
  Wf.stable hv hO b vs (fun id hi => hc id (by simp [D.ment, hi])) h.2⟩
 | .un, [], _, _ => trivial
 | .pr _ _, [], _, h => h.elim
 | .un, _ :: _, _, h => h.elim
 | .und, _, _, h => by simp [Wf] at h
 | .anyv, _, _, h => by simp [Wf] at h
 | .t _ _, _, _, h => by simp [Wf] at h
 | .nil, _, _, h => by simp [Wf] at h
 | .own _, _, _, h => by simp [Wf] at h
 | .mpo _, _, _, h => by simp [Wf] at h
 | .cut _ _ _, _, _, h => by simp [Wf] at h
 | .ptr _ _, _, _, h => by simp [Wf] at h
 | .eptr _ _ _, _, _, h => by simp [Wf] at h
 | .rp _ _, _, _, h => by simp [Wf] at h
 | .tup _, _, _, h => by simp [Wf] at h
theorem Nc.stable (hv : ∀ b, ¬ O b → b < w.heap.size → w'.heap[b]? = w.heap[b]?) (hO : ∀ b, b < w.heap.size → ¬ O b → ¬ O' b)
 (d : D) (v : Value) (hc : ∀ id, d.ment id = true → Cp hp hp' σ σ' id) (h : Nc w O hp σ d v) : Nc w' O' hp' σ' d v := by
 cases d with
 | tup ds =>
  obtain ⟨vs, h1, h2⟩ := h
  exact ⟨vs, h1, Wf.stable hv hO ds _ hc h2⟩
 | und => exact h
 | anyv => exact h
 | _ => exact Ae.stable hv hO _ v hc h
theorem Ec.lt {id : Nat} {Da : Ja} {F : List Nat} (h : Ec w O hp σ id Da F) : ∀ b, b ∈ F → b < w.heap.size := by
 intro b hb
 cases Da with
 | box ρ d =>
  obtain ⟨_, bb, cur, et, _, hh, hF, _⟩ := h
  subst hF
  simp at hb; subst hb
  exact (Array.getElem?_eq_some_iff.1 hh).1
 | row e dp xs =>
  cases dp with
  | true => exact Ob.lt h b hb
  | false =>
   obtain ⟨_, ⟨_, _, hF⟩ | ⟨bl, off, cap, cur, et, _, hh, _, _, _, hF, _⟩⟩ := h
   ·subst hF; simp at hb
   ·subst hF
    simp at hb; subst hb
    exact (Array.getElem?_eq_some_iff.1 hh).1
 | hol e xs i x path τ d => exact h.2.2.2.1 b hb
 | mov e xs k =>
  obtain ⟨_, ⟨_, _, hF⟩ | ⟨bl, off, cap, cur, et, Fs, _, hh, _, _, _, hF, hl, hv, hk⟩⟩ := h
  ·subst hF; simp at hb
  ·subst hF
   rcases jq.1 hb with rfl | hb
   ·exact (Array.getElem?_eq_some_iff.1 hh).1
   ·obtain ⟨i, hi, hbi⟩ := Uh hb
    rw [hl] at hi
    rcases Nat.lt_or_ge i k with hik | hik
    ·rw [hk i hik] at hbi; simp at hbi
    ·exact (hv i hi hik).lt b hbi
 | mp k v xs =>
  obtain ⟨r, es, clk, _, hh, hF, _⟩ := h
  subst hF
  simp at hb; subst hb
  exact (Array.getElem?_eq_some_iff.1 hh).1
 | mq kk e xs =>
  obtain ⟨r, es, clk, _, hh, hF, _⟩ := h
  subst hF
  simp at hb; subst hb
  exact (Array.getElem?_eq_some_iff.1 hh).1
 | mx kk e xs => exact Ob.lt h b hb
 | fz e xs => rw [h.1] at hb; simp at hb
theorem Ec.stable (hv : ∀ b, ¬ O b → b < w.heap.size → w'.heap[b]? = w.heap[b]?) (hO : ∀ b, b < w.heap.size → ¬ O b → ¬ O' b)
 {id : Nat} {Da : Ja} {F : List Nat} (hF : ∀ b, b ∈ F → w'.heap[b]? = w.heap[b]?) (hσ : σ' id = σ id)
 (hc : ∀ j, Da.ment j = true → Cp hp hp' σ σ' j) (h : Ec w O hp σ id Da F) : Ec w' O' hp' σ' id Da F := by
 cases Da with
 | box ρ d =>
  obtain ⟨h0, bb, cur, et, h1, hh, hF', h2, h3⟩ := h
  subst hF'
  exact ⟨h0, bb, cur, et, hσ.trans h1, (hF bb (by simp)).trans hh, rfl, Wa.stable hv hO d _ hc h2, h3⟩
 | row e dp xs =>
  cases dp with
  | true =>
   simp only [Ec] at h ⊢
   rw [hσ]
   exact Ob.stable h hF
  | false =>
   obtain ⟨hm, ⟨h1, h2, h3⟩ | ⟨bl, off, cap, cur, et, h1, hh, h2, h3, h4, hF', hvw⟩⟩ := h
   ·exact ⟨hm, .inl ⟨hσ.trans h1, h2, h3⟩⟩
   ·subst hF'
    exact ⟨hm, .inr ⟨bl, off, cap, cur, et, hσ.trans h1, (hF bl (by simp)).trans hh, h2, h3, h4, rfl, fun i hi => Ka.stable hv hO (hvw i hi)⟩⟩
 | hol e xs i x path τ d =>
  obtain ⟨h1, h2, h3, h4, bl, off, cap, cur, et, h5, h8, h9, h10, h6, h7⟩ := h
  refine ⟨h1, h2, h3, fun b hb => ?_, bl, off, cap, cur, et, hσ.trans h5, (hF bl h9).trans h8, h9, h10, Wa.stable hv hO d _ hc h6, fun w2 c' hl hw2 hbl y Fy x' hy hs => ?_⟩
  ·have := hF b hb
   rw [Array.getElem?_eq_getElem (h4 b hb)] at this
   exact (Array.getElem?_eq_some_iff.1 this).1
  ·obtain ⟨F', p1, p2⟩ := h7 w2 c' hl (fun b hb hne => (hw2 b hb hne).trans (hF b hb)) hbl y Fy x' hy hs
   exact ⟨F', p1, by rw [hσ]; exact p2⟩
 | mov e xs k =>
  obtain ⟨hm, ⟨h1, h2, h3⟩ | ⟨bl, off, cap, cur, et, Fs, h1, hh, h2, h3, h4, hF', hl, hv', hk⟩⟩ := h
  ·exact ⟨hm, .inl ⟨hσ.trans h1, h2, h3⟩⟩
  ·subst hF'
   exact ⟨hm, .inr ⟨bl, off, cap, cur, et, Fs, hσ.trans h1, (hF bl (by simp)).trans hh, h2, h3, h4, rfl, hl, fun i hi hik => (hv' i hi hik).stable fun b hb => hF b (js _ (Ke hb)), hk⟩⟩
 | mp k v xs =>
  obtain ⟨r, es, clk, h1, hh, hF', hz, hv'⟩ := h
  subst hF'
  refine ⟨r, es, clk, hσ.trans h1, (hF r (by simp)).trans hh, rfl, hz, fun i hi => ?_⟩
  obtain ⟨e, ck, cv, g1, g2, g3, g4, g5⟩ := hv' i hi
  exact ⟨e, ck, cv, g1, g2, g3, Ka.stable hv hO g4, Ka.stable hv hO g5⟩
 | mq kk e xs =>
  obtain ⟨r, es, clk, h1, hh, hF', hz⟩ := h
  subst hF'
  exact ⟨r, es, clk, hσ.trans h1, (hF r (by simp)).trans hh, rfl, hz⟩
 | mx kk e xs =>
  simp only [Ec] at h ⊢
  rw [hσ]
  exact Ob.stable h hF
 | fz e xs => exact ⟨h.1, by rw [hσ]; exact Ka.stable hv hO h.2⟩
end
section
variable {n0 : Nat} {A : Fx} {O0 : Nat → Prop} {w0 w w' : World} {s s' : AS} {σ σ' : Nat → Value} {φ φ' : Nat → List Nat} {a a' : Act}
theorem Ra.trans (h : Ra n0 A O0 w0 s σ φ a w) (Tid : Nat → Prop)
 (hn : s'.n = s.n) (htm : s'.tm = s.tm)
 (hother : ∀ id, ¬ Tid id → s'.heap id = s.heap id ∧ σ' id = σ id ∧ φ' id = φ id)
 (hw : ∀ b, b < w.heap.size → (∀ id Da, Tid id → s.heap id = some Da → b ∉ φ id) → w'.heap[b]? = w.heap[b]?)
 (hsize : w.heap.size ≤ w'.heap.size)
 (hsub : ∀ id blk', Tid id → s'.heap id = some blk' → ∀ b, b ∈ φ' id → w.heap.size ≤ b ∨ ∃ j Da, Tid j ∧ s.heap j = some Da ∧ b ∈ φ j)
 (hcomp : ∀ id blk', Tid id → s'.heap id = some blk' → s.ment id = true → ∃ Da, s.heap id = some Da ∧ Da.like blk' ∧ σ' id = σ id)
 (hblk : ∀ id blk', Tid id → s'.heap id = some blk' → Ec w' (OO O0 s' φ') s'.heap σ' id blk' (φ' id) ∧ (φ' id).Nodup)
 (hdT : ∀ id id' Da blk', Tid id → Tid id' → id ≠ id' → s'.heap id = some Da → s'.heap id' = some blk' → ∀ b, b ∈ φ' id → b ∉ φ' id')
 (hos : w'.os = w.os) (htape : w'.tape = w.tape) (hout : w'.output = w.output) (hpin : ∀ id, Tid id → σ' id = σ id ∨ id < 500000)
 (hshr : ∀ id kk e xs, Tid id → s'.heap id = some (.mq kk e xs) → AW w' n0 (OO O0 s' φ') (σ' id) kk e xs) :
 Ra n0 A O0 w0 s' σ' φ' a w' := by
 have hlt : ∀ id Da, s.heap id = some Da → ∀ b, b ∈ φ id → b < w.heap.size := fun id Da hb b hm => (h.hp id Da hb).lt b hm
 have hOO : ∀ b, b < w.heap.size → ¬ OO O0 s φ b → ¬ OO O0 s' φ' b := by
  rintro b hb hno (ho | ⟨id, Da, hl, hm⟩)
  ·exact hno (.inl ho)
  ·by_cases ht : Tid id
   ·rcases hsub id Da ht hl b hm with hge | ⟨j, blk', _, hj, hmj⟩
    ·omega
    ·exact hno (.inr ⟨j, blk', hj, hmj⟩)
   ·obtain ⟨e1, _, e3⟩ := hother id ht
    exact hno (.inr ⟨id, Da, e1 ▸ hl, e3 ▸ hm⟩)
 have hview : ∀ b, ¬ OO O0 s φ b → b < w.heap.size → w'.heap[b]? = w.heap[b]? := fun b hno hb =>
  hw b hb fun id Da _ hl hm => hno (.inr ⟨id, Da, hl, hm⟩)
 have hcp : ∀ id, s.ment id = true → Cp s.heap s'.heap σ σ' id := by
  intro id hm blk' hl
  by_cases ht : Tid id
  ·exact hcomp id blk' ht hl hm
  ·obtain ⟨e1, e2, _⟩ := hother id ht
   exact ⟨blk', e1 ▸ hl, Ja.like_refl _, e2⟩
 have hold : ∀ id Da, ¬ Tid id → s.heap id = some Da → ∀ b, b ∈ φ id → w'.heap[b]? = w.heap[b]? := fun id Da ht hl b hm =>
  hw b (hlt id Da hl b hm) fun j blk' hj hl' hmj => h.disj id j Da blk' (fun e => ht (e ▸ hj)) hl hl' b hm hmj
 refine ⟨?_, h.df, ?_, ?_, ?_, ?_, ?_, h.o0, ?_, ?pin, h.iv0, h.ivw, ?shr⟩
 case shr =>
  intro id kk e xs hl
  by_cases ht : Tid id
  ·exact hshr id kk e xs ht hl
  ·obtain ⟨e1, e2, _⟩ := hother id ht
   rw [e1] at hl
   rw [e2]
   refine (h.shr id kk e xs hl).stable hview hOO fun r hr => ?_
   obtain ⟨r', es, clk, hσ, hh, hF, _⟩ := h.hp id _ hl
   have : r' = r := by rw [hσ] at hr; simpa using hr
   subst this
   exact hold id _ ht hl r' (by rw [hF]; simp)
 case pin =>
  intro id v hv
  by_cases ht : Tid id
  ·rcases hpin id ht with e | e
   ·exact e.trans (h.pin id v hv)
   ·exact absurd (A.low id v hv) (by omega)
  ·exact (hother id ht).2.1.trans (h.pin id v hv)
 ·rw [hn]; exact h.sz
 ·intro t d hd
  rw [htm] at hd
  obtain ⟨v, hv, hr⟩ := h.tm t d hd
  exact ⟨v, hv, Nc.stable hview hOO d v (fun id hi => hcp id (AS.ment_tm hd hi)) hr⟩
 ·intro id Da hl
  by_cases ht : Tid id
  ·exact (hblk id Da ht hl).1
  ·obtain ⟨e1, e2, e3⟩ := hother id ht
   rw [e1] at hl
   rw [e3]
   exact Ec.stable hview hOO (hold id Da ht hl) e2 (fun j hj => hcp j (AS.ment_heap hl hj)) (h.hp id Da hl)
 ·intro id Da hl
  by_cases ht : Tid id
  ·exact (hblk id Da ht hl).2
  ·obtain ⟨e1, _, e3⟩ := hother id ht
   rw [e3]; exact h.nodup id Da (e1 ▸ hl)
 ·intro id id' Da blk' hne hl hl' b hb
  by_cases ht : Tid id <;> by_cases ht' : Tid id'
  ·exact hdT id id' Da blk' ht ht' hne hl hl' b hb
  ·obtain ⟨e1', _, e3'⟩ := hother id' ht'
   rw [e3']
   rcases hsub id Da ht hl b hb with hge | ⟨j, blkj, hj, hlj, hmj⟩
   ·intro hm
    have := hlt id' blk' (e1' ▸ hl') b hm
    omega
   ·exact h.disj j id' blkj blk' (fun e => ht' (e ▸ hj)) hlj (e1' ▸ hl') b hmj
  ·obtain ⟨e1, _, e3⟩ := hother id ht
   rw [e3] at hb
   intro hm
   rcases hsub id' blk' ht' hl' b hm with hge | ⟨j, blkj, hj, hlj, hmj⟩
   ·have := hlt id Da (e1 ▸ hl) b hb
    omega
   ·exact h.disj j id blkj Da (fun e => ht (e ▸ hj)) hlj (e1 ▸ hl) b hmj hb
  ·obtain ⟨e1, _, e3⟩ := hother id ht
   obtain ⟨e1', _, e3'⟩ := hother id' ht'
   rw [e3'] ; rw [e3] at hb
   exact h.disj id id' Da blk' hne (e1 ▸ hl) (e1' ▸ hl') b hb
 ·intro id Da hl b hb
  by_cases ht : Tid id
  ·rcases hsub id Da ht hl b hb with hge | ⟨j, blkj, _, hlj, hmj⟩
   ·exact .inl (qb h.fr.size hge)
   ·exact h.fresh j blkj hlj b hmj
  ·obtain ⟨e1, _, e3⟩ := hother id ht
   rw [e3] at hb
   exact h.fresh id Da (e1 ▸ hl) b hb
 ·refine ⟨hos.trans h.fr.os, htape.trans h.fr.tape, hout.trans h.fr.output, qb h.fr.size hsize, fun b hb hA => ?_⟩
  refine Eq.trans ?_ (h.fr.block b hb hA)
  refine hw b (Nat.lt_of_lt_of_le hb h.fr.size) fun id Da _ hl hm => ?_
  rcases h.fresh id Da hl b hm with hge | hA'
  ·omega
  ·exact hA hA'
theorem Ra.drew (h : Ra n0 A O0 w0 s σ φ a w) : Ra n0 A O0 w0 s σ φ a w.drew := by
 refine h.trans (fun _ => False) rfl rfl (fun _ _ => ⟨rfl, rfl, rfl⟩) (fun _ _ _ => rfl) (jp _) ?_ ?_ ?_ ?_ rfl rfl rfl ?_ ?_
 all_goals intro id; intros; contradiction
end
def Ty.isAgg : Ty → Bool
 | .p _ _ | .u => true
 | _ => false
def Sc (τ : Ty) (cs : List Value) : Value := if τ.isAgg then .agg cs.toArray else cs.headD undef
def D.fst : D → Option D
 | .t (.p x _) v => some (.t x v.1)
 | .pr a _ => some a
 | _ => none
def D.snd : D → Option D
 | .t (.p _ y) v => some (.t y v.2)
 | .pr _ y => some y
 | _ => none
def mkpr : D → D → D
 | .t a x, .t c y => .t (.p a c) (x, y)
 | .t a x, .un => .t (.p a .u) (x, ())
 | a, b => .pr a b
def D.field : D → Nat → Option D
 | d, 0 => d.fst
 | d, n + 1 => match d.snd with
  | some e => e.field n
  | none => none
def D.at : D → List Nat → Option D
 | d, [] => some d
 | d, f :: p => match d.field f with
  | some e => e.at p
  | none => none
def D.setField : D → Nat → D → Option D
 | d, 0, e => match d.snd with
  | some r => some (mkpr e r)
  | none => none
 | d, n + 1, e => match d.fst, d.snd with
  | some a, some b => match b.setField n e with
   | some b' => some (mkpr a b')
   | none => none
  | _, _ => none
def D.setAt : D → List Nat → D → Option D
 | _, [], e => some e
 | d, f :: p, e => match d.field f with
  | some x => match x.setAt p e with
   | some x' => d.setField f x'
   | none => none
  | none => none
theorem Ab.isAgg {τ : Ty} {d : D} (h : Ab τ d) : d.isAgg = τ.isAgg := by
 cases d <;> cases τ <;> simp_all [Ab, D.isAgg, Ty.isAgg]
 all_goals (subst h; rfl)
theorem Ab.p {x y : Ty} {d : D} (h : Ab (.p x y) d) : ∃ a b, d.fst = some a ∧ d.snd = some b ∧ Ab x a ∧ Ab y b := by
 cases d with
 | t τ v =>
  simp only [Ab] at h
  subst h
  exact ⟨.t x v.1, .t y v.2, rfl, rfl, by simp [Ab], by simp [Ab]⟩
 | pr a b => exact ⟨a, b, rfl, rfl, h.1, h.2⟩
 | _ => simp [Ab] at h
theorem Ab.mkpr {x y : Ty} {a b : D} (ha : Ab x a) (hb : Ab y b) : Ab (.p x y) (mkpr a b) := by
 unfold KF.mkpr
 split
 ·simp only [Ab] at ha hb ⊢; rw [ha, hb]
 ·cases y <;> simp_all [Ab]
 ·exact ⟨ha, hb⟩
section
variable {w : World} {O : Nat → Prop} {hp : Nat → Option Ja} {σ : Nat → Value}
theorem Wa.length : ∀ {τ : Ty} {d : D} {cs : List Value}, Ab τ d → Wa w O hp σ d cs → cs.length = τ.size
 | τ, .t τ' x, cs, hs, h => by
  simp only [Ab] at hs; subst hs; exact Ka.length h
 | .sl _, .nil, cs, _, h => by simp [Wa] at h; simp [h, Ty.size]
 | .sl _, .own _, cs, _, h => by obtain ⟨v, h, _⟩ := h; simp [h, Ty.size]
 | .sl _, .cut _ _ _, cs, _, h => by obtain ⟨v, h, _⟩ := h; simp [h, Ty.size]
 | .p x y, .pr a b, cs, hs, h => by
  obtain ⟨c1, c2, h0, h1, h2⟩ := h
  have e1 := Wa.length hs.1 h1
  have e2 := Wa.length hs.2 h2
  simp [h0, Ty.size, e1, e2]
 | .u, .un, cs, _, h => by simp [Wa] at h; simp [h, Ty.size]
 | τ, .und, _, hs, _ => by cases τ <;> simp [Ab] at hs
 | .mp _ _, .mpo _, cs, _, h => by obtain ⟨v, h, _⟩ := h; simp [h, Ty.size]
 | .i _, .mpo _, _, hs, _ => by simp [Ab] at hs
 | .b, .mpo _, _, hs, _ => by simp [Ab] at hs
 | .o, .mpo _, _, hs, _ => by simp [Ab] at hs
 | .s, .mpo _, _, hs, _ => by simp [Ab] at hs
 | .u, .mpo _, _, hs, _ => by simp [Ab] at hs
 | .sl _, .mpo _, _, hs, _ => by simp [Ab] at hs
 | .p _ _, .mpo _, _, hs, _ => by simp [Ab] at hs
 | τ, .ptr _ _, _, hs, _ => by cases τ <;> simp [Ab] at hs
 | τ, .eptr _ _ _, _, hs, _ => by cases τ <;> simp [Ab] at hs
 | τ, .rp _ _, _, hs, _ => by cases τ <;> simp [Ab] at hs
theorem Wa.p {x y : Ty} {d a b : D} {cs : List Value} (hs : Ab (.p x y) d) (ha : d.fst = some a) (hb : d.snd = some b) (h : Wa w O hp σ d cs) :
 Wa w O hp σ a (cs.take x.size) ∧ Wa w O hp σ b (cs.drop x.size) := by
 cases d with
 | t τ v =>
  simp only [Ab] at hs
  subst hs
  simp only [D.fst, D.snd, jc] at ha hb
  subst ha; subst hb
  obtain ⟨c1, c2, h0, h1, h2⟩ := h
  have e1 := Ka.length h1
  subst h0
  simp only [← e1, List.take_left, List.drop_left]
  exact ⟨h1, h2⟩
 | pr a' b' =>
  simp only [D.fst, D.snd, jc] at ha hb
  subst ha; subst hb
  obtain ⟨c1, c2, h0, h1, h2⟩ := h
  have e1 := Wa.length hs.1 h1
  subst h0
  simp only [← e1, List.take_left, List.drop_left]
  exact ⟨h1, h2⟩
 | _ => simp [Ab] at hs
theorem Wa.mkpr {a b : D} {c1 c2 : List Value} (h1 : Wa w O hp σ a c1) (h2 : Wa w O hp σ b c2) : Wa w O hp σ (mkpr a b) (c1 ++ c2) := by
 unfold KF.mkpr
 split
 ·exact ⟨c1, c2, rfl, h1, h2⟩
 ·simp only [Wa] at h2; subst h2; exact ⟨c1, [], rfl, h1, rfl⟩
 ·exact ⟨c1, c2, rfl, h1, h2⟩
theorem Up : ∀ {ρ τ : Ty} {n : Nat}, Oa ρ n = some τ → Bc ρ n + τ.size ≤ ρ.size
 | .p x y, τ, 0, h => by simp [Oa] at h; subst h; simp [Bc, Ty.size]
 | .p x y, τ, n + 1, h => by
  have := Up (ρ := y) (n := n) h
  simp [Bc, Ty.size]; omega
 | .i _, _, _, h => by simp [Oa] at h
 | .b, _, _, h => by simp [Oa] at h
 | .o, _, _, h => by simp [Oa] at h
 | .mp _ _, _, _, h => by simp [Oa] at h
 | .s, _, _, h => by simp [Oa] at h
 | .sl _, _, _, h => by simp [Oa] at h
 | .u, _, _, h => by simp [Oa] at h
theorem Yg : ∀ {p : List Nat} {ρ τ : Ty}, Ee ρ p = some τ → Db ρ p + τ.size ≤ ρ.size
 | [], ρ, τ, h => by simp [Ee] at h; subst h; simp [Db]
 | f :: p, ρ, τ, h => by
  simp only [Ee] at h
  cases hf : Oa ρ f with
  | none => simp [hf] at h
  | some τ' =>
   simp only [hf, jb] at h
   have h1 := Up hf
   have h2 := Yg (p := p) h
   simp [Db, hf]; omega
theorem Wa.field : ∀ {n : Nat} {ρ τ : Ty} {d e : D} {cs : List Value}, Ab ρ d → Oa ρ n = some τ → d.field n = some e → Wa w O hp σ d cs →
 Ab τ e ∧ Wa w O hp σ e ((cs.drop (Bc ρ n)).take τ.size)
 | 0, .p x y, τ, d, e, cs, hs, ht, he, h => by
  simp only [Oa, jc] at ht
  subst ht
  obtain ⟨a, b, ha, hb, h1, h2⟩ := hs.p
  simp only [D.field, ha, jc] at he
  subst he
  exact ⟨h1, by simpa [Bc] using (Wa.p hs ha hb h).1⟩
 | n + 1, .p x y, τ, d, e, cs, hs, ht, he, h => by
  obtain ⟨a, b, ha, hb, h1, h2⟩ := hs.p
  simp only [D.field, hb] at he
  have := Wa.field h2 (show Oa y n = some τ from ht) he (Wa.p hs ha hb h).2
  simpa [Bc, qo, Nat.add_comm] using this
 | 0, .i _, _, _, _, _, _, ht, _, _ => by simp [Oa] at ht
 | 0, .b, _, _, _, _, _, ht, _, _ => by simp [Oa] at ht
 | 0, .o, _, _, _, _, _, ht, _, _ => by simp [Oa] at ht
 | 0, .s, _, _, _, _, _, ht, _, _ => by simp [Oa] at ht
 | 0, .sl _, _, _, _, _, _, ht, _, _ => by simp [Oa] at ht
 | 0, .u, _, _, _, _, _, ht, _, _ => by simp [Oa] at ht
 | n + 1, .i _, _, _, _, _, _, ht, _, _ => by simp [Oa] at ht
 | n + 1, .b, _, _, _, _, _, ht, _, _ => by simp [Oa] at ht
 | n + 1, .o, _, _, _, _, _, ht, _, _ => by simp [Oa] at ht
 | n + 1, .s, _, _, _, _, _, ht, _, _ => by simp [Oa] at ht
 | n + 1, .sl _, _, _, _, _, _, ht, _, _ => by simp [Oa] at ht
 | n + 1, .u, _, _, _, _, _, ht, _, _ => by simp [Oa] at ht
theorem Wa.at : ∀ {p : List Nat} {ρ τ : Ty} {d e : D} {cs : List Value}, Ab ρ d → Ee ρ p = some τ → d.at p = some e → Wa w O hp σ d cs →
 Ab τ e ∧ Wa w O hp σ e ((cs.drop (Db ρ p)).take τ.size)
 | [], ρ, τ, d, e, cs, hs, ht, he, h => by
  simp only [Ee, jc] at ht
  subst ht
  simp only [D.at, jc] at he
  subst he
  have := Wa.length hs h
  exact ⟨hs, by simpa [Db, ← this] using h⟩
 | f :: p, ρ, τ, d, e, cs, hs, ht, he, h => by
  simp only [Ee] at ht
  cases hf : Oa ρ f with
  | none => simp [hf] at ht
  | some τ' =>
   simp only [hf, jb] at ht
   simp only [D.at] at he
   cases hd : d.field f with
   | none => simp [hd] at he
   | some x =>
    simp only [hd] at he
    obtain ⟨s1, r1⟩ := Wa.field hs hf hd h
    obtain ⟨s2, r2⟩ := Wa.at s1 ht he r1
    refine ⟨s2, ?_⟩
    have hle := Yg ht
    simp only [Db, hf, qc, qx]
    rw [List.drop_take, List.take_take, qo] at r2
    rwa [Nat.min_eq_left (by omega)] at r2
theorem Jg {cs ce : List Value} {o : Nat} (h : o + ce.length ≤ cs.length) : (Pb cs o ce).length = cs.length := by
 simp [Pb]; omega
theorem Ci {cs ce : List Value} {o : Nat} (h : o + ce.length ≤ cs.length) (j : Nat) :
 (Pb cs o ce)[j]? = if j < o then cs[j]? else if j < o + ce.length then ce[j - o]? else cs[j]? := by
 unfold Pb
 by_cases h1 : j < o
 ·rw [if_pos h1, qy, List.getElem?_append_left (by simp; omega), List.getElem?_take, if_pos h1]
 ·rw [if_neg h1]
  by_cases h2 : j < o + ce.length
  ·rw [if_pos h2, List.getElem?_append_left (by simp; omega), List.getElem?_append_right (by simp; omega)]
   congr 1
   simp
   omega
  ·rw [if_neg h2, List.getElem?_append_right (by simp; omega), List.getElem?_drop]
   congr 1
   simp
   omega
theorem Bx {c1 c2 ce : List Value} {o : Nat} : Pb (c1 ++ c2) (c1.length + o) ce = c1 ++ Pb c2 o ce := by
 unfold Pb
 rw [List.take_append, List.drop_append]
 simp [List.take_of_length_le, ju]
theorem SU {cs ce : List Value} {o o' n : Nat} (h1 : o + n ≤ cs.length) (h2 : o' + ce.length ≤ n) :
 Pb cs o (Pb ((cs.drop o).take n) o' ce) = Pb cs (o + o') ce := by
 have hl : ((cs.drop o).take n).length = n := by simp; omega
 have hl2 : (Pb ((cs.drop o).take n) o' ce).length = n := by rw [Jg (by omega), hl]
 apply qn
 intro j
 rw [Ci (cs := cs) (ce := ce) (o := o + o') (by omega), Ci (cs := cs) (o := o) (by omega), hl2]
 split
 ·rw [if_pos (by omega)]
 ·split
  ·rw [Ci (by omega)]
   split
   ·rw [if_pos (by omega), List.getElem?_take, if_pos (by omega), List.getElem?_drop]; congr 1; omega
   ·split
    ·rw [if_neg (by omega), if_pos (by omega)]; congr 1; omega
    ·rw [if_neg (by omega), if_neg (by omega), List.getElem?_take, if_pos (by omega), List.getElem?_drop]; congr 1; omega
  ·rw [if_neg (by omega), if_neg (by omega)]
theorem Wa.setField : ∀ {n : Nat} {ρ τ : Ty} {d e d' : D} {cs ce : List Value}, Ab ρ d → Oa ρ n = some τ → Ab τ e → d.setField n e = some d' →
 Ab ρ d' ∧ (Wa w O hp σ d cs → Wa w O hp σ e ce → Wa w O hp σ d' (Pb cs (Bc ρ n) ce))
 | 0, .p x y, τ, d, e, d', cs, ce, hs, ht, hse, he => by
  simp only [Oa, jc] at ht
  subst ht
  obtain ⟨a, b, ha, hb, h1, h2⟩ := hs.p
  simp only [D.setField, hb, jc] at he
  subst he
  refine ⟨hse.mkpr h2, fun h hre => ?_⟩
  have := Wa.mkpr hre (Wa.p hs ha hb h).2
  rw [← Wa.length hse hre] at this
  simpa [Pb, Bc] using this
 | n + 1, .p x y, τ, d, e, d', cs, ce, hs, ht, hse, he => by
  obtain ⟨a, b, ha, hb, h1, h2⟩ := hs.p
  simp only [D.setField, ha, hb] at he
  cases hb' : b.setField n e with
  | none => simp [hb'] at he
  | some b' =>
   simp only [hb', jc] at he
   subst he
   have ih := fun cs => Wa.setField (cs := cs) (ce := ce) h2 (show Oa y n = some τ from ht) hse hb'
   refine ⟨h1.mkpr (ih []).1, fun h hre => ?_⟩
   obtain ⟨r1, r2⟩ := Wa.p hs ha hb h
   have := Wa.mkpr r1 ((ih _).2 r2 hre)
   have hl := Wa.length h1 r1
   rw [← Bx, hl, List.take_append_drop] at this
   exact this
 | n, .i _, _, _, _, _, _, _, _, ht, _, _ => by cases n <;> simp [Oa] at ht
 | n, .b, _, _, _, _, _, _, _, ht, _, _ => by cases n <;> simp [Oa] at ht
 | n, .o, _, _, _, _, _, _, _, ht, _, _ => by cases n <;> simp [Oa] at ht
 | n, .s, _, _, _, _, _, _, _, ht, _, _ => by cases n <;> simp [Oa] at ht
 | n, .sl _, _, _, _, _, _, _, _, ht, _, _ => by cases n <;> simp [Oa] at ht
 | n, .u, _, _, _, _, _, _, _, ht, _, _ => by cases n <;> simp [Oa] at ht
theorem Ab.field : ∀ {n : Nat} {ρ τ : Ty} {d e : D}, Ab ρ d → Oa ρ n = some τ → d.field n = some e → Ab τ e
 | 0, .p x y, τ, d, e, hs, ht, he => by
  simp only [Oa, jc] at ht
  subst ht
  obtain ⟨a, b, ha, hb, h1, h2⟩ := hs.p
  simp only [D.field, ha, jc] at he
  subst he
  exact h1
 | n + 1, .p x y, τ, d, e, hs, ht, he => by
  obtain ⟨a, b, ha, hb, h1, h2⟩ := hs.p
  simp only [D.field, hb] at he
  exact Ab.field h2 (show Oa y n = some τ from ht) he
 | n, .i _, _, _, _, _, ht, _ => by cases n <;> simp [Oa] at ht
 | n, .b, _, _, _, _, ht, _ => by cases n <;> simp [Oa] at ht
 | n, .o, _, _, _, _, ht, _ => by cases n <;> simp [Oa] at ht
 | n, .s, _, _, _, _, ht, _ => by cases n <;> simp [Oa] at ht
 | n, .sl _, _, _, _, _, ht, _ => by cases n <;> simp [Oa] at ht
 | n, .u, _, _, _, _, ht, _ => by cases n <;> simp [Oa] at ht
theorem Ab.at : ∀ {p : List Nat} {ρ τ : Ty} {d e : D}, Ab ρ d → Ee ρ p = some τ → d.at p = some e → Ab τ e
 | [], ρ, τ, d, e, hs, ht, he => by
  simp only [Ee, jc] at ht
  subst ht
  simp only [D.at, jc] at he
  subst he
  exact hs
 | f :: p, ρ, τ, d, e, hs, ht, he => by
  simp only [Ee] at ht
  cases hf : Oa ρ f with
  | none => simp [hf] at ht
  | some τ' =>
   simp only [hf, jb] at ht
   simp only [D.at] at he
   cases hd : d.field f with
   | none => simp [hd] at he
   | some x =>
    simp only [hd] at he
    exact Ab.at (Ab.field hs hf hd) ht he
theorem Wa.setAt : ∀ {p : List Nat} {ρ τ : Ty} {d e d' : D} {cs ce : List Value}, Ab ρ d → Ee ρ p = some τ → Ab τ e → d.setAt p e = some d' →
 Ab ρ d' ∧ (Wa w O hp σ d cs → Wa w O hp σ e ce → Wa w O hp σ d' (Pb cs (Db ρ p) ce))
 | [], ρ, τ, d, e, d', cs, ce, hs, ht, hse, he => by
  simp only [Ee, jc] at ht
  subst ht
  simp only [D.setAt, jc] at he
  subst he
  refine ⟨hse, fun h hre => ?_⟩
  have e1 := Wa.length hs h
  have e2 := Wa.length hse hre
  have : cs.drop ce.length = [] := List.drop_eq_nil_of_le (by omega)
  simpa [Pb, Db, this] using hre
 | f :: p, ρ, τ, d, e, d', cs, ce, hs, ht, hse, he => by
  simp only [Ee] at ht
  cases hf : Oa ρ f with
  | none => simp [hf] at ht
  | some τ' =>
   simp only [hf, jb] at ht
   simp only [D.setAt] at he
   cases hd : d.field f with
   | none => simp [hd] at he
   | some x =>
    simp only [hd] at he
    cases hx : x.setAt p e with
    | none => simp [hx] at he
    | some x' =>
     simp only [hx] at he
     have hsx : Ab τ' x := Ab.field hs hf hd
     have ih := fun cs => Wa.setAt (cs := cs) (ce := ce) hsx ht hse hx
     have hf' := fun ce => Wa.setField (w := w) (O := O) (hp := hp) (σ := σ) (cs := cs) (ce := ce) hs hf (ih []).1 he
     refine ⟨(hf' []).1, fun h hre => ?_⟩
     obtain ⟨_, r1⟩ := Wa.field hs hf hd h
     have := (hf' _).2 h ((ih _).2 r1 hre)
     have hle := Yg ht
     have hle2 := Up hf
     have e1 := Wa.length hs h
     have e2 := Wa.length hse hre
     rw [SU (by omega) (by omega)] at this
     simpa [Db, hf] using this
end
def Ty.zc : Ty → List Value
 | .i k => [.int k 0]
 | .b => [.bool false]
 | .o => [.slice none 0 0]
 | .mp _ _ => [.map none]
 | .s => [.string ⟨#[]⟩]
 | .sl _ => [.slice none 0 0]
 | .u => []
 | .p x y => x.zc ++ y.zc
def F7 : Value → Value → Bool
 | .int k n, .int k' n' => k == k' && n == n'
 | .bool a, .bool b => a == b
 | .string a, .string b => a.size == 0 && b.size == 0
 | .slice none 0 0, .slice none 0 0 => true
 | .map none, .map none => true
 | _, _ => false
def IB : List Value → List Value → Bool
 | [], [] => true
 | a :: r, b :: q => F7 a b && IB r q
 | _, _ => false
theorem Tad {a b : Value} (h : F7 a b = true) : a = b := by
 unfold F7 at h
 split at h
 ·simp at h; rw [h.1, h.2]
 ·simp at h; rw [h]
 ·simp at h
  rw [h.1, h.2]
 ·rfl
 ·rfl
 ·simp at h
theorem SE : ∀ {a b : List Value}, IB a b = true → a = b
 | [], [], _ => rfl
 | a :: r, b :: q, h => by
  simp only [IB, jd] at h
  rw [Tad h.1, SE h.2]
 | [], _ :: _, h => by simp [IB] at h
 | _ :: _, [], h => by simp [IB] at h
def NA (P : Program) (t : TypeId) (τ : Ty) : Bool :=
 match P.info? t with
 | some i => qv i.size τ.size && jy i.bytes 65536 && (match i.zero with
  | some (.agg cs) => τ.isAgg && IB cs.toList τ.zc
  | some z => !τ.isAgg && IB [z] τ.zc
  | none => false)
 | none => false
mutual
def Kc (P : Program) : Ty → TypeId → Bool
 | .i k, t => NA P t (.i k) && (match P.underlying t with | some (.int k') => k == k' | _ => false)
 | .b, t => NA P t .b && (match P.underlying t with | some .bool => true | _ => false)
 | .o, t => NA P t .o && (match P.underlying t with | some (.slice _) => true | _ => false)
 | .mp k v, t => NA P t (.mp k v) && (match P.underlying t with | some (.map kt et) => Kc P k kt && Kc P v et | _ => false)
 | .s, t => NA P t .s && (match P.underlying t with | some .string => true | _ => false)
 | .sl e, t => NA P t (.sl e) && (match P.underlying t with | some (.slice et) => Kc P e et | _ => false)
 | .u, t => NA P t .u && !P.stoodInHeld t && (match P.underlying t with | some (.struct fs) => qv fs.size 0 | _ => false)
 | .p x y, t => NA P t (.p x y) && (!P.stoodInHeld t && (!(x.cmp && y.cmp) || !P.eqGuardType P.depth t)) && (match P.underlying t with
  | some (.struct fs) => match fs.toList with
   | f :: r => qv f.offset 0 && f.name != "_" && Kc P x f.type && Qe P y r x.size
   | [] => false
  | _ => false)
def Qe (P : Program) : Ty → List Field → Nat → Bool
 | .u, [], _ => true
 | .p x y, f :: r, o => qv f.offset o && f.name != "_" && Kc P x f.type && Qe P y r (o + x.size)
 | _, _, _ => false
end
variable {P : Program}
theorem Tok.info {τ : Ty} {t : TypeId} (h : Kc P τ t = true) : NA P t τ = true := by
 cases τ <;> simp only [Kc, jd] at h <;> first | exact h.1 | exact h.1.1
theorem Tok.size {τ : Ty} {t : TypeId} (h : Kc P τ t = true) : ∃ i, P.info? t = some i ∧ i.size = τ.size ∧ i.bytes ≤ 65536 ∧ i.zero = some (Sc τ τ.zc) := by
 have h := Tok.info h
 unfold NA at h
 split at h
 ·rename_i i hi
  simp only [jd] at h
  obtain ⟨⟨h1, h2⟩, h3⟩ := h
  refine ⟨i, hi, jv h1, qz h2, ?_⟩
  split at h3
  ·rename_i cs hz
   simp only [jd] at h3
   rw [hz, Sc, if_pos h3.1, ← SE h3.2]
  ·rename_i z _ hz
   simp only [jd] at h3
   have : τ.isAgg = false := by simpa using h3.1
   rw [hz, Sc, this, ← SE h3.2]
   rfl
  ·simp at h3
 ·simp at h
theorem Tok.i {k : IntKind} {t : TypeId} (h : Kc P (.i k) t = true) : P.underlying t = some (.int k) := by
 simp only [Kc, jd] at h
 obtain ⟨_, h⟩ := h
 split at h
 ·rename_i k' hk; simp at h; rw [hk, h]
 ·simp at h
theorem Tok.b {t : TypeId} (h : Kc P .b t = true) : P.underlying t = some .bool := by
 simp only [Kc, jd] at h
 obtain ⟨_, h⟩ := h
 split at h
 ·assumption
 ·simp at h
theorem Tok.s {t : TypeId} (h : Kc P .s t = true) : P.underlying t = some .string := by
 simp only [Kc, jd] at h
 obtain ⟨_, h⟩ := h
 split at h
 ·assumption
 ·simp at h
theorem Tok.sl {e : Ty} {t : TypeId} (h : Kc P (.sl e) t = true) : ∃ et, P.underlying t = some (.slice et) ∧ Kc P e et = true := by
 simp only [Kc, jd] at h
 obtain ⟨_, h⟩ := h
 split at h
 ·rename_i et he; exact ⟨et, he, h⟩
 ·simp at h
theorem Tok.o {t : TypeId} (h : Kc P .o t = true) : ∃ et, P.underlying t = some (.slice et) := by
 simp only [Kc, jd] at h
 obtain ⟨_, h⟩ := h
 split at h
 ·rename_i et he; exact ⟨et, he⟩
 ·simp at h
theorem Fok.field : ∀ {τ τf : Ty} {fs : List Field} {o n : Nat}, Qe P τ fs o = true → Oa τ n = some τf →
 ∃ f, fs[n]? = some f ∧ f.offset = o + Bc τ n ∧ Kc P τf f.type = true
 | .p x y, τf, f :: r, o, 0, h, ht => by
  simp only [Qe, jd] at h
  simp only [Oa, jc] at ht
  subst ht
  exact ⟨f, rfl, by simpa [Bc] using jv h.1.1.1, h.1.2⟩
 | .p x y, τf, f :: r, o, n + 1, h, ht => by
  simp only [Qe, jd] at h
  obtain ⟨f', h1, h2, h3⟩ := Fok.field h.2 (show Oa y n = some τf from ht)
  exact ⟨f', by simpa using h1, by simp only [Bc]; omega, h3⟩
 | .p x y, _, [], _, _, h, _ => by simp [Qe] at h
 | .i _, _, _, _, _, _, ht => by simp [Oa] at ht
 | .b, _, _, _, _, _, ht => by simp [Oa] at ht
 | .o, _, _, _, _, _, ht => by simp [Oa] at ht
 | .mp _ _, _, _, _, _, _, ht => by simp [Oa] at ht
 | .s, _, _, _, _, _, ht => by simp [Oa] at ht
 | .sl _, _, _, _, _, _, ht => by simp [Oa] at ht
 | .u, _, _, _, _, _, ht => by simp [Oa] at ht
theorem Tok.struct {τ : Ty} {t : TypeId} (ha : τ.isAgg = true) (h : Kc P τ t = true) : ∃ fs, P.underlying t = some (.struct fs) ∧ Qe P τ fs.toList 0 = true := by
 cases τ with
 | p x y =>
  simp only [Kc, jd] at h
  obtain ⟨_, h⟩ := h
  split at h
  ·rename_i fs hfs
   refine ⟨fs, hfs, ?_⟩
   split at h
   ·rename_i f r hr
    rw [hr]
    simpa [Qe, jt] using h
   ·simp at h
  ·simp at h
 | u =>
  simp only [Kc, jd] at h
  obtain ⟨_, h⟩ := h
  split at h
  ·rename_i fs hfs
   refine ⟨fs, hfs, ?_⟩
   have : fs.toList = [] := by
    have := jv h
    exact q6 (by simpa using this)
   rw [this]; rfl
  ·simp at h
 | _ => simp [Ty.isAgg] at ha
theorem Tok.mp {k v : Ty} {t : TypeId} (h : Kc P (.mp k v) t = true) : ∃ kt et, P.underlying t = some (.map kt et) ∧ Kc P k kt = true ∧ Kc P v et = true := by
 simp only [Kc, jd] at h
 obtain ⟨_, h⟩ := h
 split at h
 ·rename_i kt et he
  simp only [jd] at h
  exact ⟨kt, et, he, h.1, h.2⟩
 ·simp at h
theorem Tok.isAgg {τ : Ty} {t : TypeId} (h : Kc P τ t = true) (w : World) : (Go.isAgg t).run P w = .ok τ.isAgg w := by
 unfold Go.isAgg
 cases hτ : τ with
 | i k => subst hτ; simp [run_underlying (Tok.i h), Ty.isAgg]
 | b => subst hτ; simp [run_underlying (Tok.b h), Ty.isAgg]
 | o => subst hτ; obtain ⟨et, he⟩ := Tok.o h; simp [run_underlying he, Ty.isAgg]
 | mp k v => subst hτ; obtain ⟨kt, et, he, _⟩ := Tok.mp h; simp [run_underlying he, Ty.isAgg]
 | s => subst hτ; simp [run_underlying (Tok.s h), Ty.isAgg]
 | sl e => subst hτ; obtain ⟨et, he, _⟩ := Tok.sl h; simp [run_underlying he, Ty.isAgg]
 | u => subst hτ; obtain ⟨fs, he, _⟩ := Tok.struct rfl h; simp [run_underlying he, Ty.isAgg]
 | p x y => subst hτ; obtain ⟨fs, he, _⟩ := Tok.struct rfl h; simp [run_underlying he, Ty.isAgg]
theorem Tok.sizeOf {τ : Ty} {t : TypeId} (h : Kc P τ t = true) (w : World) : (Go.sizeOf t).run P w = .ok τ.size w := by
 obtain ⟨i, hi, hs, _⟩ := Tok.size h
 simp [Go.sizeOf, typeInfo, hi, hs]
theorem Tok.zero {τ : Ty} {t : TypeId} (h : Kc P τ t = true) (w : World) : (zeroValue t).run P w = .ok (Sc τ τ.zc) w := by
 obtain ⟨i, hi, _, _, hz⟩ := Tok.size h
 simp [zeroValue, typeInfo, hi, hz]
theorem Lm (b o n : Nat) : (⟨b, o, none⟩ : Addr).add n = ⟨b, o + n, none⟩ := by unfold Addr.add; split <;> simp_all
theorem Ty.size_one {τ : Ty} (h : τ.isAgg = false) : τ.size = 1 := by cases τ <;> simp_all [Ty.isAgg, Ty.size]
theorem Tm {τ : Ty} {t : TypeId} (h : Kc P τ t = true) {w : World} {b off : Nat} {cur : Array Value} {et : TypeId} {fr : Nat × Nat}
 (hh : w.heap[b]? = some (.cells cur et fr)) (hs : off + τ.size ≤ cur.size) : (loadVar t ⟨b, off, none⟩).run P w = .ok (Sc τ (Rc cur off τ.size)) w := by
 unfold loadVar
 rw [qm, Tok.isAgg h w]
 have hcell : ∀ j v, (Rc cur off τ.size)[j]? = some v → w.cell? ((⟨b, off, none⟩ : Addr).add j) = some v := by
  intro j v hv
  rw [Lm, cell_of_row w b (off + j) cur et fr hh]
  have hj : j < τ.size := by
   have := (q7.1 hv).1
   rw [Vc hs] at this; exact this
  rw [Me cur off τ.size j hj] at hv
  exact hv
 cases ha : τ.isAgg with
 | true =>
  have hl := run_loadCells_list (P := P) w ⟨b, off, none⟩ (Rc cur off τ.size) hcell
  rw [Vc hs] at hl
  simp [Tok.sizeOf h w, hl, Sc, ha]
 | false =>
  have h1 := Ty.size_one ha
  have hl := Vc hs
  rw [h1] at hl
  obtain ⟨v, hv⟩ := q8.1 hl
  have := hcell 0 v (by rw [h1, hv]; rfl)
  rw [Lm, q9] at this
  simp [run_load, this, Sc, ha, h1, hv]
theorem Zw {τ : Ty} {t : TypeId} (h : Kc P τ t = true) {w : World} {b off : Nat} {cur : Array Value} {et : TypeId} {v : Value}
 (hh : w.heap[b]? = some (.cells cur et (0, 0))) (hs : off + τ.size ≤ cur.size) (hv : v.cells.toList.length = τ.size) (h1 : ∀ x ∈ v.cells.toList, x.oneCell' = true) :
 (storeVar t ⟨b, off, none⟩ v).run P w = .ok () (w.setRow b (Pb cur.toList off v.cells.toList).toArray) := by
 unfold storeVar
 have hv' : v.cells.size = τ.size := by simpa using hv
 have := run_storeCells_at P b off et v.cells.toList 0 cur w hh (by rw [hv]; simpa using hs) h1
 simp only [q9] at this
 simp [Tok.sizeOf h w, hv', this, Pb]
def Nb : Nat := 1073741824
def Ic {α : Type} (xs : List α) (i : Int) : Option α := bif decide (0 ≤ i) then xs[i.toNat]? else none
def Te (n : Nat) (i : Int) : Bool := decide (0 ≤ i) && decide (i < n)
def Re (k : IntKind) (x y : Int) : Int := k.wrap (x * 2 ^ (min y.toNat k.bits))
def Mu (k : IntKind) (x y : Int) : Int := x.fdiv (2 ^ (min y.toNat k.bits))
def Lk (k : IntKind) (x y : Int) : Int := k.wrap (BitVec.ofInt k.bits x &&& BitVec.ofInt k.bits y).toNat
def Ed (k : IntKind) (x y : Int) : Int := k.wrap (BitVec.ofInt k.bits x ||| BitVec.ofInt k.bits y).toNat
def Py (k : IntKind) (x y : Int) : Int := k.wrap (BitVec.ofInt k.bits x ^^^ BitVec.ofInt k.bits y).toNat
def Zh (k : IntKind) (x y : Int) : Int := k.wrap (BitVec.ofInt k.bits x &&& ~~~ BitVec.ofInt k.bits y).toNat
def Cc {α : Type} (xs : List α) (lo hi : Nat) : List α := (xs.take hi).drop lo
def Be (n : Nat) (lo hi : Int) : Bool := decide (0 ≤ lo) && (decide (lo ≤ hi) && decide (hi ≤ n))
def Jn (s : List UInt8) : List Int := s.map fun c => (c.toNat : Int)
def ZH (b : List Int) : List UInt8 := b.map fun n => UInt8.ofNat n.toNat
def Jf : (τ : Ty) → T τ → T τ → Bool
 | .i _, x, y => (show Int from x) == y
 | .b, x, y => (show Bool from x) == y
 | .o, _, _ => false
 | .mp _ _, _, _ => false
 | .s, x, y => (show List UInt8 from x) == y
 | .sl _, _, _ => false
 | .u, _, _ => true
 | .p a c, x, y => Jf a x.1 y.1 && Jf c x.2 y.2
def zT : (τ : Ty) → T τ
 | .i _ => (0 : Int)
 | .b => false
 | .o => ((none, 0, 0) : Option Addr × Nat × Nat)
 | .mp k v => ([] : List (T k × T v))
 | .s => ([] : List UInt8)
 | .sl e => ([] : List (T e))
 | .u => ()
 | .p x y => (zT x, zT y)
def zD : Ty → D
 | .sl _ => .nil
 | .u => .un
 | .p x y => mkpr (zD x) (zD y)
 | τ => .t τ (zT τ)
def Zb : Ty → D → Bool
 | τ, .t τ' _ => (Ty.dec τ' τ).isSome
 | .sl _, .nil => true
 | .sl _, .own _ => true
 | .mp _ _, .mpo _ => true
 | .p x y, .pr a b => Zb x a && Zb y b
 | .u, .un => true
 | _, _ => false
def Vf : (d : D) → (τ : Ty) → Option (T τ)
 | .t τ' x, τ => match Ty.dec τ' τ with
  | some ⟨h⟩ => some (h ▸ x)
  | none => none
 | .nil, .sl e => some ([] : List (T e))
 | .pr a b, .p x y => match Vf a x, Vf b y with
  | some u, some v => some (u, v)
  | _, _ => none
 | .un, .u => some ()
 | _, _ => none
def Va (s : AS) : (d : D) → (τ : Ty) → Option (T τ)
 | .t τ' x, τ => match Ty.dec τ' τ with
  | some ⟨h⟩ => some (h ▸ x)
  | none => none
 | .nil, .sl e => some ([] : List (T e))
 | .own id, .sl e => match s.heap id with
  | some (.row e' _ xs) => match Ty.dec e' e with
   | some ⟨h⟩ => some (h ▸ xs)
   | none => none
  | some (.fz e' xs) => match Ty.dec e' e with
   | some ⟨h⟩ => some (h ▸ xs)
   | none => none
  | _ => none
 | .cut id lo hi, .sl e => match s.heap id with
  | some (.row e' _ xs) => match Ty.dec e' e with
   | some ⟨h⟩ => some (h ▸ (Cc xs lo hi : List (T e')))
   | none => none
  | _ => none
 | .pr a b, .p x y => match Va s a x, Va s b y with
  | some u, some v => some (u, v)
  | _, _ => none
 | .un, .u => some ()
 | _, _ => none
def Lb (s : AS) : (d : D) → (τ : Ty) → Option (T τ × List Nat)
 | .t τ' x, τ => bif τ'.flat then match Ty.dec τ' τ with
  | some ⟨h⟩ => some (h ▸ x, [])
  | none => none
  else none
 | .nil, .sl e => some (([] : List (T e)), [])
 | .own id, .sl e => match s.heap id with
  | some (.row e' dp xs) => bif dp || e'.flat then match Ty.dec e' e with
   | some ⟨h⟩ => some (h ▸ xs, [id])
   | none => none
   else none
  | _ => none
 | .mpo id, .mp k v => match s.heap id with
  | some (.mx k' v' xs) => match Ty.dec k' k, Ty.dec v' v with
   | some ⟨h⟩, some ⟨g⟩ => some (h ▸ g ▸ xs, [id])
   | _, _ => none
  | _ => none
 | .pr a b, .p x y => match Lb s a x, Lb s b y with
  | some (u, l), some (v, m) => some ((u, v), l ++ m)
  | _, _ => none
 | .un, .u => some ((), [])
 | _, _ => none
def Ty.cnt : Ty → Nat
 | .p x y => x.cnt + y.cnt + 1
 | _ => 1
def D.hasOwn : D → Bool
 | .own _ => true
 | .cut _ _ _ => true
 | .pr a b => a.hasOwn || b.hasOwn
 | _ => false
def Mf : List Nat → Bool
 | [] => true
 | a :: r => !(r.any (qv a)) && Mf r
inductive Ya where
 | pu (pt rt : Ty) (fr : List Bool) (f : T pt → Option (T rt))
 | io (τ pt rt : Ty) (fr : List Bool) (f : T τ → T pt → Option (T τ × T rt))
 | co (pt rt : Ty) (fr : List Bool) (f : T pt → Option (T rt))
 | bx (vw cv : Bool) (τ pt rt : Ty) (fr : List Bool) (f : T τ → T pt → Option (T τ × T rt))
 | nw (pt τ : Ty) (f : T pt → Option (T τ))
 | tp (τ k v pt rt : Ty) (f : T τ → List (T k × T v) → T pt → Option (T τ × (List (T k × T v) × T rt)))
structure Qd where
 ty : List (Nat × Ty)
 fn : List (Nat × Ya)
 att : List (Nat × Nat)
 fz : Bool
 ar : List (Nat × Ty × Nat)
 mv : List Nat
 ml : List Nat
def BJ : Value → Option D
 | .int k n => some (.t (.i k) n)
 | .bool b => some (.t .b b)
 | .string s => some (.t .s s.data.toList)
 | .slice none 0 0 => some .nil
 | .pointer none => some .anyv
 | .map none => some .anyv
 | _ => none
def AS.ev (s : AS) : Operand → Option D
 | .tmp t => Eb s.tm t
 | .const v => BJ v
 | _ => none
def AS.newOk (s : AS) (id : Nat) : Bool := !s.ment id && ya id 500000
section
variable {Out : Type}
def Kf (s : AS) (dst : Option Tmp) (d : D) (upd : List (Nat × Option Ja)) (k : AS → Option Out) : Option Out :=
 match dst with
 | some t => bif ya t s.n then k ⟨s.n, (t, d) :: s.tm, upd ++ s.hp⟩ else none
 | none => k ⟨s.n, s.tm, upd ++ s.hp⟩
def Ub (l : List Nat) : List (Nat × Option Ja) := l.map fun id => (id, none)
def CL (tb : Bool) (op : BinOp) (a b : D) (K : D → List (Nat × Option Ja) → Option Out) : Option Out :=
 match a, b with
 | .t (.i ka) x, .t (.i kb) y =>
  match op with
  | .shl => bif decide (0 ≤ (y : Int)) then K (.t (.i ka) (Re ka x y)) [] else none
  | .shr => bif decide (0 ≤ (y : Int)) then K (.t (.i ka) (Mu ka x y)) [] else none
  | _ => bif ka == kb then
   match op with
   | .add => K (.t (.i ka) (ka.wrap ((x : Int) + y))) []
   | .sub => K (.t (.i ka) (ka.wrap ((x : Int) - y))) []
   | .mul => K (.t (.i ka) (ka.wrap ((x : Int) * y))) []
   | .quo => bif (y : Int) == 0 then none else K (.t (.i ka) (ka.wrap (Int.tdiv x y))) []
   | .rem => bif (y : Int) == 0 then none else K (.t (.i ka) (Int.tmod x y)) []
   | .and => K (.t (.i ka) (Lk ka x y)) []
   | .or => K (.t (.i ka) (Ed ka x y)) []
   | .xor => K (.t (.i ka) (Py ka x y)) []
   | .andNot => K (.t (.i ka) (Zh ka x y)) []
   | .eql => K (.t .b ((x : Int) == y)) []
   | .neq => K (.t .b ((x : Int) != y)) []
   | .lss => K (.t .b (decide ((x : Int) < y))) []
   | .leq => K (.t .b (decide ((x : Int) ≤ y))) []
   | .gtr => K (.t .b (decide ((x : Int) > y))) []
   | .geq => K (.t .b (decide ((x : Int) ≥ y))) []
   | _ => none
   else none
 | .t .s x, .t .s y =>
  match op with
  | .add => bif jy (ja x + ja y) Nb then K (.t .s (jf x y)) [] else none
  | .eql => K (.t .b ((show List UInt8 from x) == y)) []
  | .neq => K (.t .b ((show List UInt8 from x) != y)) []
  | _ => none
 | .t .b x, .t .b y =>
  match op with
  | .eql => bif tb then K (.t .b ((show Bool from x) == y)) [] else none
  | .neq => bif tb then K (.t .b ((show Bool from x) != y)) [] else none
  | _ => none
 | _, _ => none
def Cal (s : AS) (tb : Bool) (dst : Option Tmp) (op : BinOp) (a b : D) (k : AS → Option Out) : Option Out := CL tb op a b fun d u => Kf s dst d u k
end
section
variable {Out : Type}
def Zl (s : AS) : List Operand → Option D
 | [] => some .un
 | x :: r => match s.ev x, Zl s r with
  | some a, some b => some (.pr a b)
  | _, _ => none
def Od : (τ : Ty) → T τ → Nat → D × List (Nat × Option Ja) × Nat
 | .sl e, xs, n => (.own n, [(n, some (.row e true xs))], n + 1)
 | .u, _, n => (.un, [], n)
 | .mp k v, xs, n => (.mpo n, [(n, some (.mx k v xs))], n + 1)
 | .p x y, v, n => match Od x v.1 n with
  | (a, l, m) => match Od y v.2 m with
   | (b, l', m') => (mkpr a b, l ++ l', m')
 | τ, x, n => (.t τ x, [], n)
def Gf : (τ : Ty) → T τ → List Bool → Nat → Option (D × List (Nat × Option Ja) × Nat)
 | .u, _, [], n => some (.un, [], n)
 | .p x y, v, f :: r, n =>
  match (bif f then Od x v.1 n else (.t x v.1, [], n)) with
  | (a, l, m) => match Gf y v.2 r m with
   | some (b, l', m') => some (.pr a b, l ++ l', m')
   | none => none
 | _, _, _, _ => none
def GD : D → Option D
 | .pr a .un => some a
 | d => some (.tup d)
def Kx : D → Nat → Option D
 | .pr a _, 0 => some a
 | .pr _ b, n + 1 => Kx b n
 | _, _ => none
def Dd (s : AS) (u : List (Nat × Option Ja)) : Bool := (u.all fun x => s.newOk x.1) && Mf (u.map (·.1))
def AE (s : AS) (τ : Ty) : D → List (Nat × Operand) → Option D
 | d, [] => some d
 | d, (i, x) :: r => match s.ev x, Oa τ i with
  | some e, some τ' => bif Zb τ' e then match d.setField i e with
   | some d' => AE s τ d' r
   | none => none
   else none
  | _, _ => none
def VJ (s : AS) (e : Ty) : Nat → List (Nat × Operand) → Option (List (T e) × List Nat)
 | _, [] => some ([], [])
 | n, (i, x) :: r => bif qv i n then match s.ev x with
  | some d => match Lb s d e, VJ s e (n + 1) r with
   | some (a, l), some (b, m) => some (a :: b, l ++ m)
   | _, _ => none
  | none => none
  else none
def IE (s : AS) (e : Ty) : Nat → List (Nat × Operand) → Option (List (T e))
 | _, [] => some []
 | n, (i, x) :: r => bif qv i n then match s.ev x with
  | some d => match Vf d e, IE s e (n + 1) r with
   | some a, some b => some (a :: b)
   | _, _ => none
  | none => none
  else none
def XF (s : AS) : Option Operand → Option Int
 | none => some 0
 | some x => match s.ev x with
  | some (.t (.i _) n) => some n
  | _ => none
def MJ (s : AS) (len : Nat) : Option Operand → Option Int
 | none => some (len : Int)
 | some x => match s.ev x with
  | some (.t (.i _) n) => some n
  | _ => none
def JD (s : AS) (e : Ty) : D → Option (List (T e) × Bool × List Nat)
 | .nil => some ([], true, [])
 | .t (.sl e') ys => match Ty.dec e' e with
  | some ⟨h⟩ => some (h ▸ ys, e.flat, [])
  | none => none
 | .t .s y => match Ty.dec (.i .u8) e with
  | some ⟨h⟩ => some (h ▸ Jn y, true, [])
  | none => none
 | .own id => match s.heap id with
  | some (.row e' dp ys) => match Ty.dec e' e with
   | some ⟨h⟩ => some (h ▸ ys, dp || e.flat, bif e.flat then [] else [id])
   | none => none
  | _ => none
 | .cut id lo hi => match s.heap id with
  | some (.row e' dp ys) => match Ty.dec e' e with
   | some ⟨h⟩ => bif e.flat || !dp then some ((Cc (h ▸ ys : List (T e)) lo hi), e.flat, []) else none
   | none => none
  | _ => none
 | _ => none
def XM (s : AS) (e : Ty) : D → Option (List (T e) × Option Bool × List Nat)
 | .nil => some ([], none, [])
 | .own id => match s.heap id with
  | some (.row e' dp ys) => match Ty.dec e' e with
   | some ⟨h⟩ => some (h ▸ ys, some (dp || e.flat), [id])
   | none => none
  | _ => none
 | .cut id lo hi => match s.heap id with
  | some (.row e' dp ys) => match Ty.dec e' e with
   | some ⟨h⟩ => bif e.flat || !dp then some ((Cc (h ▸ ys : List (T e)) lo hi), some e.flat, [id]) else none
   | none => none
  | _ => none
 | _ => none
def D.ids : D → List Nat
 | .own j | .mpo j | .ptr j _ | .eptr j _ _ | .cut j _ _ => [j]
 | .pr a b => a.ids ++ b.ids
 | .tup d => d.ids
 | _ => []
def D.owns : D → List Nat
 | .own j => [j]
 | .pr a b => a.owns ++ b.owns
 | _ => []
def D.noCut : D → Bool
 | .cut _ _ _ => false
 | .pr a b => a.noCut && b.noCut
 | _ => true
def Ou (l : List Nat) (x : Nat) : Bool := l.any (qv x)
def ME (l m : List Nat) : Bool := l.any (Ou m)
def Dq (l : List (Nat × Nat)) : Bool := l.any fun p => qv p.1 999999999
def UW (l : List (Nat × Nat)) : Bool := l.any fun p => qv p.1 999999998
def AS.boxLive (s : AS) : Bool := match s.heap 500000 with
 | some (.box _ _) => true
 | _ => false
def EA : (d : D) → (τ : Ty) → T τ → List (Nat × Option Ja)
 | .own id, .sl e, xs => [(id, some (.row e true xs))]
 | .mpo id, .mp k v, xs => [(id, some (.mx k v xs))]
 | .pr a b, .p x y, v => EA a x v.1 ++ EA b y v.2
 | _, _, _ => []
def UA (G : Qd) (s : AS) (dst : Option Tmp) (f : FuncId) (args : List Operand) (K : D → List (Nat × Option Ja) → Option Out) : Option Out :=
 match Eb G.fn f with
 | some (.pu pt rt fr f) => match Zl s args with
  | some ds => match Va s ds pt with
   | some x => j4 (f x) fun r => match Gf rt r fr (100000 + 64 * dst.getD 0) with
    | some (d, u, m) => match GD d with
     | some d' => bif jy m (100064 + 64 * dst.getD 0) && Dd s u && ((!ds.hasOwn || fr.all id) || ((G.fz && !Dq G.att) && ds.noCut)) then K d' (u ++ bif !ds.hasOwn || fr.all id then [] else Ub ds.owns) else none
     | none => none
    | none => none
   | none => none
  | none => none
 | some (.io τ pt rt fr f) => match args with
  | a0 :: args => match s.ev a0, Zl s args with
   | some d0, some ds => match Lb s d0 τ, Va s ds pt with
    | some (x0, l), some x => j4 (f x0 x) fun r => match Gf rt r.2 fr (100000 + 64 * dst.getD 0) with
     | some (d, u, m) => match GD d with
      | some d' => bif jy m (100064 + 64 * dst.getD 0) && Dd s u && Mf l && !ds.hasOwn then K d' (u ++ EA d0 τ r.1) else none
      | none => none
     | none => none
    | _, _ => none
   | _, _ => none
  | [] => none
 | some (.co pt rt fr f) => match Zl s args with
  | some ds => match Lb s ds pt with
   | some (x, l) => j4 (f x) fun r => match Gf rt r fr (100000 + 64 * dst.getD 0) with
    | some (d, u, m) => match GD d with
     | some d' => bif jy m (100064 + 64 * dst.getD 0) && Dd s u && Mf l && (fr.all id || (G.fz && !Dq G.att)) then K d' (u ++ Ub l) else none
     | none => none
    | none => none
   | none => none
  | none => none
 | some (.bx vw cv τ pt rt fr f) => match args with
  | a0 :: args => match s.ev a0, Zl s args with
   | some (.ptr bid []), some ds => match s.heap bid with
    | some (.box τ' d0) => match Ty.dec τ' τ, (bif vw then (match Vf d0 τ with
     | some x => some (x, [])
     | none => none) else Lb s d0 τ), (bif cv then Lb s ds pt else match Va s ds pt with
     | some x => some (x, [])
     | none => none) with
     | some _, some (x0, l), some (x, l2) => j4 (f x0 x) fun r => match Gf rt r.2 fr (100000 + 64 * dst.getD 0) with
      | some (d, u, m) => match GD d, (bif vw then (D.t τ r.1, [], m) else Od τ r.1 m) with
       | some d', (e, v, m') => bif jy m' (100064 + 64 * dst.getD 0) && Dd s (u ++ v) && Mf (bid :: (l ++ l2)) && (cv || !ds.hasOwn) then K d' (u ++ (v ++ ((bid, some (.box τ e)) :: Ub (l ++ l2)))) else none
       | none, _ => none
      | none => none
     | _, _, _ => none
    | _ => none
   | _, _ => none
  | [] => none
 | some (.nw pt τ f) => match dst, Zl s args with
  | some tt, some ds => match Va s ds pt with
   | some x => j4 (f x) fun r => bif s.newOk tt && !ds.hasOwn then K (.ptr tt []) [(tt, some (.box τ (.t τ r)))] else none
   | none => none
  | _, _ => none
 | some (.tp τ k v pt rt f) => match args with
  | a0 :: args => match s.ev a0, Zl s args with
   | some (.ptr bid []), some ds => match s.heap bid with
    | some (.box ρ d) => match Ty.dec ρ (.p τ (.p (.mp k v) .u)), d.field 0, d.field 1, Vf ds pt with
     | some _, some d0, some (.mpo id), some x => match Vf d0 τ, s.heap id with
      | some x0, some (.mp k' v' xs) => match Ty.dec k' k, Ty.dec v' v with
       | some ⟨h⟩, some ⟨g⟩ => j4 (f x0 (h ▸ g ▸ xs : List (T k × T v)) x) fun r =>
        bif G.fz && !Dq G.att then K (.t rt r.2.2) [(bid, some (.box ρ (.pr (.t τ r.1) (.pr (.mpo id) .un)))), (id, some (.mp k v r.2.1))] else none
       | _, _ => none
      | _, _ => none
     | _, _, _, _ => none
    | _ => none
   | _, _ => none
  | [] => none
 | none => none
def GC : Option Ty → Bool
 | some (.sl _) | some .s => true
 | _ => false
def Vt (G : Qd) (s : AS) (dst : Option Tmp) (t tx : TypeId) (a b : Operand) (K : D → List (Nat × Option Ja) → Option Out) : Option Out :=
 match dst, Eb G.ty t, s.ev a, s.ev b with
 | some tt, some (.sl e), some da, some db => match XM s e da, JD s e db with
  | some (xs, dp, l), some (ys, dq, m) =>
   bif (dp.getD dq == dq) && s.newOk tt && Mf (l ++ m) && GC (Eb G.ty tx) then
    bif jy (ja xs + ja ys) Nb then
     K (.own tt) ((tt, some (.row e dq (jf xs ys))) :: Ub (l ++ m))
    else none
   else none
  | _, _ => none
 | _, _, _, _ => none
def ZC (G : Qd) : Option Tmp → Bool
 | some tt => Ou G.ml tt
 | none => false
def Cq (G : Qd) (s : AS) (dst : Option Tmp) (t tx : TypeId) (a b : Operand) (K : D → List (Nat × Option Ja) → Option Out) : Option Out :=
 match dst, Eb G.ty t, s.ev a, s.ev b with
 | some _, some (.sl e), some (.own id), some db => match s.heap id, JD s e db with
  | some (.row e' dp xs), some (ys, dq, m) => match Ty.dec e' e with
   | some ⟨h⟩ => bif (((dp || e.flat) == dq) && Mf (id :: m)) && (GC (Eb G.ty tx) && (G.fz && !Dq G.att)) then
    bif jy (ja (h ▸ xs : List (T e)) + ja ys) Nb then
     K (.t (.sl e) (jf (h ▸ xs : List (T e)) ys)) ((id, some (.fz e' xs)) :: Ub m)
    else none
    else none
   | none => none
  | _, _ => none
 | _, _, _, _ => none
def DC (G : Qd) (s : AS) (dst : Option Tmp) (t tx : TypeId) (a b : Operand) (K : D → List (Nat × Option Ja) → Option Out) : Option Out :=
 bif ZC G dst then Cq G s dst t tx a b K else Vt G s dst t tx a b K
def VA (G : Qd) (s : AS) (t tx : TypeId) (a b : Operand) (K : D → List (Nat × Option Ja) → Option Out) : Option Out :=
 match Eb G.ty t, s.ev a, s.ev b with
 | some (.sl e), some (.own id), some db => match s.heap id with
  | some (.row e' dp xs) => match Ty.dec e' e, JD s e' db with
   | some _, some (ys, _, _) => bif e'.flat && GC (Eb G.ty tx) then
    bif jy (ja ys) (ja xs) then
     K (.t (.i .i64) ((ja ys : Nat) : Int)) [(id, some (.row e' dp (jf ys (List.drop (ja ys) xs))))]
    else none
    else none
   | _, _ => none
  | _ => none
 | _, _, _ => none
def Mr (s : AS) (dst : Option Tmp) (τ : Ty) (id i : Nat) (e : Ty) (xs : List (T e)) (k : Nat) (K : D → List (Nat × Option Ja) → Option Out) : Option Out :=
 match Ty.dec e τ with
 | some _ => bif qv i k then j4 xs[i]? fun x => match Od e x (100000 + 64 * dst.getD 0) with
  | (d, u, m) => bif jy m (100064 + 64 * dst.getD 0) && Dd s u then K d ((id, some (.mov e xs (i + 1))) :: u) else none
  else none
 | none => none
def DL (G : Qd) (s : AS) (dst : Option Tmp) (t : TypeId) (id : Nat) (lo hi : Option Operand) (K : D → List (Nat × Option Ja) → Option Out) : Option Out :=
 match s.heap id with
 | some (.row e dp xs) => match XF s lo, MJ s (ja xs) hi, Eb G.ty t with
  | some l, some h, some (.sl e') => match Ty.dec e e' with
   | some _ => bif Be (ja xs) l h then (match dst with
    | some tt => bif Ou G.mv tt then (bif s.newOk tt then K (.own tt) [(tt, some (.row e dp (Cc xs l.toNat h.toNat))), (id, none)] else none) else K (.cut id l.toNat h.toNat) []
    | none => none) else none
   | none => none
  | _, _, _ => none
 | _ => none
def LF (G : Qd) (s : AS) (t : TypeId) (id a b : Nat) (lo hi : Option Operand) (K : D → List (Nat × Option Ja) → Option Out) : Option Out :=
 match s.heap id with
 | some (.row e _ _) => match XF s lo, MJ s (b - a) hi, Eb G.ty t with
  | some l, some h, some (.sl e') => match Ty.dec e e' with
   | some _ => bif Be (b - a) l h then K (.cut id (a + l.toNat) (a + h.toNat)) [] else none
   | none => none
  | _, _, _ => none
 | _ => none
def Qb (G : Qd) (s : AS) (o : Oper) (K : D → List (Nat × Option Ja) → Option Out) : Option Out :=
 match o.op with
 | .move x | .assign x => match s.ev x with
  | some d => K d []
  | none => none
 | .pick c a b => match s.ev c with
  | some (.t .b β) => cond (show Bool from β)
   (match s.ev a with | some d => K d [] | none => none)
   (match s.ev b with | some d => K d [] | none => none)
  | _ => none
 | .alloc t => match o.dst, Eb G.ty t with
  | some tt, some τ => bif s.newOk tt then K (.ptr tt []) [(tt, some (.box τ (zD τ)))] else none
  | some tt, none => match Eb G.ar t with
   | some (e, n) => bif s.newOk tt && (ya 0 n && (jy n 1000 && jy e.size 1000)) then K (.eptr tt 0 []) [(tt, some (.row e true (yb n (zT e))))] else none
   | none => none
  | none, _ => none
 | .box t x => match o.dst, Eb G.ty t, s.ev x with
  | some tt, some τ, some d => bif s.newOk tt && Zb τ d then K (.ptr tt []) [(tt, some (.box τ d))] else none
  | _, _, _ => none
 | .build t ps => match Eb G.ty t with
  | some τ => match AE s τ (zD τ) ps.toList with
   | some d => bif τ.isAgg then K d [] else none
   | none => none
  | none => none
 | .buildSlice t n ps => match o.dst, Eb G.ty t with
  | some tt, some (.sl e) => match VJ s e 0 ps.toList with
   | some (xs, l) => bif s.newOk tt && Mf l && qv n ps.size && jy n 1000 && jy e.size 1000 then K (.own tt) ((tt, some (.row e true xs)) :: Ub l) else none
   | none => match IE s e 0 ps.toList with
    | some xs => bif s.newOk tt && qv n ps.size && jy n 1000 && jy e.size 1000 then K (.own tt) [(tt, some (.row e false xs))] else none
    | none => none
  | _, _ => none
 | .load t x => match Eb G.ty t, s.ev x with
  | some τ, some (.ptr id path) => match s.heap id with
   | some (.box ρ d) => match Ee ρ path, d.at path with
    | some τ', some e => match Ty.dec τ' τ with
     | some _ => K e []
     | none => none
    | _, _ => none
   | _ => none
  | some τ, some (.rp τ' v) => match Ty.dec τ' τ with
   | some _ => K (.t τ' v) []
   | none => none
  | some τ, some (.eptr id i path) => bif ZC G o.dst then (match s.heap id, path with
   | some (.row e true xs), [] => Mr s o.dst τ id i e xs 0 K
   | some (.mov e xs k), [] => Mr s o.dst τ id i e xs k K
   | _, _ => none) else match s.heap id with
   | some (.row e dp xs) => j4 xs[i]? fun x => match Ee e path, (D.t e x).at path with
    | some τ', some y => match Ty.dec τ' τ with
     | some _ => bif (!dp || e.flat) || τ'.flat then K y [] else match Vf y τ' with
      | some y' => match Od τ' y' (100000 + 64 * o.dst.getD 0) with
       | (d, u, m) => bif jy m (100064 + 64 * o.dst.getD 0) && Dd s u then K d ((id, some (.hol e xs i x path τ' d)) :: u) else none
      | none => none
     | none => none
    | _, _ => none
   | some (.hol _ _ i0 _ path0 τ0 d0) => match Ty.dec τ0 τ with
    | some _ => bif (path == path0) && qv i i0 then K d0 [] else none
    | none => none
   | _ => none
  | _, _ => none
 | .store t x v => match Eb G.ty t, s.ev x, s.ev v with
  | some τ, some (.ptr id path), some dv => match s.heap id with
   | some (.box ρ d) => match Ee ρ path, d.setAt path dv with
    | some τ', some d' => match Ty.dec τ' τ with
     | some _ => bif Zb τ dv then K .und [(id, some (.box ρ d'))] else none
     | none => none
    | _, _ => none
   | _ => none
  | some τ, some (.eptr id i path), some dv => match s.heap id with
   | some (.row e dp xs) => match Ee e path with
    | some τ' => match Ty.dec τ' τ with
     | some _ => bif dp || e.flat then match Lb s dv τ with
      | some (y, l) => bif (dp || l.isEmpty) && Mf (id :: l) then j4 xs[i]? fun x => match Zg e x path τ y with
       | some x' => K .und ((id, some (.row e dp (j7 xs i x'))) :: Ub l)
       | none => none
       else none
      | none => none
      else match Vf dv τ with
       | some y => j4 xs[i]? fun x => match Zg e x path τ y with
        | some x' => K .und [(id, some (.row e dp (j7 xs i x')))]
        | none => none
       | none => none
     | none => none
    | none => none
   | some (.hol e xs i0 x path0 _ _) => match Ee e path with
    | some τ' => match Ty.dec τ' τ with
     | some _ => match Lb s dv τ with
      | some (y, l) => bif Mf (id :: l) && (path == path0) then
       bif qv i i0 then match Zg e x path τ y with
        | some x' => K .und ((id, some (.row e true (j7 xs i x'))) :: Ub l)
        | none => none
       else none
       else none
      | none => none
     | none => none
    | none => none
   | _ => none
  | _, _, _ => none
 | .nilCheck x => match s.ev x with
  | some (.ptr id p) => match s.heap id with
   | some (.box _ _) => K (.ptr id p) []
   | _ => none
  | some (.rp τ v) => K (.rp τ v) []
  | some (.eptr id i p) => match (s.heap id).bind Ja.rowN with
   | some _ => K (.eptr id i p) []
   | none => none
  | _ => none
 | .binOp op t x y _ => match s.ev x, s.ev y with
  | some a, some b => bif a.isAgg then match Eb G.ty t with
   | some τ => match Vf a τ, Vf b τ with
    | some u, some v => bif τ.cmp && τ.isAgg && jy τ.cnt 9000 then match op with
     | .eql => K (.t .b (Jf τ u v)) []
     | .neq => K (.t .b (!Jf τ u v)) []
     | _ => none
     else none
    | _, _ => none
   | none => none
   else CL (match Eb G.ty t with | some .b => true | _ => false) op a b K
  | _, _ => none
 | .unOp op _ x => match op, s.ev x with
  | .not, some (.t .b v) => K (.t .b (!(show Bool from v))) []
  | .neg, some (.t (.i kk) v) => K (.t (.i kk) (kk.wrap ((0 : Int) - v))) []
  | _, _ => none
 | .convert src t x => match Eb G.ty src, Eb G.ty t, s.ev x with
  | some _, some (.i kk), some (.t (.i _) n) => K (.t (.i kk) (kk.wrap n)) []
  | some .s, some .s, some (.t .s v) => K (.t .s v) []
  | some (.sl (.i .u8)), some .s, some d => match Va s d (.sl (.i .u8)) with
   | some v => K (.t .s (ZH v)) []
   | none => none
  | some .s, some (.sl (.i .u8)), some (.t .s v) => bif jy (ja v) Nb then K (.t (.sl (.i .u8)) (Jn v)) [] else none
  | _, _, _ => none
 | .slice t x lo hi none => match s.ev x with
  | some (.t .s v) => match XF s lo, MJ s (ja v) hi, Eb G.ty t with
   | some l, some h, some .s => bif Be (ja v) l h then K (.t .s (Cc v l.toNat h.toNat)) [] else none
   | _, _, _ => none
  | some (.t (.sl e) v) => match XF s lo, MJ s (ja v) hi, Eb G.ty t with
   | some l, some h, some (.sl e') => match Ty.dec e e' with
    | some _ => bif Be (ja v) l h then K (.t (.sl e) (Cc v l.toNat h.toNat)) [] else none
    | none => none
   | _, _, _ => none
  | some (.own id) => DL G s o.dst t id lo hi K
  | some .nil => match XF s lo, MJ s 0 hi, Eb G.ty t with
   | some l, some h, some (.sl _) => bif Be 0 l h then K .nil [] else none
   | _, _, _ => none
  | some (.cut id a b) => LF G s t id a b lo hi K
  | _ => none
 | .fieldAddr t x f => match Eb G.ty t, s.ev x with
  | some τ, some (.ptr id path) => match s.heap id with
   | some (.box ρ _) => match Ee ρ path, Oa τ f with
    | some τ', some τf => match Ty.dec τ' τ with
     | some _ => bif ya 0 τf.size then K (.ptr id (path ++ [f])) [] else none
     | none => none
    | _, _ => none
   | _ => none
  | some τ, some (.eptr id i path) => match (s.heap id).bind Ja.rowN with
   | some (e, _) => match Ee e path, Oa τ f with
    | some τ', some τf => match Ty.dec τ' τ with
     | some _ => bif ya 0 τf.size then K (.eptr id i (path ++ [f])) [] else none
     | none => none
    | _, _ => none
   | none => none
  | some τ, some (.rp τ' v) => match Ty.dec τ' τ, (D.t τ' v).field f, Oa τ' f with
   | some _, some (.t τf u), some τg => bif ya 0 τg.size then K (.rp τf u) [] else none
   | _, _, _ => none
  | _, _ => none
 | .field t x f => match Eb G.ty t, s.ev x with
  | some τ, some d => bif Zb τ d then match Oa τ f, d.field f with
   | some _, some e => K e []
   | _, _ => none
   else none
  | _, _ => none
 | .indexAddr t x i => match Eb G.ty t, s.ev x, s.ev i with
  | some (.sl e'), some (.t (.sl e) xs), some (.t (.i _) n) => match Ty.dec e e' with
   | some _ => j4 (Ic (show List (T e) from xs) n) fun v => K (.rp e v) []
   | none => none
  | some (.sl e'), some (.own id), some (.t (.i _) n) => match (s.heap id).bind Ja.rowN with
   | some (e, len) => match Ty.dec e e' with
    | some _ => bif Te len n then K (.eptr id (jz n) []) [] else none
    | none => none
   | none => none
  | some (.sl e'), some (.cut id lo hi), some (.t (.i _) n) => match (s.heap id).bind Ja.rowN with
   | some (e, _) => match Ty.dec e e' with
    | some _ => bif Te (hi - lo) n then K (.eptr id (lo + jz n) []) [] else none
    | none => none
   | none => none
  | none, some (.eptr id 0 []), some (.t (.i _) n) => match Eb G.ar t, (s.heap id).bind Ja.rowN with
   | some (e', c), some (e, len) => match Ty.dec e e' with
    | some _ => bif qv c len then bif Te len n then K (.eptr id (jz n) []) [] else none else none
    | none => none
   | _, _ => none
  | _, _, _ => none
 | .index t x i => match Eb G.ty t, s.ev x, s.ev i with
  | some .s, some (.t .s v), some (.t (.i _) n) => j4 (Ic (show List UInt8 from v) n) fun c => K (.t (.i .u8) (c.toNat : Int)) []
  | _, _, _ => none
 | .makeSlice t l c => match o.dst, Eb G.ty t, s.ev l, s.ev c with
  | some tt, some (.sl e), some (.t (.i .i64) n), some (.t (.i .i64) m) =>
   bif s.newOk tt then
    bif ((n : Int) == m) && (decide ((0 : Int) ≤ n) && decide ((n : Int) ≤ Nb)) then
     K (.own tt) [(tt, some (.row e true (yb (jz n) (zT e))))]
    else none
   else none
  | _, _, _, _ => none
 | .extract x n => match s.ev x with
  | some (.tup d) => match Kx d n with
   | some e => K e []
   | none => none
  | _ => none
 | .call ⟨.value (.func f), args, _⟩ => UA G s o.dst f args.toList K
 | .call ⟨.builtin .len, args, ts⟩ => match args.toList, ts.toList with
  | [x], [t] => match Eb G.ty t, s.ev x with
   | some (.sl _), some (.t (.sl _) xs) => K (.t (.i .i64) (ja xs : Int)) []
   | some .s, some (.t .s v) => K (.t (.i .i64) (ja v : Int)) []
   | some (.sl _), some .nil => K (.t (.i .i64) (0 : Int)) []
   | some (.sl _), some (.own id) => match (s.heap id).bind Ja.rowN with
    | some (_, len) => K (.t (.i .i64) (len : Int)) []
    | none => none
   | some (.sl _), some (.cut id lo hi) => match (s.heap id).bind Ja.rowN with
    | some _ => K (.t (.i .i64) ((hi - lo : Nat) : Int)) []
    | none => none
   | _, _ => none
  | _, _ => none
 | .call ⟨.builtin .append, args, ts⟩ => match args.toList, ts.toList with
  | [a, b], [t, tx] => DC G s o.dst t tx a b K
  | _, _ => none
 | .call ⟨.builtin .copy, args, ts⟩ => match args.toList, ts.toList with
  | [a, b], [t, tx] => VA G s t tx a b K
  | _, _ => none
 | .call ⟨.builtin .max, args, _⟩ => match args.toList with
  | [x, y] => match s.ev x, s.ev y with
   | some (.t (.i ka) a), some (.t (.i kb) b) => bif ka == kb then K (.t (.i ka) (max (a : Int) b)) [] else none
   | _, _ => none
  | _ => none
 | .call ⟨.builtin .min, args, _⟩ => match args.toList with
  | [x, y] => match s.ev x, s.ev y with
   | some (.t (.i ka) a), some (.t (.i kb) b) => bif ka == kb then K (.t (.i ka) (min (a : Int) b)) [] else none
   | _, _ => none
  | _ => none
 | _ => none
def Se (G : Qd) (s : AS) (o : Oper) (k : AS → Option Out) : Option Out := Qb G s o fun d u => Kf s o.dst d u k
def Aj {α : Type} : List (Int × α) → Int → Option α
 | [], _ => none
 | (k, x) :: r, n => bif n == k then some x else Aj r n
def KH {α : Type} : List (Int × α) → Int → α → List (Int × α)
 | [], n, y => [(n, y)]
 | (k, x) :: r, n, y => bif n == k then (k, y) :: r else (k, x) :: KH r n y
def Ge (κ : Ty) {α : Type} : List (T κ × α) → T κ → Option α
 | [], _ => none
 | (k, x) :: r, n => bif Jf κ n k then some x else Ge κ r n
def Gk (κ : Ty) {α : Type} : List (T κ × α) → T κ → α → List (T κ × α)
 | [], n, y => [(n, y)]
 | (k, x) :: r, n, y => bif Jf κ n k then (n, y) :: r else (k, x) :: Gk κ r n y
def Kr (κ : Ty) : Bool := κ.cmp && (κ.isAgg && jy κ.cnt 9000)
def Uj (G : Qd) (s : AS) (t : TypeId) (m x v : Operand) (K : D → List (Nat × Option Ja) → Option Out) : Option Out :=
 match Eb G.ty t, s.ev m, s.ev x, s.ev v with
 | some (.mp κ τ), some (.mpo id), some dx, some d => match s.heap id with
  | some (.mp κ3 τ3 xs) => match Ty.dec κ κ3, Ty.dec τ τ3, Vf dx κ3, Va s d τ3 with
   | some _, some _, some n, some y => bif Kr κ3 && (!d.hasOwn || ((G.fz && !Dq G.att) && d.noCut)) then K .und ((id, some (.mp κ3 τ3 (Gk κ3 xs n y))) :: bif !d.hasOwn then [] else Ub d.owns) else none
   | _, _, _, _ => none
  | _ => none
 | _, _, _, _ => none
def RM {κ τ : Ty} (xs : List (T κ × T τ)) (n : T κ) (ok : Bool) (K : D → List (Nat × Option Ja) → Option Out) : Option Out :=
 bif ok then K (.tup (.pr (.t τ ((Ge κ xs n).getD (zT τ))) (.pr (.t .b (Ge κ xs n).isSome) .un))) [] else K (.t τ ((Ge κ xs n).getD (zT τ))) []
def Mn (G : Qd) (s : AS) (t : TypeId) (m x : Operand) (ok : Bool) (K : D → List (Nat × Option Ja) → Option Out) : Option Out :=
 match Eb G.ty t, s.ev m, s.ev x with
 | some (.mp κ τ), some (.mpo id), some dx => match s.heap id with
  | some (.mp κ3 τ3 xs) => match Ty.dec κ κ3, Ty.dec τ τ3, Vf dx κ3 with
   | some _, some _, some n => bif Kr κ3 then RM (κ := κ3) (τ := τ3) xs n ok K else none
   | _, _, _ => none
  | _ => none
 | _, _, _ => none
def AS.kAgg (s : AS) (x : Operand) : Bool := match s.ev x with
 | some d => d.isAgg
 | none => false
def Oy : Op → Bool
 | .makeMap _ _ | .lookup _ _ _ _ | .mapUpdate _ _ _ _ | .insert _ _ _ _ => true
 | _ => false
def Hm (G : Qd) (s : AS) (t : TypeId) (m x v : Operand) (K : D → List (Nat × Option Ja) → Option Out) : Option Out :=
 match Eb G.ty t, s.ev m, s.ev x, s.ev v with
 | some (.mp (.i kk) τ), some (.mpo id), some (.t (.i k2) n), some d => match s.heap id, Vf d τ with
  | some (.mp (.i k3) τ3 xs), some y => match Ty.dec τ τ3 with
   | some ⟨h⟩ => bif (kk == k2) && (kk == k3) then K .und [(id, some (.mp (.i k3) τ3 (KH (show List (Int × T τ3) from xs) n (h ▸ y))))] else none
   | none => none
  | _, _ => none
 | _, _, _, _ => none
def Tj (G : Qd) (s : AS) (t : TypeId) (m x v : Operand) (K : D → List (Nat × Option Ja) → Option Out) : Option Out :=
 match Eb G.ty t, s.ev m, s.ev x, s.ev v with
 | some (.mp (.i kk) (.sl e)), some (.mpo id), some (.t (.i k2) n), some d => match s.heap id, Lb s d (.sl e) with
  | some (.mq k3 e3 xs), some (y, l) => match Ty.dec e e3 with
   | some ⟨h⟩ => bif (kk == k2) && ((kk == k3) && (Mf (id :: l) && (G.fz && (!Dq G.att && !UW G.att)))) then
    bif (Aj xs n).isNone then K .und ((id, some (.mq k3 e3 (jf xs [(n, (show List (T e3) from h ▸ y))]))) :: Ub l) else none
    else none
   | none => none
  | _, _ => none
 | _, _, _, _ => none
def Qx {τ : Ty} (xs : List (Int × T τ)) (n : Int) (ok : Bool) (K : D → List (Nat × Option Ja) → Option Out) : Option Out :=
 bif ok then K (.tup (.pr (.t τ ((Aj xs n).getD (zT τ))) (.pr (.t .b (Aj xs n).isSome) .un))) [] else K (.t τ ((Aj xs n).getD (zT τ))) []
def AS.isMq (s : AS) (m : Operand) : Bool := match s.ev m with
 | some (.mpo id) => match s.heap id with
  | some (.mq _ _ _) => true
  | _ => false
 | _ => false
def Xi (G : Qd) (s : AS) (o : Oper) (K : D → List (Nat × Option Ja) → Option Out) : Option Out :=
 match o.op with
 | .makeMap t none => match o.dst, Eb G.ty t with
  | some tt, some (.mp k v) => bif Ou G.mv tt then (match k, v with
   | .i kk, .sl e => bif s.newOk tt then K (.mpo tt) [(tt, some (.mq kk e ([] : List (Int × List (T e)))))] else none
   | _, _ => none) else
   bif s.newOk tt then K (.mpo tt) [(tt, some (.mp k v ([] : List (T k × T v))))] else none
  | _, _ => none
 | .mapUpdate t m x v | .insert t m x v => bif s.kAgg x then Uj G s t m x v K else bif s.isMq m then Tj G s t m x v K else Hm G s t m x v K
 | .lookup t m x ok => bif s.kAgg x then Mn G s t m x ok K else match Eb G.ty t, s.ev m, s.ev x with
  | some (.mp (.i kk) τ), some (.mpo id), some (.t (.i k2) n) => match s.heap id with
   | some (.mp (.i k3) τ3 xs) => match Ty.dec τ τ3 with
    | some _ => bif (kk == k2) && (kk == k3) then Qx (τ := τ3) xs n ok K else none
    | none => none
   | some (.mq k3 e xs) => match Ty.dec τ (.sl e) with
    | some _ => bif (kk == k2) && (kk == k3) then Qx (τ := .sl e) xs n ok K else none
    | none => none
   | some (.mx (.i k3) (.sl e) xs) => match Ty.dec τ (.sl e) with
    | some _ => bif (kk == k2) && ((kk == k3) && (ok && ZC G o.dst)) && s.newOk (100000 + 64 * o.dst.getD 0) then
     K (.tup (.pr (.own (100000 + 64 * o.dst.getD 0)) (.pr (.t .b (Aj xs n).isSome) .un))) [(100000 + 64 * o.dst.getD 0, some (.row e true ((Aj xs n).getD []))), (id, none)] else none
    | none => none
   | _ => none
  | some (.mp (.i kk) τ), some (.t (.mp (.i k3) τ3) xs), some (.t (.i k2) n) => match Ty.dec τ τ3 with
   | some _ => bif (kk == k2) && (kk == k3) then Qx (τ := τ3) xs n ok K else none
   | none => none
  | _, _, _ => none
 | _ => none
def Dy (G : Qd) (s : AS) (o : Oper) (K : D → List (Nat × Option Ja) → Option Out) : Option Out := bif Oy o.op then Xi G s o K else Qb G s o K
def VI (G : Qd) (s : AS) (o : Oper) (k : AS → Option Out) : Option Out := bif Oy o.op then Xi G s o fun d u => Kf s o.dst d u k else Se G s o k
end
inductive Ex where
 | normal
 | exit (id : Nat)
 | ret
inductive TD where
 | data (τ : Ty)
 | own (id : Nat) (e : Ty) (dp : Bool)
 | ptr (id : Nat) (path : List Nat)
 | pr (a b : TD)
 | un
 | hol (id : Nat) (e : Ty) (path : List Nat) (τ : Ty) (d : TD)
 | arr (id : Nat) (e : Ty)
 | mov (id : Nat) (e : Ty)
 | mpo (id : Nat) (k v : Ty)
 | mqo (id : Nat) (kk : IntKind) (e : Ty)
@[reducible] def TD.ty : TD → Ty
 | .data τ => τ
 | .own _ e _ => .sl e
 | .ptr _ _ => .u
 | .pr a b => .p a.ty b.ty
 | .un => .u
 | .hol _ e _ _ d => .p (.sl e) (.p (.i .i64) (.p e d.ty))
 | .arr _ e => .sl e
 | .mov _ e => .p (.sl e) (.i .i64)
 | .mpo _ k v => .mp k v
 | .mqo _ kk e => .mp (.i kk) (.sl e)
structure Ew where
 tm : List (Tmp × TD)
 bx : List (Nat × Ty × TD)
@[reducible] def Ew.tyT : List (Tmp × TD) → Ty
 | [] => .u
 | (_, d) :: r => .p d.ty (Ew.tyT r)
@[reducible] def Ew.tyB : List (Nat × Ty × TD) → Ty
 | [] => .u
 | (_, _, d) :: r => .p d.ty (Ew.tyB r)
@[reducible] def Ew.X (p : Ew) : Type := T (Ew.tyT p.tm) × T (Ew.tyB p.bx)
abbrev Kj := List (Nat × Option Nat)
def Xq : (td : TD) → T td.ty → D
 | .data τ, x => .t τ x
 | .own id _ _, _ => .own id
 | .ptr id p, _ => .ptr id p
 | .pr a b, v => .pr (Xq a v.1) (Xq b v.2)
 | .un, _ => .un
 | .hol id _ _ _ _, _ => .own id
 | .arr id _, _ => .eptr id 0 []
 | .mov id _, _ => .own id
 | .mpo id _ _, _ => .mpo id
 | .mqo id _ _, _ => .mpo id
def Gd (s : AS) : (td : TD) → D → Option (T td.ty × Kj)
 | .data τ, d => match Vf d τ with
  | some x => some (x, [])
  | none => none
 | .own id' e dp, .own id => match s.heap id with
  | some (.row e' dp' xs) => match Ty.dec e' e with
   | some ⟨h⟩ => bif (dp' == dp) || e.flat then some ((h ▸ xs : List (T e)), [(id', some id)]) else none
   | none => none
  | _ => none
 | .own id' _ _, .nil => some (([] : List _), [(id', none)])
 | .hol id' e path τ td, .own id => match s.heap id with
  | some (.hol e' xs i x path' τ' d) => match Ty.dec e' e, Ty.dec τ' τ with
   | some ⟨h⟩, some _ => bif path == path' then match Gd s td d with
    | some (y, m) => bif Zb τ (Xq td y) then some (((h ▸ xs : List (T e)), ((((i : Nat) : Int), ((h ▸ x : T e), y)))), (id', some id) :: m) else none
    | none => none
    else none
   | _, _ => none
  | _ => none
 | .arr id' e, .eptr id 0 [] => match s.heap id with
  | some (.row e' true xs) => match Ty.dec e' e with
   | some ⟨h⟩ => some ((h ▸ xs : List (T e)), [(id', some id)])
   | none => none
  | _ => none
 | .mov id' e, .own id => match s.heap id with
  | some (.row e' true xs) => match Ty.dec e' e with
   | some ⟨h⟩ => some (((h ▸ xs : List (T e)), (0 : Int)), [(id', some id)])
   | none => none
  | some (.mov e' xs k) => match Ty.dec e' e with
   | some ⟨h⟩ => some (((h ▸ xs : List (T e)), ((k : Nat) : Int)), [(id', some id)])
   | none => none
  | _ => none
 | .mpo id' k v, .mpo id => match s.heap id with
  | some (.mp k' v' xs) => match Ty.dec k' k, Ty.dec v' v with
   | some ⟨h⟩, some ⟨g⟩ => some (h ▸ g ▸ xs, [(id', some id)])
   | _, _ => none
  | _ => none
 | .mqo id' kk e, .mpo id => match s.heap id with
  | some (.mq kk' e' xs) => match Ty.dec (.mp (.i kk') (.sl e')) (.mp (.i kk) (.sl e)) with
   | some ⟨h⟩ => some ((h ▸ (show T (.mp (.i kk') (.sl e')) from xs) : T (.mp (.i kk) (.sl e))), [(id', some id)])
   | none => none
  | _ => none
 | .ptr id' p, .ptr id q => bif p == q then some ((), [(id', some id)]) else none
 | .pr a b, d => match d.fst, d.snd with
  | some x, some y => match Gd s a x, Gd s b y with
   | some (u, l), some (v, m) => some ((u, v), l ++ m)
   | _, _ => none
  | _, _ => none
 | .un, d => match Vf d .u with
  | some x => some (x, [])
  | none => none
 | _, _ => none
def G6 (s : AS) : (l : List (Tmp × TD)) → Option (T (Ew.tyT l) × Kj)
 | [] => some ((), [])
 | (t, td) :: r => match Eb s.tm t with
  | some d => match Gd s td d, G6 s r with
   | some (x, m), some (y, n) => some ((x, y), m ++ n)
   | _, _ => none
  | none => none
def ZW (s : AS) : (l : List (Nat × Ty × TD)) → Kj → Option (T (Ew.tyB l) × Kj)
 | [], m => some ((), m)
 | (id', ρ, td) :: r, m => match Eb m id' with
  | some (some id) => match s.heap id with
   | some (.box ρ' d) => match Ty.dec ρ' ρ with
    | some _ => match Gd s td d with
     | some (x, m') => bif Zb ρ (Xq td x) then match ZW s r (m ++ m') with
      | some (y, m'') => some ((x, y), m'')
      | none => none
      else none
     | none => none
    | none => none
   | _ => none
  | _ => none
def FC : Kj → Bool
 | [] => true
 | (j, some i) :: r => ((ya j 500000 && ya i 500000) || qv j i) && FC r
 | (j, none) :: r => ya j 500000 && FC r
def EB (x y : Nat × Option Nat) : Bool := match x.2, y.2 with
 | some a, some c => qv x.1 y.1 == qv a c
 | none, none => true
 | _, _ => !Nat.beq x.1 y.1
def Lag (m : Kj) : Bool := (m.all fun x => m.all fun y => EB x y) && FC m
def ext (p : Ew) (s : AS) : Option p.X :=
 match G6 s p.tm with
 | some (x, m) => match ZW s p.bx m with
  | some (y, m') => bif Lag m' then some (x, y) else none
  | none => none
 | none => none
def It : (td : TD) → T td.ty → List (Nat × Option Ja)
 | .own id e dp, xs => [(id, some (.row e dp xs))]
 | .pr a b, v => It a v.1 ++ It b v.2
 | .hol id e path τ d, v => (id, some (.hol e v.1 (jz v.2.1) v.2.2.1 path τ (Xq d v.2.2.2))) :: It d v.2.2.2
 | .arr id e, xs => [(id, some (.row e true xs))]
 | .mov id e, v => [(id, some (.mov e v.1 (jz v.2)))]
 | .mpo id k v, xs => [(id, some (.mp k v xs))]
 | .mqo id kk e, xs => [(id, some (.mq kk e xs))]
 | _, _ => []
def OP : (l : List (Tmp × TD)) → T (Ew.tyT l) → List (Nat × D)
 | [], _ => []
 | (t, td) :: r, v => (t, Xq td v.1) :: OP r v.2
def EQ : (l : List (Tmp × TD)) → T (Ew.tyT l) → List (Nat × Option Ja)
 | [], _ => []
 | (_, td) :: r, v => It td v.1 ++ EQ r v.2
def NP : (l : List (Nat × Ty × TD)) → T (Ew.tyB l) → List (Nat × Option Ja)
 | [], _ => []
 | (id, ρ, td) :: r, v => (id, some (.box ρ (Xq td v.1))) :: (It td v.1 ++ NP r v.2)
def YC (p : Ew) (x : p.X) (n : Nat) : AS := ⟨n, OP p.tm x.1, EQ p.tm x.1 ++ NP p.bx x.2⟩
structure Ua where
 n : Nat
 inT : Ew
 exitId : Nat
 outT : Ew
 retT : Ew
 F : inT.X → Option (outT.X ⊕ retT.X)
def Ck : Code → Option Nat
 | .region id _ _ => some id
 | .seq a b => match Ck a with
  | some r => some r
  | none => Ck b
 | .cond _ a b => match Ck a with
  | some r => some r
  | none => Ck b
 | .block _ c | .loop c | .scope c => Ck c
 | _ => none
def Ja.ids : Ja → List Nat
 | .box _ d => d.ids
 | .row _ _ _ => []
 | .hol _ _ _ _ _ _ d => d.ids
 | .mov _ _ _ => []
 | .mp _ _ _ => []
 | .mq _ _ _ => []
 | .mx _ _ _ => []
 | .fz _ _ => []
def AS.attach (s : AS) (id : Nat) : Option AS := match s.heap id with
 | some (.hol e xs i x path τ d) => match Lb s d τ with
  | some (y, l) => bif Mf (id :: l) then match Zg e x path τ y with
   | some x' => some ⟨s.n, s.tm, (id, some (.row e true (j7 xs i x'))) :: (Ub l ++ s.hp)⟩
   | none => none
   else none
  | none => none
 | _ => some s
def Ty.isSl : Ty → Bool
 | .sl _ => true
 | _ => false
def Ty.isMp : Ty → Bool
 | .mp _ _ => true
 | _ => false
def D.frz (id : Nat) (τ : Ty) (x : T τ) : D → D
 | .own j => bif qv j id && τ.isSl then .t τ x else .own j
 | .mpo j => bif qv j id && τ.isMp then .t τ x else .mpo j
 | .pr a b => .pr (a.frz id τ x) (b.frz id τ x)
 | .tup d => .tup (d.frz id τ x)
 | d => d
def Ja.frz (id : Nat) (τ : Ty) (x : T τ) : Ja → Ja
 | .box ρ d => .box ρ (d.frz id τ x)
 | .hol e xs i z path τ' d => .hol e xs i z path τ' (d.frz id τ x)
 | b => b
def Ja.shaped : Ja → Bool
 | .box ρ d => Zb ρ d
 | .hol _ _ _ _ _ τ d => Zb τ d
 | _ => true
def AS.freeze (s : AS) (id : Nat) : Option AS := match s.heap id with
 | some (.row e _ xs) => match (s.hp.map fun p => (p.1, p.2.map (Ja.frz id (.sl e) xs))) with
  | hp => bif hp.all fun p => (p.2.map Ja.shaped).getD true then some ⟨s.n, s.tm.map fun p => (p.1, p.2.frz id (.sl e) xs), (id, none) :: hp⟩ else none
 | some (.mp k v xs) => match (s.hp.map fun p => (p.1, p.2.map (Ja.frz id (.mp k v) xs))) with
  | hp => bif hp.all fun p => (p.2.map Ja.shaped).getD true then some ⟨s.n, s.tm.map fun p => (p.1, p.2.frz id (.mp k v) xs), (id, none) :: hp⟩ else none
 | some (.mx k v xs) => match (s.hp.map fun p => (p.1, p.2.map (Ja.frz id (.mp k v) xs))) with
  | hp => bif hp.all fun p => (p.2.map Ja.shaped).getD true then some ⟨s.n, s.tm.map fun p => (p.1, p.2.frz id (.mp k v) xs), (id, none) :: hp⟩ else none
 | _ => some s
def AS.frzParts (s : AS) (id : Nat) : AS := match s.heap id with
 | some (.row e true xs) => ⟨s.n, s.tm, (id, some (.row e false xs)) :: s.hp⟩
 | _ => s
def OB (fz bm : Bool) : List (Nat × Nat) → Nat → AS → Option AS
 | [], _, s => some s
 | (r, id) :: l, n, s => bif qv r n then match (bif jy 1000000000 id then (bif fz && (!bm || s.boxLive) then (bif jy 2000000000 id then some (s.frzParts (id - 2000000000)) else s.freeze (id - 1000000000)) else none) else s.attach id) with
  | some s' => OB fz bm l n s'
  | none => none
  else OB fz bm l n s
structure FP where
 rt : List Nat
 ri : List Nat
 wt : Option Nat
 wi : List Nat
 mi : List Nat
def Wb : Op → List Operand
 | .move x | .assign x => [x]
 | .pick c a b => [c, a, b]
 | .box _ x => [x]
 | .build _ ps => ps.toList.map (·.2)
 | .buildSlice _ _ ps => ps.toList.map (·.2)
 | .load _ x => [x]
 | .store _ x v => [x, v]
 | .nilCheck x => [x]
 | .binOp _ _ x y _ => [x, y]
 | .unOp _ _ x => [x]
 | .convert _ _ x => [x]
 | .slice _ x lo hi _ => x :: (lo.toList ++ hi.toList)
 | .fieldAddr _ x _ => [x]
 | .field _ x _ => [x]
 | .indexAddr _ x i => [x, i]
 | .index _ x i => [x, i]
 | .makeSlice _ l c => [l, c]
 | .extract x _ => [x]
 | .lookup _ m x _ => [m, x]
 | .mapUpdate _ m x v | .insert _ m x v => [m, x, v]
 | .call ⟨_, args, _⟩ => args.toList
 | _ => []
def Bo : List Operand → List Nat
 | [] => []
 | .tmp t :: r => t :: Bo r
 | _ :: r => Bo r
def SC (s : AS) : D → List Nat
 | .ptr id _ => match s.heap id with
  | some (.box _ d) => d.ids
  | _ => []
 | _ => []
def Tz : Op → Bool
 | .call _ => true
 | _ => false
def Sx : Op → Bool
 | .move _ | .assign _ => true
 | _ => false
def Xg : Op → Bool
 | .nilCheck _ | .fieldAddr _ _ _ | .indexAddr _ _ _ => true
 | .call ⟨.builtin .len, _, _⟩ => true
 | _ => false
def LC : Op → Bool
 | .load _ _ | .store _ _ _ => true
 | _ => false
def BE (s : AS) (c : Bool) : List Operand → List Nat
 | [] => []
 | x :: r => match s.ev x with
  | some d => (d.ids ++ bif c then SC s d else []) ++ BE s c r
  | none => BE s c r
def Bq : List (Nat × Option Ja) → List Nat
 | [] => []
 | (_, some b) :: r => b.ids ++ Bq r
 | (_, none) :: r => Bq r
def WJ (H : List Nat) : List Nat → List Nat
 | [] => []
 | x :: r => bif Ou H x then WJ H r else x :: WJ H r
def WQ (H : List Nat) (s : AS) (o : Oper) (g : List Nat) (d : D) (u : List (Nat × Option Ja)) : FP :=
 ⟨g ++ Bo (Wb o.op), bif Sx o.op then [] else bif Xg o.op then WJ H (BE s (Tz o.op) (Wb o.op)) else BE s (Tz o.op) (Wb o.op), o.dst, u.map (·.1), d.ids ++ Bq u⟩
def CP (H : List Nat) (o : Op) (u : List (Nat × Option Ja)) : Bool := match H with
 | [] => true
 | _ => bif LC o then !ME H (u.tail.map (·.1)) else !ME H (u.map (·.1))
def DP : List (Nat × Nat) → Nat → List Nat
 | [], _ => []
 | (r, id) :: l, n => bif qv r n then id :: DP l n else DP l n
def YP (dst : Option Nat) (l : List Nat) : Bool := match dst with
 | some t => l.any fun id => qv id t || (jy (100000 + 64 * t) id && ya id (100064 + 64 * t))
 | none => l.any fun id => jy 100000 id && ya id 100064
def EZ (t : Option Nat) (l : List Nat) : Bool := match t with
 | some t => Ou l t
 | none => false
def MP (f g : FP) : Bool :=
 !EZ f.wt g.rt && !EZ g.wt f.rt && !EZ f.wt g.wt.toList && !ME f.wi g.ri && !ME g.wi f.ri && !ME f.wi g.wi && !YP f.wt g.mi && !YP g.wt f.mi
def PO : List Nat → List Nat → List Nat
 | [], l => l
 | x :: r, l => PO r (bif Ou l x then l else x :: l)
def EL (prev : List (Nat × (List Nat × FP))) : List Edge → List Nat → List Nat
 | [], l => l
 | e :: r, l => bif Region.binds .any e then EL prev r (PO (e.on :: (match Eb prev e.on with
  | some (a, _) => a
  | none => [])) l) else EL prev r l
def X5 (i : Nat) (es : List Edge) : Bool := es.all fun e => !Region.binds .any e || ya e.on i
def CB (anc : List Nat) (f : FP) (prev : List (Nat × (List Nat × FP))) : Bool := prev.all fun p => Ou anc p.1 || MP p.2.2 f
section
variable {Out : Type}
def Qw (G : Qd) (H : List Nat) (ops : Array Oper) : List Oper → Nat → List (Nat × (List Nat × FP)) → AS → (AS → Option Out) → Option Out
 | [], _, _, s, k => k s
 | o :: r, i, prev, s, k => bif X5 i o.after.toList then
  match EL prev o.after.toList [] with
  | anc => match o.guard with
   | none => Dy G s o fun d u => match WQ H s o [] d u with
    | f => bif CB anc f prev && CP H o.op u then Kf s o.dst d u fun s' => Qw G H ops r (i + 1) ((i, (anc, f)) :: prev) s' k else none
   | some (j, want) => match (ops[j]?).bind (·.dst) with
    | some t => match Eb s.tm t with
     | some (.t .b β) => match WQ H s o [t] .und [] with
      | f0 => cond (show Bool from β)
       (bif want then Dy G ⟨s.n, (t, .t .b true) :: s.tm, s.hp⟩ o fun d u => match WQ H s o [t] d u with
        | f => bif CB anc f prev && CP H o.op u then Kf ⟨s.n, (t, .t .b true) :: s.tm, s.hp⟩ o.dst d u fun s' => Qw G H ops r (i + 1) ((i, (anc, f)) :: prev) s' k else none
        else bif CB anc f0 prev then Kf ⟨s.n, (t, .t .b true) :: s.tm, s.hp⟩ o.dst .und [] fun s' => Qw G H ops r (i + 1) ((i, (anc, f0)) :: prev) s' k else none)
       (bif want then bif CB anc f0 prev then Kf ⟨s.n, (t, .t .b false) :: s.tm, s.hp⟩ o.dst .und [] fun s' => Qw G H ops r (i + 1) ((i, (anc, f0)) :: prev) s' k else none
        else Dy G ⟨s.n, (t, .t .b false) :: s.tm, s.hp⟩ o fun d u => match WQ H s o [t] d u with
         | f => bif CB anc f prev && CP H o.op u then Kf ⟨s.n, (t, .t .b false) :: s.tm, s.hp⟩ o.dst d u fun s' => Qw G H ops r (i + 1) ((i, (anc, f)) :: prev) s' k else none)
     | some .und => match WQ H s o [t] .und [] with
      | f0 => bif CB anc f0 prev then Kf s o.dst .und [] fun s' => Qw G H ops r (i + 1) ((i, (anc, f0)) :: prev) s' k else none
     | _ => none
    | none => none
  else none
end
section
variable {Out : Type}
def Ey (G : Qd) (r : Nat) (ops : Array Oper) : List Oper → Nat → AS → (AS → Option Out) → Option Out
 | [], _, s, k => k s
 | o :: rest, i, s, k => match OB G.fz (Dq G.att) G.att (1000 * r + i + 1) s with
  | none => none
  | some s => match o.guard with
   | none => VI G s o fun s' => Ey G r ops rest (i + 1) s' k
   | some (j, want) => match (ops[j]?).bind (·.dst) with
    | some t => match Eb s.tm t with
     | some (.t .b β) => cond (show Bool from β)
      (bif want then VI G ⟨s.n, (t, .t .b true) :: s.tm, s.hp⟩ o fun s' => Ey G r ops rest (i + 1) s' k
       else Kf ⟨s.n, (t, .t .b true) :: s.tm, s.hp⟩ o.dst .und [] fun s' => Ey G r ops rest (i + 1) s' k)
      (bif want then Kf ⟨s.n, (t, .t .b false) :: s.tm, s.hp⟩ o.dst .und [] fun s' => Ey G r ops rest (i + 1) s' k
       else VI G ⟨s.n, (t, .t .b false) :: s.tm, s.hp⟩ o fun s' => Ey G r ops rest (i + 1) s' k)
     | some .und => Kf s o.dst .und [] fun s' => Ey G r ops rest (i + 1) s' k
     | _ => none
    | none => none
def J6 (att : List (Nat × Nat)) (r : Nat) (s : AS) (K : AS → Option Out) : Option Out := match Eb att (1000 * r + 997) with
 | none => K s
 | some c => match Eb s.tm (c % 1000), s.heap (c / 1000) with
  | some (.t (.i _) n), some (.row e true xs) => j4 xs[jz n]? fun x => match Od e x 390000 with
   | (d, u, _) => bif Dd s u && s.ment (c / 1000) then K ⟨s.n, s.tm, (c / 1000, some (.hol e xs (jz n) x [] e d)) :: (u ++ s.hp)⟩ else none
  | _, _ => none
def Nr (G : Qd) (L : List (Nat × Ua)) : Code → AS → (Ex → AS → Option Out) → Option Out
 | .skip, s, k => k .normal s
 | .region r ops draw, s, k => match OB G.fz (Dq G.att) G.att (1000 * r) s with
  | some s => bif draw then J6 G.att r s fun s => Qw G (DP G.att (1000 * r + 998)) ops ops.toList 0 [] s fun s' => match OB G.fz (Dq G.att) G.att (1000 * r + 999) s' with
   | some s' => k .normal s'
   | none => none
   else Ey G r ops ops.toList 0 s fun s' => match OB G.fz (Dq G.att) G.att (1000 * r + 999) s' with
    | some s' => k .normal s'
    | none => none
  | none => none
 | .seq a b, s, k => Nr G L a s fun e s' => match e with
  | .normal => Nr G L b s' k
  | .exit j => k (.exit j) s'
  | .ret => k .ret s'
 | .cond (.tmp t) x y, s, k => match Eb s.tm t with
  | some (.t .b β) => cond (show Bool from β) (Nr G L x ⟨s.n, (t, .t .b true) :: s.tm, s.hp⟩ k) (Nr G L y ⟨s.n, (t, .t .b false) :: s.tm, s.hp⟩ k)
  | _ => none
 | .cond (.const (.bool β)) x y, s, k => cond β (Nr G L x s k) (Nr G L y s k)
 | .block id c, s, k => Nr G L c s fun e s' => match e with
  | .normal => k .normal s'
  | .exit j => bif qv j id then k .normal s' else k (.exit j) s'
  | .ret => k .ret s'
 | .loop c, s, k => match Ck c with
  | some r => match Eb L r with
   | some ls => match ext ls.inT s with
    | some x => bif qv s.n ls.n then j4 (ls.F x) (Sum.elim (fun y => k (.exit ls.exitId) (YC ls.outT y s.n)) (fun z => k .ret (YC ls.retT z s.n))) else none
    | none => none
   | none => none
  | none => none
 | .exit id, s, k => k (.exit id) s
 | .ret, s, k => k .ret s
 | _, _, _ => none
def QE (G : Qd) (L : List (Nat × Ua)) (ls : Ua) (body : Code) (x : ls.inT.X) : Option (ls.inT.X ⊕ (ls.outT.X ⊕ ls.retT.X)) :=
 Nr G L body (YC ls.inT x ls.n) fun e s' => bif qv s'.n ls.n then match e with
  | .normal => match ext ls.inT s' with
   | some x => some (.inl x)
   | none => none
  | .exit j => bif qv j ls.exitId then match ext ls.outT s' with
   | some y => some (.inr (.inl y))
   | none => none
   else none
  | .ret => match ext ls.retT s' with
   | some z => some (.inr (.inr z))
   | none => none
  else none
def Ht (G : Qd) (s : AS) : List ResultVar → Option D
 | [] => some .un
 | .tmp t :: r => match Eb s.tm t, Ht G s r with
  | some d, some e => some (.pr d e)
  | _, _ => none
 | .cell t ty :: r => match Eb s.tm t, Ht G s r with
  | some (.ptr id []), some e => match s.heap id, Eb G.ty ty with
   | some (.box ρ d), some τ => match Ty.dec ρ τ with
    | some _ => some (.pr d e)
    | none => none
   | _, _ => none
  | _, _ => none
def D7 (s : AS) : (rt : Ty) → List Bool → D → Option (T rt)
 | .p (.mp k v) .u, [true], .pr (.mpo id) .un => match s.heap id with
  | some (.mq kk e xs) => match Ty.dec (.mp (.i kk) (.sl e)) (.mp k v) with
   | some ⟨h⟩ => some ((h ▸ (show T (.mp (.i kk) (.sl e)) from xs) : T (.mp k v)), ())
   | none => none
  | _ => none
 | _, _, _ => none
def Ig (s : AS) : (rt : Ty) → List Bool → D → Option (T rt × List Nat)
 | .u, [], .un => some ((), [])
 | .p x y, f :: r, .pr a b => match (bif f then Lb s a x else match Vf a x with
  | some u => some (u, [])
  | none => none), Ig s y r b with
  | some (u, l), some (v, m) => some ((u, v), l ++ m)
  | _, _ => none
 | _, _, _ => none
def Tn : (pt : Ty) → T pt → Nat → List (Nat × D)
 | .p x y, v, n => (n, .t x v.1) :: Tn y v.2 (n + 1)
 | _, _, _ => []
def O8 (G : Qd) (L : List (Nat × Ua)) (fn : Func) (pt rt : Ty) (fr : List Bool) (x : T pt) : Option (T rt) :=
 match fn.body with
 | some c => Nr G L c ⟨fn.ntmps, Tn pt x 0, []⟩ fun e s => match e with
  | .exit _ => none
  | _ => match Ht G s fn.results.toList with
   | some d => match D7 s rt fr d with
    | some r => some r
    | none => match Ig s rt fr d with
     | some (r, l) => bif Mf l then some r else none
     | none => none
   | none => none
 | none => none
end
section
variable {P : Program} {Out : Type} {n0 : Nat} {A : Fx} {O0 : Nat → Prop} {w0 w w' : World} {s : AS} {σ σ' : Nat → Value} {φ φ' : Nat → List Nat} {a : Act}
def Zd (n0 : Nat) (A : Fx) (O0 : Nat → Prop) (w0 : World) (k : AS → Option Out) (out : Out) (a : Act) (w : World) : Prop :=
 ∃ s σ φ, k s = some out ∧ Ra n0 A O0 w0 s σ φ a w
theorem Ra.put (h : Ra n0 A O0 w0 s σ φ a w) {t : Nat} (ht : t < s.n) {d : D} {v : Value} (hr : Nc w (OO O0 s φ) s.heap σ d v) :
 Ra n0 A O0 w0 ⟨s.n, (t, d) :: s.tm, s.hp⟩ σ φ (a.put (some t) v) w := by
 refine ⟨?_, h.df, ?_, h.hp, h.nodup, h.disj, h.fresh, h.o0, h.fr, h.pin, h.iv0, h.ivw, h.shr⟩
 ·simpa [Act.put] using h.sz
 ·intro t' d' hd
  rw [Vb] at hd
  have hsz := h.sz
  split at hd
  ·rename_i e
   subst e
   simp only [jc] at hd
   subst hd
   exact ⟨v, by simp [Act.put, hsz, ht], hr⟩
  ·rename_i e
   obtain ⟨v', hv', hr'⟩ := h.tm t' d' hd
   exact ⟨v', by simpa [Act.put, Array.getElem?_setIfInBounds_ne e] using hv', hr'⟩
theorem Ra.same (h : Ra n0 A O0 w0 s σ φ a w) {t : Nat} {d : D} (hd : Eb s.tm t = some d) :
 Ra n0 A O0 w0 ⟨s.n, (t, d) :: s.tm, s.hp⟩ σ φ a w := by
 refine ⟨h.sz, h.df, ?_, h.hp, h.nodup, h.disj, h.fresh, h.o0, h.fr, h.pin, h.iv0, h.ivw, h.shr⟩
 intro t' d' hd'
 rw [Vb] at hd'
 split at hd'
 ·rename_i e
  subst e
  simp only [jc] at hd'
  subst hd'
  exact h.tm _ _ hd
 ·exact h.tm _ _ hd'
variable {o : Oper} {Q : Exit → Act → World → Prop} {k : AS → Option Out} {out : Out} {d : D} {v : Value} {upd : List (Nat × Option Ja)} {dst : Option Tmp}
theorem Hd {s₁ : AS} (hn : s₁ = ⟨s.n, s.tm, upd ++ s.hp⟩) (hc : Ra n0 A O0 w0 s₁ σ' φ' a w') (hr : Nc w' (OO O0 s₁ φ') s₁.heap σ' d v)
 (he : Kf s dst d upd k = some out) : Zd n0 A O0 w0 k out (a.put dst v) w' := by
 subst hn
 unfold Kf at he
 cases dst with
 | none => exact ⟨_, σ', φ', he, hc⟩
 | some t =>
  simp only at he
  cases hb : ya t s.n with
  | false => simp [hb] at he
  | true =>
   rw [hb] at he
   have ht : t < s.n := by rwa [yc] at hb
   exact ⟨_, σ', φ', he, Ra.put (s := ⟨s.n, s.tm, upd ++ s.hp⟩) hc ht hr⟩
theorem Sb (h : Ra n0 A O0 w0 s σ φ a w) (hr : Nc w (OO O0 s φ) s.heap σ d v) (he : Kf s dst d [] k = some out) :
 Zd n0 A O0 w0 k out (a.put dst v) w := Hd (s := s) (s₁ := s) rfl h hr he
theorem C7 {cv : Value} {d : D} (h : BJ cv = some d) {O : Nat → Prop} {hp : Nat → Option Ja} : Nc w O hp σ d cv := by
 unfold BJ at h
 split at h <;> simp only [jc, reduceCtorEq] at h
 ·subst h; simp [Nc, Ae, D.isAgg, Wa, Ka]
 ·subst h; simp [Nc, Ae, D.isAgg, Wa, Ka]
 ·subst h; simp [Nc, Ae, D.isAgg, Wa, Ka]
 ·subst h; simp [Nc, Ae, D.isAgg, Wa]
 ·subst h; simp [Nc]
 ·subst h; simp [Nc]
theorem Ra.ev (h : Ra n0 A O0 w0 s σ φ a w) {x : Operand} {d : D} (hx : s.ev x = some d) : Nc w (OO O0 s φ) s.heap σ d (a.eval x) := by
 cases x with
 | tmp t =>
  obtain ⟨v, hv, hr⟩ := h.tm t d hx
  simp only [Act.eval]
  rw [Array.getD_eq_getD_getElem?, hv]
  exact hr
 | const v => exact C7 hx
 | _ => simp [AS.ev] at hx
theorem Xd {O : Nat → Prop} {hp : Nat → Option Ja} {k : IntKind} {n : Int} {v : Value} : Nc w O hp σ (.t (.i k) n) v ↔ v = .int k n := by
 simp [Nc, Ae, D.isAgg, Wa, Ka]
theorem Ki {O : Nat → Prop} {hp : Nat → Option Ja} {n : Bool} {v : Value} : Nc w O hp σ (.t .b n) v ↔ v = .bool n := by
 simp [Nc, Ae, D.isAgg, Wa, Ka]
theorem Bl {O : Nat → Prop} {hp : Nat → Option Ja} {n : List UInt8} {v : Value} : Nc w O hp σ (.t .s n) v ↔ v = .string ⟨n.toArray⟩ := by
 simp [Nc, Ae, D.isAgg, Wa, Ka]
theorem Ro {O : Nat → Prop} {hp : Nat → Option Ja} {v : Value} : Nc w O hp σ .und v ↔ v = undef := by simp [Nc]
theorem Rag (h : Ra n0 A O0 w0 s σ φ a w) {tb : Bool} {op : BinOp} {t : TypeId} {x y : D} {u v : Value} {X Y : Operand}
 (hx : Nc w (OO O0 s φ) s.heap σ x u) (hy : Nc w (OO O0 s φ) s.heap σ y v) (he : Cal s tb dst op x y k = some out) (htb : tb = true → P.underlying t = some .bool) :
 ∃ r, (do eqGuard op t X Y u v; binOp op t u v : Sem Value).run P w = .ok r w ∧ Zd n0 A O0 w0 k out (a.put dst r) w := by
 unfold Cal CL at he
 split at he
 ·rename_i ka x kb y
  rw [Xd] at hx hy
  subst hx; subst hy
  have hg : (eqGuard op t X Y (.int ka x) (.int kb y)).run P w = .ok () w := by
   unfold eqGuard; split <;> rfl
  simp only [qm, hg, ql]
  have shi : ∀ {op : BinOp} {z : Int}, Kf s dst (.t (.i ka) z) [] k = some out → (binOp op t (.int ka x) (.int kb y)).run P w = .ok (.int ka z) w →
   ∃ r, (binOp op t (.int ka x) (.int kb y)).run P w = .ok r w ∧ Zd n0 A O0 w0 k out (a.put dst r) w :=
   fun hf hr => ⟨_, hr, Sb h (Xd.2 rfl) hf⟩
  have shb : ∀ {op : BinOp} {z : Bool}, Kf s dst (.t .b z) [] k = some out → (binOp op t (.int ka x) (.int kb y)).run P w = .ok (.bool z) w →
   ∃ r, (binOp op t (.int ka x) (.int kb y)).run P w = .ok r w ∧ Zd n0 A O0 w0 k out (a.put dst r) w :=
   fun hf hr => ⟨_, hr, Sb h (Ki.2 rfl) hf⟩
  split at he
  ·cases hy0 : decide (0 ≤ y) with
   | false => simp [hy0] at he
   | true =>
    simp only [hy0, y3] at he
    have : ¬ y < 0 := by simpa using hy0
    refine shi he ?_
    simp [binOp, Op.shift, this, Re]
  ·cases hy0 : decide (0 ≤ y) with
   | false => simp [hy0] at he
   | true =>
    simp only [hy0, y3] at he
    have : ¬ y < 0 := by simpa using hy0
    refine shi he ?_
    simp [binOp, Op.shift, this, Mu]
  ·cases hk : (ka == kb) with
   | false => simp [hk] at he
   | true =>
    simp only [hk, y3] at he
    have hkk : ka = kb := by simpa using hk
    subst hkk
    split at he
    ·refine shi he ?_; simp [binOp, Op.intArith]
    ·refine shi he ?_; simp [binOp, Op.intArith]
    ·refine shi he ?_; simp [binOp, Op.intArith]
    ·cases hz : ((y : Int) == 0) with
     | true => simp [hz] at he
     | false =>
      simp only [hz, y8] at he
      have : ¬ y = 0 := by simpa using hz
      refine shi he ?_
      simp [binOp, Op.intDiv, this]
    ·cases hz : ((y : Int) == 0) with
     | true => simp [hz] at he
     | false =>
      simp only [hz, y8] at he
      have : ¬ y = 0 := by simpa using hz
      refine shi he ?_
      simp [binOp, Op.intDiv, this]
    ·refine shi he ?_; simp [binOp, Op.intBits, Lk]
    ·refine shi he ?_; simp [binOp, Op.intBits, Ed]
    ·refine shi he ?_; simp [binOp, Op.intBits, Py]
    ·refine shi he ?_; simp [binOp, Op.intBits, Zh]
    ·refine shb he ?_; simp [binOp, Op.intCmp]
    ·refine shb he ?_; simp [binOp, Op.intCmp]
    ·refine shb he ?_; simp [binOp, Op.intCmp]
    ·refine shb he ?_; simp [binOp, Op.intCmp]
    ·refine shb he ?_; simp [binOp, Op.intCmp]
    ·refine shb he ?_; simp [binOp, Op.intCmp]
    ·simp at he
 ·rename_i x y
  rw [Bl] at hx hy
  subst hx; subst hy
  have hg : (eqGuard op t X Y (.string ⟨qp x⟩) (.string ⟨qp y⟩)).run P w = .ok () w := by
   unfold eqGuard; split <;> rfl
  simp only [qm, hg, ql]
  have e1 : (ByteArray.mk (qp x)).toList = x := ByteArray.toList_mk x
  have e2 : (ByteArray.mk (qp y)).toList = y := ByteArray.toList_mk y
  split at he
  ·cases hl : jy (ja x + ja y) Nb with
   | false => simp [hl] at he
   | true =>
    simp only [hl, y3] at he
    have hle := qz hl
    refine ⟨_, ?_, Sb h (Bl.2 rfl) he⟩
    have hs : ¬ (((ByteArray.mk (qp x)).size + (ByteArray.mk (qp y)).size : Nat) : Int) > IntKind.i64.max := by
     have : (ByteArray.mk (qp x)).size + (ByteArray.mk (qp y)).size = ja x + ja y := by simp [ByteArray.size]
     rw [this]
     have : IntKind.i64.max = 9223372036854775807 := by decide
     rw [this]
     unfold Nb at hle
     omega
    have ha : ByteArray.mk (qp x) ++ ByteArray.mk (qp y) = ByteArray.mk (qp (jf x y)) := by
     apply ByteArray.ext
     simp
    simp only [binOp, Op.stringOp, if_neg hs, ha]
    rfl
  ·refine ⟨_, ?_, Sb h (Ki.2 rfl) he⟩
   simp [binOp, Op.stringOp, e1, e2]
  ·refine ⟨_, ?_, Sb h (Ki.2 rfl) he⟩
   simp [binOp, Op.stringOp, e1, e2, bne]
  ·simp at he
 ·rename_i x y
  rw [Ki] at hx hy
  subst hx; subst hy
  have hg : (eqGuard op t X Y (.bool x) (.bool y)).run P w = .ok () w := by
   unfold eqGuard; split <;> rfl
  simp only [qm, hg, ql]
  split at he
  ·cases tb with
   | false => simp at he
   | true =>
    refine ⟨_, ?_, Sb h (Ki.2 rfl) he⟩
    simp [binOp, run_equal_bool w t x y (htb rfl)]
  ·cases tb with
   | false => simp at he
   | true =>
    refine ⟨_, ?_, Sb h (Ki.2 rfl) he⟩
    simp [binOp, run_equal_bool w t x y (htb rfl), bne]
  ·simp at he
 ·simp at he
end
def TM (P : Program) (t : TypeId) (e : Ty) (n : Nat) : Bool :=
 (match P.underlying t with
 | some (.array m et) => qv m n && Kc P e et
 | _ => false) && (match P.info? t with
 | some i => (match i.zero with
  | some (.agg cs) => IB cs.toList (yb n e.zc).flatten
  | _ => false)
 | none => false)
structure EnvTy (P : Program) (G : Qd) : Prop where
 ty : ∀ t τ, Eb G.ty t = some τ → Kc P τ t = true
 ar : ∀ t e n, Eb G.ar t = some (e, n) → TM P t e n = true
section
variable {P : Program} {Out : Type} {n0 : Nat} {A : Fx} {O0 : Nat → Prop} {w0 w w' : World} {s : AS} {σ σ' : Nat → Value} {φ φ' : Nat → List Nat} {a : Act}
variable {o : Oper} {Q : Exit → Act → World → Prop} {k : AS → Option Out} {out : Out} {d : D} {v : Value} {upd : List (Nat × Option Ja)} {dst : Option Tmp} {G : Qd}
theorem Jb (hrun : (execOp a.eval o).run P w = .ok (.value v) w') (hg : Zd n0 A O0 w0 k out (a.put o.dst v) w') : o.wp P a w (Zd n0 A O0 w0 k out) Q := by
 unfold Oper.wp; rw [hrun]; exact hg
theorem Fv (hrun : (execOp a.eval o).run P w = .ok .skip w') (hg : Zd n0 A O0 w0 k out (a.put o.dst undef) w') : o.wp P a w (Zd n0 A O0 w0 k out) Q := by
 unfold Oper.wp; rw [hrun]; exact hg
theorem C3 (h : Ra n0 A O0 w0 s σ φ a w) {x : Operand} (ho : o.op = .move x ∨ o.op = .assign x)
 (he : (match s.ev x with | some d => Kf s o.dst d [] k | none => none) = some out) : o.wp P a w (Zd n0 A O0 w0 k out) Q := by
 split at he
 ·rename_i d hd
  refine Jb (v := a.eval x) (w' := w) ?_ (Sb h (h.ev hd) he)
  rcases ho with ho | ho <;> simp [execOp, ho]
 ·simp at he
theorem Faj (h : Ra n0 A O0 w0 s σ φ a w) {c x y : Operand} (ho : o.op = .pick c x y)
 (he : Se G s o k = some out) : o.wp P a w (Zd n0 A O0 w0 k out) Q := by
 simp only [Se, Qb, ho] at he
 split at he
 ·rename_i β hc
  have hv := h.ev hc
  rw [Ki] at hv
  have hrun : ∀ z : Value, (if (show Bool from β) then a.eval x else a.eval y) = z → (execOp a.eval o).run P w = .ok (.value z) w := by
   intro z hz
   simp only [execOp, ho, hv, asBool, qm, Sem.run_pure, ql]
   rw [← hz]
  cases hb : (show Bool from β) with
  | true =>
   have hb' : β = true := hb
   subst hb'
   simp only [y3] at he
   split at he
   ·rename_i d hd
    exact Jb (hrun _ rfl) (Sb h (h.ev hd) he)
   ·simp at he
  | false =>
   have hb' : β = false := hb
   subst hb'
   simp only [y8] at he
   split at he
   ·rename_i d hd
    exact Jb (hrun _ rfl) (Sb h (h.ev hd) he)
   ·simp at he
 ·simp at he
theorem Gaj (h : Ra n0 A O0 w0 s σ φ a w) {op : UnOp} {t : TypeId} {x : Operand} (ho : o.op = .unOp op t x)
 (he : Se G s o k = some out) : o.wp P a w (Zd n0 A O0 w0 k out) Q := by
 simp only [Se, Qb, ho] at he
 split at he
 ·rename_i b hx
  have hv := h.ev hx
  rw [Ki] at hv
  exact Jb (w' := w) (by simp [execOp, ho, hv, Op.unary]) (Sb h (Ki.2 rfl) he)
 ·rename_i kk n hx
  have hv := h.ev hx
  rw [Xd] at hv
  exact Jb (w' := w) (by simp [execOp, ho, hv, Op.unary, Op.intArith]) (Sb h (Xd.2 rfl) he)
 ·simp at he
theorem Zac (hG : EnvTy P G) (h : Ra n0 A O0 w0 s σ φ a w) {op : BinOp} {t t' : TypeId} {x y : Operand} (ho : o.op = .binOp op t x y t')
 (hagg : ∀ u, s.ev x = some u → u.isAgg = false) (he : Se G s o k = some out) : o.wp P a w (Zd n0 A O0 w0 k out) Q := by
 simp only [Se, Qb, ho] at he
 split at he
 ·rename_i u v hu hv
  rw [hagg u hu] at he
  simp only [y8] at he
  obtain ⟨r, hr, hg⟩ := Rag (P := P) (t := t) (X := x) (Y := y) h (h.ev hu) (h.ev hv) he (by
   intro htb
   split at htb
   ·rename_i hb; exact Tok.b (hG.ty _ _ hb)
   ·simp at htb)
  exact Jb (w' := w) (by simp only [execOp, ho]; rw [qm, hr]; rfl) hg
 ·simp at he
theorem Sm {O : Nat → Prop} {hp : Nat → Option Ja} {τ : Ty} {d : D} {cs : List Value} (hs : Ab τ d) (h : Wa w O hp σ d cs) : Nc w O hp σ d (Sc τ cs) := by
 have ha := hs.isAgg
 have hl := Wa.length hs h
 have key : Ae w O hp σ d (Sc τ cs) := by
  unfold Ae Sc
  rw [ha]
  cases hτ : τ.isAgg with
  | true => simp only [if_true]; exact ⟨cs.toArray, rfl, by simpa using h⟩
  | false =>
   simp only [jr, if_false]
   rw [Ty.size_one hτ] at hl
   obtain ⟨v, rfl⟩ := q8.1 hl
   simpa using h
 unfold Nc
 split
 ·cases τ <;> simp [Ab] at hs
 ·cases τ <;> simp [Ab] at hs
 ·cases τ <;> simp [Ab] at hs
 ·exact key
theorem Kd {O : Nat → Prop} {hp : Nat → Option Ja} {τ : Ty} {d : D} {v : Value} (hs : Ab τ d) (h : Nc w O hp σ d v) : Wa w O hp σ d v.cells.toList ∧ v = Sc τ v.cells.toList := by
 have hV : Ae w O hp σ d v := by
  cases d <;> first | (exact h) | (cases τ <;> simp [Ab] at hs)
 have ha := hs.isAgg
 unfold Ae at hV
 rw [ha] at hV
 cases hτ : τ.isAgg with
 | true =>
  rw [hτ] at hV
  simp only [if_true] at hV
  obtain ⟨cs, rfl, hr⟩ := hV
  exact ⟨by simpa [Value.cells] using hr, by simp [Sc, hτ, Value.cells]⟩
 | false =>
  rw [hτ] at hV
  simp only [jr, if_false] at hV
  have hone : v.cells = #[v] := by
   cases d with
   | t τ' x =>
    simp only [Ab] at hs
    subst hs
    cases τ' with
    | i k => simp only [Wa, Ka] at hV; simp at hV; subst hV; rfl
    | b => simp only [Wa, Ka] at hV; simp at hV; subst hV; rfl
    | o => simp only [Wa, Ka] at hV; simp at hV; subst hV; rfl
    | mp k m => obtain ⟨hq, _⟩ | ⟨q, es, clk, hq, _⟩ := hV <;> (simp at hq; subst hq; rfl)
    | s => simp only [Wa, Ka] at hV; simp at hV; subst hV; rfl
    | sl e => obtain ⟨q, c, hq, _⟩ := hV; simp at hq; subst hq; rfl
    | u => simp [Ty.isAgg] at hτ
    | p x y => simp [Ty.isAgg] at hτ
   | nil => simp only [Wa] at hV; simp at hV; subst hV; rfl
   | own id =>
    obtain ⟨u, hu, h1, _⟩ := hV
    simp at hu; subst hu
    cases v <;> simp_all [Value.oneCell', Value.cells]
   | mpo id =>
    obtain ⟨u, hu, h1, _⟩ := hV
    simp at hu; subst hu
    cases v <;> simp_all [Value.oneCell', Value.cells]
   | cut id lo hi =>
    obtain ⟨u, hu, h1, _⟩ := hV
    simp at hu; subst hu
    cases v <;> simp_all [Value.oneCell', Value.cells]
   | _ => cases τ <;> simp [Ab, Ty.isAgg] at hs hτ
  rw [hone]
  exact ⟨by simpa using hV, by simp [Sc, hτ]⟩
end
theorem Pc {x y : Ty} {q : PLift (x = y)} (_ : Ty.dec x y = some q) : x = y := q.down
section
variable {P : Program} {Out : Type} {n0 : Nat} {A : Fx} {O0 : Nat → Prop} {w0 w w' : World} {s : AS} {σ σ' : Nat → Value} {φ φ' : Nat → List Nat} {a : Act}
variable {o : Oper} {Q : Exit → Act → World → Prop} {k : AS → Option Out} {out : Out} {d : D} {v : Value} {upd : List (Nat × Option Ja)} {dst : Option Tmp} {G : Qd}
theorem Al {id : Nat} {path : List Nat} {hp : Nat → Option Ja} {O : Nat → Prop} : Nc w O hp σ (.ptr id path) v ↔
 v.oneCell' = true ∧ ∀ ρ d, hp id = some (.box ρ d) → ∃ b, σ id = .pointer (some ⟨b, 0, none⟩) ∧ v = .pointer (some ⟨b, Db ρ path, none⟩) := by
 simp only [Nc, Ae, D.isAgg, jr, if_false, Wa]
 constructor
 ·rintro ⟨u, hu, h1, h2⟩
  simp at hu; subst hu; exact ⟨h1, h2⟩
 ·rintro ⟨h1, h2⟩; exact ⟨v, rfl, h1, h2⟩
theorem Li {id i : Nat} {path : List Nat} {hp : Nat → Option Ja} {O : Nat → Prop} : Nc w O hp σ (.eptr id i path) v ↔
 v.oneCell' = true ∧ ∀ Da e n, hp id = some Da → Da.rowN = some (e, n) → i < n ∧
  ∃ b off cap, σ id = .slice (some ⟨b, off, none⟩) n cap ∧ v = .pointer (some ⟨b, off + i * e.size + Db e path, none⟩) := by
 simp only [Nc, Ae, D.isAgg, jr, if_false, Wa]
 constructor
 ·rintro ⟨u, hu, h1, h2⟩
  simp at hu; subst hu; exact ⟨h1, h2⟩
 ·rintro ⟨h1, h2⟩; exact ⟨v, rfl, h1, h2⟩
theorem CG {τ : Ty} {x : T τ} {hp : Nat → Option Ja} {O : Nat → Prop} : Nc w O hp σ (.rp τ x) v ↔
 ∃ b off cur et fr, v = .pointer (some ⟨b, off, none⟩) ∧ ¬ O b ∧ w.heap[b]? = some (.cells cur et fr) ∧ off + τ.size ≤ cur.size ∧ Ka w O τ x (Rc cur off τ.size) := by
 simp [Nc, Ae, D.isAgg, Wa]
theorem MC {e : Ty} {x : List (T e)} {hp : Nat → Option Ja} {O : Nat → Prop} : Nc w O hp σ (.t (.sl e) x) v ↔ Ka w O (.sl e) x [v] := by
 simp [Nc, Ae, D.isAgg, Wa]
theorem Ar {w : World} : ∀ {τ : Ty} {x : T τ} {cs : List Value} {F : List Nat}, τ.flat = true → Ob w τ x cs F → F = []
 | .i _, _, _, _, _, h => h.2
 | .b, _, _, _, _, h => h.2
 | .o, _, _, _, _, h => h.2
 | .mp _ _, _, _, _, hf, _ => by simp [Ty.flat] at hf
 | .s, _, _, _, _, h => h.2
 | .sl _, _, _, _, hf, _ => by simp [Ty.flat] at hf
 | .u, _, _, _, _, h => h.2
 | .p x y, _, _, _, hf, h => by
  obtain ⟨c1, c2, F1, F2, _, hF, h1, h2⟩ := h
  simp only [Ty.flat, jd] at hf
  rw [hF, Ar hf.1 h1, Ar hf.2 h2]; rfl
theorem Pad {id : Nat} {e : Ty} {dp : Bool} {xs : List (T e)} {O : Nat → Prop} {hp : Nat → Option Ja} {F : List Nat} (h : Ec w O hp σ id (.row e dp xs) F)
 (hf : dp = false ∨ e.flat = true) {i : Nat} {x : T e} (hx : xs[i]? = some x) {b off cap : Nat} (hσ : σ id = .slice (some ⟨b, off, none⟩) (ja xs) cap) :
 ∃ cur et, w.heap[b]? = some (.cells cur et (0, 0)) ∧ off + i * e.size + e.size ≤ cur.size ∧ Ka w O e x (Rc cur (off + i * e.size) e.size) := by
 have hi : i < ja xs := (q7.1 hx).1
 have hxe : List.get xs ⟨i, hi⟩ = x := by simpa [je hi] using hx
 have hlt : (i + 1) * e.size ≤ ja xs * e.size := jn _ hi
 rw [yd, ye] at hlt
 cases dp with
 | true =>
  have hfl : e.flat = true := by simpa using hf
  simp only [Ec, Ob, hσ] at h
  obtain ⟨hm, ⟨h1, _⟩ | ⟨bl, off', cap', cur, et, Fs, h1, hh, h2, h3, h4, hF, hl, hv⟩⟩ := h
  ·simp at h1
  ·simp at h1
   obtain ⟨⟨rfl, rfl⟩, rfl⟩ := h1
   have := hv i hi
   rw [hxe] at this
   have hcap := jn e.size h2
   refine ⟨cur, et, hh, by omega, ?_⟩
   have hnil : Fs.getD i [] = [] := Ar hfl this
   exact this.view (by rw [hnil]; simp)
 | false =>
  simp only [Ec, hσ] at h
  obtain ⟨hm, ⟨h1, _⟩ | ⟨bl, off', cap', cur, et, h1, hh, h2, h3, h4, hF, hv⟩⟩ := h
  ·simp at h1
  ·simp at h1
   obtain ⟨⟨rfl, rfl⟩, rfl⟩ := h1
   have := hv i hi
   rw [hxe] at this
   have hcap := jn e.size h2
   exact ⟨cur, et, hh, by omega, this⟩
end
section
variable {P : Program} {Out : Type} {n0 : Nat} {A : Fx} {O0 : Nat → Prop} {w0 w w' : World} {s : AS} {σ σ' : Nat → Value} {φ φ' : Nat → List Nat} {a : Act}
variable {o : Oper} {Q : Exit → Act → World → Prop} {k : AS → Option Out} {out : Out} {d : D} {v : Value} {upd : List (Nat × Option Ja)} {dst : Option Tmp} {G : Qd}
theorem Tok.field {τ τf : Ty} {t : TypeId} {n : Nat} (h : Kc P τ t = true) (hf : Oa τ n = some τf) :
 ∃ fs f, P.underlying t = some (.struct fs) ∧ fs[n]? = some f ∧ f.offset = Bc τ n ∧ Kc P τf f.type = true := by
 have ha : τ.isAgg = true := by cases τ <;> simp_all [Oa, Ty.isAgg]
 obtain ⟨fs, hu, hk⟩ := Tok.struct ha h
 obtain ⟨f, h1, h2, h3⟩ := Fok.field hk hf
 exact ⟨fs, f, hu, by simpa using h1, by simpa using h2, h3⟩
theorem FF {τ τf : Ty} {t : TypeId} {n : Nat} (h : Kc P τ t = true) (hf : Oa τ n = some τf) (hs : 0 < τf.size) (b off : Nat) :
 (Instr.fieldAt t (.pointer (some ⟨b, off, none⟩)) n).run P w = .ok (.pointer (some ⟨b, off + Bc τ n, none⟩)) w := by
 obtain ⟨fs, f, hu, h1, h2, h3⟩ := Tok.field h hf
 have hz : ¬ τf.size = 0 := by omega
 simp [Instr.fieldAt, run_underlying hu, h1, Instr.sureAddr, fieldPlace, Tok.sizeOf h3 w, hz, Lm, h2]
theorem LH : ∀ {p : List Nat} {ρ τ : Ty} {f : Nat}, Ee ρ p = some τ → Db ρ (p ++ [f]) = Db ρ p + Bc τ f
 | [], ρ, τ, f, h => by
  simp only [Ee, jc] at h
  subst h
  simp only [List.nil_append, Db, jt]
  cases Oa ρ f <;> simp
 | g :: p, ρ, τ, f, h => by
  simp only [Ee] at h
  cases hg : Oa ρ g with
  | none => simp [hg] at h
  | some τ' =>
   simp only [hg, jb] at h
   have := LH (f := f) h
   simp only [yf, Db, hg, qc, qx, this]
   omega
theorem KY (hG : EnvTy P G) (h : Ra n0 A O0 w0 s σ φ a w) {t : TypeId} {x : Operand} {f : Nat} (ho : o.op = .fieldAddr t x f)
 (he : Se G s o k = some out) : o.wp P a w (Zd n0 A O0 w0 k out) Q := by
 simp only [Se, Qb, ho] at he
 split at he
 ·rename_i τ id path hty hx
  split at he
  ·rename_i ρ d hb
   split at he
   ·rename_i τ' τf ht hf
    split at he
    ·rename_i q hq
     obtain rfl := Pc hq
     cases hz : ya 0 τf.size with
     | false => simp [hz] at he
     | true =>
      simp only [hz, y3] at he
      rw [yc] at hz
      have hv := h.ev hx
      rw [Al] at hv
      obtain ⟨b, hσ, hv⟩ := hv.2 ρ d hb
      have hr := FF (w := w) (hG.ty _ _ hty) hf hz b (Db ρ path)
      refine Jb (w' := w) (v := .pointer (some ⟨b, Db ρ path + Bc τ' f, none⟩)) (by simp [execOp, ho, hv, hr]) (Sb h ?_ he)
      rw [Al]
      refine ⟨rfl, fun ρ' d' hb' => ?_⟩
      rw [hb] at hb'
      simp at hb'
      obtain ⟨rfl, rfl⟩ := hb'
      exact ⟨b, hσ, by rw [LH ht]⟩
    ·simp at he
   ·simp at he
  ·simp at he
 ·rename_i τ id i path hty hx
  split at he
  ·rename_i e len hbN
   obtain ⟨Da, hb, hN⟩ := qf.1 hbN
   split at he
   ·rename_i τ' τf ht hf
    split at he
    ·rename_i q hq
     obtain rfl := Pc hq
     cases hz : ya 0 τf.size with
     | false => simp [hz] at he
     | true =>
      simp only [hz, y3] at he
      rw [yc] at hz
      have hv := h.ev hx
      rw [Li] at hv
      obtain ⟨hi, b, off, cap, hσ, hv⟩ := hv.2 _ _ _ hb hN
      have hr := FF (w := w) (hG.ty _ _ hty) hf hz b (off + i * e.size + Db e path)
      refine Jb (w' := w) (v := .pointer (some ⟨b, off + i * e.size + Db e path + Bc τ' f, none⟩)) (by simp [execOp, ho, hv, hr]) (Sb h ?_ he)
      rw [Li]
      refine ⟨rfl, fun blk' e' n' hb' hr' => ?_⟩
      rw [hb] at hb'
      cases hb'
      rw [hN] at hr'
      simp only [jc, jh] at hr'
      obtain ⟨rfl, rfl⟩ := hr'
      exact ⟨hi, b, off, cap, hσ, by rw [LH ht]; congr 3; omega⟩
    ·simp at he
   ·simp at he
  ·simp at he
 ·rename_i τ τ' y hty hx
  split at he
  ·rename_i q τf u τg hq hfd hf
   obtain rfl := Pc hq
   cases hz : ya 0 τg.size with
   | false => simp [hz] at he
   | true =>
    simp only [hz, y3] at he
    rw [yc] at hz
    have hv := h.ev hx
    rw [CG] at hv
    obtain ⟨b, off, cur, et, fr, hv, hO, hh, hs, hvw⟩ := hv
    have hr := FF (w := w) (hG.ty _ _ hty) hf hz b off
    have hrep : Wa w (OO O0 s φ) s.heap σ (.t τ' y) (Rc cur off τ'.size) := hvw
    obtain ⟨hse, hre⟩ := Wa.field (by simp [Ab]) hf hfd hrep
    simp only [Ab] at hse
    subst hse
    have hle := Up hf
    rw [GG _ _ _ _ _ hle] at hre
    refine Jb (w' := w) (v := .pointer (some ⟨b, off + Bc τ' f, none⟩)) (by simp [execOp, ho, hv, hr]) (Sb h ?_ he)
    rw [CG]
    exact ⟨b, off + Bc τ' f, cur, et, fr, rfl, hO, hh, by omega, hre⟩
  ·simp at he
 ·simp at he
theorem RZ (h : Ra n0 A O0 w0 s σ φ a w) {x : Operand} (ho : o.op = .nilCheck x)
 (he : Se G s o k = some out) : o.wp P a w (Zd n0 A O0 w0 k out) Q := by
 simp only [Se, Qb, ho] at he
 split at he
 ·rename_i id p hx
  split at he
  ·rename_i ρ d hb
   have hv := h.ev hx
   have hv' := hv
   rw [Al] at hv
   obtain ⟨b, hσ, hv⟩ := hv.2 ρ d hb
   refine Jb (w' := w) (v := a.eval x) ?_ (Sb h hv' he)
   simp [execOp, ho, hv]
  ·simp at he
 ·rename_i τ y hx
  have hv := h.ev hx
  have hv' := hv
  rw [CG] at hv
  obtain ⟨b, off, cur, et, fr, hv, _⟩ := hv
  refine Jb (w' := w) (v := a.eval x) ?_ (Sb h hv' he)
  simp [execOp, ho, hv]
 ·rename_i id i p hx
  split at he
  ·rename_i r hbN
   obtain ⟨Da, hb, hN⟩ := qf.1 hbN
   have hv := h.ev hx
   have hv' := hv
   rw [Li] at hv
   obtain ⟨_, b, off, cap, _, hv⟩ := hv.2 Da r.1 r.2 hb hN
   refine Jb (w' := w) (v := a.eval x) ?_ (Sb h hv' he)
   simp [execOp, ho, hv]
  ·simp at he
 ·simp at he
theorem OX {α : Type} {xs : List α} {i : Int} {x : α} (h : Ic xs i = some x) : 0 ≤ i ∧ i.toNat < xs.length ∧ xs[i.toNat]? = some x := by
 unfold Ic at h
 cases hd : decide (0 ≤ i) with
 | false => simp [hd] at h
 | true =>
  simp only [hd, y3] at h
  exact ⟨by simpa using hd, (q7.1 h).1, h⟩
theorem Dad (h : Ra n0 A O0 w0 s σ φ a w) (hG : EnvTy P G) {t : TypeId} {x y : Operand} (ho : o.op = .index t x y)
 (he : Se G s o k = some out) : o.wp P a w (Zd n0 A O0 w0 k out) Q := by
 simp only [Se, Qb, ho] at he
 split at he
 ·rename_i v kk n ht hx hy
  cases hi : Ic (show List UInt8 from v) n with
  | none => simp [hi] at he
  | some c =>
   simp only [hi, jb] at he
   obtain ⟨h0, hlt, hg⟩ := OX hi
   have hv := h.ev hx
   have hn := h.ev hy
   rw [Bl] at hv
   rw [Xd] at hn
   have hlt2 : n.toNat < ja v := hlt
   have hsz : n < ((ByteArray.mk (qp v)).size : Int) := by
    have : (ByteArray.mk (qp v)).size = ja v := by simp [ByteArray.size]
    rw [this]; exact (Int.toNat_lt h0).1 hlt2
   have hg' : List.get v ⟨n.toNat, hlt2⟩ = c := by
    have : (show List UInt8 from v)[n.toNat]? = some c := hg
    simpa [je hlt2] using this
   have hr := run_index_string (P := P) w t (ByteArray.mk (qp v)) kk n (Tok.s (hG.ty _ _ ht))
   rw [dif_pos ⟨h0, hsz⟩] at hr
   have hsz2 : n.toNat < (ByteArray.mk (qp v)).size := by simpa [ByteArray.size] using hlt2
   have hc : ((ByteArray.mk (qp v))[n.toNat]'hsz2) = c := hg'
   rw [hc] at hr
   refine Jb (w' := w) (v := .int .u8 c.toNat) ?_ (Sb h (Xd.2 rfl) he)
   simp only [execOp, ho, hv, hn, qm, hr, ql, Sem.run_pure]
 ·simp at he
theorem SH {id : Nat} {Da : Ja} {e : Ty} {n : Nat} {O : Nat → Prop} {hp : Nat → Option Ja} {F : List Nat} (h : Ec w O hp σ id Da F) (hr : Da.rowN = some (e, n)) :
 ∃ ad cap, σ id = .slice ad n cap ∧ (0 < n → ∃ b off, ad = some ⟨b, off, none⟩) := by
 cases Da with
 | box ρ d => simp [Ja.rowN] at hr
 | mp _ _ _ => simp [Ja.rowN] at hr
 | mq _ _ _ => simp [Ja.rowN] at hr
 | mx _ _ _ => simp [Ja.rowN] at hr
 | fz e' xs =>
  simp only [Ja.rowN, jc, jh] at hr
  obtain ⟨rfl, rfl⟩ := hr
  obtain ⟨_, ad, cap, h1, _, _, h2⟩ := h
  simp only [yg, and_true] at h1
  refine ⟨ad, cap, h1, fun h0 => ?_⟩
  rcases h2 with h2 | ⟨bl, off, _, _, _, h2, _⟩
  ·subst h2; simp at h0
  ·exact ⟨bl, off, h2⟩
 | row e' dp xs =>
  simp only [Ja.rowN, jc, jh] at hr
  obtain ⟨rfl, rfl⟩ := hr
  cases dp with
  | true =>
   simp only [Ec, Ob] at h
   obtain ⟨_, ⟨h1, h2, _⟩ | ⟨bl, off, cap, _, _, _, h2, _⟩⟩ := h
   ·simp at h1; subst h2; exact ⟨none, 0, h1, fun h => by simp at h⟩
   ·simp at h2; exact ⟨_, cap, h2, fun _ => ⟨bl, off, rfl⟩⟩
  | false =>
   simp only [Ec] at h
   obtain ⟨_, ⟨h1, h2, _⟩ | ⟨bl, off, cap, _, _, h2, _⟩⟩ := h
   ·subst h2; exact ⟨none, 0, h1, fun h => by simp at h⟩
   ·exact ⟨_, cap, h2, fun _ => ⟨bl, off, rfl⟩⟩
 | hol e' xs i x p τ d =>
  simp only [Ja.rowN, jc, jh] at hr
  obtain ⟨rfl, rfl⟩ := hr
  obtain ⟨_, _, _, _, bl, off, cap, cur, et, h1, _⟩ := h
  exact ⟨_, cap, h1, fun _ => ⟨bl, off, rfl⟩⟩
 | mov e' xs k =>
  simp only [Ja.rowN, jc, jh] at hr
  obtain ⟨rfl, rfl⟩ := hr
  obtain ⟨_, ⟨h1, h2, _⟩ | ⟨bl, off, cap, cur, et, Fs, h1, _⟩⟩ := h
  ·subst h2; exact ⟨none, 0, h1, fun h => by simp at h⟩
  ·exact ⟨_, cap, h1, fun _ => ⟨bl, off, rfl⟩⟩
theorem LY (hG : EnvTy P G) (h : Ra n0 A O0 w0 s σ φ a w) {t : TypeId} {x y : Operand} (ho : o.op = .indexAddr t x y)
 (he : Se G s o k = some out) : o.wp P a w (Zd n0 A O0 w0 k out) Q := by
 simp only [Se, Qb, ho] at he
 split at he
 ·rename_i e' e xs kk n hty hx hy
  split at he
  ·rename_i q hq
   obtain rfl := Pc hq
   cases hi : Ic (show List (T e) from xs) n with
   | none => simp [hi] at he
   | some c =>
    simp only [hi, jb] at he
    obtain ⟨h0, hlt, hg⟩ := OX hi
    have hv := h.ev hx
    have hn := h.ev hy
    rw [MC] at hv
    rw [Xd] at hn
    obtain ⟨et, hu, hte⟩ := Tok.sl (hG.ty _ _ hty)
    obtain ⟨ad, cap, hc, hcap, hm, hemp | ⟨bl, off, cur, et', fr, rfl, hO, hh, hs, hvw⟩⟩ := hv
    ·rw [hemp] at hlt; simp at hlt
    ·simp at hc
     have hlt' : n.toNat < ja xs := hlt
     have hxe : List.get xs ⟨n.toNat, hlt'⟩ = c := by
      have : (show List (T e) from xs)[n.toNat]? = some c := hg
      simpa [je hlt'] using this
     have hel := hvw n.toNat hlt'
     rw [hxe] at hel
     have hle : (n.toNat + 1) * e.size ≤ ja xs * e.size := jn _ hlt'
     rw [yd, ye] at hle
     have hnl : n < (ja xs : Int) := (Int.toNat_lt h0).1 hlt'
     refine Jb (w' := w) (v := .pointer (some ⟨bl, off + n.toNat * e.size, none⟩)) ?_ (Sb h ?_ he)
     ·simp [execOp, ho, hc, hn, Instr.indexAt, asIntOf, run_underlying hu, h0, hnl, Tok.sizeOf hte w, Lm]
     ·rw [CG]
      exact ⟨bl, off + n.toNat * e.size, cur, et', fr, rfl, hO, hh, by omega, hel⟩
  ·simp at he
 ·rename_i e' id kk n hty hx hy
  split at he
  ·rename_i e len hbN
   obtain ⟨Da, hb, hN⟩ := qf.1 hbN
   split at he
   ·rename_i q hq
    obtain rfl := Pc hq
    cases hi : Te len n with
    | false => simp [hi] at he
    | true =>
     simp only [hi, y3] at he
     simp only [Te, jd, decide_eq_true_eq] at hi
     have hv := h.ev hx
     have hn := h.ev hy
     rw [Xd] at hn
     simp only [Nc, Ae, D.isAgg, jr, if_false, Wa] at hv
     obtain ⟨u, hu', h1c, hv⟩ := hv
     simp at hu'
     have hσ := hv _ _ hb hN
     obtain ⟨et, hu, hte⟩ := Tok.sl (hG.ty _ _ hty)
     have hlt : n.toNat < len := (Int.toNat_lt hi.1).2 hi.2
     have hsl : ∃ b off cap, σ id = .slice (some ⟨b, off, none⟩) len cap := by
      obtain ⟨ad, cap, h1, h2⟩ := SH (h.hp id _ hb) hN
      obtain ⟨b, off, rfl⟩ := h2 (by omega)
      exact ⟨b, off, cap, h1⟩
     obtain ⟨b, off, cap, hs⟩ := hsl
     refine Jb (w' := w) (v := .pointer (some ⟨b, off + n.toNat * e.size, none⟩)) ?_ (Sb h ?_ he)
     ·simp [execOp, ho, hu', hσ, hs, hn, Instr.indexAt, asIntOf, run_underlying hu, hi, Tok.sizeOf hte w, Lm]
     ·rw [Li]
      refine ⟨rfl, fun blk' e' n' hb' hr' => ?_⟩
      rw [hb] at hb'
      cases hb'
      rw [hN] at hr'
      simp only [jc, jh] at hr'
      obtain ⟨rfl, rfl⟩ := hr'
      exact ⟨hlt, b, off, cap, hs, by simp [Db]⟩
   ·simp at he
  ·simp at he
 ·rename_i e' id lo hi kk n hty hx hy
  split at he
  ·rename_i e len hbN
   obtain ⟨Da, hb, hN⟩ := qf.1 hbN
   split at he
   ·rename_i q hq
    obtain rfl := Pc hq
    cases hi' : Te (hi - lo) n with
    | false => simp [hi'] at he
    | true =>
     simp only [hi', y3] at he
     simp only [Te, jd, decide_eq_true_eq] at hi'
     have hv := h.ev hx
     have hn := h.ev hy
     rw [Xd] at hn
     simp only [Nc, Ae, D.isAgg, jr, if_false, Wa] at hv
     obtain ⟨u, hu', h1c, hv⟩ := hv
     simp only [yg, and_true] at hu'
     obtain ⟨hlo, hhi, ad0, cap, jj, hs0, hcap, hj1, hj2, hu2⟩ := hv _ _ _ hb hN
     obtain ⟨et, hu, hte⟩ := Tok.sl (hG.ty _ _ hty)
     have hlt : n.toNat < hi - lo := (Int.toNat_lt hi'.1).2 hi'.2
     have hsl : ∃ b off, σ id = .slice (some ⟨b, off, none⟩) len cap ∧ ad0 = some ⟨b, off, none⟩ := by
      obtain ⟨ad, cap', h1, h2⟩ := SH (h.hp id _ hb) hN
      obtain ⟨b, off, rfl⟩ := h2 (by omega)
      rw [h1] at hs0
      simp only [Value.slice.injEq, true_and] at hs0
      obtain ⟨rfl, rfl⟩ := hs0
      exact ⟨b, off, h1, rfl⟩
     obtain ⟨b, off, hs, rfl⟩ := hsl
     obtain rfl := hj2 (by omega)
     simp only [qc, Lm] at hu2
     have hnl : n < ((hi - jj : Nat) : Int) := hi'.2
     refine Jb (w' := w) (v := .pointer (some ⟨b, off + jj * e.size + n.toNat * e.size, none⟩)) ?_ (Sb h ?_ he)
     ·simp [execOp, ho, hu', hu2, hn, Instr.indexAt, asIntOf, run_underlying hu, hi'.1, hnl, Tok.sizeOf hte w, Lm]
     ·rw [Li]
      refine ⟨rfl, fun blk' e' n' hb' hr' => ?_⟩
      rw [hb] at hb'
      cases hb'
      rw [hN] at hr'
      simp only [jc, jh] at hr'
      obtain ⟨rfl, rfl⟩ := hr'
      exact ⟨by omega, b, off, cap, hs, by rw [yd, ← ju]; simp [Db]⟩
   ·simp at he
  ·simp at he
 ·rename_i id kk n hty hx hy
  split at he
  ·rename_i e' c e len har hbN
   obtain ⟨Da, hb, hN⟩ := qf.1 hbN
   split at he
   ·rename_i q hq
    obtain rfl := Pc hq
    cases hc : qv c len with
    | false => simp [hc] at he
    | true =>
     obtain rfl := jv hc
     cases hi : Te c n with
     | false => simp [hi] at he
     | true =>
      simp only [Nat.beq_refl, hi, y3] at he
      simp only [Te, jd, decide_eq_true_eq] at hi
      have hv := h.ev hx
      have hn := h.ev hy
      rw [Xd] at hn
      rw [Li] at hv
      obtain ⟨_, b, off, cap, hs, hv⟩ := hv.2 _ _ _ hb hN
      simp only [Nat.zero_mul, q9, Db] at hv
      have har' := hG.ar _ _ _ har
      simp only [TM, jd] at har'
      have har1 := har'.1
      split at har1
      ·rename_i m et hu
       simp only [jd] at har1
       obtain rfl := jv har1.1
       have hte := har1.2
       have hlt : n.toNat < m := (Int.toNat_lt hi.1).2 hi.2
       refine Jb (w' := w) (v := .pointer (some ⟨b, off + n.toNat * e.size, none⟩)) ?_ (Sb h ?_ he)
       ·simp [execOp, ho, hv, hn, Instr.indexAt, Instr.sureAddr, asIntOf, run_underlying hu, hi, Tok.sizeOf hte w, Lm]
       ·rw [Li]
        refine ⟨rfl, fun blk' e' n' hb' hr' => ?_⟩
        rw [hb] at hb'
        cases hb'
        rw [hN] at hr'
        simp only [jc, jh] at hr'
        obtain ⟨rfl, rfl⟩ := hr'
        exact ⟨hlt, b, off, cap, hs, by simp [Db]⟩
      ·simp at har1
   ·simp at he
  ·simp at he
 ·simp at he
end
section
variable {P : Program} {Out : Type} {n0 : Nat} {A : Fx} {O0 : Nat → Prop} {w0 w w' : World} {s : AS} {σ σ' : Nat → Value} {φ φ' : Nat → List Nat} {a : Act}
variable {o : Oper} {Q : Exit → Act → World → Prop} {k : AS → Option Out} {out : Out} {d : D} {v : Value} {upd : List (Nat × Option Ja)} {dst : Option Tmp} {G : Qd}
theorem RY {O : Nat → Prop} {hp : Nat → Option Ja} : ∀ {ds e : D} {vs : List Value} {n : Nat}, Wf w O hp σ ds vs → Kx ds n = some e → ∃ v, vs[n]? = some v ∧ Ae w O hp σ e v
 | .pr x y, e, v :: vs, 0, h, hn => by
  simp only [Kx, jc] at hn
  subst hn
  exact ⟨v, rfl, h.1⟩
 | .pr x y, e, v :: vs, n + 1, h, hn => by
  obtain ⟨u, h1, h2⟩ := RY h.2 hn
  exact ⟨u, by simpa using h1, h2⟩
 | .pr _ _, _, [], _, h, _ => h.elim
 | .und, _, _, _, _, hn => by simp [Kx] at hn
 | .anyv, _, _, _, _, hn => by simp [Kx] at hn
 | .mpo _, _, _, _, _, hn => by simp [Kx] at hn
 | .t _ _, _, _, _, _, hn => by simp [Kx] at hn
 | .nil, _, _, _, _, hn => by simp [Kx] at hn
 | .own _, _, _, _, _, hn => by simp [Kx] at hn
 | .ptr _ _, _, _, _, _, hn => by simp [Kx] at hn
 | .eptr _ _ _, _, _, _, _, hn => by simp [Kx] at hn
 | .rp _ _, _, _, _, _, hn => by simp [Kx] at hn
 | .un, _, _, _, _, hn => by simp [Kx] at hn
 | .tup _, _, _, _, _, hn => by simp [Kx] at hn
theorem Rm {O : Nat → Prop} {hp : Nat → Option Ja} (h : Ae w O hp σ d v) : Nc w O hp σ d v := by
 cases d with
 | tup ds => simp [Ae, D.isAgg, Wa] at h
 | und => simp [Ae, D.isAgg, Wa] at h
 | anyv => simp [Ae, D.isAgg, Wa] at h
 | _ => exact h
theorem W6 (h : Ra n0 A O0 w0 s σ φ a w) {x : Operand} {n : Nat} (ho : o.op = .extract x n)
 (he : Se G s o k = some out) : o.wp P a w (Zd n0 A O0 w0 k out) Q := by
 simp only [Se, Qb, ho] at he
 split at he
 ·rename_i ds hx
  split at he
  ·rename_i e hn
   have hv := h.ev hx
   obtain ⟨vs, hv, hr⟩ := hv
   obtain ⟨u, h1, h2⟩ := RY hr hn
   have h1' : vs[n]? = some u := by simpa using h1
   refine Jb (w' := w) (v := u) ?_ (Sb h (Rm h2) he)
   simp [execOp, ho, hv, Instr.extract, h1']
  ·simp at he
 ·simp at he
theorem Xz {id : Nat} {hp : Nat → Option Ja} {O : Nat → Prop} : Nc w O hp σ (.own id) v ↔ v.oneCell' = true ∧ ∀ Da r, hp id = some Da → Da.rowN = some r → v = σ id := by
 simp only [Nc, Ae, D.isAgg, jr, if_false, Wa]
 constructor
 ·rintro ⟨u, hu, h1, h2⟩
  simp at hu; subst hu; exact ⟨h1, h2⟩
 ·rintro ⟨h1, h2⟩; exact ⟨v, rfl, h1, h2⟩
theorem FD {hp : Nat → Option Ja} {O : Nat → Prop} : Nc w O hp σ .nil v ↔ v = .slice none 0 0 := by
 simp [Nc, Ae, D.isAgg, Wa]
theorem Mm {b : Builtin} {args : Array Operand} {ts : Array TypeId} {x : List Operand} (ho : o.op = .call ⟨.builtin b, args, ts⟩) (ha : args.toList = x) :
 execOp a.eval o = builtin b ts o.type (args.map fun | .const _ => true | _ => false) (x.map a.eval).toArray := by
 subst ha
 have : (args.toList.map a.eval).toArray = args.map a.eval := by rw [← Array.toList_map, Array.toArray_toList]
 simp only [execOp, ho, resolve, this]
 rfl
theorem Oav {α : Type} {ts : Array α} {t : α} (h : ts.toList = [t]) : ts = #[t] := by
 rw [← Array.toArray_toList (xs := ts), h]
theorem Qam (hG : EnvTy P G) (h : Ra n0 A O0 w0 s σ φ a w) {args : Array Operand} {ts : Array TypeId} (ho : o.op = .call ⟨.builtin .len, args, ts⟩)
 (he : Se G s o k = some out) : o.wp P a w (Zd n0 A O0 w0 k out) Q := by
 simp only [Se, Qb, ho] at he
 split at he
 ·rename_i x t ha hts
  have hex := Mm (a := a) ho ha
  have hts' := Oav hts
  subst hts'
  have key : ∀ (V : Value) (n : Int), a.eval x = V → (Builtin.len_ #[t] o.type #[V]).run P w = .ok (.int .i64 n) w → Kf s o.dst (.t (.i .i64) n) [] k = some out → o.wp P a w (Zd n0 A O0 w0 k out) Q := by
   intro V n hV hr hf
   refine Jb (w' := w) (v := .int .i64 n) ?_ (Sb h (Xd.2 rfl) hf)
   rw [hex]
   simp only [yh, yi, hV, builtin, qm, hr, ql]
   rfl
  split at he
  ·rename_i e' e xs hty hx
   have hv := h.ev hx
   rw [MC] at hv
   obtain ⟨et, hu, _⟩ := Tok.sl (hG.ty _ _ hty)
   obtain ⟨ad, cap, hc, _⟩ := hv
   simp at hc
   exact key _ _ hc (by simp [Builtin.len_, run_underlying hu, goInt]) he
  ·rename_i v hty hx
   have hv := h.ev hx
   rw [Bl] at hv
   exact key _ _ hv (run_len_string w t o.type _ (Tok.s (hG.ty _ _ hty))) he
  ·rename_i e' hty hx
   have hv := h.ev hx
   rw [FD] at hv
   obtain ⟨et, hu, _⟩ := Tok.sl (hG.ty _ _ hty)
   exact key _ _ hv (by simp [Builtin.len_, run_underlying hu, goInt]) he
  ·rename_i e' id hty hx
   split at he
   ·rename_i e len hbN
    obtain ⟨Da, hb, hN⟩ := qf.1 hbN
    have hv := h.ev hx
    rw [Xz] at hv
    obtain ⟨et, hu, _⟩ := Tok.sl (hG.ty _ _ hty)
    obtain ⟨ad, cap, hσ, _⟩ := SH (h.hp id _ hb) hN
    exact key _ _ ((hv.2 _ _ hb hN).trans hσ) (by simp [Builtin.len_, run_underlying hu, goInt]) he
   ·simp at he
  ·rename_i e' id lo hi hty hx
   split at he
   ·rename_i r hbN
    obtain ⟨Da, hb, hN⟩ := qf.1 hbN
    have hv := h.ev hx
    simp only [Nc, Ae, D.isAgg, jr, if_false, Wa] at hv
    obtain ⟨u, hu', h1c, hv⟩ := hv
    simp only [yg, and_true] at hu'
    obtain ⟨hlo, hhi, ad0, cap, jj, hs0, hcap, _, _, hu2⟩ := hv _ _ _ hb hN
    obtain ⟨et, hu, _⟩ := Tok.sl (hG.ty _ _ hty)
    exact key _ _ (hu'.trans hu2) (by simp [Builtin.len_, run_underlying hu, goInt]) he
   ·simp at he
  ·simp at he
 ·simp at he
theorem Ram (h : Ra n0 A O0 w0 s σ φ a w) {args : Array Operand} {ts : Array TypeId} (ho : o.op = .call ⟨.builtin .max, args, ts⟩)
 (he : Se G s o k = some out) : o.wp P a w (Zd n0 A O0 w0 k out) Q := by
 simp only [Se, Qb, ho] at he
 split at he
 ·rename_i x y ha
  have hex := Mm (a := a) ho ha
  split at he
  ·rename_i ka n kb m hx hy
   cases hk : (ka == kb) with
   | false => simp [hk] at he
   | true =>
    simp only [hk, y3] at he
    have hkk : ka = kb := by simpa using hk
    subst hkk
    have hv := h.ev hx
    have hw := h.ev hy
    rw [Xd] at hv hw
    refine Jb (w' := w) (v := .int ka (max (n : Int) m)) ?_ (Sb h (Xd.2 rfl) he)
    rw [hex]
    have : (Builtin.max_ ts o.type #[.int ka n, .int ka m]).run P w = .ok (.int ka (max (n : Int) m)) w := by
     simp only [Builtin.max_, List.foldlM_cons, List.foldlM_nil, Builtin.max2, qm, Sem.run_pure, ql]
     congr 2
     rcases Int.lt_or_le n m with hlt | hle
     ·rw [if_pos hlt, Int.max_eq_right (by omega)]
     ·rw [if_neg (by exact Int.not_lt.2 hle), Int.max_eq_left hle]
    simp only [yh, yi, hv, hw, builtin, qm, this, ql]
    rfl
  ·simp at he
 ·simp at he
theorem Sam (h : Ra n0 A O0 w0 s σ φ a w) {args : Array Operand} {ts : Array TypeId} (ho : o.op = .call ⟨.builtin .min, args, ts⟩)
 (he : Se G s o k = some out) : o.wp P a w (Zd n0 A O0 w0 k out) Q := by
 simp only [Se, Qb, ho] at he
 split at he
 ·rename_i x y ha
  have hex := Mm (a := a) ho ha
  split at he
  ·rename_i ka n kb m hx hy
   cases hk : (ka == kb) with
   | false => simp [hk] at he
   | true =>
    simp only [hk, y3] at he
    have hkk : ka = kb := by simpa using hk
    subst hkk
    have hv := h.ev hx
    have hw := h.ev hy
    rw [Xd] at hv hw
    refine Jb (w' := w) (v := .int ka (min (n : Int) m)) ?_ (Sb h (Xd.2 rfl) he)
    rw [hex]
    have : (Builtin.min_ ts o.type #[.int ka n, .int ka m]).run P w = .ok (.int ka (min (n : Int) m)) w := by
     simp only [Builtin.min_, List.foldlM_cons, List.foldlM_nil, Builtin.min2, qm, Sem.run_pure, ql]
     congr 2
     rcases Int.lt_or_le m n with hlt | hle
     ·rw [if_pos hlt, Int.min_eq_right (by omega)]
     ·rw [if_neg (by exact Int.not_lt.2 hle), Int.min_eq_left hle]
    simp only [yh, yi, hv, hw, builtin, qm, this, ql]
    rfl
  ·simp at he
 ·simp at he
end
section
variable {P : Program} {Out : Type} {n0 : Nat} {A : Fx} {O0 : Nat → Prop} {w0 w w' : World} {s : AS} {σ σ' : Nat → Value} {φ φ' : Nat → List Nat} {a : Act}
variable {o : Oper} {Q : Exit → Act → World → Prop} {k : AS → Option Out} {out : Out} {d : D} {v : Value} {upd : List (Nat × Option Ja)} {dst : Option Tmp} {G : Qd}
theorem Tok.some {τ : Ty} {t : TypeId} (h : Kc P τ t = true) : ∃ d, P.underlying t = some d := by
 cases hτ : τ with
 | i k => subst hτ; exact ⟨_, Tok.i h⟩
 | b => subst hτ; exact ⟨_, Tok.b h⟩
 | o => subst hτ; obtain ⟨et, he⟩ := Tok.o h; exact ⟨_, he⟩
 | mp _ _ => subst hτ; obtain ⟨kt, et, he, _⟩ := Tok.mp h; exact ⟨_, he⟩
 | s => subst hτ; exact ⟨_, Tok.s h⟩
 | sl e => subst hτ; obtain ⟨et, he, _⟩ := Tok.sl h; exact ⟨_, he⟩
 | u => subst hτ; obtain ⟨fs, he, _⟩ := Tok.struct rfl h; exact ⟨_, he⟩
 | p x y => subst hτ; obtain ⟨fs, he, _⟩ := Tok.struct rfl h; exact ⟨_, he⟩
def noO : Nat → Prop := fun _ => False
theorem Ka.noO {O : Nat → Prop} {τ : Ty} {x : T τ} {cs : List Value} (h : Ka w O τ x cs) : Ka w noO τ x cs := h.weaken fun _ h => h.elim
theorem TY {id : Nat} {e : Ty} {dp : Bool} {xs : List (T e)} {O : Nat → Prop} {hp : Nat → Option Ja} {F : List Nat} (h : Ec w O hp σ id (.row e dp xs) F) :
 Ka w noO (.sl e) xs [σ id] := by
 cases dp with
 | true => exact Ob.view (show Ob w (.sl e) xs [σ id] F from h) fun _ _ hb => hb
 | false =>
  simp only [Ec] at h
  obtain ⟨hm, ⟨h1, h2, _⟩ | ⟨bl, off, cap, cur, et, h1, hh, h2, h3, h4, hF, hv⟩⟩ := h
  ·subst h2; exact ⟨none, 0, by rw [h1]; rfl, jp _, hm, .inl rfl⟩
  ·have := jn e.size h2
   exact ⟨_, cap, by rw [h1], h2, hm, .inr ⟨bl, off, cur, et, _, rfl, fun hb => hb, hh, by omega, fun i hi => (hv i hi).noO⟩⟩
theorem JA {α : Type} {xs : List α} {lo hi : Nat} (h : hi ≤ xs.length) : (Cc xs lo hi).length = hi - lo := by
 simp [Cc]; omega
theorem WM {α : Type} {xs : List α} {lo hi i : Nat} (hi' : i < (Cc xs lo hi).length) (h2 : lo + i < xs.length) : (Cc xs lo hi).get ⟨i, hi'⟩ = xs.get ⟨lo + i, h2⟩ := by
 simp [Cc]
theorem Ka.cut {w : World} {O : Nat → Prop} {e : Ty} {xs : List (T e)} {ad : Option Addr} {n cap lo hi j : Nat} (h : Ka w O (.sl e) xs [.slice ad n cap]) (hlo : lo ≤ hi) (hhi : hi ≤ ja xs) (hj : lo < cap → j = lo) :
 Ka w O (.sl e) (Cc xs lo hi) [.slice (ad.map (·.add (j * e.size))) (hi - lo) (cap - lo)] := by
 obtain ⟨ad', cap', hcs, hcap, hmx, hcase⟩ := h
 simp only [yg, Value.slice.injEq, and_true] at hcs
 obtain ⟨rfl, rfl, rfl⟩ := hcs
 have hlen : ja (Cc xs lo hi) = hi - lo := JA (xs := (xs : List (T e))) (lo := lo) hhi
 refine ⟨_, cap - lo, by rw [hlen], by rw [hlen]; omega, by rw [hlen]; omega, ?_⟩
 rcases Nat.eq_or_lt_of_le hlo with heq | hlt
 ·left
  exact q6 (by rw [hlen]; omega)
 ·right
  rcases hcase with hemp | ⟨bl, off, cur, et', fr, rfl, hO, hh, hs, hvv⟩
  ·rw [hemp] at hhi; simp at hhi; omega
  ·obtain rfl := hj (by omega)
   have hmul : (j + (hi - j)) * e.size ≤ ja xs * e.size := jn _ (by omega)
   rw [yd] at hmul
   refine ⟨bl, off + j * e.size, cur, et', fr, by simp [Lm], hO, hh, by rw [hlen]; omega, fun i hi' => ?_⟩
   have hi2 : i < hi - j := by rw [← hlen]; exact hi'
   have h2 : j + i < ja xs := by omega
   have := hvv (j + i) h2
   rw [WM (xs := (xs : List (T e))) hi' h2]
   rw [yd, ← ju] at this
   exact this
theorem Iq (h : Ra n0 A O0 w0 s σ φ a w) : ∀ {d : D} {τ : Ty} {x : T τ} {cs : List Value}, Va s d τ = some x → Wa w (OO O0 s φ) s.heap σ d cs → Ka w noO τ x cs
 | .t τ' y, τ, x, cs, he, hr => by
  simp only [Va] at he
  split at he
  ·rename_i q hq
   obtain rfl := Pc hq
   simp only [jc] at he
   subst he
   exact Ka.noO hr
  ·simp at he
 | .nil, .sl e, x, cs, he, hr => by
  simp only [Va, jc] at he
  subst he
  simp only [Wa] at hr
  exact ⟨none, 0, hr, jp _, by simp, .inl rfl⟩
 | .own id, .sl e, x, cs, he, hr => by
  simp only [Va] at he
  split at he
  ·rename_i e' dp xs hb
   split at he
   ·rename_i q hq
    obtain rfl := Pc hq
    simp only [jc] at he
    subst he
    obtain ⟨v, hcs, _, hv⟩ := hr
    rw [hcs, hv _ _ hb rfl]
    exact TY (h.hp id _ hb)
   ·simp at he
  ·rename_i e' xs hb
   split at he
   ·rename_i q hq
    obtain rfl := Pc hq
    simp only [jc] at he
    subst he
    obtain ⟨v, hcs, _, hv⟩ := hr
    rw [hcs, hv _ _ hb rfl]
    exact Ka.noO (h.hp id _ hb).2
   ·simp at he
  ·simp at he
 | .cut id lo hi, .sl e, x, cs, he, hr => by
  simp only [Va] at he
  split at he
  ·rename_i e' dp xs hb
   split at he
   ·rename_i q hq
    obtain rfl := Pc hq
    simp only [jc] at he
    subst he
    obtain ⟨v, hcs, _, hv⟩ := hr
    obtain ⟨hlo, hhi, ad, cap, j, hs, hcap, _, hj, hv⟩ := hv _ _ _ hb rfl
    rw [hcs, hv]
    have := TY (h.hp id _ hb)
    rw [hs] at this
    exact this.cut hlo hhi hj
   ·simp at he
  ·simp at he
 | .pr y z, .p t1 t2, x, cs, he, hr => by
  simp only [Va] at he
  split at he
  ·rename_i u v hu hv
   simp only [jc] at he
   subst he
   obtain ⟨c1, c2, h0, h1, h2⟩ := hr
   exact ⟨c1, c2, h0, Iq h hu h1, Iq h hv h2⟩
  ·simp at he
 | .un, .u, x, cs, he, hr => by
  simp only [Wa] at hr
  exact hr
 | .und, τ, _, _, he, _ => by cases τ <;> simp [Va] at he
 | .anyv, τ, _, _, he, _ => by cases τ <;> simp [Va] at he
 | .mpo _, τ, _, _, he, _ => by cases τ <;> simp [Va] at he
 | .nil, .i _, _, _, he, _ => by simp [Va] at he
 | .nil, .b, _, _, he, _ => by simp [Va] at he
 | .nil, .o, _, _, he, _ => by simp [Va] at he
 | .nil, .s, _, _, he, _ => by simp [Va] at he
 | .nil, .u, _, _, he, _ => by simp [Va] at he
 | .nil, .p _ _, _, _, he, _ => by simp [Va] at he
 | .own _, .i _, _, _, he, _ => by simp [Va] at he
 | .own _, .b, _, _, he, _ => by simp [Va] at he
 | .own _, .o, _, _, he, _ => by simp [Va] at he
 | .own _, .s, _, _, he, _ => by simp [Va] at he
 | .own _, .u, _, _, he, _ => by simp [Va] at he
 | .own _, .p _ _, _, _, he, _ => by simp [Va] at he
 | .cut _ _ _, .i _, _, _, he, _ => by simp [Va] at he
 | .cut _ _ _, .b, _, _, he, _ => by simp [Va] at he
 | .cut _ _ _, .o, _, _, he, _ => by simp [Va] at he
 | .cut _ _ _, .s, _, _, he, _ => by simp [Va] at he
 | .cut _ _ _, .u, _, _, he, _ => by simp [Va] at he
 | .cut _ _ _, .p _ _, _, _, he, _ => by simp [Va] at he
 | .pr _ _, .i _, _, _, he, _ => by simp [Va] at he
 | .pr _ _, .b, _, _, he, _ => by simp [Va] at he
 | .pr _ _, .o, _, _, he, _ => by simp [Va] at he
 | .pr _ _, .s, _, _, he, _ => by simp [Va] at he
 | .pr _ _, .u, _, _, he, _ => by simp [Va] at he
 | .pr _ _, .sl _, _, _, he, _ => by simp [Va] at he
 | .un, .i _, _, _, he, _ => by simp [Va] at he
 | .un, .b, _, _, he, _ => by simp [Va] at he
 | .un, .o, _, _, he, _ => by simp [Va] at he
 | .un, .s, _, _, he, _ => by simp [Va] at he
 | .un, .sl _, _, _, he, _ => by simp [Va] at he
 | .un, .p _ _, _, _, he, _ => by simp [Va] at he
 | .ptr _ _, τ, _, _, he, _ => by cases τ <;> simp [Va] at he
 | .eptr _ _ _, τ, _, _, he, _ => by cases τ <;> simp [Va] at he
 | .rp _ _, τ, _, _, he, _ => by cases τ <;> simp [Va] at he
 | .tup _, τ, _, _, he, _ => by cases τ <;> simp [Va] at he
theorem Es : ∀ {d : D} {τ : Ty} {x : T τ}, Va s d τ = some x → Ab τ d
 | .t τ' y, τ, x, he => by
  simp only [Va] at he
  split at he
  ·rename_i q hq
   have := Pc hq
   simpa [Ab] using this
  ·simp at he
 | .nil, .sl e, x, he => trivial
 | .own id, .sl e, x, he => trivial
 | .cut _ _ _, .sl e, x, he => trivial
 | .pr y z, .p t1 t2, x, he => by
  simp only [Va] at he
  split at he
  ·rename_i u v hu hv
   exact ⟨Es hu, Es hv⟩
  ·simp at he
 | .un, .u, x, he => trivial
 | .und, τ, _, he => by cases τ <;> simp [Va] at he
 | .anyv, τ, _, he => by cases τ <;> simp [Va] at he
 | .mpo _, τ, _, he => by cases τ <;> simp [Va] at he
 | .nil, .i _, _, he => by simp [Va] at he
 | .nil, .b, _, he => by simp [Va] at he
 | .nil, .o, _, he => by simp [Va] at he
 | .nil, .s, _, he => by simp [Va] at he
 | .nil, .u, _, he => by simp [Va] at he
 | .nil, .p _ _, _, he => by simp [Va] at he
 | .own _, .i _, _, he => by simp [Va] at he
 | .own _, .b, _, he => by simp [Va] at he
 | .own _, .o, _, he => by simp [Va] at he
 | .own _, .s, _, he => by simp [Va] at he
 | .own _, .u, _, he => by simp [Va] at he
 | .own _, .p _ _, _, he => by simp [Va] at he
 | .cut _ _ _, .i _, _, he => by simp [Va] at he
 | .cut _ _ _, .b, _, he => by simp [Va] at he
 | .cut _ _ _, .o, _, he => by simp [Va] at he
 | .cut _ _ _, .s, _, he => by simp [Va] at he
 | .cut _ _ _, .u, _, he => by simp [Va] at he
 | .cut _ _ _, .p _ _, _, he => by simp [Va] at he
 | .pr _ _, .i _, _, he => by simp [Va] at he
 | .pr _ _, .b, _, he => by simp [Va] at he
 | .pr _ _, .o, _, he => by simp [Va] at he
 | .pr _ _, .s, _, he => by simp [Va] at he
 | .pr _ _, .u, _, he => by simp [Va] at he
 | .pr _ _, .sl _, _, he => by simp [Va] at he
 | .un, .i _, _, he => by simp [Va] at he
 | .un, .b, _, he => by simp [Va] at he
 | .un, .o, _, he => by simp [Va] at he
 | .un, .s, _, he => by simp [Va] at he
 | .un, .sl _, _, he => by simp [Va] at he
 | .un, .p _ _, _, he => by simp [Va] at he
 | .ptr _ _, τ, _, he => by cases τ <;> simp [Va] at he
 | .eptr _ _ _, τ, _, he => by cases τ <;> simp [Va] at he
 | .rp _ _, τ, _, he => by cases τ <;> simp [Va] at he
 | .tup _, τ, _, he => by cases τ <;> simp [Va] at he
theorem Ra.OO_lt (h : Ra n0 A O0 w0 s σ φ a w) {b : Nat} (hb : OO O0 s φ b) : b < w.heap.size := by
 rcases hb with hb | ⟨id, Da, hl, hm⟩
 ·exact Nat.lt_of_lt_of_le (h.o0 b hb) h.fr.size
 ·exact (h.hp id Da hl).lt b hm
theorem Dab {O : Nat → Prop} {hp : Nat → Option Ja} {τ : Ty} {x : T τ} (he : Va s d τ = some x) (h : Nc w O hp σ d v) :
 Wa w O hp σ d v.cells.toList ∧ v = Sc τ v.cells.toList := Kd (Es he) h
theorem KZ {b off : Nat} {cur : Array Value} {et : TypeId} {fr : Nat × Nat} {xs : List Int} (hh : w.heap[b]? = some (.cells cur et fr)) {O : Nat → Prop}
 (hv : ∀ i (h : i < xs.length), Ka w O (.i .u8) (xs.get ⟨i, h⟩) (Rc cur (off + i * 1) 1)) :
 ∀ i, i < xs.length → w.cell? ⟨b, off + i, none⟩ = some (.int .u8 (xs.getD i 0)) := by
 intro i hi
 have h1 := hv i hi
 simp only [Ka, Nat.mul_one] at h1
 have h2 := Me cur (off + i) 1 0 (by omega)
 rw [h1] at h2
 simp only [List.getElem?_cons_zero, q9] at h2
 rw [cell_of_row w b (off + i) cur et fr hh, ← h2]
 simp [qq, hi]
theorem H7 (xs : List Int) : strOfNums xs = ⟨(ZH xs).toArray⟩ := by
 simp [strOfNums, ZH]
theorem Ra.ext (h : Ra n0 A O0 w0 s σ φ a w) (hs : w.heap.size ≤ w'.heap.size) (hb : ∀ b, b < w.heap.size → w'.heap[b]? = w.heap[b]?)
 (hos : w'.os = w.os) (htape : w'.tape = w.tape) (hout : w'.output = w.output) : Ra n0 A O0 w0 s σ φ a w' := by
 refine h.trans (fun _ => False) rfl rfl (fun _ _ => ⟨rfl, rfl, rfl⟩) (fun b hb' _ => hb b hb') hs ?_ ?_ ?_ ?_ hos htape hout (fun _ h => h.elim) ?_
 all_goals intro id; intros; contradiction
theorem V6 (hG : EnvTy P G) (h : Ra n0 A O0 w0 s σ φ a w) {src t : TypeId} {x : Operand} (ho : o.op = .convert src t x)
 (he : Se G s o k = some out) : o.wp P a w (Zd n0 A O0 w0 k out) Q := by
 simp only [Se, Qb, ho] at he
 split at he
 ·rename_i τs kk k' n hts htt hx
  have hv := h.ev hx
  rw [Xd] at hv
  obtain ⟨ds, hds⟩ := Tok.some (hG.ty _ _ hts)
  have hd := Tok.i (hG.ty _ _ htt)
  refine Jb (w' := w) (v := .int kk (kk.wrap n)) ?_ (Sb h (Xd.2 rfl) he)
  have : (convert src t (.int k' n)).run P w = .ok (.int kk (kk.wrap n)) w := by
   simp [convert, run_underlying hds, run_underlying hd, Conv.intToInt]
  simp [execOp, ho, hv, this]
 ·rename_i v hts htt hx
  have hv := h.ev hx
  rw [Bl] at hv
  have hds := Tok.s (hG.ty _ _ hts)
  have hd := Tok.s (hG.ty _ _ htt)
  refine Jb (w' := w) (v := .string ⟨qp v⟩) ?_ (Sb h (Bl.2 rfl) he)
  have : (convert src t (.string ⟨qp v⟩)).run P w = .ok (.string ⟨qp v⟩) w := by
   simp [convert, run_underlying hds, run_underlying hd]
  simp [execOp, ho, hv, this]
 ·rename_i d hts htt hx
  split at he
  ·rename_i v hvt
   have hv := h.ev hx
   obtain ⟨hr, hvof⟩ := Dab hvt hv
   have hvw := Iq h hvt hr
   obtain ⟨et, hu, hte⟩ := Tok.sl (hG.ty _ _ hts)
   have hu8 := Tok.i hte
   have hd := Tok.s (hG.ty _ _ htt)
   obtain ⟨ad, cap, hc, hcap, hm, hemp | ⟨bl, off, cur, et', fr, hee, hO, hh, hs, hvv⟩⟩ := hvw
   ·rw [hc] at hvof
    have hv' : a.eval x = .slice ad (ja v) cap := by rw [hvof]; rfl
    refine Jb (w' := w) (v := .string ⟨(ZH v).toArray⟩) ?_ (Sb h (Bl.2 rfl) he)
    have hcv := run_convert_bytes_string (P := P) w src t et ad (ja v) cap hu hu8 hd
    have hst : (Conv.bytesToString (.slice ad (ja v) cap)).run P w = .ok (.string ⟨(ZH v).toArray⟩) w := by
     rw [hemp]
     cases ad with
     | none => simp [Conv.bytesToString, ZH]; rfl
     | some ad =>
      have := run_bytesToString (P := P) w ad 0 cap [] (by simp [loadCells, loadCellsFrom])
      exact this
    simp [execOp, ho, hv', hcv, hst]
   ·rw [hc] at hvof
    have hv' : a.eval x = .slice ad (ja v) cap := by rw [hvof]; rfl
    subst hee
    refine Jb (w' := w) (v := .string ⟨(ZH v).toArray⟩) ?_ (Sb h (Bl.2 rfl) he)
    have hcell := KZ (off := off) (xs := v) hh hvv
    have hcv := run_convert_bytes_arg (P := P) w src et hu hu8 bl off (ja v) cap v rfl hcell t hd
    rw [H7] at hcv
    simp [execOp, ho, hv', hcv]
  ·simp at he
 ·rename_i v hts htt hx
  cases hl : jy (ja v) Nb with
  | false => simp [hl] at he
  | true =>
   simp only [hl, y3] at he
   have hle := qz hl
   have hv := h.ev hx
   rw [Bl] at hv
   have hds := Tok.s (hG.ty _ _ hts)
   obtain ⟨et, hu, hte⟩ := Tok.sl (hG.ty _ _ htt)
   have hu8 := Tok.i hte
   have hr := Lib.run_convert_string_bytes (P := P) w src t et ⟨qp v⟩ hds hu hu8
   have hc : Ra n0 A O0 w0 s σ φ a (Lib.bytesWorld w et ⟨qp v⟩) := by
    refine h.ext ?_ (fun b hb => Lib.bytesWorld_at_old w et _ b hb) ?_ ?_ ?_
    ·rw [Lib.bytesWorld_size]; omega
    all_goals (simp [Lib.bytesWorld, World.freeze] <;> rfl)
   refine Jb (w' := Lib.bytesWorld w et ⟨qp v⟩) (v := .slice (some ⟨w.heap.size, 0, none⟩) (ByteArray.mk (qp v)).size (grownCap w (ByteArray.mk (qp v)).size 0 et)) ?_ (Sb hc ?_ he)
   ·simp [execOp, ho, hv, hr]
   ·rw [MC]
    have hlen : (ByteArray.mk (qp v)).size = ja v := by simp [ByteArray.size]
    have hbl : (Jn v).length = ja v := by simp [Jn]
    have hcs : ja v ≤ (Lib.bytesCells w et ⟨qp v⟩).size := by simp [Lib.bytesCells]
    refine ⟨some ⟨w.heap.size, 0, none⟩, grownCap w (ByteArray.mk (qp v)).size 0 et, by rw [hbl, hlen], ?_, ?_, .inr ⟨w.heap.size, 0, _, et, _, rfl, ?_, Lib.bytesWorld_at_new w et _, ?_, ?_⟩⟩
    ·rw [hbl, ← hlen]; exact grownCap_ge w _ _ _
    ·rw [hbl]; unfold Ph; unfold Nb at hle; omega
    ·intro hb; exact Nat.lt_irrefl _ (h.OO_lt hb)
    ·rw [hbl]; simpa [Ty.size] using hcs
    ·intro i hi
     have hi' : i < ja v := by rw [hbl] at hi; exact hi
     simp only [Ka, Ty.size, Nat.mul_one, jt]
     have h1 : Rc (Lib.bytesCells w et ⟨qp v⟩) i 1 = [.int .u8 ((List.get v ⟨i, hi'⟩).toNat : Int)] := by
      apply qn
      intro j
      rcases Nat.lt_or_ge j 1 with hj | hj
      ·have : j = 0 := by omega
       subst this
       rw [Me _ _ _ _ (by omega)]
       simp [Lib.bytesCells, hi', Array.getElem?_append]
      ·rw [qr (by rw [Vc (by omega)]; exact hj), qr (by simpa using hj)]
     rw [h1]
     simp [Jn]
 ·simp at he
end
section
variable {P : Program} {Out : Type} {n0 : Nat} {A : Fx} {O0 : Nat → Prop} {w0 w w' : World} {s : AS} {σ σ' : Nat → Value} {φ φ' : Nat → List Nat} {a : Act}
variable {o : Oper} {Q : Exit → Act → World → Prop} {k : AS → Option Out} {out : Out} {d : D} {v : Value} {upd : List (Nat × Option Ja)} {dst : Option Tmp} {G : Qd}
theorem Lam (h : Ra n0 A O0 w0 s σ φ a w) {x : Option Operand} {l : Int} (hl : XF s x = some l) :
 (x = none ∧ l = 0) ∨ ∃ y k, x = some y ∧ a.eval y = .int k l := by
 unfold XF at hl
 split at hl
 ·simp at hl; exact .inl ⟨rfl, hl.symm⟩
 ·rename_i y
  split at hl
  ·rename_i k n hx
   simp at hl; subst hl
   have := h.ev hx
   rw [Xd] at this
   exact .inr ⟨y, k, rfl, this⟩
  ·simp at hl
theorem Kal (h : Ra n0 A O0 w0 s σ φ a w) {n : Nat} {x : Option Operand} {l : Int} (hl : MJ s n x = some l) :
 (x = none ∧ l = n) ∨ ∃ y k, x = some y ∧ a.eval y = .int k l := by
 unfold MJ at hl
 split at hl
 ·simp at hl; exact .inl ⟨rfl, hl.symm⟩
 ·rename_i y
  split at hl
  ·rename_i k m hx
   simp at hl; subst hl
   have := h.ev hx
   rw [Xd] at this
   exact .inr ⟨y, k, rfl, this⟩
  ·simp at hl
theorem Vn (h : Ra n0 A O0 w0 s σ φ a w) {n cap : Nat} {lo hi : Option Operand} {l m : Int} (hl : XF s lo = some l) (hh : MJ s n hi = some m)
 (hc : Be n l m = true) (hcap : n ≤ cap) (b : Bool) : (Instr.sliceBounds b n cap (lo.map a.eval) (hi.map a.eval) none).run P w = .ok (l.toNat, m.toNat, cap) w := by
 simp only [Be, jd, decide_eq_true_eq] at hc
 have hm : m ≤ (cap : Int) := by omega
 have e1 : 0 ≤ m := by omega
 rcases Kal h hh with ⟨rfl, hm'⟩ | ⟨y, ky, rfl, hy⟩ <;> rcases Lam h hl with ⟨rfl, hl'⟩ | ⟨z, kz, rfl, hz⟩
 ·subst hl'; subst hm'
  simp [Instr.sliceBounds]
 ·subst hm'
  simp [Instr.sliceBounds, Instr.sliceBound, hz, asIntOf, hc]
 ·subst hl'
  simp [Instr.sliceBounds, Instr.sliceBound, hy, asIntOf, e1, hm]
 ·have hlm : l ≤ (m.toNat : Int) := by omega
  have hmax : max m 0 = m := Int.max_eq_left e1
  simp [Instr.sliceBounds, Instr.sliceBound, hy, hz, asIntOf, e1, hm, hc, hmax]
theorem Dm : ∀ {d : D} {τ : Ty}, Zb τ d = true → Ab τ d
 | .t τ' x, τ, h => by
  simp only [Zb] at h
  obtain ⟨q, hq⟩ := Option.isSome_iff_exists.1 h
  have := q.down
  simpa [Ab] using this
 | .nil, .sl _, _ => trivial
 | .own _, .sl _, _ => trivial
 | .pr x y, .p t1 t2, h => by
  simp only [Zb, jd] at h
  exact ⟨Dm h.1, Dm h.2⟩
 | .un, .u, _ => trivial
 | .und, τ, h => by cases τ <;> simp [Zb] at h
 | .anyv, τ, h => by cases τ <;> simp [Zb] at h
 | .mpo _, .mp _ _, _ => trivial
 | .mpo _, .i _, h => by simp [Zb] at h
 | .mpo _, .b, h => by simp [Zb] at h
 | .mpo _, .o, h => by simp [Zb] at h
 | .mpo _, .s, h => by simp [Zb] at h
 | .mpo _, .u, h => by simp [Zb] at h
 | .mpo _, .sl _, h => by simp [Zb] at h
 | .mpo _, .p _ _, h => by simp [Zb] at h
 | .nil, .i _, h => by simp [Zb] at h
 | .nil, .b, h => by simp [Zb] at h
 | .nil, .o, h => by simp [Zb] at h
 | .nil, .s, h => by simp [Zb] at h
 | .nil, .u, h => by simp [Zb] at h
 | .nil, .p _ _, h => by simp [Zb] at h
 | .own _, .i _, h => by simp [Zb] at h
 | .own _, .b, h => by simp [Zb] at h
 | .own _, .o, h => by simp [Zb] at h
 | .own _, .s, h => by simp [Zb] at h
 | .own _, .u, h => by simp [Zb] at h
 | .own _, .p _ _, h => by simp [Zb] at h
 | .cut _ _ _, τ, h => by cases τ <;> simp [Zb] at h
 | .pr _ _, .i _, h => by simp [Zb] at h
 | .pr _ _, .b, h => by simp [Zb] at h
 | .pr _ _, .o, h => by simp [Zb] at h
 | .pr _ _, .s, h => by simp [Zb] at h
 | .pr _ _, .u, h => by simp [Zb] at h
 | .pr _ _, .sl _, h => by simp [Zb] at h
 | .un, .i _, h => by simp [Zb] at h
 | .un, .b, h => by simp [Zb] at h
 | .un, .o, h => by simp [Zb] at h
 | .un, .s, h => by simp [Zb] at h
 | .un, .sl _, h => by simp [Zb] at h
 | .un, .p _ _, h => by simp [Zb] at h
 | .ptr _ _, τ, h => by cases τ <;> simp [Zb] at h
 | .eptr _ _ _, τ, h => by cases τ <;> simp [Zb] at h
 | .rp _ _, τ, h => by cases τ <;> simp [Zb] at h
 | .tup _, τ, h => by cases τ <;> simp [Zb] at h
theorem Cad (hG : EnvTy P G) (h : Ra n0 A O0 w0 s σ φ a w) {t : TypeId} {x : Operand} {f : Nat} (ho : o.op = .field t x f)
 (he : Se G s o k = some out) : o.wp P a w (Zd n0 A O0 w0 k out) Q := by
 simp only [Se, Qb, ho] at he
 split at he
 ·rename_i τ d hty hx
  cases hs : Zb τ d with
  | false => simp [hs] at he
  | true =>
   simp only [hs, y3] at he
   split at he
   ·rename_i τf e hf hd
    have hsh := Dm hs
    obtain ⟨hr, hv⟩ := Kd hsh (h.ev hx)
    obtain ⟨hse, hre⟩ := Wa.field hsh hf hd hr
    obtain ⟨fs, fl, hu, h1, h2, h3⟩ := Tok.field (hG.ty _ _ hty) hf
    have hagg : τ.isAgg = true := by
     clear hr hv hse hre hsh hs hx hd hty hu
     cases τ <;> first | rfl | simp [Oa] at hf
    have hlen := Wa.length hsh hr
    have hle := Up hf
    refine Jb (w' := w) (v := Sc τf (((a.eval x).cells.toList.drop (Bc τ f)).take τf.size)) ?_ (Sb h (Sm hse hre) he)
    have hv' : a.eval x = .agg (a.eval x).cells := by
     conv => lhs; rw [hv]
     simp [Sc, hagg]
    generalize (a.eval x).cells = cs at *
    have hpart : (part fl.type cs fl.offset).run P w = .ok (Sc τf ((cs.toList.drop (Bc τ f)).take τf.size)) w := by
     unfold part
     rw [qm, Tok.isAgg h3 w, h2]
     cases ha : τf.isAgg with
     | true =>
      simp only [ql, if_true, qm, Tok.sizeOf h3 w, Sem.run_pure, Sc, ha]
      congr 2
      apply Array.ext'
      simp
     | false =>
      have h1' := Ty.size_one ha
      have hlt : Bc τ f < cs.size := by
       have : cs.toList.length = τ.size := hlen
       simp at this; omega
      simp only [ql, jr, if_false, Sc, ha, h1']
      have : (cs.toList.drop (Bc τ f)).take 1 = [cs[Bc τ f]] := by
       rw [List.drop_eq_getElem_cons (by simpa using hlt)]
       simp
      simp [this, hlt]
    simp only [execOp, ho, hv', Instr.field, qm, run_underlying hu, ql, h1, asAgg, Sem.run_pure, hpart]
   ·simp at he
 ·simp at he
end
def Kg {α : Type} (f : Nat → α) (id : Nat) (v : α) : Nat → α := fun j => if j = id then v else f j
theorem Ld {α : Type} (f : Nat → α) (id : Nat) (v : α) : Kg f id v id = v := by simp [Kg]
theorem Fj {α : Type} (f : Nat → α) {id j : Nat} (v : α) (h : j ≠ id) : Kg f id v j = f j := by simp [Kg, h]
theorem Rf (s : AS) (id : Nat) (b : Option Ja) : AS.heap ⟨s.n, s.tm, (id, b) :: s.hp⟩ id = b := by
 simp [AS.heap, Vb]
theorem Bu (s : AS) {id j : Nat} (b : Option Ja) (h : j ≠ id) : AS.heap ⟨s.n, s.tm, (id, b) :: s.hp⟩ j = s.heap j := by
 simp [AS.heap, Vb, Ne.symm h]
section
variable {P : Program} {Out : Type} {n0 : Nat} {A : Fx} {O0 : Nat → Prop} {w0 w w' : World} {s : AS} {σ σ' : Nat → Value} {φ φ' : Nat → List Nat} {a : Act}
variable {o : Oper} {Q : Exit → Act → World → Prop} {k : AS → Option Out} {out : Out} {d : D} {v : Value} {upd : List (Nat × Option Ja)} {dst : Option Tmp} {G : Qd}
theorem Jx {id : Nat} (h : s.newOk id = true) : id < 500000 := by
 simp only [AS.newOk, jd] at h
 have := h.2
 rwa [yc] at this
theorem Ra.new1 (h : Ra n0 A O0 w0 s σ φ a w) {id : Nat} (hnew : s.newOk id = true) (Da : Ja) (val : Value) (F : List Nat)
 (hs : w.heap.size ≤ w'.heap.size) (hb : ∀ b, b < w.heap.size → w'.heap[b]? = w.heap[b]?)
 (hos : w'.os = w.os) (htape : w'.tape = w.tape) (hout : w'.output = w.output) (hF : F.Nodup) (hFn : ∀ b, b ∈ F → w.heap.size ≤ b)
 (hrep : ∀ (hp' : Nat → Option Ja) (σ' : Nat → Value) (O' : Nat → Prop), σ' id = val → (∀ b, b < w.heap.size → ¬ OO O0 s φ b → ¬ O' b) →
  (∀ j, j ≠ id → Cp s.heap hp' σ σ' j) → Ec w' O' hp' σ' id Da F)
 (hq : ∀ kk e xs, Da = .mq kk e xs → AW w' n0 (OO O0 ⟨s.n, s.tm, (id, some Da) :: s.hp⟩ (Kg φ id F)) val kk e xs := by intro _ _ _ h; cases h) :
 Ra n0 A O0 w0 ⟨s.n, s.tm, (id, some Da) :: s.hp⟩ (Kg σ id val) (Kg φ id F) a w' := by
 have hnm : s.ment id = false := by
  simp only [AS.newOk, jd, yj] at hnew
  exact hnew.1
 have hOO : ∀ b, b < w.heap.size → ¬ OO O0 s φ b → ¬ OO O0 ⟨s.n, s.tm, (id, some Da) :: s.hp⟩ (Kg φ id F) b := by
  rintro b hlt hno (ho | ⟨j, blk', hl, hm⟩)
  ·exact hno (.inl ho)
  ·by_cases hj : j = id
   ·subst hj
    rw [Ld] at hm
    have := hFn b hm
    omega
   ·rw [Bu s _ hj] at hl
    rw [Fj _ _ hj] at hm
    exact hno (.inr ⟨j, blk', hl, hm⟩)
 refine h.trans (fun j => j = id) rfl rfl ?_ ?_ hs ?_ ?_ ?_ ?_ hos htape hout (fun j hj => .inr (hj ▸ Jx hnew)) ?_
 ·intro j hj
  exact ⟨Bu s _ hj, Fj _ _ hj, Fj _ _ hj⟩
 ·intro b hlt _; exact hb b hlt
 ·rintro j blk' rfl _ b hbm
  rw [Ld] at hbm
  exact .inl (hFn b hbm)
 ·rintro j blk' rfl _ hm
  rw [hnm] at hm; simp at hm
 ·rintro j blk' rfl hl
  rw [Rf] at hl
  simp only [jc] at hl
  subst hl
  rw [Ld]
  refine ⟨hrep _ _ _ (Ld _ _ _) hOO ?_, hF⟩
  intro j' hj' blk' hl'
  rw [Bu s _ hj'] at hl'
  exact ⟨blk', hl', Ja.like_refl _, Fj _ _ hj'⟩
 ·rintro j j' _ _ rfl rfl hne; exact absurd rfl hne
 ·rintro j kk e xs rfl hl
  rw [Rf] at hl
  simp only [jc] at hl
  rw [Ld]
  exact hq kk e xs hl
theorem Ra.new1b (h : Ra n0 A O0 w0 s σ φ a w) {id : Nat} (hnew : s.newOk id = true) (Da : Ja) (val : Value) (F : List Nat)
 (hs : w.heap.size ≤ w'.heap.size) (hb : ∀ b, b < w.heap.size → w'.heap[b]? = w.heap[b]?)
 (hos : w'.os = w.os) (htape : w'.tape = w.tape) (hout : w'.output = w.output) (hF : F.Nodup) (hFn : ∀ b, b ∈ F → w.heap.size ≤ b)
 (hrep : ∀ (hp' : Nat → Option Ja) (σ' : Nat → Value) (O' : Nat → Prop), σ' id = val → (∀ b, O' b → OO O0 s φ b ∨ b ∈ F) → Ec w' O' hp' σ' id Da F)
 (hq : ∀ kk e xs, Da ≠ .mq kk e xs := by intro _ _ _ h; cases h) :
 Ra n0 A O0 w0 ⟨s.n, s.tm, (id, some Da) :: s.hp⟩ (Kg σ id val) (Kg φ id F) a w' := by
 have hnm : s.ment id = false := by
  simp only [AS.newOk, jd, yj] at hnew
  exact hnew.1
 have hOO : ∀ b, OO O0 ⟨s.n, s.tm, (id, some Da) :: s.hp⟩ (Kg φ id F) b → OO O0 s φ b ∨ b ∈ F := by
  rintro b (ho | ⟨j, blk', hl, hm⟩)
  ·exact .inl (.inl ho)
  ·by_cases hj : j = id
   ·subst hj
    rw [Ld] at hm
    exact .inr hm
   ·rw [Bu s _ hj] at hl
    rw [Fj _ _ hj] at hm
    exact .inl (.inr ⟨j, blk', hl, hm⟩)
 refine h.trans (fun j => j = id) rfl rfl ?_ ?_ hs ?_ ?_ ?_ ?_ hos htape hout (fun j hj => .inr (hj ▸ Jx hnew)) ?_
 ·intro j hj
  exact ⟨Bu s _ hj, Fj _ _ hj, Fj _ _ hj⟩
 ·intro b hlt _; exact hb b hlt
 ·rintro j blk' rfl _ b hbm
  rw [Ld] at hbm
  exact .inl (hFn b hbm)
 ·rintro j blk' rfl _ hm
  rw [hnm] at hm; simp at hm
 ·rintro j blk' rfl hl
  rw [Rf] at hl
  simp only [jc] at hl
  subst hl
  rw [Ld]
  exact ⟨hrep _ _ _ (Ld _ _ _) hOO, hF⟩
 ·rintro j j' _ _ rfl rfl hne; exact absurd rfl hne
 ·rintro j kk e xs rfl hl
  rw [Rf] at hl
  simp only [jc] at hl
  exact absurd hl (hq kk e xs)
theorem Hg (w : World) (o : Obj) (b : Nat) (h : b < w.heap.size) : (w.alloc o).heap[b]? = w.heap[b]? := Go.RowKit.Below.heap_alloc w o b h
theorem Y2 (h : Ra n0 A O0 w0 s σ φ a w) {id : Nat} (hnew : s.newOk id = true) {ρ : Ty} {d : D} {cs : List Value} (t : TypeId) (hsh : Ab ρ d)
 (hr : Wa w (OO O0 s φ) s.heap σ d cs) (hm : ∀ j, d.ment j = true → s.ment j = true) :
 Ra n0 A O0 w0 ⟨s.n, s.tm, (id, some (.box ρ d)) :: s.hp⟩ (Kg σ id (.pointer (some ⟨w.heap.size, 0, none⟩))) (Kg φ id [w.heap.size]) a (w.alloc (.cells cs.toArray t)) := by
 have hnm : s.ment id = false := by
  simp only [AS.newOk, jd, yj] at hnew
  exact hnew.1
 refine h.new1 hnew _ _ _ (by simp) (fun b hb => Hg w _ b hb) rfl rfl rfl (by simp) (by simp) ?_
 intro hp' σ' O' hσ hO hc
 have hlen := Wa.length hsh hr
 refine ⟨hsh, w.heap.size, cs.toArray, t, hσ, heap_alloc_new w _, rfl, ?_, by simpa using hlen⟩
 refine Wa.stable (fun b _ hlt => Hg w _ b hlt) hO d _ (fun j hj => hc j ?_) (by simpa using hr)
 intro e
 subst e
 rw [hm j hj] at hnm
 simp at hnm
theorem OG (w : World) (O : Nat → Prop) (hp : Nat → Option Ja) (σ : Nat → Value) : ∀ τ : Ty, Ab τ (zD τ) ∧ Wa w O hp σ (zD τ) τ.zc ∧ ∀ j, (zD τ).ment j = false
 | .i k => ⟨by simp [zD, Ab], by simp [zD, Wa, Ka, zT, Ty.zc], fun _ => rfl⟩
 | .b => ⟨by simp [zD, Ab], by simp [zD, Wa, Ka, zT, Ty.zc], fun _ => rfl⟩
 | .o => ⟨by simp [zD, Ab], by simp [zD, Wa, Ka, zT, Ty.zc], fun _ => rfl⟩
 | .mp _ _ => ⟨by simp [zD, Ab], by simp [zD, Wa, Ka, zT, Ty.zc], fun _ => rfl⟩
 | .s => ⟨by simp [zD, Ab], by simp [zD, Wa, Ka, zT, Ty.zc], fun _ => rfl⟩
 | .sl e => ⟨by simp [zD, Ab], by simp [zD, Wa, Ty.zc], fun _ => rfl⟩
 | .u => ⟨by simp [zD, Ab], by simp [zD, Wa, Ty.zc], fun _ => rfl⟩
 | .p x y => by
  obtain ⟨a1, a2, a3⟩ := OG w O hp σ x
  obtain ⟨b1, b2, b3⟩ := OG w O hp σ y
  refine ⟨Ab.mkpr a1 b1, Wa.mkpr a2 b2, fun j => ?_⟩
  have e1 := a3 j
  have e2 := b3 j
  simp only [zD]
  unfold mkpr
  split
  ·rfl
  ·rfl
  ·simp [D.ment, e1, e2]
theorem QC {id : Nat} {ρ : Ty} {d : D} {path : List Nat} (b : Nat) (hρ : Db ρ path = 0) {O : Nat → Prop} {s' : AS} (hs' : s'.heap id = some (.box ρ d)) :
 Nc w O s'.heap (Kg σ id (.pointer (some ⟨b, 0, none⟩))) (.ptr id path) (.pointer (some ⟨b, 0, none⟩)) := by
 rw [Al]
 refine ⟨rfl, fun ρ' d' hb => ?_⟩
 rw [hs'] at hb
 simp at hb
 obtain ⟨rfl, rfl⟩ := hb
 exact ⟨b, Ld _ _ _, by rw [hρ]⟩
theorem Pam (_ : EnvTy P G) (h : Ra n0 A O0 w0 s σ φ a w) {t : TypeId} {x : Operand} (ho : o.op = .box t x)
 (he : Se G s o k = some out) : o.wp P a w (Zd n0 A O0 w0 k out) Q := by
 simp only [Se, Qb, ho] at he
 split at he
 ·rename_i tt τ d hd hty hx
  cases hn : (s.newOk tt && Zb τ d) with
  | false => simp [hn] at he
  | true =>
   simp only [hn, y3] at he
   simp only [jd] at hn
   have hsh := Dm hn.2
   obtain ⟨hr, hv⟩ := Kd hsh (h.ev hx)
   have hm : ∀ j, d.ment j = true → s.ment j = true := by
    intro j hj
    cases x with
    | tmp q => exact AS.ment_tm hx hj
    | const c =>
     exfalso
     simp only [AS.ev] at hx
     unfold BJ at hx
     split at hx <;> simp at hx <;> subst hx <;> simp [D.ment] at hj
    | _ => simp [AS.ev] at hx
   have hc := Y2 (id := tt) h hn.1 t hsh hr hm
   refine Jb (w' := w.alloc (.cells (a.eval x).cells.toList.toArray t)) (v := .pointer (some ⟨w.heap.size, 0, none⟩)) ?_ (Hd rfl hc (QC _ rfl (Rf _ _ _)) he)
   simp [execOp, ho, Instr.box, newVar, newRow]
 ·simp at he
end
theorem RF : ∀ (l : List Value) (i off : Nat) (arr : Array Value), off + i + l.length ≤ arr.size →
 (l.zipIdx i).foldl (fun cs (x : Value × Nat) => cs.setIfInBounds (off + x.2) x.1) arr = (Pb arr.toList (off + i) l).toArray
 | [], i, off, arr, _ => by
  simp [Pb]
 | c :: l, i, off, arr, h => by
  simp only [jx] at h
  rw [List.zipIdx_cons, List.foldl_cons, RF l (i + 1) off _ (by simpa using by omega)]
  congr 1
  apply qn
  intro j
  have hl : off + (i + 1) + l.length ≤ (arr.setIfInBounds (off + i) c).toList.length := by simp; omega
  have hl2 : off + i + (c :: l).length ≤ arr.toList.length := by simp; omega
  rw [Ci hl, Ci hl2]
  simp only [Array.toList_setIfInBounds]
  have hal : arr.toList.length = arr.size := by simp
  rcases Nat.lt_trichotomy j (off + i) with hlt | heq | hgt
  ·rw [if_pos (show j < off + (i + 1) by omega), if_pos hlt, List.getElem?_set_ne (by omega)]
  ·subst heq
   rw [if_pos (show off + i < off + (i + 1) by omega), if_neg (by omega), if_pos (by simp), List.getElem?_set_self (by omega), Nat.sub_self]
   rfl
  ·by_cases h2 : j < off + i + (l.length + 1)
   ·rw [if_neg (show ¬ j < off + (i + 1) by omega), if_pos (show j < off + (i + 1) + l.length by omega), if_neg (by omega), if_pos (by simpa using h2)]
    have : j - (off + i) = (j - (off + (i + 1))) + 1 := by omega
    rw [this, List.getElem?_cons_succ]
   ·rw [if_neg (show ¬ j < off + (i + 1) by omega), if_neg (show ¬ j < off + (i + 1) + l.length by omega), if_neg (by omega), if_neg (by simpa using h2), List.getElem?_set_ne (by omega)]
theorem Fac (cells : Array Value) (off : Nat) (v : Value) (h : off + v.cells.size ≤ cells.size) :
 v.cells.zipIdx.foldl (fun cs (c, j) => cs.setIfInBounds (off + j) c) cells = (Pb cells.toList off v.cells.toList).toArray := by
 rw [← Array.foldl_toList, Array.toList_zipIdx]
 have := RF v.cells.toList 0 off cells (by simpa using h)
 simpa using this
theorem OS {place : Nat → Option (Nat × Nat)} {cells : Array Value} {i off size : Nat} {v : Value} {r : List (Nat × Value)} (hp : place i = some (off, size))
 (hs : v.cells.size = size) (hle : off + size ≤ cells.size) : Instr.fill place cells ((i, v) :: r) = Instr.fill place (Pb cells.toList off v.cells.toList).toArray r := by
 have h1 : ¬ (decide (v.cells.size ≠ size) || decide (off + v.cells.size > cells.size)) = true := by simp; omega
 rw [Instr.fill]
 simp only [hp]
 rw [if_neg h1, Fac cells off v (by omega)]
section
variable {P : Program} {Out : Type} {n0 : Nat} {A : Fx} {O0 : Nat → Prop} {w0 w w' : World} {s : AS} {σ σ' : Nat → Value} {φ φ' : Nat → List Nat} {a : Act}
variable {o : Oper} {Q : Exit → Act → World → Prop} {k : AS → Option Out} {out : Out} {d : D} {v : Value} {upd : List (Nat × Option Ja)} {dst : Option Tmp} {G : Qd}
theorem BX (h : Ra n0 A O0 w0 s σ φ a w) {τ : Ty} {place : Nat → Option (Nat × Nat)} (hpl : ∀ i τ', Oa τ i = some τ' → place i = some (Bc τ i, τ'.size)) :
 ∀ (ps : List (Nat × Operand)) (d d' : D) (cs : Array Value), AE s τ d ps = some d' → Ab τ d → Wa w (OO O0 s φ) s.heap σ d cs.toList →
  ∃ cs', Instr.fill place cs (ps.map fun x => (x.1, a.eval x.2)) = some cs' ∧ Ab τ d' ∧ Wa w (OO O0 s φ) s.heap σ d' cs'.toList
 | [], d, d', cs, he, hs, hr => by
  simp only [AE, jc] at he
  subst he
  exact ⟨cs, rfl, hs, hr⟩
 | (i, x) :: r, d, d', cs, he, hs, hr => by
  simp only [AE] at he
  split at he
  ·rename_i e τ' hx ht
   cases hsb : Zb τ' e with
   | false => simp [hsb] at he
   | true =>
    simp only [hsb, y3] at he
    split at he
    ·rename_i d1 hd1
     have hse := Dm hsb
     obtain ⟨hre, hve⟩ := Kd hse (h.ev hx)
     obtain ⟨hs1, hr1⟩ := Wa.setField (cs := cs.toList) (ce := (a.eval x).cells.toList) hs ht hse hd1
     have hlen := Wa.length hse hre
     have hle := Up ht
     have hl0 := Wa.length hs hr
     have hsz : (a.eval x).cells.size = τ'.size := by simpa using hlen
     have hfit : Bc τ i + τ'.size ≤ cs.size := by
      have : cs.size = τ.size := by simpa using hl0
      omega
     obtain ⟨cs', h1, h2, h3⟩ := BX h hpl r d1 d' (Pb cs.toList (Bc τ i) (a.eval x).cells.toList).toArray he hs1 (by simpa using hr1 hr hre)
     refine ⟨cs', ?_, h2, h3⟩
     rw [yh, OS (hpl i τ' ht) hsz hfit]
     exact h1
    ·simp at he
  ·simp at he
theorem ZO : ∀ {τ : Ty} {fs : List Field} {o : Nat}, Qe P τ fs o = true → τ.isAgg = true →
 ∃ places, fs.mapM (fun f => (P.info? f.type).map fun i => (f.offset, i.size)) = some places ∧ ∀ i τ', Oa τ i = some τ' → places[i]? = some (o + Bc τ i, τ'.size)
 | .u, [], o, _, _ => ⟨[], rfl, fun i τ' h => by simp [Oa] at h⟩
 | .p x y, f :: r, o, h, _ => by
  simp only [Qe, jd] at h
  obtain ⟨i, hi, hs, _⟩ := Tok.size h.1.2
  have hy : y.isAgg = true := by
   cases y <;> simp_all [Qe, Ty.isAgg]
  obtain ⟨pl, h1, h2⟩ := ZO h.2 hy
  refine ⟨(f.offset, i.size) :: pl, by simp [List.mapM_cons, hi, h1], fun j τ' hj => ?_⟩
  have ho := jv h.1.1.1
  cases j with
  | zero =>
   simp only [Oa, jc] at hj
   subst hj
   simp [Bc, ho, hs]
  | succ j =>
   have := h2 j τ' hj
   simp only [List.getElem?_cons_succ, this, Bc]
   congr 2; omega
 | .u, _ :: _, _, h, _ => by simp [Qe] at h
 | .p _ _, [], _, h, _ => by simp [Qe] at h
 | .i _, _, _, _, h => by simp [Ty.isAgg] at h
 | .b, _, _, _, h => by simp [Ty.isAgg] at h
 | .o, _, _, _, h => by simp [Ty.isAgg] at h
 | .mp _ _, _, _, _, h => by simp [Ty.isAgg] at h
 | .s, _, _, _, h => by simp [Ty.isAgg] at h
 | .sl _, _, _, _, h => by simp [Ty.isAgg] at h
theorem Aad (hG : EnvTy P G) (h : Ra n0 A O0 w0 s σ φ a w) {t : TypeId} {ps : Array (Nat × Operand)} (ho : o.op = .build t ps)
 (he : Se G s o k = some out) : o.wp P a w (Zd n0 A O0 w0 k out) Q := by
 simp only [Se, Qb, ho] at he
 split at he
 ·rename_i τ hty
  split at he
  ·rename_i d hd
   cases ha : τ.isAgg with
   | false => simp [ha] at he
   | true =>
    simp only [ha, y3] at he
    obtain ⟨z1, z2, _⟩ := OG w (OO O0 s φ) s.heap σ τ
    obtain ⟨fs, hu, hk⟩ := Tok.struct ha (hG.ty _ _ hty)
    obtain ⟨pl, hp1, hp2⟩ := ZO hk ha
    obtain ⟨i, hi, hs, _, hz⟩ := Tok.size (hG.ty _ _ hty)
    obtain ⟨cs', h1, h2, h3⟩ := BX (place := (pl.toArray[·]?)) h (fun j τ' hj => by have := hp2 j τ' hj; simpa using this) ps.toList (zD τ) d τ.zc.toArray hd z1 (by simpa using z2)
    have hb : P.built t (ps.map fun (j, y) => (j, a.eval y)).toList = some cs' := by
     unfold Program.built
     simp only [hi, hu, hz, hp1]
     have : (ps.map fun (j, y) => (j, a.eval y)).toList = ps.toList.map fun x => (x.1, a.eval x.2) := by simp
     rw [this]
     simpa [Sc, ha, Value.cells] using h1
    have hr := run_build (P := P) w t (ps.map fun (j, y) => (j, a.eval y)) cs' hb
    refine Jb (w' := w) (v := .agg cs') ?_ (Sb h ?_ he)
    ·simp only [execOp, ho, qm, hr, ql, Sem.run_pure]
    ·have := Sm h2 h3
     simpa [Sc, ha] using this
  ·simp at he
 ·simp at he
end
theorem Kl {l : List Nat} {hp : List (Nat × Option Ja)} {j : Nat} : Eb (Ub l ++ hp) j = if j ∈ l then some none else Eb hp j := by
 induction l with
 | nil => simp [Ub]
 | cons x l ih =>
  have : Ub (x :: l) ++ hp = (x, none) :: (Ub l ++ hp) := by simp [Ub]
  rw [this, Vb, ih]
  by_cases h : x = j
  ·subst h; simp
  ·have h' : ¬ j = x := fun e => h e.symm
   simp [h, h']
theorem Zc (s : AS) (id : Nat) (b : Option Ja) (l : List Nat) (j : Nat) :
 AS.heap ⟨s.n, s.tm, (id, b) :: (Ub l ++ s.hp)⟩ j = if j = id then b else if j ∈ l then none else s.heap j := by
 simp only [AS.heap, Vb, Kl]
 by_cases h : j = id
 ·subst h; simp
 ·have h' : ¬ id = j := fun e => h e.symm
  simp only [h, h', if_false]
  split <;> simp
section
variable {P : Program} {Out : Type} {n0 : Nat} {A : Fx} {O0 : Nat → Prop} {w0 w w' : World} {s : AS} {σ σ' : Nat → Value} {φ φ' : Nat → List Nat} {a : Act}
variable {o : Oper} {Q : Exit → Act → World → Prop} {k : AS → Option Out} {out : Out} {d : D} {v : Value} {upd : List (Nat × Option Ja)} {dst : Option Tmp} {G : Qd}
theorem Ra.absorb (h : Ra n0 A O0 w0 s σ φ a w) {id : Nat} (hnew : s.newOk id = true) (l : List Nat) (hlive : ∀ j, j ∈ l → ∃ b, s.heap j = some b) (Da : Ja) (val : Value) (F : List Nat)
 (hs : w.heap.size ≤ w'.heap.size) (hb : ∀ b, b < w.heap.size → (∀ j, j ∈ l → b ∉ φ j) → w'.heap[b]? = w.heap[b]?)
 (hos : w'.os = w.os) (htape : w'.tape = w.tape) (hout : w'.output = w.output) (hF : F.Nodup) (hFn : ∀ b, b ∈ F → w.heap.size ≤ b ∨ ∃ j, j ∈ l ∧ b ∈ φ j)
 (hrep : ∀ (hp' : Nat → Option Ja) (σ' : Nat → Value) (O' : Nat → Prop), σ' id = val → (∀ b, b < w.heap.size → ¬ OO O0 s φ b → ¬ O' b) →
  Ec w' O' hp' σ' id Da F)
 (hq : ∀ kk e xs, Da ≠ .mq kk e xs := by intro _ _ _ h; cases h) :
 Ra n0 A O0 w0 ⟨s.n, s.tm, (id, some Da) :: (Ub l ++ s.hp)⟩ (Kg σ id val) (Kg φ id F) a w' := by
 have hnm : s.ment id = false := by
  simp only [AS.newOk, jd, yj] at hnew
  exact hnew.1
 have hOO : ∀ b, b < w.heap.size → ¬ OO O0 s φ b → ¬ OO O0 ⟨s.n, s.tm, (id, some Da) :: (Ub l ++ s.hp)⟩ (Kg φ id F) b := by
  rintro b hlt hno (ho | ⟨j, blk', hl, hm⟩)
  ·exact hno (.inl ho)
  ·rw [Zc] at hl
   by_cases hj : j = id
   ·subst hj
    rw [Ld] at hm
    rcases hFn b hm with hge | ⟨j', hj', hm'⟩
    ·omega
    ·obtain ⟨b', hb'⟩ := hlive j' hj'
     exact hno (.inr ⟨j', b', hb', hm'⟩)
   ·rw [if_neg hj] at hl
    split at hl
    ·simp at hl
    ·rw [Fj _ _ hj] at hm
     exact hno (.inr ⟨j, blk', hl, hm⟩)
 refine h.trans (fun j => j = id ∨ j ∈ l) rfl rfl ?_ ?_ hs ?_ ?_ ?_ ?_ hos htape hout (fun j _ => by
  by_cases hj : j = id
  ·exact .inr (hj ▸ Jx hnew)
  ·exact .inl (Fj _ _ hj)) ?_
 ·intro j hj
  simp only [not_or] at hj
  exact ⟨by rw [Zc, if_neg hj.1, if_neg hj.2], Fj _ _ hj.1, Fj _ _ hj.1⟩
 ·intro b hlt hno
  refine hb b hlt fun j hj hm => ?_
  obtain ⟨b', hb'⟩ := hlive j hj
  exact hno j b' (.inr hj) hb' hm
 ·intro j blk' _ hl b hbm
  rw [Zc] at hl
  by_cases hj : j = id
  ·subst hj
   rw [Ld] at hbm
   rcases hFn b hbm with hge | ⟨j', hj', hm'⟩
   ·exact .inl hge
   ·obtain ⟨b', hb'⟩ := hlive j' hj'
    exact .inr ⟨j', b', .inr hj', hb', hm'⟩
  ·rename_i ht
   rw [if_neg hj, if_pos (ht.resolve_left hj)] at hl
   simp at hl
 ·intro j blk' ht hl hm
  rw [Zc] at hl
  by_cases hj : j = id
  ·subst hj; rw [hnm] at hm; simp at hm
  ·rw [if_neg hj, if_pos (ht.resolve_left hj)] at hl
   simp at hl
 ·intro j blk' ht hl
  rw [Zc] at hl
  by_cases hj : j = id
  ·subst hj
   rw [if_pos rfl] at hl
   simp only [jc] at hl
   subst hl
   rw [Ld]
   exact ⟨hrep _ _ _ (Ld _ _ _) hOO, hF⟩
  ·rw [if_neg hj, if_pos (ht.resolve_left hj)] at hl
   simp at hl
 ·intro j j' b1 b2 ht ht' hne hl hl'
  rw [Zc] at hl hl'
  have e1 : j = id := by
   by_cases hj : j = id
   ·exact hj
   ·rw [if_neg hj, if_pos (ht.resolve_left hj)] at hl; simp at hl
  have e2 : j' = id := by
   by_cases hj : j' = id
   ·exact hj
   ·rw [if_neg hj, if_pos (ht'.resolve_left hj)] at hl'; simp at hl'
  exact absurd (e1.trans e2.symm) hne
 ·intro j kk e xs ht hl
  rw [Zc] at hl
  by_cases hj : j = id
  ·rw [if_pos hj] at hl
   simp only [jc] at hl
   exact absurd hl (hq kk e xs)
  ·rw [if_neg hj, if_pos (ht.resolve_left hj)] at hl
   simp at hl
theorem Rh : ∀ {l : List Nat}, Mf l = true → l.Nodup
 | [], _ => List.nodup_nil
 | x :: l, h => by
  simp only [Mf, jd, yj] at h
  refine yk.2 ⟨fun hm => ?_, Rh h.2⟩
  have : l.any (qv x) = true := List.any_eq_true.2 ⟨x, hm, Nat.beq_refl x⟩
  rw [h.1] at this; simp at this
def Ia (φ : Nat → List Nat) (l : List Nat) : List Nat := (l.map φ).flatten
theorem Gb {l : List Nat} {b : Nat} : b ∈ Ia φ l ↔ ∃ j, j ∈ l ∧ b ∈ φ j := by
 simp only [Ia, List.mem_flatten, qk]
 constructor
 ·rintro ⟨_, ⟨j, hj, rfl⟩, hb⟩; exact ⟨j, hj, hb⟩
 ·rintro ⟨j, hj, hb⟩; exact ⟨_, ⟨j, hj, rfl⟩, hb⟩
theorem Rd {l m : List Nat} : Ia φ (l ++ m) = Ia φ l ++ Ia φ m := by simp [Ia]
theorem Qf (h : Ra n0 A O0 w0 s σ φ a w) : ∀ {l : List Nat}, l.Nodup → (∀ j, j ∈ l → ∃ b, s.heap j = some b) → (Ia φ l).Nodup
 | [], _, _ => by simp [Ia]
 | x :: l, hn, hl => by
  rw [yk] at hn
  have ih := Qf h hn.2 fun j hj => hl j (js _ hj)
  obtain ⟨bx, hbx⟩ := hl x (by simp)
  have : Ia φ (x :: l) = φ x ++ Ia φ l := by simp [Ia]
  rw [this, yl]
  refine ⟨h.nodup x bx hbx, ih, ?_⟩
  intro b hb c hc e
  subst e
  obtain ⟨j, hj, hm⟩ := Gb.1 hc
  obtain ⟨bj, hbj⟩ := hl j (js _ hj)
  exact h.disj x j bx bj (fun e => hn.1 (e ▸ hj)) hbx hbj b hb hm
theorem ML {id : Nat} {e : Ty} {dp : Bool} {xs : List (T e)} {O : Nat → Prop} {hp : Nat → Option Ja} {F : List Nat} (h : Ec w O hp σ id (.row e dp xs) F)
 (hd : dp = true ∨ e.flat = true) : Ob w (.sl e) xs [σ id] F := by
 cases dp with
 | true => exact h
 | false =>
  have hf : e.flat = true := by simpa using hd
  simp only [Ec] at h
  obtain ⟨hm, ⟨h1, h2, h3⟩ | ⟨bl, off, cap, cur, et, h1, hh, h2, h3, h4, hF, hv⟩⟩ := h
  ·exact ⟨hm, .inl ⟨by rw [h1], h2, h3⟩⟩
  ·refine ⟨hm, .inr ⟨bl, off, cap, cur, et, yb (ja xs) [], by rw [h1], hh, h2, h3, h4, ?_, by simp, fun i hi => ?_⟩⟩
   ·rw [hF]; congr 1; simp
   ·have := (hv i hi).flat (w' := w) hf
    simpa [qq, hi] using this
theorem Jm (h : Ra n0 A O0 w0 s σ φ a w) : ∀ {d : D} {τ : Ty} {x : T τ} {l : List Nat} {cs : List Value}, Lb s d τ = some (x, l) → Wa w (OO O0 s φ) s.heap σ d cs →
 Ob w τ x cs (Ia φ l) ∧ (∀ j, j ∈ l → ∃ b, s.heap j = some b)
 | .t τ' y, τ, x, l, cs, he, hr => by
  simp only [Lb] at he
  cases hf : τ'.flat with
  | false => simp [hf] at he
  | true =>
   simp only [hf, y3] at he
   split at he
   ·rename_i q hq
    obtain rfl := Pc hq
    simp only [jc, jh] at he
    obtain ⟨rfl, rfl⟩ := he
    exact ⟨Ka.flat hr hf, by simp⟩
   ·simp at he
 | .nil, .sl e, x, l, cs, he, hr => by
  simp only [Lb, jc, jh] at he
  obtain ⟨rfl, rfl⟩ := he
  simp only [Wa] at hr
  exact ⟨⟨by simp, .inl ⟨hr, rfl, rfl⟩⟩, by simp⟩
 | .own id, .sl e, x, l, cs, he, hr => by
  simp only [Lb] at he
  split at he
  ·rename_i e' dp xs hb
   cases hd : (dp || e'.flat) with
   | false => simp [hd] at he
   | true =>
    simp only [hd, y3] at he
    split at he
    ·rename_i q hq
     obtain rfl := Pc hq
     simp only [jc, jh] at he
     obtain ⟨rfl, rfl⟩ := he
     obtain ⟨v, hcs, _, hv⟩ := hr
     rw [hcs, hv _ _ hb rfl]
     have := ML (h.hp id _ hb) (by simpa using hd)
     exact ⟨by simpa [Ia] using this, by simp; exact ⟨_, hb⟩⟩
    ·simp at he
  ·simp at he
 | .pr y z, .p t1 t2, x, l, cs, he, hr => by
  simp only [Lb] at he
  split at he
  ·rename_i u l1 v l2 hu hv
   simp only [jc, jh] at he
   obtain ⟨rfl, rfl⟩ := he
   obtain ⟨c1, c2, h0, h1, h2⟩ := hr
   obtain ⟨a1, b1⟩ := Jm h hu h1
   obtain ⟨a2, b2⟩ := Jm h hv h2
   refine ⟨⟨c1, c2, _, _, h0, Rd, a1, a2⟩, fun j hj => ?_⟩
   cases jm.1 hj with
   | inl h => exact b1 j h
   | inr h => exact b2 j h
  ·simp at he
 | .un, .u, x, l, cs, he, hr => by
  simp only [Lb, jc, jh, true_and] at he
  subst he
  simp only [Wa] at hr
  exact ⟨⟨hr, rfl⟩, by simp⟩
 | .und, τ, _, _, _, he, _ => by cases τ <;> simp [Lb] at he
 | .anyv, τ, _, _, _, he, _ => by cases τ <;> simp [Lb] at he
 | .mpo id, .mp k v, x, l, cs, he, hr => by
  simp only [Lb] at he
  split at he
  ·rename_i k' v' xs hb
   split at he
   ·rename_i q1 q2 h1 h2
    obtain rfl := Pc h1
    obtain rfl := Pc h2
    simp only [jc, jh] at he
    obtain ⟨rfl, rfl⟩ := he
    obtain ⟨v, hcs, _, hv⟩ := hr
    rw [hcs, hv _ hb rfl]
    have this : Ob w (.mp _ _) xs [σ id] (φ id) := h.hp id _ hb
    exact ⟨by simpa [Ia] using this, by simp; exact ⟨_, hb⟩⟩
   ·simp at he
  ·simp at he
 | .mpo _, .i _, _, _, _, he, _ => by simp [Lb] at he
 | .mpo _, .b, _, _, _, he, _ => by simp [Lb] at he
 | .mpo _, .o, _, _, _, he, _ => by simp [Lb] at he
 | .mpo _, .s, _, _, _, he, _ => by simp [Lb] at he
 | .mpo _, .u, _, _, _, he, _ => by simp [Lb] at he
 | .mpo _, .sl _, _, _, _, he, _ => by simp [Lb] at he
 | .mpo _, .p _ _, _, _, _, he, _ => by simp [Lb] at he
 | .nil, .i _, _, _, _, he, _ => by simp [Lb] at he
 | .nil, .b, _, _, _, he, _ => by simp [Lb] at he
 | .nil, .o, _, _, _, he, _ => by simp [Lb] at he
 | .nil, .s, _, _, _, he, _ => by simp [Lb] at he
 | .nil, .u, _, _, _, he, _ => by simp [Lb] at he
 | .nil, .p _ _, _, _, _, he, _ => by simp [Lb] at he
 | .own _, .i _, _, _, _, he, _ => by simp [Lb] at he
 | .own _, .b, _, _, _, he, _ => by simp [Lb] at he
 | .own _, .o, _, _, _, he, _ => by simp [Lb] at he
 | .own _, .s, _, _, _, he, _ => by simp [Lb] at he
 | .own _, .u, _, _, _, he, _ => by simp [Lb] at he
 | .own _, .p _ _, _, _, _, he, _ => by simp [Lb] at he
 | .cut _ _ _, τ, _, _, _, he, _ => by cases τ <;> simp [Lb] at he
 | .pr _ _, .i _, _, _, _, he, _ => by simp [Lb] at he
 | .pr _ _, .b, _, _, _, he, _ => by simp [Lb] at he
 | .pr _ _, .o, _, _, _, he, _ => by simp [Lb] at he
 | .pr _ _, .s, _, _, _, he, _ => by simp [Lb] at he
 | .pr _ _, .u, _, _, _, he, _ => by simp [Lb] at he
 | .pr _ _, .sl _, _, _, _, he, _ => by simp [Lb] at he
 | .un, .i _, _, _, _, he, _ => by simp [Lb] at he
 | .un, .b, _, _, _, he, _ => by simp [Lb] at he
 | .un, .o, _, _, _, he, _ => by simp [Lb] at he
 | .un, .s, _, _, _, he, _ => by simp [Lb] at he
 | .un, .sl _, _, _, _, he, _ => by simp [Lb] at he
 | .un, .p _ _, _, _, _, he, _ => by simp [Lb] at he
 | .ptr _ _, τ, _, _, _, he, _ => by cases τ <;> simp [Lb] at he
 | .eptr _ _ _, τ, _, _, _, he, _ => by cases τ <;> simp [Lb] at he
 | .rp _ _, τ, _, _, _, he, _ => by cases τ <;> simp [Lb] at he
 | .tup _, τ, _, _, _, he, _ => by cases τ <;> simp [Lb] at he
end
theorem N3 {cur : Array Value} {o n : Nat} {l : List Value} (ho : o + n ≤ cur.size) (hl : l.length = n) (h : ∀ j, j < n → cur[o + j]? = l[j]?) : Rc cur o n = l := by
 apply qn
 intro j
 rcases Nat.lt_or_ge j n with hj | hj
 ·rw [Me _ _ _ _ hj, h j hj]
 ·rw [qr (by rw [Vc ho]; exact hj), qr (by omega)]
theorem AN (size : Nat) : ∀ (ps : List (Nat × Value)) (m : Nat) (cs : Array Value), (∀ j p, ps[j]? = some p → p.1 = m + j ∧ p.2.cells.size = size) → (m + ps.length) * size ≤ cs.size →
 ∃ cs', Instr.fill (fun i => some (i * size, size)) cs ps = some cs' ∧ cs'.size = cs.size ∧ (∀ k, k < m * size → cs'[k]? = cs[k]?) ∧
  ∀ j p, ps[j]? = some p → Rc cs' ((m + j) * size) size = p.2.cells.toList
 | [], m, cs, _, _ => ⟨cs, rfl, rfl, fun _ _ => rfl, fun j p h => by simp at h⟩
 | (i, v) :: r, m, cs, hp, hle => by
  obtain ⟨hi, hv⟩ := hp 0 (i, v) rfl
  simp only [q9] at hi hv
  subst hi
  simp only [jx] at hle
  have e1 : (i + 1) * size = i * size + size := by rw [yd, ye]
  have hmono : (i + 1) * size ≤ (i + (r.length + 1)) * size := jn _ (by omega)
  have hvl : v.cells.toList.length = size := by simpa using hv
  have hfit : i * size + v.cells.toList.length ≤ cs.toList.length := by rw [hvl]; simp; omega
  have hsz : (Pb cs.toList (i * size) v.cells.toList).toArray.size = cs.size := by
   simp only [ym]; rw [Jg hfit]; simp
  obtain ⟨cs', h1, h2, h3, h4⟩ := AN size r (i + 1) (Pb cs.toList (i * size) v.cells.toList).toArray (fun j p hj => by
   obtain ⟨a1, a2⟩ := hp (j + 1) p (by simpa using hj)
   exact ⟨by omega, a2⟩) (by
    rw [hsz]; have : i + 1 + r.length = i + (r.length + 1) := by omega
    rw [this]; exact hle)
  refine ⟨cs', ?_, by rw [h2, hsz], ?_, ?_⟩
  ·rw [OS rfl hv (by omega)]; exact h1
  ·intro k hk
   rw [h3 k (by omega)]
   have := Ci hfit k
   rw [if_pos hk] at this
   simpa using this
  ·intro j p hj
   cases j with
   | zero =>
    simp only [List.getElem?_cons_zero, jc] at hj
    subst hj
    simp only [q9]
    refine N3 (by rw [h2, hsz]; omega) hvl fun j' hj' => ?_
    rw [h3 _ (by omega)]
    have := Ci hfit (i * size + j')
    rw [if_neg (by omega), if_pos (by omega)] at this
    rw [Nat.add_sub_cancel_left] at this
    simpa using this
   | succ j =>
    have := h4 j p (by simpa using hj)
    have e2 : i + 1 + j = i + (j + 1) := by omega
    rwa [e2] at this
theorem IU {z : Array Value} {n sz i j : Nat} (hz : z.size = sz) (hi : i < n) (hj : j < sz) : (madeCells z (n * sz))[i * sz + j]? = z[j]? := by
 have hlt : i * sz + j < n * sz := by
  have : (i + 1) * sz ≤ n * sz := jn _ hi
  rw [yd, ye] at this
  omega
 have hm : (i * sz + j) % sz = j := by rw [Nat.mul_comm, Nat.mul_add_mod, Nat.mod_eq_of_lt hj]
 simp [madeCells, hlt, hz, hm, hj]
theorem Uad {z : Array Value} {n sz i : Nat} (hz : z.size = sz) (hi : i < n) : Rc (madeCells z (n * sz)) (i * sz) sz = z.toList := by
 refine N3 ?_ (by simpa using hz) fun j hj => ?_
 ·have : (i + 1) * sz ≤ n * sz := jn _ hi
  rw [yd, ye] at this
  simpa [size_madeCells] using this
 ·rw [IU hz hi hj]; simp
theorem Paj {τ : Ty} {d : D} {v : Value} {w : World} {O : Nat → Prop} {hp : Nat → Option Ja} {σ : Nat → Value} (hs : Ab τ d) (ha : τ.isAgg = false) (h : Wa w O hp σ d [v]) : v.cells = #[v] := by
 cases d with
 | t τ' x =>
  simp only [Ab] at hs
  subst hs
  cases τ' with
  | i k => simp only [Wa, Ka, yg, and_true] at h; rw [h]; rfl
  | b => simp only [Wa, Ka, yg, and_true] at h; rw [h]; rfl
  | o => simp only [Wa, Ka, yg, and_true] at h; rw [h]; rfl
  | mp _ _ => obtain ⟨hq, _⟩ | ⟨q, es, clk, hq, _⟩ := h <;> (simp only [yg, and_true] at hq; rw [hq]; rfl)
  | s => simp only [Wa, Ka, yg, and_true] at h; rw [h]; rfl
  | sl e => obtain ⟨q, c, hq, _⟩ := h; simp only [yg, and_true] at hq; rw [hq]; rfl
  | u => simp [Ty.isAgg] at ha
  | p x y => simp [Ty.isAgg] at ha
 | nil => simp only [Wa, yg, and_true] at h; rw [h]; rfl
 | own id =>
  obtain ⟨u, hu, h1, _⟩ := h
  simp only [yg, and_true] at hu
  subst hu
  cases v <;> first | rfl | simp [Value.oneCell'] at h1
 | mpo id =>
  obtain ⟨u, hu, h1, _⟩ := h
  simp only [yg, and_true] at hu
  subst hu
  cases v <;> first | rfl | simp [Value.oneCell'] at h1
 | cut id lo hi =>
  obtain ⟨u, hu, h1, _⟩ := h
  simp only [yg, and_true] at hu
  subst hu
  cases v <;> first | rfl | simp [Value.oneCell'] at h1
 | _ => cases τ <;> simp [Ab, Ty.isAgg] at hs ha
theorem Eab {τ : Ty} {cs : List Value} {w : World} {O : Nat → Prop} {hp : Nat → Option Ja} {σ : Nat → Value} {d : D} (hs : Ab τ d) (h : Wa w O hp σ d cs) : (Sc τ cs).cells.toList = cs := by
 have hl := Wa.length hs h
 unfold Sc
 cases ha : τ.isAgg with
 | true => simp [Value.cells]
 | false =>
  rw [Ty.size_one ha] at hl
  obtain ⟨u, rfl⟩ := q8.1 hl
  have := Paj hs ha h
  simp [this]
theorem CI (τ : Ty) : (Sc τ τ.zc).cells.toList = τ.zc := by
 obtain ⟨h1, h2, _⟩ := OG default (fun _ => False) (fun _ => none) (fun _ => default) τ
 exact Eab h1 h2
theorem MB (τ : Ty) : τ.zc.length = τ.size := by
 obtain ⟨h1, h2, _⟩ := OG default (fun _ => False) (fun _ => none) (fun _ => default) τ
 exact Wa.length h1 h2
theorem DX {z : List Value} {sz : Nat} (hz : z.length = sz) : ∀ {n j : Nat}, j < n → Rc (yb n z).flatten.toArray (j * sz) sz = z
 | 0, _, h => by omega
 | n + 1, 0, _ => by
  simp only [Rc, List.replicate_succ, yn, Nat.zero_mul, List.drop_zero, ← hz]
  simp
 | n + 1, j + 1, h => by
  have := DX hz (n := n) (j := j) (by omega)
  simp only [Rc, List.replicate_succ, yn] at this ⊢
  rw [yo, Nat.add_comm, List.drop_append, List.drop_eq_nil_of_le (by omega)]
  have e : sz + j * sz - z.length = j * sz := by omega
  rw [e]
  simpa using this
theorem BO (w : World) : ∀ τ : Ty, Ob w τ (zT τ) τ.zc []
 | .i _ => ⟨rfl, rfl⟩
 | .b => ⟨rfl, rfl⟩
 | .o => ⟨rfl, rfl⟩
 | .mp _ _ => .inl ⟨rfl, rfl, rfl⟩
 | .s => ⟨rfl, rfl⟩
 | .sl e => ⟨by simp [zT], .inl ⟨rfl, rfl, rfl⟩⟩
 | .u => ⟨rfl, rfl⟩
 | .p x y => ⟨_, _, [], [], rfl, rfl, BO w x, BO w y⟩
section
variable {P : Program} {Out : Type} {n0 : Nat} {A : Fx} {O0 : Nat → Prop} {w0 w w' : World} {s : AS} {σ σ' : Nat → Value} {φ φ' : Nat → List Nat} {a : Act}
variable {o : Oper} {Q : Exit → Act → World → Prop} {k : AS → Option Out} {out : Out} {d : D} {v : Value} {upd : List (Nat × Option Ja)} {dst : Option Tmp} {G : Qd}
theorem Su {id : Nat} {e : Ty} {dp : Bool} {xs : List (T e)} {O : Nat → Prop} {val : Value} (hv : val.oneCell' = true) {s' : AS} (_ : s'.heap id = some (.row e dp xs)) :
 Nc w O s'.heap (Kg σ id val) (.own id) val := by
 rw [Xz]
 exact ⟨hv, fun _ _ _ _ => (Ld _ _ _).symm⟩
theorem Wac (h : Ra n0 A O0 w0 s σ φ a w) {tt : Nat} (hn : s.newOk tt = true) {e : Ty} {et : TypeId} (n : Nat) (hle : n ≤ 1073741824) :
 Ra n0 A O0 w0 ⟨s.n, s.tm, (tt, some (.row e true (yb n (zT e)))) :: s.hp⟩ (Kg σ tt (.slice (some ⟨w.heap.size, 0, none⟩) n n)) (Kg φ tt [w.heap.size]) a
  (w.alloc (.cells (madeCells (Sc e e.zc).cells (n * e.size)) et)) := by
 have hzc : (Sc e e.zc).cells.size = e.size := by
  have := CI e
  rw [← Array.length_toList, this, MB]
 have hmade : (madeCells (Sc e e.zc).cells (n * e.size)).size = n * e.size := size_madeCells _ _
 have hlen : ja (yb n (zT e)) = n := List.length_replicate
 refine h.new1 (id := tt) hn _ _ _ (by simp) (fun b hb => Hg w _ b hb) rfl rfl rfl (by simp) (by simp) ?_
 intro hp' σ' O' hσ _ _
 simp only [Ec, hσ]
 refine ⟨by rw [hlen]; unfold Ph; omega, .inr ⟨w.heap.size, 0, n, _, et, yb n [], by rw [hlen], heap_alloc_new w _, by rw [hlen]; exact jp _, by unfold Ph; omega, by rw [hmade]; omega, by simp, by simp, fun j hj => ?_⟩⟩
 have hj' : j < n := by rw [hlen] at hj; exact hj
 simp only [jt]
 rw [Uad hzc hj', CI]
 have e1 : List.get (yb n (zT e)) ⟨j, hj⟩ = zT e := List.getElem_replicate hj
 have e2 : (yb n ([] : List Nat)).getD j [] = [] := by
  rw [qg, List.getElem?_replicate]; split <;> rfl
 rw [e1, e2]
 exact BO _ e
theorem Saa {e : Ty} {t et : TypeId} (hu : P.underlying t = some (.slice et)) (hte : Kc P e et = true) (n : Int) (h0 : 0 ≤ n) (h30 : n ≤ 1073741824) :
 (Instr.makeSlice t (.int .i64 n) (.int .i64 n)).run P w = .ok (.slice (some ⟨w.heap.size, 0, none⟩) n.toNat n.toNat) (w.alloc (.cells (madeCells (Sc e e.zc).cells (n.toNat * e.size)) et)) := by
 obtain ⟨i, hi, hsz, hby, hz⟩ := Tok.size hte
 have hbytes : (i.bytes : Int) * n ≤ 281474976710656 := by
  have h1 : (i.bytes : Int) ≤ 65536 := by omega
  have := Int.mul_le_mul h1 h30 h0 (by omega)
  omega
 have hr := run_make (P := P) w t et i _ hu hi hz .i64 .i64 n n h0 (Int.le_refl _) hbytes (by omega)
 rwa [hsz] at hr
theorem MY (hG : EnvTy P G) (h : Ra n0 A O0 w0 s σ φ a w) {t : TypeId} {x y : Operand} (ho : o.op = .makeSlice t x y)
 (he : Se G s o k = some out) : o.wp P a w (Zd n0 A O0 w0 k out) Q := by
 simp only [Se, Qb, ho] at he
 split at he
 ·rename_i tt e n m hd hty hx hy
  cases hn : s.newOk tt with
  | false => simp [hn] at he
  | true =>
   simp only [hn, y3] at he
   cases hc : (((n : Int) == m) && (decide ((0 : Int) ≤ n) && decide ((n : Int) ≤ Nb))) with
   | false => rw [hc] at he; exact absurd he (by simp)
   | true =>
    rw [hc] at he
    simp only [y3] at he
    simp only [jd, beq_iff_eq, decide_eq_true_eq] at hc
    obtain ⟨hnm, h0, hle⟩ := hc
    subst hnm
    have hv := h.ev hx
    have hv2 := h.ev hy
    rw [Xd] at hv hv2
    obtain ⟨et, hu, hte⟩ := Tok.sl (hG.ty _ _ hty)
    have hr := Saa (w := w) hu hte n h0 hle
    have hc := Wac (tt := tt) (et := et) h hn (e := e) (jz n) (by
     have : (jz n : Int) ≤ 1073741824 := by rw [Int.toNat_of_nonneg h0]; exact hle
     exact Int.ofNat_le.1 this)
    refine Jb (v := .slice (some ⟨w.heap.size, 0, none⟩) (jz n) (jz n)) ?_ (Hd rfl hc (Su rfl (Rf _ _ _)) he)
    simp only [execOp, ho, hv, hv2, qm, hr, ql, Sem.run_pure]
 ·simp at he
theorem Yac (hG : EnvTy P G) (h : Ra n0 A O0 w0 s σ φ a w) {t : TypeId} (ho : o.op = .alloc t)
 (he : Se G s o k = some out) : o.wp P a w (Zd n0 A O0 w0 k out) Q := by
 simp only [Se, Qb, ho] at he
 split at he
 ·rename_i tt τ hd hty
  cases hn : s.newOk tt with
  | false => simp [hn] at he
  | true =>
   simp only [hn, y3] at he
   obtain ⟨h1, h2, h3⟩ := OG w (OO O0 s φ) s.heap σ τ
   have hc := Y2 (id := tt) h hn t h1 h2 (fun j hj => by rw [h3 j] at hj; simp at hj)
   refine Jb (w' := w.alloc (.cells τ.zc.toArray t)) (v := .pointer (some ⟨w.heap.size, 0, none⟩)) ?_ (Hd rfl hc (QC _ rfl (Rf _ _ _)) he)
   have hz := Tok.zero (hG.ty _ _ hty) w
   have hcells : (Sc τ τ.zc).cells = τ.zc.toArray := by
    have hl := Wa.length h1 h2
    unfold Sc
    cases ha : τ.isAgg with
    | true => simp [Value.cells]
    | false =>
     rw [Ty.size_one ha] at hl
     obtain ⟨u, hu⟩ := q8.1 hl
     rw [hu]
     cases τ <;> simp_all [Ty.zc, Ty.isAgg] <;> subst hu <;> rfl
   simp [execOp, ho, Instr.alloc, hz, newVar, newRow, hcells]
 ·rename_i tt hd hty
  split at he
  ·rename_i e n har
   cases hn : (s.newOk tt && (ya 0 n && (jy n 1000 && jy e.size 1000))) with
   | false => rw [hn] at he; simp at he
   | true =>
    rw [hn] at he
    simp only [y3] at he
    simp only [jd] at hn
    obtain ⟨hnew, hn0, hn1, _⟩ := hn
    rw [yc] at hn0
    have hn1 := qz hn1
    have hlen : ja (yb n (zT e)) = n := List.length_replicate
    have hsz : (yb n e.zc).flatten.length = n * e.size := by simp [List.length_flatten, MB]
    have hc : Ra n0 A O0 w0 ⟨s.n, s.tm, (tt, some (.row e true (yb n (zT e)))) :: s.hp⟩ (Kg σ tt (.slice (some ⟨w.heap.size, 0, none⟩) n n)) (Kg φ tt [w.heap.size]) a
     (w.alloc (.cells (yb n e.zc).flatten.toArray t)) := by
     refine h.new1 (id := tt) hnew _ _ _ (by simp) (fun b hb => Hg w _ b hb) rfl rfl rfl (by simp) (by simp) ?_
     intro hp' σ' O' hσ _ _
     simp only [Ec, hσ]
     refine ⟨by rw [hlen]; unfold Ph; omega, .inr ⟨w.heap.size, 0, n, _, t, yb n [], by rw [hlen], heap_alloc_new w _, by rw [hlen]; exact jp _, by unfold Ph; omega, by simp only [ym, hsz]; omega, by simp, by simp, fun j hj => ?_⟩⟩
     have hj' : j < n := by rw [hlen] at hj; exact hj
     simp only [jt]
     have hseg : Rc (yb n e.zc).flatten.toArray (j * e.size) e.size = e.zc := DX (MB e) hj'
     have e1 : List.get (yb n (zT e)) ⟨j, hj⟩ = zT e := List.getElem_replicate hj
     have e2 : (yb n ([] : List Nat)).getD j [] = [] := by
      rw [qg, List.getElem?_replicate]; split <;> rfl
     rw [hseg, e1, e2]
     exact BO _ e
    refine Jb (v := .pointer (some ⟨w.heap.size, 0, none⟩)) ?_ (Hd rfl hc ?_ he)
    ·have har' := hG.ar _ _ _ har
     simp only [TM, jd] at har'
     have h2 := har'.2
     split at h2
     ·rename_i inf hinf
      split at h2
      ·rename_i cs hz
       have hcs : cs = (yb n e.zc).flatten.toArray := by
        apply Array.toList_inj.1
        simpa using SE h2
       simp [execOp, ho, Instr.alloc, zeroValue, typeInfo, hinf, hz, newVar, newRow, Value.cells, hcs]
      ·simp at h2
     ·simp at h2
    ·rw [Li]
     refine ⟨rfl, fun blk' e' n' hb' hr' => ?_⟩
     have hb2 : AS.heap ⟨s.n, s.tm, (tt, some (.row e true (yb n (zT e)))) :: s.hp⟩ tt = some (.row e true (yb n (zT e))) := Rf _ _ _
     have hb3 := hb2.symm.trans hb'
     cases hb3
     simp only [Ja.rowN, jc, jh] at hr'
     obtain ⟨rfl, hr'⟩ := hr'
     rw [hlen] at hr'
     subst hr'
     exact ⟨hn0, w.heap.size, 0, n, by rw [Ld], by simp [Db]⟩
  ·simp at he
 ·simp at he
theorem T2 (h : Ra n0 A O0 w0 s σ φ a w) {e : Ty} : ∀ {ps : List (Nat × Operand)} {m : Nat} {xs : List (T e)} {l : List Nat}, VJ s e m ps = some (xs, l) →
 xs.length = ps.length ∧ ∃ Ls : List (List Nat), Ls.length = ps.length ∧ l = Ls.flatten ∧
  ∀ j p, ps[j]? = some p → p.1 = m + j ∧ ∃ d x lj, s.ev p.2 = some d ∧ Lb s d e = some (x, lj) ∧ xs[j]? = some x ∧ Ls[j]? = some lj
 | [], m, xs, l, he => by
  simp only [VJ, jc, jh] at he
  obtain ⟨rfl, rfl⟩ := he
  exact ⟨rfl, [], rfl, rfl, fun j p hj => by simp at hj⟩
 | (i, x) :: r, m, xs, l, he => by
  simp only [VJ] at he
  cases hi : qv i m with
  | false => simp [hi] at he
  | true =>
   simp only [hi, y3] at he
   split at he
   ·rename_i d hx
    split at he
    ·rename_i y l1 ys l2 hy hys
     simp only [jc, jh] at he
     obtain ⟨rfl, rfl⟩ := he
     obtain ⟨h1, Ls, h2, h3, h4⟩ := T2 h hys
     refine ⟨by simp [h1], l1 :: Ls, by simp [h2], by simp [h3], fun j p hj => ?_⟩
     cases j with
     | zero =>
      simp only [List.getElem?_cons_zero, jc] at hj
      subst hj
      exact ⟨by simpa using jv hi, d, y, l1, hx, hy, rfl, rfl⟩
     | succ j =>
      obtain ⟨a1, a2⟩ := h4 j p (by simpa using hj)
      exact ⟨by omega, by simpa using a2⟩
    ·simp at he
   ·simp at he
theorem FY {e : Ty} : ∀ {ps : List (Nat × Operand)} {m : Nat} {xs : List (T e)}, IE s e m ps = some xs →
 xs.length = ps.length ∧ ∀ j p, ps[j]? = some p → p.1 = m + j ∧ ∃ d x, s.ev p.2 = some d ∧ Vf d e = some x ∧ xs[j]? = some x
 | [], m, xs, he => by
  simp only [IE, jc] at he
  subst he
  exact ⟨rfl, fun j p hj => by simp at hj⟩
 | (i, x) :: r, m, xs, he => by
  simp only [IE] at he
  cases hi : qv i m with
  | false => simp [hi] at he
  | true =>
   simp only [hi, y3] at he
   split at he
   ·rename_i d hx
    split at he
    ·rename_i y ys hy hys
     simp only [jc] at he
     subst he
     obtain ⟨h1, h4⟩ := FY hys
     refine ⟨by simp [h1], fun j p hj => ?_⟩
     cases j with
     | zero =>
      simp only [List.getElem?_cons_zero, jc] at hj
      subst hj
      exact ⟨by simpa using jv hi, d, y, hx, hy, rfl⟩
     | succ j =>
      obtain ⟨a1, a2⟩ := h4 j p (by simpa using hj)
      exact ⟨by omega, by simpa using a2⟩
    ·simp at he
   ·simp at he
theorem Cj : ∀ {d : D} {τ : Ty} {x : T τ} {l : List Nat}, Lb s d τ = some (x, l) → Ab τ d := by
 intro d
 induction d with
 | t τ' y =>
  intro τ x l he
  simp only [Lb] at he
  cases hf : τ'.flat with
  | false => simp [hf] at he
  | true =>
   simp only [hf, y3] at he
   split at he
   ·rename_i q hq
    have := Pc hq
    simpa [Ab] using this
   ·simp at he
 | pr y z ih1 ih2 =>
  intro τ x l he
  cases τ with
  | p t1 t2 =>
   simp only [Lb] at he
   split at he
   ·rename_i u l1 v l2 hu hv
    exact ⟨ih1 hu, ih2 hv⟩
   ·simp at he
  | _ => simp [Lb] at he
 | nil => intro τ x l he; cases τ <;> first | trivial | simp [Lb] at he
 | own id => intro τ x l he; cases τ <;> first | trivial | simp [Lb] at he
 | un => intro τ x l he; cases τ <;> first | trivial | simp [Lb] at he
 | mpo id => intro τ x l he; cases τ <;> first | trivial | simp [Lb] at he
 | _ => intro τ x l he; cases τ <;> simp [Lb] at he
theorem Xe {O : Nat → Prop} {hp : Nat → Option Ja} : ∀ {d : D} {τ : Ty} {x : T τ}, Vf d τ = some x → Ab τ d ∧ ∀ cs, Wa w O hp σ d cs → Ka w O τ x cs := by
 intro d
 induction d with
 | t τ' y =>
  intro τ x he
  simp only [Vf] at he
  split at he
  ·rename_i q hq
   obtain rfl := Pc hq
   simp only [jc] at he
   subst he
   exact ⟨by simp [Ab], fun cs hr => hr⟩
  ·simp at he
 | pr y z ih1 ih2 =>
  intro τ x he
  cases τ with
  | p t1 t2 =>
   simp only [Vf] at he
   split at he
   ·rename_i u v hu hv
    simp only [jc] at he
    subst he
    refine ⟨⟨(ih1 hu).1, (ih2 hv).1⟩, ?_⟩
    rintro cs ⟨c1, c2, h0, h1, h2⟩
    exact ⟨c1, c2, h0, (ih1 hu).2 _ h1, (ih2 hv).2 _ h2⟩
   ·simp at he
  | _ => simp [Vf] at he
 | nil =>
  intro τ x he
  cases τ with
  | sl e =>
   simp only [Vf, jc] at he
   subst he
   refine ⟨trivial, fun cs hr => ?_⟩
   simp only [Wa] at hr
   exact ⟨none, 0, hr, jp _, by simp, .inl rfl⟩
  | _ => simp [Vf] at he
 | un =>
  intro τ x he
  cases τ with
  | u => exact ⟨trivial, fun cs hr => hr⟩
  | _ => simp [Vf] at he
 | _ => intro τ x he; cases τ <;> simp [Vf] at he
theorem DG {e : Ty} {t et : TypeId} (hu : P.underlying t = some (.slice et)) (hte : Kc P e et = true) {n : Nat} (hn : n ≤ 1000) (he : e.size ≤ 1000) {parts : Array (Nat × Value)} {cells : Array Value}
 (hf : Instr.fill (fun i => some (i * e.size, e.size)) (madeCells (Sc e e.zc).cells (n * e.size)) parts.toList = some cells) :
 (Instr.buildSlice t n parts).run P w = .ok (.slice (some ⟨w.heap.size, 0, none⟩) n n) (w.alloc (.cells cells et)) := by
 have hle : n * e.size ≤ 1000 * 1000 := Nat.mul_le_mul hn he
 have h24 : ¬ (n * e.size > 2 ^ 24) := by omega
 unfold Instr.buildSlice
 simp only [qm, run_underlying hu, ql, Tok.sizeOf hte w]
 rw [if_neg h24]
 by_cases hz : n * e.size = 0
 ·have hm0 : (Array.range (n * e.size)).map ((#[] : Array Value)[· % (#[] : Array Value).size]!) = madeCells (Sc e e.zc).cells (n * e.size) := by
   rw [hz]; simp [madeCells]
  rw [if_pos hz]
  simp only [qm, Sem.run_pure, ql]
  rw [hm0, hf]
  simp [newRow]
 ·rw [if_neg hz]
  simp only [qm, Tok.zero hte w, Sem.run_pure, ql]
  have hm0 : (Array.range (n * e.size)).map ((Sc e e.zc).cells[· % (Sc e e.zc).cells.size]!) = madeCells (Sc e e.zc).cells (n * e.size) := rfl
  rw [hm0, hf]
  simp [newRow]
end
section
variable {P : Program} {Out : Type} {n0 : Nat} {A : Fx} {O0 : Nat → Prop} {w0 w w' : World} {s : AS} {σ σ' : Nat → Value} {φ φ' : Nat → List Nat} {a : Act}
variable {o : Oper} {Q : Exit → Act → World → Prop} {k : AS → Option Out} {out : Out} {d : D} {v : Value} {upd : List (Nat × Option Ja)} {dst : Option Tmp} {G : Qd}
theorem Ob.block_ext {τ : Ty} {x : T τ} {cs : List Value} {F : List Nat} (h : Ob w τ x cs F) (hb : ∀ b, b < w.heap.size → w'.heap[b]? = w.heap[b]?) : Ob w' τ x cs F :=
 h.stable fun b hm => hb b (h.lt b hm)
theorem JU (hG : EnvTy P G) (h : Ra n0 A O0 w0 s σ φ a w) {t : TypeId} {n : Nat} {ps : Array (Nat × Operand)} (ho : o.op = .buildSlice t n ps)
 (he : Se G s o k = some out) : o.wp P a w (Zd n0 A O0 w0 k out) Q := by
 simp only [Se, Qb, ho] at he
 split at he
 ·rename_i tt e hd hty
  obtain ⟨et, hu, hte⟩ := Tok.sl (hG.ty _ _ hty)
  have hzc : (Sc e e.zc).cells.size = e.size := by
   have := CI e
   rw [← Array.length_toList, this, MB]
  have hpm : (ps.map fun (j, y) => (j, a.eval y)).toList = ps.toList.map fun x => (x.1, a.eval x.2) := by simp
  split at he
  ·rename_i xs l hl
   cases hc : (s.newOk tt && Mf l && qv n ps.size && jy n 1000 && jy e.size 1000) with
   | false => rw [hc] at he; simp at he
   | true =>
    rw [hc] at he
    simp only [y3] at he
    simp only [jd] at hc
    obtain ⟨⟨⟨⟨hn, hnd⟩, hnp⟩, hn1⟩, he1⟩ := hc
    have hnp := jv hnp
    have hn1 := qz hn1
    have he1 := qz he1
    obtain ⟨hlen, Ls, hL1, hL2, hL3⟩ := T2 h hl
    have hpl : ps.toList.length = n := by simp [hnp]
    have hparts : ∀ j p, (ps.toList.map fun x => (x.1, a.eval x.2))[j]? = some p → p.1 = 0 + j ∧ p.2.cells.size = e.size := by
     intro j p hj
     rw [List.getElem?_map] at hj
     cases hq : ps.toList[j]? with
     | none => rw [hq] at hj; simp at hj
     | some q =>
      rw [hq] at hj
      simp only [qc, jc] at hj
      subst hj
      obtain ⟨h1, d, x, lj, h2, h3, h4, h5⟩ := hL3 j q hq
      obtain ⟨hr, _⟩ := Kd (Cj h3) (h.ev h2)
      have := Wa.length (Cj h3) hr
      exact ⟨h1, by simpa using this⟩
    obtain ⟨cs', hf, hsz, _, hseg⟩ := AN e.size (ps.toList.map fun x => (x.1, a.eval x.2)) 0 (madeCells (Sc e e.zc).cells (n * e.size)) hparts (by
     rw [size_madeCells]; simp [hnp])
    rw [size_madeCells] at hsz
    rw [← hpm] at hf
    have hr := DG (w := w) hu hte hn1 he1 hf
    have hxl : ja xs = n := by rw [← hpl]; exact hlen
    have hlive : ∀ j, j ∈ l → ∃ b, s.heap j = some b := by
     intro j hj
     rw [hL2] at hj
     obtain ⟨lj, hlj, hm⟩ := List.mem_flatten.1 hj
     obtain ⟨q, hq, rfl⟩ := qs.1 hlj
     have hq' : q < ps.toList.length := by rw [← hL1]; exact hq
     obtain ⟨_, d, x, lj, h2, h3, h4, h5⟩ := hL3 q _ (je hq')
     obtain ⟨hr, _⟩ := Kd (Cj h3) (h.ev h2)
     rw [je hq] at h5
     simp only [jc] at h5
     rw [h5] at hm
     exact (Jm h h3 hr).2 j hm
    have hflat : (Ls.map (Ia φ)).flatten = Ia φ l := by
     rw [hL2]
     clear hL1 hL2 hL3
     induction Ls with
     | nil => simp [Ia]
     | cons x r ih => simp only [yh, yn, Rd, ih]
    have hlt : ∀ b, b ∈ Ia φ l → b < w.heap.size := by
     intro b hb
     obtain ⟨j, hj, hm⟩ := Gb.1 hb
     obtain ⟨bj, hbj⟩ := hlive j hj
     exact (h.hp j bj hbj).lt b hm
    have hc := h.absorb (id := tt) (w' := w.alloc (.cells cs' et)) hn l hlive (.row e true xs) (.slice (some ⟨w.heap.size, 0, none⟩) n n) (w.heap.size :: Ia φ l)
     (by simp) (fun b hb _ => Hg w _ b hb) rfl rfl rfl (by
      rw [yk]
      exact ⟨fun hm => Nat.lt_irrefl _ (hlt _ hm), Qf h (Rh hnd) hlive⟩) (by
      intro b hb
      cases jq.1 hb with
      | inl e => left; omega
      | inr hm => right; exact Gb.1 hm) (by
      intro hp' σ' O' hσ _
      simp only [Ec, hσ]
      refine ⟨by rw [hxl]; unfold Ph; omega, .inr ⟨w.heap.size, 0, n, cs', et, Ls.map (Ia φ), by rw [hxl], heap_alloc_new w _, by omega, by unfold Ph; omega, by rw [hsz]; omega, by rw [hflat], by rw [yp, hL1, hxl, hpl], fun j hj => ?_⟩⟩
      have hj' : j < ps.toList.length := by rw [hpl, ← hxl]; exact hj
      obtain ⟨_, d, x, lj, h2, h3, h4, h5⟩ := hL3 j _ (je hj')
      obtain ⟨hrep, _⟩ := Kd (Cj h3) (h.ev h2)
      have hown := (Jm h h3 hrep).1
      have hx : List.get xs ⟨j, hj⟩ = x := by
       rw [je hj] at h4
       simpa using h4
      have hF : (Ls.map (Ia φ)).getD j [] = Ia φ lj := by
       rw [qg, List.getElem?_map, h5]; rfl
      have hs := hseg j (ps.toList[j].1, a.eval ps.toList[j].2) (by rw [List.getElem?_map, je hj']; rfl)
      simp only [jt] at hs ⊢
      rw [hx, hF, hs]
      exact hown.block_ext fun b hb => Hg w _ b hb)
    refine Jb (v := .slice (some ⟨w.heap.size, 0, none⟩) n n) ?_ (Hd (upd := (tt, some (.row e true xs)) :: Ub l) rfl hc (Su rfl (by rw [yf, Zc, if_pos rfl])) he)
    simp only [execOp, ho, qm, hr, ql, Sem.run_pure]
  ·split at he
   ·rename_i xs hl
    cases hc : (s.newOk tt && qv n ps.size && jy n 1000 && jy e.size 1000) with
    | false => rw [hc] at he; simp at he
    | true =>
     rw [hc] at he
     simp only [y3] at he
     simp only [jd] at hc
     obtain ⟨⟨⟨hn, hnp⟩, hn1⟩, he1⟩ := hc
     have hnp := jv hnp
     have hn1 := qz hn1
     have he1 := qz he1
     obtain ⟨hlen, hL3⟩ := FY hl
     have hpl : ps.toList.length = n := by simp [hnp]
     have hparts : ∀ j p, (ps.toList.map fun x => (x.1, a.eval x.2))[j]? = some p → p.1 = 0 + j ∧ p.2.cells.size = e.size := by
      intro j p hj
      rw [List.getElem?_map] at hj
      cases hq : ps.toList[j]? with
      | none => rw [hq] at hj; simp at hj
      | some q =>
       rw [hq] at hj
       simp only [qc, jc] at hj
       subst hj
       obtain ⟨h1, d, x, h2, h3, h4⟩ := hL3 j q hq
       have hsh := (Xe (w := w) (O := OO O0 s φ) (hp := s.heap) (σ := σ) h3).1
       obtain ⟨hr, _⟩ := Kd hsh (h.ev h2)
       have := Wa.length hsh hr
       exact ⟨h1, by simpa using this⟩
     obtain ⟨cs', hf, hsz, _, hseg⟩ := AN e.size (ps.toList.map fun x => (x.1, a.eval x.2)) 0 (madeCells (Sc e e.zc).cells (n * e.size)) hparts (by
      rw [size_madeCells]; simp [hnp])
     rw [size_madeCells] at hsz
     rw [← hpm] at hf
     have hr := DG (w := w) hu hte hn1 he1 hf
     have hxl : ja xs = n := by rw [← hpl]; exact hlen
     have hc := h.new1 (id := tt) (w' := w.alloc (.cells cs' et)) hn (.row e false xs) (.slice (some ⟨w.heap.size, 0, none⟩) n n) [w.heap.size]
      (by simp) (fun b hb => Hg w _ b hb) rfl rfl rfl (by simp) (by simp) (by
       intro hp' σ' O' hσ hO _
       simp only [Ec, hσ]
       refine ⟨by rw [hxl]; unfold Ph; omega, .inr ⟨w.heap.size, 0, n, cs', et, by rw [hxl], heap_alloc_new w _, by omega, by unfold Ph; omega, by rw [hsz]; omega, rfl, fun j hj => ?_⟩⟩
       have hj' : j < ps.toList.length := by rw [hpl, ← hxl]; exact hj
       obtain ⟨_, d, x, h2, h3, h4⟩ := hL3 j _ (je hj')
       obtain ⟨hsh, hvw⟩ := Xe (w := w) (O := OO O0 s φ) (hp := s.heap) (σ := σ) h3
       obtain ⟨hrep, _⟩ := Kd hsh (h.ev h2)
       have hx : List.get xs ⟨j, hj⟩ = x := by
        rw [je hj] at h4
        simpa using h4
       have hs := hseg j (ps.toList[j].1, a.eval ps.toList[j].2) (by rw [List.getElem?_map, je hj']; rfl)
       simp only [jt] at hs ⊢
       rw [hx, hs]
       exact (hvw _ hrep).stable (fun b _ hb => Hg w _ b hb) hO)
     refine Jb (v := .slice (some ⟨w.heap.size, 0, none⟩) n n) ?_ (Hd rfl hc (Su rfl (Rf _ _ _)) he)
     simp only [execOp, ho, qm, hr, ql, Sem.run_pure]
   ·simp at he
 ·simp at he
end
section
variable {P : Program} {w : World}
theorem GK {τ : Ty} {t : TypeId} (h : Kc P τ t = true) {xs : Array Value} {o : Nat} (hs : o + τ.size ≤ xs.size) :
 (part t xs o).run P w = .ok (Sc τ (Rc xs o τ.size)) w := by
 unfold part
 rw [qm, Tok.isAgg h w]
 simp only [ql]
 cases ha : τ.isAgg with
 | true =>
  simp only [if_true, qm, Tok.sizeOf h w, ql, Sem.run_pure, Sc, ha]
  congr 2
  apply Array.ext'
  simp [Rc, List.take_drop]
 | false =>
  have h1 := Ty.size_one ha
  have hl := Vc hs
  rw [h1] at hl
  obtain ⟨v, hv⟩ := q8.1 hl
  have : xs[o]? = some v := by
   have := Me xs o 1 0 (by omega)
   rw [hv] at this
   simpa using this.symm
  simp [Sc, ha, h1, hv, this]
theorem Q0 {τ : Ty} (hF : ∀ (x y : T τ) (fs : List Field) (o d : Nat) (xs ys : Array Value) (O : Nat → Prop), τ.cmp = true → τ.isAgg = true → Qe P τ fs o = true → τ.cnt ≤ d + 1 →
 Ka w O τ x (Rc xs o τ.size) → Ka w O τ y (Rc ys o τ.size) → o + τ.size ≤ xs.size → o + τ.size ≤ ys.size → (Op.eqFields d xs ys fs).run P w = .ok (Jf τ x y) w)
 {t : TypeId} (h : Kc P τ t = true) (hf : τ.cmp = true) {d : Nat} (hd : τ.cnt ≤ d) {x y : T τ} {cs ds : List Value} {O : Nat → Prop} (hx : Ka w O τ x cs) (hy : Ka w O τ y ds) :
 (Op.equalIn d t (Sc τ cs) (Sc τ ds)).run P w = .ok (Jf τ x y) w := by
 have h0 : 0 < τ.cnt := by cases τ <;> simp [Ty.cnt]
 obtain ⟨d, rfl⟩ : ∃ e, d = e + 1 := ⟨d - 1, by omega⟩
 have lx := Ka.length hx
 have ly := Ka.length hy
 cases τ with
 | i k => simp only [Ka] at hx hy; subst hx; subst hy; simp [Sc, Ty.isAgg, Jf, run_equalIn_int w d t k k _ _ (Tok.i h)]
 | b => simp only [Ka] at hx hy; subst hx; subst hy; simp [Sc, Ty.isAgg, Jf, run_equalIn_bool' w d t _ _ (Tok.b h)]
 | o => simp [Ty.cmp] at hf
 | mp _ _ => simp [Ty.cmp] at hf
 | s =>
  simp only [Ka] at hx hy; subst hx; subst hy
  have e1 : (ByteArray.mk (qp x)).toList = x := ByteArray.toList_mk x
  have e2 : (ByteArray.mk (qp y)).toList = y := ByteArray.toList_mk y
  simp [Sc, Ty.isAgg, Jf, run_equalIn_string w d t _ _ (Tok.s h), e1, e2]
 | sl e => simp [Ty.cmp] at hf
 | u =>
  obtain ⟨fs, hfs, hfo⟩ := Tok.struct rfl h
  have hfs0 : fs.toList = [] := by
   cases hq : fs.toList with
   | nil => rfl
   | cons a r => rw [hq] at hfo; simp [Qe] at hfo
  have : fs = #[] := by apply Array.ext'; simpa using hfs0
  subst this
  have hst : P.stoodInHeld t = false := by
   have h' := h
   simp only [Kc, jd, yj] at h'
   exact h'.1.2
  simp [Sc, Ty.isAgg, Jf, Op.equalIn, run_underlying hfs, qm, hst]
 | p a b' =>
  have ha : (Ty.p a b').isAgg = true := rfl
  obtain ⟨fs, hfs, hfo⟩ := Tok.struct ha h
  have hst : P.stoodInHeld t = false := by
   have h' := h
   simp only [Kc, jd, yj] at h'
   exact h'.1.2.1
  have hfo' : P.fieldsOf t = fs := by simp [Program.fieldsOf, hfs]
  have hvx : Sc (Ty.p a b') cs = .agg cs.toArray := by simp [Sc, ha]
  have hvy : Sc (Ty.p a b') ds = .agg ds.toArray := by simp [Sc, ha]
  rw [hvx, hvy, run_equalIn_agg w d t _ _ (by rw [hfo']; exact hfs) hst, hfo']
  refine hF x y fs.toList 0 d _ _ O hf ha hfo hd ?_ ?_ (by simpa using Nat.le_of_eq lx.symm) (by simpa using Nat.le_of_eq ly.symm)
  ·simpa [Rc, ← lx] using hx
  ·simpa [Rc, ← ly] using hy
theorem I6 (d : Nat) {t : TypeId} {xs ys : Array Value} (hfs : P.underlying t = some (.struct #[])) : (Op.eqGuardIn (d + 1) t (.agg xs) (.agg ys)).run P w = .ok false w := by
 simp [Op.eqGuardIn, run_underlying hfs]
theorem eqF : ∀ {τ : Ty} (x y : T τ) (fs : List Field) (o d : Nat) (xs ys : Array Value) (O : Nat → Prop), τ.cmp = true → τ.isAgg = true → Qe P τ fs o = true → τ.cnt ≤ d + 1 →
 Ka w O τ x (Rc xs o τ.size) → Ka w O τ y (Rc ys o τ.size) → o + τ.size ≤ xs.size → o + τ.size ≤ ys.size → (Op.eqFields d xs ys fs).run P w = .ok (Jf τ x y) w
 | .u, x, y, fs, o, d, xs, ys, O, _, _, hfo, _, _, _, _, _ => by
  cases fs with
  | nil => simp [Op.eqFields, Jf]
  | cons a r => simp [Qe] at hfo
 | .p a c2, x, y, fs, o, d, xs, ys, O, hf, _, hfo, hd, hx, hy, hxs, hys => by
  cases fs with
  | nil => simp [Qe] at hfo
  | cons f r =>
   simp only [Qe, jd, bne_iff_ne, ne_eq] at hfo
   obtain ⟨⟨⟨hfo0, hname⟩, hta⟩, hfr⟩ := hfo
   have hoff := jv hfo0
   simp only [Ty.cmp, jd] at hf
   simp only [Ty.size] at hx hy hxs hys
   simp only [Ty.cnt] at hd
   obtain ⟨c1, c2, hc, hc1, hc2⟩ := hx
   obtain ⟨e1, e2, hec, he1, he2⟩ := hy
   rw [GQ _ _ _ _ (by omega)] at hc hec
   have hc' := List.append_inj hc (by rw [Vc (by omega), Ka.length hc1])
   have he' := List.append_inj hec (by rw [Vc (by omega), Ka.length he1])
   obtain ⟨q1, q2⟩ := hc'
   obtain ⟨q3, q4⟩ := he'
   subst q1; subst q2; subst q3; subst q4
   have p1 := GK (w := w) hta (xs := xs) (o := o) (by omega)
   have p2 := GK (w := w) hta (xs := ys) (o := o) (by omega)
   have hI := Q0 (P := P) (w := w) (τ := a) (fun x y => eqF x y) hta hf.1 (d := d) (by omega) hc1 he1
   simp only [Op.eqFields, hname, not_false_eq_true, if_true, ne_eq, qm, hoff, p1, p2, hI, ql, Jf]
   cases hq : Jf a x.1 y.1 with
   | false => simp
   | true =>
    simp only [jg, jr, if_false, jl]
    have hb : c2.isAgg = true := by
     cases c2 with
     | p _ _ => rfl
     | u => rfl
     | _ => simp [Qe] at hfr
    exact eqF x.2 y.2 r (o + a.size) d xs ys O hf.2 hb hfr (by omega) hc2 he2 (by omega) (by omega)
 | .i _, _, _, _, _, _, _, _, _, _, ha, _, _, _, _, _, _ => by simp [Ty.isAgg] at ha
 | .b, _, _, _, _, _, _, _, _, _, ha, _, _, _, _, _, _ => by simp [Ty.isAgg] at ha
 | .o, _, _, _, _, _, _, _, _, _, ha, _, _, _, _, _, _ => by simp [Ty.isAgg] at ha
 | .mp _ _, _, _, _, _, _, _, _, _, _, ha, _, _, _, _, _, _ => by simp [Ty.isAgg] at ha
 | .s, _, _, _, _, _, _, _, _, _, ha, _, _, _, _, _, _ => by simp [Ty.isAgg] at ha
 | .sl _, _, _, _, _, _, _, _, _, _, ha, _, _, _, _, _, _ => by simp [Ty.isAgg] at ha
theorem FQ {τ : Ty} {t : TypeId} (h : Kc P τ t = true) (hf : τ.cmp = true) (hc : τ.cnt ≤ 9000) {x y : T τ} {cs ds : List Value} {O : Nat → Prop} (hx : Ka w O τ x cs) (hy : Ka w O τ y ds) :
 (Op.equalIn 10000 t (Sc τ cs) (Sc τ ds)).run P w = .ok (Jf τ x y) w :=
 Q0 (fun x y => eqF x y) h hf (by omega) hx hy
theorem Bab {τ : Ty} {t : TypeId} (h : Kc P τ t = true) (ha : τ.isAgg = true) (hf : τ.cmp = true) (op : BinOp) (X Y : Operand) (xs ys : Array Value) :
 (eqGuard op t X Y (.agg xs) (.agg ys)).run P w = .ok () w := by
 cases τ with
 | p a c2 =>
  refine run_eqGuard_agg w op t X Y xs ys ?_
  simp only [Kc, jd, qw, yj] at h
  have := h.1.2.2
  simp only [Ty.cmp, jd] at hf
  simpa [hf] using this
 | u =>
  obtain ⟨fs, hfs, hfo⟩ := Tok.struct ha h
  have hfs0 : fs.toList = [] := by
   cases hq : fs.toList with
   | nil => rfl
   | cons a r => rw [hq] at hfo; simp [Qe] at hfo
  have : fs = #[] := by apply Array.ext'; simpa using hfs0
  subst this
  by_cases hg : P.eqGuardType P.depth t = false
  ·exact run_eqGuard_agg w op t X Y xs ys hg
  ·simp only [Bool.not_eq_false] at hg
   have hgn := I6 (P := P) (w := w) 9999 (xs := xs) (ys := ys) hfs
   have : Op.maxDepth = 9999 + 1 := rfl
   cases op <;> simp [eqGuard, run_program, hg, this, hgn]
 | _ => simp [Ty.isAgg] at ha
end
section
variable {P : Program} {Out : Type} {n0 : Nat} {A : Fx} {O0 : Nat → Prop} {w0 w w' : World} {s : AS} {σ σ' : Nat → Value} {φ φ' : Nat → List Nat} {a : Act}
variable {o : Oper} {Q : Exit → Act → World → Prop} {k : AS → Option Out} {out : Out} {d : D} {v : Value} {upd : List (Nat × Option Ja)} {dst : Option Tmp} {G : Qd}
theorem Kaa (hG : EnvTy P G) (h : Ra n0 A O0 w0 s σ φ a w) {op : BinOp} {t t' : TypeId} {x y : Operand} (ho : o.op = .binOp op t x y t')
 (he : Se G s o k = some out) : o.wp P a w (Zd n0 A O0 w0 k out) Q := by
 by_cases hagg : ∀ u, s.ev x = some u → u.isAgg = false
 ·exact Zac hG h ho hagg he
 ·simp only [Se, Qb, ho] at he
  split at he
  ·rename_i u v hu hv
   have hua : u.isAgg = true := by
    cases hq : u.isAgg with
    | true => rfl
    | false => exact absurd (fun u' hu' => by rw [hu] at hu'; simp at hu'; subst hu'; exact hq) hagg
   rw [hua] at he
   simp only [y3] at he
   split at he
   ·rename_i τ hty
    split at he
    ·rename_i p q hp hq
     cases hc : (τ.cmp && τ.isAgg && jy τ.cnt 9000) with
     | false => rw [hc] at he; simp at he
     | true =>
      rw [hc] at he
      simp only [y3] at he
      simp only [jd] at hc
      have hcnt := qz hc.2
      obtain ⟨s1, v1⟩ := Xe (w := w) (O := OO O0 s φ) (hp := s.heap) (σ := σ) hp
      obtain ⟨s2, v2⟩ := Xe (w := w) (O := OO O0 s φ) (hp := s.heap) (σ := σ) hq
      obtain ⟨r1, e1⟩ := Kd s1 (h.ev hu)
      obtain ⟨r2, e2⟩ := Kd s2 (h.ev hv)
      have hrun := FQ (P := P) (hG.ty _ _ hty) hc.1.1 hcnt (v1 _ r1) (v2 _ r2)
      have g1 : Sc τ (a.eval x).cells.toList = .agg (a.eval x).cells.toList.toArray := by simp [Sc, hc.1.2]
      have g2 : Sc τ (a.eval y).cells.toList = .agg (a.eval y).cells.toList.toArray := by simp [Sc, hc.1.2]
      have hgd := fun op => Bab (P := P) (w := w) (hG.ty _ _ hty) hc.1.2 hc.1.1 op x y (a.eval x).cells.toList.toArray (a.eval y).cells.toList.toArray
      rw [g1, g2] at hrun
      rw [g1] at e1
      rw [g2] at e2
      split at he
      ·refine Jb (w' := w) (v := .bool (Jf τ p q)) ?_ (Sb h (Ki.2 rfl) he)
       simp only [execOp, ho]
       rw [e1, e2]
       simp only [qm, hgd, ql, run_eql_struct, hrun, Sem.run_pure]
      ·refine Jb (w' := w) (v := .bool (!Jf τ p q)) ?_ (Sb h (Ki.2 rfl) he)
       simp only [execOp, ho]
       rw [e1, e2]
       simp only [qm, hgd, ql, run_neq_struct, hrun, Sem.run_pure]
      ·simp at he
    ·simp at he
   ·simp at he
  ·simp at he
end
theorem Ka.one {w : World} {O : Nat → Prop} : ∀ {τ : Ty} {x : T τ} {cs : List Value}, Ka w O τ x cs → ∀ v ∈ cs, v.oneCell' = true
 | .i _, _, _, h, v, hv => by simp only [Ka] at h; subst h; simp at hv; subst hv; rfl
 | .b, _, _, h, v, hv => by simp only [Ka] at h; subst h; simp at hv; subst hv; rfl
 | .o, _, _, h, v, hv => by simp only [Ka] at h; subst h; simp at hv; subst hv; rfl
 | .mp _ _, _, _, h, v, hv => by obtain ⟨h, _⟩ | ⟨r, es, clk, h, _⟩ := h <;> (subst h; simp at hv; subst hv; rfl)
 | .s, _, _, h, v, hv => by simp only [Ka] at h; subst h; simp at hv; subst hv; rfl
 | .sl _, _, _, h, v, hv => by obtain ⟨a, cap, h, _⟩ := h; subst h; simp at hv; subst hv; rfl
 | .u, _, _, h, v, hv => by simp only [Ka] at h; subst h; simp at hv
 | .p x y, _, _, h, v, hv => by
  obtain ⟨c1, c2, h, h1, h2⟩ := h
  subst h
  rcases jm.1 hv with hv | hv
  ·exact Ka.one h1 v hv
  ·exact Ka.one h2 v hv
theorem Ob.one {w : World} : ∀ {τ : Ty} {x : T τ} {cs : List Value} {F : List Nat}, Ob w τ x cs F → ∀ v ∈ cs, v.oneCell' = true
 | .i _, _, _, _, h, v, hv => by simp only [Ob] at h; rw [h.1] at hv; simp at hv; subst hv; rfl
 | .b, _, _, _, h, v, hv => by simp only [Ob] at h; rw [h.1] at hv; simp at hv; subst hv; rfl
 | .o, _, _, _, h, v, hv => by simp only [Ob] at h; rw [h.1] at hv; simp at hv; subst hv; rfl
 | .mp _ _, _, _, _, h, v, hv => by obtain ⟨h, _⟩ | ⟨r, es, clk, Fs, h, _⟩ := h <;> (subst h; simp at hv; subst hv; rfl)
 | .s, _, _, _, h, v, hv => by simp only [Ob] at h; rw [h.1] at hv; simp at hv; subst hv; rfl
 | .sl _, _, _, _, h, v, hv => by
  obtain ⟨_, ⟨h, _⟩ | ⟨_, _, _, _, _, _, h, _⟩⟩ := h <;> (subst h; simp at hv; subst hv; rfl)
 | .u, _, _, _, h, v, hv => by simp only [Ob] at h; rw [h.1] at hv; simp at hv
 | .p x y, _, _, _, h, v, hv => by
  obtain ⟨c1, c2, F1, F2, h, _, h1, h2⟩ := h
  subst h
  rcases jm.1 hv with hv | hv
  ·exact Ob.one h1 v hv
  ·exact Ob.one h2 v hv
theorem Wa.one {w : World} {O : Nat → Prop} {hp : Nat → Option Ja} {σ : Nat → Value} : ∀ {d : D} {cs : List Value}, Wa w O hp σ d cs → ∀ v ∈ cs, v.oneCell' = true
 | .und, _, h, _, _ => by simp [Wa] at h
 | .anyv, _, h, _, _ => by simp [Wa] at h
 | .t τ x, _, h, v, hv => Ka.one h v hv
 | .nil, _, h, v, hv => by simp only [Wa] at h; subst h; simp at hv; subst hv; rfl
 | .own _, _, h, v, hv => by obtain ⟨u, h, h1, _⟩ := h; subst h; simp at hv; subst hv; exact h1
 | .mpo _, _, h, v, hv => by obtain ⟨u, h, h1, _⟩ := h; subst h; simp at hv; subst hv; exact h1
 | .cut _ _ _, _, h, v, hv => by obtain ⟨u, h, h1, _⟩ := h; subst h; simp at hv; subst hv; exact h1
 | .ptr _ _, _, h, v, hv => by obtain ⟨u, h, h1, _⟩ := h; subst h; simp at hv; subst hv; exact h1
 | .eptr _ _ _, _, h, v, hv => by obtain ⟨u, h, h1, _⟩ := h; subst h; simp at hv; subst hv; exact h1
 | .rp _ _, _, h, v, hv => by obtain ⟨b, off, cur, et, fr, h, _⟩ := h; subst h; simp at hv; subst hv; rfl
 | .pr a b, _, h, v, hv => by
  obtain ⟨c1, c2, h, h1, h2⟩ := h
  subst h
  rcases jm.1 hv with hv | hv
  ·exact Wa.one h1 v hv
  ·exact Wa.one h2 v hv
 | .un, _, h, v, hv => by simp only [Wa] at h; subst h; simp at hv
 | .tup _, _, h, _, _ => by simp [Wa] at h
theorem GF {c1 c2 ce : List Value} {o : Nat} (h : o + ce.length ≤ c1.length) : Pb (c1 ++ c2) o ce = Pb c1 o ce ++ c2 := by
 unfold Pb
 rw [List.take_append_of_le_length (by omega), List.drop_append_of_le_length h]
 simp [qy]
theorem XH {cs ce : List Value} (h : ce.length = cs.length) : Pb cs 0 ce = ce := by
 unfold Pb
 rw [List.drop_eq_nil_of_le (by omega)]
 simp
theorem Rt {cur : Array Value} {o n o' : Nat} {ce : List Value} (h1 : o + n ≤ cur.size) (h2 : o' + ce.length ≤ n) :
 Rc (Pb cur.toList (o + o') ce).toArray o n = Pb (Rc cur o n) o' ce := by
 have hl : (Rc cur o n).length = n := Vc h1
 have hs : (Pb cur.toList (o + o') ce).length = cur.size := by rw [Jg (by simp; omega)]; simp
 apply qn
 intro j
 rw [Ci (by omega)]
 by_cases hj : j < n
 ·rw [Me _ _ _ _ hj, List.getElem?_toArray, Ci (by simp; omega), Me _ _ _ _ hj]
  by_cases c1 : j < o'
  ·rw [if_pos (by omega), if_pos c1]; simp
  ·rw [if_neg (by omega), if_neg c1]
   by_cases c2 : j < o' + ce.length
   ·rw [if_pos (by omega), if_pos c2]; congr 1; omega
   ·rw [if_neg (by omega), if_neg c2]; simp
 ·rw [qr (by rw [Vc (by simpa [hs] using h1)]; omega), if_neg (by omega), if_neg (by omega), qr (by omega)]
theorem Nx {cur : Array Value} {o p m : Nat} {ce : List Value} (h : o + ce.length ≤ cur.size) (hm : p + m ≤ cur.size) (hd : p + m ≤ o ∨ o + ce.length ≤ p) :
 Rc (Pb cur.toList o ce).toArray p m = Rc cur p m := by
 have hs : (Pb cur.toList o ce).length = cur.size := by rw [Jg (by simpa using h)]; simp
 apply qn
 intro j
 by_cases hj : j < m
 ·rw [Me _ _ _ _ hj, List.getElem?_toArray, Ci (by simpa using h), Me _ _ _ _ hj]
  by_cases c1 : p + j < o
  ·rw [if_pos c1]; simp
  ·rw [if_neg c1, if_neg (by omega)]; simp
 ·rw [qr (by rw [Vc (by simpa [hs] using hm)]; omega), qr (by rw [Vc hm]; omega)]
theorem HK {w : World} {O : Nat → Prop} : ∀ {e : Ty} {x x' : T e} {p : List Nat} {τ : Ty} {y : T τ} {cs ce : List Value}, Zg e x p τ y = some x' → Ee e p = some τ →
 Ka w O e x cs → Ka w O τ y ce → Ka w O e x' (Pb cs (Db e p) ce)
 | e, x, x', [], τ, y, cs, ce, hs, ht, hx, hy => by
  unfold Zg at hs
  split at hs
  ·rename_i q hq
   subst q
   simp only [jc] at hs
   subst hs
   have l1 := Ka.length hx
   have l2 := Ka.length hy
   simp only [Db]
   rw [XH (by omega)]
   exact hy
  ·simp at hs
 | .p a b', x, x', 0 :: p, τ, y, cs, ce, hs, ht, hx, hy => by
  simp only [Zg] at hs
  split at hs
  ·rename_i u hu
   simp only [jc] at hs
   subst hs
   obtain ⟨c1, c2, hc, h1, h2⟩ := hx
   subst hc
   have ht' : Ee a p = some τ := by simpa [Ee, Oa] using ht
   have hle := Yg ht'
   have ih := HK hu ht' h1 hy
   have l1 := Ka.length h1
   have l2 := Ka.length hy
   have ho : Db (.p a b') (0 :: p) = Db a p := by simp [Db, Bc, Oa]
   rw [ho, GF (by omega)]
   exact ⟨_, _, rfl, ih, h2⟩
  ·simp at hs
 | .p a b', x, x', (n + 1) :: p, τ, y, cs, ce, hs, ht, hx, hy => by
  simp only [Zg] at hs
  split at hs
  ·rename_i u hu
   simp only [jc] at hs
   subst hs
   obtain ⟨c1, c2, hc, h1, h2⟩ := hx
   subst hc
   have ht' : Ee b' (n :: p) = some τ := by simpa [Ee, Oa] using ht
   have ih := HK hu ht' h2 hy
   have l1 := Ka.length h1
   have ho : Db (.p a b') ((n + 1) :: p) = c1.length + Db b' (n :: p) := by simp [Db, Bc, Oa, l1, ju]
   rw [ho, Bx]
   exact ⟨_, _, rfl, h1, ih⟩
  ·simp at hs
 | .i _, _, _, _ :: _, _, _, _, _, hs, _, _, _ => by simp [Zg] at hs
 | .b, _, _, _ :: _, _, _, _, _, hs, _, _, _ => by simp [Zg] at hs
 | .o, _, _, _ :: _, _, _, _, _, hs, _, _, _ => by simp [Zg] at hs
 | .mp _ _, _, _, _ :: _, _, _, _, _, hs, _, _, _ => by simp [Zg] at hs
 | .s, _, _, _ :: _, _, _, _, _, hs, _, _, _ => by simp [Zg] at hs
 | .sl _, _, _, _ :: _, _, _, _, _, hs, _, _, _ => by simp [Zg] at hs
 | .u, _, _, _ :: _, _, _, _, _, hs, _, _, _ => by simp [Zg] at hs
theorem SN {w : World} : ∀ {e : Ty} {x x' : T e} {p : List Nat} {τ : Ty} {y : T τ} {cs ce : List Value} {F Fy : List Nat}, Zg e x p τ y = some x' → Ee e p = some τ →
 Ob w e x cs F → Ob w τ y ce Fy → ∃ F1 F2 F3, F = F1 ++ F2 ++ F3 ∧ Ob w e x' (Pb cs (Db e p) ce) (F1 ++ Fy ++ F3)
 | e, x, x', [], τ, y, cs, ce, F, Fy, hs, ht, hx, hy => by
  unfold Zg at hs
  split at hs
  ·rename_i q hq
   subst q
   simp only [jc] at hs
   subst hs
   have l1 := Ob.length hx
   have l2 := Ob.length hy
   simp only [Db]
   rw [XH (by omega)]
   exact ⟨[], F, [], by simp, by simpa using hy⟩
  ·simp at hs
 | .p a b', x, x', 0 :: p, τ, y, cs, ce, F, Fy, hs, ht, hx, hy => by
  simp only [Zg] at hs
  split at hs
  ·rename_i u hu
   simp only [jc] at hs
   subst hs
   obtain ⟨c1, c2, Fa, Fb, hc, hF, h1, h2⟩ := hx
   subst hc
   subst hF
   have ht' : Ee a p = some τ := by simpa [Ee, Oa] using ht
   have hle := Yg ht'
   obtain ⟨F1, F2, F3, e1, ih⟩ := SN hu ht' h1 hy
   have l1 := Ob.length h1
   have l2 := Ob.length hy
   have ho : Db (.p a b') (0 :: p) = Db a p := by simp [Db, Bc, Oa]
   rw [ho, GF (by omega)]
   exact ⟨F1, F2, F3 ++ Fb, by simp [e1], _, _, F1 ++ Fy ++ F3, Fb, rfl, by simp, ih, h2⟩
  ·simp at hs
 | .p a b', x, x', (n + 1) :: p, τ, y, cs, ce, F, Fy, hs, ht, hx, hy => by
  simp only [Zg] at hs
  split at hs
  ·rename_i u hu
   simp only [jc] at hs
   subst hs
   obtain ⟨c1, c2, Fa, Fb, hc, hF, h1, h2⟩ := hx
   subst hc
   subst hF
   have ht' : Ee b' (n :: p) = some τ := by simpa [Ee, Oa] using ht
   obtain ⟨F1, F2, F3, e1, ih⟩ := SN hu ht' h2 hy
   have l1 := Ob.length h1
   have ho : Db (.p a b') ((n + 1) :: p) = c1.length + Db b' (n :: p) := by simp [Db, Bc, Oa, l1, ju]
   rw [ho, Bx]
   exact ⟨Fa ++ F1, F2, F3, by simp [e1], _, _, Fa, F1 ++ Fy ++ F3, rfl, by simp, h1, ih⟩
  ·simp at hs
 | .i _, _, _, _ :: _, _, _, _, _, _, _, hs, _, _, _ => by simp [Zg] at hs
 | .b, _, _, _ :: _, _, _, _, _, _, _, hs, _, _, _ => by simp [Zg] at hs
 | .o, _, _, _ :: _, _, _, _, _, _, _, hs, _, _, _ => by simp [Zg] at hs
 | .mp _ _, _, _, _ :: _, _, _, _, _, _, _, hs, _, _, _ => by simp [Zg] at hs
 | .s, _, _, _ :: _, _, _, _, _, _, _, hs, _, _, _ => by simp [Zg] at hs
 | .sl _, _, _, _ :: _, _, _, _, _, _, _, hs, _, _, _ => by simp [Zg] at hs
 | .u, _, _, _ :: _, _, _, _, _, _, _, hs, _, _, _ => by simp [Zg] at hs
section
variable {P : Program} {Out : Type} {n0 : Nat} {A : Fx} {O0 : Nat → Prop} {w0 w w' : World} {s : AS} {σ σ' : Nat → Value} {φ φ' : Nat → List Nat} {a : Act}
variable {o : Oper} {Q : Exit → Act → World → Prop} {k : AS → Option Out} {out : Out} {d : D} {v : Value} {upd : List (Nat × Option Ja)} {dst : Option Tmp} {G : Qd}
theorem Ra.turn (h : Ra n0 A O0 w0 s σ φ a w) {id : Nat} {blk0 Da : Ja} (hid : s.heap id = some blk0) (hlike : blk0.like Da) (l : List Nat)
 (hlive : ∀ j, j ∈ l → ∃ b, s.heap j = some b) (_hl : id ∉ l) (F : List Nat)
 (hs : w.heap.size ≤ w'.heap.size) (hb : ∀ b, b < w.heap.size → b ∉ φ id → (∀ j, j ∈ l → b ∉ φ j) → w'.heap[b]? = w.heap[b]?)
 (hos : w'.os = w.os) (htape : w'.tape = w.tape) (hout : w'.output = w.output) (hF : F.Nodup) (hFn : ∀ b, b ∈ F → w.heap.size ≤ b ∨ b ∈ φ id ∨ ∃ j, j ∈ l ∧ b ∈ φ j)
 (hrep : ∀ (hp' : Nat → Option Ja) (O' : Nat → Prop), (∀ b, b < w.heap.size → ¬ OO O0 s φ b → ¬ O' b) → (∀ j, Cp s.heap hp' σ σ j) →
  Ec w' O' hp' σ id Da F)
 (hq : ∀ kk e xs, Da = .mq kk e xs → AW w' n0 (OO O0 ⟨s.n, s.tm, (id, some Da) :: (Ub l ++ s.hp)⟩ (Kg φ id F)) (σ id) kk e xs := by intro _ _ _ h; cases h) :
 Ra n0 A O0 w0 ⟨s.n, s.tm, (id, some Da) :: (Ub l ++ s.hp)⟩ σ (Kg φ id F) a w' := by
 have hOO : ∀ b, b < w.heap.size → ¬ OO O0 s φ b → ¬ OO O0 ⟨s.n, s.tm, (id, some Da) :: (Ub l ++ s.hp)⟩ (Kg φ id F) b := by
  rintro b hlt hno (ho | ⟨j, blk', hl, hm⟩)
  ·exact hno (.inl ho)
  ·rw [Zc] at hl
   by_cases hj : j = id
   ·subst hj
    rw [Ld] at hm
    rcases hFn b hm with hge | hm' | ⟨j', hj', hm'⟩
    ·omega
    ·exact hno (.inr ⟨j, blk0, hid, hm'⟩)
    ·obtain ⟨b', hb'⟩ := hlive j' hj'
     exact hno (.inr ⟨j', b', hb', hm'⟩)
   ·rw [if_neg hj] at hl
    split at hl
    ·simp at hl
    ·rw [Fj _ _ hj] at hm
     exact hno (.inr ⟨j, blk', hl, hm⟩)
 have hcp : ∀ j, Cp s.heap (AS.heap ⟨s.n, s.tm, (id, some Da) :: (Ub l ++ s.hp)⟩) σ σ j := by
  intro j blk' hj
  rw [Zc] at hj
  by_cases hji : j = id
  ·subst hji
   rw [if_pos rfl] at hj
   simp only [jc] at hj
   subst hj
   exact ⟨blk0, hid, hlike, rfl⟩
  ·rw [if_neg hji] at hj
   split at hj
   ·simp at hj
   ·exact ⟨blk', hj, Ja.like_refl _, rfl⟩
 refine h.trans (fun j => j = id ∨ j ∈ l) rfl rfl ?_ ?_ hs ?_ ?_ ?_ ?_ hos htape hout (fun _ _ => .inl rfl) ?_
 ·intro j hj
  simp only [not_or] at hj
  exact ⟨by rw [Zc, if_neg hj.1, if_neg hj.2], rfl, Fj _ _ hj.1⟩
 ·intro b hlt hno
  refine hb b hlt (fun hm => hno id blk0 (.inl rfl) hid hm) fun j hj hm => ?_
  obtain ⟨b', hb'⟩ := hlive j hj
  exact hno j b' (.inr hj) hb' hm
 ·intro j blk' ht hl b hbm
  rw [Zc] at hl
  by_cases hj : j = id
  ·subst hj
   rw [Ld] at hbm
   rcases hFn b hbm with hge | hm' | ⟨j', hj', hm'⟩
   ·exact .inl hge
   ·exact .inr ⟨j, blk0, .inl rfl, hid, hm'⟩
   ·obtain ⟨b', hb'⟩ := hlive j' hj'
    exact .inr ⟨j', b', .inr hj', hb', hm'⟩
  ·rw [if_neg hj, if_pos (ht.resolve_left hj)] at hl
   simp at hl
 ·intro j blk' ht hl _
  exact hcp j blk' hl
 ·intro j blk' ht hl
  rw [Zc] at hl
  by_cases hj : j = id
  ·subst hj
   rw [if_pos rfl] at hl
   simp only [jc] at hl
   subst hl
   rw [Ld]
   exact ⟨hrep _ _ hOO hcp, hF⟩
  ·rw [if_neg hj, if_pos (ht.resolve_left hj)] at hl
   simp at hl
 ·intro j j' b1 b2 ht ht' hne hl hl'
  rw [Zc] at hl hl'
  have e1 : j = id := by
   by_cases hj : j = id
   ·exact hj
   ·rw [if_neg hj, if_pos (ht.resolve_left hj)] at hl; simp at hl
  have e2 : j' = id := by
   by_cases hj : j' = id
   ·exact hj
   ·rw [if_neg hj, if_pos (ht'.resolve_left hj)] at hl'; simp at hl'
  exact absurd (e1.trans e2.symm) hne
 ·intro j kk e xs ht hl
  rw [Zc] at hl
  by_cases hj : j = id
  ·rw [if_pos hj] at hl
   simp only [jc] at hl
   rw [hj]
   exact hq kk e xs hl
  ·rw [if_neg hj, if_pos (ht.resolve_left hj)] at hl
   simp at hl
theorem IR {id : Nat} {e : Ty} {xs : List (T e)} {O : Nat → Prop} {hp : Nat → Option Ja} {F : List Nat} (h : Ob w (.sl e) xs [σ id] F) (hf : e.flat = true) :
 Ec w O hp σ id (.row e false xs) F := by
 obtain ⟨hm, ⟨h1, h2, h3⟩ | ⟨bl, off, cap, cur, et, Fs, h1, hh, h2, h3, h4, hF, hl, hv⟩⟩ := h
 ·simp only [yg, and_true] at h1
  exact ⟨hm, .inl ⟨h1, h2, h3⟩⟩
 ·simp only [yg, and_true] at h1
  have hnil : ∀ i, i < Fs.length → Fs.getD i [] = [] := fun i hi => Ar hf (hv i (by omega))
  have hfl : Fs.flatten = [] := by
   rw [List.flatten_eq_nil_iff]
   intro l hl'
   obtain ⟨i, hi, rfl⟩ := qs.1 hl'
   have := hnil i hi
   simpa [qq, hi] using this
  refine ⟨hm, .inr ⟨bl, off, cap, cur, et, h1, hh, h2, h3, h4, by rw [hF, hfl], fun i hi => ?_⟩⟩
  have := hv i hi
  rw [hnil i (by omega)] at this
  exact this.view (by simp)
theorem KA {Fs : List (List Nat)} {i : Nat} (hi : i < Fs.length) (X : List Nat) :
 Fs.flatten = (Fs.take i).flatten ++ Fs.getD i [] ++ (Fs.drop (i + 1)).flatten ∧ (Fs.set i X).flatten = (Fs.take i).flatten ++ X ++ (Fs.drop (i + 1)).flatten := by
 have h1 : Fs = Fs.take i ++ Fs.getD i [] :: Fs.drop (i + 1) := by
  have : Fs.getD i [] = Fs[i] := by simp [qq, hi]
  rw [this, List.getElem_cons_drop hi, List.take_append_drop]
 have h2 : Fs.set i X = Fs.take i ++ X :: Fs.drop (i + 1) := by rw [List.set_eq_take_append_cons_drop]; simp [hi]
 constructor
 ·conv => lhs; rw [h1]
  simp
 ·rw [h2]; simp
theorem Zaa {e τ : Ty} {xs : List (T e)} {b off cap : Nat} {F Fy : List Nat} {i : Nat} {x x' : T e} {y : T τ} {p : List Nat} {ce : List Value} {cur : Array Value} {et : TypeId}
 (hx : Ob w (.sl e) xs [.slice (some ⟨b, off, none⟩) (ja xs) cap] F) (hn : (F ++ Fy).Nodup) (hi : xs[i]? = some x) (hs : Zg e x p τ y = some x') (ht : Ee e p = some τ)
 (hy : Ob w τ y ce Fy) (hcur : w.heap[b]? = some (.cells cur et (0, 0))) :
 ∃ F', Ob (w.setRow b (Pb cur.toList (off + i * e.size + Db e p) ce).toArray) (.sl e) (j7 xs i x') [.slice (some ⟨b, off, none⟩) (ja xs) cap] F' ∧ F'.Nodup ∧
  (∀ c, c ∈ F' → c ∈ F ∨ c ∈ Fy) := by
 obtain ⟨hm, ⟨h1, _⟩ | ⟨bl, off', cap', cur', et', Fs, h1, hh, h2, h3, h4, hF, hl, hv⟩⟩ := hx
 ·simp at h1
 ·simp at h1
  obtain ⟨⟨rfl, rfl⟩, rfl⟩ := h1
  rw [hcur] at hh
  simp only [jc, Obj.cells.injEq] at hh
  obtain ⟨rfl, rfl, _⟩ := hh
  have hil : i < ja xs := (q7.1 hi).1
  have hxe : List.get xs ⟨i, hil⟩ = x := by simpa [je hil] using hi
  have hle := Yg ht
  have hyl := Ob.length hy
  have hcap := jn e.size h2
  have hlt : (i + 1) * e.size ≤ ja xs * e.size := jn _ hil
  rw [yd, ye] at hlt
  have hoi := hv i hil
  rw [hxe] at hoi
  have hbF : b ∉ Fs.flatten ∧ b ∉ Fy := by
   rw [hF] at hn
   simp only [yf, yk, jm, not_or] at hn
   exact hn.1
  have hst : ∀ c, c ≠ b → (w.setRow b (Pb cur.toList (off + i * e.size + Db e p) ce).toArray).heap[c]? = w.heap[c]? := fun c hc => setRow_other w b c _ hc
  have hoi' := hoi.stable (w' := w.setRow b (Pb cur.toList (off + i * e.size + Db e p) ce).toArray) fun c hc => hst c fun e => hbF.1 (e ▸ Ke hc)
  have hy' := hy.stable (w' := w.setRow b (Pb cur.toList (off + i * e.size + Db e p) ce).toArray) fun c hc => hst c fun e => hbF.2 (e ▸ hc)
  obtain ⟨F1, F2, F3, hFi, hown⟩ := SN hs ht hoi' hy'
  have hiF : i < Fs.length := by omega
  obtain ⟨g1, g2⟩ := KA hiF (F1 ++ Fy ++ F3)
  refine ⟨b :: (Fs.set i (F1 ++ Fy ++ F3)).flatten, ⟨by simpa using hm, .inr ⟨b, off, cap, _, et, _, by simp, setRow_heap w b cur _ et (0, 0) hcur, by simpa using h2, h3, ?_, rfl, by simpa using hl, ?_⟩⟩, ?_, ?_⟩
  ·rw [ym, Jg (by simp; omega)]
   simpa using h4
  ·intro j hj
   have hjl : j < ja xs := by simpa using hj
   by_cases hji : j = i
   ·subst hji
    have e1 : List.get (j7 xs j x') ⟨j, hj⟩ = x' := by simp
    have e2 : (Fs.set j (F1 ++ Fy ++ F3)).getD j [] = F1 ++ Fy ++ F3 := by simp [qq, hiF]
    rw [e1, e2, Rt (by omega) (by omega)]
    exact hown
   ·have e1 : List.get (j7 xs i x') ⟨j, hj⟩ = List.get xs ⟨j, hjl⟩ := by simp [Ne.symm hji]
    have e2 : (Fs.set i (F1 ++ Fy ++ F3)).getD j [] = Fs.getD j [] := by simp [qq, Ne.symm hji]
    have hjle : (j + 1) * e.size ≤ ja xs * e.size := jn _ hjl
    rw [yd, ye] at hjle
    rw [e1, e2, Nx (by omega) (by omega) ?_]
    ·exact (hv j hjl).stable fun c hc => hst c fun e => hbF.1 (e ▸ Ke hc)
    ·rcases Nat.lt_or_gt_of_ne hji with hlt' | hlt'
     ·left
      have := jn e.size hlt'
      rw [yo] at this
      omega
     ·right
      have := jn e.size hlt'
      rw [yo] at this
      omega
  ·rw [g2]
   rw [hF, g1, hFi] at hn
   refine (List.Perm.nodup_iff (l₁ := b :: ((Fs.take i).flatten ++ (F1 ++ Fy ++ F3) ++ (Fs.drop (i + 1)).flatten)) (l₂ := (b :: ((Fs.take i).flatten ++ (F1 ++ F3) ++ (Fs.drop (i + 1)).flatten)) ++ Fy) ?_).2 (List.Sublist.nodup ?_ hn)
   ·rw [List.perm_iff_count]
    intro c
    simp only [List.count_append, List.count_cons]
    omega
   ·refine List.Sublist.append (List.Sublist.cons_cons _ (List.Sublist.append (List.Sublist.append (List.Sublist.refl _) ?_) (List.Sublist.refl _))) (List.Sublist.refl _)
    exact List.Sublist.append (List.sublist_append_left _ _) (List.Sublist.refl _)
  ·intro c hc
   rw [g2] at hc
   rw [hF, g1, hFi]
   simp only [jq, jm] at hc ⊢
   grind
end
end KF
