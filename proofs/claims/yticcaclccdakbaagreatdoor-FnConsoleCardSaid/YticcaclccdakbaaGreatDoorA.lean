/- An evaluator of Go functions on plain data, its soundness, and plain laws on what the functions compute, part 1 (conditions: as each lemma tells). -/
import Derived.WalkKit
import Derived.Lib.ConvBytes
set_option linter.unusedSimpArgs false
set_option linter.unusedVariables false
namespace KF
open Go
open List renaming length → ja, getElem?_eq_getElem → je, append → jf, mem_append → jl, mem_cons → jp, mem_cons_of_mem → jr, length_cons → jw, set → j6, length_nil → j7, mem_singleton → qc, length_append → qd, getD_eq_getElem?_getD → qf, getElem_mem → qi, getElem_of_mem → qj, mem_map → qk, length_drop → ql, ext_getElem? → qp, drop_drop → qq, toArray → qr, getD → qs, getElem?_eq_none → qt, mem_append_left → qu, mem_append_right → qv, any_eq_true → qy, append_assoc → q0, eq_nil_of_length_eq_zero → q7, getElem?_eq_some_iff → q8, length_eq_one_iff → q9, replicate → yd, cons_append → yg, map_cons → yi, nodup_cons → yk, nodup_append → yl, size_toArray → ym, flatten_cons → yn, length_map → yp, mem_map_of_mem → yt, map_append → yu, all_eq_true → yv, append_nil → yw, range → yy, map → za, append_eq → zb, not_mem_nil → zd
open Option renaming bind_some → jb, bind → jz, map_some → qb, bind_eq_some_iff → qe, getD_some → qz, map_eq_some_iff → yx
open Option.some renaming injEq → jc, inj → y3
open Bool renaming and_eq_true → jd, not_true → jg, true_and → jk, false_eq_true → jq, not_false → j8, not_eq_true → j9, eq_iff_iff → qm, or_eq_true → qx, not_eq_true' → yj, or_eq_false_iff → yq, false_or → yr
open Prod.mk renaming injEq → jh
open Nat renaming ble_eq_true_of_le → ji, mul_le_mul_right → jm, le_refl → jo, zero_add → js, add_assoc → jt, eq_of_beq_eq_true → ju, ble → jx, le_trans → qa, lt_of_lt_of_le → qh, beq → qw, le_of_ble_eq_true → q6, add_zero → ya, blt → yb, blt_eq → ye, add_mul → yf, succ_mul → yo
open Int renaming toNat_natCast → jn, eq_ofNat_of_zero_le → jv, toNat → jy, tmod → yc
open Go.IntKind renaming wrap → j4, wrap → j5
open Sum renaming elim_inl → qg
open Result renaming andThen_ok → qn
open Sem renaming run_bind → qo
open List.cons renaming injEq → yh
open Sum.inl renaming injEq → yz
theorem ze.{u} {α : Sort u} (a b : α) : cond true a b = a := rfl
theorem zf.{u} {α : Sort u} (a b : α) : cond false a b = b := rfl
inductive Ty where
 | i (k : IntKind)
 | b
 | s
 | sl (e : Ty)
 | u
 | p (x y : Ty)
 | o
 | mp (k v : Ty)
 deriving DecidableEq
@[reducible] def T : Ty → Type
 | .i _ => Int
 | .b => Bool
 | .o => Option Addr × Nat × Nat
 | .mp k v => List (T k × T v)
 | .s => List UInt8
 | .sl e => List (T e)
 | .u => Unit
 | .p x y => T x × T y
def Ty.size : Ty → Nat
 | .u => 0
 | .p x y => x.size + y.size
 | _ => 1
def Ty.flat : Ty → Bool
 | .sl _ => false
 | .mp _ _ => false
 | .p x y => x.flat && y.flat
 | _ => true
def Ty.cmp : Ty → Bool
 | .sl _ | .o | .mp _ _ => false
 | .p x y => x.cmp && y.cmp
 | _ => true
def Aj : Nat := 9223372036854775807
def Fd (cur : Array Value) (o n : Nat) : List Value := (cur.toList.drop o).take n
theorem Id {cur : Array Value} {o n : Nat} (h : o + n ≤ cur.size) : (Fd cur o n).length = n := by
 simp [Fd]; omega
theorem Cf (cur : Array Value) (o n j : Nat) (h : j < n) : (Fd cur o n)[j]? = cur[o + j]? := by
 simp [Fd, h]
theorem JL (cur : Array Value) (o n p m : Nat) (h : p + m ≤ n) : ((Fd cur o n).drop p).take m = Fd cur (o + p) m := by
 apply qp
 intro j
 simp only [Fd, List.getElem?_take, List.getElem?_drop]
 split
 ·rw [if_pos (by omega)]; congr 1; omega
 ·rfl
theorem Fae (cur : Array Value) (o n m : Nat) (_ : o + n ≤ cur.size) : Fd cur o (n + m) = Fd cur o n ++ Fd cur (o + n) m := by
 simp only [Fd]
 rw [List.take_add]
 simp [qq]
theorem Rar (cur : Array Value) : Fd cur 0 cur.size = cur.toList := by simp [Fd, List.take_of_length_le]
def Lk : Ty → List Value → Value
 | .p _ _, cs => .agg cs.toArray
 | .u, cs => .agg cs.toArray
 | _, cs => cs.headD undef
def La (w : World) (O : Nat → Prop) : (τ : Ty) → T τ → List Value → Prop
 | .i k, n, cs => cs = [.int k n]
 | .b, x, cs => cs = [.bool x]
 | .o, x, cs => cs = [.slice x.1 x.2.1 x.2.2]
 | .mp k v, xs, cs => (cs = [.map none] ∧ xs = ([] : List (T k × T v))) ∨ ∃ r es clk, cs = [.map (some r)] ∧ ¬ O r ∧ w.heap[r]? = some (.map es clk) ∧ es.size = ja xs ∧
  ∀ i (h : i < ja xs), ∃ e ck cv, es[i]? = some e ∧ e.key = Lk k ck ∧ e.val = Lk v cv ∧ La w O k (List.get xs ⟨i, h⟩).1 ck ∧ La w O v (List.get xs ⟨i, h⟩).2 cv
 | .s, x, cs => cs = [.string ⟨qr x⟩]
 | .sl e, xs, cs => ∃ a cap, cs = [.slice a (ja xs) cap] ∧ ja xs ≤ cap ∧ ja xs ≤ Aj ∧
  (xs = ([] : List (T e)) ∨ ∃ bl off cur et fr, a = some ⟨bl, off, none⟩ ∧ ¬ O bl ∧ w.heap[bl]? = some (.cells cur et fr) ∧
   off + ja xs * e.size ≤ cur.size ∧
   ∀ i (h : i < ja xs), La w O e (List.get xs ⟨i, h⟩) (Fd cur (off + i * e.size) e.size))
 | .u, _, cs => cs = []
 | .p x y, v, cs => ∃ c1 c2, cs = c1 ++ c2 ∧ La w O x v.1 c1 ∧ La w O y v.2 c2
def Tb (w : World) : (τ : Ty) → T τ → List Value → List Nat → Prop
 | .i k, n, cs, F => cs = [.int k n] ∧ F = []
 | .b, x, cs, F => cs = [.bool x] ∧ F = []
 | .o, x, cs, F => cs = [.slice x.1 x.2.1 x.2.2] ∧ F = []
 | .mp k v, xs, cs, F => (cs = [.map none] ∧ xs = ([] : List (T k × T v)) ∧ F = []) ∨
  ∃ r es clk Fs, cs = [.map (some r)] ∧ w.heap[r]? = some (.map es clk) ∧ es.size = ja xs ∧ F = r :: List.flatten Fs ∧ ja Fs = ja xs ∧
   ∀ i (h : i < ja xs), ∃ e ck cv, es[i]? = some e ∧ e.key = Lk k ck ∧ e.val = Lk v cv ∧ Tb w k (List.get xs ⟨i, h⟩).1 ck [] ∧ Tb w v (List.get xs ⟨i, h⟩).2 cv (Fs.getD i [])
 | .s, x, cs, F => cs = [.string ⟨qr x⟩] ∧ F = []
 | .sl e, xs, cs, F => ja xs ≤ Aj ∧ ((cs = [.slice none 0 0] ∧ xs = ([] : List (T e)) ∧ F = []) ∨
  ∃ bl off cap cur et Fs, cs = [.slice (some ⟨bl, off, none⟩) (ja xs) cap] ∧ w.heap[bl]? = some (.cells cur et (0, 0)) ∧
   ja xs ≤ cap ∧ cap ≤ Aj ∧ off + cap * e.size ≤ cur.size ∧ F = bl :: List.flatten Fs ∧ ja Fs = ja xs ∧
   ∀ i (h : i < ja xs), Tb w e (List.get xs ⟨i, h⟩) (Fd cur (off + i * e.size) e.size) (Fs.getD i []))
 | .u, _, cs, F => cs = [] ∧ F = []
 | .p x y, v, cs, F => ∃ c1 c2 F1 F2, cs = c1 ++ c2 ∧ F = F1 ++ F2 ∧ Tb w x v.1 c1 F1 ∧ Tb w y v.2 c2 F2
theorem La.length {w : World} {O : Nat → Prop} : ∀ {τ : Ty} {x : T τ} {cs : List Value}, La w O τ x cs → cs.length = τ.size
 | .i _, _, _, h => by simp [La] at h; simp [h, Ty.size]
 | .b, _, _, h => by simp [La] at h; simp [h, Ty.size]
 | .o, _, _, h => by simp [La] at h; simp [h, Ty.size]
 | .mp _ _, _, _, h => by obtain ⟨h, _⟩ | ⟨r, es, clk, h, _⟩ := h <;> simp [h, Ty.size]
 | .s, _, _, h => by simp [La] at h; simp [h, Ty.size]
 | .sl _, _, _, h => by obtain ⟨a, cap, h, _⟩ := h; simp [h, Ty.size]
 | .u, _, _, h => by simp [La] at h; simp [h, Ty.size]
 | .p x y, _, _, h => by
  obtain ⟨c1, c2, h, h1, h2⟩ := h
  have e1 := La.length h1
  have e2 := La.length h2
  simp [h, Ty.size, e1, e2]
theorem La.weaken {w : World} {O O' : Nat → Prop} (hO : ∀ b, O' b → O b) : ∀ {τ : Ty} {x : T τ} {cs : List Value}, La w O τ x cs → La w O' τ x cs
 | .i _, _, _, h => h
 | .b, _, _, h => h
 | .o, _, _, h => h
 | .mp k v, xs, _, h => by
  obtain h | ⟨r, es, clk, h, hr, hh, hs, hv⟩ := h
  ·exact .inl h
  ·refine .inr ⟨r, es, clk, h, fun c => hr (hO _ c), hh, hs, fun i hi => ?_⟩
   obtain ⟨e, ck, cv, h1, h2, h3, h4, h5⟩ := hv i hi
   exact ⟨e, ck, cv, h1, h2, h3, La.weaken hO h4, La.weaken hO h5⟩
 | .s, _, _, h => h
 | .sl e, xs, _, h => by
  obtain ⟨a, cap, h, h1, h2, h3⟩ := h
  refine ⟨a, cap, h, h1, h2, h3.imp id ?_⟩
  rintro ⟨bl, off, cur, et, fr, ha, hb, hh, hs, hv⟩
  exact ⟨bl, off, cur, et, fr, ha, fun c => hb (hO _ c), hh, hs, fun i hi => La.weaken hO (hv i hi)⟩
 | .u, _, _, h => h
 | .p x y, _, _, h => by
  obtain ⟨c1, c2, h, h1, h2⟩ := h
  exact ⟨c1, c2, h, La.weaken hO h1, La.weaken hO h2⟩
theorem La.stable {w w' : World} {O O' : Nat → Prop} (hs : ∀ b, ¬ O b → b < w.heap.size → w'.heap[b]? = w.heap[b]?)
 (hO : ∀ b, b < w.heap.size → ¬ O b → ¬ O' b) :
 ∀ {τ : Ty} {x : T τ} {cs : List Value}, La w O τ x cs → La w' O' τ x cs
 | .i _, _, _, h => h
 | .b, _, _, h => h
 | .o, _, _, h => h
 | .mp k v, xs, _, h => by
  obtain h | ⟨r, es, clk, h, hr, hh, hz, hv⟩ := h
  ·exact .inl h
  ·have hlt : r < w.heap.size := (Array.getElem?_eq_some_iff.1 hh).1
   refine .inr ⟨r, es, clk, h, hO _ hlt hr, (hs r hr hlt).trans hh, hz, fun i hi => ?_⟩
   obtain ⟨e, ck, cv, h1, h2, h3, h4, h5⟩ := hv i hi
   exact ⟨e, ck, cv, h1, h2, h3, La.stable hs hO h4, La.stable hs hO h5⟩
 | .s, _, _, h => h
 | .sl e, xs, _, h => by
  obtain ⟨a, cap, h, h1, h2, h3⟩ := h
  refine ⟨a, cap, h, h1, h2, h3.imp id ?_⟩
  rintro ⟨bl, off, cur, et, fr, ha, hb, hh, hs', hv⟩
  have hlt : bl < w.heap.size := (Array.getElem?_eq_some_iff.1 hh).1
  exact ⟨bl, off, cur, et, fr, ha, hO _ hlt hb, (hs bl hb hlt).trans hh, hs', fun i hi => La.stable hs hO (hv i hi)⟩
 | .u, _, _, h => h
 | .p x y, _, _, h => by
  obtain ⟨c1, c2, h, h1, h2⟩ := h
  exact ⟨c1, c2, h, La.stable hs hO h1, La.stable hs hO h2⟩
theorem Tb.length {w : World} : ∀ {τ : Ty} {x : T τ} {cs : List Value} {F : List Nat}, Tb w τ x cs F → cs.length = τ.size
 | .i _, _, _, _, h => by simp [h.1, Ty.size]
 | .b, _, _, _, h => by simp [h.1, Ty.size]
 | .o, _, _, _, h => by simp [h.1, Ty.size]
 | .mp _ _, _, _, _, h => by obtain ⟨h, _⟩ | ⟨_, _, _, _, h, _⟩ := h <;> simp [h, Ty.size]
 | .s, _, _, _, h => by simp [h.1, Ty.size]
 | .sl _, _, _, _, h => by
  obtain ⟨_, ⟨h, _⟩ | ⟨_, _, _, _, _, _, h, _⟩⟩ := h <;> simp [h, Ty.size]
 | .u, _, _, _, h => by simp [h.1, Ty.size]
 | .p x y, _, _, _, h => by
  obtain ⟨c1, c2, F1, F2, h, _, h1, h2⟩ := h
  have e1 := Tb.length h1
  have e2 := Tb.length h2
  simp [h, Ty.size, e1, e2]
theorem Bf {Fs : List (List Nat)} {i : Nat} {b : Nat} (h : b ∈ Fs.getD i []) : b ∈ Fs.flatten := by
 rw [List.mem_flatten]
 rcases Nat.lt_or_ge i Fs.length with hi | hi
 ·exact ⟨Fs[i], qi hi, by simpa [qs, hi] using h⟩
 ·simp [qs, qt hi] at h
theorem Bi {Fs : List (List Nat)} {b : Nat} (h : b ∈ Fs.flatten) : ∃ i, i < Fs.length ∧ b ∈ Fs.getD i [] := by
 rw [List.mem_flatten] at h
 obtain ⟨l, hl, hb⟩ := h
 obtain ⟨i, hi, rfl⟩ := List.mem_iff_getElem.1 hl
 exact ⟨i, hi, by simpa [qs, hi] using hb⟩
theorem Tb.lt {w : World} : ∀ {τ : Ty} {x : T τ} {cs : List Value} {F : List Nat}, Tb w τ x cs F → ∀ b, b ∈ F → b < w.heap.size
 | .i _, _, _, _, h, b, hb => by simp [h.2] at hb
 | .b, _, _, _, h, b, hb => by simp [h.2] at hb
 | .o, _, _, _, h, b, hb => by simp [h.2] at hb
 | .mp k v, xs, _, _, h, b, hb => by
  obtain ⟨_, _, h⟩ | ⟨r, es, clk, Fs, _, hh, _, hF, hl, hv⟩ := h
  ·simp [h] at hb
  ·subst hF
   cases jp.1 hb with
   | inl h => subst h; exact (Array.getElem?_eq_some_iff.1 hh).1
   | inr h =>
    obtain ⟨i, hi, hm⟩ := Bi h
    obtain ⟨e, ck, cv, _, _, _, _, h5⟩ := hv i (hl ▸ hi)
    exact Tb.lt h5 b hm
 | .s, _, _, _, h, b, hb => by simp [h.2] at hb
 | .sl e, xs, _, _, h, b, hb => by
  obtain ⟨_, ⟨_, _, h⟩ | ⟨bl, off, cap, cur, et, Fs, _, hh, _, _, _, hF, hl, hv⟩⟩ := h
  ·simp [h] at hb
  ·subst hF
   cases jp.1 hb with
   | inl h => subst h; exact (Array.getElem?_eq_some_iff.1 hh).1
   | inr h =>
    obtain ⟨i, hi, hm⟩ := Bi h
    exact Tb.lt (hv i (hl ▸ hi)) b hm
 | .u, _, _, _, h, b, hb => by simp [h.2] at hb
 | .p x y, _, _, _, h, b, hb => by
  obtain ⟨c1, c2, F1, F2, _, hF, h1, h2⟩ := h
  subst hF
  cases jl.1 hb with
  | inl h => exact Tb.lt h1 b h
  | inr h => exact Tb.lt h2 b h
theorem Tb.stable {w w' : World} : ∀ {τ : Ty} {x : T τ} {cs : List Value} {F : List Nat}, Tb w τ x cs F → (∀ b, b ∈ F → w'.heap[b]? = w.heap[b]?) → Tb w' τ x cs F
 | .i _, _, _, _, h, _ => h
 | .b, _, _, _, h, _ => h
 | .o, _, _, _, h, _ => h
 | .mp k v, xs, _, _, h, hs => by
  obtain h | ⟨r, es, clk, Fs, h1, hh, hz, hF, hl, hv⟩ := h
  ·exact .inl h
  ·subst hF
   refine .inr ⟨r, es, clk, Fs, h1, (hs r (by simp)).trans hh, hz, rfl, hl, fun i hi => ?_⟩
   obtain ⟨e, ck, cv, g1, g2, g3, g4, g5⟩ := hv i hi
   exact ⟨e, ck, cv, g1, g2, g3, Tb.stable g4 (fun b hb => by simp at hb), Tb.stable g5 fun b hb => hs b (jr _ (Bf hb))⟩
 | .s, _, _, _, h, _ => h
 | .sl e, xs, _, _, h, hs => by
  obtain ⟨hm, h | ⟨bl, off, cap, cur, et, Fs, h1, hh, h2, h3, h4, hF, hl, hv⟩⟩ := h
  ·exact ⟨hm, .inl h⟩
  ·subst hF
   refine ⟨hm, .inr ⟨bl, off, cap, cur, et, Fs, h1, (hs bl (by simp)).trans hh, h2, h3, h4, rfl, hl, fun i hi => Tb.stable (hv i hi) fun b hb => hs b (jr _ (Bf hb))⟩⟩
 | .u, _, _, _, h, _ => h
 | .p x y, _, _, _, h, hs => by
  obtain ⟨c1, c2, F1, F2, h0, hF, h1, h2⟩ := h
  subst hF
  exact ⟨c1, c2, F1, F2, h0, rfl, Tb.stable h1 fun b hb => hs b (qu _ hb), Tb.stable h2 fun b hb => hs b (qv _ hb)⟩
theorem Tb.view {w : World} {O : Nat → Prop} : ∀ {τ : Ty} {x : T τ} {cs : List Value} {F : List Nat}, Tb w τ x cs F → (∀ b, b ∈ F → ¬ O b) → La w O τ x cs
 | .i _, _, _, _, h, _ => h.1
 | .b, _, _, _, h, _ => h.1
 | .o, _, _, _, h, _ => h.1
 | .mp k v, xs, _, _, h, hO => by
  obtain ⟨h1, h2, _⟩ | ⟨r, es, clk, Fs, h1, hh, hz, hF, hl, hv⟩ := h
  ·exact .inl ⟨h1, h2⟩
  ·subst hF
   refine .inr ⟨r, es, clk, h1, hO r (by simp), hh, hz, fun i hi => ?_⟩
   obtain ⟨e, ck, cv, g1, g2, g3, g4, g5⟩ := hv i hi
   exact ⟨e, ck, cv, g1, g2, g3, Tb.view g4 (fun b hb => by simp at hb), Tb.view g5 fun b hb => hO b (jr _ (Bf hb))⟩
 | .s, _, _, _, h, _ => h.1
 | .sl e, xs, _, _, h, hO => by
  obtain ⟨hm, ⟨h, hx, _⟩ | ⟨bl, off, cap, cur, et, Fs, h1, hh, h2, h3, h4, hF, hl, hv⟩⟩ := h
  ·subst hx; exact ⟨none, 0, h, jo _, hm, .inl rfl⟩
  ·subst hF
   refine ⟨_, cap, h1, h2, hm, .inr ⟨bl, off, cur, et, _, rfl, hO bl (by simp), hh, ?_, fun i hi => Tb.view (hv i hi) fun b hb => hO b (jr _ (Bf hb))⟩⟩
   have := jm e.size h2
   omega
 | .u, _, _, _, h, _ => h.1
 | .p x y, _, _, _, h, hO => by
  obtain ⟨c1, c2, F1, F2, h0, hF, h1, h2⟩ := h
  subst hF
  exact ⟨c1, c2, h0, Tb.view h1 fun b hb => hO b (qu _ hb), Tb.view h2 fun b hb => hO b (qv _ hb)⟩
theorem La.flat {w w' : World} {O : Nat → Prop} : ∀ {τ : Ty} {x : T τ} {cs : List Value}, La w O τ x cs → τ.flat = true → Tb w' τ x cs []
 | .i _, _, _, h, _ => ⟨h, rfl⟩
 | .b, _, _, h, _ => ⟨h, rfl⟩
 | .o, _, _, h, _ => ⟨h, rfl⟩
 | .mp _ _, _, _, _, hf => by simp [Ty.flat] at hf
 | .s, _, _, h, _ => ⟨h, rfl⟩
 | .sl e, xs, _, _, hf => by simp [Ty.flat] at hf
 | .u, _, _, h, _ => ⟨h, rfl⟩
 | .p x y, _, _, h, hf => by
  obtain ⟨c1, c2, h0, h1, h2⟩ := h
  simp only [Ty.flat, jd] at hf
  exact ⟨c1, c2, [], [], h0, rfl, La.flat h1 hf.1, La.flat h2 hf.2⟩
inductive D where
 | und
 | anyv
 | t (τ : Ty) (x : T τ)
 | nil
 | own (id : Nat)
 | mpo (id : Nat)
 | cut (id lo hi : Nat)
 | ptr (id : Nat) (path : List Nat)
 | eptr (id : Nat) (i : Nat) (path : List Nat)
 | rp (τ : Ty) (x : T τ)
 | pr (a b : D)
 | un
 | tup (d : D)
def Ty.dec : (x y : Ty) → Option (PLift (x = y))
 | .i k, .i k' => if h : k = k' then some ⟨by rw [h]⟩ else none
 | .b, .b => some ⟨rfl⟩
 | .o, .o => some ⟨rfl⟩
 | .s, .s => some ⟨rfl⟩
 | .u, .u => some ⟨rfl⟩
 | .sl v, .sl w => match Ty.dec v w with
  | some ⟨h⟩ => some ⟨by rw [h]⟩
  | none => none
 | .p v v', .p w w' => match Ty.dec v w, Ty.dec v' w' with
  | some ⟨h⟩, some ⟨g⟩ => some ⟨by rw [h, g]⟩
  | _, _ => none
 | .mp v v', .mp w w' => match Ty.dec v w, Ty.dec v' w' with
  | some ⟨h⟩, some ⟨g⟩ => some ⟨by rw [h, g]⟩
  | _, _ => none
 | _, _ => none
def Hh : (e : Ty) → T e → List Nat → (τ : Ty) → T τ → Option (T e)
 | e, _, [], τ, y => match Ty.dec τ e with
  | some ⟨h⟩ => some (h ▸ y)
  | none => none
 | .p a _, v, 0 :: p, τ, y => match Hh a v.1 p τ y with
  | some u => some (u, v.2)
  | none => none
 | .p _ c, v, (n + 1) :: p, τ, y => match Hh c v.2 (n :: p) τ y with
  | some u => some (v.1, u)
  | none => none
 | _, _, _, _, _ => none
inductive Ia where
 | box (ρ : Ty) (d : D)
 | row (e : Ty) (deep : Bool) (xs : List (T e))
 | hol (e : Ty) (xs : List (T e)) (i : Nat) (x : T e) (path : List Nat) (τ : Ty) (d : D)
 | mov (e : Ty) (xs : List (T e)) (k : Nat)
 | mp (k v : Ty) (xs : List (T k × T v))
 | mq (kk : IntKind) (e : Ty) (xs : List (Int × List (T e)))
 | mx (k v : Ty) (xs : List (T k × T v))
 | fz (e : Ty) (xs : List (T e))
def Ia.rowN : Ia → Option (Ty × Nat)
 | .box _ _ => none
 | .row e _ xs => some (e, ja xs)
 | .hol e xs _ _ _ _ _ => some (e, ja xs)
 | .mov e xs _ => some (e, ja xs)
 | .mp _ _ _ => none
 | .mq _ _ _ => none
 | .mx _ _ _ => none
 | .fz e xs => some (e, ja xs)
def Ia.isM : Ia → Bool
 | .mp _ _ _ | .mq _ _ _ | .mx _ _ _ => true
 | _ => false
def Jb {α : Type} : List (Nat × α) → Nat → Option α
 | [], _ => none
 | (j, a) :: r, k => bif qw j k then some a else Jb r k
theorem Tc {α : Type} (j k : Nat) (a : α) (r : List (Nat × α)) : Jb ((j, a) :: r) k = if j = k then some a else Jb r k := by
 simp only [Jb]
 by_cases h : j = k
 ·subst h; simp
 ·have : qw j k = false := by rw [← j9]; intro e; exact h (ju e)
  simp [this, h]
structure AS where
 n : Nat
 tm : List (Nat × D)
 hp : List (Nat × Option Ia)
def AS.heap (s : AS) (id : Nat) : Option Ia := (Jb s.hp id).join
def Ub (cs : List Value) (o : Nat) (ce : List Value) : List Value := cs.take o ++ ce ++ cs.drop (o + ce.length)
def Na : Ty → Nat → Option Ty
 | .p x _, 0 => some x
 | .p _ y, n + 1 => Na y n
 | _, _ => none
def Wc : Ty → Nat → Nat
 | .p _ _, 0 => 0
 | .p x y, n + 1 => x.size + Wc y n
 | _, _ => 0
def Ze : Ty → List Nat → Option Ty
 | τ, [] => some τ
 | τ, f :: p => (Na τ f).bind fun τ' => Ze τ' p
def Hb : Ty → List Nat → Nat
 | _, [] => 0
 | τ, f :: p => Wc τ f + ((Na τ f).map fun τ' => Hb τ' p).getD 0
def D.ment (id : Nat) : D → Bool
 | .own j | .mpo j | .ptr j _ | .eptr j _ _ | .cut j _ _ => qw j id
 | .pr a b => a.ment id || b.ment id
 | .tup d => d.ment id
 | _ => false
def Ia.ment (id : Nat) : Ia → Bool
 | .box _ d => d.ment id
 | .row _ _ _ => false
 | .hol _ _ _ _ _ _ d => d.ment id
 | .mov _ _ _ => false
 | .mp _ _ _ => false
 | .mq _ _ _ => false
 | .mx _ _ _ => false
 | .fz _ _ => false
def AS.ment (s : AS) (id : Nat) : Bool := (s.tm.any fun x => x.2.ment id) || (s.hp.any fun x => (x.2.map (Ia.ment id)).getD false)
def Bb : Ty → D → Prop
 | τ, .t τ' _ => τ' = τ
 | .sl _, .nil => True
 | .sl _, .own _ => True
 | .sl _, .cut _ _ _ => True
 | .mp _ _, .mpo _ => True
 | .p x y, .pr a b => Bb x a ∧ Bb y b
 | .u, .un => True
 | _, _ => False
section
variable (w : World) (O : Nat → Prop) (hp : Nat → Option Ia) (σ : Nat → Value)
def Ab : D → List Value → Prop
 | .und, _ => False
 | .anyv, _ => False
 | .t τ x, cs => La w O τ x cs
 | .nil, cs => cs = [.slice none 0 0]
 | .own id, cs => ∃ v, cs = [v] ∧ v.oneCell' = true ∧ ∀ Da r, hp id = some Da → Da.rowN = some r → v = σ id
 | .mpo id, cs => ∃ v, cs = [v] ∧ v.oneCell' = true ∧ ∀ Da, hp id = some Da → Da.isM = true → v = σ id
 | .cut id lo hi, cs => ∃ v, cs = [v] ∧ v.oneCell' = true ∧ ∀ Da e n, hp id = some Da → Da.rowN = some (e, n) → lo ≤ hi ∧ hi ≤ n ∧
  ∃ ad cap j, σ id = .slice ad n cap ∧ n ≤ cap ∧ j ≤ lo ∧ (lo < cap → j = lo) ∧ v = .slice (ad.map (·.add (j * e.size))) (hi - lo) (cap - lo)
 | .ptr id path, cs => ∃ v, cs = [v] ∧ v.oneCell' = true ∧ ∀ ρ d, hp id = some (.box ρ d) → ∃ b, σ id = .pointer (some ⟨b, 0, none⟩) ∧ v = .pointer (some ⟨b, Hb ρ path, none⟩)
 | .eptr id i path, cs => ∃ v, cs = [v] ∧ v.oneCell' = true ∧ ∀ Da e n, hp id = some Da → Da.rowN = some (e, n) → i < n ∧
  ∃ b off cap, σ id = .slice (some ⟨b, off, none⟩) n cap ∧ v = .pointer (some ⟨b, off + i * e.size + Hb e path, none⟩)
 | .rp τ x, cs => ∃ b off cur et fr, cs = [.pointer (some ⟨b, off, none⟩)] ∧ ¬ O b ∧ w.heap[b]? = some (.cells cur et fr) ∧ off + τ.size ≤ cur.size ∧ La w O τ x (Fd cur off τ.size)
 | .pr a b, cs => ∃ c1 c2, cs = c1 ++ c2 ∧ Ab a c1 ∧ Ab b c2
 | .un, cs => cs = []
 | .tup _, _ => False
def D.isAgg : D → Bool
 | .t (.p _ _) _ | .t .u _ | .pr _ _ | .un => true
 | _ => false
def Se (d : D) (v : Value) : Prop :=
 if d.isAgg then ∃ cs : Array Value, v = .agg cs ∧ Ab w O hp σ d cs.toList else Ab w O hp σ d [v]
def Ig : D → List Value → Prop
 | .pr a b, v :: vs => Se w O hp σ a v ∧ Ig b vs
 | .un, [] => True
 | _, _ => False
def Zc (d : D) (v : Value) : Prop :=
 match d with
 | .tup ds => ∃ vs : Array Value, v = .tuple vs ∧ Ig w O hp σ ds vs.toList
 | .und => v = undef
 | .anyv => True
 | d => Se w O hp σ d v
def Nc (id : Nat) : Ia → List Nat → Prop
 | .box ρ d, F => Bb ρ d ∧ ∃ b cur et, σ id = .pointer (some ⟨b, 0, none⟩) ∧ w.heap[b]? = some (.cells cur et (0, 0)) ∧ F = [b] ∧ Ab w O hp σ d cur.toList ∧ cur.size = ρ.size
 | .row e true xs, F => Tb w (.sl e) xs [σ id] F
 | .row e false xs, F => ja xs ≤ Aj ∧ ((σ id = .slice none 0 0 ∧ xs = ([] : List (T e)) ∧ F = []) ∨
  ∃ bl off cap cur et, σ id = .slice (some ⟨bl, off, none⟩) (ja xs) cap ∧ w.heap[bl]? = some (.cells cur et (0, 0)) ∧
   ja xs ≤ cap ∧ cap ≤ Aj ∧ off + cap * e.size ≤ cur.size ∧ F = [bl] ∧
   ∀ i (h : i < ja xs), La w O e (List.get xs ⟨i, h⟩) (Fd cur (off + i * e.size) e.size))
 | .hol e xs i x path τ d, F => Bb τ d ∧ xs[i]? = some x ∧ Ze e path = some τ ∧ (∀ b, b ∈ F → b < w.heap.size) ∧
  ∃ bl off cap cur et, σ id = .slice (some ⟨bl, off, none⟩) (ja xs) cap ∧ w.heap[bl]? = some (.cells cur et (0, 0)) ∧ bl ∈ F ∧ off + i * e.size + e.size ≤ cur.size ∧
   Ab w O hp σ d (Fd cur (off + i * e.size + Hb e path) τ.size) ∧
   ∀ (w' : World) (c' : List Value), c'.length = τ.size → (∀ b, b ∈ F → b ≠ bl → w'.heap[b]? = w.heap[b]?) →
    w'.heap[bl]? = some (.cells (Ub cur.toList (off + i * e.size + Hb e path) c').toArray et (0, 0)) →
    ∀ (y : T τ) (Fy : List Nat) (x' : T e), Tb w' τ y c' Fy → Hh e x path τ y = some x' → ∃ F', F'.Perm (F ++ Fy) ∧ Tb w' (.sl e) (j6 xs i x') [σ id] F'
 | .mov e xs k, F => ja xs ≤ Aj ∧ ((σ id = .slice none 0 0 ∧ xs = ([] : List (T e)) ∧ F = []) ∨
  ∃ bl off cap cur et Fs, σ id = .slice (some ⟨bl, off, none⟩) (ja xs) cap ∧ w.heap[bl]? = some (.cells cur et (0, 0)) ∧
   ja xs ≤ cap ∧ cap ≤ Aj ∧ off + cap * e.size ≤ cur.size ∧ F = bl :: List.flatten Fs ∧ ja Fs = ja xs ∧
   (∀ i (h : i < ja xs), k ≤ i → Tb w e (List.get xs ⟨i, h⟩) (Fd cur (off + i * e.size) e.size) (Fs.getD i [])) ∧ ∀ i, i < k → Fs.getD i [] = [])
 | .mp k v xs, F => ∃ r es clk, σ id = .map (some r) ∧ w.heap[r]? = some (.map es clk) ∧ F = [r] ∧ es.size = ja xs ∧
  ∀ i (h : i < ja xs), ∃ e ck cv, es[i]? = some e ∧ e.key = Lk k ck ∧ e.val = Lk v cv ∧ La w O k (List.get xs ⟨i, h⟩).1 ck ∧ La w O v (List.get xs ⟨i, h⟩).2 cv
 | .mq _ _ xs, F => ∃ r es clk, σ id = .map (some r) ∧ w.heap[r]? = some (.map es clk) ∧ F = [r] ∧ es.size = ja xs
 | .mx k v xs, F => Tb w (.mp k v) xs [σ id] F
 | .fz e xs, F => F = [] ∧ La w O (.sl e) xs [σ id]
end
def N2 (w : World) (n0 : Nat) (O : Nat → Prop) (v : Value) (kk : IntKind) (e : Ty) (xs : List (Int × List (T e))) : Prop :=
 ∃ r es clk Gs, v = .map (some r) ∧ w.heap[r]? = some (.map es clk) ∧ es.size = ja xs ∧ ja Gs = ja xs ∧ (List.flatten Gs).Nodup ∧
  (∀ b, b ∈ List.flatten Gs → n0 ≤ b ∧ ¬ O b) ∧
  ∀ i (h : i < ja xs), ∃ en, es[i]? = some en ∧ en.key = .int kk (List.get xs ⟨i, h⟩).1 ∧ Tb w (.sl e) (List.get xs ⟨i, h⟩).2 [en.val] (Gs.getD i [])
theorem N2.stable {w w' : World} {n0 : Nat} {O O' : Nat → Prop} {v : Value} {kk : IntKind} {e : Ty} {xs : List (Int × List (T e))} (hv : ∀ b, ¬ O b → b < w.heap.size → w'.heap[b]? = w.heap[b]?) (hO : ∀ b, b < w.heap.size → ¬ O b → ¬ O' b)
 (hr : ∀ r, v = .map (some r) → w'.heap[r]? = w.heap[r]?) (h : N2 w n0 O v kk e xs) : N2 w' n0 O' v kk e xs := by
 obtain ⟨r, es, clk, Gs, h1, h2, h3, h4, h5, h6, h7⟩ := h
 have hlt : ∀ b, b ∈ List.flatten Gs → b < w.heap.size := fun b hb => by
  obtain ⟨i, hi, hm⟩ := Bi hb
  obtain ⟨en, _, _, ho⟩ := h7 i (h4 ▸ hi)
  exact ho.lt b hm
 refine ⟨r, es, clk, Gs, h1, (hr r h1).trans h2, h3, h4, h5, fun b hb => ⟨(h6 b hb).1, hO b (hlt b hb) (h6 b hb).2⟩, fun i hi => ?_⟩
 obtain ⟨en, g1, g2, g3⟩ := h7 i hi
 exact ⟨en, g1, g2, g3.stable fun b hb => hv b (h6 b (Bf hb)).2 (hlt b (Bf hb))⟩
structure Yf where
 base : Nat
 p : World → Prop
 st : ∀ w w' : World, (∀ b, b < base → w'.heap[b]? = w.heap[b]?) → p w → p w'
structure Fx where
 A : Nat → Prop
 pin : Nat → Option Value
 low : ∀ id v, pin id = some v → 500000 ≤ id
 I : Yf
 avoid : ∀ b, A b → I.base ≤ b
structure Fr (n0 : Nat) (A : Nat → Prop) (w0 w : World) : Prop where
 os : w.os = w0.os
 tape : w.tape = w0.tape
 output : w.output = w0.output
 size : n0 ≤ w.heap.size
 block : ∀ b, b < n0 → ¬ A b → w.heap[b]? = w0.heap[b]?
def OO (O0 : Nat → Prop) (s : AS) (φ : Nat → List Nat) (b : Nat) : Prop := O0 b ∨ ∃ id Da, s.heap id = some Da ∧ b ∈ φ id
structure Qa (n0 : Nat) (A : Fx) (O0 : Nat → Prop) (w0 : World) (s : AS) (σ : Nat → Value) (φ : Nat → List Nat) (a : Act) (w : World) : Prop where
 sz : a.tmps.size = s.n
 df : a.defers = []
 tm : ∀ t d, Jb s.tm t = some d → ∃ v, a.tmps[t]? = some v ∧ Zc w (OO O0 s φ) s.heap σ d v
 hp : ∀ id Da, s.heap id = some Da → Nc w (OO O0 s φ) s.heap σ id Da (φ id)
 nodup : ∀ id Da, s.heap id = some Da → (φ id).Nodup
 disj : ∀ id id' Da blk', id ≠ id' → s.heap id = some Da → s.heap id' = some blk' → ∀ b, b ∈ φ id → b ∉ φ id'
 fresh : ∀ id Da, s.heap id = some Da → ∀ b, b ∈ φ id → n0 ≤ b ∨ A.A b
 o0 : ∀ b, O0 b → b < n0
 fr : Fr n0 A.A w0 w
 pin : ∀ id v, A.pin id = some v → σ id = v
 iv0 : A.I.base ≤ n0
 ivw : A.I.p w0
 shr : ∀ id kk e xs, s.heap id = some (.mq kk e xs) → N2 w n0 (OO O0 s φ) (σ id) kk e xs
theorem Qa.iv {n0 : Nat} {A : Fx} {O0 : Nat → Prop} {w0 w : World} {s : AS} {σ : Nat → Value} {φ : Nat → List Nat} {a : Act} (h : Qa n0 A O0 w0 s σ φ a w) : A.I.p w :=
 A.I.st w0 w (fun b hb => h.fr.block b (qh hb h.iv0) fun hA => by have := A.avoid b hA; omega) h.ivw
theorem Qa.ivb {n0 : Nat} {A : Fx} {O0 : Nat → Prop} {w0 w : World} {s : AS} {σ : Nat → Value} {φ : Nat → List Nat} {a : Act} (h : Qa n0 A O0 w0 s σ φ a w) {id : Nat} {Da : Ia} (hb : s.heap id = some Da) {b : Nat} (hm : b ∈ φ id) : A.I.base ≤ b := by
 rcases h.fresh id Da hb b hm with h1 | h1
 ·exact qa h.iv0 h1
 ·exact A.avoid b h1
def Ia.like : Ia → Ia → Prop
 | .box ρ _, .box ρ' _ => ρ = ρ'
 | .row e _ xs, .row e' _ xs' => e = e' ∧ ja xs = ja xs'
 | .row e _ xs, .hol e' xs' _ _ _ _ _ => e = e' ∧ ja xs = ja xs'
 | .hol e xs _ _ _ _ _, .row e' _ xs' => e = e' ∧ ja xs = ja xs'
 | .hol e xs _ _ _ _ _, .hol e' xs' _ _ _ _ _ => e = e' ∧ ja xs = ja xs'
 | .row e _ xs, .mov e' xs' _ => e = e' ∧ ja xs = ja xs'
 | .mov e xs _, .mov e' xs' _ => e = e' ∧ ja xs = ja xs'
 | .mp k v _, .mp k' v' _ => k = k' ∧ v = v'
 | .mq k e _, .mq k' e' _ => k = k' ∧ e = e'
 | .mx k e _, .mx k' e' _ => k = k' ∧ e = e'
 | .row e _ xs, .fz e' xs' => e = e' ∧ ja xs = ja xs'
 | .fz e xs, .fz e' xs' => e = e' ∧ ja xs = ja xs'
 | _, _ => False
theorem Ia.like_refl (b : Ia) : b.like b := by cases b <;> simp [Ia.like]
theorem Ia.like_rowN {a b : Ia} {r : Ty × Nat} (h : a.like b) (hr : b.rowN = some r) : a.rowN = some r := by
 cases a <;> cases b <;> simp_all [Ia.like, Ia.rowN]
theorem Ia.like_isM {a b : Ia} (h : a.like b) (hr : b.isM = true) : a.isM = true := by
 cases a <;> cases b <;> simp_all [Ia.like, Ia.isM]
theorem Ew {α : Type} {l : List (Nat × α)} {k : Nat} {a : α} (h : Jb l k = some a) : (k, a) ∈ l := by
 induction l with
 | nil => simp [Jb] at h
 | cons x r ih =>
  obtain ⟨j, b⟩ := x
  rw [Tc] at h
  split at h
  ·rename_i hj; subst hj; simp at h; simp [h]
  ·exact jr _ (ih h)
theorem AS.heap_mem {s : AS} {id : Nat} {b : Ia} (h : s.heap id = some b) : (id, some b) ∈ s.hp := by
 unfold AS.heap at h
 cases hh : Jb s.hp id with
 | none => simp [hh] at h
 | some o => simp [hh] at h; subst h; exact Ew hh
theorem AS.ment_heap {s : AS} {id j : Nat} {b : Ia} (h : s.heap j = some b) (hm : b.ment id = true) : s.ment id = true := by
 unfold AS.ment
 have := AS.heap_mem h
 simp only [qx, qy]
 exact .inr ⟨_, this, by simpa using hm⟩
theorem AS.ment_tm {s : AS} {id t : Nat} {d : D} (h : Jb s.tm t = some d) (hm : d.ment id = true) : s.ment id = true := by
 unfold AS.ment
 simp only [qx, qy]
 exact .inl ⟨_, Ew h, hm⟩
section
variable {w w' : World} {O O' : Nat → Prop} {hp hp' : Nat → Option Ia} {σ σ' : Nat → Value}
def Cp (hp hp' : Nat → Option Ia) (σ σ' : Nat → Value) (id : Nat) : Prop :=
 ∀ blk', hp' id = some blk' → ∃ Da, hp id = some Da ∧ Da.like blk' ∧ σ' id = σ id
theorem Ab.stable (hv : ∀ b, ¬ O b → b < w.heap.size → w'.heap[b]? = w.heap[b]?) (hO : ∀ b, b < w.heap.size → ¬ O b → ¬ O' b) :
 ∀ (d : D) (cs : List Value), (∀ id, d.ment id = true → Cp hp hp' σ σ' id) → Ab w O hp σ d cs → Ab w' O' hp' σ' d cs
 | .und, cs, _, h => h
 | .anyv, cs, _, h => h
 | .t τ x, cs, _, h => La.stable hv hO h
 | .nil, cs, _, h => h
 | .own id, cs, hc, h => by
  obtain ⟨v, hcs, h1c, h⟩ := h
  refine ⟨v, hcs, h1c, fun blk' r he hr => ?_⟩
  obtain ⟨Da, hb, hl, hs⟩ := hc id (by simp [D.ment]) _ he
  rw [hs]; exact h _ _ hb (Ia.like_rowN hl hr)
 | .ptr id path, cs, hc, h => by
  obtain ⟨v, hcs, h1c, h⟩ := h
  refine ⟨v, hcs, h1c, fun ρ d he => ?_⟩
  obtain ⟨Da, hb, hl, hs⟩ := hc id (by simp [D.ment]) _ he
  cases Da with
  | box ρ' d' => simp [Ia.like] at hl; subst hl; rw [hs]; exact h _ _ hb
  | row => simp [Ia.like] at hl
  | hol => simp [Ia.like] at hl
  | mov => simp [Ia.like] at hl
  | mp => simp [Ia.like] at hl
  | mq => simp [Ia.like] at hl
  | mx => simp [Ia.like] at hl
  | fz => simp [Ia.like] at hl
 | .mpo id, cs, hc, h => by
  obtain ⟨v, hcs, h1c, h⟩ := h
  refine ⟨v, hcs, h1c, fun blk' he hm => ?_⟩
  obtain ⟨Da, hb, hl, hs⟩ := hc id (by simp [D.ment]) _ he
  rw [hs]; exact h _ hb (Ia.like_isM hl hm)
 | .cut id lo hi, cs, hc, h => by
  obtain ⟨v, hcs, h1c, h⟩ := h
  refine ⟨v, hcs, h1c, fun blk' e n he hr => ?_⟩
  obtain ⟨Da, hb, hl, hs⟩ := hc id (by simp [D.ment]) _ he
  rw [hs]; exact h _ _ _ hb (Ia.like_rowN hl hr)
 | .eptr id i path, cs, hc, h => by
  obtain ⟨v, hcs, h1c, h⟩ := h
  refine ⟨v, hcs, h1c, fun blk' e n he hr => ?_⟩
  obtain ⟨Da, hb, hl, hs⟩ := hc id (by simp [D.ment]) _ he
  rw [hs]; exact h _ _ _ hb (Ia.like_rowN hl hr)
 | .rp τ x, cs, _, h => by
  obtain ⟨b, off, cur, et, fr, hcs, hb, hh, hs, hvw⟩ := h
  have hlt : b < w.heap.size := (Array.getElem?_eq_some_iff.1 hh).1
  exact ⟨b, off, cur, et, fr, hcs, hO _ hlt hb, (hv _ hb hlt).trans hh, hs, La.stable hv hO hvw⟩
 | .pr a b, cs, hc, h => by
  obtain ⟨c1, c2, h0, h1, h2⟩ := h
  exact ⟨c1, c2, h0, Ab.stable hv hO a c1 (fun id hi => hc id (by simp [D.ment, hi])) h1,
   Ab.stable hv hO b c2 (fun id hi => hc id (by simp [D.ment, hi])) h2⟩
 | .un, cs, _, h => h
 | .tup d, cs, _, h => h
theorem Se.stable (hv : ∀ b, ¬ O b → b < w.heap.size → w'.heap[b]? = w.heap[b]?) (hO : ∀ b, b < w.heap.size → ¬ O b → ¬ O' b)
 (d : D) (v : Value) (hc : ∀ id, d.ment id = true → Cp hp hp' σ σ' id) (h : Se w O hp σ d v) : Se w' O' hp' σ' d v := by
 unfold Se at *
 split
 ·rename_i ha
  simp only [ha, if_true] at h
  obtain ⟨cs, h1, h2⟩ := h
  exact ⟨cs, h1, Ab.stable hv hO d _ hc h2⟩
 ·rename_i ha
  simp only [ha, if_false, jq] at h
  exact Ab.stable hv hO d _ hc h
theorem Ig.stable (hv : ∀ b, ¬ O b → b < w.heap.size → w'.heap[b]? = w.heap[b]?) (hO : ∀ b, b < w.heap.size → ¬ O b → ¬ O' b) :
 ∀ (d : D) (vs : List Value) (_ : ∀ id, d.ment id = true → Cp hp hp' σ σ' id) (_ : Ig w O hp σ d vs), Ig w' O' hp' σ' d vs
 | .pr a b, v :: vs, hc, h => ⟨Se.stable hv hO a v (fun id hi => hc id (by simp [D.ment, hi])) h.1,
  Ig.stable hv hO b vs (fun id hi => hc id (by simp [D.ment, hi])) h.2⟩
 | .un, [], _, _ => trivial
 | .pr _ _, [], _, h => h.elim
 | .un, _ :: _, _, h => h.elim
 | .und, _, _, h => by simp [Ig] at h
 | .anyv, _, _, h => by simp [Ig] at h
 | .t _ _, _, _, h => by simp [Ig] at h
 | .nil, _, _, h => by simp [Ig] at h
 | .own _, _, _, h => by simp [Ig] at h
 | .mpo _, _, _, h => by simp [Ig] at h
 | .cut _ _ _, _, _, h => by simp [Ig] at h
 | .ptr _ _, _, _, h => by simp [Ig] at h
 | .eptr _ _ _, _, _, h => by simp [Ig] at h
 | .rp _ _, _, _, h => by simp [Ig] at h
 | .tup _, _, _, h => by simp [Ig] at h
theorem Zc.stable (hv : ∀ b, ¬ O b → b < w.heap.size → w'.heap[b]? = w.heap[b]?) (hO : ∀ b, b < w.heap.size → ¬ O b → ¬ O' b)
 (d : D) (v : Value) (hc : ∀ id, d.ment id = true → Cp hp hp' σ σ' id) (h : Zc w O hp σ d v) : Zc w' O' hp' σ' d v := by
 cases d with
 | tup ds =>
  obtain ⟨vs, h1, h2⟩ := h
  exact ⟨vs, h1, Ig.stable hv hO ds _ hc h2⟩
 | und => exact h
 | anyv => exact h
 | _ => exact Se.stable hv hO _ v hc h
theorem Nc.lt {id : Nat} {Da : Ia} {F : List Nat} (h : Nc w O hp σ id Da F) : ∀ b, b ∈ F → b < w.heap.size := by
 intro b hb
 cases Da with
 | box ρ d =>
  obtain ⟨_, bb, cur, et, _, hh, hF, _⟩ := h
  subst hF
  simp at hb; subst hb
  exact (Array.getElem?_eq_some_iff.1 hh).1
 | row e dp xs =>
  cases dp with
  | true => exact Tb.lt h b hb
  | false =>
   obtain ⟨_, ⟨_, _, hF⟩ | ⟨bl, off, cap, cur, et, _, hh, _, _, _, hF, _⟩⟩ := h
   ·subst hF; simp at hb
   ·subst hF
    simp at hb; subst hb
    exact (Array.getElem?_eq_some_iff.1 hh).1
 | hol e xs i x path τ d => exact h.2.2.2.1 b hb
 | mov e xs k =>
  obtain ⟨_, ⟨_, _, hF⟩ | ⟨bl, off, cap, cur, et, Fs, _, hh, _, _, _, hF, hl, hv, hk⟩⟩ := h
  ·subst hF; simp at hb
  ·subst hF
   rcases jp.1 hb with rfl | hb
   ·exact (Array.getElem?_eq_some_iff.1 hh).1
   ·obtain ⟨i, hi, hbi⟩ := Bi hb
    rw [hl] at hi
    rcases Nat.lt_or_ge i k with hik | hik
    ·rw [hk i hik] at hbi; simp at hbi
    ·exact (hv i hi hik).lt b hbi
 | mp k v xs =>
  obtain ⟨r, es, clk, _, hh, hF, _⟩ := h
  subst hF
  simp at hb; subst hb
  exact (Array.getElem?_eq_some_iff.1 hh).1
 | mq kk e xs =>
  obtain ⟨r, es, clk, _, hh, hF, _⟩ := h
  subst hF
  simp at hb; subst hb
  exact (Array.getElem?_eq_some_iff.1 hh).1
 | mx kk e xs => exact Tb.lt h b hb
 | fz e xs => rw [h.1] at hb; simp at hb
theorem Nc.stable (hv : ∀ b, ¬ O b → b < w.heap.size → w'.heap[b]? = w.heap[b]?) (hO : ∀ b, b < w.heap.size → ¬ O b → ¬ O' b)
 {id : Nat} {Da : Ia} {F : List Nat} (hF : ∀ b, b ∈ F → w'.heap[b]? = w.heap[b]?) (hσ : σ' id = σ id)
 (hc : ∀ j, Da.ment j = true → Cp hp hp' σ σ' j) (h : Nc w O hp σ id Da F) : Nc w' O' hp' σ' id Da F := by
 cases Da with
 | box ρ d =>
  obtain ⟨h0, bb, cur, et, h1, hh, hF', h2, h3⟩ := h
  subst hF'
  exact ⟨h0, bb, cur, et, hσ.trans h1, (hF bb (by simp)).trans hh, rfl, Ab.stable hv hO d _ hc h2, h3⟩
 | row e dp xs =>
  cases dp with
  | true =>
   simp only [Nc] at h ⊢
   rw [hσ]
   exact Tb.stable h hF
  | false =>
   obtain ⟨hm, ⟨h1, h2, h3⟩ | ⟨bl, off, cap, cur, et, h1, hh, h2, h3, h4, hF', hvw⟩⟩ := h
   ·exact ⟨hm, .inl ⟨hσ.trans h1, h2, h3⟩⟩
   ·subst hF'
    exact ⟨hm, .inr ⟨bl, off, cap, cur, et, hσ.trans h1, (hF bl (by simp)).trans hh, h2, h3, h4, rfl, fun i hi => La.stable hv hO (hvw i hi)⟩⟩
 | hol e xs i x path τ d =>
  obtain ⟨h1, h2, h3, h4, bl, off, cap, cur, et, h5, h8, h9, h10, h6, h7⟩ := h
  refine ⟨h1, h2, h3, fun b hb => ?_, bl, off, cap, cur, et, hσ.trans h5, (hF bl h9).trans h8, h9, h10, Ab.stable hv hO d _ hc h6, fun w2 c' hl hw2 hbl y Fy x' hy hs => ?_⟩
  ·have := hF b hb
   rw [Array.getElem?_eq_getElem (h4 b hb)] at this
   exact (Array.getElem?_eq_some_iff.1 this).1
  ·obtain ⟨F', p1, p2⟩ := h7 w2 c' hl (fun b hb hne => (hw2 b hb hne).trans (hF b hb)) hbl y Fy x' hy hs
   exact ⟨F', p1, by rw [hσ]; exact p2⟩
 | mov e xs k =>
  obtain ⟨hm, ⟨h1, h2, h3⟩ | ⟨bl, off, cap, cur, et, Fs, h1, hh, h2, h3, h4, hF', hl, hv', hk⟩⟩ := h
  ·exact ⟨hm, .inl ⟨hσ.trans h1, h2, h3⟩⟩
  ·subst hF'
   exact ⟨hm, .inr ⟨bl, off, cap, cur, et, Fs, hσ.trans h1, (hF bl (by simp)).trans hh, h2, h3, h4, rfl, hl, fun i hi hik => (hv' i hi hik).stable fun b hb => hF b (jr _ (Bf hb)), hk⟩⟩
 | mp k v xs =>
  obtain ⟨r, es, clk, h1, hh, hF', hz, hv'⟩ := h
  subst hF'
  refine ⟨r, es, clk, hσ.trans h1, (hF r (by simp)).trans hh, rfl, hz, fun i hi => ?_⟩
  obtain ⟨e, ck, cv, g1, g2, g3, g4, g5⟩ := hv' i hi
  exact ⟨e, ck, cv, g1, g2, g3, La.stable hv hO g4, La.stable hv hO g5⟩
 | mq kk e xs =>
  obtain ⟨r, es, clk, h1, hh, hF', hz⟩ := h
  subst hF'
  exact ⟨r, es, clk, hσ.trans h1, (hF r (by simp)).trans hh, rfl, hz⟩
 | mx kk e xs =>
  simp only [Nc] at h ⊢
  rw [hσ]
  exact Tb.stable h hF
 | fz e xs => exact ⟨h.1, by rw [hσ]; exact La.stable hv hO h.2⟩
end
section
variable {n0 : Nat} {A : Fx} {O0 : Nat → Prop} {w0 w w' : World} {s s' : AS} {σ σ' : Nat → Value} {φ φ' : Nat → List Nat} {a a' : Act}
theorem Qa.trans (h : Qa n0 A O0 w0 s σ φ a w) (Tid : Nat → Prop)
 (hn : s'.n = s.n) (htm : s'.tm = s.tm)
 (hother : ∀ id, ¬ Tid id → s'.heap id = s.heap id ∧ σ' id = σ id ∧ φ' id = φ id)
 (hw : ∀ b, b < w.heap.size → (∀ id Da, Tid id → s.heap id = some Da → b ∉ φ id) → w'.heap[b]? = w.heap[b]?)
 (hsize : w.heap.size ≤ w'.heap.size)
 (hsub : ∀ id blk', Tid id → s'.heap id = some blk' → ∀ b, b ∈ φ' id → w.heap.size ≤ b ∨ ∃ j Da, Tid j ∧ s.heap j = some Da ∧ b ∈ φ j)
 (hcomp : ∀ id blk', Tid id → s'.heap id = some blk' → s.ment id = true → ∃ Da, s.heap id = some Da ∧ Da.like blk' ∧ σ' id = σ id)
 (hblk : ∀ id blk', Tid id → s'.heap id = some blk' → Nc w' (OO O0 s' φ') s'.heap σ' id blk' (φ' id) ∧ (φ' id).Nodup)
 (hdT : ∀ id id' Da blk', Tid id → Tid id' → id ≠ id' → s'.heap id = some Da → s'.heap id' = some blk' → ∀ b, b ∈ φ' id → b ∉ φ' id')
 (hos : w'.os = w.os) (htape : w'.tape = w.tape) (hout : w'.output = w.output) (hpin : ∀ id, Tid id → σ' id = σ id ∨ id < 500000)
 (hshr : ∀ id kk e xs, Tid id → s'.heap id = some (.mq kk e xs) → N2 w' n0 (OO O0 s' φ') (σ' id) kk e xs) :
 Qa n0 A O0 w0 s' σ' φ' a w' := by
 have hlt : ∀ id Da, s.heap id = some Da → ∀ b, b ∈ φ id → b < w.heap.size := fun id Da hb b hm => (h.hp id Da hb).lt b hm
 have hOO : ∀ b, b < w.heap.size → ¬ OO O0 s φ b → ¬ OO O0 s' φ' b := by
  rintro b hb hno (ho | ⟨id, Da, hl, hm⟩)
  ·exact hno (.inl ho)
  ·by_cases ht : Tid id
   ·rcases hsub id Da ht hl b hm with hge | ⟨j, blk', _, hj, hmj⟩
    ·omega
    ·exact hno (.inr ⟨j, blk', hj, hmj⟩)
   ·obtain ⟨e1, _, e3⟩ := hother id ht
    exact hno (.inr ⟨id, Da, e1 ▸ hl, e3 ▸ hm⟩)
 have hview : ∀ b, ¬ OO O0 s φ b → b < w.heap.size → w'.heap[b]? = w.heap[b]? := fun b hno hb =>
  hw b hb fun id Da _ hl hm => hno (.inr ⟨id, Da, hl, hm⟩)
 have hcp : ∀ id, s.ment id = true → Cp s.heap s'.heap σ σ' id := by
  intro id hm blk' hl
  by_cases ht : Tid id
  ·exact hcomp id blk' ht hl hm
  ·obtain ⟨e1, e2, _⟩ := hother id ht
   exact ⟨blk', e1 ▸ hl, Ia.like_refl _, e2⟩
 have hold : ∀ id Da, ¬ Tid id → s.heap id = some Da → ∀ b, b ∈ φ id → w'.heap[b]? = w.heap[b]? := fun id Da ht hl b hm =>
  hw b (hlt id Da hl b hm) fun j blk' hj hl' hmj => h.disj id j Da blk' (fun e => ht (e ▸ hj)) hl hl' b hm hmj
 refine ⟨?_, h.df, ?_, ?_, ?_, ?_, ?_, h.o0, ?_, ?pin, h.iv0, h.ivw, ?shr⟩
 case shr =>
  intro id kk e xs hl
  by_cases ht : Tid id
  ·exact hshr id kk e xs ht hl
  ·obtain ⟨e1, e2, _⟩ := hother id ht
   rw [e1] at hl
   rw [e2]
   refine (h.shr id kk e xs hl).stable hview hOO fun r hr => ?_
   obtain ⟨r', es, clk, hσ, hh, hF, _⟩ := h.hp id _ hl
   have : r' = r := by rw [hσ] at hr; simpa using hr
   subst this
   exact hold id _ ht hl r' (by rw [hF]; simp)
 case pin =>
  intro id v hv
  by_cases ht : Tid id
  ·rcases hpin id ht with e | e
   ·exact e.trans (h.pin id v hv)
   ·exact absurd (A.low id v hv) (by omega)
  ·exact (hother id ht).2.1.trans (h.pin id v hv)
 ·rw [hn]; exact h.sz
 ·intro t d hd
  rw [htm] at hd
  obtain ⟨v, hv, hr⟩ := h.tm t d hd
  exact ⟨v, hv, Zc.stable hview hOO d v (fun id hi => hcp id (AS.ment_tm hd hi)) hr⟩
 ·intro id Da hl
  by_cases ht : Tid id
  ·exact (hblk id Da ht hl).1
  ·obtain ⟨e1, e2, e3⟩ := hother id ht
   rw [e1] at hl
   rw [e3]
   exact Nc.stable hview hOO (hold id Da ht hl) e2 (fun j hj => hcp j (AS.ment_heap hl hj)) (h.hp id Da hl)
 ·intro id Da hl
  by_cases ht : Tid id
  ·exact (hblk id Da ht hl).2
  ·obtain ⟨e1, _, e3⟩ := hother id ht
   rw [e3]; exact h.nodup id Da (e1 ▸ hl)
 ·intro id id' Da blk' hne hl hl' b hb
  by_cases ht : Tid id <;> by_cases ht' : Tid id'
  ·exact hdT id id' Da blk' ht ht' hne hl hl' b hb
  ·obtain ⟨e1', _, e3'⟩ := hother id' ht'
   rw [e3']
   rcases hsub id Da ht hl b hb with hge | ⟨j, blkj, hj, hlj, hmj⟩
   ·intro hm
    have := hlt id' blk' (e1' ▸ hl') b hm
    omega
   ·exact h.disj j id' blkj blk' (fun e => ht' (e ▸ hj)) hlj (e1' ▸ hl') b hmj
  ·obtain ⟨e1, _, e3⟩ := hother id ht
   rw [e3] at hb
   intro hm
   rcases hsub id' blk' ht' hl' b hm with hge | ⟨j, blkj, hj, hlj, hmj⟩
   ·have := hlt id Da (e1 ▸ hl) b hb
    omega
   ·exact h.disj j id blkj Da (fun e => ht (e ▸ hj)) hlj (e1 ▸ hl) b hmj hb
  ·obtain ⟨e1, _, e3⟩ := hother id ht
   obtain ⟨e1', _, e3'⟩ := hother id' ht'
   rw [e3'] ; rw [e3] at hb
   exact h.disj id id' Da blk' hne (e1 ▸ hl) (e1' ▸ hl') b hb
 ·intro id Da hl b hb
  by_cases ht : Tid id
  ·rcases hsub id Da ht hl b hb with hge | ⟨j, blkj, _, hlj, hmj⟩
   ·exact .inl (qa h.fr.size hge)
   ·exact h.fresh j blkj hlj b hmj
  ·obtain ⟨e1, _, e3⟩ := hother id ht
   rw [e3] at hb
   exact h.fresh id Da (e1 ▸ hl) b hb
 ·refine ⟨hos.trans h.fr.os, htape.trans h.fr.tape, hout.trans h.fr.output, qa h.fr.size hsize, fun b hb hA => ?_⟩
  refine Eq.trans ?_ (h.fr.block b hb hA)
  refine hw b (qh hb h.fr.size) fun id Da _ hl hm => ?_
  rcases h.fresh id Da hl b hm with hge | hA'
  ·omega
  ·exact hA hA'
theorem Qa.drew (h : Qa n0 A O0 w0 s σ φ a w) : Qa n0 A O0 w0 s σ φ a w.drew := by
 refine h.trans (fun _ => False) rfl rfl (fun _ _ => ⟨rfl, rfl, rfl⟩) (fun _ _ _ => rfl) (jo _) ?_ ?_ ?_ ?_ rfl rfl rfl ?_ ?_
 all_goals intro id; intros; contradiction
end
def Ty.isAgg : Ty → Bool
 | .p _ _ | .u => true
 | _ => false
def Od (τ : Ty) (cs : List Value) : Value := if τ.isAgg then .agg cs.toArray else cs.headD undef
def D.fst : D → Option D
 | .t (.p x _) v => some (.t x v.1)
 | .pr a _ => some a
 | _ => none
def D.snd : D → Option D
 | .t (.p _ y) v => some (.t y v.2)
 | .pr _ y => some y
 | _ => none
def mkpr : D → D → D
 | .t a x, .t c y => .t (.p a c) (x, y)
 | .t a x, .un => .t (.p a .u) (x, ())
 | a, b => .pr a b
def D.field : D → Nat → Option D
 | d, 0 => d.fst
 | d, n + 1 => match d.snd with
  | some e => e.field n
  | none => none
def D.at : D → List Nat → Option D
 | d, [] => some d
 | d, f :: p => match d.field f with
  | some e => e.at p
  | none => none
def D.setField : D → Nat → D → Option D
 | d, 0, e => match d.snd with
  | some r => some (mkpr e r)
  | none => none
 | d, n + 1, e => match d.fst, d.snd with
  | some a, some b => match b.setField n e with
   | some b' => some (mkpr a b')
   | none => none
  | _, _ => none
def D.setAt : D → List Nat → D → Option D
 | _, [], e => some e
 | d, f :: p, e => match d.field f with
  | some x => match x.setAt p e with
   | some x' => d.setField f x'
   | none => none
  | none => none
theorem Bb.isAgg {τ : Ty} {d : D} (h : Bb τ d) : d.isAgg = τ.isAgg := by
 cases d <;> cases τ <;> simp_all [Bb, D.isAgg, Ty.isAgg]
 all_goals (subst h; rfl)
theorem Bb.p {x y : Ty} {d : D} (h : Bb (.p x y) d) : ∃ a b, d.fst = some a ∧ d.snd = some b ∧ Bb x a ∧ Bb y b := by
 cases d with
 | t τ v =>
  simp only [Bb] at h
  subst h
  exact ⟨.t x v.1, .t y v.2, rfl, rfl, by simp [Bb], by simp [Bb]⟩
 | pr a b => exact ⟨a, b, rfl, rfl, h.1, h.2⟩
 | _ => simp [Bb] at h
theorem Bb.mkpr {x y : Ty} {a b : D} (ha : Bb x a) (hb : Bb y b) : Bb (.p x y) (mkpr a b) := by
 unfold KF.mkpr
 split
 ·simp only [Bb] at ha hb ⊢; rw [ha, hb]
 ·cases y <;> simp_all [Bb]
 ·exact ⟨ha, hb⟩
section
variable {w : World} {O : Nat → Prop} {hp : Nat → Option Ia} {σ : Nat → Value}
theorem Ab.length : ∀ {τ : Ty} {d : D} {cs : List Value}, Bb τ d → Ab w O hp σ d cs → cs.length = τ.size
 | τ, .t τ' x, cs, hs, h => by
  simp only [Bb] at hs; subst hs; exact La.length h
 | .sl _, .nil, cs, _, h => by simp [Ab] at h; simp [h, Ty.size]
 | .sl _, .own _, cs, _, h => by obtain ⟨v, h, _⟩ := h; simp [h, Ty.size]
 | .sl _, .cut _ _ _, cs, _, h => by obtain ⟨v, h, _⟩ := h; simp [h, Ty.size]
 | .p x y, .pr a b, cs, hs, h => by
  obtain ⟨c1, c2, h0, h1, h2⟩ := h
  have e1 := Ab.length hs.1 h1
  have e2 := Ab.length hs.2 h2
  simp [h0, Ty.size, e1, e2]
 | .u, .un, cs, _, h => by simp [Ab] at h; simp [h, Ty.size]
 | τ, .und, _, hs, _ => by cases τ <;> simp [Bb] at hs
 | .mp _ _, .mpo _, cs, _, h => by obtain ⟨v, h, _⟩ := h; simp [h, Ty.size]
 | .i _, .mpo _, _, hs, _ => by simp [Bb] at hs
 | .b, .mpo _, _, hs, _ => by simp [Bb] at hs
 | .o, .mpo _, _, hs, _ => by simp [Bb] at hs
 | .s, .mpo _, _, hs, _ => by simp [Bb] at hs
 | .u, .mpo _, _, hs, _ => by simp [Bb] at hs
 | .sl _, .mpo _, _, hs, _ => by simp [Bb] at hs
 | .p _ _, .mpo _, _, hs, _ => by simp [Bb] at hs
 | τ, .ptr _ _, _, hs, _ => by cases τ <;> simp [Bb] at hs
 | τ, .eptr _ _ _, _, hs, _ => by cases τ <;> simp [Bb] at hs
 | τ, .rp _ _, _, hs, _ => by cases τ <;> simp [Bb] at hs
theorem Ab.p {x y : Ty} {d a b : D} {cs : List Value} (hs : Bb (.p x y) d) (ha : d.fst = some a) (hb : d.snd = some b) (h : Ab w O hp σ d cs) :
 Ab w O hp σ a (cs.take x.size) ∧ Ab w O hp σ b (cs.drop x.size) := by
 cases d with
 | t τ v =>
  simp only [Bb] at hs
  subst hs
  simp only [D.fst, D.snd, jc] at ha hb
  subst ha; subst hb
  obtain ⟨c1, c2, h0, h1, h2⟩ := h
  have e1 := La.length h1
  subst h0
  simp only [← e1, List.take_left, List.drop_left]
  exact ⟨h1, h2⟩
 | pr a' b' =>
  simp only [D.fst, D.snd, jc] at ha hb
  subst ha; subst hb
  obtain ⟨c1, c2, h0, h1, h2⟩ := h
  have e1 := Ab.length hs.1 h1
  subst h0
  simp only [← e1, List.take_left, List.drop_left]
  exact ⟨h1, h2⟩
 | _ => simp [Bb] at hs
theorem Ab.mkpr {a b : D} {c1 c2 : List Value} (h1 : Ab w O hp σ a c1) (h2 : Ab w O hp σ b c2) : Ab w O hp σ (mkpr a b) (c1 ++ c2) := by
 unfold KF.mkpr
 split
 ·exact ⟨c1, c2, rfl, h1, h2⟩
 ·simp only [Ab] at h2; subst h2; exact ⟨c1, [], rfl, h1, rfl⟩
 ·exact ⟨c1, c2, rfl, h1, h2⟩
theorem Ks : ∀ {ρ τ : Ty} {n : Nat}, Na ρ n = some τ → Wc ρ n + τ.size ≤ ρ.size
 | .p x y, τ, 0, h => by simp [Na] at h; subst h; simp [Wc, Ty.size]
 | .p x y, τ, n + 1, h => by
  have := Ks (ρ := y) (n := n) h
  simp [Wc, Ty.size]; omega
 | .i _, _, _, h => by simp [Na] at h
 | .b, _, _, h => by simp [Na] at h
 | .o, _, _, h => by simp [Na] at h
 | .mp _ _, _, _, h => by simp [Na] at h
 | .s, _, _, h => by simp [Na] at h
 | .sl _, _, _, h => by simp [Na] at h
 | .u, _, _, h => by simp [Na] at h
theorem Ai : ∀ {p : List Nat} {ρ τ : Ty}, Ze ρ p = some τ → Hb ρ p + τ.size ≤ ρ.size
 | [], ρ, τ, h => by simp [Ze] at h; subst h; simp [Hb]
 | f :: p, ρ, τ, h => by
  simp only [Ze] at h
  cases hf : Na ρ f with
  | none => simp [hf] at h
  | some τ' =>
   simp only [hf, jb] at h
   have h1 := Ks hf
   have h2 := Ai (p := p) h
   simp [Hb, hf]; omega
theorem Ab.field : ∀ {n : Nat} {ρ τ : Ty} {d e : D} {cs : List Value}, Bb ρ d → Na ρ n = some τ → d.field n = some e → Ab w O hp σ d cs →
 Bb τ e ∧ Ab w O hp σ e ((cs.drop (Wc ρ n)).take τ.size)
 | 0, .p x y, τ, d, e, cs, hs, ht, he, h => by
  simp only [Na, jc] at ht
  subst ht
  obtain ⟨a, b, ha, hb, h1, h2⟩ := hs.p
  simp only [D.field, ha, jc] at he
  subst he
  exact ⟨h1, by simpa [Wc] using (Ab.p hs ha hb h).1⟩
 | n + 1, .p x y, τ, d, e, cs, hs, ht, he, h => by
  obtain ⟨a, b, ha, hb, h1, h2⟩ := hs.p
  simp only [D.field, hb] at he
  have := Ab.field h2 (show Na y n = some τ from ht) he (Ab.p hs ha hb h).2
  simpa [Wc, qq, Nat.add_comm] using this
 | 0, .i _, _, _, _, _, _, ht, _, _ => by simp [Na] at ht
 | 0, .b, _, _, _, _, _, ht, _, _ => by simp [Na] at ht
 | 0, .o, _, _, _, _, _, ht, _, _ => by simp [Na] at ht
 | 0, .s, _, _, _, _, _, ht, _, _ => by simp [Na] at ht
 | 0, .sl _, _, _, _, _, _, ht, _, _ => by simp [Na] at ht
 | 0, .u, _, _, _, _, _, ht, _, _ => by simp [Na] at ht
 | n + 1, .i _, _, _, _, _, _, ht, _, _ => by simp [Na] at ht
 | n + 1, .b, _, _, _, _, _, ht, _, _ => by simp [Na] at ht
 | n + 1, .o, _, _, _, _, _, ht, _, _ => by simp [Na] at ht
 | n + 1, .s, _, _, _, _, _, ht, _, _ => by simp [Na] at ht
 | n + 1, .sl _, _, _, _, _, _, ht, _, _ => by simp [Na] at ht
 | n + 1, .u, _, _, _, _, _, ht, _, _ => by simp [Na] at ht
theorem Ab.at : ∀ {p : List Nat} {ρ τ : Ty} {d e : D} {cs : List Value}, Bb ρ d → Ze ρ p = some τ → d.at p = some e → Ab w O hp σ d cs →
 Bb τ e ∧ Ab w O hp σ e ((cs.drop (Hb ρ p)).take τ.size)
 | [], ρ, τ, d, e, cs, hs, ht, he, h => by
  simp only [Ze, jc] at ht
  subst ht
  simp only [D.at, jc] at he
  subst he
  have := Ab.length hs h
  exact ⟨hs, by simpa [Hb, ← this] using h⟩
 | f :: p, ρ, τ, d, e, cs, hs, ht, he, h => by
  simp only [Ze] at ht
  cases hf : Na ρ f with
  | none => simp [hf] at ht
  | some τ' =>
   simp only [hf, jb] at ht
   simp only [D.at] at he
   cases hd : d.field f with
   | none => simp [hd] at he
   | some x =>
    simp only [hd] at he
    obtain ⟨s1, r1⟩ := Ab.field hs hf hd h
    obtain ⟨s2, r2⟩ := Ab.at s1 ht he r1
    refine ⟨s2, ?_⟩
    have hle := Ai ht
    simp only [Hb, hf, qb, qz]
    rw [List.drop_take, List.take_take, qq] at r2
    rwa [Nat.min_eq_left (by omega)] at r2
theorem Qg {cs ce : List Value} {o : Nat} (h : o + ce.length ≤ cs.length) : (Ub cs o ce).length = cs.length := by
 simp [Ub]; omega
theorem Ji {cs ce : List Value} {o : Nat} (h : o + ce.length ≤ cs.length) (j : Nat) :
 (Ub cs o ce)[j]? = if j < o then cs[j]? else if j < o + ce.length then ce[j - o]? else cs[j]? := by
 unfold Ub
 by_cases h1 : j < o
 ·rw [if_pos h1, q0, List.getElem?_append_left (by simp; omega), List.getElem?_take, if_pos h1]
 ·rw [if_neg h1]
  by_cases h2 : j < o + ce.length
  ·rw [if_pos h2, List.getElem?_append_left (by simp; omega), List.getElem?_append_right (by simp; omega)]
   congr 1
   simp
   omega
  ·rw [if_neg h2, List.getElem?_append_right (by simp; omega), List.getElem?_drop]
   congr 1
   simp
   omega
theorem Uz {c1 c2 ce : List Value} {o : Nat} : Ub (c1 ++ c2) (c1.length + o) ce = c1 ++ Ub c2 o ce := by
 unfold Ub
 rw [List.take_append, List.drop_append]
 simp [List.take_of_length_le, jt]
theorem U0 {cs ce : List Value} {o o' n : Nat} (h1 : o + n ≤ cs.length) (h2 : o' + ce.length ≤ n) :
 Ub cs o (Ub ((cs.drop o).take n) o' ce) = Ub cs (o + o') ce := by
 have hl : ((cs.drop o).take n).length = n := by simp; omega
 have hl2 : (Ub ((cs.drop o).take n) o' ce).length = n := by rw [Qg (by omega), hl]
 apply qp
 intro j
 rw [Ji (cs := cs) (ce := ce) (o := o + o') (by omega), Ji (cs := cs) (o := o) (by omega), hl2]
 split
 ·rw [if_pos (by omega)]
 ·split
  ·rw [Ji (by omega)]
   split
   ·rw [if_pos (by omega), List.getElem?_take, if_pos (by omega), List.getElem?_drop]; congr 1; omega
   ·split
    ·rw [if_neg (by omega), if_pos (by omega)]; congr 1; omega
    ·rw [if_neg (by omega), if_neg (by omega), List.getElem?_take, if_pos (by omega), List.getElem?_drop]; congr 1; omega
  ·rw [if_neg (by omega), if_neg (by omega)]
theorem Ab.setField : ∀ {n : Nat} {ρ τ : Ty} {d e d' : D} {cs ce : List Value}, Bb ρ d → Na ρ n = some τ → Bb τ e → d.setField n e = some d' →
 Bb ρ d' ∧ (Ab w O hp σ d cs → Ab w O hp σ e ce → Ab w O hp σ d' (Ub cs (Wc ρ n) ce))
 | 0, .p x y, τ, d, e, d', cs, ce, hs, ht, hse, he => by
  simp only [Na, jc] at ht
  subst ht
  obtain ⟨a, b, ha, hb, h1, h2⟩ := hs.p
  simp only [D.setField, hb, jc] at he
  subst he
  refine ⟨hse.mkpr h2, fun h hre => ?_⟩
  have := Ab.mkpr hre (Ab.p hs ha hb h).2
  rw [← Ab.length hse hre] at this
  simpa [Ub, Wc] using this
 | n + 1, .p x y, τ, d, e, d', cs, ce, hs, ht, hse, he => by
  obtain ⟨a, b, ha, hb, h1, h2⟩ := hs.p
  simp only [D.setField, ha, hb] at he
  cases hb' : b.setField n e with
  | none => simp [hb'] at he
  | some b' =>
   simp only [hb', jc] at he
   subst he
   have ih := fun cs => Ab.setField (cs := cs) (ce := ce) h2 (show Na y n = some τ from ht) hse hb'
   refine ⟨h1.mkpr (ih []).1, fun h hre => ?_⟩
   obtain ⟨r1, r2⟩ := Ab.p hs ha hb h
   have := Ab.mkpr r1 ((ih _).2 r2 hre)
   have hl := Ab.length h1 r1
   rw [← Uz, hl, List.take_append_drop] at this
   exact this
 | n, .i _, _, _, _, _, _, _, _, ht, _, _ => by cases n <;> simp [Na] at ht
 | n, .b, _, _, _, _, _, _, _, ht, _, _ => by cases n <;> simp [Na] at ht
 | n, .o, _, _, _, _, _, _, _, ht, _, _ => by cases n <;> simp [Na] at ht
 | n, .s, _, _, _, _, _, _, _, ht, _, _ => by cases n <;> simp [Na] at ht
 | n, .sl _, _, _, _, _, _, _, _, ht, _, _ => by cases n <;> simp [Na] at ht
 | n, .u, _, _, _, _, _, _, _, ht, _, _ => by cases n <;> simp [Na] at ht
theorem Bb.field : ∀ {n : Nat} {ρ τ : Ty} {d e : D}, Bb ρ d → Na ρ n = some τ → d.field n = some e → Bb τ e
 | 0, .p x y, τ, d, e, hs, ht, he => by
  simp only [Na, jc] at ht
  subst ht
  obtain ⟨a, b, ha, hb, h1, h2⟩ := hs.p
  simp only [D.field, ha, jc] at he
  subst he
  exact h1
 | n + 1, .p x y, τ, d, e, hs, ht, he => by
  obtain ⟨a, b, ha, hb, h1, h2⟩ := hs.p
  simp only [D.field, hb] at he
  exact Bb.field h2 (show Na y n = some τ from ht) he
 | n, .i _, _, _, _, _, ht, _ => by cases n <;> simp [Na] at ht
 | n, .b, _, _, _, _, ht, _ => by cases n <;> simp [Na] at ht
 | n, .o, _, _, _, _, ht, _ => by cases n <;> simp [Na] at ht
 | n, .s, _, _, _, _, ht, _ => by cases n <;> simp [Na] at ht
 | n, .sl _, _, _, _, _, ht, _ => by cases n <;> simp [Na] at ht
 | n, .u, _, _, _, _, ht, _ => by cases n <;> simp [Na] at ht
theorem Bb.at : ∀ {p : List Nat} {ρ τ : Ty} {d e : D}, Bb ρ d → Ze ρ p = some τ → d.at p = some e → Bb τ e
 | [], ρ, τ, d, e, hs, ht, he => by
  simp only [Ze, jc] at ht
  subst ht
  simp only [D.at, jc] at he
  subst he
  exact hs
 | f :: p, ρ, τ, d, e, hs, ht, he => by
  simp only [Ze] at ht
  cases hf : Na ρ f with
  | none => simp [hf] at ht
  | some τ' =>
   simp only [hf, jb] at ht
   simp only [D.at] at he
   cases hd : d.field f with
   | none => simp [hd] at he
   | some x =>
    simp only [hd] at he
    exact Bb.at (Bb.field hs hf hd) ht he
theorem Ab.setAt : ∀ {p : List Nat} {ρ τ : Ty} {d e d' : D} {cs ce : List Value}, Bb ρ d → Ze ρ p = some τ → Bb τ e → d.setAt p e = some d' →
 Bb ρ d' ∧ (Ab w O hp σ d cs → Ab w O hp σ e ce → Ab w O hp σ d' (Ub cs (Hb ρ p) ce))
 | [], ρ, τ, d, e, d', cs, ce, hs, ht, hse, he => by
  simp only [Ze, jc] at ht
  subst ht
  simp only [D.setAt, jc] at he
  subst he
  refine ⟨hse, fun h hre => ?_⟩
  have e1 := Ab.length hs h
  have e2 := Ab.length hse hre
  have : cs.drop ce.length = [] := List.drop_eq_nil_of_le (by omega)
  simpa [Ub, Hb, this] using hre
 | f :: p, ρ, τ, d, e, d', cs, ce, hs, ht, hse, he => by
  simp only [Ze] at ht
  cases hf : Na ρ f with
  | none => simp [hf] at ht
  | some τ' =>
   simp only [hf, jb] at ht
   simp only [D.setAt] at he
   cases hd : d.field f with
   | none => simp [hd] at he
   | some x =>
    simp only [hd] at he
    cases hx : x.setAt p e with
    | none => simp [hx] at he
    | some x' =>
     simp only [hx] at he
     have hsx : Bb τ' x := Bb.field hs hf hd
     have ih := fun cs => Ab.setAt (cs := cs) (ce := ce) hsx ht hse hx
     have hf' := fun ce => Ab.setField (w := w) (O := O) (hp := hp) (σ := σ) (cs := cs) (ce := ce) hs hf (ih []).1 he
     refine ⟨(hf' []).1, fun h hre => ?_⟩
     obtain ⟨_, r1⟩ := Ab.field hs hf hd h
     have := (hf' _).2 h ((ih _).2 r1 hre)
     have hle := Ai ht
     have hle2 := Ks hf
     have e1 := Ab.length hs h
     have e2 := Ab.length hse hre
     rw [U0 (by omega) (by omega)] at this
     simpa [Hb, hf] using this
end
def Ty.zc : Ty → List Value
 | .i k => [.int k 0]
 | .b => [.bool false]
 | .o => [.slice none 0 0]
 | .mp _ _ => [.map none]
 | .s => [.string ⟨#[]⟩]
 | .sl _ => [.slice none 0 0]
 | .u => []
 | .p x y => x.zc ++ y.zc
def Eae : Value → Value → Bool
 | .int k n, .int k' n' => k == k' && n == n'
 | .bool a, .bool b => a == b
 | .string a, .string b => a.size == 0 && b.size == 0
 | .slice none 0 0, .slice none 0 0 => true
 | .map none, .map none => true
 | _, _ => false
def PE : List Value → List Value → Bool
 | [], [] => true
 | a :: r, b :: q => Eae a b && PE r q
 | _, _ => false
theorem Eal {a b : Value} (h : Eae a b = true) : a = b := by
 unfold Eae at h
 split at h
 ·simp at h; rw [h.1, h.2]
 ·simp at h; rw [h]
 ·simp at h
  rw [h.1, h.2]
 ·rfl
 ·rfl
 ·simp at h
theorem HJ : ∀ {a b : List Value}, PE a b = true → a = b
 | [], [], _ => rfl
 | a :: r, b :: q, h => by
  simp only [PE, jd] at h
  rw [Eal h.1, HJ h.2]
 | [], _ :: _, h => by simp [PE] at h
 | _ :: _, [], h => by simp [PE] at h
def XD (P : Program) (t : TypeId) (τ : Ty) : Bool :=
 match P.info? t with
 | some i => qw i.size τ.size && jx i.bytes 65536 && (match i.zero with
  | some (.agg cs) => τ.isAgg && PE cs.toList τ.zc
  | some z => !τ.isAgg && PE [z] τ.zc
  | none => false)
 | none => false
mutual
def Nd (P : Program) : Ty → TypeId → Bool
 | .i k, t => XD P t (.i k) && (match P.underlying t with | some (.int k') => k == k' | _ => false)
 | .b, t => XD P t .b && (match P.underlying t with | some .bool => true | _ => false)
 | .o, t => XD P t .o && (match P.underlying t with | some (.slice _) => true | _ => false)
 | .mp k v, t => XD P t (.mp k v) && (match P.underlying t with | some (.map kt et) => Nd P k kt && Nd P v et | _ => false)
 | .s, t => XD P t .s && (match P.underlying t with | some .string => true | _ => false)
 | .sl e, t => XD P t (.sl e) && (match P.underlying t with | some (.slice et) => Nd P e et | _ => false)
 | .u, t => XD P t .u && !P.stoodInHeld t && (match P.underlying t with | some (.struct fs) => qw fs.size 0 | _ => false)
 | .p x y, t => XD P t (.p x y) && (!P.stoodInHeld t && (!(x.cmp && y.cmp) || !P.eqGuardType P.depth t)) && (match P.underlying t with
  | some (.struct fs) => match fs.toList with
   | f :: r => qw f.offset 0 && f.name != "_" && Nd P x f.type && Vf P y r x.size
   | [] => false
  | _ => false)
def Vf (P : Program) : Ty → List Field → Nat → Bool
 | .u, [], _ => true
 | .p x y, f :: r, o => qw f.offset o && f.name != "_" && Nd P x f.type && Vf P y r (o + x.size)
 | _, _, _ => false
end
variable {P : Program}
theorem Tok.info {τ : Ty} {t : TypeId} (h : Nd P τ t = true) : XD P t τ = true := by
 cases τ <;> simp only [Nd, jd] at h <;> first | exact h.1 | exact h.1.1
theorem Tok.size {τ : Ty} {t : TypeId} (h : Nd P τ t = true) : ∃ i, P.info? t = some i ∧ i.size = τ.size ∧ i.bytes ≤ 65536 ∧ i.zero = some (Od τ τ.zc) := by
 have h := Tok.info h
 unfold XD at h
 split at h
 ·rename_i i hi
  simp only [jd] at h
  obtain ⟨⟨h1, h2⟩, h3⟩ := h
  refine ⟨i, hi, ju h1, q6 h2, ?_⟩
  split at h3
  ·rename_i cs hz
   simp only [jd] at h3
   rw [hz, Od, if_pos h3.1, ← HJ h3.2]
  ·rename_i z _ hz
   simp only [jd] at h3
   have : τ.isAgg = false := by simpa using h3.1
   rw [hz, Od, this, ← HJ h3.2]
   rfl
  ·simp at h3
 ·simp at h
theorem Tok.i {k : IntKind} {t : TypeId} (h : Nd P (.i k) t = true) : P.underlying t = some (.int k) := by
 simp only [Nd, jd] at h
 obtain ⟨_, h⟩ := h
 split at h
 ·rename_i k' hk; simp at h; rw [hk, h]
 ·simp at h
theorem Tok.b {t : TypeId} (h : Nd P .b t = true) : P.underlying t = some .bool := by
 simp only [Nd, jd] at h
 obtain ⟨_, h⟩ := h
 split at h
 ·assumption
 ·simp at h
theorem Tok.s {t : TypeId} (h : Nd P .s t = true) : P.underlying t = some .string := by
 simp only [Nd, jd] at h
 obtain ⟨_, h⟩ := h
 split at h
 ·assumption
 ·simp at h
theorem Tok.sl {e : Ty} {t : TypeId} (h : Nd P (.sl e) t = true) : ∃ et, P.underlying t = some (.slice et) ∧ Nd P e et = true := by
 simp only [Nd, jd] at h
 obtain ⟨_, h⟩ := h
 split at h
 ·rename_i et he; exact ⟨et, he, h⟩
 ·simp at h
theorem Tok.o {t : TypeId} (h : Nd P .o t = true) : ∃ et, P.underlying t = some (.slice et) := by
 simp only [Nd, jd] at h
 obtain ⟨_, h⟩ := h
 split at h
 ·rename_i et he; exact ⟨et, he⟩
 ·simp at h
theorem Fok.field : ∀ {τ τf : Ty} {fs : List Field} {o n : Nat}, Vf P τ fs o = true → Na τ n = some τf →
 ∃ f, fs[n]? = some f ∧ f.offset = o + Wc τ n ∧ Nd P τf f.type = true
 | .p x y, τf, f :: r, o, 0, h, ht => by
  simp only [Vf, jd] at h
  simp only [Na, jc] at ht
  subst ht
  exact ⟨f, rfl, by simpa [Wc] using ju h.1.1.1, h.1.2⟩
 | .p x y, τf, f :: r, o, n + 1, h, ht => by
  simp only [Vf, jd] at h
  obtain ⟨f', h1, h2, h3⟩ := Fok.field h.2 (show Na y n = some τf from ht)
  exact ⟨f', by simpa using h1, by simp only [Wc]; omega, h3⟩
 | .p x y, _, [], _, _, h, _ => by simp [Vf] at h
 | .i _, _, _, _, _, _, ht => by simp [Na] at ht
 | .b, _, _, _, _, _, ht => by simp [Na] at ht
 | .o, _, _, _, _, _, ht => by simp [Na] at ht
 | .mp _ _, _, _, _, _, _, ht => by simp [Na] at ht
 | .s, _, _, _, _, _, ht => by simp [Na] at ht
 | .sl _, _, _, _, _, _, ht => by simp [Na] at ht
 | .u, _, _, _, _, _, ht => by simp [Na] at ht
theorem Tok.struct {τ : Ty} {t : TypeId} (ha : τ.isAgg = true) (h : Nd P τ t = true) : ∃ fs, P.underlying t = some (.struct fs) ∧ Vf P τ fs.toList 0 = true := by
 cases τ with
 | p x y =>
  simp only [Nd, jd] at h
  obtain ⟨_, h⟩ := h
  split at h
  ·rename_i fs hfs
   refine ⟨fs, hfs, ?_⟩
   split at h
   ·rename_i f r hr
    rw [hr]
    simpa [Vf, js] using h
   ·simp at h
  ·simp at h
 | u =>
  simp only [Nd, jd] at h
  obtain ⟨_, h⟩ := h
  split at h
  ·rename_i fs hfs
   refine ⟨fs, hfs, ?_⟩
   have : fs.toList = [] := by
    have := ju h
    exact q7 (by simpa using this)
   rw [this]; rfl
  ·simp at h
 | _ => simp [Ty.isAgg] at ha
theorem Tok.mp {k v : Ty} {t : TypeId} (h : Nd P (.mp k v) t = true) : ∃ kt et, P.underlying t = some (.map kt et) ∧ Nd P k kt = true ∧ Nd P v et = true := by
 simp only [Nd, jd] at h
 obtain ⟨_, h⟩ := h
 split at h
 ·rename_i kt et he
  simp only [jd] at h
  exact ⟨kt, et, he, h.1, h.2⟩
 ·simp at h
theorem Tok.isAgg {τ : Ty} {t : TypeId} (h : Nd P τ t = true) (w : World) : (Go.isAgg t).run P w = .ok τ.isAgg w := by
 unfold Go.isAgg
 cases hτ : τ with
 | i k => subst hτ; simp [run_underlying (Tok.i h), Ty.isAgg]
 | b => subst hτ; simp [run_underlying (Tok.b h), Ty.isAgg]
 | o => subst hτ; obtain ⟨et, he⟩ := Tok.o h; simp [run_underlying he, Ty.isAgg]
 | mp k v => subst hτ; obtain ⟨kt, et, he, _⟩ := Tok.mp h; simp [run_underlying he, Ty.isAgg]
 | s => subst hτ; simp [run_underlying (Tok.s h), Ty.isAgg]
 | sl e => subst hτ; obtain ⟨et, he, _⟩ := Tok.sl h; simp [run_underlying he, Ty.isAgg]
 | u => subst hτ; obtain ⟨fs, he, _⟩ := Tok.struct rfl h; simp [run_underlying he, Ty.isAgg]
 | p x y => subst hτ; obtain ⟨fs, he, _⟩ := Tok.struct rfl h; simp [run_underlying he, Ty.isAgg]
theorem Tok.sizeOf {τ : Ty} {t : TypeId} (h : Nd P τ t = true) (w : World) : (Go.sizeOf t).run P w = .ok τ.size w := by
 obtain ⟨i, hi, hs, _⟩ := Tok.size h
 simp [Go.sizeOf, typeInfo, hi, hs]
theorem Tok.zero {τ : Ty} {t : TypeId} (h : Nd P τ t = true) (w : World) : (zeroValue t).run P w = .ok (Od τ τ.zc) w := by
 obtain ⟨i, hi, _, _, hz⟩ := Tok.size h
 simp [zeroValue, typeInfo, hi, hz]
theorem Ln (b o n : Nat) : (⟨b, o, none⟩ : Addr).add n = ⟨b, o + n, none⟩ := by unfold Addr.add; split <;> simp_all
theorem Ty.size_one {τ : Ty} (h : τ.isAgg = false) : τ.size = 1 := by cases τ <;> simp_all [Ty.isAgg, Ty.size]
theorem Ps {τ : Ty} {t : TypeId} (h : Nd P τ t = true) {w : World} {b off : Nat} {cur : Array Value} {et : TypeId} {fr : Nat × Nat}
 (hh : w.heap[b]? = some (.cells cur et fr)) (hs : off + τ.size ≤ cur.size) : (loadVar t ⟨b, off, none⟩).run P w = .ok (Od τ (Fd cur off τ.size)) w := by
 unfold loadVar
 rw [qo, Tok.isAgg h w]
 have hcell : ∀ j v, (Fd cur off τ.size)[j]? = some v → w.cell? ((⟨b, off, none⟩ : Addr).add j) = some v := by
  intro j v hv
  rw [Ln, cell_of_row w b (off + j) cur et fr hh]
  have hj : j < τ.size := by
   have := (q8.1 hv).1
   rw [Id hs] at this; exact this
  rw [Cf cur off τ.size j hj] at hv
  exact hv
 cases ha : τ.isAgg with
 | true =>
  have hl := run_loadCells_list (P := P) w ⟨b, off, none⟩ (Fd cur off τ.size) hcell
  rw [Id hs] at hl
  simp [Tok.sizeOf h w, hl, Od, ha]
 | false =>
  have h1 := Ty.size_one ha
  have hl := Id hs
  rw [h1] at hl
  obtain ⟨v, hv⟩ := q9.1 hl
  have := hcell 0 v (by rw [h1, hv]; rfl)
  rw [Ln, ya] at this
  simp [run_load, this, Od, ha, h1, hv]
theorem Sz {τ : Ty} {t : TypeId} (h : Nd P τ t = true) {w : World} {b off : Nat} {cur : Array Value} {et : TypeId} {v : Value}
 (hh : w.heap[b]? = some (.cells cur et (0, 0))) (hs : off + τ.size ≤ cur.size) (hv : v.cells.toList.length = τ.size) (h1 : ∀ x ∈ v.cells.toList, x.oneCell' = true) :
 (storeVar t ⟨b, off, none⟩ v).run P w = .ok () (w.setRow b (Ub cur.toList off v.cells.toList).toArray) := by
 unfold storeVar
 have hv' : v.cells.size = τ.size := by simpa using hv
 have := run_storeCells_at P b off et v.cells.toList 0 cur w hh (by rw [hv]; simpa using hs) h1
 simp only [ya] at this
 simp [Tok.sizeOf h w, hv', this, Ub]
def Oa : Nat := 1073741824
def Hc {α : Type} (xs : List α) (i : Int) : Option α := bif decide (0 ≤ i) then xs[i.toNat]? else none
def Qd (n : Nat) (i : Int) : Bool := decide (0 ≤ i) && decide (i < n)
def Ke (k : IntKind) (x y : Int) : Int := k.wrap (x * 2 ^ (min y.toNat k.bits))
def Bu (k : IntKind) (x y : Int) : Int := x.fdiv (2 ^ (min y.toNat k.bits))
def Cl (k : IntKind) (x y : Int) : Int := k.wrap (BitVec.ofInt k.bits x &&& BitVec.ofInt k.bits y).toNat
def Xe (k : IntKind) (x y : Int) : Int := k.wrap (BitVec.ofInt k.bits x ||| BitVec.ofInt k.bits y).toNat
def Yn (k : IntKind) (x y : Int) : Int := k.wrap (BitVec.ofInt k.bits x ^^^ BitVec.ofInt k.bits y).toNat
def Sk (k : IntKind) (x y : Int) : Int := k.wrap (BitVec.ofInt k.bits x &&& ~~~ BitVec.ofInt k.bits y).toNat
def Xa {α : Type} (xs : List α) (lo hi : Nat) : List α := (xs.take hi).drop lo
def Jd (n : Nat) (lo hi : Int) : Bool := decide (0 ≤ lo) && (decide (lo ≤ hi) && decide (hi ≤ n))
def Yc (s : List UInt8) : List Int := s.map fun c => (c.toNat : Int)
def Po (b : List Int) : List UInt8 := b.map fun n => UInt8.ofNat n.toNat
def Iv : (τ : Ty) → T τ → T τ → Bool
 | .i _, x, y => (show Int from x) == y
 | .b, x, y => (show Bool from x) == y
 | .o, _, _ => false
 | .mp _ _, _, _ => false
 | .s, x, y => (show List UInt8 from x) == y
 | .sl _, _, _ => false
 | .u, _, _ => true
 | .p a c, x, y => Iv a x.1 y.1 && Iv c x.2 y.2
def zT : (τ : Ty) → T τ
 | .i _ => (0 : Int)
 | .b => false
 | .o => ((none, 0, 0) : Option Addr × Nat × Nat)
 | .mp k v => ([] : List (T k × T v))
 | .s => ([] : List UInt8)
 | .sl e => ([] : List (T e))
 | .u => ()
 | .p x y => (zT x, zT y)
def zD : Ty → D
 | .sl _ => .nil
 | .u => .un
 | .p x y => mkpr (zD x) (zD y)
 | τ => .t τ (zT τ)
def Uc : Ty → D → Bool
 | τ, .t τ' _ => (Ty.dec τ' τ).isSome
 | .sl _, .nil => true
 | .sl _, .own _ => true
 | .p x y, .pr a b => Uc x a && Uc y b
 | .u, .un => true
 | _, _ => false
def Bj : (d : D) → (τ : Ty) → Option (T τ)
 | .t τ' x, τ => match Ty.dec τ' τ with
  | some ⟨h⟩ => some (h ▸ x)
  | none => none
 | .nil, .sl e => some ([] : List (T e))
 | .pr a b, .p x y => match Bj a x, Bj b y with
  | some u, some v => some (u, v)
  | _, _ => none
 | .un, .u => some ()
 | _, _ => none
def Va (s : AS) : (d : D) → (τ : Ty) → Option (T τ)
 | .t τ' x, τ => match Ty.dec τ' τ with
  | some ⟨h⟩ => some (h ▸ x)
  | none => none
 | .nil, .sl e => some ([] : List (T e))
 | .own id, .sl e => match s.heap id with
  | some (.row e' _ xs) => match Ty.dec e' e with
   | some ⟨h⟩ => some (h ▸ xs)
   | none => none
  | some (.fz e' xs) => match Ty.dec e' e with
   | some ⟨h⟩ => some (h ▸ xs)
   | none => none
  | _ => none
 | .cut id lo hi, .sl e => match s.heap id with
  | some (.row e' _ xs) => match Ty.dec e' e with
   | some ⟨h⟩ => some (h ▸ (Xa xs lo hi : List (T e')))
   | none => none
  | _ => none
 | .pr a b, .p x y => match Va s a x, Va s b y with
  | some u, some v => some (u, v)
  | _, _ => none
 | .un, .u => some ()
 | _, _ => none
def Pb (s : AS) : (d : D) → (τ : Ty) → Option (T τ × List Nat)
 | .t τ' x, τ => bif τ'.flat then match Ty.dec τ' τ with
  | some ⟨h⟩ => some (h ▸ x, [])
  | none => none
  else none
 | .nil, .sl e => some (([] : List (T e)), [])
 | .own id, .sl e => match s.heap id with
  | some (.row e' dp xs) => bif dp || e'.flat then match Ty.dec e' e with
   | some ⟨h⟩ => some (h ▸ xs, [id])
   | none => none
   else none
  | _ => none
 | .mpo id, .mp k v => match s.heap id with
  | some (.mx k' v' xs) => match Ty.dec k' k, Ty.dec v' v with
   | some ⟨h⟩, some ⟨g⟩ => some (h ▸ g ▸ xs, [id])
   | _, _ => none
  | _ => none
 | .pr a b, .p x y => match Pb s a x, Pb s b y with
  | some (u, l), some (v, m) => some ((u, v), l ++ m)
  | _, _ => none
 | .un, .u => some ((), [])
 | _, _ => none
def Ty.cnt : Ty → Nat
 | .p x y => x.cnt + y.cnt + 1
 | _ => 1
def D.hasOwn : D → Bool
 | .own _ => true
 | .cut _ _ _ => true
 | .pr a b => a.hasOwn || b.hasOwn
 | _ => false
def Nf : List Nat → Bool
 | [] => true
 | a :: r => !(r.any (qw a)) && Nf r
inductive Ra where
 | pu (pt rt : Ty) (fr : List Bool) (f : T pt → Option (T rt))
 | io (τ pt rt : Ty) (fr : List Bool) (f : T τ → T pt → Option (T τ × T rt))
 | co (pt rt : Ty) (fr : List Bool) (f : T pt → Option (T rt))
 | bx (vw cv : Bool) (τ pt rt : Ty) (fr : List Bool) (f : T τ → T pt → Option (T τ × T rt))
 | nw (pt τ : Ty) (f : T pt → Option (T τ))
structure Ue where
 ty : List (Nat × Ty)
 fn : List (Nat × Ra)
 att : List (Nat × Nat)
 fz : Bool
 ar : List (Nat × Ty × Nat)
 mv : List Nat
 ml : List Nat
def TN : Value → Option D
 | .int k n => some (.t (.i k) n)
 | .bool b => some (.t .b b)
 | .string s => some (.t .s s.data.toList)
 | .slice none 0 0 => some .nil
 | .pointer none => some .anyv
 | .map none => some .anyv
 | _ => none
def AS.ev (s : AS) : Operand → Option D
 | .tmp t => Jb s.tm t
 | .const v => TN v
 | _ => none
def AS.newOk (s : AS) (id : Nat) : Bool := !s.ment id && yb id 500000
section
variable {Out : Type}
def Zg (s : AS) (dst : Option Tmp) (d : D) (upd : List (Nat × Option Ia)) (k : AS → Option Out) : Option Out :=
 match dst with
 | some t => bif yb t s.n then k ⟨s.n, (t, d) :: s.tm, upd ++ s.hp⟩ else none
 | none => k ⟨s.n, s.tm, upd ++ s.hp⟩
def Kc (l : List Nat) : List (Nat × Option Ia) := l.map fun id => (id, none)
def XP (tb : Bool) (op : BinOp) (a b : D) (K : D → List (Nat × Option Ia) → Option Out) : Option Out :=
 match a, b with
 | .t (.i ka) x, .t (.i kb) y =>
  match op with
  | .shl => bif decide (0 ≤ (y : Int)) then K (.t (.i ka) (Ke ka x y)) [] else none
  | .shr => bif decide (0 ≤ (y : Int)) then K (.t (.i ka) (Bu ka x y)) [] else none
  | _ => bif ka == kb then
   match op with
   | .add => K (.t (.i ka) (ka.wrap ((x : Int) + y))) []
   | .sub => K (.t (.i ka) (ka.wrap ((x : Int) - y))) []
   | .mul => K (.t (.i ka) (ka.wrap ((x : Int) * y))) []
   | .quo => bif (y : Int) == 0 then none else K (.t (.i ka) (ka.wrap (Int.tdiv x y))) []
   | .rem => bif (y : Int) == 0 then none else K (.t (.i ka) (yc x y)) []
   | .and => K (.t (.i ka) (Cl ka x y)) []
   | .or => K (.t (.i ka) (Xe ka x y)) []
   | .xor => K (.t (.i ka) (Yn ka x y)) []
   | .andNot => K (.t (.i ka) (Sk ka x y)) []
   | .eql => K (.t .b ((x : Int) == y)) []
   | .neq => K (.t .b ((x : Int) != y)) []
   | .lss => K (.t .b (decide ((x : Int) < y))) []
   | .leq => K (.t .b (decide ((x : Int) ≤ y))) []
   | .gtr => K (.t .b (decide ((x : Int) > y))) []
   | .geq => K (.t .b (decide ((x : Int) ≥ y))) []
   | _ => none
   else none
 | .t .s x, .t .s y =>
  match op with
  | .add => bif jx (ja x + ja y) Oa then K (.t .s (jf x y)) [] else none
  | .eql => K (.t .b ((show List UInt8 from x) == y)) []
  | .neq => K (.t .b ((show List UInt8 from x) != y)) []
  | _ => none
 | .t .b x, .t .b y =>
  match op with
  | .eql => bif tb then K (.t .b ((show Bool from x) == y)) [] else none
  | .neq => bif tb then K (.t .b ((show Bool from x) != y)) [] else none
  | _ => none
 | _, _ => none
def Bat (s : AS) (tb : Bool) (dst : Option Tmp) (op : BinOp) (a b : D) (k : AS → Option Out) : Option Out := XP tb op a b fun d u => Zg s dst d u k
end
section
variable {Out : Type}
def At (s : AS) : List Operand → Option D
 | [] => some .un
 | x :: r => match s.ev x, At s r with
  | some a, some b => some (.pr a b)
  | _, _ => none
def Ie : (τ : Ty) → T τ → Nat → D × List (Nat × Option Ia) × Nat
 | .sl e, xs, n => (.own n, [(n, some (.row e true xs))], n + 1)
 | .u, _, n => (.un, [], n)
 | .mp k v, xs, n => (.mpo n, [(n, some (.mx k v xs))], n + 1)
 | .p x y, v, n => match Ie x v.1 n with
  | (a, l, m) => match Ie y v.2 m with
   | (b, l', m') => (mkpr a b, l ++ l', m')
 | τ, x, n => (.t τ x, [], n)
def Xf : (τ : Ty) → T τ → List Bool → Nat → Option (D × List (Nat × Option Ia) × Nat)
 | .u, _, [], n => some (.un, [], n)
 | .p x y, v, f :: r, n =>
  match (bif f then Ie x v.1 n else (.t x v.1, [], n)) with
  | (a, l, m) => match Xf y v.2 r m with
   | some (b, l', m') => some (.pr a b, l ++ l', m')
   | none => none
 | _, _, _, _ => none
def WH : D → Option D
 | .pr a .un => some a
 | d => some (.tup d)
def FA : D → Nat → Option D
 | .pr a _, 0 => some a
 | .pr _ b, n + 1 => FA b n
 | _, _ => none
def Yd (s : AS) (u : List (Nat × Option Ia)) : Bool := (u.all fun x => s.newOk x.1) && Nf (u.map (·.1))
def QI (s : AS) (τ : Ty) : D → List (Nat × Operand) → Option D
 | d, [] => some d
 | d, (i, x) :: r => match s.ev x, Na τ i with
  | some e, some τ' => bif Uc τ' e then match d.setField i e with
   | some d' => QI s τ d' r
   | none => none
   else none
  | _, _ => none
def QO (s : AS) (e : Ty) : Nat → List (Nat × Operand) → Option (List (T e) × List Nat)
 | _, [] => some ([], [])
 | n, (i, x) :: r => bif qw i n then match s.ev x with
  | some d => match Pb s d e, QO s e (n + 1) r with
   | some (a, l), some (b, m) => some (a :: b, l ++ m)
   | _, _ => none
  | none => none
  else none
def BJ (s : AS) (e : Ty) : Nat → List (Nat × Operand) → Option (List (T e))
 | _, [] => some []
 | n, (i, x) :: r => bif qw i n then match s.ev x with
  | some d => match Bj d e, BJ s e (n + 1) r with
   | some a, some b => some (a :: b)
   | _, _ => none
  | none => none
  else none
def CL (s : AS) : Option Operand → Option Int
 | none => some 0
 | some x => match s.ev x with
  | some (.t (.i _) n) => some n
  | _ => none
def DO (s : AS) (len : Nat) : Option Operand → Option Int
 | none => some (len : Int)
 | some x => match s.ev x with
  | some (.t (.i _) n) => some n
  | _ => none
def EI (s : AS) (e : Ty) : D → Option (List (T e) × Bool × List Nat)
 | .nil => some ([], true, [])
 | .t (.sl e') ys => match Ty.dec e' e with
  | some ⟨h⟩ => some (h ▸ ys, e.flat, [])
  | none => none
 | .t .s y => match Ty.dec (.i .u8) e with
  | some ⟨h⟩ => some (h ▸ Yc y, true, [])
  | none => none
 | .own id => match s.heap id with
  | some (.row e' dp ys) => match Ty.dec e' e with
   | some ⟨h⟩ => some (h ▸ ys, dp || e.flat, bif e.flat then [] else [id])
   | none => none
  | _ => none
 | .cut id lo hi => match s.heap id with
  | some (.row e' dp ys) => match Ty.dec e' e with
   | some ⟨h⟩ => bif e.flat || !dp then some ((Xa (h ▸ ys : List (T e)) lo hi), e.flat, []) else none
   | none => none
  | _ => none
 | _ => none
def GS (s : AS) (e : Ty) : D → Option (List (T e) × Option Bool × List Nat)
 | .nil => some ([], none, [])
 | .own id => match s.heap id with
  | some (.row e' dp ys) => match Ty.dec e' e with
   | some ⟨h⟩ => some (h ▸ ys, some (dp || e.flat), [id])
   | none => none
  | _ => none
 | .cut id lo hi => match s.heap id with
  | some (.row e' dp ys) => match Ty.dec e' e with
   | some ⟨h⟩ => bif e.flat || !dp then some ((Xa (h ▸ ys : List (T e)) lo hi), some e.flat, [id]) else none
   | none => none
  | _ => none
 | _ => none
def D.ids : D → List Nat
 | .own j | .mpo j | .ptr j _ | .eptr j _ _ | .cut j _ _ => [j]
 | .pr a b => a.ids ++ b.ids
 | .tup d => d.ids
 | _ => []
def D.owns : D → List Nat
 | .own j => [j]
 | .pr a b => a.owns ++ b.owns
 | _ => []
def D.noCut : D → Bool
 | .cut _ _ _ => false
 | .pr a b => a.noCut && b.noCut
 | _ => true
def Ly (l : List Nat) (x : Nat) : Bool := l.any (qw x)
def FJ (l m : List Nat) : Bool := l.any (Ly m)
def AC (l : List (Nat × Nat)) : Bool := l.any fun p => qw p.1 999999999
def cmB (l : List (Nat × Nat)) : Bool := l.any fun p => qw p.1 999999998
def AS.boxLive (s : AS) : Bool := match s.heap 500000 with
 | some (.box _ _) => true
 | _ => false
def ID : (d : D) → (τ : Ty) → T τ → List (Nat × Option Ia)
 | .own id, .sl e, xs => [(id, some (.row e true xs))]
 | .mpo id, .mp k v, xs => [(id, some (.mx k v xs))]
 | .pr a b, .p x y, v => ID a x v.1 ++ ID b y v.2
 | _, _, _ => []
def BE (G : Ue) (s : AS) (dst : Option Tmp) (f : FuncId) (args : List Operand) (K : D → List (Nat × Option Ia) → Option Out) : Option Out :=
 match Jb G.fn f with
 | some (.pu pt rt fr f) => match At s args with
  | some ds => match Va s ds pt with
   | some x => jz (f x) fun r => match Xf rt r fr (100000 + 64 * dst.getD 0) with
    | some (d, u, m) => match WH d with
     | some d' => bif jx m (100064 + 64 * dst.getD 0) && Yd s u && ((!ds.hasOwn || fr.all id) || ((G.fz && !AC G.att) && ds.noCut)) then K d' (u ++ bif !ds.hasOwn || fr.all id then [] else Kc ds.owns) else none
     | none => none
    | none => none
   | none => none
  | none => none
 | some (.io τ pt rt fr f) => match args with
  | a0 :: args => match s.ev a0, At s args with
   | some d0, some ds => match Pb s d0 τ, Va s ds pt with
    | some (x0, l), some x => jz (f x0 x) fun r => match Xf rt r.2 fr (100000 + 64 * dst.getD 0) with
     | some (d, u, m) => match WH d with
      | some d' => bif jx m (100064 + 64 * dst.getD 0) && Yd s u && Nf l && !ds.hasOwn then K d' (u ++ ID d0 τ r.1) else none
      | none => none
     | none => none
    | _, _ => none
   | _, _ => none
  | [] => none
 | some (.co pt rt fr f) => match At s args with
  | some ds => match Pb s ds pt with
   | some (x, l) => jz (f x) fun r => match Xf rt r fr (100000 + 64 * dst.getD 0) with
    | some (d, u, m) => match WH d with
     | some d' => bif jx m (100064 + 64 * dst.getD 0) && Yd s u && Nf l && (fr.all id || (G.fz && !AC G.att)) then K d' (u ++ Kc l) else none
     | none => none
    | none => none
   | none => none
  | none => none
 | some (.bx vw cv τ pt rt fr f) => match args with
  | a0 :: args => match s.ev a0, At s args with
   | some (.ptr bid []), some ds => match s.heap bid with
    | some (.box τ' d0) => match Ty.dec τ' τ, (bif vw then (match Bj d0 τ with
     | some x => some (x, [])
     | none => none) else Pb s d0 τ), (bif cv then Pb s ds pt else match Va s ds pt with
     | some x => some (x, [])
     | none => none) with
     | some _, some (x0, l), some (x, l2) => jz (f x0 x) fun r => match Xf rt r.2 fr (100000 + 64 * dst.getD 0) with
      | some (d, u, m) => match WH d, (bif vw then (D.t τ r.1, [], m) else Ie τ r.1 m) with
       | some d', (e, v, m') => bif jx m' (100064 + 64 * dst.getD 0) && Yd s (u ++ v) && Nf (bid :: (l ++ l2)) && (cv || !ds.hasOwn) then K d' (u ++ (v ++ ((bid, some (.box τ e)) :: Kc (l ++ l2)))) else none
       | none, _ => none
      | none => none
     | _, _, _ => none
    | _ => none
   | _, _ => none
  | [] => none
 | some (.nw pt τ f) => match dst, At s args with
  | some tt, some ds => match Va s ds pt with
   | some x => jz (f x) fun r => bif s.newOk tt && !ds.hasOwn then K (.ptr tt []) [(tt, some (.box τ (.t τ r)))] else none
   | none => none
  | _, _ => none
 | none => none
def OG : Option Ty → Bool
 | some (.sl _) | some .s => true
 | _ => false
def Dw (G : Ue) (s : AS) (dst : Option Tmp) (t tx : TypeId) (a b : Operand) (K : D → List (Nat × Option Ia) → Option Out) : Option Out :=
 match dst, Jb G.ty t, s.ev a, s.ev b with
 | some tt, some (.sl e), some da, some db => match GS s e da, EI s e db with
  | some (xs, dp, l), some (ys, dq, m) =>
   bif (dp.getD dq == dq) && s.newOk tt && Nf (l ++ m) && OG (Jb G.ty tx) then
    bif jx (ja xs + ja ys) Oa then
     K (.own tt) ((tt, some (.row e dq (jf xs ys))) :: Kc (l ++ m))
    else none
   else none
  | _, _ => none
 | _, _, _, _ => none
def PH (G : Ue) : Option Tmp → Bool
 | some tt => Ly G.ml tt
 | none => false
def Ys (G : Ue) (s : AS) (dst : Option Tmp) (t tx : TypeId) (a b : Operand) (K : D → List (Nat × Option Ia) → Option Out) : Option Out :=
 match dst, Jb G.ty t, s.ev a, s.ev b with
 | some _, some (.sl e), some (.own id), some db => match s.heap id, EI s e db with
  | some (.row e' dp xs), some (ys, dq, m) => match Ty.dec e' e with
   | some ⟨h⟩ => bif (((dp || e.flat) == dq) && Nf (id :: m)) && (OG (Jb G.ty tx) && (G.fz && !AC G.att)) then
    bif jx (ja (h ▸ xs : List (T e)) + ja ys) Oa then
     K (.t (.sl e) (jf (h ▸ xs : List (T e)) ys)) ((id, some (.fz e' xs)) :: Kc m)
    else none
    else none
   | none => none
  | _, _ => none
 | _, _, _, _ => none
def IG (G : Ue) (s : AS) (dst : Option Tmp) (t tx : TypeId) (a b : Operand) (K : D → List (Nat × Option Ia) → Option Out) : Option Out :=
 bif PH G dst then Ys G s dst t tx a b K else Dw G s dst t tx a b K
def CE (G : Ue) (s : AS) (t tx : TypeId) (a b : Operand) (K : D → List (Nat × Option Ia) → Option Out) : Option Out :=
 match Jb G.ty t, s.ev a, s.ev b with
 | some (.sl e), some (.own id), some db => match s.heap id with
  | some (.row e' dp xs) => match Ty.dec e' e, EI s e' db with
   | some _, some (ys, _, _) => bif e'.flat && OG (Jb G.ty tx) then
    bif jx (ja ys) (ja xs) then
     K (.t (.i .i64) ((ja ys : Nat) : Int)) [(id, some (.row e' dp (jf ys (List.drop (ja ys) xs))))]
    else none
    else none
   | _, _ => none
  | _ => none
 | _, _, _ => none
def Ku (s : AS) (dst : Option Tmp) (τ : Ty) (id i : Nat) (e : Ty) (xs : List (T e)) (k : Nat) (K : D → List (Nat × Option Ia) → Option Out) : Option Out :=
 match Ty.dec e τ with
 | some _ => bif qw i k then jz xs[i]? fun x => match Ie e x (100000 + 64 * dst.getD 0) with
  | (d, u, m) => bif jx m (100064 + 64 * dst.getD 0) && Yd s u then K d ((id, some (.mov e xs (i + 1))) :: u) else none
  else none
 | none => none
def YP (G : Ue) (s : AS) (dst : Option Tmp) (t : TypeId) (id : Nat) (lo hi : Option Operand) (K : D → List (Nat × Option Ia) → Option Out) : Option Out :=
 match s.heap id with
 | some (.row e dp xs) => match CL s lo, DO s (ja xs) hi, Jb G.ty t with
  | some l, some h, some (.sl e') => match Ty.dec e e' with
   | some _ => bif Jd (ja xs) l h then (match dst with
    | some tt => bif Ly G.mv tt then (bif s.newOk tt then K (.own tt) [(tt, some (.row e dp (Xa xs l.toNat h.toNat))), (id, none)] else none) else K (.cut id l.toNat h.toNat) []
    | none => none) else none
   | none => none
  | _, _, _ => none
 | _ => none
def LK (G : Ue) (s : AS) (t : TypeId) (id a b : Nat) (lo hi : Option Operand) (K : D → List (Nat × Option Ia) → Option Out) : Option Out :=
 match s.heap id with
 | some (.row e _ _) => match CL s lo, DO s (b - a) hi, Jb G.ty t with
  | some l, some h, some (.sl e') => match Ty.dec e e' with
   | some _ => bif Jd (b - a) l h then K (.cut id (a + l.toNat) (a + h.toNat)) [] else none
   | none => none
  | _, _, _ => none
 | _ => none
def Sb (G : Ue) (s : AS) (o : Oper) (K : D → List (Nat × Option Ia) → Option Out) : Option Out :=
 match o.op with
 | .move x | .assign x => match s.ev x with
  | some d => K d []
  | none => none
 | .pick c a b => match s.ev c with
  | some (.t .b β) => cond (show Bool from β)
   (match s.ev a with | some d => K d [] | none => none)
   (match s.ev b with | some d => K d [] | none => none)
  | _ => none
 | .alloc t => match o.dst, Jb G.ty t with
  | some tt, some τ => bif s.newOk tt then K (.ptr tt []) [(tt, some (.box τ (zD τ)))] else none
  | some tt, none => match Jb G.ar t with
   | some (e, n) => bif s.newOk tt && (yb 0 n && (jx n 1000 && jx e.size 1000)) then K (.eptr tt 0 []) [(tt, some (.row e true (yd n (zT e))))] else none
   | none => none
  | none, _ => none
 | .box t x => match o.dst, Jb G.ty t, s.ev x with
  | some tt, some τ, some d => bif s.newOk tt && Uc τ d then K (.ptr tt []) [(tt, some (.box τ d))] else none
  | _, _, _ => none
 | .build t ps => match Jb G.ty t with
  | some τ => match QI s τ (zD τ) ps.toList with
   | some d => bif τ.isAgg then K d [] else none
   | none => none
  | none => none
 | .buildSlice t n ps => match o.dst, Jb G.ty t with
  | some tt, some (.sl e) => match QO s e 0 ps.toList with
   | some (xs, l) => bif s.newOk tt && Nf l && qw n ps.size && jx n 1000 && jx e.size 1000 then K (.own tt) ((tt, some (.row e true xs)) :: Kc l) else none
   | none => match BJ s e 0 ps.toList with
    | some xs => bif s.newOk tt && qw n ps.size && jx n 1000 && jx e.size 1000 then K (.own tt) [(tt, some (.row e false xs))] else none
    | none => none
  | _, _ => none
 | .load t x => match Jb G.ty t, s.ev x with
  | some τ, some (.ptr id path) => match s.heap id with
   | some (.box ρ d) => match Ze ρ path, d.at path with
    | some τ', some e => match Ty.dec τ' τ with
     | some _ => K e []
     | none => none
    | _, _ => none
   | _ => none
  | some τ, some (.rp τ' v) => match Ty.dec τ' τ with
   | some _ => K (.t τ' v) []
   | none => none
  | some τ, some (.eptr id i path) => bif PH G o.dst then (match s.heap id, path with
   | some (.row e true xs), [] => Ku s o.dst τ id i e xs 0 K
   | some (.mov e xs k), [] => Ku s o.dst τ id i e xs k K
   | _, _ => none) else match s.heap id with
   | some (.row e dp xs) => jz xs[i]? fun x => match Ze e path, (D.t e x).at path with
    | some τ', some y => match Ty.dec τ' τ with
     | some _ => bif (!dp || e.flat) || τ'.flat then K y [] else match Bj y τ' with
      | some y' => match Ie τ' y' (100000 + 64 * o.dst.getD 0) with
       | (d, u, m) => bif jx m (100064 + 64 * o.dst.getD 0) && Yd s u then K d ((id, some (.hol e xs i x path τ' d)) :: u) else none
      | none => none
     | none => none
    | _, _ => none
   | _ => none
  | _, _ => none
 | .store t x v => match Jb G.ty t, s.ev x, s.ev v with
  | some τ, some (.ptr id path), some dv => match s.heap id with
   | some (.box ρ d) => match Ze ρ path, d.setAt path dv with
    | some τ', some d' => match Ty.dec τ' τ with
     | some _ => bif Uc τ dv then K .und [(id, some (.box ρ d'))] else none
     | none => none
    | _, _ => none
   | _ => none
  | some τ, some (.eptr id i path), some dv => match s.heap id with
   | some (.row e dp xs) => match Ze e path with
    | some τ' => match Ty.dec τ' τ with
     | some _ => bif dp || e.flat then match Pb s dv τ with
      | some (y, l) => bif (dp || l.isEmpty) && Nf (id :: l) then jz xs[i]? fun x => match Hh e x path τ y with
       | some x' => K .und ((id, some (.row e dp (j6 xs i x'))) :: Kc l)
       | none => none
       else none
      | none => none
      else match Bj dv τ with
       | some y => jz xs[i]? fun x => match Hh e x path τ y with
        | some x' => K .und [(id, some (.row e dp (j6 xs i x')))]
        | none => none
       | none => none
     | none => none
    | none => none
   | some (.hol e xs i0 x path0 _ _) => match Ze e path with
    | some τ' => match Ty.dec τ' τ with
     | some _ => match Pb s dv τ with
      | some (y, l) => bif Nf (id :: l) && (path == path0) then
       bif qw i i0 then match Hh e x path τ y with
        | some x' => K .und ((id, some (.row e true (j6 xs i x'))) :: Kc l)
        | none => none
       else none
       else none
      | none => none
     | none => none
    | none => none
   | _ => none
  | _, _, _ => none
 | .nilCheck x => match s.ev x with
  | some (.ptr id p) => match s.heap id with
   | some (.box _ _) => K (.ptr id p) []
   | _ => none
  | some (.rp τ v) => K (.rp τ v) []
  | some (.eptr id i p) => match (s.heap id).bind Ia.rowN with
   | some _ => K (.eptr id i p) []
   | none => none
  | _ => none
 | .binOp op t x y _ => match s.ev x, s.ev y with
  | some a, some b => bif a.isAgg then match Jb G.ty t with
   | some τ => match Bj a τ, Bj b τ with
    | some u, some v => bif τ.cmp && τ.isAgg && jx τ.cnt 9000 then match op with
     | .eql => K (.t .b (Iv τ u v)) []
     | .neq => K (.t .b (!Iv τ u v)) []
     | _ => none
     else none
    | _, _ => none
   | none => none
   else XP (match Jb G.ty t with | some .b => true | _ => false) op a b K
  | _, _ => none
 | .unOp op _ x => match op, s.ev x with
  | .not, some (.t .b v) => K (.t .b (!(show Bool from v))) []
  | .neg, some (.t (.i kk) v) => K (.t (.i kk) (kk.wrap ((0 : Int) - v))) []
  | _, _ => none
 | .convert src t x => match Jb G.ty src, Jb G.ty t, s.ev x with
  | some _, some (.i kk), some (.t (.i _) n) => K (.t (.i kk) (kk.wrap n)) []
  | some .s, some .s, some (.t .s v) => K (.t .s v) []
  | some (.sl (.i .u8)), some .s, some d => match Va s d (.sl (.i .u8)) with
   | some v => K (.t .s (Po v)) []
   | none => none
  | some .s, some (.sl (.i .u8)), some (.t .s v) => bif jx (ja v) Oa then K (.t (.sl (.i .u8)) (Yc v)) [] else none
  | _, _, _ => none
 | .slice t x lo hi none => match s.ev x with
  | some (.t .s v) => match CL s lo, DO s (ja v) hi, Jb G.ty t with
   | some l, some h, some .s => bif Jd (ja v) l h then K (.t .s (Xa v l.toNat h.toNat)) [] else none
   | _, _, _ => none
  | some (.t (.sl e) v) => match CL s lo, DO s (ja v) hi, Jb G.ty t with
   | some l, some h, some (.sl e') => match Ty.dec e e' with
    | some _ => bif Jd (ja v) l h then K (.t (.sl e) (Xa v l.toNat h.toNat)) [] else none
    | none => none
   | _, _, _ => none
  | some (.own id) => YP G s o.dst t id lo hi K
  | some .nil => match CL s lo, DO s 0 hi, Jb G.ty t with
   | some l, some h, some (.sl _) => bif Jd 0 l h then K .nil [] else none
   | _, _, _ => none
  | some (.cut id a b) => LK G s t id a b lo hi K
  | _ => none
 | .fieldAddr t x f => match Jb G.ty t, s.ev x with
  | some τ, some (.ptr id path) => match s.heap id with
   | some (.box ρ _) => match Ze ρ path, Na τ f with
    | some τ', some τf => match Ty.dec τ' τ with
     | some _ => bif yb 0 τf.size then K (.ptr id (path ++ [f])) [] else none
     | none => none
    | _, _ => none
   | _ => none
  | some τ, some (.eptr id i path) => match (s.heap id).bind Ia.rowN with
   | some (e, _) => match Ze e path, Na τ f with
    | some τ', some τf => match Ty.dec τ' τ with
     | some _ => bif yb 0 τf.size then K (.eptr id i (path ++ [f])) [] else none
     | none => none
    | _, _ => none
   | none => none
  | some τ, some (.rp τ' v) => match Ty.dec τ' τ, (D.t τ' v).field f, Na τ' f with
   | some _, some (.t τf u), some τg => bif yb 0 τg.size then K (.rp τf u) [] else none
   | _, _, _ => none
  | _, _ => none
 | .field t x f => match Jb G.ty t, s.ev x with
  | some τ, some d => bif Uc τ d then match Na τ f, d.field f with
   | some _, some e => K e []
   | _, _ => none
   else none
  | _, _ => none
 | .indexAddr t x i => match Jb G.ty t, s.ev x, s.ev i with
  | some (.sl e'), some (.t (.sl e) xs), some (.t (.i _) n) => match Ty.dec e e' with
   | some _ => jz (Hc (show List (T e) from xs) n) fun v => K (.rp e v) []
   | none => none
  | some (.sl e'), some (.own id), some (.t (.i _) n) => match (s.heap id).bind Ia.rowN with
   | some (e, len) => match Ty.dec e e' with
    | some _ => bif Qd len n then K (.eptr id (jy n) []) [] else none
    | none => none
   | none => none
  | some (.sl e'), some (.cut id lo hi), some (.t (.i _) n) => match (s.heap id).bind Ia.rowN with
   | some (e, _) => match Ty.dec e e' with
    | some _ => bif Qd (hi - lo) n then K (.eptr id (lo + jy n) []) [] else none
    | none => none
   | none => none
  | none, some (.eptr id 0 []), some (.t (.i _) n) => match Jb G.ar t, (s.heap id).bind Ia.rowN with
   | some (e', c), some (e, len) => match Ty.dec e e' with
    | some _ => bif qw c len then bif Qd len n then K (.eptr id (jy n) []) [] else none else none
    | none => none
   | _, _ => none
  | _, _, _ => none
 | .index t x i => match Jb G.ty t, s.ev x, s.ev i with
  | some .s, some (.t .s v), some (.t (.i _) n) => jz (Hc (show List UInt8 from v) n) fun c => K (.t (.i .u8) (c.toNat : Int)) []
  | _, _, _ => none
 | .makeSlice t l c => match o.dst, Jb G.ty t, s.ev l, s.ev c with
  | some tt, some (.sl e), some (.t (.i .i64) n), some (.t (.i .i64) m) =>
   bif s.newOk tt then
    bif ((n : Int) == m) && (decide ((0 : Int) ≤ n) && decide ((n : Int) ≤ Oa)) then
     K (.own tt) [(tt, some (.row e true (yd (jy n) (zT e))))]
    else none
   else none
  | _, _, _, _ => none
 | .extract x n => match s.ev x with
  | some (.tup d) => match FA d n with
   | some e => K e []
   | none => none
  | _ => none
 | .call ⟨.value (.func f), args, _⟩ => BE G s o.dst f args.toList K
 | .call ⟨.builtin .len, args, ts⟩ => match args.toList, ts.toList with
  | [x], [t] => match Jb G.ty t, s.ev x with
   | some (.sl _), some (.t (.sl _) xs) => K (.t (.i .i64) (ja xs : Int)) []
   | some .s, some (.t .s v) => K (.t (.i .i64) (ja v : Int)) []
   | some (.sl _), some .nil => K (.t (.i .i64) (0 : Int)) []
   | some (.sl _), some (.own id) => match (s.heap id).bind Ia.rowN with
    | some (_, len) => K (.t (.i .i64) (len : Int)) []
    | none => none
   | some (.sl _), some (.cut id lo hi) => match (s.heap id).bind Ia.rowN with
    | some _ => K (.t (.i .i64) ((hi - lo : Nat) : Int)) []
    | none => none
   | _, _ => none
  | _, _ => none
 | .call ⟨.builtin .append, args, ts⟩ => match args.toList, ts.toList with
  | [a, b], [t, tx] => IG G s o.dst t tx a b K
  | _, _ => none
 | .call ⟨.builtin .copy, args, ts⟩ => match args.toList, ts.toList with
  | [a, b], [t, tx] => CE G s t tx a b K
  | _, _ => none
 | .call ⟨.builtin .max, args, _⟩ => match args.toList with
  | [x, y] => match s.ev x, s.ev y with
   | some (.t (.i ka) a), some (.t (.i kb) b) => bif ka == kb then K (.t (.i ka) (max (a : Int) b)) [] else none
   | _, _ => none
  | _ => none
 | .call ⟨.builtin .min, args, _⟩ => match args.toList with
  | [x, y] => match s.ev x, s.ev y with
   | some (.t (.i ka) a), some (.t (.i kb) b) => bif ka == kb then K (.t (.i ka) (min (a : Int) b)) [] else none
   | _, _ => none
  | _ => none
 | _ => none
def Hf (G : Ue) (s : AS) (o : Oper) (k : AS → Option Out) : Option Out := Sb G s o fun d u => Zg s o.dst d u k
def Bd {α : Type} : List (Int × α) → Int → Option α
 | [], _ => none
 | (k, x) :: r, n => bif n == k then some x else Bd r n
def IM {α : Type} : List (Int × α) → Int → α → List (Int × α)
 | [], n, y => [(n, y)]
 | (k, x) :: r, n, y => bif n == k then (k, y) :: r else (k, x) :: IM r n y
def O4 : Op → Bool
 | .makeMap _ _ | .lookup _ _ _ _ | .mapUpdate _ _ _ _ | .insert _ _ _ _ => true
 | _ => false
def OW (G : Ue) (s : AS) (t : TypeId) (m x v : Operand) (K : D → List (Nat × Option Ia) → Option Out) : Option Out :=
 match Jb G.ty t, s.ev m, s.ev x, s.ev v with
 | some (.mp (.i kk) τ), some (.mpo id), some (.t (.i k2) n), some d => match s.heap id, Bj d τ with
  | some (.mp (.i k3) τ3 xs), some y => match Ty.dec τ τ3 with
   | some ⟨h⟩ => bif (kk == k2) && (kk == k3) then K .und [(id, some (.mp (.i k3) τ3 (IM (show List (Int × T τ3) from xs) n (h ▸ y))))] else none
   | none => none
  | _, _ => none
 | _, _, _, _ => none
def WR (G : Ue) (s : AS) (t : TypeId) (m x v : Operand) (K : D → List (Nat × Option Ia) → Option Out) : Option Out :=
 match Jb G.ty t, s.ev m, s.ev x, s.ev v with
 | some (.mp (.i kk) (.sl e)), some (.mpo id), some (.t (.i k2) n), some d => match s.heap id, Pb s d (.sl e) with
  | some (.mq k3 e3 xs), some (y, l) => match Ty.dec e e3 with
   | some ⟨h⟩ => bif (kk == k2) && ((kk == k3) && (Nf (id :: l) && (G.fz && (!AC G.att && !cmB G.att)))) then
    bif (Bd xs n).isNone then K .und ((id, some (.mq k3 e3 (jf xs [(n, (show List (T e3) from h ▸ y))]))) :: Kc l) else none
    else none
   | none => none
  | _, _ => none
 | _, _, _, _ => none
def MK {τ : Ty} (xs : List (Int × T τ)) (n : Int) (ok : Bool) (K : D → List (Nat × Option Ia) → Option Out) : Option Out :=
 bif ok then K (.tup (.pr (.t τ ((Bd xs n).getD (zT τ))) (.pr (.t .b (Bd xs n).isSome) .un))) [] else K (.t τ ((Bd xs n).getD (zT τ))) []
def AS.isMq (s : AS) (m : Operand) : Bool := match s.ev m with
 | some (.mpo id) => match s.heap id with
  | some (.mq _ _ _) => true
  | _ => false
 | _ => false
def TL (G : Ue) (s : AS) (o : Oper) (K : D → List (Nat × Option Ia) → Option Out) : Option Out :=
 match o.op with
 | .makeMap t none => match o.dst, Jb G.ty t with
  | some tt, some (.mp k v) => bif Ly G.mv tt then (match k, v with
   | .i kk, .sl e => bif s.newOk tt then K (.mpo tt) [(tt, some (.mq kk e ([] : List (Int × List (T e)))))] else none
   | _, _ => none) else
   bif s.newOk tt then K (.mpo tt) [(tt, some (.mp k v ([] : List (T k × T v))))] else none
  | _, _ => none
 | .mapUpdate t m x v | .insert t m x v => bif s.isMq m then WR G s t m x v K else OW G s t m x v K
 | .lookup t m x ok => match Jb G.ty t, s.ev m, s.ev x with
  | some (.mp (.i kk) τ), some (.mpo id), some (.t (.i k2) n) => match s.heap id with
   | some (.mp (.i k3) τ3 xs) => match Ty.dec τ τ3 with
    | some _ => bif (kk == k2) && (kk == k3) then MK (τ := τ3) xs n ok K else none
    | none => none
   | some (.mq k3 e xs) => match Ty.dec τ (.sl e) with
    | some _ => bif (kk == k2) && (kk == k3) then MK (τ := .sl e) xs n ok K else none
    | none => none
   | some (.mx (.i k3) (.sl e) xs) => match Ty.dec τ (.sl e) with
    | some _ => bif (kk == k2) && ((kk == k3) && (ok && PH G o.dst)) && s.newOk (100000 + 64 * o.dst.getD 0) then
     K (.tup (.pr (.own (100000 + 64 * o.dst.getD 0)) (.pr (.t .b (Bd xs n).isSome) .un))) [(100000 + 64 * o.dst.getD 0, some (.row e true ((Bd xs n).getD []))), (id, none)] else none
    | none => none
   | _ => none
  | some (.mp (.i kk) τ), some (.t (.mp (.i k3) τ3) xs), some (.t (.i k2) n) => match Ty.dec τ τ3 with
   | some _ => bif (kk == k2) && (kk == k3) then MK (τ := τ3) xs n ok K else none
   | none => none
  | _, _, _ => none
 | _ => none
def QW (G : Ue) (s : AS) (o : Oper) (k : AS → Option Out) : Option Out := bif O4 o.op then TL G s o fun d u => Zg s o.dst d u k else Hf G s o k
end
inductive Ex where
 | normal
 | exit (id : Nat)
 | ret
inductive TD where
 | data (τ : Ty)
 | own (id : Nat) (e : Ty) (dp : Bool)
 | ptr (id : Nat) (path : List Nat)
 | pr (a b : TD)
 | un
 | hol (id : Nat) (e : Ty) (path : List Nat) (τ : Ty) (d : TD)
 | arr (id : Nat) (e : Ty)
 | mov (id : Nat) (e : Ty)
 | mpo (id : Nat) (k v : Ty)
 | mqo (id : Nat) (kk : IntKind) (e : Ty)
@[reducible] def TD.ty : TD → Ty
 | .data τ => τ
 | .own _ e _ => .sl e
 | .ptr _ _ => .u
 | .pr a b => .p a.ty b.ty
 | .un => .u
 | .hol _ e _ _ d => .p (.sl e) (.p (.i .i64) (.p e d.ty))
 | .arr _ e => .sl e
 | .mov _ e => .p (.sl e) (.i .i64)
 | .mpo _ k v => .mp k v
 | .mqo _ kk e => .mp (.i kk) (.sl e)
structure Ry where
 tm : List (Tmp × TD)
 bx : List (Nat × Ty × TD)
@[reducible] def Ry.tyT : List (Tmp × TD) → Ty
 | [] => .u
 | (_, d) :: r => .p d.ty (Ry.tyT r)
@[reducible] def Ry.tyB : List (Nat × Ty × TD) → Ty
 | [] => .u
 | (_, _, d) :: r => .p d.ty (Ry.tyB r)
@[reducible] def Ry.X (p : Ry) : Type := T (Ry.tyT p.tm) × T (Ry.tyB p.bx)
abbrev Ak := List (Nat × Option Nat)
def Au : (td : TD) → T td.ty → D
 | .data τ, x => .t τ x
 | .own id _ _, _ => .own id
 | .ptr id p, _ => .ptr id p
 | .pr a b, v => .pr (Au a v.1) (Au b v.2)
 | .un, _ => .un
 | .hol id _ _ _ _, _ => .own id
 | .arr id _, _ => .eptr id 0 []
 | .mov id _, _ => .own id
 | .mpo id _ _, _ => .mpo id
 | .mqo id _ _, _ => .mpo id
def Td (s : AS) : (td : TD) → D → Option (T td.ty × Ak)
 | .data τ, d => match Bj d τ with
  | some x => some (x, [])
  | none => none
 | .own id' e dp, .own id => match s.heap id with
  | some (.row e' dp' xs) => match Ty.dec e' e with
   | some ⟨h⟩ => bif (dp' == dp) || e.flat then some ((h ▸ xs : List (T e)), [(id', some id)]) else none
   | none => none
  | _ => none
 | .own id' _ _, .nil => some (([] : List _), [(id', none)])
 | .hol id' e path τ td, .own id => match s.heap id with
  | some (.hol e' xs i x path' τ' d) => match Ty.dec e' e, Ty.dec τ' τ with
   | some ⟨h⟩, some _ => bif path == path' then match Td s td d with
    | some (y, m) => bif Uc τ (Au td y) then some (((h ▸ xs : List (T e)), ((((i : Nat) : Int), ((h ▸ x : T e), y)))), (id', some id) :: m) else none
    | none => none
    else none
   | _, _ => none
  | _ => none
 | .arr id' e, .eptr id 0 [] => match s.heap id with
  | some (.row e' true xs) => match Ty.dec e' e with
   | some ⟨h⟩ => some ((h ▸ xs : List (T e)), [(id', some id)])
   | none => none
  | _ => none
 | .mov id' e, .own id => match s.heap id with
  | some (.row e' true xs) => match Ty.dec e' e with
   | some ⟨h⟩ => some (((h ▸ xs : List (T e)), (0 : Int)), [(id', some id)])
   | none => none
  | some (.mov e' xs k) => match Ty.dec e' e with
   | some ⟨h⟩ => some (((h ▸ xs : List (T e)), ((k : Nat) : Int)), [(id', some id)])
   | none => none
  | _ => none
 | .mpo id' k v, .mpo id => match s.heap id with
  | some (.mp k' v' xs) => match Ty.dec k' k, Ty.dec v' v with
   | some ⟨h⟩, some ⟨g⟩ => some (h ▸ g ▸ xs, [(id', some id)])
   | _, _ => none
  | _ => none
 | .mqo id' kk e, .mpo id => match s.heap id with
  | some (.mq kk' e' xs) => match Ty.dec (.mp (.i kk') (.sl e')) (.mp (.i kk) (.sl e)) with
   | some ⟨h⟩ => some ((h ▸ (show T (.mp (.i kk') (.sl e')) from xs) : T (.mp (.i kk) (.sl e))), [(id', some id)])
   | none => none
  | _ => none
 | .ptr id' p, .ptr id q => bif p == q then some ((), [(id', some id)]) else none
 | .pr a b, d => match d.fst, d.snd with
  | some x, some y => match Td s a x, Td s b y with
   | some (u, l), some (v, m) => some ((u, v), l ++ m)
   | _, _ => none
  | _, _ => none
 | .un, d => match Bj d .u with
  | some x => some (x, [])
  | none => none
 | _, _ => none
def Uac (s : AS) : (l : List (Tmp × TD)) → Option (T (Ry.tyT l) × Ak)
 | [] => some ((), [])
 | (t, td) :: r => match Jb s.tm t with
  | some d => match Td s td d, Uac s r with
   | some (x, m), some (y, n) => some ((x, y), m ++ n)
   | _, _ => none
  | none => none
def S3 (s : AS) : (l : List (Nat × Ty × TD)) → Ak → Option (T (Ry.tyB l) × Ak)
 | [], m => some ((), m)
 | (id', ρ, td) :: r, m => match Jb m id' with
  | some (some id) => match s.heap id with
   | some (.box ρ' d) => match Ty.dec ρ' ρ with
    | some _ => match Td s td d with
     | some (x, m') => bif Uc ρ (Au td x) then match S3 s r (m ++ m') with
      | some (y, m'') => some ((x, y), m'')
      | none => none
      else none
     | none => none
    | none => none
   | _ => none
  | _ => none
def MG : Ak → Bool
 | [] => true
 | (j, some i) :: r => ((yb j 500000 && yb i 500000) || qw j i) && MG r
 | (j, none) :: r => yb j 500000 && MG r
def NE (x y : Nat × Option Nat) : Bool := match x.2, y.2 with
 | some a, some c => qw x.1 y.1 == qw a c
 | none, none => true
 | _, _ => !Nat.beq x.1 y.1
def Eao (m : Ak) : Bool := (m.all fun x => m.all fun y => NE x y) && MG m
def ext (p : Ry) (s : AS) : Option p.X :=
 match Uac s p.tm with
 | some (x, m) => match S3 s p.bx m with
  | some (y, m') => bif Eao m' then some (x, y) else none
  | none => none
 | none => none
def Wv : (td : TD) → T td.ty → List (Nat × Option Ia)
 | .own id e dp, xs => [(id, some (.row e dp xs))]
 | .pr a b, v => Wv a v.1 ++ Wv b v.2
 | .hol id e path τ d, v => (id, some (.hol e v.1 (jy v.2.1) v.2.2.1 path τ (Au d v.2.2.2))) :: Wv d v.2.2.2
 | .arr id e, xs => [(id, some (.row e true xs))]
 | .mov id e, v => [(id, some (.mov e v.1 (jy v.2)))]
 | .mpo id k v, xs => [(id, some (.mp k v xs))]
 | .mqo id kk e, xs => [(id, some (.mq kk e xs))]
 | _, _ => []
def JV : (l : List (Tmp × TD)) → T (Ry.tyT l) → List (Nat × D)
 | [], _ => []
 | (t, td) :: r, v => (t, Au td v.1) :: JV r v.2
def XV : (l : List (Tmp × TD)) → T (Ry.tyT l) → List (Nat × Option Ia)
 | [], _ => []
 | (_, td) :: r, v => Wv td v.1 ++ XV r v.2
def IV : (l : List (Nat × Ty × TD)) → T (Ry.tyB l) → List (Nat × Option Ia)
 | [], _ => []
 | (id, ρ, td) :: r, v => (id, some (.box ρ (Au td v.1))) :: (Wv td v.1 ++ IV r v.2)
def OH (p : Ry) (x : p.X) (n : Nat) : AS := ⟨n, JV p.tm x.1, XV p.tm x.1 ++ IV p.bx x.2⟩
structure Za where
 n : Nat
 inT : Ry
 exitId : Nat
 outT : Ry
 retT : Ry
 F : inT.X → Option (outT.X ⊕ retT.X)
def Rk : Code → Option Nat
 | .region id _ _ => some id
 | .seq a b => match Rk a with
  | some r => some r
  | none => Rk b
 | .cond _ a b => match Rk a with
  | some r => some r
  | none => Rk b
 | .block _ c | .loop c | .scope c => Rk c
 | _ => none
def Ia.ids : Ia → List Nat
 | .box _ d => d.ids
 | .row _ _ _ => []
 | .hol _ _ _ _ _ _ d => d.ids
 | .mov _ _ _ => []
 | .mp _ _ _ => []
 | .mq _ _ _ => []
 | .mx _ _ _ => []
 | .fz _ _ => []
def AS.attach (s : AS) (id : Nat) : Option AS := match s.heap id with
 | some (.hol e xs i x path τ d) => match Pb s d τ with
  | some (y, l) => bif Nf (id :: l) then match Hh e x path τ y with
   | some x' => some ⟨s.n, s.tm, (id, some (.row e true (j6 xs i x'))) :: (Kc l ++ s.hp)⟩
   | none => none
   else none
  | none => none
 | _ => some s
def Ty.isSl : Ty → Bool
 | .sl _ => true
 | _ => false
def Ty.isMp : Ty → Bool
 | .mp _ _ => true
 | _ => false
def D.frz (id : Nat) (τ : Ty) (x : T τ) : D → D
 | .own j => bif qw j id && τ.isSl then .t τ x else .own j
 | .mpo j => bif qw j id && τ.isMp then .t τ x else .mpo j
 | .pr a b => .pr (a.frz id τ x) (b.frz id τ x)
 | .tup d => .tup (d.frz id τ x)
 | d => d
def Ia.frz (id : Nat) (τ : Ty) (x : T τ) : Ia → Ia
 | .box ρ d => .box ρ (d.frz id τ x)
 | .hol e xs i z path τ' d => .hol e xs i z path τ' (d.frz id τ x)
 | b => b
def Ia.shaped : Ia → Bool
 | .box ρ d => Uc ρ d
 | .hol _ _ _ _ _ τ d => Uc τ d
 | _ => true
def AS.freeze (s : AS) (id : Nat) : Option AS := match s.heap id with
 | some (.row e _ xs) => match (s.hp.map fun p => (p.1, p.2.map (Ia.frz id (.sl e) xs))) with
  | hp => bif hp.all fun p => (p.2.map Ia.shaped).getD true then some ⟨s.n, s.tm.map fun p => (p.1, p.2.frz id (.sl e) xs), (id, none) :: hp⟩ else none
 | some (.mp k v xs) => match (s.hp.map fun p => (p.1, p.2.map (Ia.frz id (.mp k v) xs))) with
  | hp => bif hp.all fun p => (p.2.map Ia.shaped).getD true then some ⟨s.n, s.tm.map fun p => (p.1, p.2.frz id (.mp k v) xs), (id, none) :: hp⟩ else none
 | some (.mx k v xs) => match (s.hp.map fun p => (p.1, p.2.map (Ia.frz id (.mp k v) xs))) with
  | hp => bif hp.all fun p => (p.2.map Ia.shaped).getD true then some ⟨s.n, s.tm.map fun p => (p.1, p.2.frz id (.mp k v) xs), (id, none) :: hp⟩ else none
 | _ => some s
def AS.frzParts (s : AS) (id : Nat) : AS := match s.heap id with
 | some (.row e true xs) => ⟨s.n, s.tm, (id, some (.row e false xs)) :: s.hp⟩
 | _ => s
def TJ (fz bm : Bool) : List (Nat × Nat) → Nat → AS → Option AS
 | [], _, s => some s
 | (r, id) :: l, n, s => bif qw r n then match (bif jx 1000000000 id then (bif fz && (!bm || s.boxLive) then (bif jx 2000000000 id then some (s.frzParts (id - 2000000000)) else s.freeze (id - 1000000000)) else none) else s.attach id) with
  | some s' => TJ fz bm l n s'
  | none => none
  else TJ fz bm l n s
structure FP where
 rt : List Nat
 ri : List Nat
 wt : Option Nat
 wi : List Nat
 mi : List Nat
def Ed : Op → List Operand
 | .move x | .assign x => [x]
 | .pick c a b => [c, a, b]
 | .box _ x => [x]
 | .build _ ps => ps.toList.map (·.2)
 | .buildSlice _ _ ps => ps.toList.map (·.2)
 | .load _ x => [x]
 | .store _ x v => [x, v]
 | .nilCheck x => [x]
 | .binOp _ _ x y _ => [x, y]
 | .unOp _ _ x => [x]
 | .convert _ _ x => [x]
 | .slice _ x lo hi _ => x :: (lo.toList ++ hi.toList)
 | .fieldAddr _ x _ => [x]
 | .field _ x _ => [x]
 | .indexAddr _ x i => [x, i]
 | .index _ x i => [x, i]
 | .makeSlice _ l c => [l, c]
 | .extract x _ => [x]
 | .call ⟨_, args, _⟩ => args.toList
 | _ => []
def Hq : List Operand → List Nat
 | [] => []
 | .tmp t :: r => t :: Hq r
 | _ :: r => Hq r
def AH (s : AS) : D → List Nat
 | .ptr id _ => match s.heap id with
  | some (.box _ d) => d.ids
  | _ => []
 | _ => []
def UC : Op → Bool
 | .call _ => true
 | _ => false
def QA : Op → Bool
 | .move _ | .assign _ => true
 | _ => false
def Eh : Op → Bool
 | .nilCheck _ | .fieldAddr _ _ _ | .indexAddr _ _ _ => true
 | .call ⟨.builtin .len, _, _⟩ => true
 | _ => false
def DQ : Op → Bool
 | .load _ _ | .store _ _ _ => true
 | _ => false
def SI (s : AS) (c : Bool) : List Operand → List Nat
 | [] => []
 | x :: r => match s.ev x with
  | some d => (d.ids ++ bif c then AH s d else []) ++ SI s c r
  | none => SI s c r
def Xs : List (Nat × Option Ia) → List Nat
 | [] => []
 | (_, some b) :: r => b.ids ++ Xs r
 | (_, none) :: r => Xs r
def UO (H : List Nat) : List Nat → List Nat
 | [] => []
 | x :: r => bif Ly H x then UO H r else x :: UO H r
def XW (H : List Nat) (s : AS) (o : Oper) (g : List Nat) (d : D) (u : List (Nat × Option Ia)) : FP :=
 ⟨g ++ Hq (Ed o.op), bif QA o.op then [] else bif Eh o.op then UO H (SI s (UC o.op) (Ed o.op)) else SI s (UC o.op) (Ed o.op), o.dst, u.map (·.1), d.ids ++ Xs u⟩
def AV (H : List Nat) (o : Op) (u : List (Nat × Option Ia)) : Bool := match H with
 | [] => true
 | _ => bif DQ o then !FJ H (u.tail.map (·.1)) else !FJ H (u.map (·.1))
def B4 : List (Nat × Nat) → Nat → List Nat
 | [], _ => []
 | (r, id) :: l, n => bif qw r n then id :: B4 l n else B4 l n
def SV (dst : Option Nat) (l : List Nat) : Bool := match dst with
 | some t => l.any fun id => qw id t || (jx (100000 + 64 * t) id && yb id (100064 + 64 * t))
 | none => l.any fun id => jx 100000 id && yb id 100064
def G6 (t : Option Nat) (l : List Nat) : Bool := match t with
 | some t => Ly l t
 | none => false
def HV (f g : FP) : Bool :=
 !G6 f.wt g.rt && !G6 g.wt f.rt && !G6 f.wt g.wt.toList && !FJ f.wi g.ri && !FJ g.wi f.ri && !FJ f.wi g.wi && !SV f.wt g.mi && !SV g.wt f.mi
def LU : List Nat → List Nat → List Nat
 | [], l => l
 | x :: r, l => LU r (bif Ly l x then l else x :: l)
def ZP (prev : List (Nat × (List Nat × FP))) : List Edge → List Nat → List Nat
 | [], l => l
 | e :: r, l => bif Region.binds .any e then ZP prev r (LU (e.on :: (match Jb prev e.on with
  | some (a, _) => a
  | none => [])) l) else ZP prev r l
def Eac (i : Nat) (es : List Edge) : Bool := es.all fun e => !Region.binds .any e || yb e.on i
def LE (anc : List Nat) (f : FP) (prev : List (Nat × (List Nat × FP))) : Bool := prev.all fun p => Ly anc p.1 || HV p.2.2 f
section
variable {Out : Type}
def WA (G : Ue) (H : List Nat) (ops : Array Oper) : List Oper → Nat → List (Nat × (List Nat × FP)) → AS → (AS → Option Out) → Option Out
 | [], _, _, s, k => k s
 | o :: r, i, prev, s, k => bif Eac i o.after.toList then
  match ZP prev o.after.toList [] with
  | anc => match o.guard with
   | none => Sb G s o fun d u => match XW H s o [] d u with
    | f => bif LE anc f prev && AV H o.op u then Zg s o.dst d u fun s' => WA G H ops r (i + 1) ((i, (anc, f)) :: prev) s' k else none
   | some (j, want) => match (ops[j]?).bind (·.dst) with
    | some t => match Jb s.tm t with
     | some (.t .b β) => match XW H s o [t] .und [] with
      | f0 => cond (show Bool from β)
       (bif want then Sb G ⟨s.n, (t, .t .b true) :: s.tm, s.hp⟩ o fun d u => match XW H s o [t] d u with
        | f => bif LE anc f prev && AV H o.op u then Zg ⟨s.n, (t, .t .b true) :: s.tm, s.hp⟩ o.dst d u fun s' => WA G H ops r (i + 1) ((i, (anc, f)) :: prev) s' k else none
        else bif LE anc f0 prev then Zg ⟨s.n, (t, .t .b true) :: s.tm, s.hp⟩ o.dst .und [] fun s' => WA G H ops r (i + 1) ((i, (anc, f0)) :: prev) s' k else none)
       (bif want then bif LE anc f0 prev then Zg ⟨s.n, (t, .t .b false) :: s.tm, s.hp⟩ o.dst .und [] fun s' => WA G H ops r (i + 1) ((i, (anc, f0)) :: prev) s' k else none
        else Sb G ⟨s.n, (t, .t .b false) :: s.tm, s.hp⟩ o fun d u => match XW H s o [t] d u with
         | f => bif LE anc f prev && AV H o.op u then Zg ⟨s.n, (t, .t .b false) :: s.tm, s.hp⟩ o.dst d u fun s' => WA G H ops r (i + 1) ((i, (anc, f)) :: prev) s' k else none)
     | some .und => match XW H s o [t] .und [] with
      | f0 => bif LE anc f0 prev then Zg s o.dst .und [] fun s' => WA G H ops r (i + 1) ((i, (anc, f0)) :: prev) s' k else none
     | _ => none
    | none => none
  else none
end
section
variable {Out : Type}
def JC (G : Ue) (r : Nat) (ops : Array Oper) : List Oper → Nat → AS → (AS → Option Out) → Option Out
 | [], _, s, k => k s
 | o :: rest, i, s, k => match TJ G.fz (AC G.att) G.att (1000 * r + i + 1) s with
  | none => none
  | some s => match o.guard with
   | none => QW G s o fun s' => JC G r ops rest (i + 1) s' k
   | some (j, want) => match (ops[j]?).bind (·.dst) with
    | some t => match Jb s.tm t with
     | some (.t .b β) => cond (show Bool from β)
      (bif want then QW G ⟨s.n, (t, .t .b true) :: s.tm, s.hp⟩ o fun s' => JC G r ops rest (i + 1) s' k
       else Zg ⟨s.n, (t, .t .b true) :: s.tm, s.hp⟩ o.dst .und [] fun s' => JC G r ops rest (i + 1) s' k)
      (bif want then Zg ⟨s.n, (t, .t .b false) :: s.tm, s.hp⟩ o.dst .und [] fun s' => JC G r ops rest (i + 1) s' k
       else QW G ⟨s.n, (t, .t .b false) :: s.tm, s.hp⟩ o fun s' => JC G r ops rest (i + 1) s' k)
     | some .und => Zg s o.dst .und [] fun s' => JC G r ops rest (i + 1) s' k
     | _ => none
    | none => none
def Mu (G : Ue) (L : List (Nat × Za)) : Code → AS → (Ex → AS → Option Out) → Option Out
 | .skip, s, k => k .normal s
 | .region r ops draw, s, k => match TJ G.fz (AC G.att) G.att (1000 * r) s with
  | some s => bif draw then WA G (B4 G.att (1000 * r + 998)) ops ops.toList 0 [] s fun s' => match TJ G.fz (AC G.att) G.att (1000 * r + 999) s' with
   | some s' => k .normal s'
   | none => none
   else JC G r ops ops.toList 0 s fun s' => match TJ G.fz (AC G.att) G.att (1000 * r + 999) s' with
    | some s' => k .normal s'
    | none => none
  | none => none
 | .seq a b, s, k => Mu G L a s fun e s' => match e with
  | .normal => Mu G L b s' k
  | .exit j => k (.exit j) s'
  | .ret => k .ret s'
 | .cond (.tmp t) x y, s, k => match Jb s.tm t with
  | some (.t .b β) => cond (show Bool from β) (Mu G L x ⟨s.n, (t, .t .b true) :: s.tm, s.hp⟩ k) (Mu G L y ⟨s.n, (t, .t .b false) :: s.tm, s.hp⟩ k)
  | _ => none
 | .cond (.const (.bool β)) x y, s, k => cond β (Mu G L x s k) (Mu G L y s k)
 | .block id c, s, k => Mu G L c s fun e s' => match e with
  | .normal => k .normal s'
  | .exit j => bif qw j id then k .normal s' else k (.exit j) s'
  | .ret => k .ret s'
 | .loop c, s, k => match Rk c with
  | some r => match Jb L r with
   | some ls => match ext ls.inT s with
    | some x => bif qw s.n ls.n then jz (ls.F x) (Sum.elim (fun y => k (.exit ls.exitId) (OH ls.outT y s.n)) (fun z => k .ret (OH ls.retT z s.n))) else none
    | none => none
   | none => none
  | none => none
 | .exit id, s, k => k (.exit id) s
 | .ret, s, k => k .ret s
 | _, _, _ => none
def GJ (G : Ue) (L : List (Nat × Za)) (ls : Za) (body : Code) (x : ls.inT.X) : Option (ls.inT.X ⊕ (ls.outT.X ⊕ ls.retT.X)) :=
 Mu G L body (OH ls.inT x ls.n) fun e s' => bif qw s'.n ls.n then match e with
  | .normal => match ext ls.inT s' with
   | some x => some (.inl x)
   | none => none
  | .exit j => bif qw j ls.exitId then match ext ls.outT s' with
   | some y => some (.inr (.inl y))
   | none => none
   else none
  | .ret => match ext ls.retT s' with
   | some z => some (.inr (.inr z))
   | none => none
  else none
def Vv (G : Ue) (s : AS) : List ResultVar → Option D
 | [] => some .un
 | .tmp t :: r => match Jb s.tm t, Vv G s r with
  | some d, some e => some (.pr d e)
  | _, _ => none
 | .cell t ty :: r => match Jb s.tm t, Vv G s r with
  | some (.ptr id []), some e => match s.heap id, Jb G.ty ty with
   | some (.box ρ d), some τ => match Ty.dec ρ τ with
    | some _ => some (.pr d e)
    | none => none
   | _, _ => none
  | _, _ => none
def Cae (s : AS) : (rt : Ty) → List Bool → D → Option (T rt)
 | .p (.mp k v) .u, [true], .pr (.mpo id) .un => match s.heap id with
  | some (.mq kk e xs) => match Ty.dec (.mp (.i kk) (.sl e)) (.mp k v) with
   | some ⟨h⟩ => some ((h ▸ (show T (.mp (.i kk) (.sl e)) from xs) : T (.mp k v)), ())
   | none => none
  | _ => none
 | _, _, _ => none
def Kg (s : AS) : (rt : Ty) → List Bool → D → Option (T rt × List Nat)
 | .u, [], .un => some ((), [])
 | .p x y, f :: r, .pr a b => match (bif f then Pb s a x else match Bj a x with
  | some u => some (u, [])
  | none => none), Kg s y r b with
  | some (u, l), some (v, m) => some ((u, v), l ++ m)
  | _, _ => none
 | _, _, _ => none
def Uv : (pt : Ty) → T pt → Nat → List (Nat × D)
 | .p x y, v, n => (n, .t x v.1) :: Uv y v.2 (n + 1)
 | _, _, _ => []
def evF (G : Ue) (L : List (Nat × Za)) (fn : Func) (pt rt : Ty) (fr : List Bool) (x : T pt) : Option (T rt) :=
 match fn.body with
 | some c => Mu G L c ⟨fn.ntmps, Uv pt x 0, []⟩ fun e s => match e with
  | .exit _ => none
  | _ => match Vv G s fn.results.toList with
   | some d => match Cae s rt fr d with
    | some r => some r
    | none => match Kg s rt fr d with
     | some (r, l) => bif Nf l then some r else none
     | none => none
   | none => none
 | none => none
end
section
variable {P : Program} {Out : Type} {n0 : Nat} {A : Fx} {O0 : Nat → Prop} {w0 w w' : World} {s : AS} {σ σ' : Nat → Value} {φ φ' : Nat → List Nat} {a : Act}
def Ve (n0 : Nat) (A : Fx) (O0 : Nat → Prop) (w0 : World) (k : AS → Option Out) (out : Out) (a : Act) (w : World) : Prop :=
 ∃ s σ φ, k s = some out ∧ Qa n0 A O0 w0 s σ φ a w
theorem Qa.put (h : Qa n0 A O0 w0 s σ φ a w) {t : Nat} (ht : t < s.n) {d : D} {v : Value} (hr : Zc w (OO O0 s φ) s.heap σ d v) :
 Qa n0 A O0 w0 ⟨s.n, (t, d) :: s.tm, s.hp⟩ σ φ (a.put (some t) v) w := by
 refine ⟨?_, h.df, ?_, h.hp, h.nodup, h.disj, h.fresh, h.o0, h.fr, h.pin, h.iv0, h.ivw, h.shr⟩
 ·simpa [Act.put] using h.sz
 ·intro t' d' hd
  rw [Tc] at hd
  have hsz := h.sz
  split at hd
  ·rename_i e
   subst e
   simp only [jc] at hd
   subst hd
   exact ⟨v, by simp [Act.put, hsz, ht], hr⟩
  ·rename_i e
   obtain ⟨v', hv', hr'⟩ := h.tm t' d' hd
   exact ⟨v', by simpa [Act.put, Array.getElem?_setIfInBounds_ne e] using hv', hr'⟩
theorem Qa.same (h : Qa n0 A O0 w0 s σ φ a w) {t : Nat} {d : D} (hd : Jb s.tm t = some d) :
 Qa n0 A O0 w0 ⟨s.n, (t, d) :: s.tm, s.hp⟩ σ φ a w := by
 refine ⟨h.sz, h.df, ?_, h.hp, h.nodup, h.disj, h.fresh, h.o0, h.fr, h.pin, h.iv0, h.ivw, h.shr⟩
 intro t' d' hd'
 rw [Tc] at hd'
 split at hd'
 ·rename_i e
  subst e
  simp only [jc] at hd'
  subst hd'
  exact h.tm _ _ hd
 ·exact h.tm _ _ hd'
variable {o : Oper} {Q : Exit → Act → World → Prop} {k : AS → Option Out} {out : Out} {d : D} {v : Value} {upd : List (Nat × Option Ia)} {dst : Option Tmp}
theorem Me {s₁ : AS} (hn : s₁ = ⟨s.n, s.tm, upd ++ s.hp⟩) (hc : Qa n0 A O0 w0 s₁ σ' φ' a w') (hr : Zc w' (OO O0 s₁ φ') s₁.heap σ' d v)
 (he : Zg s dst d upd k = some out) : Ve n0 A O0 w0 k out (a.put dst v) w' := by
 subst hn
 unfold Zg at he
 cases dst with
 | none => exact ⟨_, σ', φ', he, hc⟩
 | some t =>
  simp only at he
  cases hb : yb t s.n with
  | false => simp [hb] at he
  | true =>
   rw [hb] at he
   have ht : t < s.n := by rwa [ye] at hb
   exact ⟨_, σ', φ', he, Qa.put (s := ⟨s.n, s.tm, upd ++ s.hp⟩) hc ht hr⟩
theorem Cc (h : Qa n0 A O0 w0 s σ φ a w) (hr : Zc w (OO O0 s φ) s.heap σ d v) (he : Zg s dst d [] k = some out) :
 Ve n0 A O0 w0 k out (a.put dst v) w := Me (s := s) (s₁ := s) rfl h hr he
theorem Aae {cv : Value} {d : D} (h : TN cv = some d) {O : Nat → Prop} {hp : Nat → Option Ia} : Zc w O hp σ d cv := by
 unfold TN at h
 split at h <;> simp only [jc, reduceCtorEq] at h
 ·subst h; simp [Zc, Se, D.isAgg, Ab, La]
 ·subst h; simp [Zc, Se, D.isAgg, Ab, La]
 ·subst h; simp [Zc, Se, D.isAgg, Ab, La]
 ·subst h; simp [Zc, Se, D.isAgg, Ab]
 ·subst h; simp [Zc]
 ·subst h; simp [Zc]
theorem Qa.ev (h : Qa n0 A O0 w0 s σ φ a w) {x : Operand} {d : D} (hx : s.ev x = some d) : Zc w (OO O0 s φ) s.heap σ d (a.eval x) := by
 cases x with
 | tmp t =>
  obtain ⟨v, hv, hr⟩ := h.tm t d hx
  simp only [Act.eval]
  rw [Array.getD_eq_getD_getElem?, hv]
  exact hr
 | const v => exact Aae hx
 | _ => simp [AS.ev] at hx
theorem Ge {O : Nat → Prop} {hp : Nat → Option Ia} {k : IntKind} {n : Int} {v : Value} : Zc w O hp σ (.t (.i k) n) v ↔ v = .int k n := by
 simp [Zc, Se, D.isAgg, Ab, La]
theorem Ui {O : Nat → Prop} {hp : Nat → Option Ia} {n : Bool} {v : Value} : Zc w O hp σ (.t .b n) v ↔ v = .bool n := by
 simp [Zc, Se, D.isAgg, Ab, La]
theorem Yl {O : Nat → Prop} {hp : Nat → Option Ia} {n : List UInt8} {v : Value} : Zc w O hp σ (.t .s n) v ↔ v = .string ⟨n.toArray⟩ := by
 simp [Zc, Se, D.isAgg, Ab, La]
theorem Dx {O : Nat → Prop} {hp : Nat → Option Ia} {v : Value} : Zc w O hp σ .und v ↔ v = undef := by simp [Zc]
theorem Mao (h : Qa n0 A O0 w0 s σ φ a w) {tb : Bool} {op : BinOp} {t : TypeId} {x y : D} {u v : Value} {X Y : Operand}
 (hx : Zc w (OO O0 s φ) s.heap σ x u) (hy : Zc w (OO O0 s φ) s.heap σ y v) (he : Bat s tb dst op x y k = some out) (htb : tb = true → P.underlying t = some .bool) :
 ∃ r, (do eqGuard op t X Y u v; binOp op t u v : Sem Value).run P w = .ok r w ∧ Ve n0 A O0 w0 k out (a.put dst r) w := by
 unfold Bat XP at he
 split at he
 ·rename_i ka x kb y
  rw [Ge] at hx hy
  subst hx; subst hy
  have hg : (eqGuard op t X Y (.int ka x) (.int kb y)).run P w = .ok () w := by
   unfold eqGuard; split <;> rfl
  simp only [qo, hg, qn]
  have shi : ∀ {op : BinOp} {z : Int}, Zg s dst (.t (.i ka) z) [] k = some out → (binOp op t (.int ka x) (.int kb y)).run P w = .ok (.int ka z) w →
   ∃ r, (binOp op t (.int ka x) (.int kb y)).run P w = .ok r w ∧ Ve n0 A O0 w0 k out (a.put dst r) w :=
   fun hf hr => ⟨_, hr, Cc h (Ge.2 rfl) hf⟩
  have shb : ∀ {op : BinOp} {z : Bool}, Zg s dst (.t .b z) [] k = some out → (binOp op t (.int ka x) (.int kb y)).run P w = .ok (.bool z) w →
   ∃ r, (binOp op t (.int ka x) (.int kb y)).run P w = .ok r w ∧ Ve n0 A O0 w0 k out (a.put dst r) w :=
   fun hf hr => ⟨_, hr, Cc h (Ui.2 rfl) hf⟩
  split at he
  ·cases hy0 : decide (0 ≤ y) with
   | false => simp [hy0] at he
   | true =>
    simp only [hy0, ze] at he
    have : ¬ y < 0 := by simpa using hy0
    refine shi he ?_
    simp [binOp, Op.shift, this, Ke]
  ·cases hy0 : decide (0 ≤ y) with
   | false => simp [hy0] at he
   | true =>
    simp only [hy0, ze] at he
    have : ¬ y < 0 := by simpa using hy0
    refine shi he ?_
    simp [binOp, Op.shift, this, Bu]
  ·cases hk : (ka == kb) with
   | false => simp [hk] at he
   | true =>
    simp only [hk, ze] at he
    have hkk : ka = kb := by simpa using hk
    subst hkk
    split at he
    ·refine shi he ?_; simp [binOp, Op.intArith]
    ·refine shi he ?_; simp [binOp, Op.intArith]
    ·refine shi he ?_; simp [binOp, Op.intArith]
    ·cases hz : ((y : Int) == 0) with
     | true => simp [hz] at he
     | false =>
      simp only [hz, zf] at he
      have : ¬ y = 0 := by simpa using hz
      refine shi he ?_
      simp [binOp, Op.intDiv, this]
    ·cases hz : ((y : Int) == 0) with
     | true => simp [hz] at he
     | false =>
      simp only [hz, zf] at he
      have : ¬ y = 0 := by simpa using hz
      refine shi he ?_
      simp [binOp, Op.intDiv, this]
    ·refine shi he ?_; simp [binOp, Op.intBits, Cl]
    ·refine shi he ?_; simp [binOp, Op.intBits, Xe]
    ·refine shi he ?_; simp [binOp, Op.intBits, Yn]
    ·refine shi he ?_; simp [binOp, Op.intBits, Sk]
    ·refine shb he ?_; simp [binOp, Op.intCmp]
    ·refine shb he ?_; simp [binOp, Op.intCmp]
    ·refine shb he ?_; simp [binOp, Op.intCmp]
    ·refine shb he ?_; simp [binOp, Op.intCmp]
    ·refine shb he ?_; simp [binOp, Op.intCmp]
    ·refine shb he ?_; simp [binOp, Op.intCmp]
    ·simp at he
 ·rename_i x y
  rw [Yl] at hx hy
  subst hx; subst hy
  have hg : (eqGuard op t X Y (.string ⟨qr x⟩) (.string ⟨qr y⟩)).run P w = .ok () w := by
   unfold eqGuard; split <;> rfl
  simp only [qo, hg, qn]
  have e1 : (ByteArray.mk (qr x)).toList = x := ByteArray.toList_mk x
  have e2 : (ByteArray.mk (qr y)).toList = y := ByteArray.toList_mk y
  split at he
  ·cases hl : jx (ja x + ja y) Oa with
   | false => simp [hl] at he
   | true =>
    simp only [hl, ze] at he
    have hle := q6 hl
    refine ⟨_, ?_, Cc h (Yl.2 rfl) he⟩
    have hs : ¬ (((ByteArray.mk (qr x)).size + (ByteArray.mk (qr y)).size : Nat) : Int) > IntKind.i64.max := by
     have : (ByteArray.mk (qr x)).size + (ByteArray.mk (qr y)).size = ja x + ja y := by simp [ByteArray.size]
     rw [this]
     have : IntKind.i64.max = 9223372036854775807 := by decide
     rw [this]
     unfold Oa at hle
     omega
    have ha : ByteArray.mk (qr x) ++ ByteArray.mk (qr y) = ByteArray.mk (qr (jf x y)) := by
     apply ByteArray.ext
     simp
    simp only [binOp, Op.stringOp, if_neg hs, ha]
    rfl
  ·refine ⟨_, ?_, Cc h (Ui.2 rfl) he⟩
   simp [binOp, Op.stringOp, e1, e2]
  ·refine ⟨_, ?_, Cc h (Ui.2 rfl) he⟩
   simp [binOp, Op.stringOp, e1, e2, bne]
  ·simp at he
 ·rename_i x y
  rw [Ui] at hx hy
  subst hx; subst hy
  have hg : (eqGuard op t X Y (.bool x) (.bool y)).run P w = .ok () w := by
   unfold eqGuard; split <;> rfl
  simp only [qo, hg, qn]
  split at he
  ·cases tb with
   | false => simp at he
   | true =>
    refine ⟨_, ?_, Cc h (Ui.2 rfl) he⟩
    simp [binOp, run_equal_bool w t x y (htb rfl)]
  ·cases tb with
   | false => simp at he
   | true =>
    refine ⟨_, ?_, Cc h (Ui.2 rfl) he⟩
    simp [binOp, run_equal_bool w t x y (htb rfl), bne]
  ·simp at he
 ·simp at he
end
def ZR (P : Program) (t : TypeId) (e : Ty) (n : Nat) : Bool :=
 (match P.underlying t with
 | some (.array m et) => qw m n && Nd P e et
 | _ => false) && (match P.info? t with
 | some i => (match i.zero with
  | some (.agg cs) => PE cs.toList (yd n e.zc).flatten
  | _ => false)
 | none => false)
structure EnvTy (P : Program) (G : Ue) : Prop where
 ty : ∀ t τ, Jb G.ty t = some τ → Nd P τ t = true
 ar : ∀ t e n, Jb G.ar t = some (e, n) → ZR P t e n = true
section
variable {P : Program} {Out : Type} {n0 : Nat} {A : Fx} {O0 : Nat → Prop} {w0 w w' : World} {s : AS} {σ σ' : Nat → Value} {φ φ' : Nat → List Nat} {a : Act}
variable {o : Oper} {Q : Exit → Act → World → Prop} {k : AS → Option Out} {out : Out} {d : D} {v : Value} {upd : List (Nat × Option Ia)} {dst : Option Tmp} {G : Ue}
theorem Rb (hrun : (execOp a.eval o).run P w = .ok (.value v) w') (hg : Ve n0 A O0 w0 k out (a.put o.dst v) w') : o.wp P a w (Ve n0 A O0 w0 k out) Q := by
 unfold Oper.wp; rw [hrun]; exact hg
theorem LD (hrun : (execOp a.eval o).run P w = .ok .skip w') (hg : Ve n0 A O0 w0 k out (a.put o.dst undef) w') : o.wp P a w (Ve n0 A O0 w0 k out) Q := by
 unfold Oper.wp; rw [hrun]; exact hg
theorem X9 (h : Qa n0 A O0 w0 s σ φ a w) {x : Operand} (ho : o.op = .move x ∨ o.op = .assign x)
 (he : (match s.ev x with | some d => Zg s o.dst d [] k | none => none) = some out) : o.wp P a w (Ve n0 A O0 w0 k out) Q := by
 split at he
 ·rename_i d hd
  refine Rb (v := a.eval x) (w' := w) ?_ (Cc h (h.ev hd) he)
  rcases ho with ho | ho <;> simp [execOp, ho]
 ·simp at he
theorem Har (h : Qa n0 A O0 w0 s σ φ a w) {c x y : Operand} (ho : o.op = .pick c x y)
 (he : Hf G s o k = some out) : o.wp P a w (Ve n0 A O0 w0 k out) Q := by
 simp only [Hf, Sb, ho] at he
 split at he
 ·rename_i β hc
  have hv := h.ev hc
  rw [Ui] at hv
  have hrun : ∀ z : Value, (if (show Bool from β) then a.eval x else a.eval y) = z → (execOp a.eval o).run P w = .ok (.value z) w := by
   intro z hz
   simp only [execOp, ho, hv, asBool, qo, Sem.run_pure, qn]
   rw [← hz]
  cases hb : (show Bool from β) with
  | true =>
   have hb' : β = true := hb
   subst hb'
   simp only [ze] at he
   split at he
   ·rename_i d hd
    exact Rb (hrun _ rfl) (Cc h (h.ev hd) he)
   ·simp at he
  | false =>
   have hb' : β = false := hb
   subst hb'
   simp only [zf] at he
   split at he
   ·rename_i d hd
    exact Rb (hrun _ rfl) (Cc h (h.ev hd) he)
   ·simp at he
 ·simp at he
theorem Iar (h : Qa n0 A O0 w0 s σ φ a w) {op : UnOp} {t : TypeId} {x : Operand} (ho : o.op = .unOp op t x)
 (he : Hf G s o k = some out) : o.wp P a w (Ve n0 A O0 w0 k out) Q := by
 simp only [Hf, Sb, ho] at he
 split at he
 ·rename_i b hx
  have hv := h.ev hx
  rw [Ui] at hv
  exact Rb (w' := w) (by simp [execOp, ho, hv, Op.unary]) (Cc h (Ui.2 rfl) he)
 ·rename_i kk n hx
  have hv := h.ev hx
  rw [Ge] at hv
  exact Rb (w' := w) (by simp [execOp, ho, hv, Op.unary, Op.intArith]) (Cc h (Ge.2 rfl) he)
 ·simp at he
theorem Nak (hG : EnvTy P G) (h : Qa n0 A O0 w0 s σ φ a w) {op : BinOp} {t t' : TypeId} {x y : Operand} (ho : o.op = .binOp op t x y t')
 (hagg : ∀ u, s.ev x = some u → u.isAgg = false) (he : Hf G s o k = some out) : o.wp P a w (Ve n0 A O0 w0 k out) Q := by
 simp only [Hf, Sb, ho] at he
 split at he
 ·rename_i u v hu hv
  rw [hagg u hu] at he
  simp only [zf] at he
  obtain ⟨r, hr, hg⟩ := Mao (P := P) (t := t) (X := x) (Y := y) h (h.ev hu) (h.ev hv) he (by
   intro htb
   split at htb
   ·rename_i hb; exact Tok.b (hG.ty _ _ hb)
   ·simp at htb)
  exact Rb (w' := w) (by simp only [execOp, ho]; rw [qo, hr]; rfl) hg
 ·simp at he
theorem Vq {O : Nat → Prop} {hp : Nat → Option Ia} {τ : Ty} {d : D} {cs : List Value} (hs : Bb τ d) (h : Ab w O hp σ d cs) : Zc w O hp σ d (Od τ cs) := by
 have ha := hs.isAgg
 have hl := Ab.length hs h
 have key : Se w O hp σ d (Od τ cs) := by
  unfold Se Od
  rw [ha]
  cases hτ : τ.isAgg with
  | true => simp only [if_true]; exact ⟨cs.toArray, rfl, by simpa using h⟩
  | false =>
   simp only [jq, if_false]
   rw [Ty.size_one hτ] at hl
   obtain ⟨v, rfl⟩ := q9.1 hl
   simpa using h
 unfold Zc
 split
 ·cases τ <;> simp [Bb] at hs
 ·cases τ <;> simp [Bb] at hs
 ·cases τ <;> simp [Bb] at hs
 ·exact key
theorem Ye {O : Nat → Prop} {hp : Nat → Option Ia} {τ : Ty} {d : D} {v : Value} (hs : Bb τ d) (h : Zc w O hp σ d v) : Ab w O hp σ d v.cells.toList ∧ v = Od τ v.cells.toList := by
 have hV : Se w O hp σ d v := by
  cases d <;> first | (exact h) | (cases τ <;> simp [Bb] at hs)
 have ha := hs.isAgg
 unfold Se at hV
 rw [ha] at hV
 cases hτ : τ.isAgg with
 | true =>
  rw [hτ] at hV
  simp only [if_true] at hV
  obtain ⟨cs, rfl, hr⟩ := hV
  exact ⟨by simpa [Value.cells] using hr, by simp [Od, hτ, Value.cells]⟩
 | false =>
  rw [hτ] at hV
  simp only [jq, if_false] at hV
  have hone : v.cells = #[v] := by
   cases d with
   | t τ' x =>
    simp only [Bb] at hs
    subst hs
    cases τ' with
    | i k => simp only [Ab, La] at hV; simp at hV; subst hV; rfl
    | b => simp only [Ab, La] at hV; simp at hV; subst hV; rfl
    | o => simp only [Ab, La] at hV; simp at hV; subst hV; rfl
    | mp k m => obtain ⟨hq, _⟩ | ⟨q, es, clk, hq, _⟩ := hV <;> (simp at hq; subst hq; rfl)
    | s => simp only [Ab, La] at hV; simp at hV; subst hV; rfl
    | sl e => obtain ⟨q, c, hq, _⟩ := hV; simp at hq; subst hq; rfl
    | u => simp [Ty.isAgg] at hτ
    | p x y => simp [Ty.isAgg] at hτ
   | nil => simp only [Ab] at hV; simp at hV; subst hV; rfl
   | own id =>
    obtain ⟨u, hu, h1, _⟩ := hV
    simp at hu; subst hu
    cases v <;> simp_all [Value.oneCell', Value.cells]
   | mpo id =>
    obtain ⟨u, hu, h1, _⟩ := hV
    simp at hu; subst hu
    cases v <;> simp_all [Value.oneCell', Value.cells]
   | cut id lo hi =>
    obtain ⟨u, hu, h1, _⟩ := hV
    simp at hu; subst hu
    cases v <;> simp_all [Value.oneCell', Value.cells]
   | _ => cases τ <;> simp [Bb, Ty.isAgg] at hs hτ
  rw [hone]
  exact ⟨by simpa using hV, by simp [Od, hτ]⟩
end
theorem Ud {x y : Ty} {q : PLift (x = y)} (_ : Ty.dec x y = some q) : x = y := q.down
section
variable {P : Program} {Out : Type} {n0 : Nat} {A : Fx} {O0 : Nat → Prop} {w0 w w' : World} {s : AS} {σ σ' : Nat → Value} {φ φ' : Nat → List Nat} {a : Act}
variable {o : Oper} {Q : Exit → Act → World → Prop} {k : AS → Option Out} {out : Out} {d : D} {v : Value} {upd : List (Nat × Option Ia)} {dst : Option Tmp} {G : Ue}
theorem Uq {id : Nat} {path : List Nat} {hp : Nat → Option Ia} {O : Nat → Prop} : Zc w O hp σ (.ptr id path) v ↔
 v.oneCell' = true ∧ ∀ ρ d, hp id = some (.box ρ d) → ∃ b, σ id = .pointer (some ⟨b, 0, none⟩) ∧ v = .pointer (some ⟨b, Hb ρ path, none⟩) := by
 simp only [Zc, Se, D.isAgg, jq, if_false, Ab]
 constructor
 ·rintro ⟨u, hu, h1, h2⟩
  simp at hu; subst hu; exact ⟨h1, h2⟩
 ·rintro ⟨h1, h2⟩; exact ⟨v, rfl, h1, h2⟩
theorem Sj {id i : Nat} {path : List Nat} {hp : Nat → Option Ia} {O : Nat → Prop} : Zc w O hp σ (.eptr id i path) v ↔
 v.oneCell' = true ∧ ∀ Da e n, hp id = some Da → Da.rowN = some (e, n) → i < n ∧
  ∃ b off cap, σ id = .slice (some ⟨b, off, none⟩) n cap ∧ v = .pointer (some ⟨b, off + i * e.size + Hb e path, none⟩) := by
 simp only [Zc, Se, D.isAgg, jq, if_false, Ab]
 constructor
 ·rintro ⟨u, hu, h1, h2⟩
  simp at hu; subst hu; exact ⟨h1, h2⟩
 ·rintro ⟨h1, h2⟩; exact ⟨v, rfl, h1, h2⟩
theorem GL {τ : Ty} {x : T τ} {hp : Nat → Option Ia} {O : Nat → Prop} : Zc w O hp σ (.rp τ x) v ↔
 ∃ b off cur et fr, v = .pointer (some ⟨b, off, none⟩) ∧ ¬ O b ∧ w.heap[b]? = some (.cells cur et fr) ∧ off + τ.size ≤ cur.size ∧ La w O τ x (Fd cur off τ.size) := by
 simp [Zc, Se, D.isAgg, Ab]
theorem TG {e : Ty} {x : List (T e)} {hp : Nat → Option Ia} {O : Nat → Prop} : Zc w O hp σ (.t (.sl e) x) v ↔ La w O (.sl e) x [v] := by
 simp [Zc, Se, D.isAgg, Ab]
theorem Cu {w : World} : ∀ {τ : Ty} {x : T τ} {cs : List Value} {F : List Nat}, τ.flat = true → Tb w τ x cs F → F = []
 | .i _, _, _, _, _, h => h.2
 | .b, _, _, _, _, h => h.2
 | .o, _, _, _, _, h => h.2
 | .mp _ _, _, _, _, hf, _ => by simp [Ty.flat] at hf
 | .s, _, _, _, _, h => h.2
 | .sl _, _, _, _, hf, _ => by simp [Ty.flat] at hf
 | .u, _, _, _, _, h => h.2
 | .p x y, _, _, _, hf, h => by
  obtain ⟨c1, c2, F1, F2, _, hF, h1, h2⟩ := h
  simp only [Ty.flat, jd] at hf
  rw [hF, Cu hf.1 h1, Cu hf.2 h2]; rfl
theorem Aal {id : Nat} {e : Ty} {dp : Bool} {xs : List (T e)} {O : Nat → Prop} {hp : Nat → Option Ia} {F : List Nat} (h : Nc w O hp σ id (.row e dp xs) F)
 (hf : dp = false ∨ e.flat = true) {i : Nat} {x : T e} (hx : xs[i]? = some x) {b off cap : Nat} (hσ : σ id = .slice (some ⟨b, off, none⟩) (ja xs) cap) :
 ∃ cur et, w.heap[b]? = some (.cells cur et (0, 0)) ∧ off + i * e.size + e.size ≤ cur.size ∧ La w O e x (Fd cur (off + i * e.size) e.size) := by
 have hi : i < ja xs := (q8.1 hx).1
 have hxe : List.get xs ⟨i, hi⟩ = x := by simpa [je hi] using hx
 have hlt : (i + 1) * e.size ≤ ja xs * e.size := jm _ hi
 rw [yf, Nat.one_mul] at hlt
 cases dp with
 | true =>
  have hfl : e.flat = true := by simpa using hf
  simp only [Nc, Tb, hσ] at h
  obtain ⟨hm, ⟨h1, _⟩ | ⟨bl, off', cap', cur, et, Fs, h1, hh, h2, h3, h4, hF, hl, hv⟩⟩ := h
  ·simp at h1
  ·simp at h1
   obtain ⟨⟨rfl, rfl⟩, rfl⟩ := h1
   have := hv i hi
   rw [hxe] at this
   have hcap := jm e.size h2
   refine ⟨cur, et, hh, by omega, ?_⟩
   have hnil : Fs.getD i [] = [] := Cu hfl this
   exact this.view (by rw [hnil]; simp)
 | false =>
  simp only [Nc, hσ] at h
  obtain ⟨hm, ⟨h1, _⟩ | ⟨bl, off', cap', cur, et, h1, hh, h2, h3, h4, hF, hv⟩⟩ := h
  ·simp at h1
  ·simp at h1
   obtain ⟨⟨rfl, rfl⟩, rfl⟩ := h1
   have := hv i hi
   rw [hxe] at this
   have hcap := jm e.size h2
   exact ⟨cur, et, hh, by omega, this⟩
end
section
variable {P : Program} {Out : Type} {n0 : Nat} {A : Fx} {O0 : Nat → Prop} {w0 w w' : World} {s : AS} {σ σ' : Nat → Value} {φ φ' : Nat → List Nat} {a : Act}
variable {o : Oper} {Q : Exit → Act → World → Prop} {k : AS → Option Out} {out : Out} {d : D} {v : Value} {upd : List (Nat × Option Ia)} {dst : Option Tmp} {G : Ue}
theorem Tok.field {τ τf : Ty} {t : TypeId} {n : Nat} (h : Nd P τ t = true) (hf : Na τ n = some τf) :
 ∃ fs f, P.underlying t = some (.struct fs) ∧ fs[n]? = some f ∧ f.offset = Wc τ n ∧ Nd P τf f.type = true := by
 have ha : τ.isAgg = true := by cases τ <;> simp_all [Na, Ty.isAgg]
 obtain ⟨fs, hu, hk⟩ := Tok.struct ha h
 obtain ⟨f, h1, h2, h3⟩ := Fok.field hk hf
 exact ⟨fs, f, hu, by simpa using h1, by simpa using h2, h3⟩
theorem BK {τ τf : Ty} {t : TypeId} {n : Nat} (h : Nd P τ t = true) (hf : Na τ n = some τf) (hs : 0 < τf.size) (b off : Nat) :
 (Instr.fieldAt t (.pointer (some ⟨b, off, none⟩)) n).run P w = .ok (.pointer (some ⟨b, off + Wc τ n, none⟩)) w := by
 obtain ⟨fs, f, hu, h1, h2, h3⟩ := Tok.field h hf
 have hz : ¬ τf.size = 0 := by omega
 simp [Instr.fieldAt, run_underlying hu, h1, Instr.sureAddr, fieldPlace, Tok.sizeOf h3 w, hz, Ln, h2]
theorem KM : ∀ {p : List Nat} {ρ τ : Ty} {f : Nat}, Ze ρ p = some τ → Hb ρ (p ++ [f]) = Hb ρ p + Wc τ f
 | [], ρ, τ, f, h => by
  simp only [Ze, jc] at h
  subst h
  simp only [List.nil_append, Hb, js]
  cases Na ρ f <;> simp
 | g :: p, ρ, τ, f, h => by
  simp only [Ze] at h
  cases hg : Na ρ g with
  | none => simp [hg] at h
  | some τ' =>
   simp only [hg, jb] at h
   have := KM (f := f) h
   simp only [yg, Hb, hg, qb, qz, this]
   omega
theorem D5 (hG : EnvTy P G) (h : Qa n0 A O0 w0 s σ φ a w) {t : TypeId} {x : Operand} {f : Nat} (ho : o.op = .fieldAddr t x f)
 (he : Hf G s o k = some out) : o.wp P a w (Ve n0 A O0 w0 k out) Q := by
 simp only [Hf, Sb, ho] at he
 split at he
 ·rename_i τ id path hty hx
  split at he
  ·rename_i ρ d hb
   split at he
   ·rename_i τ' τf ht hf
    split at he
    ·rename_i q hq
     obtain rfl := Ud hq
     cases hz : yb 0 τf.size with
     | false => simp [hz] at he
     | true =>
      simp only [hz, ze] at he
      rw [ye] at hz
      have hv := h.ev hx
      rw [Uq] at hv
      obtain ⟨b, hσ, hv⟩ := hv.2 ρ d hb
      have hr := BK (w := w) (hG.ty _ _ hty) hf hz b (Hb ρ path)
      refine Rb (w' := w) (v := .pointer (some ⟨b, Hb ρ path + Wc τ' f, none⟩)) (by simp [execOp, ho, hv, hr]) (Cc h ?_ he)
      rw [Uq]
      refine ⟨rfl, fun ρ' d' hb' => ?_⟩
      rw [hb] at hb'
      simp at hb'
      obtain ⟨rfl, rfl⟩ := hb'
      exact ⟨b, hσ, by rw [KM ht]⟩
    ·simp at he
   ·simp at he
  ·simp at he
 ·rename_i τ id i path hty hx
  split at he
  ·rename_i e len hbN
   obtain ⟨Da, hb, hN⟩ := qe.1 hbN
   split at he
   ·rename_i τ' τf ht hf
    split at he
    ·rename_i q hq
     obtain rfl := Ud hq
     cases hz : yb 0 τf.size with
     | false => simp [hz] at he
     | true =>
      simp only [hz, ze] at he
      rw [ye] at hz
      have hv := h.ev hx
      rw [Sj] at hv
      obtain ⟨hi, b, off, cap, hσ, hv⟩ := hv.2 _ _ _ hb hN
      have hr := BK (w := w) (hG.ty _ _ hty) hf hz b (off + i * e.size + Hb e path)
      refine Rb (w' := w) (v := .pointer (some ⟨b, off + i * e.size + Hb e path + Wc τ' f, none⟩)) (by simp [execOp, ho, hv, hr]) (Cc h ?_ he)
      rw [Sj]
      refine ⟨rfl, fun blk' e' n' hb' hr' => ?_⟩
      rw [hb] at hb'
      cases hb'
      rw [hN] at hr'
      simp only [jc, jh] at hr'
      obtain ⟨rfl, rfl⟩ := hr'
      exact ⟨hi, b, off, cap, hσ, by rw [KM ht]; congr 3; omega⟩
    ·simp at he
   ·simp at he
  ·simp at he
 ·rename_i τ τ' y hty hx
  split at he
  ·rename_i q τf u τg hq hfd hf
   obtain rfl := Ud hq
   cases hz : yb 0 τg.size with
   | false => simp [hz] at he
   | true =>
    simp only [hz, ze] at he
    rw [ye] at hz
    have hv := h.ev hx
    rw [GL] at hv
    obtain ⟨b, off, cur, et, fr, hv, hO, hh, hs, hvw⟩ := hv
    have hr := BK (w := w) (hG.ty _ _ hty) hf hz b off
    have hrep : Ab w (OO O0 s φ) s.heap σ (.t τ' y) (Fd cur off τ'.size) := hvw
    obtain ⟨hse, hre⟩ := Ab.field (by simp [Bb]) hf hfd hrep
    simp only [Bb] at hse
    subst hse
    have hle := Ks hf
    rw [JL _ _ _ _ _ hle] at hre
    refine Rb (w' := w) (v := .pointer (some ⟨b, off + Wc τ' f, none⟩)) (by simp [execOp, ho, hv, hr]) (Cc h ?_ he)
    rw [GL]
    exact ⟨b, off + Wc τ' f, cur, et, fr, rfl, hO, hh, by omega, hre⟩
  ·simp at he
 ·simp at he
theorem S6 (h : Qa n0 A O0 w0 s σ φ a w) {x : Operand} (ho : o.op = .nilCheck x)
 (he : Hf G s o k = some out) : o.wp P a w (Ve n0 A O0 w0 k out) Q := by
 simp only [Hf, Sb, ho] at he
 split at he
 ·rename_i id p hx
  split at he
  ·rename_i ρ d hb
   have hv := h.ev hx
   have hv' := hv
   rw [Uq] at hv
   obtain ⟨b, hσ, hv⟩ := hv.2 ρ d hb
   refine Rb (w' := w) (v := a.eval x) ?_ (Cc h hv' he)
   simp [execOp, ho, hv]
  ·simp at he
 ·rename_i τ y hx
  have hv := h.ev hx
  have hv' := hv
  rw [GL] at hv
  obtain ⟨b, off, cur, et, fr, hv, _⟩ := hv
  refine Rb (w' := w) (v := a.eval x) ?_ (Cc h hv' he)
  simp [execOp, ho, hv]
 ·rename_i id i p hx
  split at he
  ·rename_i r hbN
   obtain ⟨Da, hb, hN⟩ := qe.1 hbN
   have hv := h.ev hx
   have hv' := hv
   rw [Sj] at hv
   obtain ⟨_, b, off, cap, _, hv⟩ := hv.2 Da r.1 r.2 hb hN
   refine Rb (w' := w) (v := a.eval x) ?_ (Cc h hv' he)
   simp [execOp, ho, hv]
  ·simp at he
 ·simp at he
theorem H4 {α : Type} {xs : List α} {i : Int} {x : α} (h : Hc xs i = some x) : 0 ≤ i ∧ i.toNat < xs.length ∧ xs[i.toNat]? = some x := by
 unfold Hc at h
 cases hd : decide (0 ≤ i) with
 | false => simp [hd] at h
 | true =>
  simp only [hd, ze] at h
  exact ⟨by simpa using hd, (q8.1 h).1, h⟩
theorem Qak (h : Qa n0 A O0 w0 s σ φ a w) (hG : EnvTy P G) {t : TypeId} {x y : Operand} (ho : o.op = .index t x y)
 (he : Hf G s o k = some out) : o.wp P a w (Ve n0 A O0 w0 k out) Q := by
 simp only [Hf, Sb, ho] at he
 split at he
 ·rename_i v kk n ht hx hy
  cases hi : Hc (show List UInt8 from v) n with
  | none => simp [hi] at he
  | some c =>
   simp only [hi, jb] at he
   obtain ⟨h0, hlt, hg⟩ := H4 hi
   have hv := h.ev hx
   have hn := h.ev hy
   rw [Yl] at hv
   rw [Ge] at hn
   have hlt2 : n.toNat < ja v := hlt
   have hsz : n < ((ByteArray.mk (qr v)).size : Int) := by
    have : (ByteArray.mk (qr v)).size = ja v := by simp [ByteArray.size]
    rw [this]; exact (Int.toNat_lt h0).1 hlt2
   have hg' : List.get v ⟨n.toNat, hlt2⟩ = c := by
    have : (show List UInt8 from v)[n.toNat]? = some c := hg
    simpa [je hlt2] using this
   have hr := run_index_string (P := P) w t (ByteArray.mk (qr v)) kk n (Tok.s (hG.ty _ _ ht))
   rw [dif_pos ⟨h0, hsz⟩] at hr
   have hsz2 : n.toNat < (ByteArray.mk (qr v)).size := by simpa [ByteArray.size] using hlt2
   have hc : ((ByteArray.mk (qr v))[n.toNat]'hsz2) = c := hg'
   rw [hc] at hr
   refine Rb (w' := w) (v := .int .u8 c.toNat) ?_ (Cc h (Ge.2 rfl) he)
   simp only [execOp, ho, hv, hn, qo, hr, qn, Sem.run_pure]
 ·simp at he
theorem TM {id : Nat} {Da : Ia} {e : Ty} {n : Nat} {O : Nat → Prop} {hp : Nat → Option Ia} {F : List Nat} (h : Nc w O hp σ id Da F) (hr : Da.rowN = some (e, n)) :
 ∃ ad cap, σ id = .slice ad n cap ∧ (0 < n → ∃ b off, ad = some ⟨b, off, none⟩) := by
 cases Da with
 | box ρ d => simp [Ia.rowN] at hr
 | mp _ _ _ => simp [Ia.rowN] at hr
 | mq _ _ _ => simp [Ia.rowN] at hr
 | mx _ _ _ => simp [Ia.rowN] at hr
 | fz e' xs =>
  simp only [Ia.rowN, jc, jh] at hr
  obtain ⟨rfl, rfl⟩ := hr
  obtain ⟨_, ad, cap, h1, _, _, h2⟩ := h
  simp only [yh, and_true] at h1
  refine ⟨ad, cap, h1, fun h0 => ?_⟩
  rcases h2 with h2 | ⟨bl, off, _, _, _, h2, _⟩
  ·subst h2; simp at h0
  ·exact ⟨bl, off, h2⟩
 | row e' dp xs =>
  simp only [Ia.rowN, jc, jh] at hr
  obtain ⟨rfl, rfl⟩ := hr
  cases dp with
  | true =>
   simp only [Nc, Tb] at h
   obtain ⟨_, ⟨h1, h2, _⟩ | ⟨bl, off, cap, _, _, _, h2, _⟩⟩ := h
   ·simp at h1; subst h2; exact ⟨none, 0, h1, fun h => by simp at h⟩
   ·simp at h2; exact ⟨_, cap, h2, fun _ => ⟨bl, off, rfl⟩⟩
  | false =>
   simp only [Nc] at h
   obtain ⟨_, ⟨h1, h2, _⟩ | ⟨bl, off, cap, _, _, h2, _⟩⟩ := h
   ·subst h2; exact ⟨none, 0, h1, fun h => by simp at h⟩
   ·exact ⟨_, cap, h2, fun _ => ⟨bl, off, rfl⟩⟩
 | hol e' xs i x p τ d =>
  simp only [Ia.rowN, jc, jh] at hr
  obtain ⟨rfl, rfl⟩ := hr
  obtain ⟨_, _, _, _, bl, off, cap, cur, et, h1, _⟩ := h
  exact ⟨_, cap, h1, fun _ => ⟨bl, off, rfl⟩⟩
 | mov e' xs k =>
  simp only [Ia.rowN, jc, jh] at hr
  obtain ⟨rfl, rfl⟩ := hr
  obtain ⟨_, ⟨h1, h2, _⟩ | ⟨bl, off, cap, cur, et, Fs, h1, _⟩⟩ := h
  ·subst h2; exact ⟨none, 0, h1, fun h => by simp at h⟩
  ·exact ⟨_, cap, h1, fun _ => ⟨bl, off, rfl⟩⟩
theorem E5 (hG : EnvTy P G) (h : Qa n0 A O0 w0 s σ φ a w) {t : TypeId} {x y : Operand} (ho : o.op = .indexAddr t x y)
 (he : Hf G s o k = some out) : o.wp P a w (Ve n0 A O0 w0 k out) Q := by
 simp only [Hf, Sb, ho] at he
 split at he
 ·rename_i e' e xs kk n hty hx hy
  split at he
  ·rename_i q hq
   obtain rfl := Ud hq
   cases hi : Hc (show List (T e) from xs) n with
   | none => simp [hi] at he
   | some c =>
    simp only [hi, jb] at he
    obtain ⟨h0, hlt, hg⟩ := H4 hi
    have hv := h.ev hx
    have hn := h.ev hy
    rw [TG] at hv
    rw [Ge] at hn
    obtain ⟨et, hu, hte⟩ := Tok.sl (hG.ty _ _ hty)
    obtain ⟨ad, cap, hc, hcap, hm, hemp | ⟨bl, off, cur, et', fr, rfl, hO, hh, hs, hvw⟩⟩ := hv
    ·rw [hemp] at hlt; simp at hlt
    ·simp at hc
     have hlt' : n.toNat < ja xs := hlt
     have hxe : List.get xs ⟨n.toNat, hlt'⟩ = c := by
      have : (show List (T e) from xs)[n.toNat]? = some c := hg
      simpa [je hlt'] using this
     have hel := hvw n.toNat hlt'
     rw [hxe] at hel
     have hle : (n.toNat + 1) * e.size ≤ ja xs * e.size := jm _ hlt'
     rw [yf, Nat.one_mul] at hle
     have hnl : n < (ja xs : Int) := (Int.toNat_lt h0).1 hlt'
     refine Rb (w' := w) (v := .pointer (some ⟨bl, off + n.toNat * e.size, none⟩)) ?_ (Cc h ?_ he)
     ·simp [execOp, ho, hc, hn, Instr.indexAt, asIntOf, run_underlying hu, h0, hnl, Tok.sizeOf hte w, Ln]
     ·rw [GL]
      exact ⟨bl, off + n.toNat * e.size, cur, et', fr, rfl, hO, hh, by omega, hel⟩
  ·simp at he
 ·rename_i e' id kk n hty hx hy
  split at he
  ·rename_i e len hbN
   obtain ⟨Da, hb, hN⟩ := qe.1 hbN
   split at he
   ·rename_i q hq
    obtain rfl := Ud hq
    cases hi : Qd len n with
    | false => simp [hi] at he
    | true =>
     simp only [hi, ze] at he
     simp only [Qd, jd, decide_eq_true_eq] at hi
     have hv := h.ev hx
     have hn := h.ev hy
     rw [Ge] at hn
     simp only [Zc, Se, D.isAgg, jq, if_false, Ab] at hv
     obtain ⟨u, hu', h1c, hv⟩ := hv
     simp at hu'
     have hσ := hv _ _ hb hN
     obtain ⟨et, hu, hte⟩ := Tok.sl (hG.ty _ _ hty)
     have hlt : n.toNat < len := (Int.toNat_lt hi.1).2 hi.2
     have hsl : ∃ b off cap, σ id = .slice (some ⟨b, off, none⟩) len cap := by
      obtain ⟨ad, cap, h1, h2⟩ := TM (h.hp id _ hb) hN
      obtain ⟨b, off, rfl⟩ := h2 (by omega)
      exact ⟨b, off, cap, h1⟩
     obtain ⟨b, off, cap, hs⟩ := hsl
     refine Rb (w' := w) (v := .pointer (some ⟨b, off + n.toNat * e.size, none⟩)) ?_ (Cc h ?_ he)
     ·simp [execOp, ho, hu', hσ, hs, hn, Instr.indexAt, asIntOf, run_underlying hu, hi, Tok.sizeOf hte w, Ln]
     ·rw [Sj]
      refine ⟨rfl, fun blk' e' n' hb' hr' => ?_⟩
      rw [hb] at hb'
      cases hb'
      rw [hN] at hr'
      simp only [jc, jh] at hr'
      obtain ⟨rfl, rfl⟩ := hr'
      exact ⟨hlt, b, off, cap, hs, by simp [Hb]⟩
   ·simp at he
  ·simp at he
 ·rename_i e' id lo hi kk n hty hx hy
  split at he
  ·rename_i e len hbN
   obtain ⟨Da, hb, hN⟩ := qe.1 hbN
   split at he
   ·rename_i q hq
    obtain rfl := Ud hq
    cases hi' : Qd (hi - lo) n with
    | false => simp [hi'] at he
    | true =>
     simp only [hi', ze] at he
     simp only [Qd, jd, decide_eq_true_eq] at hi'
     have hv := h.ev hx
     have hn := h.ev hy
     rw [Ge] at hn
     simp only [Zc, Se, D.isAgg, jq, if_false, Ab] at hv
     obtain ⟨u, hu', h1c, hv⟩ := hv
     simp only [yh, and_true] at hu'
     obtain ⟨hlo, hhi, ad0, cap, jj, hs0, hcap, hj1, hj2, hu2⟩ := hv _ _ _ hb hN
     obtain ⟨et, hu, hte⟩ := Tok.sl (hG.ty _ _ hty)
     have hlt : n.toNat < hi - lo := (Int.toNat_lt hi'.1).2 hi'.2
     have hsl : ∃ b off, σ id = .slice (some ⟨b, off, none⟩) len cap ∧ ad0 = some ⟨b, off, none⟩ := by
      obtain ⟨ad, cap', h1, h2⟩ := TM (h.hp id _ hb) hN
      obtain ⟨b, off, rfl⟩ := h2 (by omega)
      rw [h1] at hs0
      simp only [Value.slice.injEq, true_and] at hs0
      obtain ⟨rfl, rfl⟩ := hs0
      exact ⟨b, off, h1, rfl⟩
     obtain ⟨b, off, hs, rfl⟩ := hsl
     obtain rfl := hj2 (by omega)
     simp only [qb, Ln] at hu2
     have hnl : n < ((hi - jj : Nat) : Int) := hi'.2
     refine Rb (w' := w) (v := .pointer (some ⟨b, off + jj * e.size + n.toNat * e.size, none⟩)) ?_ (Cc h ?_ he)
     ·simp [execOp, ho, hu', hu2, hn, Instr.indexAt, asIntOf, run_underlying hu, hi'.1, hnl, Tok.sizeOf hte w, Ln]
     ·rw [Sj]
      refine ⟨rfl, fun blk' e' n' hb' hr' => ?_⟩
      rw [hb] at hb'
      cases hb'
      rw [hN] at hr'
      simp only [jc, jh] at hr'
      obtain ⟨rfl, rfl⟩ := hr'
      exact ⟨by omega, b, off, cap, hs, by rw [yf, ← jt]; simp [Hb]⟩
   ·simp at he
  ·simp at he
 ·rename_i id kk n hty hx hy
  split at he
  ·rename_i e' c e len har hbN
   obtain ⟨Da, hb, hN⟩ := qe.1 hbN
   split at he
   ·rename_i q hq
    obtain rfl := Ud hq
    cases hc : qw c len with
    | false => simp [hc] at he
    | true =>
     obtain rfl := ju hc
     cases hi : Qd c n with
     | false => simp [hi] at he
     | true =>
      simp only [Nat.beq_refl, hi, ze] at he
      simp only [Qd, jd, decide_eq_true_eq] at hi
      have hv := h.ev hx
      have hn := h.ev hy
      rw [Ge] at hn
      rw [Sj] at hv
      obtain ⟨_, b, off, cap, hs, hv⟩ := hv.2 _ _ _ hb hN
      simp only [Nat.zero_mul, ya, Hb] at hv
      have har' := hG.ar _ _ _ har
      simp only [ZR, jd] at har'
      have har1 := har'.1
      split at har1
      ·rename_i m et hu
       simp only [jd] at har1
       obtain rfl := ju har1.1
       have hte := har1.2
       have hlt : n.toNat < m := (Int.toNat_lt hi.1).2 hi.2
       refine Rb (w' := w) (v := .pointer (some ⟨b, off + n.toNat * e.size, none⟩)) ?_ (Cc h ?_ he)
       ·simp [execOp, ho, hv, hn, Instr.indexAt, Instr.sureAddr, asIntOf, run_underlying hu, hi, Tok.sizeOf hte w, Ln]
       ·rw [Sj]
        refine ⟨rfl, fun blk' e' n' hb' hr' => ?_⟩
        rw [hb] at hb'
        cases hb'
        rw [hN] at hr'
        simp only [jc, jh] at hr'
        obtain ⟨rfl, rfl⟩ := hr'
        exact ⟨hlt, b, off, cap, hs, by simp [Hb]⟩
      ·simp at har1
   ·simp at he
  ·simp at he
 ·simp at he
end
section
variable {P : Program} {Out : Type} {n0 : Nat} {A : Fx} {O0 : Nat → Prop} {w0 w w' : World} {s : AS} {σ σ' : Nat → Value} {φ φ' : Nat → List Nat} {a : Act}
variable {o : Oper} {Q : Exit → Act → World → Prop} {k : AS → Option Out} {out : Out} {d : D} {v : Value} {upd : List (Nat × Option Ia)} {dst : Option Tmp} {G : Ue}
theorem O5 {O : Nat → Prop} {hp : Nat → Option Ia} : ∀ {ds e : D} {vs : List Value} {n : Nat}, Ig w O hp σ ds vs → FA ds n = some e → ∃ v, vs[n]? = some v ∧ Se w O hp σ e v
 | .pr x y, e, v :: vs, 0, h, hn => by
  simp only [FA, jc] at hn
  subst hn
  exact ⟨v, rfl, h.1⟩
 | .pr x y, e, v :: vs, n + 1, h, hn => by
  obtain ⟨u, h1, h2⟩ := O5 h.2 hn
  exact ⟨u, by simpa using h1, h2⟩
 | .pr _ _, _, [], _, h, _ => h.elim
 | .und, _, _, _, _, hn => by simp [FA] at hn
 | .anyv, _, _, _, _, hn => by simp [FA] at hn
 | .mpo _, _, _, _, _, hn => by simp [FA] at hn
 | .t _ _, _, _, _, _, hn => by simp [FA] at hn
 | .nil, _, _, _, _, hn => by simp [FA] at hn
 | .own _, _, _, _, _, hn => by simp [FA] at hn
 | .ptr _ _, _, _, _, _, hn => by simp [FA] at hn
 | .eptr _ _ _, _, _, _, _, hn => by simp [FA] at hn
 | .rp _ _, _, _, _, _, hn => by simp [FA] at hn
 | .un, _, _, _, _, hn => by simp [FA] at hn
 | .tup _, _, _, _, _, hn => by simp [FA] at hn
theorem Bx {O : Nat → Prop} {hp : Nat → Option Ia} (h : Se w O hp σ d v) : Zc w O hp σ d v := by
 cases d with
 | tup ds => simp [Se, D.isAgg, Ab] at h
 | und => simp [Se, D.isAgg, Ab] at h
 | anyv => simp [Se, D.isAgg, Ab] at h
 | _ => exact h
theorem Qad (h : Qa n0 A O0 w0 s σ φ a w) {x : Operand} {n : Nat} (ho : o.op = .extract x n)
 (he : Hf G s o k = some out) : o.wp P a w (Ve n0 A O0 w0 k out) Q := by
 simp only [Hf, Sb, ho] at he
 split at he
 ·rename_i ds hx
  split at he
  ·rename_i e hn
   have hv := h.ev hx
   obtain ⟨vs, hv, hr⟩ := hv
   obtain ⟨u, h1, h2⟩ := O5 hr hn
   have h1' : vs[n]? = some u := by simpa using h1
   refine Rb (w' := w) (v := u) ?_ (Cc h (Bx h2) he)
   simp [execOp, ho, hv, Instr.extract, h1']
  ·simp at he
 ·simp at he
theorem AD {id : Nat} {hp : Nat → Option Ia} {O : Nat → Prop} : Zc w O hp σ (.own id) v ↔ v.oneCell' = true ∧ ∀ Da r, hp id = some Da → Da.rowN = some r → v = σ id := by
 simp only [Zc, Se, D.isAgg, jq, if_false, Ab]
 constructor
 ·rintro ⟨u, hu, h1, h2⟩
  simp at hu; subst hu; exact ⟨h1, h2⟩
 ·rintro ⟨h1, h2⟩; exact ⟨v, rfl, h1, h2⟩
theorem VH {hp : Nat → Option Ia} {O : Nat → Prop} : Zc w O hp σ .nil v ↔ v = .slice none 0 0 := by
 simp [Zc, Se, D.isAgg, Ab]
theorem Nn {b : Builtin} {args : Array Operand} {ts : Array TypeId} {x : List Operand} (ho : o.op = .call ⟨.builtin b, args, ts⟩) (ha : args.toList = x) :
 execOp a.eval o = builtin b ts o.type (args.map fun | .const _ => true | _ => false) (x.map a.eval).toArray := by
 subst ha
 have : (args.toList.map a.eval).toArray = args.map a.eval := by rw [← Array.toList_map, Array.toArray_toList]
 simp only [execOp, ho, resolve, this]
 rfl
theorem QaF {α : Type} {ts : Array α} {t : α} (h : ts.toList = [t]) : ts = #[t] := by
 rw [← Array.toArray_toList (xs := ts), h]
theorem Wau (hG : EnvTy P G) (h : Qa n0 A O0 w0 s σ φ a w) {args : Array Operand} {ts : Array TypeId} (ho : o.op = .call ⟨.builtin .len, args, ts⟩)
 (he : Hf G s o k = some out) : o.wp P a w (Ve n0 A O0 w0 k out) Q := by
 simp only [Hf, Sb, ho] at he
 split at he
 ·rename_i x t ha hts
  have hex := Nn (a := a) ho ha
  have hts' := QaF hts
  subst hts'
  have key : ∀ (V : Value) (n : Int), a.eval x = V → (Builtin.len_ #[t] o.type #[V]).run P w = .ok (.int .i64 n) w → Zg s o.dst (.t (.i .i64) n) [] k = some out → o.wp P a w (Ve n0 A O0 w0 k out) Q := by
   intro V n hV hr hf
   refine Rb (w' := w) (v := .int .i64 n) ?_ (Cc h (Ge.2 rfl) hf)
   rw [hex]
   simp only [yi, List.map_nil, hV, builtin, qo, hr, qn]
   rfl
  split at he
  ·rename_i e' e xs hty hx
   have hv := h.ev hx
   rw [TG] at hv
   obtain ⟨et, hu, _⟩ := Tok.sl (hG.ty _ _ hty)
   obtain ⟨ad, cap, hc, _⟩ := hv
   simp at hc
   exact key _ _ hc (by simp [Builtin.len_, run_underlying hu, goInt]) he
  ·rename_i v hty hx
   have hv := h.ev hx
   rw [Yl] at hv
   exact key _ _ hv (run_len_string w t o.type _ (Tok.s (hG.ty _ _ hty))) he
  ·rename_i e' hty hx
   have hv := h.ev hx
   rw [VH] at hv
   obtain ⟨et, hu, _⟩ := Tok.sl (hG.ty _ _ hty)
   exact key _ _ hv (by simp [Builtin.len_, run_underlying hu, goInt]) he
  ·rename_i e' id hty hx
   split at he
   ·rename_i e len hbN
    obtain ⟨Da, hb, hN⟩ := qe.1 hbN
    have hv := h.ev hx
    rw [AD] at hv
    obtain ⟨et, hu, _⟩ := Tok.sl (hG.ty _ _ hty)
    obtain ⟨ad, cap, hσ, _⟩ := TM (h.hp id _ hb) hN
    exact key _ _ ((hv.2 _ _ hb hN).trans hσ) (by simp [Builtin.len_, run_underlying hu, goInt]) he
   ·simp at he
  ·rename_i e' id lo hi hty hx
   split at he
   ·rename_i r hbN
    obtain ⟨Da, hb, hN⟩ := qe.1 hbN
    have hv := h.ev hx
    simp only [Zc, Se, D.isAgg, jq, if_false, Ab] at hv
    obtain ⟨u, hu', h1c, hv⟩ := hv
    simp only [yh, and_true] at hu'
    obtain ⟨hlo, hhi, ad0, cap, jj, hs0, hcap, _, _, hu2⟩ := hv _ _ _ hb hN
    obtain ⟨et, hu, _⟩ := Tok.sl (hG.ty _ _ hty)
    exact key _ _ (hu'.trans hu2) (by simp [Builtin.len_, run_underlying hu, goInt]) he
   ·simp at he
  ·simp at he
 ·simp at he
theorem Xau (h : Qa n0 A O0 w0 s σ φ a w) {args : Array Operand} {ts : Array TypeId} (ho : o.op = .call ⟨.builtin .max, args, ts⟩)
 (he : Hf G s o k = some out) : o.wp P a w (Ve n0 A O0 w0 k out) Q := by
 simp only [Hf, Sb, ho] at he
 split at he
 ·rename_i x y ha
  have hex := Nn (a := a) ho ha
  split at he
  ·rename_i ka n kb m hx hy
   cases hk : (ka == kb) with
   | false => simp [hk] at he
   | true =>
    simp only [hk, ze] at he
    have hkk : ka = kb := by simpa using hk
    subst hkk
    have hv := h.ev hx
    have hw := h.ev hy
    rw [Ge] at hv hw
    refine Rb (w' := w) (v := .int ka (max (n : Int) m)) ?_ (Cc h (Ge.2 rfl) he)
    rw [hex]
    have : (Builtin.max_ ts o.type #[.int ka n, .int ka m]).run P w = .ok (.int ka (max (n : Int) m)) w := by
     simp only [Builtin.max_, List.foldlM_cons, List.foldlM_nil, Builtin.max2, qo, Sem.run_pure, qn]
     congr 2
     rcases Int.lt_or_le n m with hlt | hle
     ·rw [if_pos hlt, Int.max_eq_right (by omega)]
     ·rw [if_neg (by exact Int.not_lt.2 hle), Int.max_eq_left hle]
    simp only [yi, List.map_nil, hv, hw, builtin, qo, this, qn]
    rfl
  ·simp at he
 ·simp at he
theorem Yau (h : Qa n0 A O0 w0 s σ φ a w) {args : Array Operand} {ts : Array TypeId} (ho : o.op = .call ⟨.builtin .min, args, ts⟩)
 (he : Hf G s o k = some out) : o.wp P a w (Ve n0 A O0 w0 k out) Q := by
 simp only [Hf, Sb, ho] at he
 split at he
 ·rename_i x y ha
  have hex := Nn (a := a) ho ha
  split at he
  ·rename_i ka n kb m hx hy
   cases hk : (ka == kb) with
   | false => simp [hk] at he
   | true =>
    simp only [hk, ze] at he
    have hkk : ka = kb := by simpa using hk
    subst hkk
    have hv := h.ev hx
    have hw := h.ev hy
    rw [Ge] at hv hw
    refine Rb (w' := w) (v := .int ka (min (n : Int) m)) ?_ (Cc h (Ge.2 rfl) he)
    rw [hex]
    have : (Builtin.min_ ts o.type #[.int ka n, .int ka m]).run P w = .ok (.int ka (min (n : Int) m)) w := by
     simp only [Builtin.min_, List.foldlM_cons, List.foldlM_nil, Builtin.min2, qo, Sem.run_pure, qn]
     congr 2
     rcases Int.lt_or_le m n with hlt | hle
     ·rw [if_pos hlt, Int.min_eq_right (by omega)]
     ·rw [if_neg (by exact Int.not_lt.2 hle), Int.min_eq_left hle]
    simp only [yi, List.map_nil, hv, hw, builtin, qo, this, qn]
    rfl
  ·simp at he
 ·simp at he
end
section
variable {P : Program} {Out : Type} {n0 : Nat} {A : Fx} {O0 : Nat → Prop} {w0 w w' : World} {s : AS} {σ σ' : Nat → Value} {φ φ' : Nat → List Nat} {a : Act}
variable {o : Oper} {Q : Exit → Act → World → Prop} {k : AS → Option Out} {out : Out} {d : D} {v : Value} {upd : List (Nat × Option Ia)} {dst : Option Tmp} {G : Ue}
theorem Tok.some {τ : Ty} {t : TypeId} (h : Nd P τ t = true) : ∃ d, P.underlying t = some d := by
 cases hτ : τ with
 | i k => subst hτ; exact ⟨_, Tok.i h⟩
 | b => subst hτ; exact ⟨_, Tok.b h⟩
 | o => subst hτ; obtain ⟨et, he⟩ := Tok.o h; exact ⟨_, he⟩
 | mp _ _ => subst hτ; obtain ⟨kt, et, he, _⟩ := Tok.mp h; exact ⟨_, he⟩
 | s => subst hτ; exact ⟨_, Tok.s h⟩
 | sl e => subst hτ; obtain ⟨et, he, _⟩ := Tok.sl h; exact ⟨_, he⟩
 | u => subst hτ; obtain ⟨fs, he, _⟩ := Tok.struct rfl h; exact ⟨_, he⟩
 | p x y => subst hτ; obtain ⟨fs, he, _⟩ := Tok.struct rfl h; exact ⟨_, he⟩
def noO : Nat → Prop := fun _ => False
theorem La.noO {O : Nat → Prop} {τ : Ty} {x : T τ} {cs : List Value} (h : La w O τ x cs) : La w noO τ x cs := h.weaken fun _ h => h.elim
theorem S5 {id : Nat} {e : Ty} {dp : Bool} {xs : List (T e)} {O : Nat → Prop} {hp : Nat → Option Ia} {F : List Nat} (h : Nc w O hp σ id (.row e dp xs) F) :
 La w noO (.sl e) xs [σ id] := by
 cases dp with
 | true => exact Tb.view (show Tb w (.sl e) xs [σ id] F from h) fun _ _ hb => hb
 | false =>
  simp only [Nc] at h
  obtain ⟨hm, ⟨h1, h2, _⟩ | ⟨bl, off, cap, cur, et, h1, hh, h2, h3, h4, hF, hv⟩⟩ := h
  ·subst h2; exact ⟨none, 0, by rw [h1]; rfl, jo _, hm, .inl rfl⟩
  ·have := jm e.size h2
   exact ⟨_, cap, by rw [h1], h2, hm, .inr ⟨bl, off, cur, et, _, rfl, fun hb => hb, hh, by omega, fun i hi => (hv i hi).noO⟩⟩
theorem PD {α : Type} {xs : List α} {lo hi : Nat} (h : hi ≤ xs.length) : (Xa xs lo hi).length = hi - lo := by
 simp [Xa]; omega
theorem DS {α : Type} {xs : List α} {lo hi i : Nat} (hi' : i < (Xa xs lo hi).length) (h2 : lo + i < xs.length) : (Xa xs lo hi).get ⟨i, hi'⟩ = xs.get ⟨lo + i, h2⟩ := by
 simp [Xa]
theorem La.cut {w : World} {O : Nat → Prop} {e : Ty} {xs : List (T e)} {ad : Option Addr} {n cap lo hi j : Nat} (h : La w O (.sl e) xs [.slice ad n cap]) (hlo : lo ≤ hi) (hhi : hi ≤ ja xs) (hj : lo < cap → j = lo) :
 La w O (.sl e) (Xa xs lo hi) [.slice (ad.map (·.add (j * e.size))) (hi - lo) (cap - lo)] := by
 obtain ⟨ad', cap', hcs, hcap, hmx, hcase⟩ := h
 simp only [yh, Value.slice.injEq, and_true] at hcs
 obtain ⟨rfl, rfl, rfl⟩ := hcs
 have hlen : ja (Xa xs lo hi) = hi - lo := PD (xs := (xs : List (T e))) (lo := lo) hhi
 refine ⟨_, cap - lo, by rw [hlen], by rw [hlen]; omega, by rw [hlen]; omega, ?_⟩
 rcases Nat.eq_or_lt_of_le hlo with heq | hlt
 ·left
  exact q7 (by rw [hlen]; omega)
 ·right
  rcases hcase with hemp | ⟨bl, off, cur, et', fr, rfl, hO, hh, hs, hvv⟩
  ·rw [hemp] at hhi; simp at hhi; omega
  ·obtain rfl := hj (by omega)
   have hmul : (j + (hi - j)) * e.size ≤ ja xs * e.size := jm _ (by omega)
   rw [yf] at hmul
   refine ⟨bl, off + j * e.size, cur, et', fr, by simp [Ln], hO, hh, by rw [hlen]; omega, fun i hi' => ?_⟩
   have hi2 : i < hi - j := by rw [← hlen]; exact hi'
   have h2 : j + i < ja xs := by omega
   have := hvv (j + i) h2
   rw [DS (xs := (xs : List (T e))) hi' h2]
   rw [yf, ← jt] at this
   exact this
theorem Bt (h : Qa n0 A O0 w0 s σ φ a w) : ∀ {d : D} {τ : Ty} {x : T τ} {cs : List Value}, Va s d τ = some x → Ab w (OO O0 s φ) s.heap σ d cs → La w noO τ x cs
 | .t τ' y, τ, x, cs, he, hr => by
  simp only [Va] at he
  split at he
  ·rename_i q hq
   obtain rfl := Ud hq
   simp only [jc] at he
   subst he
   exact La.noO hr
  ·simp at he
 | .nil, .sl e, x, cs, he, hr => by
  simp only [Va, jc] at he
  subst he
  simp only [Ab] at hr
  exact ⟨none, 0, hr, jo _, by simp, .inl rfl⟩
 | .own id, .sl e, x, cs, he, hr => by
  simp only [Va] at he
  split at he
  ·rename_i e' dp xs hb
   split at he
   ·rename_i q hq
    obtain rfl := Ud hq
    simp only [jc] at he
    subst he
    obtain ⟨v, hcs, _, hv⟩ := hr
    rw [hcs, hv _ _ hb rfl]
    exact S5 (h.hp id _ hb)
   ·simp at he
  ·rename_i e' xs hb
   split at he
   ·rename_i q hq
    obtain rfl := Ud hq
    simp only [jc] at he
    subst he
    obtain ⟨v, hcs, _, hv⟩ := hr
    rw [hcs, hv _ _ hb rfl]
    exact La.noO (h.hp id _ hb).2
   ·simp at he
  ·simp at he
 | .cut id lo hi, .sl e, x, cs, he, hr => by
  simp only [Va] at he
  split at he
  ·rename_i e' dp xs hb
   split at he
   ·rename_i q hq
    obtain rfl := Ud hq
    simp only [jc] at he
    subst he
    obtain ⟨v, hcs, _, hv⟩ := hr
    obtain ⟨hlo, hhi, ad, cap, j, hs, hcap, _, hj, hv⟩ := hv _ _ _ hb rfl
    rw [hcs, hv]
    have := S5 (h.hp id _ hb)
    rw [hs] at this
    exact this.cut hlo hhi hj
   ·simp at he
  ·simp at he
 | .pr y z, .p t1 t2, x, cs, he, hr => by
  simp only [Va] at he
  split at he
  ·rename_i u v hu hv
   simp only [jc] at he
   subst he
   obtain ⟨c1, c2, h0, h1, h2⟩ := hr
   exact ⟨c1, c2, h0, Bt h hu h1, Bt h hv h2⟩
  ·simp at he
 | .un, .u, x, cs, he, hr => by
  simp only [Ab] at hr
  exact hr
 | .und, τ, _, _, he, _ => by cases τ <;> simp [Va] at he
 | .anyv, τ, _, _, he, _ => by cases τ <;> simp [Va] at he
 | .mpo _, τ, _, _, he, _ => by cases τ <;> simp [Va] at he
 | .nil, .i _, _, _, he, _ => by simp [Va] at he
 | .nil, .b, _, _, he, _ => by simp [Va] at he
 | .nil, .o, _, _, he, _ => by simp [Va] at he
 | .nil, .s, _, _, he, _ => by simp [Va] at he
 | .nil, .u, _, _, he, _ => by simp [Va] at he
 | .nil, .p _ _, _, _, he, _ => by simp [Va] at he
 | .own _, .i _, _, _, he, _ => by simp [Va] at he
 | .own _, .b, _, _, he, _ => by simp [Va] at he
 | .own _, .o, _, _, he, _ => by simp [Va] at he
 | .own _, .s, _, _, he, _ => by simp [Va] at he
 | .own _, .u, _, _, he, _ => by simp [Va] at he
 | .own _, .p _ _, _, _, he, _ => by simp [Va] at he
 | .cut _ _ _, .i _, _, _, he, _ => by simp [Va] at he
 | .cut _ _ _, .b, _, _, he, _ => by simp [Va] at he
 | .cut _ _ _, .o, _, _, he, _ => by simp [Va] at he
 | .cut _ _ _, .s, _, _, he, _ => by simp [Va] at he
 | .cut _ _ _, .u, _, _, he, _ => by simp [Va] at he
 | .cut _ _ _, .p _ _, _, _, he, _ => by simp [Va] at he
 | .pr _ _, .i _, _, _, he, _ => by simp [Va] at he
 | .pr _ _, .b, _, _, he, _ => by simp [Va] at he
 | .pr _ _, .o, _, _, he, _ => by simp [Va] at he
 | .pr _ _, .s, _, _, he, _ => by simp [Va] at he
 | .pr _ _, .u, _, _, he, _ => by simp [Va] at he
 | .pr _ _, .sl _, _, _, he, _ => by simp [Va] at he
 | .un, .i _, _, _, he, _ => by simp [Va] at he
 | .un, .b, _, _, he, _ => by simp [Va] at he
 | .un, .o, _, _, he, _ => by simp [Va] at he
 | .un, .s, _, _, he, _ => by simp [Va] at he
 | .un, .sl _, _, _, he, _ => by simp [Va] at he
 | .un, .p _ _, _, _, he, _ => by simp [Va] at he
 | .ptr _ _, τ, _, _, he, _ => by cases τ <;> simp [Va] at he
 | .eptr _ _ _, τ, _, _, he, _ => by cases τ <;> simp [Va] at he
 | .rp _ _, τ, _, _, he, _ => by cases τ <;> simp [Va] at he
 | .tup _, τ, _, _, he, _ => by cases τ <;> simp [Va] at he
theorem Hz : ∀ {d : D} {τ : Ty} {x : T τ}, Va s d τ = some x → Bb τ d
 | .t τ' y, τ, x, he => by
  simp only [Va] at he
  split at he
  ·rename_i q hq
   have := Ud hq
   simpa [Bb] using this
  ·simp at he
 | .nil, .sl e, x, he => trivial
 | .own id, .sl e, x, he => trivial
 | .cut _ _ _, .sl e, x, he => trivial
 | .pr y z, .p t1 t2, x, he => by
  simp only [Va] at he
  split at he
  ·rename_i u v hu hv
   exact ⟨Hz hu, Hz hv⟩
  ·simp at he
 | .un, .u, x, he => trivial
 | .und, τ, _, he => by cases τ <;> simp [Va] at he
 | .anyv, τ, _, he => by cases τ <;> simp [Va] at he
 | .mpo _, τ, _, he => by cases τ <;> simp [Va] at he
 | .nil, .i _, _, he => by simp [Va] at he
 | .nil, .b, _, he => by simp [Va] at he
 | .nil, .o, _, he => by simp [Va] at he
 | .nil, .s, _, he => by simp [Va] at he
 | .nil, .u, _, he => by simp [Va] at he
 | .nil, .p _ _, _, he => by simp [Va] at he
 | .own _, .i _, _, he => by simp [Va] at he
 | .own _, .b, _, he => by simp [Va] at he
 | .own _, .o, _, he => by simp [Va] at he
 | .own _, .s, _, he => by simp [Va] at he
 | .own _, .u, _, he => by simp [Va] at he
 | .own _, .p _ _, _, he => by simp [Va] at he
 | .cut _ _ _, .i _, _, he => by simp [Va] at he
 | .cut _ _ _, .b, _, he => by simp [Va] at he
 | .cut _ _ _, .o, _, he => by simp [Va] at he
 | .cut _ _ _, .s, _, he => by simp [Va] at he
 | .cut _ _ _, .u, _, he => by simp [Va] at he
 | .cut _ _ _, .p _ _, _, he => by simp [Va] at he
 | .pr _ _, .i _, _, he => by simp [Va] at he
 | .pr _ _, .b, _, he => by simp [Va] at he
 | .pr _ _, .o, _, he => by simp [Va] at he
 | .pr _ _, .s, _, he => by simp [Va] at he
 | .pr _ _, .u, _, he => by simp [Va] at he
 | .pr _ _, .sl _, _, he => by simp [Va] at he
 | .un, .i _, _, he => by simp [Va] at he
 | .un, .b, _, he => by simp [Va] at he
 | .un, .o, _, he => by simp [Va] at he
 | .un, .s, _, he => by simp [Va] at he
 | .un, .sl _, _, he => by simp [Va] at he
 | .un, .p _ _, _, he => by simp [Va] at he
 | .ptr _ _, τ, _, he => by cases τ <;> simp [Va] at he
 | .eptr _ _ _, τ, _, he => by cases τ <;> simp [Va] at he
 | .rp _ _, τ, _, he => by cases τ <;> simp [Va] at he
 | .tup _, τ, _, he => by cases τ <;> simp [Va] at he
theorem Qa.OO_lt (h : Qa n0 A O0 w0 s σ φ a w) {b : Nat} (hb : OO O0 s φ b) : b < w.heap.size := by
 rcases hb with hb | ⟨id, Da, hl, hm⟩
 ·exact qh (h.o0 b hb) h.fr.size
 ·exact (h.hp id Da hl).lt b hm
theorem Dai {O : Nat → Prop} {hp : Nat → Option Ia} {τ : Ty} {x : T τ} (he : Va s d τ = some x) (h : Zc w O hp σ d v) :
 Ab w O hp σ d v.cells.toList ∧ v = Od τ v.cells.toList := Ye (Hz he) h
theorem J6 {b off : Nat} {cur : Array Value} {et : TypeId} {fr : Nat × Nat} {xs : List Int} (hh : w.heap[b]? = some (.cells cur et fr)) {O : Nat → Prop}
 (hv : ∀ i (h : i < xs.length), La w O (.i .u8) (xs.get ⟨i, h⟩) (Fd cur (off + i * 1) 1)) :
 ∀ i, i < xs.length → w.cell? ⟨b, off + i, none⟩ = some (.int .u8 (xs.getD i 0)) := by
 intro i hi
 have h1 := hv i hi
 simp only [La, Nat.mul_one] at h1
 have h2 := Cf cur (off + i) 1 0 (by omega)
 rw [h1] at h2
 simp only [List.getElem?_cons_zero, ya] at h2
 rw [cell_of_row w b (off + i) cur et fr hh, ← h2]
 simp [qs, hi]
theorem Iae (xs : List Int) : strOfNums xs = ⟨(Po xs).toArray⟩ := by
 simp [strOfNums, Po]
theorem Qa.ext (h : Qa n0 A O0 w0 s σ φ a w) (hs : w.heap.size ≤ w'.heap.size) (hb : ∀ b, b < w.heap.size → w'.heap[b]? = w.heap[b]?)
 (hos : w'.os = w.os) (htape : w'.tape = w.tape) (hout : w'.output = w.output) : Qa n0 A O0 w0 s σ φ a w' := by
 refine h.trans (fun _ => False) rfl rfl (fun _ _ => ⟨rfl, rfl, rfl⟩) (fun b hb' _ => hb b hb') hs ?_ ?_ ?_ ?_ hos htape hout (fun _ h => h.elim) ?_
 all_goals intro id; intros; contradiction
theorem Pad (hG : EnvTy P G) (h : Qa n0 A O0 w0 s σ φ a w) {src t : TypeId} {x : Operand} (ho : o.op = .convert src t x)
 (he : Hf G s o k = some out) : o.wp P a w (Ve n0 A O0 w0 k out) Q := by
 simp only [Hf, Sb, ho] at he
 split at he
 ·rename_i τs kk k' n hts htt hx
  have hv := h.ev hx
  rw [Ge] at hv
  obtain ⟨ds, hds⟩ := Tok.some (hG.ty _ _ hts)
  have hd := Tok.i (hG.ty _ _ htt)
  refine Rb (w' := w) (v := .int kk (kk.wrap n)) ?_ (Cc h (Ge.2 rfl) he)
  have : (convert src t (.int k' n)).run P w = .ok (.int kk (kk.wrap n)) w := by
   simp [convert, run_underlying hds, run_underlying hd, Conv.intToInt]
  simp [execOp, ho, hv, this]
 ·rename_i v hts htt hx
  have hv := h.ev hx
  rw [Yl] at hv
  have hds := Tok.s (hG.ty _ _ hts)
  have hd := Tok.s (hG.ty _ _ htt)
  refine Rb (w' := w) (v := .string ⟨qr v⟩) ?_ (Cc h (Yl.2 rfl) he)
  have : (convert src t (.string ⟨qr v⟩)).run P w = .ok (.string ⟨qr v⟩) w := by
   simp [convert, run_underlying hds, run_underlying hd]
  simp [execOp, ho, hv, this]
 ·rename_i d hts htt hx
  split at he
  ·rename_i v hvt
   have hv := h.ev hx
   obtain ⟨hr, hvof⟩ := Dai hvt hv
   have hvw := Bt h hvt hr
   obtain ⟨et, hu, hte⟩ := Tok.sl (hG.ty _ _ hts)
   have hu8 := Tok.i hte
   have hd := Tok.s (hG.ty _ _ htt)
   obtain ⟨ad, cap, hc, hcap, hm, hemp | ⟨bl, off, cur, et', fr, hee, hO, hh, hs, hvv⟩⟩ := hvw
   ·rw [hc] at hvof
    have hv' : a.eval x = .slice ad (ja v) cap := by rw [hvof]; rfl
    refine Rb (w' := w) (v := .string ⟨(Po v).toArray⟩) ?_ (Cc h (Yl.2 rfl) he)
    have hcv := run_convert_bytes_string (P := P) w src t et ad (ja v) cap hu hu8 hd
    have hst : (Conv.bytesToString (.slice ad (ja v) cap)).run P w = .ok (.string ⟨(Po v).toArray⟩) w := by
     rw [hemp]
     cases ad with
     | none => simp [Conv.bytesToString, Po]; rfl
     | some ad =>
      have := run_bytesToString (P := P) w ad 0 cap [] (by simp [loadCells, loadCellsFrom])
      exact this
    simp [execOp, ho, hv', hcv, hst]
   ·rw [hc] at hvof
    have hv' : a.eval x = .slice ad (ja v) cap := by rw [hvof]; rfl
    subst hee
    refine Rb (w' := w) (v := .string ⟨(Po v).toArray⟩) ?_ (Cc h (Yl.2 rfl) he)
    have hcell := J6 (off := off) (xs := v) hh hvv
    have hcv := run_convert_bytes_arg (P := P) w src et hu hu8 bl off (ja v) cap v rfl hcell t hd
    rw [Iae] at hcv
    simp [execOp, ho, hv', hcv]
  ·simp at he
 ·rename_i v hts htt hx
  cases hl : jx (ja v) Oa with
  | false => simp [hl] at he
  | true =>
   simp only [hl, ze] at he
   have hle := q6 hl
   have hv := h.ev hx
   rw [Yl] at hv
   have hds := Tok.s (hG.ty _ _ hts)
   obtain ⟨et, hu, hte⟩ := Tok.sl (hG.ty _ _ htt)
   have hu8 := Tok.i hte
   have hr := Lib.run_convert_string_bytes (P := P) w src t et ⟨qr v⟩ hds hu hu8
   have hc : Qa n0 A O0 w0 s σ φ a (Lib.bytesWorld w et ⟨qr v⟩) := by
    refine h.ext ?_ (fun b hb => Lib.bytesWorld_at_old w et _ b hb) ?_ ?_ ?_
    ·rw [Lib.bytesWorld_size]; omega
    all_goals (simp [Lib.bytesWorld, World.freeze] <;> rfl)
   refine Rb (w' := Lib.bytesWorld w et ⟨qr v⟩) (v := .slice (some ⟨w.heap.size, 0, none⟩) (ByteArray.mk (qr v)).size (grownCap w (ByteArray.mk (qr v)).size 0 et)) ?_ (Cc hc ?_ he)
   ·simp [execOp, ho, hv, hr]
   ·rw [TG]
    have hlen : (ByteArray.mk (qr v)).size = ja v := by simp [ByteArray.size]
    have hbl : (Yc v).length = ja v := by simp [Yc]
    have hcs : ja v ≤ (Lib.bytesCells w et ⟨qr v⟩).size := by simp [Lib.bytesCells]
    refine ⟨some ⟨w.heap.size, 0, none⟩, grownCap w (ByteArray.mk (qr v)).size 0 et, by rw [hbl, hlen], ?_, ?_, .inr ⟨w.heap.size, 0, _, et, _, rfl, ?_, Lib.bytesWorld_at_new w et _, ?_, ?_⟩⟩
    ·rw [hbl, ← hlen]; exact grownCap_ge w _ _ _
    ·rw [hbl]; unfold Aj; unfold Oa at hle; omega
    ·intro hb; exact Nat.lt_irrefl _ (h.OO_lt hb)
    ·rw [hbl]; simpa [Ty.size] using hcs
    ·intro i hi
     have hi' : i < ja v := by rw [hbl] at hi; exact hi
     simp only [La, Ty.size, Nat.mul_one, js]
     have h1 : Fd (Lib.bytesCells w et ⟨qr v⟩) i 1 = [.int .u8 ((List.get v ⟨i, hi'⟩).toNat : Int)] := by
      apply qp
      intro j
      rcases Nat.lt_or_ge j 1 with hj | hj
      ·have : j = 0 := by omega
       subst this
       rw [Cf _ _ _ _ (by omega)]
       simp [Lib.bytesCells, hi', Array.getElem?_append]
      ·rw [qt (by rw [Id (by omega)]; exact hj), qt (by simpa using hj)]
     rw [h1]
     simp [Yc]
 ·simp at he
end
section
variable {P : Program} {Out : Type} {n0 : Nat} {A : Fx} {O0 : Nat → Prop} {w0 w w' : World} {s : AS} {σ σ' : Nat → Value} {φ φ' : Nat → List Nat} {a : Act}
variable {o : Oper} {Q : Exit → Act → World → Prop} {k : AS → Option Out} {out : Out} {d : D} {v : Value} {upd : List (Nat × Option Ia)} {dst : Option Tmp} {G : Ue}
theorem Qau (h : Qa n0 A O0 w0 s σ φ a w) {x : Option Operand} {l : Int} (hl : CL s x = some l) :
 (x = none ∧ l = 0) ∨ ∃ y k, x = some y ∧ a.eval y = .int k l := by
 unfold CL at hl
 split at hl
 ·simp at hl; exact .inl ⟨rfl, hl.symm⟩
 ·rename_i y
  split at hl
  ·rename_i k n hx
   simp at hl; subst hl
   have := h.ev hx
   rw [Ge] at this
   exact .inr ⟨y, k, rfl, this⟩
  ·simp at hl
theorem Uat (h : Qa n0 A O0 w0 s σ φ a w) {n : Nat} {x : Option Operand} {l : Int} (hl : DO s n x = some l) :
 (x = none ∧ l = n) ∨ ∃ y k, x = some y ∧ a.eval y = .int k l := by
 unfold DO at hl
 split at hl
 ·simp at hl; exact .inl ⟨rfl, hl.symm⟩
 ·rename_i y
  split at hl
  ·rename_i k m hx
   simp at hl; subst hl
   have := h.ev hx
   rw [Ge] at this
   exact .inr ⟨y, k, rfl, this⟩
  ·simp at hl
theorem Dq (h : Qa n0 A O0 w0 s σ φ a w) {n cap : Nat} {lo hi : Option Operand} {l m : Int} (hl : CL s lo = some l) (hh : DO s n hi = some m)
 (hc : Jd n l m = true) (hcap : n ≤ cap) (b : Bool) : (Instr.sliceBounds b n cap (lo.map a.eval) (hi.map a.eval) none).run P w = .ok (l.toNat, m.toNat, cap) w := by
 simp only [Jd, jd, decide_eq_true_eq] at hc
 have hm : m ≤ (cap : Int) := by omega
 have e1 : 0 ≤ m := by omega
 rcases Uat h hh with ⟨rfl, hm'⟩ | ⟨y, ky, rfl, hy⟩ <;> rcases Qau h hl with ⟨rfl, hl'⟩ | ⟨z, kz, rfl, hz⟩
 ·subst hl'; subst hm'
  simp [Instr.sliceBounds]
 ·subst hm'
  simp [Instr.sliceBounds, Instr.sliceBound, hz, asIntOf, hc]
 ·subst hl'
  simp [Instr.sliceBounds, Instr.sliceBound, hy, asIntOf, e1, hm]
 ·have hlm : l ≤ (m.toNat : Int) := by omega
  have hmax : max m 0 = m := Int.max_eq_left e1
  simp [Instr.sliceBounds, Instr.sliceBound, hy, hz, asIntOf, e1, hm, hc, hmax]
theorem Xm : ∀ {d : D} {τ : Ty}, Uc τ d = true → Bb τ d
 | .t τ' x, τ, h => by
  simp only [Uc] at h
  obtain ⟨q, hq⟩ := Option.isSome_iff_exists.1 h
  have := q.down
  simpa [Bb] using this
 | .nil, .sl _, _ => trivial
 | .own _, .sl _, _ => trivial
 | .pr x y, .p t1 t2, h => by
  simp only [Uc, jd] at h
  exact ⟨Xm h.1, Xm h.2⟩
 | .un, .u, _ => trivial
 | .und, τ, h => by cases τ <;> simp [Uc] at h
 | .anyv, τ, h => by cases τ <;> simp [Uc] at h
 | .mpo _, τ, h => by cases τ <;> simp [Uc] at h
 | .nil, .i _, h => by simp [Uc] at h
 | .nil, .b, h => by simp [Uc] at h
 | .nil, .o, h => by simp [Uc] at h
 | .nil, .s, h => by simp [Uc] at h
 | .nil, .u, h => by simp [Uc] at h
 | .nil, .p _ _, h => by simp [Uc] at h
 | .own _, .i _, h => by simp [Uc] at h
 | .own _, .b, h => by simp [Uc] at h
 | .own _, .o, h => by simp [Uc] at h
 | .own _, .s, h => by simp [Uc] at h
 | .own _, .u, h => by simp [Uc] at h
 | .own _, .p _ _, h => by simp [Uc] at h
 | .cut _ _ _, τ, h => by cases τ <;> simp [Uc] at h
 | .pr _ _, .i _, h => by simp [Uc] at h
 | .pr _ _, .b, h => by simp [Uc] at h
 | .pr _ _, .o, h => by simp [Uc] at h
 | .pr _ _, .s, h => by simp [Uc] at h
 | .pr _ _, .u, h => by simp [Uc] at h
 | .pr _ _, .sl _, h => by simp [Uc] at h
 | .un, .i _, h => by simp [Uc] at h
 | .un, .b, h => by simp [Uc] at h
 | .un, .o, h => by simp [Uc] at h
 | .un, .s, h => by simp [Uc] at h
 | .un, .sl _, h => by simp [Uc] at h
 | .un, .p _ _, h => by simp [Uc] at h
 | .ptr _ _, τ, h => by cases τ <;> simp [Uc] at h
 | .eptr _ _ _, τ, h => by cases τ <;> simp [Uc] at h
 | .rp _ _, τ, h => by cases τ <;> simp [Uc] at h
 | .tup _, τ, h => by cases τ <;> simp [Uc] at h
theorem Pak (hG : EnvTy P G) (h : Qa n0 A O0 w0 s σ φ a w) {t : TypeId} {x : Operand} {f : Nat} (ho : o.op = .field t x f)
 (he : Hf G s o k = some out) : o.wp P a w (Ve n0 A O0 w0 k out) Q := by
 simp only [Hf, Sb, ho] at he
 split at he
 ·rename_i τ d hty hx
  cases hs : Uc τ d with
  | false => simp [hs] at he
  | true =>
   simp only [hs, ze] at he
   split at he
   ·rename_i τf e hf hd
    have hsh := Xm hs
    obtain ⟨hr, hv⟩ := Ye hsh (h.ev hx)
    obtain ⟨hse, hre⟩ := Ab.field hsh hf hd hr
    obtain ⟨fs, fl, hu, h1, h2, h3⟩ := Tok.field (hG.ty _ _ hty) hf
    have hagg : τ.isAgg = true := by
     clear hr hv hse hre hsh hs hx hd hty hu
     cases τ <;> first | rfl | simp [Na] at hf
    have hlen := Ab.length hsh hr
    have hle := Ks hf
    refine Rb (w' := w) (v := Od τf (((a.eval x).cells.toList.drop (Wc τ f)).take τf.size)) ?_ (Cc h (Vq hse hre) he)
    have hv' : a.eval x = .agg (a.eval x).cells := by
     conv => lhs; rw [hv]
     simp [Od, hagg]
    generalize (a.eval x).cells = cs at *
    have hpart : (part fl.type cs fl.offset).run P w = .ok (Od τf ((cs.toList.drop (Wc τ f)).take τf.size)) w := by
     unfold part
     rw [qo, Tok.isAgg h3 w, h2]
     cases ha : τf.isAgg with
     | true =>
      simp only [qn, if_true, qo, Tok.sizeOf h3 w, Sem.run_pure, Od, ha]
      congr 2
      apply Array.ext'
      simp
     | false =>
      have h1' := Ty.size_one ha
      have hlt : Wc τ f < cs.size := by
       have : cs.toList.length = τ.size := hlen
       simp at this; omega
      simp only [qn, jq, if_false, Od, ha, h1']
      have : (cs.toList.drop (Wc τ f)).take 1 = [cs[Wc τ f]] := by
       rw [List.drop_eq_getElem_cons (by simpa using hlt)]
       simp
      simp [this, hlt]
    simp only [execOp, ho, hv', Instr.field, qo, run_underlying hu, qn, h1, asAgg, Sem.run_pure, hpart]
   ·simp at he
 ·simp at he
end
def Xg {α : Type} (f : Nat → α) (id : Nat) (v : α) : Nat → α := fun j => if j = id then v else f j
theorem Wd {α : Type} (f : Nat → α) (id : Nat) (v : α) : Xg f id v id = v := by simp [Xg]
theorem Qj {α : Type} (f : Nat → α) {id j : Nat} (v : α) (h : j ≠ id) : Xg f id v j = f j := by simp [Xg, h]
theorem Eg (s : AS) (id : Nat) (b : Option Ia) : AS.heap ⟨s.n, s.tm, (id, b) :: s.hp⟩ id = b := by
 simp [AS.heap, Tc]
theorem Kw (s : AS) {id j : Nat} (b : Option Ia) (h : j ≠ id) : AS.heap ⟨s.n, s.tm, (id, b) :: s.hp⟩ j = s.heap j := by
 simp [AS.heap, Tc, Ne.symm h]
section
variable {P : Program} {Out : Type} {n0 : Nat} {A : Fx} {O0 : Nat → Prop} {w0 w w' : World} {s : AS} {σ σ' : Nat → Value} {φ φ' : Nat → List Nat} {a : Act}
variable {o : Oper} {Q : Exit → Act → World → Prop} {k : AS → Option Out} {out : Out} {d : D} {v : Value} {upd : List (Nat × Option Ia)} {dst : Option Tmp} {G : Ue}
theorem DA {id : Nat} (h : s.newOk id = true) : id < 500000 := by
 simp only [AS.newOk, jd] at h
 have := h.2
 rwa [ye] at this
theorem Qa.new1 (h : Qa n0 A O0 w0 s σ φ a w) {id : Nat} (hnew : s.newOk id = true) (Da : Ia) (val : Value) (F : List Nat)
 (hs : w.heap.size ≤ w'.heap.size) (hb : ∀ b, b < w.heap.size → w'.heap[b]? = w.heap[b]?)
 (hos : w'.os = w.os) (htape : w'.tape = w.tape) (hout : w'.output = w.output) (hF : F.Nodup) (hFn : ∀ b, b ∈ F → w.heap.size ≤ b)
 (hrep : ∀ (hp' : Nat → Option Ia) (σ' : Nat → Value) (O' : Nat → Prop), σ' id = val → (∀ b, b < w.heap.size → ¬ OO O0 s φ b → ¬ O' b) →
  (∀ j, j ≠ id → Cp s.heap hp' σ σ' j) → Nc w' O' hp' σ' id Da F)
 (hq : ∀ kk e xs, Da = .mq kk e xs → N2 w' n0 (OO O0 ⟨s.n, s.tm, (id, some Da) :: s.hp⟩ (Xg φ id F)) val kk e xs := by intro _ _ _ h; cases h) :
 Qa n0 A O0 w0 ⟨s.n, s.tm, (id, some Da) :: s.hp⟩ (Xg σ id val) (Xg φ id F) a w' := by
 have hnm : s.ment id = false := by
  simp only [AS.newOk, jd, yj] at hnew
  exact hnew.1
 have hOO : ∀ b, b < w.heap.size → ¬ OO O0 s φ b → ¬ OO O0 ⟨s.n, s.tm, (id, some Da) :: s.hp⟩ (Xg φ id F) b := by
  rintro b hlt hno (ho | ⟨j, blk', hl, hm⟩)
  ·exact hno (.inl ho)
  ·by_cases hj : j = id
   ·subst hj
    rw [Wd] at hm
    have := hFn b hm
    omega
   ·rw [Kw s _ hj] at hl
    rw [Qj _ _ hj] at hm
    exact hno (.inr ⟨j, blk', hl, hm⟩)
 refine h.trans (fun j => j = id) rfl rfl ?_ ?_ hs ?_ ?_ ?_ ?_ hos htape hout (fun j hj => .inr (hj ▸ DA hnew)) ?_
 ·intro j hj
  exact ⟨Kw s _ hj, Qj _ _ hj, Qj _ _ hj⟩
 ·intro b hlt _; exact hb b hlt
 ·rintro j blk' rfl _ b hbm
  rw [Wd] at hbm
  exact .inl (hFn b hbm)
 ·rintro j blk' rfl _ hm
  rw [hnm] at hm; simp at hm
 ·rintro j blk' rfl hl
  rw [Eg] at hl
  simp only [jc] at hl
  subst hl
  rw [Wd]
  refine ⟨hrep _ _ _ (Wd _ _ _) hOO ?_, hF⟩
  intro j' hj' blk' hl'
  rw [Kw s _ hj'] at hl'
  exact ⟨blk', hl', Ia.like_refl _, Qj _ _ hj'⟩
 ·rintro j j' _ _ rfl rfl hne; exact absurd rfl hne
 ·rintro j kk e xs rfl hl
  rw [Eg] at hl
  simp only [jc] at hl
  rw [Wd]
  exact hq kk e xs hl
theorem Qa.new1b (h : Qa n0 A O0 w0 s σ φ a w) {id : Nat} (hnew : s.newOk id = true) (Da : Ia) (val : Value) (F : List Nat)
 (hs : w.heap.size ≤ w'.heap.size) (hb : ∀ b, b < w.heap.size → w'.heap[b]? = w.heap[b]?)
 (hos : w'.os = w.os) (htape : w'.tape = w.tape) (hout : w'.output = w.output) (hF : F.Nodup) (hFn : ∀ b, b ∈ F → w.heap.size ≤ b)
 (hrep : ∀ (hp' : Nat → Option Ia) (σ' : Nat → Value) (O' : Nat → Prop), σ' id = val → (∀ b, O' b → OO O0 s φ b ∨ b ∈ F) → Nc w' O' hp' σ' id Da F)
 (hq : ∀ kk e xs, Da ≠ .mq kk e xs := by intro _ _ _ h; cases h) :
 Qa n0 A O0 w0 ⟨s.n, s.tm, (id, some Da) :: s.hp⟩ (Xg σ id val) (Xg φ id F) a w' := by
 have hnm : s.ment id = false := by
  simp only [AS.newOk, jd, yj] at hnew
  exact hnew.1
 have hOO : ∀ b, OO O0 ⟨s.n, s.tm, (id, some Da) :: s.hp⟩ (Xg φ id F) b → OO O0 s φ b ∨ b ∈ F := by
  rintro b (ho | ⟨j, blk', hl, hm⟩)
  ·exact .inl (.inl ho)
  ·by_cases hj : j = id
   ·subst hj
    rw [Wd] at hm
    exact .inr hm
   ·rw [Kw s _ hj] at hl
    rw [Qj _ _ hj] at hm
    exact .inl (.inr ⟨j, blk', hl, hm⟩)
 refine h.trans (fun j => j = id) rfl rfl ?_ ?_ hs ?_ ?_ ?_ ?_ hos htape hout (fun j hj => .inr (hj ▸ DA hnew)) ?_
 ·intro j hj
  exact ⟨Kw s _ hj, Qj _ _ hj, Qj _ _ hj⟩
 ·intro b hlt _; exact hb b hlt
 ·rintro j blk' rfl _ b hbm
  rw [Wd] at hbm
  exact .inl (hFn b hbm)
 ·rintro j blk' rfl _ hm
  rw [hnm] at hm; simp at hm
 ·rintro j blk' rfl hl
  rw [Eg] at hl
  simp only [jc] at hl
  subst hl
  rw [Wd]
  exact ⟨hrep _ _ _ (Wd _ _ _) hOO, hF⟩
 ·rintro j j' _ _ rfl rfl hne; exact absurd rfl hne
 ·rintro j kk e xs rfl hl
  rw [Eg] at hl
  simp only [jc] at hl
  exact absurd hl (hq kk e xs)
theorem Og (w : World) (o : Obj) (b : Nat) (h : b < w.heap.size) : (w.alloc o).heap[b]? = w.heap[b]? := Go.RowKit.Below.heap_alloc w o b h
theorem Q9 (h : Qa n0 A O0 w0 s σ φ a w) {id : Nat} (hnew : s.newOk id = true) {ρ : Ty} {d : D} {cs : List Value} (t : TypeId) (hsh : Bb ρ d)
 (hr : Ab w (OO O0 s φ) s.heap σ d cs) (hm : ∀ j, d.ment j = true → s.ment j = true) :
 Qa n0 A O0 w0 ⟨s.n, s.tm, (id, some (.box ρ d)) :: s.hp⟩ (Xg σ id (.pointer (some ⟨w.heap.size, 0, none⟩))) (Xg φ id [w.heap.size]) a (w.alloc (.cells cs.toArray t)) := by
 have hnm : s.ment id = false := by
  simp only [AS.newOk, jd, yj] at hnew
  exact hnew.1
 refine h.new1 hnew _ _ _ (by simp) (fun b hb => Og w _ b hb) rfl rfl rfl (by simp) (by simp) ?_
 intro hp' σ' O' hσ hO hc
 have hlen := Ab.length hsh hr
 refine ⟨hsh, w.heap.size, cs.toArray, t, hσ, heap_alloc_new w _, rfl, ?_, by simpa using hlen⟩
 refine Ab.stable (fun b _ hlt => Og w _ b hlt) hO d _ (fun j hj => hc j ?_) (by simpa using hr)
 intro e
 subst e
 rw [hm j hj] at hnm
 simp at hnm
theorem ML (w : World) (O : Nat → Prop) (hp : Nat → Option Ia) (σ : Nat → Value) : ∀ τ : Ty, Bb τ (zD τ) ∧ Ab w O hp σ (zD τ) τ.zc ∧ ∀ j, (zD τ).ment j = false
 | .i k => ⟨by simp [zD, Bb], by simp [zD, Ab, La, zT, Ty.zc], fun _ => rfl⟩
 | .b => ⟨by simp [zD, Bb], by simp [zD, Ab, La, zT, Ty.zc], fun _ => rfl⟩
 | .o => ⟨by simp [zD, Bb], by simp [zD, Ab, La, zT, Ty.zc], fun _ => rfl⟩
 | .mp _ _ => ⟨by simp [zD, Bb], by simp [zD, Ab, La, zT, Ty.zc], fun _ => rfl⟩
 | .s => ⟨by simp [zD, Bb], by simp [zD, Ab, La, zT, Ty.zc], fun _ => rfl⟩
 | .sl e => ⟨by simp [zD, Bb], by simp [zD, Ab, Ty.zc], fun _ => rfl⟩
 | .u => ⟨by simp [zD, Bb], by simp [zD, Ab, Ty.zc], fun _ => rfl⟩
 | .p x y => by
  obtain ⟨a1, a2, a3⟩ := ML w O hp σ x
  obtain ⟨b1, b2, b3⟩ := ML w O hp σ y
  refine ⟨Bb.mkpr a1 b1, Ab.mkpr a2 b2, fun j => ?_⟩
  have e1 := a3 j
  have e2 := b3 j
  simp only [zD]
  unfold mkpr
  split
  ·rfl
  ·rfl
  ·simp [D.ment, e1, e2]
theorem VG {id : Nat} {ρ : Ty} {d : D} {path : List Nat} (b : Nat) (hρ : Hb ρ path = 0) {O : Nat → Prop} {s' : AS} (hs' : s'.heap id = some (.box ρ d)) :
 Zc w O s'.heap (Xg σ id (.pointer (some ⟨b, 0, none⟩))) (.ptr id path) (.pointer (some ⟨b, 0, none⟩)) := by
 rw [Uq]
 refine ⟨rfl, fun ρ' d' hb => ?_⟩
 rw [hs'] at hb
 simp at hb
 obtain ⟨rfl, rfl⟩ := hb
 exact ⟨b, Wd _ _ _, by rw [hρ]⟩
theorem Vau (_ : EnvTy P G) (h : Qa n0 A O0 w0 s σ φ a w) {t : TypeId} {x : Operand} (ho : o.op = .box t x)
 (he : Hf G s o k = some out) : o.wp P a w (Ve n0 A O0 w0 k out) Q := by
 simp only [Hf, Sb, ho] at he
 split at he
 ·rename_i tt τ d hd hty hx
  cases hn : (s.newOk tt && Uc τ d) with
  | false => simp [hn] at he
  | true =>
   simp only [hn, ze] at he
   simp only [jd] at hn
   have hsh := Xm hn.2
   obtain ⟨hr, hv⟩ := Ye hsh (h.ev hx)
   have hm : ∀ j, d.ment j = true → s.ment j = true := by
    intro j hj
    cases x with
    | tmp q => exact AS.ment_tm hx hj
    | const c =>
     exfalso
     simp only [AS.ev] at hx
     unfold TN at hx
     split at hx <;> simp at hx <;> subst hx <;> simp [D.ment] at hj
    | _ => simp [AS.ev] at hx
   have hc := Q9 (id := tt) h hn.1 t hsh hr hm
   refine Rb (w' := w.alloc (.cells (a.eval x).cells.toList.toArray t)) (v := .pointer (some ⟨w.heap.size, 0, none⟩)) ?_ (Me rfl hc (VG _ rfl (Eg _ _ _)) he)
   simp [execOp, ho, Instr.box, newVar, newRow]
 ·simp at he
end
theorem VK : ∀ (l : List Value) (i off : Nat) (arr : Array Value), off + i + l.length ≤ arr.size →
 (l.zipIdx i).foldl (fun cs (x : Value × Nat) => cs.setIfInBounds (off + x.2) x.1) arr = (Ub arr.toList (off + i) l).toArray
 | [], i, off, arr, _ => by
  simp [Ub]
 | c :: l, i, off, arr, h => by
  simp only [jw] at h
  rw [List.zipIdx_cons, List.foldl_cons, VK l (i + 1) off _ (by simpa using by omega)]
  congr 1
  apply qp
  intro j
  have hl : off + (i + 1) + l.length ≤ (arr.setIfInBounds (off + i) c).toList.length := by simp; omega
  have hl2 : off + i + (c :: l).length ≤ arr.toList.length := by simp; omega
  rw [Ji hl, Ji hl2]
  simp only [Array.toList_setIfInBounds]
  have hal : arr.toList.length = arr.size := by simp
  rcases Nat.lt_trichotomy j (off + i) with hlt | heq | hgt
  ·rw [if_pos (show j < off + (i + 1) by omega), if_pos hlt, List.getElem?_set_ne (by omega)]
  ·subst heq
   rw [if_pos (show off + i < off + (i + 1) by omega), if_neg (by omega), if_pos (by simp), List.getElem?_set_self (by omega), Nat.sub_self]
   rfl
  ·by_cases h2 : j < off + i + (l.length + 1)
   ·rw [if_neg (show ¬ j < off + (i + 1) by omega), if_pos (show j < off + (i + 1) + l.length by omega), if_neg (by omega), if_pos (by simpa using h2)]
    have : j - (off + i) = (j - (off + (i + 1))) + 1 := by omega
    rw [this, List.getElem?_cons_succ]
   ·rw [if_neg (show ¬ j < off + (i + 1) by omega), if_neg (show ¬ j < off + (i + 1) + l.length by omega), if_neg (by omega), if_neg (by simpa using h2), List.getElem?_set_ne (by omega)]
theorem Paj (cells : Array Value) (off : Nat) (v : Value) (h : off + v.cells.size ≤ cells.size) :
 v.cells.zipIdx.foldl (fun cs (c, j) => cs.setIfInBounds (off + j) c) cells = (Ub cells.toList off v.cells.toList).toArray := by
 rw [← Array.foldl_toList, Array.toList_zipIdx]
 have := VK v.cells.toList 0 off cells (by simpa using h)
 simpa using this
theorem WY {place : Nat → Option (Nat × Nat)} {cells : Array Value} {i off size : Nat} {v : Value} {r : List (Nat × Value)} (hp : place i = some (off, size))
 (hs : v.cells.size = size) (hle : off + size ≤ cells.size) : Instr.fill place cells ((i, v) :: r) = Instr.fill place (Ub cells.toList off v.cells.toList).toArray r := by
 have h1 : ¬ (decide (v.cells.size ≠ size) || decide (off + v.cells.size > cells.size)) = true := by simp; omega
 rw [Instr.fill]
 simp only [hp]
 rw [if_neg h1, Paj cells off v (by omega)]
section
variable {P : Program} {Out : Type} {n0 : Nat} {A : Fx} {O0 : Nat → Prop} {w0 w w' : World} {s : AS} {σ σ' : Nat → Value} {φ φ' : Nat → List Nat} {a : Act}
variable {o : Oper} {Q : Exit → Act → World → Prop} {k : AS → Option Out} {out : Out} {d : D} {v : Value} {upd : List (Nat × Option Ia)} {dst : Option Tmp} {G : Ue}
theorem T3 (h : Qa n0 A O0 w0 s σ φ a w) {τ : Ty} {place : Nat → Option (Nat × Nat)} (hpl : ∀ i τ', Na τ i = some τ' → place i = some (Wc τ i, τ'.size)) :
 ∀ (ps : List (Nat × Operand)) (d d' : D) (cs : Array Value), QI s τ d ps = some d' → Bb τ d → Ab w (OO O0 s φ) s.heap σ d cs.toList →
  ∃ cs', Instr.fill place cs (ps.map fun x => (x.1, a.eval x.2)) = some cs' ∧ Bb τ d' ∧ Ab w (OO O0 s φ) s.heap σ d' cs'.toList
 | [], d, d', cs, he, hs, hr => by
  simp only [QI, jc] at he
  subst he
  exact ⟨cs, rfl, hs, hr⟩
 | (i, x) :: r, d, d', cs, he, hs, hr => by
  simp only [QI] at he
  split at he
  ·rename_i e τ' hx ht
   cases hsb : Uc τ' e with
   | false => simp [hsb] at he
   | true =>
    simp only [hsb, ze] at he
    split at he
    ·rename_i d1 hd1
     have hse := Xm hsb
     obtain ⟨hre, hve⟩ := Ye hse (h.ev hx)
     obtain ⟨hs1, hr1⟩ := Ab.setField (cs := cs.toList) (ce := (a.eval x).cells.toList) hs ht hse hd1
     have hlen := Ab.length hse hre
     have hle := Ks ht
     have hl0 := Ab.length hs hr
     have hsz : (a.eval x).cells.size = τ'.size := by simpa using hlen
     have hfit : Wc τ i + τ'.size ≤ cs.size := by
      have : cs.size = τ.size := by simpa using hl0
      omega
     obtain ⟨cs', h1, h2, h3⟩ := T3 h hpl r d1 d' (Ub cs.toList (Wc τ i) (a.eval x).cells.toList).toArray he hs1 (by simpa using hr1 hr hre)
     refine ⟨cs', ?_, h2, h3⟩
     rw [yi, WY (hpl i τ' ht) hsz hfit]
     exact h1
    ·simp at he
  ·simp at he
theorem VU : ∀ {τ : Ty} {fs : List Field} {o : Nat}, Vf P τ fs o = true → τ.isAgg = true →
 ∃ places, fs.mapM (fun f => (P.info? f.type).map fun i => (f.offset, i.size)) = some places ∧ ∀ i τ', Na τ i = some τ' → places[i]? = some (o + Wc τ i, τ'.size)
 | .u, [], o, _, _ => ⟨[], rfl, fun i τ' h => by simp [Na] at h⟩
 | .p x y, f :: r, o, h, _ => by
  simp only [Vf, jd] at h
  obtain ⟨i, hi, hs, _⟩ := Tok.size h.1.2
  have hy : y.isAgg = true := by
   cases y <;> simp_all [Vf, Ty.isAgg]
  obtain ⟨pl, h1, h2⟩ := VU h.2 hy
  refine ⟨(f.offset, i.size) :: pl, by simp [List.mapM_cons, hi, h1], fun j τ' hj => ?_⟩
  have ho := ju h.1.1.1
  cases j with
  | zero =>
   simp only [Na, jc] at hj
   subst hj
   simp [Wc, ho, hs]
  | succ j =>
   have := h2 j τ' hj
   simp only [List.getElem?_cons_succ, this, Wc]
   congr 2; omega
 | .u, _ :: _, _, h, _ => by simp [Vf] at h
 | .p _ _, [], _, h, _ => by simp [Vf] at h
 | .i _, _, _, _, h => by simp [Ty.isAgg] at h
 | .b, _, _, _, h => by simp [Ty.isAgg] at h
 | .o, _, _, _, h => by simp [Ty.isAgg] at h
 | .mp _ _, _, _, _, h => by simp [Ty.isAgg] at h
 | .s, _, _, _, h => by simp [Ty.isAgg] at h
 | .sl _, _, _, _, h => by simp [Ty.isAgg] at h
theorem Oak (hG : EnvTy P G) (h : Qa n0 A O0 w0 s σ φ a w) {t : TypeId} {ps : Array (Nat × Operand)} (ho : o.op = .build t ps)
 (he : Hf G s o k = some out) : o.wp P a w (Ve n0 A O0 w0 k out) Q := by
 simp only [Hf, Sb, ho] at he
 split at he
 ·rename_i τ hty
  split at he
  ·rename_i d hd
   cases ha : τ.isAgg with
   | false => simp [ha] at he
   | true =>
    simp only [ha, ze] at he
    obtain ⟨z1, z2, _⟩ := ML w (OO O0 s φ) s.heap σ τ
    obtain ⟨fs, hu, hk⟩ := Tok.struct ha (hG.ty _ _ hty)
    obtain ⟨pl, hp1, hp2⟩ := VU hk ha
    obtain ⟨i, hi, hs, _, hz⟩ := Tok.size (hG.ty _ _ hty)
    obtain ⟨cs', h1, h2, h3⟩ := T3 (place := (pl.toArray[·]?)) h (fun j τ' hj => by have := hp2 j τ' hj; simpa using this) ps.toList (zD τ) d τ.zc.toArray hd z1 (by simpa using z2)
    have hb : P.built t (ps.map fun (j, y) => (j, a.eval y)).toList = some cs' := by
     unfold Program.built
     simp only [hi, hu, hz, hp1]
     have : (ps.map fun (j, y) => (j, a.eval y)).toList = ps.toList.map fun x => (x.1, a.eval x.2) := by simp
     rw [this]
     simpa [Od, ha, Value.cells] using h1
    have hr := run_build (P := P) w t (ps.map fun (j, y) => (j, a.eval y)) cs' hb
    refine Rb (w' := w) (v := .agg cs') ?_ (Cc h ?_ he)
    ·simp only [execOp, ho, qo, hr, qn, Sem.run_pure]
    ·have := Vq h2 h3
     simpa [Od, ha] using this
  ·simp at he
 ·simp at he
end
theorem Ht {l : List Nat} {hp : List (Nat × Option Ia)} {j : Nat} : Jb (Kc l ++ hp) j = if j ∈ l then some none else Jb hp j := by
 induction l with
 | nil => simp [Kc]
 | cons x l ih =>
  have : Kc (x :: l) ++ hp = (x, none) :: (Kc l ++ hp) := by simp [Kc]
  rw [this, Tc, ih]
  by_cases h : x = j
  ·subst h; simp
  ·have h' : ¬ j = x := fun e => h e.symm
   simp [h, h']
theorem Ld (s : AS) (id : Nat) (b : Option Ia) (l : List Nat) (j : Nat) :
 AS.heap ⟨s.n, s.tm, (id, b) :: (Kc l ++ s.hp)⟩ j = if j = id then b else if j ∈ l then none else s.heap j := by
 simp only [AS.heap, Tc, Ht]
 by_cases h : j = id
 ·subst h; simp
 ·have h' : ¬ id = j := fun e => h e.symm
  simp only [h, h', if_false]
  split <;> simp
section
variable {P : Program} {Out : Type} {n0 : Nat} {A : Fx} {O0 : Nat → Prop} {w0 w w' : World} {s : AS} {σ σ' : Nat → Value} {φ φ' : Nat → List Nat} {a : Act}
variable {o : Oper} {Q : Exit → Act → World → Prop} {k : AS → Option Out} {out : Out} {d : D} {v : Value} {upd : List (Nat × Option Ia)} {dst : Option Tmp} {G : Ue}
theorem Qa.absorb (h : Qa n0 A O0 w0 s σ φ a w) {id : Nat} (hnew : s.newOk id = true) (l : List Nat) (hlive : ∀ j, j ∈ l → ∃ b, s.heap j = some b) (Da : Ia) (val : Value) (F : List Nat)
 (hs : w.heap.size ≤ w'.heap.size) (hb : ∀ b, b < w.heap.size → (∀ j, j ∈ l → b ∉ φ j) → w'.heap[b]? = w.heap[b]?)
 (hos : w'.os = w.os) (htape : w'.tape = w.tape) (hout : w'.output = w.output) (hF : F.Nodup) (hFn : ∀ b, b ∈ F → w.heap.size ≤ b ∨ ∃ j, j ∈ l ∧ b ∈ φ j)
 (hrep : ∀ (hp' : Nat → Option Ia) (σ' : Nat → Value) (O' : Nat → Prop), σ' id = val → (∀ b, b < w.heap.size → ¬ OO O0 s φ b → ¬ O' b) →
  Nc w' O' hp' σ' id Da F)
 (hq : ∀ kk e xs, Da ≠ .mq kk e xs := by intro _ _ _ h; cases h) :
 Qa n0 A O0 w0 ⟨s.n, s.tm, (id, some Da) :: (Kc l ++ s.hp)⟩ (Xg σ id val) (Xg φ id F) a w' := by
 have hnm : s.ment id = false := by
  simp only [AS.newOk, jd, yj] at hnew
  exact hnew.1
 have hOO : ∀ b, b < w.heap.size → ¬ OO O0 s φ b → ¬ OO O0 ⟨s.n, s.tm, (id, some Da) :: (Kc l ++ s.hp)⟩ (Xg φ id F) b := by
  rintro b hlt hno (ho | ⟨j, blk', hl, hm⟩)
  ·exact hno (.inl ho)
  ·rw [Ld] at hl
   by_cases hj : j = id
   ·subst hj
    rw [Wd] at hm
    rcases hFn b hm with hge | ⟨j', hj', hm'⟩
    ·omega
    ·obtain ⟨b', hb'⟩ := hlive j' hj'
     exact hno (.inr ⟨j', b', hb', hm'⟩)
   ·rw [if_neg hj] at hl
    split at hl
    ·simp at hl
    ·rw [Qj _ _ hj] at hm
     exact hno (.inr ⟨j, blk', hl, hm⟩)
 refine h.trans (fun j => j = id ∨ j ∈ l) rfl rfl ?_ ?_ hs ?_ ?_ ?_ ?_ hos htape hout (fun j _ => by
  by_cases hj : j = id
  ·exact .inr (hj ▸ DA hnew)
  ·exact .inl (Qj _ _ hj)) ?_
 ·intro j hj
  simp only [not_or] at hj
  exact ⟨by rw [Ld, if_neg hj.1, if_neg hj.2], Qj _ _ hj.1, Qj _ _ hj.1⟩
 ·intro b hlt hno
  refine hb b hlt fun j hj hm => ?_
  obtain ⟨b', hb'⟩ := hlive j hj
  exact hno j b' (.inr hj) hb' hm
 ·intro j blk' _ hl b hbm
  rw [Ld] at hl
  by_cases hj : j = id
  ·subst hj
   rw [Wd] at hbm
   rcases hFn b hbm with hge | ⟨j', hj', hm'⟩
   ·exact .inl hge
   ·obtain ⟨b', hb'⟩ := hlive j' hj'
    exact .inr ⟨j', b', .inr hj', hb', hm'⟩
  ·rename_i ht
   rw [if_neg hj, if_pos (ht.resolve_left hj)] at hl
   simp at hl
 ·intro j blk' ht hl hm
  rw [Ld] at hl
  by_cases hj : j = id
  ·subst hj; rw [hnm] at hm; simp at hm
  ·rw [if_neg hj, if_pos (ht.resolve_left hj)] at hl
   simp at hl
 ·intro j blk' ht hl
  rw [Ld] at hl
  by_cases hj : j = id
  ·subst hj
   rw [if_pos rfl] at hl
   simp only [jc] at hl
   subst hl
   rw [Wd]
   exact ⟨hrep _ _ _ (Wd _ _ _) hOO, hF⟩
  ·rw [if_neg hj, if_pos (ht.resolve_left hj)] at hl
   simp at hl
 ·intro j j' b1 b2 ht ht' hne hl hl'
  rw [Ld] at hl hl'
  have e1 : j = id := by
   by_cases hj : j = id
   ·exact hj
   ·rw [if_neg hj, if_pos (ht.resolve_left hj)] at hl; simp at hl
  have e2 : j' = id := by
   by_cases hj : j' = id
   ·exact hj
   ·rw [if_neg hj, if_pos (ht'.resolve_left hj)] at hl'; simp at hl'
  exact absurd (e1.trans e2.symm) hne
 ·intro j kk e xs ht hl
  rw [Ld] at hl
  by_cases hj : j = id
  ·rw [if_pos hj] at hl
   simp only [jc] at hl
   exact absurd hl (hq kk e xs)
  ·rw [if_neg hj, if_pos (ht.resolve_left hj)] at hl
   simp at hl
theorem Gh : ∀ {l : List Nat}, Nf l = true → l.Nodup
 | [], _ => List.nodup_nil
 | x :: l, h => by
  simp only [Nf, jd, yj] at h
  refine yk.2 ⟨fun hm => ?_, Gh h.2⟩
  have : l.any (qw x) = true := qy.2 ⟨x, hm, Nat.beq_refl x⟩
  rw [h.1] at this; simp at this
def Ea (φ : Nat → List Nat) (l : List Nat) : List Nat := (l.map φ).flatten
theorem Cb {l : List Nat} {b : Nat} : b ∈ Ea φ l ↔ ∃ j, j ∈ l ∧ b ∈ φ j := by
 simp only [Ea, List.mem_flatten, qk]
 constructor
 ·rintro ⟨_, ⟨j, hj, rfl⟩, hb⟩; exact ⟨j, hj, hb⟩
 ·rintro ⟨j, hj, hb⟩; exact ⟨_, ⟨j, hj, rfl⟩, hb⟩
theorem Be {l m : List Nat} : Ea φ (l ++ m) = Ea φ l ++ Ea φ m := by simp [Ea]
theorem Rf (h : Qa n0 A O0 w0 s σ φ a w) : ∀ {l : List Nat}, l.Nodup → (∀ j, j ∈ l → ∃ b, s.heap j = some b) → (Ea φ l).Nodup
 | [], _, _ => by simp [Ea]
 | x :: l, hn, hl => by
  rw [yk] at hn
  have ih := Rf h hn.2 fun j hj => hl j (jr _ hj)
  obtain ⟨bx, hbx⟩ := hl x (by simp)
  have : Ea φ (x :: l) = φ x ++ Ea φ l := by simp [Ea]
  rw [this, yl]
  refine ⟨h.nodup x bx hbx, ih, ?_⟩
  intro b hb c hc e
  subst e
  obtain ⟨j, hj, hm⟩ := Cb.1 hc
  obtain ⟨bj, hbj⟩ := hl j (jr _ hj)
  exact h.disj x j bx bj (fun e => hn.1 (e ▸ hj)) hbx hbj b hb hm
theorem JQ {id : Nat} {e : Ty} {dp : Bool} {xs : List (T e)} {O : Nat → Prop} {hp : Nat → Option Ia} {F : List Nat} (h : Nc w O hp σ id (.row e dp xs) F)
 (hd : dp = true ∨ e.flat = true) : Tb w (.sl e) xs [σ id] F := by
 cases dp with
 | true => exact h
 | false =>
  have hf : e.flat = true := by simpa using hd
  simp only [Nc] at h
  obtain ⟨hm, ⟨h1, h2, h3⟩ | ⟨bl, off, cap, cur, et, h1, hh, h2, h3, h4, hF, hv⟩⟩ := h
  ·exact ⟨hm, .inl ⟨by rw [h1], h2, h3⟩⟩
  ·refine ⟨hm, .inr ⟨bl, off, cap, cur, et, yd (ja xs) [], by rw [h1], hh, h2, h3, h4, ?_, by simp, fun i hi => ?_⟩⟩
   ·rw [hF]; congr 1; simp
   ·have := (hv i hi).flat (w' := w) hf
    simpa [qs, hi] using this
theorem Jn (h : Qa n0 A O0 w0 s σ φ a w) : ∀ {d : D} {τ : Ty} {x : T τ} {l : List Nat} {cs : List Value}, Pb s d τ = some (x, l) → Ab w (OO O0 s φ) s.heap σ d cs →
 Tb w τ x cs (Ea φ l) ∧ (∀ j, j ∈ l → ∃ b, s.heap j = some b)
 | .t τ' y, τ, x, l, cs, he, hr => by
  simp only [Pb] at he
  cases hf : τ'.flat with
  | false => simp [hf] at he
  | true =>
   simp only [hf, ze] at he
   split at he
   ·rename_i q hq
    obtain rfl := Ud hq
    simp only [jc, jh] at he
    obtain ⟨rfl, rfl⟩ := he
    exact ⟨La.flat hr hf, by simp⟩
   ·simp at he
 | .nil, .sl e, x, l, cs, he, hr => by
  simp only [Pb, jc, jh] at he
  obtain ⟨rfl, rfl⟩ := he
  simp only [Ab] at hr
  exact ⟨⟨by simp, .inl ⟨hr, rfl, rfl⟩⟩, by simp⟩
 | .own id, .sl e, x, l, cs, he, hr => by
  simp only [Pb] at he
  split at he
  ·rename_i e' dp xs hb
   cases hd : (dp || e'.flat) with
   | false => simp [hd] at he
   | true =>
    simp only [hd, ze] at he
    split at he
    ·rename_i q hq
     obtain rfl := Ud hq
     simp only [jc, jh] at he
     obtain ⟨rfl, rfl⟩ := he
     obtain ⟨v, hcs, _, hv⟩ := hr
     rw [hcs, hv _ _ hb rfl]
     have := JQ (h.hp id _ hb) (by simpa using hd)
     exact ⟨by simpa [Ea] using this, by simp; exact ⟨_, hb⟩⟩
    ·simp at he
  ·simp at he
 | .pr y z, .p t1 t2, x, l, cs, he, hr => by
  simp only [Pb] at he
  split at he
  ·rename_i u l1 v l2 hu hv
   simp only [jc, jh] at he
   obtain ⟨rfl, rfl⟩ := he
   obtain ⟨c1, c2, h0, h1, h2⟩ := hr
   obtain ⟨a1, b1⟩ := Jn h hu h1
   obtain ⟨a2, b2⟩ := Jn h hv h2
   refine ⟨⟨c1, c2, _, _, h0, Be, a1, a2⟩, fun j hj => ?_⟩
   cases jl.1 hj with
   | inl h => exact b1 j h
   | inr h => exact b2 j h
  ·simp at he
 | .un, .u, x, l, cs, he, hr => by
  simp only [Pb, jc, jh, true_and] at he
  subst he
  simp only [Ab] at hr
  exact ⟨⟨hr, rfl⟩, by simp⟩
 | .und, τ, _, _, _, he, _ => by cases τ <;> simp [Pb] at he
 | .anyv, τ, _, _, _, he, _ => by cases τ <;> simp [Pb] at he
 | .mpo id, .mp k v, x, l, cs, he, hr => by
  simp only [Pb] at he
  split at he
  ·rename_i k' v' xs hb
   split at he
   ·rename_i q1 q2 h1 h2
    obtain rfl := Ud h1
    obtain rfl := Ud h2
    simp only [jc, jh] at he
    obtain ⟨rfl, rfl⟩ := he
    obtain ⟨v, hcs, _, hv⟩ := hr
    rw [hcs, hv _ hb rfl]
    have this : Tb w (.mp _ _) xs [σ id] (φ id) := h.hp id _ hb
    exact ⟨by simpa [Ea] using this, by simp; exact ⟨_, hb⟩⟩
   ·simp at he
  ·simp at he
 | .mpo _, .i _, _, _, _, he, _ => by simp [Pb] at he
 | .mpo _, .b, _, _, _, he, _ => by simp [Pb] at he
 | .mpo _, .o, _, _, _, he, _ => by simp [Pb] at he
 | .mpo _, .s, _, _, _, he, _ => by simp [Pb] at he
 | .mpo _, .u, _, _, _, he, _ => by simp [Pb] at he
 | .mpo _, .sl _, _, _, _, he, _ => by simp [Pb] at he
 | .mpo _, .p _ _, _, _, _, he, _ => by simp [Pb] at he
 | .nil, .i _, _, _, _, he, _ => by simp [Pb] at he
 | .nil, .b, _, _, _, he, _ => by simp [Pb] at he
 | .nil, .o, _, _, _, he, _ => by simp [Pb] at he
 | .nil, .s, _, _, _, he, _ => by simp [Pb] at he
 | .nil, .u, _, _, _, he, _ => by simp [Pb] at he
 | .nil, .p _ _, _, _, _, he, _ => by simp [Pb] at he
 | .own _, .i _, _, _, _, he, _ => by simp [Pb] at he
 | .own _, .b, _, _, _, he, _ => by simp [Pb] at he
 | .own _, .o, _, _, _, he, _ => by simp [Pb] at he
 | .own _, .s, _, _, _, he, _ => by simp [Pb] at he
 | .own _, .u, _, _, _, he, _ => by simp [Pb] at he
 | .own _, .p _ _, _, _, _, he, _ => by simp [Pb] at he
 | .cut _ _ _, τ, _, _, _, he, _ => by cases τ <;> simp [Pb] at he
 | .pr _ _, .i _, _, _, _, he, _ => by simp [Pb] at he
 | .pr _ _, .b, _, _, _, he, _ => by simp [Pb] at he
 | .pr _ _, .o, _, _, _, he, _ => by simp [Pb] at he
 | .pr _ _, .s, _, _, _, he, _ => by simp [Pb] at he
 | .pr _ _, .u, _, _, _, he, _ => by simp [Pb] at he
 | .pr _ _, .sl _, _, _, _, he, _ => by simp [Pb] at he
 | .un, .i _, _, _, _, he, _ => by simp [Pb] at he
 | .un, .b, _, _, _, he, _ => by simp [Pb] at he
 | .un, .o, _, _, _, he, _ => by simp [Pb] at he
 | .un, .s, _, _, _, he, _ => by simp [Pb] at he
 | .un, .sl _, _, _, _, he, _ => by simp [Pb] at he
 | .un, .p _ _, _, _, _, he, _ => by simp [Pb] at he
 | .ptr _ _, τ, _, _, _, he, _ => by cases τ <;> simp [Pb] at he
 | .eptr _ _ _, τ, _, _, _, he, _ => by cases τ <;> simp [Pb] at he
 | .rp _ _, τ, _, _, _, he, _ => by cases τ <;> simp [Pb] at he
 | .tup _, τ, _, _, _, he, _ => by cases τ <;> simp [Pb] at he
end
theorem Baa {cur : Array Value} {o n : Nat} {l : List Value} (ho : o + n ≤ cur.size) (hl : l.length = n) (h : ∀ j, j < n → cur[o + j]? = l[j]?) : Fd cur o n = l := by
 apply qp
 intro j
 rcases Nat.lt_or_ge j n with hj | hj
 ·rw [Cf _ _ _ _ hj, h j hj]
 ·rw [qt (by rw [Id ho]; exact hj), qt (by omega)]
theorem IS (size : Nat) : ∀ (ps : List (Nat × Value)) (m : Nat) (cs : Array Value), (∀ j p, ps[j]? = some p → p.1 = m + j ∧ p.2.cells.size = size) → (m + ps.length) * size ≤ cs.size →
 ∃ cs', Instr.fill (fun i => some (i * size, size)) cs ps = some cs' ∧ cs'.size = cs.size ∧ (∀ k, k < m * size → cs'[k]? = cs[k]?) ∧
  ∀ j p, ps[j]? = some p → Fd cs' ((m + j) * size) size = p.2.cells.toList
 | [], m, cs, _, _ => ⟨cs, rfl, rfl, fun _ _ => rfl, fun j p h => by simp at h⟩
 | (i, v) :: r, m, cs, hp, hle => by
  obtain ⟨hi, hv⟩ := hp 0 (i, v) rfl
  simp only [ya] at hi hv
  subst hi
  simp only [jw] at hle
  have e1 : (i + 1) * size = i * size + size := by rw [yf, Nat.one_mul]
  have hmono : (i + 1) * size ≤ (i + (r.length + 1)) * size := jm _ (by omega)
  have hvl : v.cells.toList.length = size := by simpa using hv
  have hfit : i * size + v.cells.toList.length ≤ cs.toList.length := by rw [hvl]; simp; omega
  have hsz : (Ub cs.toList (i * size) v.cells.toList).toArray.size = cs.size := by
   simp only [ym]; rw [Qg hfit]; simp
  obtain ⟨cs', h1, h2, h3, h4⟩ := IS size r (i + 1) (Ub cs.toList (i * size) v.cells.toList).toArray (fun j p hj => by
   obtain ⟨a1, a2⟩ := hp (j + 1) p (by simpa using hj)
   exact ⟨by omega, a2⟩) (by
    rw [hsz]; have : i + 1 + r.length = i + (r.length + 1) := by omega
    rw [this]; exact hle)
  refine ⟨cs', ?_, by rw [h2, hsz], ?_, ?_⟩
  ·rw [WY rfl hv (by omega)]; exact h1
  ·intro k hk
   rw [h3 k (by omega)]
   have := Ji hfit k
   rw [if_pos hk] at this
   simpa using this
  ·intro j p hj
   cases j with
   | zero =>
    simp only [List.getElem?_cons_zero, jc] at hj
    subst hj
    simp only [ya]
    refine Baa (by rw [h2, hsz]; omega) hvl fun j' hj' => ?_
    rw [h3 _ (by omega)]
    have := Ji hfit (i * size + j')
    rw [if_neg (by omega), if_pos (by omega)] at this
    rw [Nat.add_sub_cancel_left] at this
    simpa using this
   | succ j =>
    have := h4 j p (by simpa using hj)
    have e2 : i + 1 + j = i + (j + 1) := by omega
    rwa [e2] at this
theorem K0 {z : Array Value} {n sz i j : Nat} (hz : z.size = sz) (hi : i < n) (hj : j < sz) : (madeCells z (n * sz))[i * sz + j]? = z[j]? := by
 have hlt : i * sz + j < n * sz := by
  have : (i + 1) * sz ≤ n * sz := jm _ hi
  rw [yf, Nat.one_mul] at this
  omega
 have hm : (i * sz + j) % sz = j := by rw [Nat.mul_comm, Nat.mul_add_mod, Nat.mod_eq_of_lt hj]
 simp [madeCells, hlt, hz, hm, hj]
theorem Fal {z : Array Value} {n sz i : Nat} (hz : z.size = sz) (hi : i < n) : Fd (madeCells z (n * sz)) (i * sz) sz = z.toList := by
 refine Baa ?_ (by simpa using hz) fun j hj => ?_
 ·have : (i + 1) * sz ≤ n * sz := jm _ hi
  rw [yf, Nat.one_mul] at this
  simpa [size_madeCells] using this
 ·rw [K0 hz hi hj]; simp
theorem Par {τ : Ty} {d : D} {v : Value} {w : World} {O : Nat → Prop} {hp : Nat → Option Ia} {σ : Nat → Value} (hs : Bb τ d) (ha : τ.isAgg = false) (h : Ab w O hp σ d [v]) : v.cells = #[v] := by
 cases d with
 | t τ' x =>
  simp only [Bb] at hs
  subst hs
  cases τ' with
  | i k => simp only [Ab, La, yh, and_true] at h; rw [h]; rfl
  | b => simp only [Ab, La, yh, and_true] at h; rw [h]; rfl
  | o => simp only [Ab, La, yh, and_true] at h; rw [h]; rfl
  | mp _ _ => obtain ⟨hq, _⟩ | ⟨q, es, clk, hq, _⟩ := h <;> (simp only [yh, and_true] at hq; rw [hq]; rfl)
  | s => simp only [Ab, La, yh, and_true] at h; rw [h]; rfl
  | sl e => obtain ⟨q, c, hq, _⟩ := h; simp only [yh, and_true] at hq; rw [hq]; rfl
  | u => simp [Ty.isAgg] at ha
  | p x y => simp [Ty.isAgg] at ha
 | nil => simp only [Ab, yh, and_true] at h; rw [h]; rfl
 | own id =>
  obtain ⟨u, hu, h1, _⟩ := h
  simp only [yh, and_true] at hu
  subst hu
  cases v <;> first | rfl | simp [Value.oneCell'] at h1
 | mpo id =>
  obtain ⟨u, hu, h1, _⟩ := h
  simp only [yh, and_true] at hu
  subst hu
  cases v <;> first | rfl | simp [Value.oneCell'] at h1
 | cut id lo hi =>
  obtain ⟨u, hu, h1, _⟩ := h
  simp only [yh, and_true] at hu
  subst hu
  cases v <;> first | rfl | simp [Value.oneCell'] at h1
 | _ => cases τ <;> simp [Bb, Ty.isAgg] at hs ha
theorem Eai {τ : Ty} {cs : List Value} {w : World} {O : Nat → Prop} {hp : Nat → Option Ia} {σ : Nat → Value} {d : D} (hs : Bb τ d) (h : Ab w O hp σ d cs) : (Od τ cs).cells.toList = cs := by
 have hl := Ab.length hs h
 unfold Od
 cases ha : τ.isAgg with
 | true => simp [Value.cells]
 | false =>
  rw [Ty.size_one ha] at hl
  obtain ⟨u, rfl⟩ := q9.1 hl
  have := Par hs ha h
  simp [this]
theorem CN (τ : Ty) : (Od τ τ.zc).cells.toList = τ.zc := by
 obtain ⟨h1, h2, _⟩ := ML default (fun _ => False) (fun _ => none) (fun _ => default) τ
 exact Eai h1 h2
theorem TE (τ : Ty) : τ.zc.length = τ.size := by
 obtain ⟨h1, h2, _⟩ := ML default (fun _ => False) (fun _ => none) (fun _ => default) τ
 exact Ab.length h1 h2
theorem X3 {z : List Value} {sz : Nat} (hz : z.length = sz) : ∀ {n j : Nat}, j < n → Fd (yd n z).flatten.toArray (j * sz) sz = z
 | 0, _, h => by omega
 | n + 1, 0, _ => by
  simp only [Fd, List.replicate_succ, yn, Nat.zero_mul, List.drop_zero, ← hz]
  simp
 | n + 1, j + 1, h => by
  have := X3 hz (n := n) (j := j) (by omega)
  simp only [Fd, List.replicate_succ, yn] at this ⊢
  rw [yo, Nat.add_comm, List.drop_append, List.drop_eq_nil_of_le (by omega)]
  have e : sz + j * sz - z.length = j * sz := by omega
  rw [e]
  simpa using this
theorem KY (w : World) : ∀ τ : Ty, Tb w τ (zT τ) τ.zc []
 | .i _ => ⟨rfl, rfl⟩
 | .b => ⟨rfl, rfl⟩
 | .o => ⟨rfl, rfl⟩
 | .mp _ _ => .inl ⟨rfl, rfl, rfl⟩
 | .s => ⟨rfl, rfl⟩
 | .sl e => ⟨by simp [zT], .inl ⟨rfl, rfl, rfl⟩⟩
 | .u => ⟨rfl, rfl⟩
 | .p x y => ⟨_, _, [], [], rfl, rfl, KY w x, KY w y⟩
section
variable {P : Program} {Out : Type} {n0 : Nat} {A : Fx} {O0 : Nat → Prop} {w0 w w' : World} {s : AS} {σ σ' : Nat → Value} {φ φ' : Nat → List Nat} {a : Act}
variable {o : Oper} {Q : Exit → Act → World → Prop} {k : AS → Option Out} {out : Out} {d : D} {v : Value} {upd : List (Nat × Option Ia)} {dst : Option Tmp} {G : Ue}
theorem Cx {id : Nat} {e : Ty} {dp : Bool} {xs : List (T e)} {O : Nat → Prop} {val : Value} (hv : val.oneCell' = true) {s' : AS} (_ : s'.heap id = some (.row e dp xs)) :
 Zc w O s'.heap (Xg σ id val) (.own id) val := by
 rw [AD]
 exact ⟨hv, fun _ _ _ _ => (Wd _ _ _).symm⟩
theorem Hak (h : Qa n0 A O0 w0 s σ φ a w) {tt : Nat} (hn : s.newOk tt = true) {e : Ty} {et : TypeId} (n : Nat) (hle : n ≤ 1073741824) :
 Qa n0 A O0 w0 ⟨s.n, s.tm, (tt, some (.row e true (yd n (zT e)))) :: s.hp⟩ (Xg σ tt (.slice (some ⟨w.heap.size, 0, none⟩) n n)) (Xg φ tt [w.heap.size]) a
  (w.alloc (.cells (madeCells (Od e e.zc).cells (n * e.size)) et)) := by
 have hzc : (Od e e.zc).cells.size = e.size := by
  have := CN e
  rw [← Array.length_toList, this, TE]
 have hmade : (madeCells (Od e e.zc).cells (n * e.size)).size = n * e.size := size_madeCells _ _
 have hlen : ja (yd n (zT e)) = n := List.length_replicate
 refine h.new1 (id := tt) hn _ _ _ (by simp) (fun b hb => Og w _ b hb) rfl rfl rfl (by simp) (by simp) ?_
 intro hp' σ' O' hσ _ _
 simp only [Nc, hσ]
 refine ⟨by rw [hlen]; unfold Aj; omega, .inr ⟨w.heap.size, 0, n, _, et, yd n [], by rw [hlen], heap_alloc_new w _, by rw [hlen]; exact jo _, by unfold Aj; omega, by rw [hmade]; omega, by simp, by simp, fun j hj => ?_⟩⟩
 have hj' : j < n := by rw [hlen] at hj; exact hj
 simp only [js]
 rw [Fal hzc hj', CN]
 have e1 : List.get (yd n (zT e)) ⟨j, hj⟩ = zT e := List.getElem_replicate hj
 have e2 : (yd n ([] : List Nat)).getD j [] = [] := by
  rw [qf, List.getElem?_replicate]; split <;> rfl
 rw [e1, e2]
 exact KY _ e
theorem Oah {e : Ty} {t et : TypeId} (hu : P.underlying t = some (.slice et)) (hte : Nd P e et = true) (n : Int) (h0 : 0 ≤ n) (h30 : n ≤ 1073741824) :
 (Instr.makeSlice t (.int .i64 n) (.int .i64 n)).run P w = .ok (.slice (some ⟨w.heap.size, 0, none⟩) n.toNat n.toNat) (w.alloc (.cells (madeCells (Od e e.zc).cells (n.toNat * e.size)) et)) := by
 obtain ⟨i, hi, hsz, hby, hz⟩ := Tok.size hte
 have hbytes : (i.bytes : Int) * n ≤ 281474976710656 := by
  have h1 : (i.bytes : Int) ≤ 65536 := by omega
  have := Int.mul_le_mul h1 h30 h0 (by omega)
  omega
 have hr := run_make (P := P) w t et i _ hu hi hz .i64 .i64 n n h0 (Int.le_refl _) hbytes (by omega)
 rwa [hsz] at hr
theorem F5 (hG : EnvTy P G) (h : Qa n0 A O0 w0 s σ φ a w) {t : TypeId} {x y : Operand} (ho : o.op = .makeSlice t x y)
 (he : Hf G s o k = some out) : o.wp P a w (Ve n0 A O0 w0 k out) Q := by
 simp only [Hf, Sb, ho] at he
 split at he
 ·rename_i tt e n m hd hty hx hy
  cases hn : s.newOk tt with
  | false => simp [hn] at he
  | true =>
   simp only [hn, ze] at he
   cases hc : (((n : Int) == m) && (decide ((0 : Int) ≤ n) && decide ((n : Int) ≤ Oa))) with
   | false => rw [hc] at he; exact absurd he (by simp)
   | true =>
    rw [hc] at he
    simp only [ze] at he
    simp only [jd, beq_iff_eq, decide_eq_true_eq] at hc
    obtain ⟨hnm, h0, hle⟩ := hc
    subst hnm
    have hv := h.ev hx
    have hv2 := h.ev hy
    rw [Ge] at hv hv2
    obtain ⟨et, hu, hte⟩ := Tok.sl (hG.ty _ _ hty)
    have hr := Oah (w := w) hu hte n h0 hle
    have hc := Hak (tt := tt) (et := et) h hn (e := e) (jy n) (by
     have : (jy n : Int) ≤ 1073741824 := by rw [Int.toNat_of_nonneg h0]; exact hle
     exact Int.ofNat_le.1 this)
    refine Rb (v := .slice (some ⟨w.heap.size, 0, none⟩) (jy n) (jy n)) ?_ (Me rfl hc (Cx rfl (Eg _ _ _)) he)
    simp only [execOp, ho, hv, hv2, qo, hr, qn, Sem.run_pure]
 ·simp at he
theorem Mak (hG : EnvTy P G) (h : Qa n0 A O0 w0 s σ φ a w) {t : TypeId} (ho : o.op = .alloc t)
 (he : Hf G s o k = some out) : o.wp P a w (Ve n0 A O0 w0 k out) Q := by
 simp only [Hf, Sb, ho] at he
 split at he
 ·rename_i tt τ hd hty
  cases hn : s.newOk tt with
  | false => simp [hn] at he
  | true =>
   simp only [hn, ze] at he
   obtain ⟨h1, h2, h3⟩ := ML w (OO O0 s φ) s.heap σ τ
   have hc := Q9 (id := tt) h hn t h1 h2 (fun j hj => by rw [h3 j] at hj; simp at hj)
   refine Rb (w' := w.alloc (.cells τ.zc.toArray t)) (v := .pointer (some ⟨w.heap.size, 0, none⟩)) ?_ (Me rfl hc (VG _ rfl (Eg _ _ _)) he)
   have hz := Tok.zero (hG.ty _ _ hty) w
   have hcells : (Od τ τ.zc).cells = τ.zc.toArray := by
    have hl := Ab.length h1 h2
    unfold Od
    cases ha : τ.isAgg with
    | true => simp [Value.cells]
    | false =>
     rw [Ty.size_one ha] at hl
     obtain ⟨u, hu⟩ := q9.1 hl
     rw [hu]
     cases τ <;> simp_all [Ty.zc, Ty.isAgg] <;> subst hu <;> rfl
   simp [execOp, ho, Instr.alloc, hz, newVar, newRow, hcells]
 ·rename_i tt hd hty
  split at he
  ·rename_i e n har
   cases hn : (s.newOk tt && (yb 0 n && (jx n 1000 && jx e.size 1000))) with
   | false => rw [hn] at he; simp at he
   | true =>
    rw [hn] at he
    simp only [ze] at he
    simp only [jd] at hn
    obtain ⟨hnew, hn0, hn1, _⟩ := hn
    rw [ye] at hn0
    have hn1 := q6 hn1
    have hlen : ja (yd n (zT e)) = n := List.length_replicate
    have hsz : (yd n e.zc).flatten.length = n * e.size := by simp [List.length_flatten, TE]
    have hc : Qa n0 A O0 w0 ⟨s.n, s.tm, (tt, some (.row e true (yd n (zT e)))) :: s.hp⟩ (Xg σ tt (.slice (some ⟨w.heap.size, 0, none⟩) n n)) (Xg φ tt [w.heap.size]) a
     (w.alloc (.cells (yd n e.zc).flatten.toArray t)) := by
     refine h.new1 (id := tt) hnew _ _ _ (by simp) (fun b hb => Og w _ b hb) rfl rfl rfl (by simp) (by simp) ?_
     intro hp' σ' O' hσ _ _
     simp only [Nc, hσ]
     refine ⟨by rw [hlen]; unfold Aj; omega, .inr ⟨w.heap.size, 0, n, _, t, yd n [], by rw [hlen], heap_alloc_new w _, by rw [hlen]; exact jo _, by unfold Aj; omega, by simp only [ym, hsz]; omega, by simp, by simp, fun j hj => ?_⟩⟩
     have hj' : j < n := by rw [hlen] at hj; exact hj
     simp only [js]
     have hseg : Fd (yd n e.zc).flatten.toArray (j * e.size) e.size = e.zc := X3 (TE e) hj'
     have e1 : List.get (yd n (zT e)) ⟨j, hj⟩ = zT e := List.getElem_replicate hj
     have e2 : (yd n ([] : List Nat)).getD j [] = [] := by
      rw [qf, List.getElem?_replicate]; split <;> rfl
     rw [hseg, e1, e2]
     exact KY _ e
    refine Rb (v := .pointer (some ⟨w.heap.size, 0, none⟩)) ?_ (Me rfl hc ?_ he)
    ·have har' := hG.ar _ _ _ har
     simp only [ZR, jd] at har'
     have h2 := har'.2
     split at h2
     ·rename_i inf hinf
      split at h2
      ·rename_i cs hz
       have hcs : cs = (yd n e.zc).flatten.toArray := by
        apply Array.toList_inj.1
        simpa using HJ h2
       simp [execOp, ho, Instr.alloc, zeroValue, typeInfo, hinf, hz, newVar, newRow, Value.cells, hcs]
      ·simp at h2
     ·simp at h2
    ·rw [Sj]
     refine ⟨rfl, fun blk' e' n' hb' hr' => ?_⟩
     have hb2 : AS.heap ⟨s.n, s.tm, (tt, some (.row e true (yd n (zT e)))) :: s.hp⟩ tt = some (.row e true (yd n (zT e))) := Eg _ _ _
     have hb3 := hb2.symm.trans hb'
     cases hb3
     simp only [Ia.rowN, jc, jh] at hr'
     obtain ⟨rfl, hr'⟩ := hr'
     rw [hlen] at hr'
     subst hr'
     exact ⟨hn0, w.heap.size, 0, n, by rw [Wd], by simp [Hb]⟩
  ·simp at he
 ·simp at he
theorem I9 (h : Qa n0 A O0 w0 s σ φ a w) {e : Ty} : ∀ {ps : List (Nat × Operand)} {m : Nat} {xs : List (T e)} {l : List Nat}, QO s e m ps = some (xs, l) →
 xs.length = ps.length ∧ ∃ Ls : List (List Nat), Ls.length = ps.length ∧ l = Ls.flatten ∧
  ∀ j p, ps[j]? = some p → p.1 = m + j ∧ ∃ d x lj, s.ev p.2 = some d ∧ Pb s d e = some (x, lj) ∧ xs[j]? = some x ∧ Ls[j]? = some lj
 | [], m, xs, l, he => by
  simp only [QO, jc, jh] at he
  obtain ⟨rfl, rfl⟩ := he
  exact ⟨rfl, [], rfl, rfl, fun j p hj => by simp at hj⟩
 | (i, x) :: r, m, xs, l, he => by
  simp only [QO] at he
  cases hi : qw i m with
  | false => simp [hi] at he
  | true =>
   simp only [hi, ze] at he
   split at he
   ·rename_i d hx
    split at he
    ·rename_i y l1 ys l2 hy hys
     simp only [jc, jh] at he
     obtain ⟨rfl, rfl⟩ := he
     obtain ⟨h1, Ls, h2, h3, h4⟩ := I9 h hys
     refine ⟨by simp [h1], l1 :: Ls, by simp [h2], by simp [h3], fun j p hj => ?_⟩
     cases j with
     | zero =>
      simp only [List.getElem?_cons_zero, jc] at hj
      subst hj
      exact ⟨by simpa using ju hi, d, y, l1, hx, hy, rfl, rfl⟩
     | succ j =>
      obtain ⟨a1, a2⟩ := h4 j p (by simpa using hj)
      exact ⟨by omega, by simpa using a2⟩
    ·simp at he
   ·simp at he
theorem V4 {e : Ty} : ∀ {ps : List (Nat × Operand)} {m : Nat} {xs : List (T e)}, BJ s e m ps = some xs →
 xs.length = ps.length ∧ ∀ j p, ps[j]? = some p → p.1 = m + j ∧ ∃ d x, s.ev p.2 = some d ∧ Bj d e = some x ∧ xs[j]? = some x
 | [], m, xs, he => by
  simp only [BJ, jc] at he
  subst he
  exact ⟨rfl, fun j p hj => by simp at hj⟩
 | (i, x) :: r, m, xs, he => by
  simp only [BJ] at he
  cases hi : qw i m with
  | false => simp [hi] at he
  | true =>
   simp only [hi, ze] at he
   split at he
   ·rename_i d hx
    split at he
    ·rename_i y ys hy hys
     simp only [jc] at he
     subst he
     obtain ⟨h1, h4⟩ := V4 hys
     refine ⟨by simp [h1], fun j p hj => ?_⟩
     cases j with
     | zero =>
      simp only [List.getElem?_cons_zero, jc] at hj
      subst hj
      exact ⟨by simpa using ju hi, d, y, hx, hy, rfl⟩
     | succ j =>
      obtain ⟨a1, a2⟩ := h4 j p (by simpa using hj)
      exact ⟨by omega, by simpa using a2⟩
    ·simp at he
   ·simp at he
theorem Kj : ∀ {d : D} {τ : Ty} {x : T τ} {l : List Nat}, Pb s d τ = some (x, l) → Bb τ d := by
 intro d
 induction d with
 | t τ' y =>
  intro τ x l he
  simp only [Pb] at he
  cases hf : τ'.flat with
  | false => simp [hf] at he
  | true =>
   simp only [hf, ze] at he
   split at he
   ·rename_i q hq
    have := Ud hq
    simpa [Bb] using this
   ·simp at he
 | pr y z ih1 ih2 =>
  intro τ x l he
  cases τ with
  | p t1 t2 =>
   simp only [Pb] at he
   split at he
   ·rename_i u l1 v l2 hu hv
    exact ⟨ih1 hu, ih2 hv⟩
   ·simp at he
  | _ => simp [Pb] at he
 | nil => intro τ x l he; cases τ <;> first | trivial | simp [Pb] at he
 | own id => intro τ x l he; cases τ <;> first | trivial | simp [Pb] at he
 | un => intro τ x l he; cases τ <;> first | trivial | simp [Pb] at he
 | mpo id => intro τ x l he; cases τ <;> first | trivial | simp [Pb] at he
 | _ => intro τ x l he; cases τ <;> simp [Pb] at he
theorem Wg {O : Nat → Prop} {hp : Nat → Option Ia} : ∀ {d : D} {τ : Ty} {x : T τ}, Bj d τ = some x → Bb τ d ∧ ∀ cs, Ab w O hp σ d cs → La w O τ x cs := by
 intro d
 induction d with
 | t τ' y =>
  intro τ x he
  simp only [Bj] at he
  split at he
  ·rename_i q hq
   obtain rfl := Ud hq
   simp only [jc] at he
   subst he
   exact ⟨by simp [Bb], fun cs hr => hr⟩
  ·simp at he
 | pr y z ih1 ih2 =>
  intro τ x he
  cases τ with
  | p t1 t2 =>
   simp only [Bj] at he
   split at he
   ·rename_i u v hu hv
    simp only [jc] at he
    subst he
    refine ⟨⟨(ih1 hu).1, (ih2 hv).1⟩, ?_⟩
    rintro cs ⟨c1, c2, h0, h1, h2⟩
    exact ⟨c1, c2, h0, (ih1 hu).2 _ h1, (ih2 hv).2 _ h2⟩
   ·simp at he
  | _ => simp [Bj] at he
 | nil =>
  intro τ x he
  cases τ with
  | sl e =>
   simp only [Bj, jc] at he
   subst he
   refine ⟨trivial, fun cs hr => ?_⟩
   simp only [Ab] at hr
   exact ⟨none, 0, hr, jo _, by simp, .inl rfl⟩
  | _ => simp [Bj] at he
 | un =>
  intro τ x he
  cases τ with
  | u => exact ⟨trivial, fun cs hr => hr⟩
  | _ => simp [Bj] at he
 | _ => intro τ x he; cases τ <;> simp [Bj] at he
theorem HL {e : Ty} {t et : TypeId} (hu : P.underlying t = some (.slice et)) (hte : Nd P e et = true) {n : Nat} (hn : n ≤ 1000) (he : e.size ≤ 1000) {parts : Array (Nat × Value)} {cells : Array Value}
 (hf : Instr.fill (fun i => some (i * e.size, e.size)) (madeCells (Od e e.zc).cells (n * e.size)) parts.toList = some cells) :
 (Instr.buildSlice t n parts).run P w = .ok (.slice (some ⟨w.heap.size, 0, none⟩) n n) (w.alloc (.cells cells et)) := by
 have hle : n * e.size ≤ 1000 * 1000 := Nat.mul_le_mul hn he
 have h24 : ¬ (n * e.size > 2 ^ 24) := by omega
 unfold Instr.buildSlice
 simp only [qo, run_underlying hu, qn, Tok.sizeOf hte w]
 rw [if_neg h24]
 by_cases hz : n * e.size = 0
 ·have hm0 : (Array.range (n * e.size)).map ((#[] : Array Value)[· % (#[] : Array Value).size]!) = madeCells (Od e e.zc).cells (n * e.size) := by
   rw [hz]; simp [madeCells]
  rw [if_pos hz]
  simp only [qo, Sem.run_pure, qn]
  rw [hm0, hf]
  simp [newRow]
 ·rw [if_neg hz]
  simp only [qo, Tok.zero hte w, Sem.run_pure, qn]
  have hm0 : (Array.range (n * e.size)).map ((Od e e.zc).cells[· % (Od e e.zc).cells.size]!) = madeCells (Od e e.zc).cells (n * e.size) := rfl
  rw [hm0, hf]
  simp [newRow]
end
section
variable {P : Program} {Out : Type} {n0 : Nat} {A : Fx} {O0 : Nat → Prop} {w0 w w' : World} {s : AS} {σ σ' : Nat → Value} {φ φ' : Nat → List Nat} {a : Act}
variable {o : Oper} {Q : Exit → Act → World → Prop} {k : AS → Option Out} {out : Out} {d : D} {v : Value} {upd : List (Nat × Option Ia)} {dst : Option Tmp} {G : Ue}
theorem Tb.block_ext {τ : Ty} {x : T τ} {cs : List Value} {F : List Nat} (h : Tb w τ x cs F) (hb : ∀ b, b < w.heap.size → w'.heap[b]? = w.heap[b]?) : Tb w' τ x cs F :=
 h.stable fun b hm => hb b (h.lt b hm)
theorem L0 (hG : EnvTy P G) (h : Qa n0 A O0 w0 s σ φ a w) {t : TypeId} {n : Nat} {ps : Array (Nat × Operand)} (ho : o.op = .buildSlice t n ps)
 (he : Hf G s o k = some out) : o.wp P a w (Ve n0 A O0 w0 k out) Q := by
 simp only [Hf, Sb, ho] at he
 split at he
 ·rename_i tt e hd hty
  obtain ⟨et, hu, hte⟩ := Tok.sl (hG.ty _ _ hty)
  have hzc : (Od e e.zc).cells.size = e.size := by
   have := CN e
   rw [← Array.length_toList, this, TE]
  have hpm : (ps.map fun (j, y) => (j, a.eval y)).toList = ps.toList.map fun x => (x.1, a.eval x.2) := by simp
  split at he
  ·rename_i xs l hl
   cases hc : (s.newOk tt && Nf l && qw n ps.size && jx n 1000 && jx e.size 1000) with
   | false => rw [hc] at he; simp at he
   | true =>
    rw [hc] at he
    simp only [ze] at he
    simp only [jd] at hc
    obtain ⟨⟨⟨⟨hn, hnd⟩, hnp⟩, hn1⟩, he1⟩ := hc
    have hnp := ju hnp
    have hn1 := q6 hn1
    have he1 := q6 he1
    obtain ⟨hlen, Ls, hL1, hL2, hL3⟩ := I9 h hl
    have hpl : ps.toList.length = n := by simp [hnp]
    have hparts : ∀ j p, (ps.toList.map fun x => (x.1, a.eval x.2))[j]? = some p → p.1 = 0 + j ∧ p.2.cells.size = e.size := by
     intro j p hj
     rw [List.getElem?_map] at hj
     cases hq : ps.toList[j]? with
     | none => rw [hq] at hj; simp at hj
     | some q =>
      rw [hq] at hj
      simp only [qb, jc] at hj
      subst hj
      obtain ⟨h1, d, x, lj, h2, h3, h4, h5⟩ := hL3 j q hq
      obtain ⟨hr, _⟩ := Ye (Kj h3) (h.ev h2)
      have := Ab.length (Kj h3) hr
      exact ⟨h1, by simpa using this⟩
    obtain ⟨cs', hf, hsz, _, hseg⟩ := IS e.size (ps.toList.map fun x => (x.1, a.eval x.2)) 0 (madeCells (Od e e.zc).cells (n * e.size)) hparts (by
     rw [size_madeCells]; simp [hnp])
    rw [size_madeCells] at hsz
    rw [← hpm] at hf
    have hr := HL (w := w) hu hte hn1 he1 hf
    have hxl : ja xs = n := by rw [← hpl]; exact hlen
    have hlive : ∀ j, j ∈ l → ∃ b, s.heap j = some b := by
     intro j hj
     rw [hL2] at hj
     obtain ⟨lj, hlj, hm⟩ := List.mem_flatten.1 hj
     obtain ⟨q, hq, rfl⟩ := List.mem_iff_getElem.1 hlj
     have hq' : q < ps.toList.length := by rw [← hL1]; exact hq
     obtain ⟨_, d, x, lj, h2, h3, h4, h5⟩ := hL3 q _ (je hq')
     obtain ⟨hr, _⟩ := Ye (Kj h3) (h.ev h2)
     rw [je hq] at h5
     simp only [jc] at h5
     rw [h5] at hm
     exact (Jn h h3 hr).2 j hm
    have hflat : (Ls.map (Ea φ)).flatten = Ea φ l := by
     rw [hL2]
     clear hL1 hL2 hL3
     induction Ls with
     | nil => simp [Ea]
     | cons x r ih => simp only [yi, yn, Be, ih]
    have hlt : ∀ b, b ∈ Ea φ l → b < w.heap.size := by
     intro b hb
     obtain ⟨j, hj, hm⟩ := Cb.1 hb
     obtain ⟨bj, hbj⟩ := hlive j hj
     exact (h.hp j bj hbj).lt b hm
    have hc := h.absorb (id := tt) (w' := w.alloc (.cells cs' et)) hn l hlive (.row e true xs) (.slice (some ⟨w.heap.size, 0, none⟩) n n) (w.heap.size :: Ea φ l)
     (by simp) (fun b hb _ => Og w _ b hb) rfl rfl rfl (by
      rw [yk]
      exact ⟨fun hm => Nat.lt_irrefl _ (hlt _ hm), Rf h (Gh hnd) hlive⟩) (by
      intro b hb
      cases jp.1 hb with
      | inl e => left; omega
      | inr hm => right; exact Cb.1 hm) (by
      intro hp' σ' O' hσ _
      simp only [Nc, hσ]
      refine ⟨by rw [hxl]; unfold Aj; omega, .inr ⟨w.heap.size, 0, n, cs', et, Ls.map (Ea φ), by rw [hxl], heap_alloc_new w _, by omega, by unfold Aj; omega, by rw [hsz]; omega, by rw [hflat], by rw [yp, hL1, hxl, hpl], fun j hj => ?_⟩⟩
      have hj' : j < ps.toList.length := by rw [hpl, ← hxl]; exact hj
      obtain ⟨_, d, x, lj, h2, h3, h4, h5⟩ := hL3 j _ (je hj')
      obtain ⟨hrep, _⟩ := Ye (Kj h3) (h.ev h2)
      have hown := (Jn h h3 hrep).1
      have hx : List.get xs ⟨j, hj⟩ = x := by
       rw [je hj] at h4
       simpa using h4
      have hF : (Ls.map (Ea φ)).getD j [] = Ea φ lj := by
       rw [qf, List.getElem?_map, h5]; rfl
      have hs := hseg j (ps.toList[j].1, a.eval ps.toList[j].2) (by rw [List.getElem?_map, je hj']; rfl)
      simp only [js] at hs ⊢
      rw [hx, hF, hs]
      exact hown.block_ext fun b hb => Og w _ b hb)
    refine Rb (v := .slice (some ⟨w.heap.size, 0, none⟩) n n) ?_ (Me (upd := (tt, some (.row e true xs)) :: Kc l) rfl hc (Cx rfl (by rw [yg, Ld, if_pos rfl])) he)
    simp only [execOp, ho, qo, hr, qn, Sem.run_pure]
  ·split at he
   ·rename_i xs hl
    cases hc : (s.newOk tt && qw n ps.size && jx n 1000 && jx e.size 1000) with
    | false => rw [hc] at he; simp at he
    | true =>
     rw [hc] at he
     simp only [ze] at he
     simp only [jd] at hc
     obtain ⟨⟨⟨hn, hnp⟩, hn1⟩, he1⟩ := hc
     have hnp := ju hnp
     have hn1 := q6 hn1
     have he1 := q6 he1
     obtain ⟨hlen, hL3⟩ := V4 hl
     have hpl : ps.toList.length = n := by simp [hnp]
     have hparts : ∀ j p, (ps.toList.map fun x => (x.1, a.eval x.2))[j]? = some p → p.1 = 0 + j ∧ p.2.cells.size = e.size := by
      intro j p hj
      rw [List.getElem?_map] at hj
      cases hq : ps.toList[j]? with
      | none => rw [hq] at hj; simp at hj
      | some q =>
       rw [hq] at hj
       simp only [qb, jc] at hj
       subst hj
       obtain ⟨h1, d, x, h2, h3, h4⟩ := hL3 j q hq
       have hsh := (Wg (w := w) (O := OO O0 s φ) (hp := s.heap) (σ := σ) h3).1
       obtain ⟨hr, _⟩ := Ye hsh (h.ev h2)
       have := Ab.length hsh hr
       exact ⟨h1, by simpa using this⟩
     obtain ⟨cs', hf, hsz, _, hseg⟩ := IS e.size (ps.toList.map fun x => (x.1, a.eval x.2)) 0 (madeCells (Od e e.zc).cells (n * e.size)) hparts (by
      rw [size_madeCells]; simp [hnp])
     rw [size_madeCells] at hsz
     rw [← hpm] at hf
     have hr := HL (w := w) hu hte hn1 he1 hf
     have hxl : ja xs = n := by rw [← hpl]; exact hlen
     have hc := h.new1 (id := tt) (w' := w.alloc (.cells cs' et)) hn (.row e false xs) (.slice (some ⟨w.heap.size, 0, none⟩) n n) [w.heap.size]
      (by simp) (fun b hb => Og w _ b hb) rfl rfl rfl (by simp) (by simp) (by
       intro hp' σ' O' hσ hO _
       simp only [Nc, hσ]
       refine ⟨by rw [hxl]; unfold Aj; omega, .inr ⟨w.heap.size, 0, n, cs', et, by rw [hxl], heap_alloc_new w _, by omega, by unfold Aj; omega, by rw [hsz]; omega, rfl, fun j hj => ?_⟩⟩
       have hj' : j < ps.toList.length := by rw [hpl, ← hxl]; exact hj
       obtain ⟨_, d, x, h2, h3, h4⟩ := hL3 j _ (je hj')
       obtain ⟨hsh, hvw⟩ := Wg (w := w) (O := OO O0 s φ) (hp := s.heap) (σ := σ) h3
       obtain ⟨hrep, _⟩ := Ye hsh (h.ev h2)
       have hx : List.get xs ⟨j, hj⟩ = x := by
        rw [je hj] at h4
        simpa using h4
       have hs := hseg j (ps.toList[j].1, a.eval ps.toList[j].2) (by rw [List.getElem?_map, je hj']; rfl)
       simp only [js] at hs ⊢
       rw [hx, hs]
       exact (hvw _ hrep).stable (fun b _ hb => Og w _ b hb) hO)
     refine Rb (v := .slice (some ⟨w.heap.size, 0, none⟩) n n) ?_ (Me rfl hc (Cx rfl (Eg _ _ _)) he)
     simp only [execOp, ho, qo, hr, qn, Sem.run_pure]
   ·simp at he
 ·simp at he
end
section
variable {P : Program} {w : World}
theorem PZ {τ : Ty} {t : TypeId} (h : Nd P τ t = true) {xs : Array Value} {o : Nat} (hs : o + τ.size ≤ xs.size) :
 (part t xs o).run P w = .ok (Od τ (Fd xs o τ.size)) w := by
 unfold part
 rw [qo, Tok.isAgg h w]
 simp only [qn]
 cases ha : τ.isAgg with
 | true =>
  simp only [if_true, qo, Tok.sizeOf h w, qn, Sem.run_pure, Od, ha]
  congr 2
  apply Array.ext'
  simp [Fd, List.take_drop]
 | false =>
  have h1 := Ty.size_one ha
  have hl := Id hs
  rw [h1] at hl
  obtain ⟨v, hv⟩ := q9.1 hl
  have : xs[o]? = some v := by
   have := Cf xs o 1 0 (by omega)
   rw [hv] at this
   simpa using this.symm
  simp [Od, ha, h1, hv, this]
theorem K7 {τ : Ty} (hF : ∀ (x y : T τ) (fs : List Field) (o d : Nat) (xs ys : Array Value) (O : Nat → Prop), τ.cmp = true → τ.isAgg = true → Vf P τ fs o = true → τ.cnt ≤ d + 1 →
 La w O τ x (Fd xs o τ.size) → La w O τ y (Fd ys o τ.size) → o + τ.size ≤ xs.size → o + τ.size ≤ ys.size → (Op.eqFields d xs ys fs).run P w = .ok (Iv τ x y) w)
 {t : TypeId} (h : Nd P τ t = true) (hf : τ.cmp = true) {d : Nat} (hd : τ.cnt ≤ d) {x y : T τ} {cs ds : List Value} {O : Nat → Prop} (hx : La w O τ x cs) (hy : La w O τ y ds) :
 (Op.equalIn d t (Od τ cs) (Od τ ds)).run P w = .ok (Iv τ x y) w := by
 have h0 : 0 < τ.cnt := by cases τ <;> simp [Ty.cnt]
 obtain ⟨d, rfl⟩ : ∃ e, d = e + 1 := ⟨d - 1, by omega⟩
 have lx := La.length hx
 have ly := La.length hy
 cases τ with
 | i k => simp only [La] at hx hy; subst hx; subst hy; simp [Od, Ty.isAgg, Iv, run_equalIn_int w d t k k _ _ (Tok.i h)]
 | b => simp only [La] at hx hy; subst hx; subst hy; simp [Od, Ty.isAgg, Iv, run_equalIn_bool' w d t _ _ (Tok.b h)]
 | o => simp [Ty.cmp] at hf
 | mp _ _ => simp [Ty.cmp] at hf
 | s =>
  simp only [La] at hx hy; subst hx; subst hy
  have e1 : (ByteArray.mk (qr x)).toList = x := ByteArray.toList_mk x
  have e2 : (ByteArray.mk (qr y)).toList = y := ByteArray.toList_mk y
  simp [Od, Ty.isAgg, Iv, run_equalIn_string w d t _ _ (Tok.s h), e1, e2]
 | sl e => simp [Ty.cmp] at hf
 | u =>
  obtain ⟨fs, hfs, hfo⟩ := Tok.struct rfl h
  have hfs0 : fs.toList = [] := by
   cases hq : fs.toList with
   | nil => rfl
   | cons a r => rw [hq] at hfo; simp [Vf] at hfo
  have : fs = #[] := by apply Array.ext'; simpa using hfs0
  subst this
  have hst : P.stoodInHeld t = false := by
   have h' := h
   simp only [Nd, jd, yj] at h'
   exact h'.1.2
  simp [Od, Ty.isAgg, Iv, Op.equalIn, run_underlying hfs, qo, hst]
 | p a b' =>
  have ha : (Ty.p a b').isAgg = true := rfl
  obtain ⟨fs, hfs, hfo⟩ := Tok.struct ha h
  have hst : P.stoodInHeld t = false := by
   have h' := h
   simp only [Nd, jd, yj] at h'
   exact h'.1.2.1
  have hfo' : P.fieldsOf t = fs := by simp [Program.fieldsOf, hfs]
  have hvx : Od (Ty.p a b') cs = .agg cs.toArray := by simp [Od, ha]
  have hvy : Od (Ty.p a b') ds = .agg ds.toArray := by simp [Od, ha]
  rw [hvx, hvy, run_equalIn_agg w d t _ _ (by rw [hfo']; exact hfs) hst, hfo']
  refine hF x y fs.toList 0 d _ _ O hf ha hfo hd ?_ ?_ (by simpa using Nat.le_of_eq lx.symm) (by simpa using Nat.le_of_eq ly.symm)
  ·simpa [Fd, ← lx] using hx
  ·simpa [Fd, ← ly] using hy
theorem Xac (d : Nat) {t : TypeId} {xs ys : Array Value} (hfs : P.underlying t = some (.struct #[])) : (Op.eqGuardIn (d + 1) t (.agg xs) (.agg ys)).run P w = .ok false w := by
 simp [Op.eqGuardIn, run_underlying hfs]
theorem eqF : ∀ {τ : Ty} (x y : T τ) (fs : List Field) (o d : Nat) (xs ys : Array Value) (O : Nat → Prop), τ.cmp = true → τ.isAgg = true → Vf P τ fs o = true → τ.cnt ≤ d + 1 →
 La w O τ x (Fd xs o τ.size) → La w O τ y (Fd ys o τ.size) → o + τ.size ≤ xs.size → o + τ.size ≤ ys.size → (Op.eqFields d xs ys fs).run P w = .ok (Iv τ x y) w
 | .u, x, y, fs, o, d, xs, ys, O, _, _, hfo, _, _, _, _, _ => by
  cases fs with
  | nil => simp [Op.eqFields, Iv]
  | cons a r => simp [Vf] at hfo
 | .p a c2, x, y, fs, o, d, xs, ys, O, hf, _, hfo, hd, hx, hy, hxs, hys => by
  cases fs with
  | nil => simp [Vf] at hfo
  | cons f r =>
   simp only [Vf, jd, bne_iff_ne, ne_eq] at hfo
   obtain ⟨⟨⟨hfo0, hname⟩, hta⟩, hfr⟩ := hfo
   have hoff := ju hfo0
   simp only [Ty.cmp, jd] at hf
   simp only [Ty.size] at hx hy hxs hys
   simp only [Ty.cnt] at hd
   obtain ⟨c1, c2, hc, hc1, hc2⟩ := hx
   obtain ⟨e1, e2, hec, he1, he2⟩ := hy
   rw [Fae _ _ _ _ (by omega)] at hc hec
   have hc' := List.append_inj hc (by rw [Id (by omega), La.length hc1])
   have he' := List.append_inj hec (by rw [Id (by omega), La.length he1])
   obtain ⟨q1, q2⟩ := hc'
   obtain ⟨q3, q4⟩ := he'
   subst q1; subst q2; subst q3; subst q4
   have p1 := PZ (w := w) hta (xs := xs) (o := o) (by omega)
   have p2 := PZ (w := w) hta (xs := ys) (o := o) (by omega)
   have hI := K7 (P := P) (w := w) (τ := a) (fun x y => eqF x y) hta hf.1 (d := d) (by omega) hc1 he1
   simp only [Op.eqFields, hname, not_false_eq_true, if_true, ne_eq, qo, hoff, p1, p2, hI, qn, Iv]
   cases hq : Iv a x.1 y.1 with
   | false => simp
   | true =>
    simp only [jg, jq, if_false, jk]
    have hb : c2.isAgg = true := by
     cases c2 with
     | p _ _ => rfl
     | u => rfl
     | _ => simp [Vf] at hfr
    exact eqF x.2 y.2 r (o + a.size) d xs ys O hf.2 hb hfr (by omega) hc2 he2 (by omega) (by omega)
 | .i _, _, _, _, _, _, _, _, _, _, ha, _, _, _, _, _, _ => by simp [Ty.isAgg] at ha
 | .b, _, _, _, _, _, _, _, _, _, ha, _, _, _, _, _, _ => by simp [Ty.isAgg] at ha
 | .o, _, _, _, _, _, _, _, _, _, ha, _, _, _, _, _, _ => by simp [Ty.isAgg] at ha
 | .mp _ _, _, _, _, _, _, _, _, _, _, ha, _, _, _, _, _, _ => by simp [Ty.isAgg] at ha
 | .s, _, _, _, _, _, _, _, _, _, ha, _, _, _, _, _, _ => by simp [Ty.isAgg] at ha
 | .sl _, _, _, _, _, _, _, _, _, _, ha, _, _, _, _, _, _ => by simp [Ty.isAgg] at ha
theorem Dae {τ : Ty} {t : TypeId} (h : Nd P τ t = true) (hf : τ.cmp = true) (hc : τ.cnt ≤ 9000) {x y : T τ} {cs ds : List Value} {O : Nat → Prop} (hx : La w O τ x cs) (hy : La w O τ y ds) :
 (Op.equalIn 10000 t (Od τ cs) (Od τ ds)).run P w = .ok (Iv τ x y) w :=
 K7 (fun x y => eqF x y) h hf (by omega) hx hy
theorem Cai {τ : Ty} {t : TypeId} (h : Nd P τ t = true) (ha : τ.isAgg = true) (hf : τ.cmp = true) (op : BinOp) (X Y : Operand) (xs ys : Array Value) :
 (eqGuard op t X Y (.agg xs) (.agg ys)).run P w = .ok () w := by
 cases τ with
 | p a c2 =>
  refine run_eqGuard_agg w op t X Y xs ys ?_
  simp only [Nd, jd, qx, yj] at h
  have := h.1.2.2
  simp only [Ty.cmp, jd] at hf
  simpa [hf] using this
 | u =>
  obtain ⟨fs, hfs, hfo⟩ := Tok.struct ha h
  have hfs0 : fs.toList = [] := by
   cases hq : fs.toList with
   | nil => rfl
   | cons a r => rw [hq] at hfo; simp [Vf] at hfo
  have : fs = #[] := by apply Array.ext'; simpa using hfs0
  subst this
  by_cases hg : P.eqGuardType P.depth t = false
  ·exact run_eqGuard_agg w op t X Y xs ys hg
  ·simp only [Bool.not_eq_false] at hg
   have hgn := Xac (P := P) (w := w) 9999 (xs := xs) (ys := ys) hfs
   have : Op.maxDepth = 9999 + 1 := rfl
   cases op <;> simp [eqGuard, run_program, hg, this, hgn]
 | _ => simp [Ty.isAgg] at ha
end
section
variable {P : Program} {Out : Type} {n0 : Nat} {A : Fx} {O0 : Nat → Prop} {w0 w w' : World} {s : AS} {σ σ' : Nat → Value} {φ φ' : Nat → List Nat} {a : Act}
variable {o : Oper} {Q : Exit → Act → World → Prop} {k : AS → Option Out} {out : Out} {d : D} {v : Value} {upd : List (Nat × Option Ia)} {dst : Option Tmp} {G : Ue}
theorem Hah (hG : EnvTy P G) (h : Qa n0 A O0 w0 s σ φ a w) {op : BinOp} {t t' : TypeId} {x y : Operand} (ho : o.op = .binOp op t x y t')
 (he : Hf G s o k = some out) : o.wp P a w (Ve n0 A O0 w0 k out) Q := by
 by_cases hagg : ∀ u, s.ev x = some u → u.isAgg = false
 ·exact Nak hG h ho hagg he
 ·simp only [Hf, Sb, ho] at he
  split at he
  ·rename_i u v hu hv
   have hua : u.isAgg = true := by
    cases hq : u.isAgg with
    | true => rfl
    | false => exact absurd (fun u' hu' => by rw [hu] at hu'; simp at hu'; subst hu'; exact hq) hagg
   rw [hua] at he
   simp only [ze] at he
   split at he
   ·rename_i τ hty
    split at he
    ·rename_i p q hp hq
     cases hc : (τ.cmp && τ.isAgg && jx τ.cnt 9000) with
     | false => rw [hc] at he; simp at he
     | true =>
      rw [hc] at he
      simp only [ze] at he
      simp only [jd] at hc
      have hcnt := q6 hc.2
      obtain ⟨s1, v1⟩ := Wg (w := w) (O := OO O0 s φ) (hp := s.heap) (σ := σ) hp
      obtain ⟨s2, v2⟩ := Wg (w := w) (O := OO O0 s φ) (hp := s.heap) (σ := σ) hq
      obtain ⟨r1, e1⟩ := Ye s1 (h.ev hu)
      obtain ⟨r2, e2⟩ := Ye s2 (h.ev hv)
      have hrun := Dae (P := P) (hG.ty _ _ hty) hc.1.1 hcnt (v1 _ r1) (v2 _ r2)
      have g1 : Od τ (a.eval x).cells.toList = .agg (a.eval x).cells.toList.toArray := by simp [Od, hc.1.2]
      have g2 : Od τ (a.eval y).cells.toList = .agg (a.eval y).cells.toList.toArray := by simp [Od, hc.1.2]
      have hgd := fun op => Cai (P := P) (w := w) (hG.ty _ _ hty) hc.1.2 hc.1.1 op x y (a.eval x).cells.toList.toArray (a.eval y).cells.toList.toArray
      rw [g1, g2] at hrun
      rw [g1] at e1
      rw [g2] at e2
      split at he
      ·refine Rb (w' := w) (v := .bool (Iv τ p q)) ?_ (Cc h (Ui.2 rfl) he)
       simp only [execOp, ho]
       rw [e1, e2]
       simp only [qo, hgd, qn, run_eql_struct, hrun, Sem.run_pure]
      ·refine Rb (w' := w) (v := .bool (!Iv τ p q)) ?_ (Cc h (Ui.2 rfl) he)
       simp only [execOp, ho]
       rw [e1, e2]
       simp only [qo, hgd, qn, run_neq_struct, hrun, Sem.run_pure]
      ·simp at he
    ·simp at he
   ·simp at he
  ·simp at he
end
theorem La.one {w : World} {O : Nat → Prop} : ∀ {τ : Ty} {x : T τ} {cs : List Value}, La w O τ x cs → ∀ v ∈ cs, v.oneCell' = true
 | .i _, _, _, h, v, hv => by simp only [La] at h; subst h; simp at hv; subst hv; rfl
 | .b, _, _, h, v, hv => by simp only [La] at h; subst h; simp at hv; subst hv; rfl
 | .o, _, _, h, v, hv => by simp only [La] at h; subst h; simp at hv; subst hv; rfl
 | .mp _ _, _, _, h, v, hv => by obtain ⟨h, _⟩ | ⟨r, es, clk, h, _⟩ := h <;> (subst h; simp at hv; subst hv; rfl)
 | .s, _, _, h, v, hv => by simp only [La] at h; subst h; simp at hv; subst hv; rfl
 | .sl _, _, _, h, v, hv => by obtain ⟨a, cap, h, _⟩ := h; subst h; simp at hv; subst hv; rfl
 | .u, _, _, h, v, hv => by simp only [La] at h; subst h; simp at hv
 | .p x y, _, _, h, v, hv => by
  obtain ⟨c1, c2, h, h1, h2⟩ := h
  subst h
  rcases jl.1 hv with hv | hv
  ·exact La.one h1 v hv
  ·exact La.one h2 v hv
theorem Tb.one {w : World} : ∀ {τ : Ty} {x : T τ} {cs : List Value} {F : List Nat}, Tb w τ x cs F → ∀ v ∈ cs, v.oneCell' = true
 | .i _, _, _, _, h, v, hv => by simp only [Tb] at h; rw [h.1] at hv; simp at hv; subst hv; rfl
 | .b, _, _, _, h, v, hv => by simp only [Tb] at h; rw [h.1] at hv; simp at hv; subst hv; rfl
 | .o, _, _, _, h, v, hv => by simp only [Tb] at h; rw [h.1] at hv; simp at hv; subst hv; rfl
 | .mp _ _, _, _, _, h, v, hv => by obtain ⟨h, _⟩ | ⟨r, es, clk, Fs, h, _⟩ := h <;> (subst h; simp at hv; subst hv; rfl)
 | .s, _, _, _, h, v, hv => by simp only [Tb] at h; rw [h.1] at hv; simp at hv; subst hv; rfl
 | .sl _, _, _, _, h, v, hv => by
  obtain ⟨_, ⟨h, _⟩ | ⟨_, _, _, _, _, _, h, _⟩⟩ := h <;> (subst h; simp at hv; subst hv; rfl)
 | .u, _, _, _, h, v, hv => by simp only [Tb] at h; rw [h.1] at hv; simp at hv
 | .p x y, _, _, _, h, v, hv => by
  obtain ⟨c1, c2, F1, F2, h, _, h1, h2⟩ := h
  subst h
  rcases jl.1 hv with hv | hv
  ·exact Tb.one h1 v hv
  ·exact Tb.one h2 v hv
theorem Ab.one {w : World} {O : Nat → Prop} {hp : Nat → Option Ia} {σ : Nat → Value} : ∀ {d : D} {cs : List Value}, Ab w O hp σ d cs → ∀ v ∈ cs, v.oneCell' = true
 | .und, _, h, _, _ => by simp [Ab] at h
 | .anyv, _, h, _, _ => by simp [Ab] at h
 | .t τ x, _, h, v, hv => La.one h v hv
 | .nil, _, h, v, hv => by simp only [Ab] at h; subst h; simp at hv; subst hv; rfl
 | .own _, _, h, v, hv => by obtain ⟨u, h, h1, _⟩ := h; subst h; simp at hv; subst hv; exact h1
 | .mpo _, _, h, v, hv => by obtain ⟨u, h, h1, _⟩ := h; subst h; simp at hv; subst hv; exact h1
 | .cut _ _ _, _, h, v, hv => by obtain ⟨u, h, h1, _⟩ := h; subst h; simp at hv; subst hv; exact h1
 | .ptr _ _, _, h, v, hv => by obtain ⟨u, h, h1, _⟩ := h; subst h; simp at hv; subst hv; exact h1
 | .eptr _ _ _, _, h, v, hv => by obtain ⟨u, h, h1, _⟩ := h; subst h; simp at hv; subst hv; exact h1
 | .rp _ _, _, h, v, hv => by obtain ⟨b, off, cur, et, fr, h, _⟩ := h; subst h; simp at hv; subst hv; rfl
 | .pr a b, _, h, v, hv => by
  obtain ⟨c1, c2, h, h1, h2⟩ := h
  subst h
  rcases jl.1 hv with hv | hv
  ·exact Ab.one h1 v hv
  ·exact Ab.one h2 v hv
 | .un, _, h, v, hv => by simp only [Ab] at h; subst h; simp at hv
 | .tup _, _, h, _, _ => by simp [Ab] at h
theorem EK {c1 c2 ce : List Value} {o : Nat} (h : o + ce.length ≤ c1.length) : Ub (c1 ++ c2) o ce = Ub c1 o ce ++ c2 := by
 unfold Ub
 rw [List.take_append_of_le_length (by omega), List.drop_append_of_le_length h]
 simp [q0]
theorem ZM {cs ce : List Value} (h : ce.length = cs.length) : Ub cs 0 ce = ce := by
 unfold Ub
 rw [List.drop_eq_nil_of_le (by omega)]
 simp
theorem Aw {cur : Array Value} {o n o' : Nat} {ce : List Value} (h1 : o + n ≤ cur.size) (h2 : o' + ce.length ≤ n) :
 Fd (Ub cur.toList (o + o') ce).toArray o n = Ub (Fd cur o n) o' ce := by
 have hl : (Fd cur o n).length = n := Id h1
 have hs : (Ub cur.toList (o + o') ce).length = cur.size := by rw [Qg (by simp; omega)]; simp
 apply qp
 intro j
 rw [Ji (by omega)]
 by_cases hj : j < n
 ·rw [Cf _ _ _ _ hj, List.getElem?_toArray, Ji (by simp; omega), Cf _ _ _ _ hj]
  by_cases c1 : j < o'
  ·rw [if_pos (by omega), if_pos c1]; simp
  ·rw [if_neg (by omega), if_neg c1]
   by_cases c2 : j < o' + ce.length
   ·rw [if_pos (by omega), if_pos c2]; congr 1; omega
   ·rw [if_neg (by omega), if_neg c2]; simp
 ·rw [qt (by rw [Id (by simpa [hs] using h1)]; omega), if_neg (by omega), if_neg (by omega), qt (by omega)]
theorem KA {cur : Array Value} {o p m : Nat} {ce : List Value} (h : o + ce.length ≤ cur.size) (hm : p + m ≤ cur.size) (hd : p + m ≤ o ∨ o + ce.length ≤ p) :
 Fd (Ub cur.toList o ce).toArray p m = Fd cur p m := by
 have hs : (Ub cur.toList o ce).length = cur.size := by rw [Qg (by simpa using h)]; simp
 apply qp
 intro j
 by_cases hj : j < m
 ·rw [Cf _ _ _ _ hj, List.getElem?_toArray, Ji (by simpa using h), Cf _ _ _ _ hj]
  by_cases c1 : p + j < o
  ·rw [if_pos c1]; simp
  ·rw [if_neg c1, if_neg (by omega)]; simp
 ·rw [qt (by rw [Id (by simpa [hs] using hm)]; omega), qt (by rw [Id hm]; omega)]
theorem EP {w : World} {O : Nat → Prop} : ∀ {e : Ty} {x x' : T e} {p : List Nat} {τ : Ty} {y : T τ} {cs ce : List Value}, Hh e x p τ y = some x' → Ze e p = some τ →
 La w O e x cs → La w O τ y ce → La w O e x' (Ub cs (Hb e p) ce)
 | e, x, x', [], τ, y, cs, ce, hs, ht, hx, hy => by
  unfold Hh at hs
  split at hs
  ·rename_i q hq
   subst q
   simp only [jc] at hs
   subst hs
   have l1 := La.length hx
   have l2 := La.length hy
   simp only [Hb]
   rw [ZM (by omega)]
   exact hy
  ·simp at hs
 | .p a b', x, x', 0 :: p, τ, y, cs, ce, hs, ht, hx, hy => by
  simp only [Hh] at hs
  split at hs
  ·rename_i u hu
   simp only [jc] at hs
   subst hs
   obtain ⟨c1, c2, hc, h1, h2⟩ := hx
   subst hc
   have ht' : Ze a p = some τ := by simpa [Ze, Na] using ht
   have hle := Ai ht'
   have ih := EP hu ht' h1 hy
   have l1 := La.length h1
   have l2 := La.length hy
   have ho : Hb (.p a b') (0 :: p) = Hb a p := by simp [Hb, Wc, Na]
   rw [ho, EK (by omega)]
   exact ⟨_, _, rfl, ih, h2⟩
  ·simp at hs
 | .p a b', x, x', (n + 1) :: p, τ, y, cs, ce, hs, ht, hx, hy => by
  simp only [Hh] at hs
  split at hs
  ·rename_i u hu
   simp only [jc] at hs
   subst hs
   obtain ⟨c1, c2, hc, h1, h2⟩ := hx
   subst hc
   have ht' : Ze b' (n :: p) = some τ := by simpa [Ze, Na] using ht
   have ih := EP hu ht' h2 hy
   have l1 := La.length h1
   have ho : Hb (.p a b') ((n + 1) :: p) = c1.length + Hb b' (n :: p) := by simp [Hb, Wc, Na, l1, jt]
   rw [ho, Uz]
   exact ⟨_, _, rfl, h1, ih⟩
  ·simp at hs
 | .i _, _, _, _ :: _, _, _, _, _, hs, _, _, _ => by simp [Hh] at hs
 | .b, _, _, _ :: _, _, _, _, _, hs, _, _, _ => by simp [Hh] at hs
 | .o, _, _, _ :: _, _, _, _, _, hs, _, _, _ => by simp [Hh] at hs
 | .mp _ _, _, _, _ :: _, _, _, _, _, hs, _, _, _ => by simp [Hh] at hs
 | .s, _, _, _ :: _, _, _, _, _, hs, _, _, _ => by simp [Hh] at hs
 | .sl _, _, _, _ :: _, _, _, _, _, hs, _, _, _ => by simp [Hh] at hs
 | .u, _, _, _ :: _, _, _, _, _, hs, _, _, _ => by simp [Hh] at hs
theorem MT {w : World} : ∀ {e : Ty} {x x' : T e} {p : List Nat} {τ : Ty} {y : T τ} {cs ce : List Value} {F Fy : List Nat}, Hh e x p τ y = some x' → Ze e p = some τ →
 Tb w e x cs F → Tb w τ y ce Fy → ∃ F1 F2 F3, F = F1 ++ F2 ++ F3 ∧ Tb w e x' (Ub cs (Hb e p) ce) (F1 ++ Fy ++ F3)
 | e, x, x', [], τ, y, cs, ce, F, Fy, hs, ht, hx, hy => by
  unfold Hh at hs
  split at hs
  ·rename_i q hq
   subst q
   simp only [jc] at hs
   subst hs
   have l1 := Tb.length hx
   have l2 := Tb.length hy
   simp only [Hb]
   rw [ZM (by omega)]
   exact ⟨[], F, [], by simp, by simpa using hy⟩
  ·simp at hs
 | .p a b', x, x', 0 :: p, τ, y, cs, ce, F, Fy, hs, ht, hx, hy => by
  simp only [Hh] at hs
  split at hs
  ·rename_i u hu
   simp only [jc] at hs
   subst hs
   obtain ⟨c1, c2, Fa, Fb, hc, hF, h1, h2⟩ := hx
   subst hc
   subst hF
   have ht' : Ze a p = some τ := by simpa [Ze, Na] using ht
   have hle := Ai ht'
   obtain ⟨F1, F2, F3, e1, ih⟩ := MT hu ht' h1 hy
   have l1 := Tb.length h1
   have l2 := Tb.length hy
   have ho : Hb (.p a b') (0 :: p) = Hb a p := by simp [Hb, Wc, Na]
   rw [ho, EK (by omega)]
   exact ⟨F1, F2, F3 ++ Fb, by simp [e1], _, _, F1 ++ Fy ++ F3, Fb, rfl, by simp, ih, h2⟩
  ·simp at hs
 | .p a b', x, x', (n + 1) :: p, τ, y, cs, ce, F, Fy, hs, ht, hx, hy => by
  simp only [Hh] at hs
  split at hs
  ·rename_i u hu
   simp only [jc] at hs
   subst hs
   obtain ⟨c1, c2, Fa, Fb, hc, hF, h1, h2⟩ := hx
   subst hc
   subst hF
   have ht' : Ze b' (n :: p) = some τ := by simpa [Ze, Na] using ht
   obtain ⟨F1, F2, F3, e1, ih⟩ := MT hu ht' h2 hy
   have l1 := Tb.length h1
   have ho : Hb (.p a b') ((n + 1) :: p) = c1.length + Hb b' (n :: p) := by simp [Hb, Wc, Na, l1, jt]
   rw [ho, Uz]
   exact ⟨Fa ++ F1, F2, F3, by simp [e1], _, _, Fa, F1 ++ Fy ++ F3, rfl, by simp, h1, ih⟩
  ·simp at hs
 | .i _, _, _, _ :: _, _, _, _, _, _, _, hs, _, _, _ => by simp [Hh] at hs
 | .b, _, _, _ :: _, _, _, _, _, _, _, hs, _, _, _ => by simp [Hh] at hs
 | .o, _, _, _ :: _, _, _, _, _, _, _, hs, _, _, _ => by simp [Hh] at hs
 | .mp _ _, _, _, _ :: _, _, _, _, _, _, _, hs, _, _, _ => by simp [Hh] at hs
 | .s, _, _, _ :: _, _, _, _, _, _, _, hs, _, _, _ => by simp [Hh] at hs
 | .sl _, _, _, _ :: _, _, _, _, _, _, _, hs, _, _, _ => by simp [Hh] at hs
 | .u, _, _, _ :: _, _, _, _, _, _, _, hs, _, _, _ => by simp [Hh] at hs
section
variable {P : Program} {Out : Type} {n0 : Nat} {A : Fx} {O0 : Nat → Prop} {w0 w w' : World} {s : AS} {σ σ' : Nat → Value} {φ φ' : Nat → List Nat} {a : Act}
variable {o : Oper} {Q : Exit → Act → World → Prop} {k : AS → Option Out} {out : Out} {d : D} {v : Value} {upd : List (Nat × Option Ia)} {dst : Option Tmp} {G : Ue}
theorem Qa.turn (h : Qa n0 A O0 w0 s σ φ a w) {id : Nat} {blk0 Da : Ia} (hid : s.heap id = some blk0) (hlike : blk0.like Da) (l : List Nat)
 (hlive : ∀ j, j ∈ l → ∃ b, s.heap j = some b) (_hl : id ∉ l) (F : List Nat)
 (hs : w.heap.size ≤ w'.heap.size) (hb : ∀ b, b < w.heap.size → b ∉ φ id → (∀ j, j ∈ l → b ∉ φ j) → w'.heap[b]? = w.heap[b]?)
 (hos : w'.os = w.os) (htape : w'.tape = w.tape) (hout : w'.output = w.output) (hF : F.Nodup) (hFn : ∀ b, b ∈ F → w.heap.size ≤ b ∨ b ∈ φ id ∨ ∃ j, j ∈ l ∧ b ∈ φ j)
 (hrep : ∀ (hp' : Nat → Option Ia) (O' : Nat → Prop), (∀ b, b < w.heap.size → ¬ OO O0 s φ b → ¬ O' b) → (∀ j, Cp s.heap hp' σ σ j) →
  Nc w' O' hp' σ id Da F)
 (hq : ∀ kk e xs, Da = .mq kk e xs → N2 w' n0 (OO O0 ⟨s.n, s.tm, (id, some Da) :: (Kc l ++ s.hp)⟩ (Xg φ id F)) (σ id) kk e xs := by intro _ _ _ h; cases h) :
 Qa n0 A O0 w0 ⟨s.n, s.tm, (id, some Da) :: (Kc l ++ s.hp)⟩ σ (Xg φ id F) a w' := by
 have hOO : ∀ b, b < w.heap.size → ¬ OO O0 s φ b → ¬ OO O0 ⟨s.n, s.tm, (id, some Da) :: (Kc l ++ s.hp)⟩ (Xg φ id F) b := by
  rintro b hlt hno (ho | ⟨j, blk', hl, hm⟩)
  ·exact hno (.inl ho)
  ·rw [Ld] at hl
   by_cases hj : j = id
   ·subst hj
    rw [Wd] at hm
    rcases hFn b hm with hge | hm' | ⟨j', hj', hm'⟩
    ·omega
    ·exact hno (.inr ⟨j, blk0, hid, hm'⟩)
    ·obtain ⟨b', hb'⟩ := hlive j' hj'
     exact hno (.inr ⟨j', b', hb', hm'⟩)
   ·rw [if_neg hj] at hl
    split at hl
    ·simp at hl
    ·rw [Qj _ _ hj] at hm
     exact hno (.inr ⟨j, blk', hl, hm⟩)
 have hcp : ∀ j, Cp s.heap (AS.heap ⟨s.n, s.tm, (id, some Da) :: (Kc l ++ s.hp)⟩) σ σ j := by
  intro j blk' hj
  rw [Ld] at hj
  by_cases hji : j = id
  ·subst hji
   rw [if_pos rfl] at hj
   simp only [jc] at hj
   subst hj
   exact ⟨blk0, hid, hlike, rfl⟩
  ·rw [if_neg hji] at hj
   split at hj
   ·simp at hj
   ·exact ⟨blk', hj, Ia.like_refl _, rfl⟩
 refine h.trans (fun j => j = id ∨ j ∈ l) rfl rfl ?_ ?_ hs ?_ ?_ ?_ ?_ hos htape hout (fun _ _ => .inl rfl) ?_
 ·intro j hj
  simp only [not_or] at hj
  exact ⟨by rw [Ld, if_neg hj.1, if_neg hj.2], rfl, Qj _ _ hj.1⟩
 ·intro b hlt hno
  refine hb b hlt (fun hm => hno id blk0 (.inl rfl) hid hm) fun j hj hm => ?_
  obtain ⟨b', hb'⟩ := hlive j hj
  exact hno j b' (.inr hj) hb' hm
 ·intro j blk' ht hl b hbm
  rw [Ld] at hl
  by_cases hj : j = id
  ·subst hj
   rw [Wd] at hbm
   rcases hFn b hbm with hge | hm' | ⟨j', hj', hm'⟩
   ·exact .inl hge
   ·exact .inr ⟨j, blk0, .inl rfl, hid, hm'⟩
   ·obtain ⟨b', hb'⟩ := hlive j' hj'
    exact .inr ⟨j', b', .inr hj', hb', hm'⟩
  ·rw [if_neg hj, if_pos (ht.resolve_left hj)] at hl
   simp at hl
 ·intro j blk' ht hl _
  exact hcp j blk' hl
 ·intro j blk' ht hl
  rw [Ld] at hl
  by_cases hj : j = id
  ·subst hj
   rw [if_pos rfl] at hl
   simp only [jc] at hl
   subst hl
   rw [Wd]
   exact ⟨hrep _ _ hOO hcp, hF⟩
  ·rw [if_neg hj, if_pos (ht.resolve_left hj)] at hl
   simp at hl
 ·intro j j' b1 b2 ht ht' hne hl hl'
  rw [Ld] at hl hl'
  have e1 : j = id := by
   by_cases hj : j = id
   ·exact hj
   ·rw [if_neg hj, if_pos (ht.resolve_left hj)] at hl; simp at hl
  have e2 : j' = id := by
   by_cases hj : j' = id
   ·exact hj
   ·rw [if_neg hj, if_pos (ht'.resolve_left hj)] at hl'; simp at hl'
  exact absurd (e1.trans e2.symm) hne
 ·intro j kk e xs ht hl
  rw [Ld] at hl
  by_cases hj : j = id
  ·rw [if_pos hj] at hl
   simp only [jc] at hl
   rw [hj]
   exact hq kk e xs hl
  ·rw [if_neg hj, if_pos (ht.resolve_left hj)] at hl
   simp at hl
theorem UX {id : Nat} {e : Ty} {xs : List (T e)} {O : Nat → Prop} {hp : Nat → Option Ia} {F : List Nat} (h : Tb w (.sl e) xs [σ id] F) (hf : e.flat = true) :
 Nc w O hp σ id (.row e false xs) F := by
 obtain ⟨hm, ⟨h1, h2, h3⟩ | ⟨bl, off, cap, cur, et, Fs, h1, hh, h2, h3, h4, hF, hl, hv⟩⟩ := h
 ·simp only [yh, and_true] at h1
  exact ⟨hm, .inl ⟨h1, h2, h3⟩⟩
 ·simp only [yh, and_true] at h1
  have hnil : ∀ i, i < Fs.length → Fs.getD i [] = [] := fun i hi => Cu hf (hv i (by omega))
  have hfl : Fs.flatten = [] := by
   rw [List.flatten_eq_nil_iff]
   intro l hl'
   obtain ⟨i, hi, rfl⟩ := List.mem_iff_getElem.1 hl'
   have := hnil i hi
   simpa [qs, hi] using this
  refine ⟨hm, .inr ⟨bl, off, cap, cur, et, h1, hh, h2, h3, h4, by rw [hF, hfl], fun i hi => ?_⟩⟩
  have := hv i hi
  rw [hnil i (by omega)] at this
  exact this.view (by simp)
theorem QD {Fs : List (List Nat)} {i : Nat} (hi : i < Fs.length) (X : List Nat) :
 Fs.flatten = (Fs.take i).flatten ++ Fs.getD i [] ++ (Fs.drop (i + 1)).flatten ∧ (Fs.set i X).flatten = (Fs.take i).flatten ++ X ++ (Fs.drop (i + 1)).flatten := by
 have h1 : Fs = Fs.take i ++ Fs.getD i [] :: Fs.drop (i + 1) := by
  have : Fs.getD i [] = Fs[i] := by simp [qs, hi]
  rw [this, List.getElem_cons_drop hi, List.take_append_drop]
 have h2 : Fs.set i X = Fs.take i ++ X :: Fs.drop (i + 1) := by rw [List.set_eq_take_append_cons_drop]; simp [hi]
 constructor
 ·conv => lhs; rw [h1]
  simp
 ·rw [h2]; simp
theorem Yah {e τ : Ty} {xs : List (T e)} {b off cap : Nat} {F Fy : List Nat} {i : Nat} {x x' : T e} {y : T τ} {p : List Nat} {ce : List Value} {cur : Array Value} {et : TypeId}
 (hx : Tb w (.sl e) xs [.slice (some ⟨b, off, none⟩) (ja xs) cap] F) (hn : (F ++ Fy).Nodup) (hi : xs[i]? = some x) (hs : Hh e x p τ y = some x') (ht : Ze e p = some τ)
 (hy : Tb w τ y ce Fy) (hcur : w.heap[b]? = some (.cells cur et (0, 0))) :
 ∃ F', Tb (w.setRow b (Ub cur.toList (off + i * e.size + Hb e p) ce).toArray) (.sl e) (j6 xs i x') [.slice (some ⟨b, off, none⟩) (ja xs) cap] F' ∧ F'.Nodup ∧
  (∀ c, c ∈ F' → c ∈ F ∨ c ∈ Fy) := by
 obtain ⟨hm, ⟨h1, _⟩ | ⟨bl, off', cap', cur', et', Fs, h1, hh, h2, h3, h4, hF, hl, hv⟩⟩ := hx
 ·simp at h1
 ·simp at h1
  obtain ⟨⟨rfl, rfl⟩, rfl⟩ := h1
  rw [hcur] at hh
  simp only [jc, Obj.cells.injEq] at hh
  obtain ⟨rfl, rfl, _⟩ := hh
  have hil : i < ja xs := (q8.1 hi).1
  have hxe : List.get xs ⟨i, hil⟩ = x := by simpa [je hil] using hi
  have hle := Ai ht
  have hyl := Tb.length hy
  have hcap := jm e.size h2
  have hlt : (i + 1) * e.size ≤ ja xs * e.size := jm _ hil
  rw [yf, Nat.one_mul] at hlt
  have hoi := hv i hil
  rw [hxe] at hoi
  have hbF : b ∉ Fs.flatten ∧ b ∉ Fy := by
   rw [hF] at hn
   simp only [yg, yk, jl, not_or] at hn
   exact hn.1
  have hst : ∀ c, c ≠ b → (w.setRow b (Ub cur.toList (off + i * e.size + Hb e p) ce).toArray).heap[c]? = w.heap[c]? := fun c hc => setRow_other w b c _ hc
  have hoi' := hoi.stable (w' := w.setRow b (Ub cur.toList (off + i * e.size + Hb e p) ce).toArray) fun c hc => hst c fun e => hbF.1 (e ▸ Bf hc)
  have hy' := hy.stable (w' := w.setRow b (Ub cur.toList (off + i * e.size + Hb e p) ce).toArray) fun c hc => hst c fun e => hbF.2 (e ▸ hc)
  obtain ⟨F1, F2, F3, hFi, hown⟩ := MT hs ht hoi' hy'
  have hiF : i < Fs.length := by omega
  obtain ⟨g1, g2⟩ := QD hiF (F1 ++ Fy ++ F3)
  refine ⟨b :: (Fs.set i (F1 ++ Fy ++ F3)).flatten, ⟨by simpa using hm, .inr ⟨b, off, cap, _, et, _, by simp, setRow_heap w b cur _ et (0, 0) hcur, by simpa using h2, h3, ?_, rfl, by simpa using hl, ?_⟩⟩, ?_, ?_⟩
  ·rw [ym, Qg (by simp; omega)]
   simpa using h4
  ·intro j hj
   have hjl : j < ja xs := by simpa using hj
   by_cases hji : j = i
   ·subst hji
    have e1 : List.get (j6 xs j x') ⟨j, hj⟩ = x' := by simp
    have e2 : (Fs.set j (F1 ++ Fy ++ F3)).getD j [] = F1 ++ Fy ++ F3 := by simp [qs, hiF]
    rw [e1, e2, Aw (by omega) (by omega)]
    exact hown
   ·have e1 : List.get (j6 xs i x') ⟨j, hj⟩ = List.get xs ⟨j, hjl⟩ := by simp [Ne.symm hji]
    have e2 : (Fs.set i (F1 ++ Fy ++ F3)).getD j [] = Fs.getD j [] := by simp [qs, Ne.symm hji]
    have hjle : (j + 1) * e.size ≤ ja xs * e.size := jm _ hjl
    rw [yf, Nat.one_mul] at hjle
    rw [e1, e2, KA (by omega) (by omega) ?_]
    ·exact (hv j hjl).stable fun c hc => hst c fun e => hbF.1 (e ▸ Bf hc)
    ·rcases Nat.lt_or_gt_of_ne hji with hlt' | hlt'
     ·left
      have := jm e.size hlt'
      rw [yo] at this
      omega
     ·right
      have := jm e.size hlt'
      rw [yo] at this
      omega
  ·rw [g2]
   rw [hF, g1, hFi] at hn
   refine (List.Perm.nodup_iff (l₁ := b :: ((Fs.take i).flatten ++ (F1 ++ Fy ++ F3) ++ (Fs.drop (i + 1)).flatten)) (l₂ := (b :: ((Fs.take i).flatten ++ (F1 ++ F3) ++ (Fs.drop (i + 1)).flatten)) ++ Fy) ?_).2 (List.Sublist.nodup ?_ hn)
   ·rw [List.perm_iff_count]
    intro c
    simp only [List.count_append, List.count_cons]
    omega
   ·refine List.Sublist.append (List.Sublist.cons_cons _ (List.Sublist.append (List.Sublist.append (List.Sublist.refl _) ?_) (List.Sublist.refl _))) (List.Sublist.refl _)
    exact List.Sublist.append (List.sublist_append_left _ _) (List.Sublist.refl _)
  ·intro c hc
   rw [g2] at hc
   rw [hF, g1, hFi]
   simp only [jp, jl] at hc ⊢
   grind
end
end KF
