/- An evaluator of Go functions on plain data, its soundness, and plain laws on what the functions compute, part 3 (conditions: as each lemma tells). -/
import Derived.Test.YteooipbgmfmhfaaGreatDoorB
import Derived.Orders
import Derived.LoopN
import Derived.ChangeArms
import Derived.ChangeStays
import Derived.ChangeSame
import Derived.WideShapes
import Derived.RowKit
import Derived.Handed
import Derived.JoinedOf
set_option linter.unusedSimpArgs false
set_option linter.unusedVariables false
namespace KF
open Go
open List renaming length → ja, getElem?_eq_getElem → je, append → jf, mem_append → jl, mem_cons → jp, mem_cons_of_mem → jr, length_cons → jw, set → j5, length_nil → j6, mem_singleton → qa, length_append → qb, getD_eq_getElem?_getD → qd, getElem_mem → qf, mem_map → qg, ext_getElem? → qj, drop_drop → qk, toArray → ql, getD → qm, getElem?_eq_none → qn, mem_append_left → qo, mem_append_right → qp, append_assoc → qt, eq_nil_of_length_eq_zero → qv, getElem?_eq_some_iff → qw, length_eq_one_iff → qx, replicate → q0, cons_append → q8, map_cons → ya, map_nil → yb, nodup_cons → yd, nodup_append → ye, size_toArray → yf, flatten_cons → yg, length_map → yi, mem_map_of_mem → yk, map_append → yl, all_eq_true → ym, range → yo, map → yq, not_mem_nil → yr
open Option renaming bind_some → jb, bind → jz, map_some → j9, bind_eq_some_iff → qc, getD_some → qs, map_eq_some_iff → yn
open Option.some renaming injEq → jc, inj → yp
open Bool renaming and_eq_true → jd, not_true → jg, true_and → jk, false_eq_true → jq, not_eq_true → j7, or_eq_true → qr, not_eq_true' → yc, false_or → yj
open Prod.mk renaming injEq → jh
open Nat renaming ble_eq_true_of_le → ji, mul_le_mul_right → jm, le_refl → jo, zero_add → js, add_assoc → jt, eq_of_beq_eq_true → ju, ble → jx, le_trans → j8, beq → qq, le_of_ble_eq_true → qu, add_zero → qy, blt → qz, blt_eq → q6, add_mul → q7, succ_mul → yh
open Int renaming toNat_natCast → jn, eq_ofNat_of_zero_le → jv, toNat → jy
open Go.IntKind renaming wrap → j4
open Sum renaming elim_inl → qe
open Result renaming andThen_ok → qh
open Sem renaming run_bind → qi
open List.cons renaming injEq → q9
def Dr {α : Type} : List (Int × α) → Int → Option Nat
 | [], _ => none
 | (k, _) :: r, n => bif n == k then some 0 else (Dr r n).map (· + 1)
theorem JK {α : Type} : ∀ (xs : List (Int × α)) (n : Int), Rg xs n = (Dr xs n).bind fun i => (xs[i]?).map (·.2)
 | [], n => rfl
 | (k, x) :: r, n => by
  simp only [Rg, Dr]
  cases hn : n == k with
  | true => simp
  | false =>
   simp only [yu]
   rw [JK r n]
   cases Dr r n <;> simp
theorem ZI {α : Type} : ∀ {xs : List (Int × α)} {n : Int} {i : Nat}, Dr xs n = some i → ∃ h : i < xs.length, xs[i].1 = n
 | [], n, i, h => by simp [Dr] at h
 | (k, x) :: r, n, i, h => by
  simp only [Dr] at h
  cases hn : n == k with
  | true => rw [hn] at h; simp at h hn; subst h; exact ⟨by simp, hn.symm⟩
  | false =>
   rw [hn] at h
   simp only [yu, yn] at h
   obtain ⟨j, hj, rfl⟩ := h
   obtain ⟨h1, h2⟩ := ZI hj
   exact ⟨by simp; omega, by simpa using h2⟩
theorem FH {α : Type} : ∀ {xs : List (Int × α)} {n : Int} {i : Nat} (y : α), Dr xs n = some i → EB xs n y = xs.set i (n, y)
 | [], n, i, y, h => by simp [Dr] at h
 | (k, x) :: r, n, i, y, h => by
  simp only [Dr] at h
  simp only [EB]
  cases hn : n == k with
  | true => rw [hn] at h; simp at h hn; subst h; simp [hn]
  | false =>
   rw [hn] at h
   simp only [yu, yn] at h
   obtain ⟨j, hj, rfl⟩ := h
   simp [FH y hj]
theorem EH {α : Type} : ∀ {xs : List (Int × α)} {n : Int} (y : α), Dr xs n = none → EB xs n y = xs ++ [(n, y)]
 | [], n, y, h => rfl
 | (k, x) :: r, n, y, h => by
  simp only [Dr] at h
  simp only [EB]
  cases hn : n == k with
  | true => rw [hn] at h; simp at h
  | false =>
   rw [hn] at h
   simp only [yu, Option.map_eq_none_iff] at h
   simp [EH y h]
theorem VF {kk : IntKind} {w : World} {O : Nat → Prop} {v : Ty} (n : Int) : ∀ (xs : List (Int × T v)) (es : List MapEntry) (j : Nat), es.length = xs.length →
 (∀ i (h : i < xs.length), ∃ e, es[i]? = some e ∧ e.key = .int kk xs[i].1) →
 Instr.findNow (.int kk) (.int kk n) es j = some ((Dr xs n).bind fun i => (es[i]?).map fun e => (j + i, e.val))
 | [], [], j, _, _ => rfl
 | [], _ :: _, j, h, _ => by simp at h
 | _ :: _, [], j, h, _ => by simp at h
 | (k, x) :: xs, e :: es, j, h, hk => by
  obtain ⟨e0, h0, h1⟩ := hk 0 (by simp)
  simp only [List.getElem?_cons_zero, jc] at h0
  subst h0
  simp only [List.getElem_cons_zero] at h1
  have ih := VF (w := w) (O := O) n xs es (j + 1) (by simpa using h) (fun i hi => by
   obtain ⟨e', h2, h3⟩ := hk (i + 1) (by simp; omega)
   exact ⟨e', by simpa using h2, by simpa using h3⟩)
  simp only [Instr.findNow, h1, Instr.sameNow, if_true, Dr]
  cases hn : n == k with
  | true => simp
  | false =>
   simp only [yu]
   rw [ih]
   cases Dr xs n with
   | none => rfl
   | some i => simp [jt, Nat.add_comm 1 i]
section
variable {P : Program} {Out : Type} {n0 : Nat} {A : Fx} {O0 : Nat → Prop} {w0 w w' : World} {s : AS} {σ σ' : Nat → Value} {φ φ' : Nat → List Nat} {a : Act}
variable {o : Oper} {Q : Exit → Act → World → Prop} {k : AS → Option Out} {out : Out} {d : D} {v : Value} {upd : List (Nat × Option Da)} {dst : Option Tmp} {G : Gd}
theorem Kk {kk : IntKind} {kt : TypeId} {O : Nat → Prop} {τ : Ty} {xs : List (Int × T τ)} {es : Array MapEntry} (hk : P.underlying kt = some (.int kk)) (he : Mi w O (.i kk) τ xs es) (n : Int) (w1 : World) :
 (Instr.findKey kt (.int kk n) es.toList).run P w1 = .ok ((Dr xs n).bind fun i => (es[i]?).map fun e => (i, e.val)) w1 := by
 have := VF (w := w) (O := O) (v := τ) (kk := kk) n xs es.toList 0 (by simpa using he.1) (fun i hi => by
  obtain ⟨e, ck, cv, h1, h2, h3, h4, h5⟩ := he.2 i hi
  refine ⟨e, by simpa using h1, ?_⟩
  have h4' : ck = [.int kk (List.get xs ⟨i, hi⟩).1] := h4
  rw [h2, h4']; rfl)
 simp only [js, Array.getElem?_toList] at this
 simp [Instr.findKey, run_underlying hk, this]
theorem Mh {kk : IntKind} {kt : TypeId} (hk : P.underlying kt = some (.int kk)) (b : Bool) (n : Int) (w1 : World) : (Instr.checkKey b 10000 kt (.int kk n)).run P w1 = .ok () w1 := by
 have h : ∀ m : Nat, (Instr.checkKey b (m + 1) kt (.int kk n)).run P w1 = .ok () w1 := fun m => by simp [Instr.checkKey, run_underlying hk]
 exact h 9999
theorem QO {O : Nat → Prop} {kk : IntKind} {τ : Ty} {xs : List (Int × T τ)} {es : Array MapEntry} (he : Mi w O (.i kk) τ xs es) (n : Int) :
 (Rg xs n = none ∧ Dr xs n = none) ∨ ∃ i e y cv, Dr xs n = some i ∧ es[i]? = some e ∧ Rg xs n = some y ∧ e.val = Qc τ cv ∧ Ha w O τ y cv := by
 rw [JK]
 cases hm : Dr xs n with
 | none => exact .inl ⟨rfl, rfl⟩
 | some i =>
  obtain ⟨hi, _⟩ := ZI hm
  obtain ⟨e, ck, cv, h1, h2, h3, h4, h5⟩ := he.2 i hi
  exact .inr ⟨i, e, _, cv, rfl, h1, by simp [je hi], h3, h5⟩
theorem Vu {kk : IntKind} {t kt et : TypeId} {O : Nat → Prop} {τ : Ty} {xs : List (Int × T τ)} {es : Array MapEntry} {clk r : Nat} (ht : P.underlying t = some (.map kt et)) (hk : P.underlying kt = some (.int kk)) (hte : Bc P τ et = true)
 (hh : w.heap[r]? = some (.map es clk)) (he : Mi w O (.i kk) τ xs es) (n : Int) (ok : Bool) :
 ∃ cv, Ha w O τ ((Rg xs n).getD (zT τ)) cv ∧ (Instr.lookup t (.map (some r)) (.int kk n) ok).run P w = .ok (if ok then .tuple #[Qc τ cv, .bool (Rg xs n).isSome] else Qc τ cv) w := by
 have hg : (getObj r).run P w = .ok (.map es clk) w := by simp [getObj, Sem.run, hh]
 have hf := Kk (P := P) hk he n w
 have hc := Mh (P := P) hk es.isEmpty n w
 rcases QO he n with ⟨h1, h2⟩ | ⟨i, e, y, cv, h1, h2, h3, h4, h5⟩
 ·refine ⟨τ.zc, ?_, ?_⟩
  ·rw [h1]
   exact (TH w τ).view (by simp)
  ·rw [h2] at hf
   rw [h1, Xk]
   simp [Instr.lookup, run_underlying ht, hg, hc, hf, Tok.zero hte]
 ·refine ⟨cv, by rw [h3]; exact h5, ?_⟩
  rw [h1] at hf
  simp only [jb, h2, j9] at hf
  rw [h3]
  simp [Instr.lookup, run_underlying ht, hg, hc, hf, h4]
theorem Zz {kk : IntKind} {t kt et : TypeId} {τ : Ty} (ht : P.underlying t = some (.map kt et)) (hk : P.underlying kt = some (.int kk)) (hte : Bc P τ et = true) (n : Int) (ok : Bool) :
 (Instr.lookup t (.map none) (.int kk n) ok).run P w = .ok (if ok then .tuple #[Qc τ τ.zc, .bool false] else Qc τ τ.zc) w := by
 have hc := Mh (P := P) hk true n w
 have hf : (Instr.findKey kt (.int kk n) []).run P w = .ok none w := by simp [Instr.findKey, run_underlying hk, Instr.findNow]
 rw [Xk]
 simp [Instr.lookup, run_underlying ht, hc, hf, Tok.zero hte]
theorem Cz {O O' : Nat → Prop} {kk v : Ty} {xs : List (T kk × T v)} {es : Array MapEntry} (hv : ∀ b, ¬ O b → b < w.heap.size → w'.heap[b]? = w.heap[b]?) (hO : ∀ b, b < w.heap.size → ¬ O b → ¬ O' b) (h : Mi w O kk v xs es) : Mi w' O' kk v xs es := by
 refine ⟨h.1, fun i hi => ?_⟩
 obtain ⟨e, ck, cv, h1, h2, h3, h4, h5⟩ := h.2 i hi
 exact ⟨e, ck, cv, h1, h2, h3, h4.stable hv hO, h5.stable hv hO⟩
theorem D1 {O : Nat → Prop} {kk : IntKind} {τ : Ty} {xs : List (Int × T τ)} {es : Array MapEntry} (he : Mi w O (.i kk) τ xs es) (n : Int) {y : T τ} {cv : List Value} (hy : Ha w O τ y cv) (clk : Nat) :
 ∃ es' clk', Mi w O (.i kk) τ (EB xs n y) es' ∧ ∀ (t kt et : TypeId) (r : Nat) (w1 : World), P.underlying t = some (.map kt et) → P.underlying kt = some (.int kk) → w1.heap[r]? = some (.map es clk) →
  (Instr.mapUpdate t (.map (some r)) (.int kk n) (Qc τ cv)).run P w1 = .ok () { w1 with heap := w1.heap.setIfInBounds r (.map es' clk') } := by
 cases hm : Dr xs n with
 | none =>
  refine ⟨es.push { key := .int kk n, val := Qc τ cv, born := clk }, clk + 1, ⟨?_, ?_⟩, ?_⟩
  ·rw [EH y hm, Array.size_push, he.1]; simp
  ·rw [EH y hm]
   intro i hi
   by_cases h : i < xs.length
   ·obtain ⟨e, ck, cv', h1, h2, h3, h4, h5⟩ := he.2 i h
    have hlt : i < es.size := by rw [he.1]; exact h
    refine ⟨e, ck, cv', ?_, h2, h3, ?_, ?_⟩
    ·rw [Array.getElem?_push_lt hlt]
     rw [Array.getElem?_eq_getElem hlt] at h1
     exact h1
    ·have : List.get (xs ++ [(n, y)]) ⟨i, hi⟩ = List.get xs ⟨i, h⟩ := List.getElem_append_left h
     rw [this]; exact h4
    ·have : List.get (xs ++ [(n, y)]) ⟨i, hi⟩ = List.get xs ⟨i, h⟩ := List.getElem_append_left h
     rw [this]; exact h5
   ·have hi2 : i = xs.length := by
     have : (xs ++ [(n, y)]).length = xs.length + 1 := by simp
     have hi' : i < (xs ++ [(n, y)]).length := hi
     omega
    subst hi2
    have : List.get (xs ++ [(n, y)]) ⟨xs.length, hi⟩ = (n, y) := by simp
    refine ⟨{ key := .int kk n, val := Qc τ cv, born := clk }, [.int kk n], cv, ?_, rfl, rfl, ?_, ?_⟩
    ·rw [show xs.length = es.size from he.1.symm]
     exact Array.getElem?_push_size
    ·rw [this]; rfl
    ·rw [this]; exact hy
  ·intro t kt et r w1 ht hk hh
   have hg : (getObj r).run P w1 = .ok (.map es clk) w1 := by simp [getObj, Sem.run, hh]
   have hf := Kk (P := P) hk he n w1
   have hc := Mh (P := P) hk false n w1
   rw [hm] at hf
   have hs := MapKept.run_setObj_map (P := P) (.map (es.push { key := .int kk n, val := Qc τ cv, born := clk }) (clk + 1)) hh
   simp [Instr.mapUpdate, run_underlying ht, hg, hc, hf, hs]
 | some i =>
  obtain ⟨hi, hik⟩ := ZI hm
  obtain ⟨e0, ck0, cv0, g1, g2, g3, g4, g5⟩ := he.2 i hi
  have g4' : ck0 = [.int kk n] := by
   have : ck0 = [.int kk (List.get xs ⟨i, hi⟩).1] := g4
   rw [this, show (List.get xs ⟨i, hi⟩).1 = n from hik]
  have hlt : i < es.size := by rw [he.1]; exact hi
  refine ⟨es.modify i fun e => { e with key := .int kk n, val := Qc τ cv }, clk, ⟨?_, ?_⟩, ?_⟩
  ·rw [FH y hm, Array.size_modify, he.1]; simp
  ·rw [FH y hm]
   intro j hj
   have hj' : j < xs.length := by
    have : j < (xs.set i (n, y)).length := hj
    simpa using this
   have hjs : j < es.size := by rw [he.1]; exact hj'
   by_cases hji : i = j
   ·subst hji
    have : List.get (xs.set i (n, y)) ⟨i, hj⟩ = (n, y) := by simp
    refine ⟨{ es[i] with key := .int kk n, val := Qc τ cv }, [.int kk n], cv, ?_, rfl, rfl, ?_, ?_⟩
    ·rw [Array.getElem?_modify]; simp [Array.getElem?_eq_getElem hjs]
    ·rw [this]; rfl
    ·rw [this]; exact hy
   ·obtain ⟨e, ck, cv', h1, h2, h3, h4, h5⟩ := he.2 j hj'
    have : List.get (xs.set i (n, y)) ⟨j, hj⟩ = List.get xs ⟨j, hj'⟩ := by simp [hji]
    refine ⟨e, ck, cv', ?_, h2, h3, ?_, ?_⟩
    ·rw [Array.getElem?_modify, if_neg hji]; exact h1
    ·rw [this]; exact h4
    ·rw [this]; exact h5
  ·intro t kt et r w1 ht hk hh
   have hg : (getObj r).run P w1 = .ok (.map es clk) w1 := by simp [getObj, Sem.run, hh]
   have hf := Kk (P := P) hk he n w1
   have hc := Mh (P := P) hk false n w1
   rw [hm] at hf
   simp only [jb, g1, j9] at hf
   have hs := MapKept.run_setObj_map (P := P) (.map (es.modify i fun e => { e with key := .int kk n, val := Qc τ cv }) clk) hh
   have hkey : e0.key = .int kk n := by rw [g2, g4']; rfl
   have hst : (Instr.keyThatStays (.int kk n) (.int kk n)).run P w1 = .ok (.int kk n) w1 := by simp [Instr.keyThatStays, Instr.sameBits]
   simp [Instr.mapUpdate, run_underlying ht, hg, hc, hf, g1, hkey, hst, hs]
theorem Zk {O : Nat → Prop} {hp : Nat → Option Da} {id : Nat} {v : Value} : Cc w O hp σ (.mpo id) v ↔ v.oneCell' = true ∧ ∀ Aa, hp id = some Aa → Aa.isM = true → v = σ id := by
 simp only [Cc, Id, D.isAgg, Pa, jq, if_false]
 constructor
 ·rintro ⟨u, h, h1, h2⟩
  simp only [q9, and_true] at h
  subst h
  exact ⟨h1, h2⟩
 ·rintro ⟨h1, h2⟩
  exact ⟨v, rfl, h1, h2⟩
theorem XW (h : La n0 A O0 w0 s σ φ a w) {t : TypeId} {r : Option Operand} (ho : o.op = .makeMap t r)
 (he : Og G s o (fun d u => Af s o.dst d u k) = some out) : o.wp P a w (Hd n0 A O0 w0 k out) Q := by
 simp only [Og, ho] at he
 cases r with
 | some r => simp at he
 | none =>
 simp only at he
 split at he
 ·rename_i tt kk v hd hty
  cases hmv : Hq G.mv tt with
  | true =>
   simp only [hmv, yt] at he
   split at he
   ·rename_i k2 e2
    cases hn : s.newOk tt with
    | false => simp [hn] at he
    | true =>
     simp only [hn, yt] at he
     have hc := h.new1 (id := tt) (w' := w.alloc (.map #[] 0)) hn (.mq k2 e2 ([] : List (Int × List (T e2)))) (.map (some w.heap.size)) [w.heap.size] (by simp) (fun b hb => Ve w _ b hb) rfl rfl rfl (by simp) (by simp)
      (by
       intro hp' σ' O' hσ _ _
       exact ⟨w.heap.size, #[], 0, hσ, heap_alloc_new w _, rfl, rfl⟩)
      (by
       intro kk e xs hx
       simp only [Da.mq.injEq] at hx
       obtain ⟨rfl, rfl, hx⟩ := hx
       have hx' := eq_of_heq hx
       subst hx'
       exact ⟨w.heap.size, #[], 0, [], rfl, heap_alloc_new w _, rfl, rfl, List.nodup_nil, fun b hb => by simp at hb, fun i hi => by simp at hi⟩)
     refine Ab (w' := w.alloc (.map #[] 0)) (v := .map (some w.heap.size)) ?_ (Wc rfl hc (Zk.2 ⟨rfl, fun _ _ _ => (Yc _ _ _).symm⟩) he)
     simp [execOp, ho, Instr.makeMap]
   ·simp at he
  | false =>
  simp only [hmv, yu] at he
  cases hn : s.newOk tt with
  | false => simp [hn] at he
  | true =>
   simp only [hn, yt] at he
   have hc := h.new1 (id := tt) (w' := w.alloc (.map #[] 0)) hn (.mp kk v ([] : List (T kk × T v))) (.map (some w.heap.size)) [w.heap.size] (by simp) (fun b hb => Ve w _ b hb) rfl rfl rfl (by simp) (by simp)
    (by
     intro hp' σ' O' hσ _ _
     exact ⟨w.heap.size, #[], 0, hσ, heap_alloc_new w _, rfl, rfl, fun i hi => by simp at hi⟩)
   refine Ab (w' := w.alloc (.map #[] 0)) (v := .map (some w.heap.size)) ?_ (Wc rfl hc (Zk.2 ⟨rfl, fun _ _ _ => (Yc _ _ _).symm⟩) he)
   simp [execOp, ho, Instr.makeMap]
 ·simp at he
theorem EF {O : Nat → Prop} {hp : Nat → Option Da} {d : D} {τ : Ty} {x : T τ} {v : Value} (ht : Qe d τ = some x) (h : Cc w O hp σ d v) : Ha w O τ x v.cells.toList ∧ v = Qc τ v.cells.toList := by
 obtain ⟨hs, hv⟩ := Ae (w := w) (O := O) (hp := hp) (σ := σ) ht
 obtain ⟨h1, h2⟩ := Xc hs h
 exact ⟨hv _ h1, by rw [Xk]; exact h2⟩
theorem RL (hG : EnvTy P G) (h : La n0 A O0 w0 s σ φ a w) {t : TypeId} {m x v : Operand} (ho : o.op = .mapUpdate t m x v ∨ o.op = .insert t m x v)
 (he : Hj G s t m x v (fun d u => Af s o.dst d u k) = some out) : o.wp P a w (Hd n0 A O0 w0 k out) Q := by
 unfold Hj at he
 split at he
 ·rename_i kk τ id k2 n d hty hm hx hv
  split at he
  ·rename_i k3 τ3 xs y hid hy
   split at he
   ·rename_i hdec hq
    obtain rfl := hdec
    cases hkk : (kk == k2) && (kk == k3) with
    | false => simp [hkk] at he
    | true =>
     simp only [hkk, yt] at he
     simp only [jd, beq_iff_eq] at hkk
     obtain ⟨rfl, rfl⟩ := hkk
     obtain ⟨kt, et, hu, hk, hte⟩ := Tok.mp (hG.ty _ _ hty)
     obtain ⟨r, es, clk, hσ, hh, hF, hz, hen⟩ := h.hp id _ hid
     have hE : Mi w (OO O0 s φ) (.i kk) τ xs es := ⟨hz, hen⟩
     obtain ⟨hyv, hvv⟩ := EF hy (h.ev hv)
     obtain ⟨es', clk', hE', hrun⟩ := D1 (P := P) hE n hyv clk
     have hmv := (Zk.1 (h.ev hm)).2 _ hid rfl
     rw [hσ] at hmv
     have hxv := Fd.1 (h.ev hx)
     have hrlt : r < w.heap.size := (Array.getElem?_eq_some_iff.1 hh).1
     have hOr : OO O0 s φ r := .inr ⟨id, _, hid, by rw [hF]; simp⟩
     have hne : ∀ b, b ≠ r → (w.heap.setIfInBounds r (.map es' clk'))[b]? = w.heap[b]? := fun b hb => by
      rw [Array.getElem?_setIfInBounds, if_neg (fun e => hb e.symm)]
     have hc := h.turn (w' := { w with heap := w.heap.setIfInBounds r (.map es' clk') }) hid (Aa := .mp (.i kk) τ (EB xs n y)) ⟨rfl, rfl⟩ [] (by simp) (by simp) (φ id) (by simp)
      (fun b _ hb _ => hne b (fun e => hb (by rw [hF, e]; simp))) rfl rfl rfl (h.nodup id _ hid) (fun b hb => .inr (.inl hb))
      (by
       intro hp' O' hO _
       refine ⟨r, es', clk', hσ, ?_, hF, ?_⟩
       ·show (w.heap.setIfInBounds r (.map es' clk'))[r]? = _
        rw [Array.getElem?_setIfInBounds]; simp [hrlt]
       ·exact Cz (fun b hb hlt => hne b (fun e => hb (e ▸ hOr))) hO hE')
     refine Tq (w' := { w with heap := w.heap.setIfInBounds r (.map es' clk') }) ?_ (Wc (upd := [(id, some (.mp (.i kk) τ (EB xs n y)))]) rfl hc (Al.2 rfl) he)
     have := hrun t kt et r w hu (Tok.i hk) hh
     rw [← hvv] at this
     rcases ho with ho | ho <;> simp [execOp, ho, hmv, hxv, this]
   ·simp at he
  ·simp at he
 ·simp at he
theorem DQ {O : Nat → Prop} {kk : IntKind} {e : Ty} {xs : List (Int × List (T e))} {es : Array MapEntry} {Gs : List (List Nat)} (hz : es.size = ja xs) (hO : ∀ b, b ∈ List.flatten Gs → ¬ O b)
 (hen : ∀ i (h : i < ja xs), ∃ en, es[i]? = some en ∧ en.key = .int kk (List.get xs ⟨i, h⟩).1 ∧ Eb w (.sl e) (List.get xs ⟨i, h⟩).2 [en.val] (Gs.getD i [])) : Mi w O (.i kk) (.sl e) xs es := by
 refine ⟨hz, fun i hi => ?_⟩
 obtain ⟨en, h1, h2, h3⟩ := hen i hi
 exact ⟨en, [.int kk (List.get xs ⟨i, hi⟩).1], [en.val], h1, h2, rfl, rfl, h3.view fun b hb => hO b (Qd hb)⟩
theorem CR {O : Nat → Prop} {kk : IntKind} {τ : Ty} {xs : List (Int × T τ)} {es : Array MapEntry} (he : Mi w O (.i kk) τ xs es) {n : Int} (hm : Rg xs n = none) (v : Value) (clk : Nat) {t kt et : TypeId} {r : Nat} {w1 : World}
 (ht : P.underlying t = some (.map kt et)) (hk : P.underlying kt = some (.int kk)) (hh : w1.heap[r]? = some (.map es clk)) :
 (Instr.mapUpdate t (.map (some r)) (.int kk n) v).run P w1 = .ok () { w1 with heap := w1.heap.setIfInBounds r (.map (es.push { key := .int kk n, val := v, born := clk }) (clk + 1)) } := by
 have hm' : Dr xs n = none := by
  rcases QO he n with ⟨_, h2⟩ | ⟨_, _, _, _, _, _, h3, _⟩
  ·exact h2
  ·rw [hm] at h3; simp at h3
 have hg : (getObj r).run P w1 = .ok (.map es clk) w1 := by simp [getObj, Sem.run, hh]
 have hf := Kk (P := P) hk he n w1
 have hc := Mh (P := P) hk false n w1
 rw [hm'] at hf
 have hs := MapKept.run_setObj_map (P := P) (.map (es.push { key := .int kk n, val := v, born := clk }) (clk + 1)) hh
 simp [Instr.mapUpdate, run_underlying ht, hg, hc, hf, hs]
theorem CJ (hG : EnvTy P G) (hfz : Cx G A O0) (h : La n0 A O0 w0 s σ φ a w) {t : TypeId} {m x v : Operand} (ho : o.op = .mapUpdate t m x v ∨ o.op = .insert t m x v)
 (he : Hh G s t m x v (fun d u => Af s o.dst d u k) = some out) : o.wp P a w (Hd n0 A O0 w0 k out) Q := by
 unfold Hh at he
 split at he
 ·rename_i kk e id k2 n d hty hm hx hv
  split at he
  ·rename_i k3 e3 xs y l hid hy
   split at he
   ·rename_i hdec hq
    obtain rfl := hdec
    cases hkk : (kk == k2) && ((kk == k3) && (Fe (id :: l) && (G.fz && (!Im G.att && !LO G.att)))) with
    | false => simp [hkk] at he
    | true =>
     simp only [hkk, yt] at he
     simp only [jd, beq_iff_eq] at hkk
     obtain ⟨rfl, rfl, hnd, hfz1, hfz2, hfz3⟩ := hkk
     have hnl := Of hnd
     have hnoA : ∀ b, ¬ A.A b := by
      rcases hfz hfz1 with h1 | ⟨h1, _⟩ | ⟨h1, _⟩
      ·exact h1
      ·rw [h1] at hfz3; simp at hfz3
      ·rw [h1] at hfz2; simp at hfz2
     cases hnone : (Rg xs n).isNone with
     | false => rw [hnone] at he; simp at he
     | true =>
      rw [hnone] at he
      simp only [yt] at he
      have hmg : Rg xs n = none := by simpa using hnone
      obtain ⟨kt, et, hu, hk, hte⟩ := Tok.mp (hG.ty _ _ hty)
      obtain ⟨r, es, clk, Gs, hσ, hh, hz, hGl, hGn, hGo, hen⟩ := h.shr id _ _ _ hid
      obtain ⟨r', es', clk', hσ', _, hF, _⟩ := h.hp id _ hid
      have hrr : r' = r := by rw [hσ] at hσ'; simpa using hσ'.symm
      subst hrr
      have hE : Mi w (OO O0 s φ) (.i kk) (.sl e) xs es := DQ hz (fun b hb => (hGo b hb).2) hen
      obtain ⟨hrc, hvv⟩ := Xc (Tg hy) (h.ev hv)
      obtain ⟨hown, hlive⟩ := Jj h hy hrc
      have hlen := Eb.length hown
      simp only [Ty.size] at hlen
      obtain ⟨v1, hv1⟩ := qx.1 hlen
      have hval : a.eval v = v1 := by rw [hvv, hv1]; rfl
      rw [hv1] at hown
      have hmv := (Zk.1 (h.ev hm)).2 _ hid rfl
      rw [hσ] at hmv
      have hxv := Fd.1 (h.ev hx)
      have hrlt : r' < w.heap.size := (Array.getElem?_eq_some_iff.1 hh).1
      have hOr : OO O0 s φ r' := .inr ⟨id, _, hid, by rw [hF]; simp⟩
      have hne : ∀ b, b ≠ r' → (w.heap.setIfInBounds r' (.map (es.push { key := .int kk n, val := v1, born := clk }) (clk + 1)))[b]? = w.heap[b]? := fun b hb => by
       rw [Array.getElem?_setIfInBounds, if_neg (fun e => hb e.symm)]
      have hidl : id ∉ l := (yd.1 hnl).1
      have hblO : ∀ b, b ∈ Ca φ l → OO O0 s φ b := fun b hb => by
       obtain ⟨j, hj, hm⟩ := Va.1 hb
       obtain ⟨Aa, hbl⟩ := hlive j hj
       exact .inr ⟨j, Aa, hbl, hm⟩
      have hbr : ∀ b, b ∈ Ca φ l → b ≠ r' := fun b hb e => by
       obtain ⟨j, hj, hm⟩ := Va.1 hb
       obtain ⟨Aa, hbl⟩ := hlive j hj
       exact h.disj id j _ Aa (fun e => hidl (e ▸ hj)) hid hbl r' (by rw [hF]; simp) (e ▸ hm)
      have hGr : ∀ b, b ∈ List.flatten Gs → b ≠ r' := fun b hb e => (hGo b hb).2 (e ▸ hOr)
      have hzz : (ja xs + 1) = ja (jf xs [(n, y)]) := by simp
      have hsz : (es.push { key := .int kk n, val := v1, born := clk }).size = ja (jf xs [(n, y)]) := by rw [Array.size_push, hz, hzz]
      have hset : (w.heap.setIfInBounds r' (.map (es.push { key := .int kk n, val := v1, born := clk }) (clk + 1)))[r']? = some (.map (es.push { key := .int kk n, val := v1, born := clk }) (clk + 1)) := by
       rw [Array.getElem?_setIfInBounds]; simp [hrlt]
      have hc := h.turn (w' := { w with heap := w.heap.setIfInBounds r' (.map (es.push { key := .int kk n, val := v1, born := clk }) (clk + 1)) }) hid (Aa := .mq kk e (jf xs [(n, y)])) ⟨rfl, rfl⟩ l hlive hidl (φ id) (by simp)
       (fun b _ hb _ => hne b (fun e => hb (by rw [hF, e]; simp))) rfl rfl rfl (h.nodup id _ hid) (fun b hb => .inr (.inl hb))
       (by
        intro hp' O' hO _
        exact ⟨r', _, _, hσ, hset, hF, hsz⟩)
       (by
        intro kk' e' xs' hx'
        simp only [Da.mq.injEq] at hx'
        obtain ⟨rfl, rfl, hx'⟩ := hx'
        have hx2 := eq_of_heq hx'
        subst hx2
        refine ⟨r', _, _, Gs ++ [Ca φ l], hσ, hset, hsz, ?_, ?_, ?_, ?_⟩
        ·rw [qb, hGl, List.length_singleton, hzz]
        ·rw [List.flatten_append, ye]
         refine ⟨hGn, ?_, fun a ha b hb e => ?_⟩
         ·simpa using Je h (yd.1 hnl).2 hlive
         ·subst e
          exact (hGo a ha).2 (hblO a (by simpa using hb))
        ·intro b hb
         rw [List.flatten_append] at hb
         have hOmono : ∀ b, OO O0 ⟨s.n, s.tm, (id, some (.mq kk e (jf xs [(n, y)]))) :: (Qb l ++ s.hp)⟩ (Ye φ id (φ id)) b → O0 b ∨ ∃ j Aa, j ∉ l ∧ s.heap j = some Aa ∧ b ∈ φ j := by
          rintro b (ho | ⟨j, Aa, hl', hm⟩)
          ·exact .inl ho
          ·rw [Oc] at hl'
           by_cases hj : j = id
           ·subst hj
            rw [Yc] at hm
            exact .inr ⟨j, _, hidl, hid, hm⟩
           ·rw [if_neg hj] at hl'
            split at hl'
            ·simp at hl'
            ·rename_i hjl
             rw [Ug _ _ hj] at hm
             exact .inr ⟨j, Aa, hjl, hl', hm⟩
         rcases jl.1 hb with hb | hb
         ·refine ⟨(hGo b hb).1, fun hO => (hGo b hb).2 ?_⟩
          rcases hOmono b hO with ho | ⟨j, Aa, _, h1, h2⟩
          ·exact .inl ho
          ·exact .inr ⟨j, Aa, h1, h2⟩
         ·have hb' : b ∈ Ca φ l := by simpa using hb
          obtain ⟨j, hj, hm⟩ := Va.1 hb'
          obtain ⟨Aa, hbl⟩ := hlive j hj
          have hge : n0 ≤ b := (h.fresh j Aa hbl b hm).resolve_right (hnoA b)
          refine ⟨hge, fun hO => ?_⟩
          rcases hOmono b hO with ho | ⟨j', blk', hjl, h1, h2⟩
          ·have := h.o0 b ho; omega
          ·exact h.disj j j' Aa blk' (fun e => hjl (e ▸ hj)) hbl h1 b hm h2
        ·intro i hi
         have hi' : i < ja xs + 1 := by rw [hzz]; exact hi
         by_cases hix : i < ja xs
         ·obtain ⟨en, g1, g2, g3⟩ := hen i hix
          have hlt : i < es.size := by rw [hz]; exact hix
          have hgx : List.get (jf xs [(n, y)]) ⟨i, hi⟩ = List.get xs ⟨i, hix⟩ := List.getElem_append_left hix
          have hgG : (Gs ++ [Ca φ l]).getD i [] = Gs.getD i [] := by
           rw [qd, qd, List.getElem?_append_left (by omega)]
          refine ⟨en, ?_, by rw [hgx]; exact g2, ?_⟩
          ·rw [Array.getElem?_push_lt hlt]
           rw [Array.getElem?_eq_getElem hlt] at g1
           exact g1
          ·rw [hgx, hgG]
           exact g3.stable fun b hb => hne b (hGr b (Qd hb))
         ·have hie : i = ja xs := by omega
          subst hie
          have hgx : List.get (jf xs [(n, y)]) ⟨ja xs, hi⟩ = (n, y) := by simp
          have hgG : (Gs ++ [Ca φ l]).getD (ja xs) [] = Ca φ l := by
           rw [qd, ← hGl, List.getElem?_append_right (jo _), Nat.sub_self]; rfl
          refine ⟨{ key := .int kk n, val := v1, born := clk }, ?_, by rw [hgx], ?_⟩
          ·rw [← hz]; exact Array.getElem?_push_size
          ·rw [hgx, hgG]
           exact hown.stable fun b hb => hne b (hbr b hb))
      refine Tq (w' := { w with heap := w.heap.setIfInBounds r' (.map (es.push { key := .int kk n, val := v1, born := clk }) (clk + 1)) }) ?_ (Wc (upd := (id, some (.mq kk e (jf xs [(n, y)]))) :: Qb l) rfl hc (Al.2 rfl) he)
      have := CR (P := P) hE hmg v1 clk hu (Tok.i hk) hh
      rcases ho with ho | ho <;> simp [execOp, ho, hmv, hxv, hval, this]
   ·simp at he
  ·simp at he
 ·simp at he
theorem ZA (h : La n0 A O0 w0 s σ φ a w) {τ : Ty} {xs : List (Int × T τ)} {n : Int} {ok : Bool} {cv : List Value} (hv : Ha w (OO O0 s φ) τ ((Rg xs n).getD (zT τ)) cv)
 (hrun : (execOp a.eval o).run P w = .ok (.value (if ok then .tuple #[Qc τ cv, .bool (Rg xs n).isSome] else Qc τ cv)) w)
 (he : Ct xs n ok (fun d u => Af s o.dst d u k) = some out) : o.wp P a w (Hd n0 A O0 w0 k out) Q := by
 have h1 : Id w (OO O0 s φ) s.heap σ (.t τ ((Rg xs n).getD (zT τ))) (Qc τ cv) := by
  rw [Xk]
  exact MB (d := .t τ ((Rg xs n).getD (zT τ))) (by simp [Sa]) hv
 unfold Ct at he
 cases ok with
 | true =>
  simp only [yt] at he
  refine Ab hrun (Ob h ?_ he)
  simp only [if_true]
  refine ⟨#[Qc τ cv, .bool (Rg xs n).isSome], rfl, h1, ?_, trivial⟩
  simp [Id, D.isAgg, Pa, Ha]
 | false =>
  simp only [yu] at he
  refine Ab hrun (Ob h ?_ he)
  exact Sj h1
theorem YW {kk : IntKind} {t kt et : TypeId} {e : Ty} {xs : List (Int × List (T e))} {v : Value} {F : List Nat} (ht : P.underlying t = some (.map kt et)) (hk : P.underlying kt = some (.int kk)) (hte : Bc P (.sl e) et = true)
 (ho : Eb w (.mp (.i kk) (.sl e)) xs [v] F) (n : Int) :
 ∃ v1 G, (Instr.lookup t v (.int kk n) true).run P w = .ok (.tuple #[v1, .bool (Rg xs n).isSome]) w ∧ Eb w (.sl e) ((Rg xs n).getD []) [v1] G ∧ G.Sublist F ∧ v1.oneCell' = true := by
 obtain ⟨hc, hx, hF⟩ | ⟨r, es, clk, Fs, hc, hh, hz, hF, hl, hen⟩ := ho
 ·have hx' : xs = [] := hx
  subst hx'
  simp only [q9, and_true] at hc
  subst hc
  refine ⟨.slice none 0 0, [], ?_, ?_, List.nil_sublist _, rfl⟩
  ·have := Zz (P := P) (w := w) ht hk hte n true
   simpa [Qc, Ty.zc, Rg] using this
  ·exact ⟨by simp [Rg], .inl ⟨rfl, rfl, rfl⟩⟩
 ·simp only [q9, and_true] at hc
  subst hc
  have hE : Mi w (fun _ => False) (.i kk) (.sl e) xs es := ⟨hz, fun i hi => by
   obtain ⟨en, ck, cv, g1, g2, g3, g4, g5⟩ := hen i hi
   exact ⟨en, ck, cv, g1, g2, g3, g4.view (fun _ _ h => h), g5.view (fun _ _ h => h)⟩⟩
  have hg : (getObj r).run P w = .ok (.map es clk) w := by simp [getObj, Sem.run, hh]
  have hf := Kk (P := P) hk hE n w
  have hck := Mh (P := P) hk es.isEmpty n w
  rw [JK]
  cases hm : Dr xs n with
  | none =>
   rw [hm] at hf
   refine ⟨.slice none 0 0, [], ?_, ⟨by simp, .inl ⟨rfl, rfl, rfl⟩⟩, List.nil_sublist _, rfl⟩
   have hzt := Tok.zero (P := P) hte
   simp [Instr.lookup, run_underlying ht, hg, hck, hf, hzt, Ty.zc, Hc, Ty.isAgg]
  | some i =>
   obtain ⟨hi, _⟩ := ZI hm
   obtain ⟨en, ck, cv, g1, g2, g3, g4, g5⟩ := hen i hi
   have hlen := Eb.length g5
   simp only [Ty.size] at hlen
   obtain ⟨v1, rfl⟩ := qx.1 hlen
   have hval : en.val = v1 := by rw [g3]; rfl
   rw [hm] at hf
   simp only [jb, g1, j9] at hf
   refine ⟨v1, Fs.getD i [], ?_, ?_, ?_, g5.one v1 (by simp)⟩
   ·simp [Instr.lookup, run_underlying ht, hg, hck, hf, hval, je hi]
   ·have : (((some i : Option Nat).bind fun i => (xs[i]?).map (·.2)).getD ([] : List (T e))) = (List.get xs ⟨i, hi⟩).2 := by
     simp [je hi]
    rw [this]
    exact g5
   ·rw [hF]
    refine List.Sublist.cons _ ?_
    have : Fs.getD i [] ∈ Fs := by
     rw [qd, je (by rw [hl]; exact hi)]
     exact qf _
    exact List.sublist_flatten_of_mem this
theorem G5 (h : La n0 A O0 w0 s σ φ a w) {id : Nat} {κ τ : Ty} {xs : List (T κ × T τ)} (hid : s.heap id = some (.mp κ τ xs)) {t kt et : TypeId} (hu : P.underlying t = some (.map kt et)) (hk : Bc P κ kt = true) (hkb : Ln κ = true)
 {n : T κ} {y : T τ} {cn cv : List Value} (hnv : Ha w (OO O0 s φ) κ n cn) (hyv : Ha w (OO O0 s φ) τ y cv) :
 ∃ w', (Instr.mapUpdate t (σ id) (Qc κ cn) (Qc τ cv)).run P w = .ok () w' ∧ La n0 A O0 w0 ⟨s.n, s.tm, (id, some (.mp κ τ (Uh κ xs n y))) :: s.hp⟩ σ (Ye φ id (φ id)) a w' := by
 obtain ⟨r, es, clk, hσ, hh, hF, hz, hen⟩ := h.hp id _ hid
 have hE : Mi w (OO O0 s φ) κ τ xs es := ⟨hz, hen⟩
 obtain ⟨es', clk', hE', hrun⟩ := JY (P := P) hE hk hkb hnv hyv clk
 have hrlt : r < w.heap.size := (Array.getElem?_eq_some_iff.1 hh).1
 have hOr : OO O0 s φ r := .inr ⟨id, _, hid, by rw [hF]; simp⟩
 have hne : ∀ b, b ≠ r → (w.heap.setIfInBounds r (.map es' clk'))[b]? = w.heap[b]? := fun b hb => by
  rw [Array.getElem?_setIfInBounds, if_neg (fun e => hb e.symm)]
 refine ⟨{ w with heap := w.heap.setIfInBounds r (.map es' clk') }, by rw [hσ]; exact hrun t et r hu hh, ?_⟩
 exact h.turn (w' := { w with heap := w.heap.setIfInBounds r (.map es' clk') }) hid (Aa := .mp κ τ (Uh κ xs n y)) ⟨rfl, rfl⟩ [] (by simp) (by simp) (φ id) (by simp)
  (fun b _ hb _ => hne b (fun e => hb (by rw [hF, e]; simp))) rfl rfl rfl (h.nodup id _ hid) (fun b hb => .inr (.inl hb))
  (by
   intro hp' O' hO _
   refine ⟨r, es', clk', hσ, ?_, hF, ?_⟩
   ·show (w.heap.setIfInBounds r (.map es' clk'))[r]? = _
    rw [Array.getElem?_setIfInBounds]; simp [hrlt]
   ·exact Cz (fun b hb hlt => hne b (fun e => hb (e ▸ hOr))) hO hE')
theorem KX {s : AS} : ∀ {d : D} {τ : Ty} {x : T τ}, Ma s d τ = some x → ∀ j, j ∈ d.owns → ∃ Aa, s.heap j = some Aa ∧ Aa.isM = false := by
 intro d
 induction d with
 | own id =>
  intro τ x h j hj
  simp only [D.owns, qa] at hj
  subst hj
  cases τ with
  | sl e =>
   simp only [Ma] at h
   split at h
   ·rename_i hb; exact ⟨_, hb, rfl⟩
   ·rename_i hb; exact ⟨_, hb, rfl⟩
   ·simp at h
  | _ => simp [Ma] at h
 | pr a b iha ihb =>
  intro τ x h j hj
  cases τ with
  | p t1 t2 =>
   simp only [Ma] at h
   split at h
   ·rename_i u v hu hv
    simp only [D.owns, jl] at hj
    rcases hj with hj | hj
    ·exact iha hu j hj
    ·exact ihb hv j hj
   ·simp at h
  | _ => simp [Ma] at h
 | _ => intro τ x h j hj; simp [D.owns] at hj
theorem DJ (hG : EnvTy P G) (hfz : Cx G A O0) (h : La n0 A O0 w0 s σ φ a w) {t : TypeId} {m x v : Operand} (ho : o.op = .mapUpdate t m x v ∨ o.op = .insert t m x v)
 (he : Ih G s t m x v (fun d u => Af s o.dst d u k) = some out) : o.wp P a w (Hd n0 A O0 w0 k out) Q := by
 unfold Ih at he
 split at he
 ·rename_i κ τ id dx d hty hm hx hv
  split at he
  ·rename_i κ3 τ3 xs hid
   split at he
   ·rename_i q1 q2 n y hq1 hq2 hxn hyn
    obtain rfl := Jc hq1
    obtain rfl := Jc hq2
    cases hkb : Ln κ && (!d.hasOwn || ((G.fz && !Im G.att) && d.noCut)) with
    | false => rw [hkb] at he; simp at he
    | true =>
     rw [hkb] at he
     simp only [yt] at he
     simp only [jd] at hkb
     obtain ⟨hkb, hoc⟩ := hkb
     obtain ⟨kt, et, hu, hk, hte⟩ := Tok.mp (hG.ty _ _ hty)
     obtain ⟨hnv, hnn⟩ := EF hxn (h.ev hx)
     have hmv := (Zk.1 (h.ev hm)).2 _ hid rfl
     cases hown : d.hasOwn with
     | false =>
      rw [hown] at he
      simp only [Bool.not_false, yt] at he
      obtain ⟨hyv, hvv⟩ := EF (Ew hown hyn) (h.ev hv)
      obtain ⟨w', hrun, hc⟩ := G5 (P := P) h hid hu hk hkb hnv hyv
      refine Tq (w' := w') ?_ (Wc (upd := [(id, some (.mp κ τ (Uh κ xs n y)))]) rfl hc (Al.2 rfl) he)
      rw [← hvv, ← hnn, ← hmv] at hrun
      rcases ho with ho | ho <;> simp [execOp, ho, hrun]
     | true =>
      rw [hown] at he hoc
      simp only [jg, yu] at he
      simp only [jg, yj, jd, yc] at hoc
      obtain ⟨hr, hvv⟩ := Xc (Ho hyn) (h.ev hv)
      have hyv := QJ (RZ (hfz hoc.1.1) (by rw [hoc.1.2]; rfl) h) h (L := d.owns) hyn hr hoc.2 fun j hj => hj
      have h2 := h.drop d.owns
      have hO : ∀ b, OO O0 ⟨s.n, s.tm, Qb d.owns ++ s.hp⟩ φ b → OO O0 s φ b := fun b hb => by
       rcases Lz hb with hb | ⟨j, Aa, _, hl, hm⟩
       ·exact .inl hb
       ·exact .inr ⟨j, Aa, hl, hm⟩
      have hidl : id ∉ d.owns := fun hj => by
       obtain ⟨Aa, hb, hM⟩ := KX hyn id hj
       rw [hid] at hb
       simp only [jc] at hb
       subst hb
       simp [Da.isM] at hM
      have hid2 : AS.heap ⟨s.n, s.tm, Qb d.owns ++ s.hp⟩ id = some (.mp κ τ xs) := by
       simp only [AS.heap, Oi, if_neg hidl]
       exact hid
      obtain ⟨w', hrun, hc⟩ := G5 (P := P) h2 hid2 hu hk hkb (hnv.weaken hO) hyv
      refine Tq (w' := w') ?_ (Wc (upd := (id, some (.mp κ τ (Uh κ xs n y))) :: Qb d.owns) (s₁ := ⟨s.n, s.tm, (id, some (.mp κ τ (Uh κ xs n y))) :: (Qb d.owns ++ s.hp)⟩) rfl hc (Al.2 rfl) he)
      rw [Xk τ, ← hvv, ← hnn, ← hmv] at hrun
      rcases ho with ho | ho <;> simp [execOp, ho, hrun]
   ·simp at he
  ·simp at he
 ·simp at he
theorem WW (hG : EnvTy P G) (h : La n0 A O0 w0 s σ φ a w) {t : TypeId} {m x : Operand} {ok : Bool} (ho : o.op = .lookup t m x ok)
 (he : Gk G s t m x ok (fun d u => Af s o.dst d u k) = some out) : o.wp P a w (Hd n0 A O0 w0 k out) Q := by
 unfold Gk at he
 split at he
 ·rename_i κ τ id dx hty hm hx
  split at he
  ·rename_i κ3 τ3 xs hid
   split at he
   ·rename_i q1 q2 n hq1 hq2 hxn
    obtain rfl := Jc hq1
    obtain rfl := Jc hq2
    cases hkb : Ln κ with
    | false => simp [hkb] at he
    | true =>
     simp only [hkb, yt] at he
     obtain ⟨kt, et, hu, hk, hte⟩ := Tok.mp (hG.ty _ _ hty)
     obtain ⟨r, es, clk, hσ, hh, hF, hz, hen⟩ := h.hp id _ hid
     have hE : Mi w (OO O0 s φ) κ τ xs es := ⟨hz, hen⟩
     obtain ⟨hnv, hnn⟩ := EF hxn (h.ev hx)
     have hmv := (Zk.1 (h.ev hm)).2 _ hid rfl
     rw [hσ] at hmv
     obtain ⟨cv, hcv, hrun⟩ := KQ (P := P) hu hk hkb hte hh hE hnv ok
     have hex : (execOp a.eval o).run P w = .ok (.value (if ok then .tuple #[Qc τ cv, .bool (Rd κ xs n).isSome] else Qc τ cv)) w := by
      rw [← hnn] at hrun
      simp [execOp, ho, hmv, hrun]
     have h1 : Id w (OO O0 s φ) s.heap σ (.t τ ((Rd κ xs n).getD (zT τ))) (Qc τ cv) := by
      rw [Xk]
      exact MB (d := .t τ ((Rd κ xs n).getD (zT τ))) (by simp [Sa]) hcv
     unfold IG at he
     cases ok with
     | true =>
      simp only [yt] at he
      refine Ab hex (Ob h ?_ he)
      simp only [if_true]
      refine ⟨#[Qc τ cv, .bool (Rd κ xs n).isSome], rfl, h1, ?_, trivial⟩
      simp [Id, D.isAgg, Pa, Ha]
     | false =>
      simp only [yu] at he
      refine Ab hex (Ob h ?_ he)
      exact Sj h1
   ·simp at he
  ·simp at he
 ·simp at he
theorem VZ (hG : EnvTy P G) (h : La n0 A O0 w0 s σ φ a w) {t : TypeId} {m x : Operand} {ok : Bool} (ho : o.op = .lookup t m x ok)
 (he : Og G s o (fun d u => Af s o.dst d u k) = some out) : o.wp P a w (Hd n0 A O0 w0 k out) Q := by
 simp only [Og, ho] at he
 cases hka : s.kAgg x with
 | true => rw [hka] at he; simp only [yt] at he; exact WW hG h ho he
 | false =>
 rw [hka] at he
 simp only [yu] at he
 split at he
 ·rename_i kk τ id k2 n hty hm hx
  split at he
  ·rename_i k3 τ3 xs hid
   split at he
   ·rename_i hdec
    obtain rfl := Jc hdec
    cases hkk : (kk == k2) && (kk == k3) with
    | false => simp [hkk] at he
    | true =>
     simp only [hkk, yt] at he
     simp only [jd, beq_iff_eq] at hkk
     obtain ⟨rfl, rfl⟩ := hkk
     obtain ⟨kt, et, hu, hk, hte⟩ := Tok.mp (hG.ty _ _ hty)
     obtain ⟨r, es, clk, hσ, hh, hF, hz, hen⟩ := h.hp id _ hid
     have hmv := (Zk.1 (h.ev hm)).2 _ hid rfl
     rw [hσ] at hmv
     have hxv := Fd.1 (h.ev hx)
     obtain ⟨cv, g1, g2⟩ := Vu (P := P) hu (Tok.i hk) hte hh (O := OO O0 s φ) (xs := xs) ⟨hz, hen⟩ n ok
     refine ZA h g1 ?_ he
     simp [execOp, ho, hmv, hxv, g2]
   ·simp at he
  ·rename_i k3 e xs hid
   split at he
   ·rename_i hdec
    obtain rfl := Jc hdec
    cases hkk : (kk == k2) && (kk == k3) with
    | false => simp [hkk] at he
    | true =>
     simp only [hkk, yt] at he
     simp only [jd, beq_iff_eq] at hkk
     obtain ⟨rfl, rfl⟩ := hkk
     obtain ⟨kt, et, hu, hk, hte⟩ := Tok.mp (hG.ty _ _ hty)
     obtain ⟨r, es, clk, Gs, hσ, hh, hz, hGl, hGn, hGo, hen⟩ := h.shr id _ _ _ hid
     have hmv := (Zk.1 (h.ev hm)).2 _ hid rfl
     rw [hσ] at hmv
     have hxv := Fd.1 (h.ev hx)
     obtain ⟨cv, g1, g2⟩ := Vu (P := P) hu (Tok.i hk) hte hh (O := OO O0 s φ) (τ := .sl e) (xs := xs) (DQ hz (fun b hb => (hGo b hb).2) hen) n ok
     refine ZA h g1 ?_ he
     simp [execOp, ho, hmv, hxv, g2]
   ·simp at he
  ·rename_i k3 e xs hid
   split at he
   ·rename_i hdec
    obtain rfl := Jc hdec
    cases hkk : (kk == k2) && ((kk == k3) && (ok && Nx G o.dst)) && s.newOk (100000 + 64 * o.dst.getD 0) with
    | false => simp [hkk] at he
    | true =>
     simp only [hkk, yt] at he
     simp only [jd, beq_iff_eq] at hkk
     obtain ⟨⟨rfl, rfl, rfl, _⟩, hnew⟩ := hkk
     generalize 100000 + 64 * o.dst.getD 0 = j at he hnew
     obtain ⟨kt, et, hu, hk, hte⟩ := Tok.mp (hG.ty _ _ hty)
     have hown : Eb w (.mp (.i kk) (.sl e)) xs [σ id] (φ id) := h.hp id _ hid
     have hnd := h.nodup id _ hid
     have hmv := (Zk.1 (h.ev hm)).2 _ hid rfl
     have hxv := Fd.1 (h.ev hx)
     obtain ⟨v1, F, h1, h2, h3, h4⟩ := YW (P := P) hu (Tok.i hk) hte hown n
     have hFn : F.Nodup := h3.nodup hnd
     have hc := h.absorb (w' := w) hnew [id] (by intro j' hj'; simp only [qa] at hj'; subst hj'; exact ⟨_, hid⟩) (.row e true ((Rg xs n).getD [])) v1 F (jo _) (fun _ _ _ => rfl) rfl rfl rfl hFn
      (fun b hb => .inr ⟨id, by simp, h3.subset hb⟩)
      (by
       intro hp' σ' O' hσ' _
       simp only [Yb]
       rw [hσ']
       exact h2)
     refine Ab (w' := w) (v := .tuple #[v1, .bool (Rg xs n).isSome]) ?_ (Wc (upd := [(j, some (.row e true ((Rg xs n).getD []))), (id, none)]) rfl hc ?_ he)
     ·simp [execOp, ho, hmv, hxv, h1]
     ·refine ⟨_, rfl, ?_, ?_, trivial⟩
      ·exact ⟨v1, rfl, h4, fun Aa r hb hr => by
        rw [Yc]⟩
      ·simp [Id, D.isAgg, Pa, Ha]
   ·simp at he
  ·simp at he
 ·rename_i kk τ k3 τ3 xs k2 n hty hm hx
  split at he
  ·rename_i hdec
   obtain rfl := Jc hdec
   cases hkk : (kk == k2) && (kk == k3) with
   | false => simp [hkk] at he
   | true =>
    simp only [hkk, yt] at he
    simp only [jd, beq_iff_eq] at hkk
    obtain ⟨rfl, rfl⟩ := hkk
    obtain ⟨kt, et, hu, hk, hte⟩ := Tok.mp (hG.ty _ _ hty)
    have hxv := Fd.1 (h.ev hx)
    have hmv : Ha w (OO O0 s φ) (.mp (.i kk) τ) xs [a.eval m] := by
     have := h.ev hm
     simpa [Cc, Id, D.isAgg, Pa] using this
    obtain ⟨hc, hxs⟩ | ⟨r, es, clk, hc, hO, hh, hz, hen⟩ := hmv
    ·simp only [q9, and_true] at hc
     have hxs' : xs = ([] : List (Int × T τ)) := hxs
     refine ZA h (cv := τ.zc) ?_ ?_ he
     ·rw [hxs']; exact (TH w τ).view (by simp)
     ·rw [hxs']
      simp [execOp, ho, hc, hxv, Zz (P := P) (w := w) hu (Tok.i hk) hte n ok, Rg]
    ·simp only [q9, and_true] at hc
     obtain ⟨cv, g1, g2⟩ := Vu (P := P) hu (Tok.i hk) hte hh (O := OO O0 s φ) (xs := xs) ⟨hz, hen⟩ n ok
     refine ZA h g1 ?_ he
     simp [execOp, ho, hc, hxv, g2]
  ·simp at he
 ·simp at he
theorem JR (hG : Oh P A.I G) (hfz : Cx G A O0) (h : La n0 A O0 w0 s σ φ a w) (he : OC G s o k = some out) : o.wp P a w (Hd n0 A O0 w0 k out) Q := by
 have hT := hG.toEnvTy
 unfold OC at he
 cases hb : Zt o.op with
 | false => rw [hb] at he; exact G9 hG hfz h he
 | true =>
  rw [hb] at he
  simp only [yt] at he
  cases ho : o.op with
  | makeMap t r => exact XW h ho he
  | lookup t m x ok => exact VZ hT h ho he
  | mapUpdate t m x v =>
   simp only [Og, ho] at he
   cases hka : s.kAgg x with
   | true => rw [hka] at he; simp only [yt] at he; exact DJ hT hfz h (.inl ho) he
   | false =>
   rw [hka] at he
   simp only [yu] at he
   cases hq : s.isMq m with
   | true => rw [hq] at he; exact CJ hT hfz h (.inl ho) he
   | false => rw [hq] at he; exact RL hT h (.inl ho) he
  | insert t m x v =>
   simp only [Og, ho] at he
   cases hka : s.kAgg x with
   | true => rw [hka] at he; simp only [yt] at he; exact DJ hT hfz h (.inr ho) he
   | false =>
   rw [hka] at he
   simp only [yu] at he
   cases hq : s.isMq m with
   | true => rw [hq] at he; exact CJ hT hfz h (.inr ho) he
   | false => rw [hq] at he; exact RL hT h (.inr ho) he
  | _ => simp [Zt, ho] at hb
end
def Kh (dst : Option Tmp) (id : Nat) : Prop := dst = some id ∨ (100000 + 64 * dst.getD 0 ≤ id ∧ id < 100064 + 64 * dst.getD 0)
def Da.kind : Da → Option Ty × Option (Ty × Nat)
 | .box ρ _ => (some ρ, none)
 | .row e _ xs => (none, some (e, ja xs))
 | .hol e xs _ _ _ _ _ => (none, some (e, ja xs))
 | .mov e xs _ => (none, some (e, ja xs))
 | .mp _ _ _ => (none, none)
 | .mq _ _ _ => (none, none)
 | .mx _ _ _ => (none, none)
 | .fz e xs => (none, some (e, ja xs))
theorem Da.kind_rowN {b : Da} : b.rowN = b.kind.2 := by cases b <;> rfl
theorem kind_rowN {a b : Option Da} (h : a.map Da.kind = b.map Da.kind) : a.bind Da.rowN = b.bind Da.rowN := by
 cases a <;> cases b <;> simp at h ⊢
 rw [Da.kind_rowN, Da.kind_rowN, h]
theorem KP {a b : Option Da} (h : a.map Da.kind = b.map Da.kind) : ∀ ρ, (∃ d, a = some (.box ρ d)) ↔ ∃ d, b = some (.box ρ d) := by
 intro ρ
 cases a with
 | none => cases b with
  | none => simp
  | some b => simp at h
 | some a => cases b with
  | none => simp at h
  | some b =>
   simp only [j9, jc] at h
   cases a <;> cases b <;> simp [Da.kind] at h ⊢
   rw [h]
structure YK (s s' : AS) (o : Oper) : Prop where
 ev : ∀ x, x ∈ Tb o.op → s'.ev x = s.ev x
 hp : Ft o.op = false → Hf o.op = false → ∀ x, x ∈ Tb o.op → ∀ d, s.ev x = some d → ∀ id, d.ment id = true → s'.heap id = s.heap id
 sh : Hf o.op = true → ∀ x, x ∈ Tb o.op → ∀ d, s.ev x = some d → ∀ id, d.ment id = true → (s'.heap id).map Da.kind = (s.heap id).map Da.kind
 nw : ∀ id, Kh o.dst id → s'.newOk id = s.newOk id
 bx : Su o.op = true → Hf o.op = false → ∀ x, x ∈ Tb o.op → ∀ bid p, s.ev x = some (.ptr bid p) → ∀ ρ d, s.heap bid = some (.box ρ d) → ∀ id, d.ment id = true → s'.heap id = s.heap id
def Tf (s s' : AS) (d : D) : Prop := ∀ id, d.ment id = true → s'.heap id = s.heap id
section
variable {s s' : AS} {G : Gd} {o : Oper} {Out : Type}
theorem Tf.left {a b : D} (h : Tf s s' (.pr a b)) : Tf s s' a := fun id hi => h id (by simp [D.ment, hi])
theorem Tf.right {a b : D} (h : Tf s s' (.pr a b)) : Tf s s' b := fun id hi => h id (by simp [D.ment, hi])
theorem Tf.mpo {id : Nat} (h : Tf s s' (.mpo id)) : s'.heap id = s.heap id := h id (by simp [D.ment])
theorem Tf.own {id : Nat} (h : Tf s s' (.own id)) : s'.heap id = s.heap id := h id (by simp [D.ment])
theorem Tf.cut {id lo hi : Nat} (h : Tf s s' (.cut id lo hi)) : s'.heap id = s.heap id := h id (by simp [D.ment])
theorem Tf.ptr {id : Nat} {p : List Nat} (h : Tf s s' (.ptr id p)) : s'.heap id = s.heap id := h id (by simp [D.ment])
theorem Tf.eptr {id i : Nat} {p : List Nat} (h : Tf s s' (.eptr id i p)) : s'.heap id = s.heap id := h id (by simp [D.ment])
theorem Fo : ∀ {d : D} {τ : Ty}, Tf s s' d → Ma s' d τ = Ma s d τ := by
 intro d
 induction d with
 | pr a b iha ihb =>
  intro τ h
  cases τ with
  | p x y => simp only [Ma, iha h.left, ihb h.right]
  | _ => rfl
 | own id => intro τ h; cases τ <;> simp [Ma, h.own]
 | cut id lo hi => intro τ h; cases τ <;> simp [Ma, h.cut]
 | _ => intro τ h; cases τ <;> rfl
theorem Ym : ∀ {d : D} {τ : Ty}, Tf s s' d → Bb s' d τ = Bb s d τ := by
 intro d
 induction d with
 | pr a b iha ihb =>
  intro τ h
  cases τ with
  | p x y => simp only [Bb, iha h.left, ihb h.right]
  | _ => rfl
 | own id => intro τ h; cases τ <;> simp [Bb, h.own]
 | mpo id => intro τ h; cases τ <;> simp [Bb, h.mpo]
 | _ => intro τ h; cases τ <;> rfl
theorem Xp : ∀ {l : List Operand}, (∀ x, x ∈ l → s'.ev x = s.ev x) → Cj s' l = Cj s l
 | [], _ => rfl
 | x :: r, h => by simp only [Cj, h x (by simp), Xp fun y hy => h y (jr _ hy)]
theorem Jx : ∀ {l : List Operand} {d : D}, Cj s l = some d → (∀ x, x ∈ l → ∀ d, s.ev x = some d → Tf s s' d) → Tf s s' d
 | [], d, h, _ => by
  simp only [Cj, jc] at h
  subst h
  intro id hi; simp [D.ment] at hi
 | x :: r, d, h, ha => by
  simp only [Cj] at h
  split at h
  ·rename_i d1 d2 h1 h2
   simp only [jc] at h
   subst h
   intro id hi
   simp only [D.ment, qr] at hi
   rcases hi with hi | hi
   ·exact ha x (by simp) d1 h1 id hi
   ·exact Jx h2 (fun y hy => ha y (jr _ hy)) id hi
  ·simp at h
theorem UF {τ : Ty} : ∀ {ps : List (Nat × Operand)} {d : D}, (∀ x, x ∈ ps.map (·.2) → s'.ev x = s.ev x) → Dy s' τ d ps = Dy s τ d ps
 | [], _, _ => rfl
 | (i, x) :: r, d, h => by
  simp only [Dy, h x (by simp)]
  split
  ·rename_i e τ' _ _
   cases Wb τ' e with
   | false => rfl
   | true =>
    simp only [yt]
    split
    ·exact UF fun y hy => h y (jr _ hy)
    ·rfl
  ·rfl
theorem WI {e : Ty} : ∀ {ps : List (Nat × Operand)} {n : Nat}, (∀ x, x ∈ ps.map (·.2) → s'.ev x = s.ev x) → (∀ x, x ∈ ps.map (·.2) → ∀ d, s.ev x = some d → Tf s s' d) → LD s' e n ps = LD s e n ps
 | [], _, _, _ => rfl
 | (i, x) :: r, n, h, ha => by
  have ih := WI (e := e) (ps := r) (n := n + 1) (fun y hy => h y (jr _ hy)) (fun y hy => ha y (jr _ hy))
  simp only [LD, h x (by simp)]
  cases qq i n with
  | false => rfl
  | true =>
   simp only [yt]
   cases hx : s.ev x with
   | none => rfl
   | some d => simp only [Ym (ha x (by simp) d hx), ih]
theorem ZF {e : Ty} : ∀ {ps : List (Nat × Operand)} {n : Nat}, (∀ x, x ∈ ps.map (·.2) → s'.ev x = s.ev x) → Ly s' e n ps = Ly s e n ps
 | [], _, _ => rfl
 | (i, x) :: r, n, h => by
  have ih := ZF (e := e) (ps := r) (n := n + 1) (fun y hy => h y (jr _ hy))
  simp only [Ly, h x (by simp), ih]
theorem OZ {x : Option Operand} (h : ∀ y, x = some y → s'.ev y = s.ev y) : Wz s' x = Wz s x := by
 cases x with
 | none => rfl
 | some y => simp only [Wz, h y rfl]
theorem PY {x : Option Operand} {n : Nat} (h : ∀ y, x = some y → s'.ev y = s.ev y) : ZC s' n x = ZC s n x := by
 cases x with
 | none => rfl
 | some y => simp only [ZC, h y rfl]
theorem UB {e : Ty} {d : D} (h : Tf s s' d) : Vx s' e d = Vx s e d := by
 cases d with
 | own id => simp only [Vx, h.own]
 | cut id lo hi => simp only [Vx, h.cut]
 | t τ x => cases τ <;> rfl
 | _ => rfl
theorem FW {e : Ty} {d : D} (h : Tf s s' d) : QG s' e d = QG s e d := by
 cases d with
 | own id => simp only [QG, h.own]
 | cut id lo hi => simp only [QG, h.cut]
 | _ => rfl
theorem Pu {u : List (Nat × Option Da)} (h : ∀ p, p ∈ u → s'.newOk p.1 = s.newOk p.1) : Rc s' u = Rc s u := by
 unfold Rc
 congr 1
 induction u with
 | nil => rfl
 | cons p u ih => simp only [List.all_cons, h p (by simp), ih fun q hq => h q (jr _ hq)]
theorem Xv : ∀ {τ : Ty} {x : T τ} {n m : Nat} {d : D} {l : List (Nat × Option Da)}, Ad τ x n = (d, l, m) → n ≤ m ∧ ∀ p, p ∈ l → n ≤ p.1 ∧ p.1 < m
 | .i k, x, n, m, d, l, he => by simp only [Ad, jh] at he; obtain ⟨rfl, rfl, rfl⟩ := he; simp
 | .b, x, n, m, d, l, he => by simp only [Ad, jh] at he; obtain ⟨rfl, rfl, rfl⟩ := he; simp
 | .o, x, n, m, d, l, he => by simp only [Ad, jh] at he; obtain ⟨rfl, rfl, rfl⟩ := he; simp
 | .mp _ _, x, n, m, d, l, he => by simp only [Ad, jh] at he; obtain ⟨rfl, rfl, rfl⟩ := he; simp
 | .s, x, n, m, d, l, he => by simp only [Ad, jh] at he; obtain ⟨rfl, rfl, rfl⟩ := he; simp
 | .u, x, n, m, d, l, he => by simp only [Ad, jh] at he; obtain ⟨rfl, rfl, rfl⟩ := he; simp
 | .sl e, x, n, m, d, l, he => by simp only [Ad, jh] at he; obtain ⟨rfl, rfl, rfl⟩ := he; simp
 | .p t1 t2, x, n, m, d, l, he => by
  simp only [Ad] at he
  rcases ho1 : Ad t1 x.1 n with ⟨d1, l1, m1⟩
  rcases ho2 : Ad t2 x.2 m1 with ⟨d2, l2, m2⟩
  rw [ho1] at he
  simp only at he
  rw [ho2] at he
  simp only [jh] at he
  obtain ⟨rfl, rfl, rfl⟩ := he
  have a := Xv ho1
  have b := Xv ho2
  refine ⟨by omega, fun p hp => ?_⟩
  rcases jl.1 hp with hp | hp
  ·have := a.2 p hp; omega
  ·have := b.2 p hp; omega
theorem SD : ∀ {rt : Ty} {r : T rt} {fr : List Bool} {n m : Nat} {d : D} {l : List (Nat × Option Da)}, De rt r fr n = some (d, l, m) → n ≤ m ∧ ∀ p, p ∈ l → n ≤ p.1 ∧ p.1 < m
 | .u, r, [], n, m, d, l, he => by simp only [De, jc, jh] at he; obtain ⟨rfl, rfl, rfl⟩ := he; simp
 | .p t1 t2, r, f :: fr, n, m, d, l, he => by
  simp only [De] at he
  rcases ho1 : (bif f then Ad t1 r.1 n else (.t t1 r.1, [], n)) with ⟨d1, l1, m1⟩
  rw [ho1] at he
  simp only at he
  split at he
  ·rename_i d2 l2 m2 ho2
   simp only [jc, jh] at he
   obtain ⟨rfl, rfl, rfl⟩ := he
   have b := SD ho2
   have a : n ≤ m1 ∧ ∀ p, p ∈ l1 → n ≤ p.1 ∧ p.1 < m1 := by
    cases f with
    | true => exact Xv (by simpa using ho1)
    | false =>
     simp only [yu, jh] at ho1
     obtain ⟨rfl, rfl, rfl⟩ := ho1
     simp
   refine ⟨by omega, fun p hp => ?_⟩
   rcases jl.1 hp with hp | hp
   ·have := a.2 p hp; omega
   ·have := b.2 p hp; omega
  ·simp at he
 | .u, _, _ :: _, _, _, _, _, he => by simp [De] at he
 | .p _ _, _, [], _, _, _, _, he => by simp [De] at he
 | .i _, _, fr, _, _, _, _, he => by cases fr <;> simp [De] at he
 | .b, _, fr, _, _, _, _, he => by cases fr <;> simp [De] at he
 | .o, _, fr, _, _, _, _, he => by cases fr <;> simp [De] at he
 | .mp _ _, _, fr, _, _, _, _, he => by cases fr <;> simp [De] at he
 | .s, _, fr, _, _, _, _, he => by cases fr <;> simp [De] at he
 | .sl _, _, fr, _, _, _, _, he => by cases fr <;> simp [De] at he
theorem YA {dst : Option Tmp} {u : List (Nat × Option Da)} {rt : Ty} {r : T rt} {fr : List Bool} {m : Nat} {d : D} (hop : De rt r fr (100000 + 64 * dst.getD 0) = some (d, u, m)) (hn : ∀ id, Kh dst id → s'.newOk id = s.newOk id) :
 (jx m (100064 + 64 * dst.getD 0) && Rc s' u) = (jx m (100064 + 64 * dst.getD 0) && Rc s u) := by
 cases hb : jx m (100064 + 64 * dst.getD 0) with
 | false => rfl
 | true =>
  have hle := qu hb
  rw [jk, jk]
  refine Pu fun p hp => hn p.1 (.inr ?_)
  have := (SD hop).2 p hp
  exact ⟨this.1, by omega⟩
theorem YQ {dst : Option Tmp} {vw : Bool} {τ : Ty} {y : T τ} {u v : List (Nat × Option Da)} {rt : Ty} {r : T rt} {fr : List Bool} {m m' : Nat} {d e : D} (hop : De rt r fr (100000 + 64 * dst.getD 0) = some (d, u, m))
 (hev : (bif vw then (D.t τ y, [], m) else Ad τ y m) = (e, v, m')) (hn : ∀ id, Kh dst id → s'.newOk id = s.newOk id) :
 (jx m' (100064 + 64 * dst.getD 0) && Rc s' (u ++ v)) = (jx m' (100064 + 64 * dst.getD 0) && Rc s (u ++ v)) := by
 cases hb : jx m' (100064 + 64 * dst.getD 0) with
 | false => rfl
 | true =>
  have hle := qu hb
  rw [jk, jk]
  refine Pu fun p hp => hn p.1 (.inr ?_)
  have h1 := SD hop
  have h2 : m ≤ m' ∧ ∀ p, p ∈ v → m ≤ p.1 ∧ p.1 < m' := by
   cases vw with
   | true =>
    simp only [yt, jh] at hev
    obtain ⟨_, rfl, rfl⟩ := hev
    exact ⟨jo _, by simp⟩
   | false =>
    simp only [yu] at hev
    exact Xv hev
  rcases jl.1 hp with hp | hp
  ·have := h1.2 p hp; have h3 := h2.1; exact ⟨this.1, by omega⟩
  ·have h4 := h2.2 p hp; have h3 := h1.1; exact ⟨j8 h3 h4.1, by omega⟩
theorem MI {dst : Option Tmp} (hn : ∀ id, Kh dst id → s'.newOk id = s.newOk id) (τ : Ty) (y : T τ) :
 (jx (Ad τ y (100000 + 64 * dst.getD 0)).2.2 (100064 + 64 * dst.getD 0) && Rc s' (Ad τ y (100000 + 64 * dst.getD 0)).2.1) =
  (jx (Ad τ y (100000 + 64 * dst.getD 0)).2.2 (100064 + 64 * dst.getD 0) && Rc s (Ad τ y (100000 + 64 * dst.getD 0)).2.1) := by
 cases hb : jx (Ad τ y (100000 + 64 * dst.getD 0)).2.2 (100064 + 64 * dst.getD 0) with
 | false => rfl
 | true =>
  have hle := qu hb
  rw [jk, jk]
  refine Pu fun p hp => hn p.1 (.inr ?_)
  have := (Xv (τ := τ) (x := y) rfl).2 p hp
  exact ⟨this.1, Nat.lt_of_lt_of_le this.2 hle⟩
theorem GO {dst : Option Tmp} {τ : Ty} {id i : Nat} {e : Ty} {xs : List (T e)} {k : Nat} {K : D → List (Nat × Option Da) → Option Out} (hn : ∀ id, Kh dst id → s'.newOk id = s.newOk id) :
 Nn s' dst τ id i e xs k K = Nn s dst τ id i e xs k K := by
 unfold Nn
 simp only [MI hn]
theorem L1 {d e : D} {id : Nat} (h : d.fst = some e) (hm : e.ment id = true) : d.ment id = true := by
 cases d with
 | t τ x => cases τ <;> simp [D.fst] at h; subst h; simp [D.ment] at hm
 | pr a b => simp only [D.fst, jc] at h; subst h; simp [D.ment, hm]
 | _ => simp [D.fst] at h
theorem Z2 {d e : D} {id : Nat} (h : d.snd = some e) (hm : e.ment id = true) : d.ment id = true := by
 cases d with
 | t τ x => cases τ <;> simp [D.snd] at h; subst h; simp [D.ment] at hm
 | pr a b => simp only [D.snd, jc] at h; subst h; simp [D.ment, hm]
 | _ => simp [D.snd] at h
theorem JI : ∀ {n : Nat} {d e : D} {id : Nat}, d.field n = some e → e.ment id = true → d.ment id = true
 | 0, d, e, id, h, hm => L1 (by simpa [D.field] using h) hm
 | n + 1, d, e, id, h, hm => by
  simp only [D.field] at h
  split at h
  ·rename_i y hy
   exact Z2 hy (JI h hm)
  ·simp at h
theorem BO {dst : Option Tmp} {f : FuncId} {args : List Operand} {K : D → List (Nat × Option Da) → Option Out} (hev : ∀ x, x ∈ args → s'.ev x = s.ev x) (hag : ∀ x, x ∈ args → ∀ d, s.ev x = some d → Tf s s' d)
 (hn : ∀ id, Kh dst id → s'.newOk id = s.newOk id) (hbx : ∀ x, x ∈ args → ∀ bid p, s.ev x = some (.ptr bid p) → ∀ ρ d, s.heap bid = some (.box ρ d) → Tf s s' d) : Rv G s' dst f args K = Rv G s dst f args K := by
 unfold Rv
 split
 ·rename_i pt rt fr F _
  rw [Xp hev]
  cases hds : Cj s args with
  | none => rfl
  | some ds =>
   simp only []
   rw [Fo (Jx hds hag)]
   cases Ma s ds pt with
   | none => rfl
   | some x =>
    simp only []
    congr 1
    funext r
    cases hop : De rt r fr (100000 + 64 * dst.getD 0) with
    | none => rfl
    | some t =>
     obtain ⟨d, u, m⟩ := t
     simp only []
     cases Sx d with
     | none => rfl
     | some d' => simp only [YA hop hn]
 ·rename_i τ pt rt fr F _
  cases args with
  | nil => rfl
  | cons a0 args =>
   simp only []
   rw [hev a0 (by simp), Xp fun x hx => hev x (jr _ hx)]
   cases h0 : s.ev a0 with
   | none => rfl
   | some d0 =>
    cases hds : Cj s args with
    | none => rfl
    | some ds =>
     simp only []
     rw [Ym (hag a0 (by simp) d0 h0), Fo (Jx hds fun x hx => hag x (jr _ hx))]
     cases Bb s d0 τ with
     | none => rfl
     | some xl =>
      obtain ⟨x0, l⟩ := xl
      cases Ma s ds pt with
      | none => rfl
      | some x =>
       simp only []
       congr 1
       funext r
       cases hop : De rt r.2 fr (100000 + 64 * dst.getD 0) with
       | none => rfl
       | some t =>
        obtain ⟨d, u, m⟩ := t
        simp only []
        cases Sx d with
        | none => rfl
        | some d' => simp only [YA hop hn]
 ·rename_i pt rt fr F _
  rw [Xp hev]
  cases hds : Cj s args with
  | none => rfl
  | some ds =>
   simp only []
   rw [Ym (Jx hds hag)]
   cases Bb s ds pt with
   | none => rfl
   | some xl =>
    simp only []
    congr 1
    funext r
    cases hop : De rt r fr (100000 + 64 * dst.getD 0) with
    | none => rfl
    | some t =>
     obtain ⟨d, u, m⟩ := t
     simp only []
     cases Sx d with
     | none => rfl
     | some d' => simp only [YA hop hn]
 ·rename_i vw cv τ pt rt fr F _
  cases args with
  | nil => rfl
  | cons a0 args =>
   simp only []
   rw [hev a0 (by simp), Xp fun x hx => hev x (jr _ hx)]
   cases h0 : s.ev a0 with
   | none => rfl
   | some d0 =>
    cases hds : Cj s args with
    | none =>
     cases d0 with
     | ptr bid path => cases path <;> rfl
     | _ => rfl
    | some ds =>
     cases d0 with
     | ptr bid path =>
      cases path with
      | cons _ _ => rfl
      | nil =>
       simp only []
       rw [(hag a0 (by simp) _ h0).ptr]
       cases hb : s.heap bid with
       | none => rfl
       | some Aa =>
        cases Aa with
        | box τ' d1 =>
         simp only []
         rw [Ym (hbx a0 (by simp) bid [] h0 τ' d1 hb), Ym (Jx hds fun x hx => hag x (jr _ hx)), Fo (Jx hds fun x hx => hag x (jr _ hx))]
         split
         ·rename_i x0 l x l2 _ _ _
          congr 1
          funext r
          cases hop : De rt r.2 fr (100000 + 64 * dst.getD 0) with
          | none => rfl
          | some t =>
           obtain ⟨d, u, m⟩ := t
           simp only []
           cases Sx d with
           | none => rfl
           | some d' =>
            rcases hev2 : (bif vw then (D.t τ r.1, [], m) else Ad τ r.1 m) with ⟨e, v, m'⟩
            simp only [YQ hop hev2 hn]
         ·rfl
        | _ => rfl
     | _ => rfl
 ·rename_i pt τ F _
  rw [Xp hev]
  cases dst with
  | none => rfl
  | some tt =>
   cases hds : Cj s args with
   | none => rfl
   | some ds =>
    simp only []
    rw [Fo (Jx hds hag), hn tt (.inl rfl)]
 ·rename_i τ κ ε pt rt F _
  cases args with
  | nil => rfl
  | cons a0 args =>
   simp only []
   rw [hev a0 (by simp), Xp fun x hx => hev x (jr _ hx)]
   cases h0 : s.ev a0 with
   | none => rfl
   | some d0 =>
    cases hds : Cj s args with
    | none =>
     cases d0 with
     | ptr bid path => cases path <;> rfl
     | _ => rfl
    | some ds =>
     cases d0 with
     | ptr bid path =>
      cases path with
      | cons _ _ => rfl
      | nil =>
       simp only []
       rw [(hag a0 (by simp) _ h0).ptr]
       cases hb : s.heap bid with
       | none => rfl
       | some Aa =>
        cases Aa with
        | box ρ d1 =>
         simp only []
         split
         ·rename_i q d2 id x _ _ hf1 _
          rw [hbx a0 (by simp) bid [] h0 ρ d1 hb id (JI hf1 (by simp [D.ment]))]
         ·rfl
        | _ => rfl
     | _ => rfl
 ·rfl
theorem TJ {dst : Option Tmp} {t tx : TypeId} {x y : Operand} {K : D → List (Nat × Option Da) → Option Out} (hx : s'.ev x = s.ev x) (hy : s'.ev y = s.ev y)
 (ax : ∀ d, s.ev x = some d → Tf s s' d) (ay : ∀ d, s.ev y = some d → Tf s s' d) (hn : ∀ id, Kh dst id → s'.newOk id = s.newOk id) : Qp G s' dst t tx x y K = Qp G s dst t tx x y K := by
 unfold Qp
 rw [hx, hy]
 split
 ·rename_i tt e da db _ h2 h3
  rw [FW (ax _ h2), UB (ay _ h3), hn tt (.inl rfl)]
 ·rfl
theorem AI {dst : Option Tmp} {t tx : TypeId} {x y : Operand} {K : D → List (Nat × Option Da) → Option Out} (hx : s'.ev x = s.ev x) (hy : s'.ev y = s.ev y)
 (ax : ∀ d, s.ev x = some d → Tf s s' d) (ay : ∀ d, s.ev y = some d → Tf s s' d) : Hm G s' dst t tx x y K = Hm G s dst t tx x y K := by
 unfold Hm
 rw [hx, hy]
 split
 ·rename_i tt e id db _ h2 h3
  rw [(ax _ h2).own, UB (ay _ h3)]
 ·rfl
theorem SQ {dst : Option Tmp} {t tx : TypeId} {x y : Operand} {K : D → List (Nat × Option Da) → Option Out} (hx : s'.ev x = s.ev x) (hy : s'.ev y = s.ev y)
 (ax : ∀ d, s.ev x = some d → Tf s s' d) (ay : ∀ d, s.ev y = some d → Tf s s' d) (hn : ∀ id, Kh dst id → s'.newOk id = s.newOk id) : Sw G s' dst t tx x y K = Sw G s dst t tx x y K := by
 unfold Sw
 rw [TJ hx hy ax ay hn, AI hx hy ax ay]
theorem CO {t tx : TypeId} {x y : Operand} {K : D → List (Nat × Option Da) → Option Out} (hx : s'.ev x = s.ev x) (hy : s'.ev y = s.ev y)
 (ax : ∀ d, s.ev x = some d → Tf s s' d) (ay : ∀ d, s.ev y = some d → Tf s s' d) : Sv G s' t tx x y K = Sv G s t tx x y K := by
 unfold Sv
 rw [hx, hy]
 split
 ·rename_i e id db _ h2 h3
  rw [ax _ h2 id (by simp [D.ment])]
  split
  ·rw [UB (ay _ h3)]
  ·rfl
 ·rfl
theorem VV {K : D → List (Nat × Option Da) → Option Out} (h : YK s s' o) : Jb G s' o K = Jb G s o K := by
 obtain ⟨hev, hag, hsh, hn, hbx⟩ := h
 cases hmv : Ft o.op with
 | true =>
  cases ho : o.op with
  | move x => rw [ho] at hev; simp only [Jb, ho, hev x (by simp [Tb])]
  | assign x => rw [ho] at hev; simp only [Jb, ho, hev x (by simp [Tb])]
  | _ => rw [ho] at hmv; simp [Ft] at hmv
 | false =>
 cases hsp : Hf o.op with
 | true =>
  have hk := hsh hsp
  clear hag hn hbx hsh
  cases ho : o.op with
  | nilCheck x =>
   rw [ho] at hev hk
   simp only [Jb, ho, hev x (by simp [Tb])]
   split
   ·rename_i id p hx
    have h1 := KP (hk x (by simp [Tb]) _ hx id (by simp [D.ment]))
    split
    ·rename_i ρ d hb
     obtain ⟨d', hd'⟩ := (h1 ρ).1 ⟨d, hb⟩
     simp only [hd']
    ·rename_i hne
     split
     ·rename_i ρ d hb
      obtain ⟨d', hd'⟩ := (h1 ρ).2 ⟨d, hb⟩
      exact absurd hd' (hne ρ d')
     ·rfl
   ·rfl
   ·rename_i id i p hx
    rw [kind_rowN (hk x (by simp [Tb]) _ hx id (by simp [D.ment]))]
   ·rfl
  | fieldAddr t x f =>
   rw [ho] at hev hk
   simp only [Jb, ho, hev x (by simp [Tb])]
   split
   ·rename_i τ id path hτ hx
    have h1 := KP (hk x (by simp [Tb]) _ hx id (by simp [D.ment]))
    split
    ·rename_i ρ d hb
     obtain ⟨d', hd'⟩ := (h1 ρ).1 ⟨d, hb⟩
     simp only [hd']
    ·rename_i hne
     split
     ·rename_i ρ d hb
      obtain ⟨d', hd'⟩ := (h1 ρ).2 ⟨d, hb⟩
      exact absurd hd' (hne ρ d')
     ·rfl
   ·rename_i τ id i path hτ hx
    rw [kind_rowN (hk x (by simp [Tb]) _ hx id (by simp [D.ment]))]
   ·rfl
   ·rfl
  | indexAddr t x i =>
   rw [ho] at hev hk
   simp only [Jb, ho, hev x (by simp [Tb]), hev i (by simp [Tb])]
   split
   ·rfl
   ·rename_i hx _; rw [kind_rowN (hk x (by simp [Tb]) _ hx _ (by simp [D.ment]))]
   ·rename_i hx _; rw [kind_rowN (hk x (by simp [Tb]) _ hx _ (by simp [D.ment]))]
   ·rename_i hx _; rw [kind_rowN (hk x (by simp [Tb]) _ hx _ (by simp [D.ment]))]
   ·rfl
  | call c =>
   obtain ⟨callee, args, ts⟩ := c
   rw [ho] at hev hk hsp
   simp only [Tb] at hev hk
   cases callee with
   | builtin b =>
    cases b with
    | len =>
     simp only [Jb, ho]
     split
     ·rename_i x t hx _
      rw [hev x (by rw [hx]; simp)]
      split
      ·rfl
      ·rfl
      ·rfl
      ·rename_i hd; rw [kind_rowN (hk x (by rw [hx]; simp) _ hd _ (by simp [D.ment]))]
      ·rename_i hd; rw [kind_rowN (hk x (by rw [hx]; simp) _ hd _ (by simp [D.ment]))]
      ·rfl
     ·rfl
    | _ => simp [Hf] at hsp
   | _ => simp [Hf] at hsp
  | _ => rw [ho] at hsp; simp [Hf] at hsp
 | false =>
 have hag' : ∀ x, x ∈ Tb o.op → ∀ d, s.ev x = some d → Tf s s' d := hag hmv hsp
 cases ho : o.op with
 | move x => rw [ho] at hev; simp only [Jb, ho, hev x (by simp [Tb])]
 | assign x => rw [ho] at hev; simp only [Jb, ho, hev x (by simp [Tb])]
 | pick c x y => rw [ho] at hev; simp only [Jb, ho, hev c (by simp [Tb]), hev x (by simp [Tb]), hev y (by simp [Tb])]
 | alloc t =>
  simp only [Jb, ho]
  split
  ·rename_i tt τ hd _; rw [hn tt (.inl hd)]
  ·rename_i tt hd _; rw [hn tt (.inl hd)]
  ·rfl
 | box t x =>
  rw [ho] at hev
  simp only [Jb, ho, hev x (by simp [Tb])]
  split
  ·rename_i tt τ d hd _ _; rw [hn tt (.inl hd)]
  ·rfl
 | build t ps =>
  rw [ho] at hev
  have := fun τ d => UF (s := s) (s' := s') (τ := τ) (ps := ps.toList) (d := d) hev
  simp only [Jb, ho, this]
 | buildSlice t n ps =>
  rw [ho] at hev hag'
  have h1 := fun e n => WI (s := s) (s' := s') (e := e) (ps := ps.toList) (n := n) hev hag'
  have h2 := fun e n => ZF (s := s) (s' := s') (e := e) (ps := ps.toList) (n := n) hev
  simp only [Jb, ho, h1, h2]
  split
  ·rename_i tt e hd _
   rw [hn tt (.inl hd)]
  ·rfl
 | load t x =>
  rw [ho] at hev hag'
  simp only [Jb, ho, hev x (by simp [Tb])]
  split
  ·rename_i hx; rw [(hag' x (by simp [Tb]) _ hx).ptr]
  ·rfl
  ·rename_i hx; rw [(hag' x (by simp [Tb]) _ hx).eptr]; simp only [MI hn, GO hn]
  ·rfl
 | store t x y =>
  rw [ho] at hev hag'
  simp only [Jb, ho, hev x (by simp [Tb]), hev y (by simp [Tb])]
  split
  ·rename_i hx _; rw [(hag' x (by simp [Tb]) _ hx).ptr]
  ·rename_i dv _ hx hy
   have := fun τ => Ym (τ := τ) (hag' y (by simp [Tb]) _ hy)
   simp only [(hag' x (by simp [Tb]) _ hx).eptr, this]
  ·rfl
 | nilCheck x => rw [ho] at hsp; simp [Hf] at hsp
 | binOp op t x y t' => rw [ho] at hev; simp only [Jb, ho, hev x (by simp [Tb]), hev y (by simp [Tb])]
 | unOp op t x => rw [ho] at hev; simp only [Jb, ho, hev x (by simp [Tb])]
 | convert src t x =>
  rw [ho] at hev hag'
  simp only [Jb, ho, hev x (by simp [Tb])]
  split
  ·rfl
  ·rfl
  ·rename_i hx; rw [Fo (hag' x (by simp [Tb]) _ hx)]
  ·rfl
  ·rfl
 | slice t x lo hi mx =>
  rw [ho] at hev hag'
  have h1 : Wz s' lo = Wz s lo := OZ fun y hy => hev y (by simp [Tb, hy])
  have h2 := fun n => PY (s := s) (s' := s') (x := hi) (n := n) fun y hy => hev y (by simp [Tb, hy])
  cases mx with
  | some m => simp only [Jb, ho]
  | none =>
   simp only [Jb, ho, hev x (by simp [Tb]), h1, h2]
   split
   ·rfl
   ·rfl
   ·rename_i hx
    unfold UE
    rw [(hag' x (by simp [Tb]) _ hx).own, h1]
    simp only [h2]
    split
    ·split
     ·split
      ·split
       ·rename_i tt hd; rw [hn tt (.inl hd)]
       ·rfl
      ·rfl
     ·rfl
    ·rfl
   ·simp only [h2]
   ·rename_i hx
    unfold Mz
    rw [(hag' x (by simp [Tb]) _ hx).cut, h1]
    simp only [h2]
   ·rfl
 | fieldAddr t x f => rw [ho] at hsp; simp [Hf] at hsp
 | field t x f => rw [ho] at hev; simp only [Jb, ho, hev x (by simp [Tb])]
 | indexAddr t x i => rw [ho] at hsp; simp [Hf] at hsp
 | index t x i => rw [ho] at hev; simp only [Jb, ho, hev x (by simp [Tb]), hev i (by simp [Tb])]
 | makeSlice t l c =>
  rw [ho] at hev
  simp only [Jb, ho, hev l (by simp [Tb]), hev c (by simp [Tb])]
  split
  ·rename_i hd _ _ _; rw [hn _ (.inl hd)]
  ·rfl
 | extract x n => rw [ho] at hev; simp only [Jb, ho, hev x (by simp [Tb])]
 | call c =>
  obtain ⟨callee, args, ts⟩ := c
  rw [ho] at hev hag'
  simp only [Tb] at hev hag'
  cases callee with
  | value f =>
   cases f with
   | func f => simp only [Jb, ho]; exact BO hev hag' hn (by rw [ho] at hbx; exact hbx rfl rfl)
   | _ => simp only [Jb, ho]
  | invoke r m => simp only [Jb, ho]
  | builtin b =>
   cases b with
   | len => rw [ho] at hsp; simp [Hf] at hsp
   | append =>
    simp only [Jb, ho]
    split
    ·rename_i x y t tx hx _
     exact SQ (hev x (by rw [hx]; simp)) (hev y (by rw [hx]; simp)) (hag' x (by rw [hx]; simp)) (hag' y (by rw [hx]; simp)) hn
    ·rfl
   | copy =>
    simp only [Jb, ho]
    split
    ·rename_i x y t tx hx _
     exact CO (hev x (by rw [hx]; simp)) (hev y (by rw [hx]; simp)) (hag' x (by rw [hx]; simp)) (hag' y (by rw [hx]; simp))
    ·rfl
   | max =>
    simp only [Jb, ho]
    split
    ·rename_i x y hx
     rw [hev x (by rw [hx]; simp), hev y (by rw [hx]; simp)]
    ·rfl
   | min =>
    simp only [Jb, ho]
    split
    ·rename_i x y hx
     rw [hev x (by rw [hx]; simp), hev y (by rw [hx]; simp)]
    ·rfl
   | _ => simp only [Jb, ho]
 | _ => simp only [Jb, ho]
theorem VJ {t : TypeId} {m x v : Operand} {K : D → List (Nat × Option Da) → Option Out} (hm : s'.ev m = s.ev m) (hx : s'.ev x = s.ev x) (hv : s'.ev v = s.ev v) (am : ∀ d, s.ev m = some d → Tf s s' d) (av : ∀ d, s.ev v = some d → Tf s s' d) : Ih G s' t m x v K = Ih G s t m x v K := by
 unfold Ih
 rw [hm, hx, hv]
 split
 ·rename_i h1 _ h3
  have := fun τ => Fo (τ := τ) (av _ h3)
  rw [(am _ h1).mpo]
  simp only [this]
 ·rfl
theorem GM {t : TypeId} {m x v : Operand} {K : D → List (Nat × Option Da) → Option Out} (hm : s'.ev m = s.ev m) (hx : s'.ev x = s.ev x) (hv : s'.ev v = s.ev v) (am : ∀ d, s.ev m = some d → Tf s s' d) : Hj G s' t m x v K = Hj G s t m x v K := by
 unfold Hj
 rw [hm, hx, hv]
 split
 ·rename_i h1 _ _; rw [(am _ h1).mpo]
 ·rfl
theorem UJ {t : TypeId} {m x v : Operand} {K : D → List (Nat × Option Da) → Option Out} (hm : s'.ev m = s.ev m) (hx : s'.ev x = s.ev x) (hv : s'.ev v = s.ev v) (am : ∀ d, s.ev m = some d → Tf s s' d) (av : ∀ d, s.ev v = some d → Tf s s' d) : Hh G s' t m x v K = Hh G s t m x v K := by
 unfold Hh
 rw [hm, hx, hv]
 split
 ·rename_i h1 _ h3; rw [(am _ h1).mpo, Ym (av _ h3)]
 ·rfl
theorem MW {m : Operand} (hm : s'.ev m = s.ev m) (am : ∀ d, s.ev m = some d → Tf s s' d) : s'.isMq m = s.isMq m := by
 unfold AS.isMq
 rw [hm]
 split
 ·rename_i h1; rw [(am _ h1).mpo]
 ·rfl
theorem Nz {t : TypeId} {m x v : Operand} {K : D → List (Nat × Option Da) → Option Out} (hm : s'.ev m = s.ev m) (hx : s'.ev x = s.ev x) (hv : s'.ev v = s.ev v) (am : ∀ d, s.ev m = some d → Tf s s' d) (av : ∀ d, s.ev v = some d → Tf s s' d) :
 (bif s'.kAgg x then Ih G s' t m x v K else bif s'.isMq m then Hh G s' t m x v K else Hj G s' t m x v K) = bif s.kAgg x then Ih G s t m x v K else bif s.isMq m then Hh G s t m x v K else Hj G s t m x v K := by
 have hk : s'.kAgg x = s.kAgg x := by unfold AS.kAgg; rw [hx]
 rw [hk, MW hm am, VJ hm hx hv am av, UJ hm hx hv am av, GM hm hx hv am]
theorem TQ {K : D → List (Nat × Option Da) → Option Out} (hb : Zt o.op = true) (h : YK s s' o) : Og G s' o K = Og G s o K := by
 obtain ⟨hev, hag, hsh, hn, hbx⟩ := h
 cases ho : o.op with
 | makeMap t r =>
  cases r with
  | some r => simp only [Og, ho]
  | none =>
   simp only [Og, ho]
   split
   ·rename_i tt k v hd _
    simp only [hn tt (.inl hd)]
   ·rfl
 | mapUpdate t m x v =>
  rw [ho] at hev hag
  have hag := hag rfl rfl
  simp only [Og, ho]
  exact Nz (hev m (by simp [Tb])) (hev x (by simp [Tb])) (hev v (by simp [Tb])) (hag m (by simp [Tb])) (hag v (by simp [Tb]))
 | insert t m x v =>
  rw [ho] at hev hag
  have hag := hag rfl rfl
  simp only [Og, ho]
  exact Nz (hev m (by simp [Tb])) (hev x (by simp [Tb])) (hev v (by simp [Tb])) (hag m (by simp [Tb])) (hag v (by simp [Tb]))
 | lookup t m x ok =>
  rw [ho] at hev hag
  have hag : ∀ x_1, x_1 ∈ Tb (Op.lookup t m x ok) → ∀ d, s.ev x_1 = some d → Tf s s' d := hag rfl rfl
  have hm := hev m (by simp [Tb])
  have hx := hev x (by simp [Tb])
  have hk : s'.kAgg x = s.kAgg x := by unfold AS.kAgg; rw [hx]
  have hL : Gk G s' t m x ok K = Gk G s t m x ok K := by
   unfold Gk
   rw [hm, hx]
   split
   ·rename_i h1 _; rw [(hag m (by simp [Tb]) _ h1).mpo]
   ·rfl
  simp only [Og, ho]
  rw [hk, hL, hm, hx]
  congr 1
  split
  ·rename_i h1 _
   rw [(hag m (by simp [Tb]) _ h1).mpo]
   simp only [hn (100000 + 64 * o.dst.getD 0) (.inr ⟨jo _, by omega⟩)]
  ·rfl
  ·rfl
 | _ => rw [ho] at hb; simp [Zt] at hb
theorem WV {K : D → List (Nat × Option Da) → Option Out} (h : YK s s' o) : Ot G s' o K = Ot G s o K := by
 unfold Ot
 cases hb : Zt o.op with
 | true => exact TQ hb h
 | false => exact VV h
end
theorem Ba {α : Type} {c : Bool} {x : Option α} {r : α} : (bif c then x else none) = some r ↔ c = true ∧ x = some r := by cases c <;> simp
theorem KK {α : Type} {c : Bool} {x : Option α} {r : α} : (bif c then none else x) = some r ↔ c = false ∧ x = some r := by cases c <;> simp
section
variable {s s' : AS} {G : Gd} {o : Oper} {Out : Type} {K : D → List (Nat × Option Da) → Option Out} {out : Out}
theorem OX {tb : Bool} {op : BinOp} {a b : D} (he : TE tb op a b K = some out) : ∃ d u, K d u = some out ∧ ∀ (Out' : Type) (K' : D → List (Nat × Option Da) → Option Out'), TE tb op a b K' = K' d u := by
 unfold TE at he ⊢
 split at he
 ·split at he
  ·simp only [Ba] at he; exact ⟨_, _, he.2, fun _ _ => by simp [he.1]⟩
  ·simp only [Ba] at he; exact ⟨_, _, he.2, fun _ _ => by simp [he.1]⟩
  ·simp only [Ba] at he
   obtain ⟨hk, he⟩ := he
   simp only [hk, yt]
   split at he
   all_goals first
    | exact ⟨_, _, he, fun _ _ => rfl⟩
    | (simp only [KK] at he; exact ⟨_, _, he.2, fun _ _ => by simp [he.1]⟩)
    | simp at he
 ·split at he
  ·simp only [Ba] at he; exact ⟨_, _, he.2, fun _ _ => by simp [he.1]⟩
  ·exact ⟨_, _, he, fun _ _ => rfl⟩
  ·exact ⟨_, _, he, fun _ _ => rfl⟩
  ·simp at he
 ·split at he
  ·simp only [Ba] at he; exact ⟨_, _, he.2, fun _ _ => by simp [he.1]⟩
  ·simp only [Ba] at he; exact ⟨_, _, he.2, fun _ _ => by simp [he.1]⟩
  ·simp at he
 ·simp at he
theorem RV {dst : Option Tmp} {f : FuncId} {args : List Operand} (he : Rv G s dst f args K = some out) : ∃ d u, K d u = some out ∧ ∀ (Out' : Type) (K' : D → List (Nat × Option Da) → Option Out'), Rv G s dst f args K' = K' d u := by
 unfold Rv at he ⊢
 split at he
 ·rename_i h1
  split at he
  ·rename_i h2
   split at he
   ·rename_i h3
    simp only [qc] at he
    obtain ⟨r, h4, he⟩ := he
    split at he
    ·rename_i h5
     split at he
     ·rename_i h6
      simp only [Ba] at he
      exact ⟨_, _, he.2, fun _ _ => by simp [h4, h5, h6, he.1]⟩
     ·simp at he
    ·simp at he
   ·simp at he
  ·simp at he
 ·rename_i h1
  split at he
  ·split at he
   ·rename_i h2 h3
    split at he
    ·rename_i h4 h5
     simp only [qc] at he
     obtain ⟨r, h6, he⟩ := he
     split at he
     ·rename_i h7
      split at he
      ·rename_i h8
       simp only [Ba] at he
       exact ⟨_, _, he.2, fun _ _ => by simp [h6, h7, h8, he.1]⟩
      ·simp at he
     ·simp at he
    ·simp at he
   ·simp at he
  ·simp at he
 ·rename_i h1
  split at he
  ·rename_i h2
   split at he
   ·rename_i h3
    simp only [qc] at he
    obtain ⟨r, h4, he⟩ := he
    split at he
    ·rename_i h5
     split at he
     ·rename_i h6
      simp only [Ba] at he
      exact ⟨_, _, he.2, fun _ _ => by simp [h4, h5, h6, he.1]⟩
     ·simp at he
    ·simp at he
   ·simp at he
  ·simp at he
 ·rename_i h1
  split at he
  ·split at he
   ·rename_i h2 h3
    split at he
    ·rename_i h4
     split at he
     ·rename_i h5 h6 h7
      simp only [qc] at he
      obtain ⟨r, h8, he⟩ := he
      split at he
      ·rename_i h9
       split at he
       ·rename_i h10 h11
        simp only [Ba] at he
        exact ⟨_, _, he.2, fun _ _ => by simp only [h8, h9, h10, h11, jb, he.1, yt]⟩
       ·simp at he
      ·simp at he
     ·simp at he
    ·simp at he
   ·simp at he
  ·simp at he
 ·rename_i h1
  split at he
  ·rename_i h2
   split at he
   ·rename_i h3
    simp only [qc, Ba] at he
    obtain ⟨r, h4, h5, he⟩ := he
    exact ⟨_, _, he, fun _ _ => by simp only [h4, jb, h5, yt]⟩
   ·simp at he
  ·simp at he
 ·rename_i h1
  split at he
  ·split at he
   ·rename_i h2 h3
    split at he
    ·rename_i h4
     split at he
     ·rename_i h5 h6 h7 h8
      split at he
      ·rename_i h9 h10
       split at he
       ·rename_i h11 h12
        simp only [qc, Ba] at he
        obtain ⟨r, h13, h14, he⟩ := he
        exact ⟨_, _, he, fun _ _ => by simp only [h13, jb, h14, yt]⟩
       ·simp at he
      ·simp at he
     ·simp at he
    ·simp at he
   ·simp at he
  ·simp at he
 ·simp at he
theorem AO {dst : Option Tmp} {t tx : TypeId} {x y : Operand} (he : Qp G s dst t tx x y K = some out) : ∃ d u, K d u = some out ∧ ∀ (Out' : Type) (K' : D → List (Nat × Option Da) → Option Out'), Qp G s dst t tx x y K' = K' d u := by
 unfold Qp at he ⊢
 split at he
 ·rename_i h1 h2 h3
  split at he
  ·rename_i h4 h5
   simp only [Ba] at he
   exact ⟨_, _, he.2.2, fun _ _ => by simp [he.1, he.2.1]⟩
  ·simp at he
 ·simp at he
theorem EM {dst : Option Tmp} {t tx : TypeId} {x y : Operand} (he : Hm G s dst t tx x y K = some out) : ∃ d u, K d u = some out ∧ ∀ (Out' : Type) (K' : D → List (Nat × Option Da) → Option Out'), Hm G s dst t tx x y K' = K' d u := by
 unfold Hm at he ⊢
 split at he
 ·split at he
  ·rename_i h4 h5
   split at he
   ·simp only [Ba] at he
    exact ⟨_, _, he.2.2, fun _ _ => by simp only [he.1, he.2.1, yt]⟩
   ·simp at he
  ·simp at he
 ·simp at he
theorem NX {dst : Option Tmp} {t tx : TypeId} {x y : Operand} (he : Sw G s dst t tx x y K = some out) : ∃ d u, K d u = some out ∧ ∀ (Out' : Type) (K' : D → List (Nat × Option Da) → Option Out'), Sw G s dst t tx x y K' = K' d u := by
 unfold Sw at he ⊢
 cases hml : Nx G dst with
 | true => rw [hml] at he; exact EM he
 | false => rw [hml] at he; exact AO he
theorem SV {t tx : TypeId} {x y : Operand} (he : Sv G s t tx x y K = some out) : ∃ d u, K d u = some out ∧ ∀ (Out' : Type) (K' : D → List (Nat × Option Da) → Option Out'), Sv G s t tx x y K' = K' d u := by
 unfold Sv at he ⊢
 split at he
 ·split at he
  ·rename_i h4
   split at he
   ·rename_i h5 h6
    simp only [Ba] at he
    exact ⟨_, _, he.2.2, fun _ _ => by simp [he.1, he.2.1]⟩
   ·simp at he
  ·simp at he
 ·simp at he
theorem BI {dst : Option Tmp} {τ : Ty} {id i : Nat} {e : Ty} {xs : List (T e)} {k : Nat} (he : Nn s dst τ id i e xs k K = some out) :
 ∃ d u, K d u = some out ∧ ∀ (Out' : Type) (K' : D → List (Nat × Option Da) → Option Out'), Nn s dst τ id i e xs k K' = K' d u := by
 unfold Nn at he ⊢
 split at he
 ·rename_i h1
  simp only [Ba, qc] at he
  obtain ⟨h2, x, h3, h4, h5⟩ := he
  exact ⟨_, _, h5, fun _ _ => by simp only [h2, h3, jb, h4, yt]⟩
 ·simp at he
theorem PX {dst : Option Tmp} {t : TypeId} {id : Nat} {lo hi : Option Operand} (he : UE G s dst t id lo hi K = some out) :
 ∃ d u, K d u = some out ∧ ∀ (Out' : Type) (K' : D → List (Nat × Option Da) → Option Out'), UE G s dst t id lo hi K' = K' d u := by
 unfold UE at he ⊢
 split at he
 ·rename_i h1
  split at he
  ·rename_i h2 h3 h4
   split at he
   ·rename_i h5
    simp only [Ba] at he
    obtain ⟨h6, he⟩ := he
    split at he
    ·rename_i tt
     cases hm : Hq G.mv tt with
     | true =>
      rw [hm] at he
      simp only [yt, Ba] at he
      exact ⟨_, _, he.2, fun _ _ => by simp only [h6, he.1, yt]⟩
     | false =>
      rw [hm] at he
      simp only [yu] at he
      exact ⟨_, _, he, fun _ _ => by simp only [h6, yt, yu]⟩
    ·simp at he
   ·simp at he
  ·simp at he
 ·simp at he
theorem TV {t : TypeId} {id a b : Nat} {lo hi : Option Operand} (he : Mz G s t id a b lo hi K = some out) :
 ∃ d u, K d u = some out ∧ ∀ (Out' : Type) (K' : D → List (Nat × Option Da) → Option Out'), Mz G s t id a b lo hi K' = K' d u := by
 unfold Mz at he ⊢
 split at he
 ·rename_i h1
  split at he
  ·rename_i h2 h3 h4
   split at he
   ·rename_i h5
    simp only [Ba] at he
    exact ⟨_, _, he.2, fun _ _ => by simp only [he.1, yt]⟩
   ·simp at he
  ·simp at he
 ·simp at he
theorem W0 (he : Jb G s o K = some out) : ∃ d u, K d u = some out ∧ ∀ (Out' : Type) (K' : D → List (Nat × Option Da) → Option Out'), Jb G s o K' = K' d u := by
 cases ho : o.op with
 | move x => simp only [Jb, ho] at he ⊢; split at he <;> first | (simp at he; done) | (rename_i h1; exact ⟨_, _, he, fun _ _ => by simp⟩)
 | assign x => simp only [Jb, ho] at he ⊢; split at he <;> first | (simp at he; done) | (rename_i h1; exact ⟨_, _, he, fun _ _ => by simp⟩)
 | pick c x y =>
  simp only [Jb, ho] at he ⊢
  split at he
  ·rename_i β hc
   cases hb : (show Bool from β) with
   | true =>
    have hb' : β = true := hb
    subst hb'
    simp only [yt] at he
    split at he
    ·rename_i h1; exact ⟨_, _, he, fun _ _ => by simp⟩
    ·simp at he
   | false =>
    have hb' : β = false := hb
    subst hb'
    simp only [yu] at he
    split at he
    ·rename_i h1; exact ⟨_, _, he, fun _ _ => by simp⟩
    ·simp at he
  ·simp at he
 | alloc t =>
  simp only [Jb, ho] at he ⊢
  split at he
  ·rename_i h1 h2; simp only [Ba] at he; exact ⟨_, _, he.2, fun _ _ => by simp [he.1]⟩
  ·split at he
   ·rename_i h3; simp only [Ba] at he; exact ⟨_, _, he.2, fun _ _ => by simp only [he.1, yt]⟩
   ·simp at he
  ·simp at he
 | box t x =>
  simp only [Jb, ho] at he ⊢
  split at he
  ·rename_i h1 h2 h3; simp only [Ba] at he; exact ⟨_, _, he.2, fun _ _ => by simp [he.1]⟩
  ·simp at he
 | build t ps =>
  simp only [Jb, ho] at he ⊢
  split at he
  ·rename_i h1
   split at he
   ·rename_i h2; simp only [Ba] at he; exact ⟨_, _, he.2, fun _ _ => by simp [he.1]⟩
   ·simp at he
  ·simp at he
 | buildSlice t n ps =>
  simp only [Jb, ho] at he ⊢
  split at he
  ·rename_i h1 h2
   split at he
   ·rename_i h3; simp only [Ba] at he; exact ⟨_, _, he.2, fun _ _ => by simp [he.1]⟩
   ·rename_i h3
    split at he
    ·rename_i h4; simp only [Ba] at he; exact ⟨_, _, he.2, fun _ _ => by simp [he.1]⟩
    ·simp at he
  ·simp at he
 | load t x =>
  simp only [Jb, ho] at he ⊢
  split at he
  ·rename_i h1 h2
   split at he
   ·rename_i h3
    split at he
    ·rename_i h4 h5
     split at he
     ·rename_i h6; exact ⟨_, _, he, fun _ _ => by simp⟩
     ·simp at he
    ·simp at he
   ·simp at he
  ·rename_i h1 h2
   split at he
   ·rename_i h3; exact ⟨_, _, he, fun _ _ => by simp⟩
   ·simp at he
  ·rename_i h1 h2
   cases hml : Nx G o.dst with
   | true =>
    rw [hml] at he
    simp only [yt] at he
    split at he
    ·rename_i h3; obtain ⟨d, u, g1, g2⟩ := BI he; exact ⟨d, u, g1, fun _ _ => by simp only [yt]; exact g2 _ _⟩
    ·rename_i h3; obtain ⟨d, u, g1, g2⟩ := BI he; exact ⟨d, u, g1, fun _ _ => by simp only [yt]; exact g2 _ _⟩
    ·simp at he
   | false =>
   rw [hml] at he
   simp only [yu] at he
   split at he
   ·rename_i h3
    simp only [qc] at he
    obtain ⟨z, hz, he⟩ := he
    split at he
    ·rename_i τ' y h4 h5
     split at he
     ·rename_i h6
      cases hc : ((!_ || Ty.flat _) || Ty.flat _) with
      | true =>
       rw [hc] at he
       exact ⟨_, _, he, fun _ _ => by simp only [yu, hz, jb, h4, h5, h6, hc, yt]⟩
      | false =>
       rw [hc] at he
       simp only [yu] at he
       split at he
       ·rename_i h7
        simp only [Ba] at he
        obtain ⟨hc2, he⟩ := he
        exact ⟨_, _, he, fun _ _ => by simp only [hz, jb, h4, h5, h6, hc, yu, h7, hc2, yt]⟩
       ·simp at he
     ·simp at he
    ·simp at he
   ·split at he
    ·rename_i h7
     simp only [Ba] at he
     exact ⟨_, _, he.2, fun _ _ => by simp only [yu, h7, he.1, yt]⟩
    ·simp at he
   ·simp at he
  ·simp at he
 | store t x y =>
  simp only [Jb, ho] at he ⊢
  split at he
  ·rename_i h1 h2 h3
   split at he
   ·rename_i h4
    split at he
    ·rename_i h5 h6
     split at he
     ·rename_i h7; simp only [Ba] at he; exact ⟨_, _, he.2, fun _ _ => by simp [he.1]⟩
     ·simp at he
    ·simp at he
   ·simp at he
  ·rename_i h1 h2 h3
   split at he
   ·rename_i e dp xs h4
    split at he
    ·rename_i h5
     split at he
     ·rename_i h6
      cases hf : (dp || e.flat) with
      | true =>
       rw [hf] at he
       simp only [yt] at he
       split at he
       ·rename_i h7
        simp only [Ba, qc] at he
        obtain ⟨hc, z, hz, he⟩ := he
        split at he
        ·rename_i h8; exact ⟨_, _, he, fun _ _ => by simp only [hc, yt, hz, jb, h8]⟩
        ·simp at he
       ·simp at he
      | false =>
       rw [hf] at he
       simp only [yu] at he
       split at he
       ·rename_i h7
        simp only [qc] at he
        obtain ⟨z, hz, he⟩ := he
        split at he
        ·rename_i h8; exact ⟨_, _, he, fun _ _ => by simp only [yu, hz, jb, h8]⟩
        ·simp at he
       ·simp at he
     ·simp at he
    ·simp at he
   ·split at he
    ·rename_i h5
     split at he
     ·rename_i h6
      split at he
      ·rename_i h7
       simp only [Ba] at he
       obtain ⟨hc, hd, he⟩ := he
       split at he
       ·rename_i h8; exact ⟨_, _, he, fun _ _ => by simp only [hc, hd, yt]⟩
       ·simp at he
      ·simp at he
     ·simp at he
    ·simp at he
   ·simp at he
  ·simp at he
 | nilCheck x =>
  simp only [Jb, ho] at he ⊢
  split at he
  ·rename_i h1
   split at he
   ·rename_i h2; exact ⟨_, _, he, fun _ _ => by simp⟩
   ·simp at he
  ·rename_i h1; exact ⟨_, _, he, fun _ _ => by simp⟩
  ·rename_i h1
   split at he
   ·exact ⟨_, _, he, fun _ _ => by simp only⟩
   ·simp at he
  ·simp at he
 | binOp op t x y t' =>
  simp only [Jb, ho] at he ⊢
  split at he
  ·rename_i u v h1 h2
   cases ha : u.isAgg with
   | true =>
    rw [ha] at he
    simp only [yt] at he
    split at he
    ·rename_i h3
     split at he
     ·rename_i h4 h5
      simp only [Ba] at he
      obtain ⟨hc, he⟩ := he
      split at he
      ·exact ⟨_, _, he, fun _ _ => by simp only [yt, h3, hc]⟩
      ·exact ⟨_, _, he, fun _ _ => by simp only [yt, h3, hc]⟩
      ·simp at he
     ·simp at he
    ·simp at he
   | false =>
    rw [ha] at he
    simp only [yu] at he
    obtain ⟨d, u', h3, h4⟩ := OX he
    exact ⟨d, u', h3, fun _ _ => by simp only [yu]; exact h4 _ _⟩
  ·simp at he
 | unOp op t x =>
  simp only [Jb, ho] at he ⊢
  split at he
  ·rename_i h1; exact ⟨_, _, he, fun _ _ => by simp⟩
  ·rename_i h1; exact ⟨_, _, he, fun _ _ => by simp⟩
  ·simp at he
 | convert src t x =>
  simp only [Jb, ho] at he ⊢
  split at he
  ·rename_i h1 h2 h3; exact ⟨_, _, he, fun _ _ => by simp⟩
  ·rename_i h1 h2 h3; exact ⟨_, _, he, fun _ _ => by simp⟩
  ·rename_i h1 h2 h3
   split at he
   ·rename_i h4; exact ⟨_, _, he, fun _ _ => by simp only⟩
   ·simp at he
  ·rename_i h1 h2 h3; simp only [Ba] at he; exact ⟨_, _, he.2, fun _ _ => by simp [he.1]⟩
  ·simp at he
 | slice t x lo hi mx =>
  cases mx with
  | some m => simp [Jb, ho] at he
  | none =>
   simp only [Jb, ho] at he ⊢
   split at he
   ·rename_i h1
    split at he
    ·rename_i h2 h3 h4; simp only [Ba] at he; exact ⟨_, _, he.2, fun _ _ => by simp only [he.1, yt]⟩
    ·simp at he
   ·rename_i h1
    split at he
    ·rename_i h2 h3 h4
     split at he
     ·rename_i h5; simp only [Ba] at he; exact ⟨_, _, he.2, fun _ _ => by simp only [he.1, yt]⟩
     ·simp at he
    ·simp at he
   ·exact PX he
   ·split at he
    ·simp only [Ba] at he
     exact ⟨_, _, he.2, fun _ _ => by simp only [he.1, yt]⟩
    ·simp at he
   ·exact TV he
   ·simp at he
 | fieldAddr t x f =>
  simp only [Jb, ho] at he ⊢
  split at he
  ·rename_i h1 h2
   split at he
   ·rename_i h3
    split at he
    ·rename_i h4 h5
     split at he
     ·rename_i h6; simp only [Ba] at he; exact ⟨_, _, he.2, fun _ _ => by simp only [he.1, yt]⟩
     ·simp at he
    ·simp at he
   ·simp at he
  ·rename_i h1 h2
   split at he
   ·rename_i h3
    split at he
    ·rename_i h4 h5
     split at he
     ·rename_i h6; simp only [Ba] at he; exact ⟨_, _, he.2, fun _ _ => by simp only [he.1, yt]⟩
     ·simp at he
    ·simp at he
   ·simp at he
  ·rename_i h1 h2
   split at he
   ·rename_i h3 h4 h5; simp only [Ba] at he; exact ⟨_, _, he.2, fun _ _ => by simp only [he.1, yt]⟩
   ·simp at he
  ·simp at he
 | field t x f =>
  simp only [Jb, ho] at he ⊢
  split at he
  ·rename_i h1 h2
   simp only [Ba] at he
   obtain ⟨hc, he⟩ := he
   split at he
   ·rename_i h3 h4; exact ⟨_, _, he, fun _ _ => by simp only [hc, yt]⟩
   ·simp at he
  ·simp at he
 | indexAddr t x i =>
  simp only [Jb, ho] at he ⊢
  split at he
  ·rename_i h1 h2 h3
   split at he
   ·rename_i h4
    simp only [qc] at he
    obtain ⟨z, hz, he⟩ := he
    exact ⟨_, _, he, fun _ _ => by simp only [hz, jb]⟩
   ·simp at he
  ·rename_i h1 h2 h3
   split at he
   ·rename_i h4
    split at he
    ·rename_i h5; simp only [Ba] at he; exact ⟨_, _, he.2, fun _ _ => by simp only [he.1, yt]⟩
    ·simp at he
   ·simp at he
  ·rename_i h1 h2 h3
   split at he
   ·rename_i h4
    split at he
    ·rename_i h5; simp only [Ba] at he; exact ⟨_, _, he.2, fun _ _ => by simp only [he.1, yt]⟩
    ·simp at he
   ·simp at he
  ·rename_i h1 h2 h3
   split at he
   ·rename_i h4 h5
    split at he
    ·rename_i h6; simp only [Ba] at he; exact ⟨_, _, he.2.2, fun _ _ => by simp only [he.1, he.2.1, yt]⟩
    ·simp at he
   ·simp at he
  ·simp at he
 | index t x i =>
  simp only [Jb, ho] at he ⊢
  split at he
  ·rename_i h1 h2 h3
   simp only [qc] at he
   obtain ⟨z, hz, he⟩ := he
   exact ⟨_, _, he, fun _ _ => by simp only [hz, jb]⟩
  ·simp at he
 | makeSlice t l c =>
  simp only [Jb, ho] at he ⊢
  split at he
  ·rename_i h1 h2 h3 h4; simp only [Ba] at he; exact ⟨_, _, he.2.2, fun _ _ => by simp only [he.1, he.2.1, yt]⟩
  ·simp at he
 | extract x n =>
  simp only [Jb, ho] at he ⊢
  split at he
  ·rename_i h1
   split at he
   ·rename_i h2; exact ⟨_, _, he, fun _ _ => by simp⟩
   ·simp at he
  ·simp at he
 | call c =>
  obtain ⟨callee, args, ts⟩ := c
  cases callee with
  | value f =>
   cases f with
   | func f => simp only [Jb, ho] at he ⊢; exact RV he
   | _ => simp [Jb, ho] at he
  | invoke r m => simp [Jb, ho] at he
  | builtin b =>
   cases b with
   | len =>
    simp only [Jb, ho] at he ⊢
    split at he
    ·rename_i h1 h2
     split at he
     ·rename_i h3 h4; exact ⟨_, _, he, fun _ _ => by simp only⟩
     ·rename_i h3 h4; exact ⟨_, _, he, fun _ _ => by simp only⟩
     ·rename_i h3 h4; exact ⟨_, _, he, fun _ _ => by simp only⟩
     ·rename_i h3 h4
      split at he
      ·rename_i h5; exact ⟨_, _, he, fun _ _ => by simp only⟩
      ·simp at he
     ·rename_i h3 h4
      split at he
      ·rename_i h5; exact ⟨_, _, he, fun _ _ => by simp only⟩
      ·simp at he
     ·simp at he
    ·simp at he
   | append =>
    simp only [Jb, ho] at he ⊢
    split at he
    ·rename_i h1 h2
     exact NX he
    ·simp at he
   | copy =>
    simp only [Jb, ho] at he ⊢
    split at he
    ·exact SV he
    ·simp at he
   | max =>
    simp only [Jb, ho] at he ⊢
    split at he
    ·rename_i h1
     split at he
     ·rename_i h2 h3; simp only [Ba] at he; exact ⟨_, _, he.2, fun _ _ => by simp only [he.1, yt]⟩
     ·simp at he
    ·simp at he
   | min =>
    simp only [Jb, ho] at he ⊢
    split at he
    ·rename_i h1
     split at he
     ·rename_i h2 h3; simp only [Ba] at he; exact ⟨_, _, he.2, fun _ _ => by simp only [he.1, yt]⟩
     ·simp at he
    ·simp at he
   | _ => simp [Jb, ho] at he
 | _ => simp [Jb, ho] at he
theorem EO {t : TypeId} {m x v : Operand} (he : Ih G s t m x v K = some out) : ∃ d u, K d u = some out ∧ ∀ (Out' : Type) (K' : D → List (Nat × Option Da) → Option Out'), Ih G s t m x v K' = K' d u := by
 unfold Ih at he ⊢
 split at he
 ·split at he
  ·split at he
   ·simp only [Ba] at he
    exact ⟨_, _, he.2, fun _ _ => by simp only [he.1, yt]⟩
   ·simp at he
  ·simp at he
 ·simp at he
theorem UQ {t : TypeId} {m x v : Operand} (he : Hj G s t m x v K = some out) : ∃ d u, K d u = some out ∧ ∀ (Out' : Type) (K' : D → List (Nat × Option Da) → Option Out'), Hj G s t m x v K' = K' d u := by
 unfold Hj at he ⊢
 split at he
 ·split at he
  ·split at he
   ·simp only [Ba] at he
    exact ⟨_, _, he.2, fun _ _ => by simp only [he.1, yt]⟩
   ·simp at he
  ·simp at he
 ·simp at he
theorem DO {t : TypeId} {m x v : Operand} (he : Hh G s t m x v K = some out) : ∃ d u, K d u = some out ∧ ∀ (Out' : Type) (K' : D → List (Nat × Option Da) → Option Out'), Hh G s t m x v K' = K' d u := by
 unfold Hh at he ⊢
 split at he
 ·split at he
  ·split at he
   ·simp only [Ba] at he
    exact ⟨_, _, he.2.2, fun _ _ => by simp only [he.1, he.2.1, yt]⟩
   ·simp at he
  ·simp at he
 ·simp at he
theorem Zy {τ : Ty} {xs : List (Int × T τ)} {n : Int} {ok : Bool} (he : Ct xs n ok K = some out) : ∃ d u, K d u = some out ∧ ∀ (Out' : Type) (K' : D → List (Nat × Option Da) → Option Out'), Ct xs n ok K' = K' d u := by
 unfold Ct at he ⊢
 cases ok with
 | true => exact ⟨_, _, he, fun _ _ => rfl⟩
 | false => exact ⟨_, _, he, fun _ _ => rfl⟩
theorem FM {t : TypeId} {m x : Operand} {ok : Bool} (he : Gk G s t m x ok K = some out) : ∃ d u, K d u = some out ∧ ∀ (Out' : Type) (K' : D → List (Nat × Option Da) → Option Out'), Gk G s t m x ok K' = K' d u := by
 unfold Gk at he ⊢
 split at he
 ·split at he
  ·split at he
   ·simp only [Ba] at he
    obtain ⟨h1, he⟩ := he
    unfold IG at he ⊢
    cases ok with
    | true => exact ⟨_, _, he, fun _ _ => by simp only [h1, yt]⟩
    | false => exact ⟨_, _, he, fun _ _ => by simp only [h1, yt, yu]⟩
   ·simp at he
  ·simp at he
 ·simp at he
theorem LC {t : TypeId} {m x v : Operand} (he : (bif s.kAgg x then Ih G s t m x v K else bif s.isMq m then Hh G s t m x v K else Hj G s t m x v K) = some out) : ∃ d u, K d u = some out ∧ ∀ (Out' : Type) (K' : D → List (Nat × Option Da) → Option Out'),
 (bif s.kAgg x then Ih G s t m x v K' else bif s.isMq m then Hh G s t m x v K' else Hj G s t m x v K') = K' d u := by
 cases h1 : s.kAgg x with
 | true => rw [h1] at he; exact EO he
 | false =>
  rw [h1] at he
  simp only [yu] at he ⊢
  cases h2 : s.isMq m with
  | true => rw [h2] at he; exact DO he
  | false => rw [h2] at he; exact UQ he
theorem QX (he : Og G s o K = some out) : ∃ d u, K d u = some out ∧ ∀ (Out' : Type) (K' : D → List (Nat × Option Da) → Option Out'), Og G s o K' = K' d u := by
 cases ho : o.op with
 | makeMap t r =>
  cases r with
  | some r => simp [Og, ho] at he
  | none =>
   simp only [Og, ho] at he ⊢
   split at he
   ·rename_i tt kk vv _ _
    cases hm : Hq G.mv tt with
    | true =>
     rw [hm] at he
     simp only [yt] at he ⊢
     split at he
     ·simp only [Ba] at he
      exact ⟨_, _, he.2, fun _ _ => by simp only [he.1, yt]⟩
     ·simp at he
    | false =>
     rw [hm] at he
     simp only [yu, Ba] at he ⊢
     exact ⟨_, _, he.2, fun _ _ => by simp only [he.1, yt]⟩
   ·simp at he
 | mapUpdate t m x v => simp only [Og, ho] at he ⊢; exact LC he
 | insert t m x v => simp only [Og, ho] at he ⊢; exact LC he
 | lookup t m x ok =>
  simp only [Og, ho] at he ⊢
  cases h1 : s.kAgg x with
  | true => rw [h1] at he; exact FM he
  | false =>
   rw [h1] at he
   simp only [yu] at he ⊢
   split at he
   ·split at he
    ·split at he
     ·simp only [Ba] at he
      obtain ⟨g1, he⟩ := he
      obtain ⟨d, u, k1, k2⟩ := Zy he
      exact ⟨d, u, k1, fun _ _ => by simp only [g1, yt]; exact k2 _ _⟩
     ·simp at he
    ·split at he
     ·simp only [Ba] at he
      obtain ⟨g1, he⟩ := he
      obtain ⟨d, u, k1, k2⟩ := Zy he
      exact ⟨d, u, k1, fun _ _ => by simp only [g1, yt]; exact k2 _ _⟩
     ·simp at he
    ·split at he
     ·simp only [Ba] at he
      exact ⟨_, _, he.2, fun _ _ => by simp only [he.1, yt]⟩
     ·simp at he
    ·simp at he
   ·split at he
    ·simp only [Ba] at he
     obtain ⟨g1, he⟩ := he
     obtain ⟨d, u, k1, k2⟩ := Zy he
     exact ⟨d, u, k1, fun _ _ => by simp only [g1, yt]; exact k2 _ _⟩
    ·simp at he
   ·simp at he
 | _ => simp [Og, ho] at he
theorem X0 (he : Ot G s o K = some out) : ∃ d u, K d u = some out ∧ ∀ (Out' : Type) (K' : D → List (Nat × Option Da) → Option Out'), Ot G s o K' = K' d u := by
 unfold Ot at he ⊢
 cases hb : Zt o.op with
 | true => rw [hb] at he; exact QX he
 | false => rw [hb] at he; exact W0 he
theorem RX (k : AS → Option Out) : Ot G s o (fun d u => Af s o.dst d u k) = OC G s o k := rfl
end
section
variable {P : Program} {Out : Type} {n0 : Nat} {A : Fx} {O0 : Nat → Prop} {w0 w w' : World} {s s' : AS} {σ σ' : Nat → Value} {φ φ' : Nat → List Nat} {a : Act}
variable {o : Oper} {Q : Exit → Act → World → Prop} {k : AS → Option Out} {out : Out} {d : D} {v : Value} {upd : List (Nat × Option Da)} {dst : Option Tmp} {G : Gd}
structure Eqv (s s' : AS) : Prop where
 n : s'.n = s.n
 tm : ∀ t, Ua s'.tm t = Ua s.tm t
 hp : ∀ id, s'.heap id = s.heap id
theorem Eqv.refl (s : AS) : Eqv s s := ⟨rfl, fun _ => rfl, fun _ => rfl⟩
theorem Eqv.trans {s1 s2 s3 : AS} (h : Eqv s1 s2) (h' : Eqv s2 s3) : Eqv s1 s3 := ⟨h'.n.trans h.n, fun t => (h'.tm t).trans (h.tm t), fun id => (h'.hp id).trans (h.hp id)⟩
theorem Eqv.symm {s1 s2 : AS} (h : Eqv s1 s2) : Eqv s2 s1 := ⟨h.n.symm, fun t => (h.tm t).symm, fun id => (h.hp id).symm⟩
theorem La.eqv (h : La n0 A O0 w0 s σ φ a w) (he : Eqv s s') : La n0 A O0 w0 s' σ φ a w := by
 have hh : s'.heap = s.heap := funext he.hp
 have hO : OO O0 s' φ = OO O0 s φ := by
  funext b
  simp only [OO, hh]
 refine ⟨by rw [he.n]; exact h.sz, h.df, ?_, ?_, ?_, ?_, ?_, h.o0, h.fr, h.pin, h.iv0, h.ivw, fun id kk e xs hb => by rw [hO]; exact h.shr id kk e xs (by rw [← hh]; exact hb)⟩
 ·intro t d hd
  rw [he.tm] at hd
  rw [hO, hh]
  exact h.tm t d hd
 ·intro id Aa hb
  rw [hh] at hb
  rw [hO, hh]
  exact h.hp id Aa hb
 ·intro id Aa hb
  rw [hh] at hb
  exact h.nodup id Aa hb
 ·intro id id' Aa blk' hne hb hb'
  rw [hh] at hb hb'
  exact h.disj id id' Aa blk' hne hb hb'
 ·intro id Aa hb
  rw [hh] at hb
  exact h.fresh id Aa hb
theorem LE (h : La n0 A O0 w0 s σ φ a w) {ops : Array Oper} {j : Nat} {t : Tmp} {β : Bool} (hj : (ops[j]?).bind (·.dst) = some t) (hd : Ua s.tm t = some (.t .b β)) :
 yielded ops a.tmps j = some β := by
 obtain ⟨v, hv, hr⟩ := h.tm t _ hd
 rw [Eg] at hr
 subst hr
 unfold yielded
 rw [hj, jb, hv]
theorem HG (h : La n0 A O0 w0 s σ φ a w) {ops : Array Oper} {j : Nat} {t : Tmp} (hj : (ops[j]?).bind (·.dst) = some t) (hd : Ua s.tm t = some .und) :
 yielded ops a.tmps j = none := by
 obtain ⟨v, hv, hr⟩ := h.tm t _ hd
 rw [Al] at hr
 subst hr
 unfold yielded
 rw [hj, jb, hv]
 rfl
theorem Hd.mono {K : Act → World → Prop} (h : ∀ s σ φ a w, k s = some out → La n0 A O0 w0 s σ φ a w → K a w) {a : Act} {w : World} (hg : Hd n0 A O0 w0 k out a w) : K a w := by
 obtain ⟨s, σ, φ, h1, h2⟩ := hg
 exact h s σ φ a w h1 h2
theorem RT (h : La n0 A O0 w0 s σ φ a w) (he : Af s dst .und [] k = some out) : Hd n0 A O0 w0 k out (a.put dst undef) w := Ob h (Al.2 rfl) he
theorem ZW {n i : Nat} (h : i < n) : (yo n).drop i = i :: (yo n).drop (i + 1) := by
 rw [List.drop_eq_getElem_cons (by simpa using h)]
 simp
theorem KR (hG : Oh P A.I G) (hfz : Cx G A O0) {r : Nat} {ops : Array Oper} (hQ : ∀ s σ φ a w, k s = some out → La n0 A O0 w0 s σ φ a w → Q .normal a w) : ∀ (l : List Oper) (i : Nat) (s : AS) (σ : Nat → Value) (φ : Nat → List Nat) (a : Act) (w : World),
 ops.toList.drop i = l → Pt G r ops l i s k = some out → La n0 A O0 w0 s σ φ a w → wpOps P ops Q ((yo ops.size).drop i) a w
 | [], i, s, σ, φ, a, w, hl, he, h => by
  have hi : ops.size ≤ i := by
   have := congrArg ja hl
   simp at this
   omega
  rw [List.drop_eq_nil_of_le (by simpa using hi)]
  exact hQ s σ φ a w he h
 | o :: l, i, s, σ, φ, a, w, hl, he, h => by
  have hi : i < ops.size := by
   have := congrArg ja hl
   simp at this
   omega
  have hoi : ops[i]? = some o := by
   have h1 := congrArg (·[0]?) hl
   simpa using h1
  have hl' : ops.toList.drop (i + 1) = l := by
   have h1 := congrArg (List.drop 1) hl
   simpa [qk, Nat.add_comm] using h1
  have next : ∀ a w, Hd n0 A O0 w0 (fun s' => Pt G r ops l (i + 1) s' k) out a w → wpOps P ops Q ((yo ops.size).drop (i + 1)) a w := by
   rintro a w ⟨s', σ', φ', h1, h2⟩
   exact KR hG hfz hQ l (i + 1) s' σ' φ' a w hl' h1 h2
  simp only [Pt] at he
  split at he
  ·simp at he
  rename_i s1 hat
  obtain ⟨φ1, h⟩ := Mu hfz h hat
  have run : ∀ s, La n0 A O0 w0 s σ φ1 a w → OC G s o (fun s' => Pt G r ops l (i + 1) s' k) = some out → o.wp P a w (wpOps P ops Q ((yo ops.size).drop (i + 1))) Q := fun s hs hop =>
   Oper.wp_mono next (JR hG hfz hs hop)
  have skp : ∀ s, La n0 A O0 w0 s σ φ1 a w → Af s o.dst .und [] (fun s' => Pt G r ops l (i + 1) s' k) = some out → wpOps P ops Q ((yo ops.size).drop (i + 1)) (a.put o.dst undef) w := fun s hs hop =>
   next _ _ (RT hs hop)
  rw [ZW hi]
  simp only [wpOps, hoi]
  cases hg : o.guard with
  | none =>
   rw [hg] at he
   have hw : Region.wanted o (yielded ops a.tmps) = true := by simp [Region.wanted, hg]
   rw [if_pos hw]
   exact .inl (run s1 h he)
  | some g =>
   obtain ⟨j, want⟩ := g
   rw [hg] at he
   simp only at he
   split at he
   ·rename_i t ht
    split at he
    ·rename_i β hd
     have hy := LE h ht hd
     have hwd : Region.wanted o (yielded ops a.tmps) = (some β == some want) := by simp [Region.wanted, hg, hy]
     have hs := h.same hd
     rw [hwd]
     cases hβ : (show Bool from β) with
     | true =>
      have hβ' : β = true := hβ
      subst hβ'
      simp only [yt] at he
      cases want with
      | true => rw [if_pos (by rfl)]; exact .inl (run _ hs he)
      | false => rw [if_neg (by simp)]; exact skp _ hs he
     | false =>
      have hβ' : β = false := hβ
      subst hβ'
      simp only [yu] at he
      cases want with
      | true => rw [if_neg (by simp)]; exact skp _ hs he
      | false => rw [if_pos (by rfl)]; exact .inl (run _ hs he)
    ·rename_i hd
     have hy := HG h ht hd
     have hwd : Region.wanted o (yielded ops a.tmps) = false := by simp [Region.wanted, hg, hy]
     rw [hwd, if_neg (by simp)]
     exact skp _ h he
    ·simp at he
   ·simp at he
end
abbrev Ef := D × List (Nat × Option Da)
def OF (G : Gd) (s : AS) (o : Oper) (e : Ef) : Prop := ∀ (Out' : Type) (K' : D → List (Nat × Option Da) → Option Out'), Ot G s o K' = K' e.1 e.2
theorem OF.congr {G : Gd} {s s' : AS} {o : Oper} {e : Ef} (h : OF G s o e) (ha : YK s s' o) : OF G s' o e := fun Out' K' => (WV ha).trans (h Out' K')
def putE (s : AS) (dst : Option Tmp) (e : Ef) : AS := ⟨s.n, (match dst with | some t => [(t, e.1)] | none => []) ++ s.tm, e.2 ++ s.hp⟩
def JA (G : Gd) (ops : Array Oper) (s : AS) (o : Oper) (e : Ef) : Prop :=
 match o.guard with
 | none => OF G s o e
 | some (j, want) => ∃ t, (ops[j]?).bind (·.dst) = some t ∧ ((∃ β : Bool, Ua s.tm t = some (.t .b β) ∧ (if β = want then OF G s o e else e = (.und, []))) ∨ (Ua s.tm t = some .und ∧ e = (.und, [])))
def Bd (ops : Array Oper) (E : Nat → Ef) (L : Nat → Bool) (s0 : AS) : Nat → AS
 | 0 => s0
 | m + 1 => match ops[m]? with
  | some o => bif L m then putE (Bd ops E L s0 m) o.dst (E m) else Bd ops E L s0 m
  | none => Bd ops E L s0 m
structure U0 (H : List Nat) (ops : Array Oper) (s : AS) (o : Oper) (e : Ef) (f : FP) : Prop where
 wt : f.wt = o.dst
 wi : f.wi = e.2.map (·.1)
 mi : f.mi = e.1.ids ++ Gm e.2
 rt : ∀ t, t ∈ Qk (Tb o.op) → t ∈ f.rt
 rg : ∀ j want t, o.guard = some (j, want) → (ops[j]?).bind (·.dst) = some t → t ∈ f.rt
 ri : Ft o.op = false → ∀ x, x ∈ Tb o.op → ∀ d, s.ev x = some d → ∀ id, (d.ment id = true ∨ (Su o.op = true ∧ id ∈ Gx s d)) → id ∈ f.ri ∨ (Hf o.op = true ∧ id ∈ H)
def KC (H : List Nat) (s : AS) (e : Ef) : Prop := ∀ id, id ∈ H → id ∈ e.2.map (·.1) → ((Ua e.2 id).join).map Da.kind = (s.heap id).map Da.kind
structure PM (G : Gd) (H : List Nat) (ops : Array Oper) (s0 : AS) (E : Nat → Ef) (F : Nat → FP) (anc : Nat → List Nat) (m : Nat) (o : Oper) : Prop where
 step : JA G ops (Bd ops E (fun _ => true) s0 m) o (E m)
 fp : U0 H ops (Bd ops E (fun _ => true) s0 m) o (E m) (F m)
 dst : ∀ t, o.dst = some t → t < s0.n
 back : ∀ e, e ∈ o.after.toList → Region.binds .any e = true → e.on < m
 up : ∀ x, x ∈ anc m → ∃ e, e ∈ o.after.toList ∧ Region.binds .any e = true ∧ (x = e.on ∨ x ∈ anc e.on)
 ind : ∀ j, j < m → j ∈ anc m ∨ TI (F j) (F m) = true
 hard : KC H (Bd ops E (fun _ => true) s0 m) (E m)
theorem DB {l : List Nat} {x : Nat} : Hq l x = true ↔ x ∈ l := by
 unfold Hq
 rw [List.any_eq_true]
 constructor
 ·rintro ⟨y, hy, he⟩
  have := ju he
  exact this ▸ hy
 ·intro h; exact ⟨x, h, Nat.beq_refl x⟩
theorem Zr {l m : List Nat} (h : Oy l m = false) : ∀ x, x ∈ l → x ∉ m := by
 intro x hx hm
 have : Oy l m = true := by
  unfold Oy
  rw [List.any_eq_true]
  exact ⟨x, hx, DB.2 hm⟩
 rw [h] at this; simp at this
theorem XB {t : Option Nat} {l : List Nat} (h : RQ t l = false) : ∀ x, t = some x → x ∉ l := by
 rintro x rfl hm
 simp only [RQ] at h
 rw [DB.2 hm] at h; simp at h
theorem AG {dst : Option Nat} {l : List Nat} (h : AJ dst l = false) : ∀ id, Kh dst id → id ∉ l := by
 intro id hn hm
 have : AJ dst l = true := by
  unfold AJ
  cases dst with
  | some t =>
   simp only []
   rw [List.any_eq_true]
   refine ⟨id, hm, ?_⟩
   rcases hn with hn | hn
   ·simp only [jc] at hn
    subst hn
    simp
   ·simp only [qs] at hn
    have h1 : jx (100000 + 64 * t) id = true := ji hn.1
    have h2 : qz id (100064 + 64 * t) = true := by rw [q6]; exact hn.2
    simp [h1, h2]
  | none =>
   simp only []
   rw [List.any_eq_true]
   refine ⟨id, hm, ?_⟩
   rcases hn with hn | hn
   ·simp at hn
   ·simp only [Option.getD_none] at hn
    have hn1 : 100000 ≤ id := by simpa using hn.1
    have hn2 : id < 100064 := by simpa using hn.2
    have h1 : jx 100000 id = true := ji hn1
    have h2 : qz id 100064 = true := by rw [q6]; exact hn2
    simp [h1, h2]
 rw [h] at this; simp at this
structure Av (f g : FP) : Prop where
 t1 : ∀ x, f.wt = some x → x ∉ g.rt
 t2 : ∀ x, g.wt = some x → x ∉ f.rt
 t3 : ∀ x, f.wt = some x → g.wt ≠ some x
 i1 : ∀ x, x ∈ f.wi → x ∉ g.ri
 i2 : ∀ x, x ∈ g.wi → x ∉ f.ri
 i3 : ∀ x, x ∈ f.wi → x ∉ g.wi
 n1 : ∀ id, Kh f.wt id → id ∉ g.mi
 n2 : ∀ id, Kh g.wt id → id ∉ f.mi
theorem Av.symm {f g : FP} (h : Av f g) : Av g f :=
 ⟨h.t2, h.t1, fun x hx hf => h.t3 x hf hx, h.i2, h.i1, fun x hx hf => h.i3 x hf hx, h.n2, h.n1⟩
theorem IP {f g : FP} (h : TI f g = true) : Av f g := by
 simp only [TI, jd, yc] at h
 obtain ⟨⟨⟨⟨⟨⟨⟨h1, h2⟩, h3⟩, h4⟩, h5⟩, h6⟩, h7⟩, h8⟩ := h
 refine ⟨XB h1, XB h2, fun x hx hg => ?_, Zr h4, Zr h5, Zr h6, AG h7, AG h8⟩
 exact XB h3 x hx (by rw [hg]; simp)
theorem Kx : ∀ {d : D} {id : Nat}, d.ment id = true ↔ id ∈ d.ids := by
 intro d
 induction d with
 | pr a b iha ihb => intro id; simp [D.ment, D.ids, iha, ihb]
 | tup d ih => intro id; simp only [D.ment, D.ids]; exact ih
 | own j => intro id; simp only [D.ment, D.ids, qa]; exact ⟨fun h => (ju h).symm, fun h => by rw [h]; exact Nat.beq_refl _⟩
 | mpo j => intro id; simp only [D.ment, D.ids, qa]; exact ⟨fun h => (ju h).symm, fun h => by rw [h]; exact Nat.beq_refl _⟩
 | cut j lo hi => intro id; simp only [D.ment, D.ids, qa]; exact ⟨fun h => (ju h).symm, fun h => by rw [h]; exact Nat.beq_refl _⟩
 | ptr j p => intro id; simp only [D.ment, D.ids, qa]; exact ⟨fun h => (ju h).symm, fun h => by rw [h]; exact Nat.beq_refl _⟩
 | eptr j i p => intro id; simp only [D.ment, D.ids, qa]; exact ⟨fun h => (ju h).symm, fun h => by rw [h]; exact Nat.beq_refl _⟩
 | _ => intro id; simp [D.ment, D.ids]
theorem Kz {id : Nat} : ∀ {u : List (Nat × Option Da)}, (u.any fun x => (x.2.map (Da.ment id)).getD false) = true ↔ id ∈ Gm u
 | [] => by simp [Gm]
 | (j, none) :: r => by
  simp only [List.any_cons, Gm, Option.map_none, Option.getD_none, yj]
  exact Kz (u := r)
 | (j, some b) :: r => by
  simp only [List.any_cons, Gm, j9, qs, qr, jl]
  rw [Kz (u := r)]
  refine or_congr ?_ Iff.rfl
  cases b with
  | box ρ d => simp only [Da.ment, Da.ids]; exact Kx
  | row e dp xs => simp [Da.ment, Da.ids]
  | hol e xs i x p τ d => simp only [Da.ment, Da.ids]; exact Kx
  | mov e xs k => simp [Da.ment, Da.ids]
  | mp k v xs => simp [Da.ment, Da.ids]
  | mq k v xs => simp [Da.ment, Da.ids]
  | mx k v xs => simp [Da.ment, Da.ids]
  | fz e xs => simp [Da.ment, Da.ids]
section
variable {s s' : AS} {e : Ef} {dst : Option Tmp} {G : Gd} {ops : Array Oper}
theorem Zq {t : Nat} : Ua (putE s dst e).tm t = if dst = some t then some e.1 else Ua s.tm t := by
 cases dst with
 | none => simp [putE]
 | some t' => simp [putE, Rb]
theorem VQ {α : Type} {l m : List (Nat × α)} {k : Nat} : Ua (l ++ m) k = if k ∈ l.map (·.1) then Ua l k else Ua m k := by
 induction l with
 | nil => simp
 | cons p l ih =>
  obtain ⟨j, a⟩ := p
  rw [q8, Rb, Rb, ih]
  by_cases h : j = k
  ·subst h; simp
  ·have h' : ¬ k = j := fun e => h e.symm
   have hk : k ∈ ((j, a) :: l).map (·.1) ↔ k ∈ l.map (·.1) := by simp [h']
   simp only [hk, if_neg h]
theorem Co {id : Nat} : (putE s dst e).heap id = if id ∈ e.2.map (·.1) then (Ua e.2 id).join else s.heap id := by
 simp only [AS.heap, putE, VQ]
 split <;> rfl
theorem Q2 {id : Nat} (h : id ∉ e.1.ids ++ Gm e.2) : (putE s dst e).newOk id = s.newOk id := by
 rw [jl, not_or] at h
 have h1 : e.1.ment id = false := by rw [← j7]; exact fun hm => h.1 (Kx.1 hm)
 have h2 : (e.2.any fun x => (x.2.map (Da.ment id)).getD false) = false := by rw [← j7]; exact fun hm => h.2 (Kz.1 hm)
 unfold AS.newOk
 congr 2
 simp only [AS.ment, putE, List.any_append, h2, yj]
 cases dst with
 | none => simp
 | some t => simp [h1]
theorem AK {x : Operand} {l : List Operand} (hx : x ∈ l) (h : ∀ t, t ∈ Qk l → Ua s'.tm t = Ua s.tm t) : s'.ev x = s.ev x := by
 cases x with
 | tmp t =>
  refine h t ?_
  induction l with
  | nil => simp at hx
  | cons y l ih =>
   rcases jp.1 hx with e | hx2
   ·subst e; simp [Qk]
   ·cases y with
    | tmp t' => simp only [Qk]; exact jr _ (ih (fun t ht => h t (by simp only [Qk]; exact jr _ ht)) hx2)
    | const v => simp only [Qk]; exact ih (fun t ht => h t (by simp only [Qk]; exact ht)) hx2
    | global g => simp only [Qk]; exact ih (fun t ht => h t (by simp only [Qk]; exact ht)) hx2
    | func g => simp only [Qk]; exact ih (fun t ht => h t (by simp only [Qk]; exact ht)) hx2
 | _ => rfl
theorem YL {E : Nat → Ef} {F : Nat → FP} {L L' : Nat → Bool} {s0 : AS} {f : FP}
 (hF : ∀ m o, ops[m]? = some o → (F m).wt = o.dst ∧ (F m).wi = (E m).2.map (·.1) ∧ (F m).mi = (E m).1.ids ++ Gm (E m).2)
 (hd : ∀ m, m < ops.size → L m ≠ L' m → Av (F m) f) : ∀ m, m ≤ ops.size →
 (∀ t, t ∈ f.rt → Ua (Bd ops E L s0 m).tm t = Ua (Bd ops E L' s0 m).tm t) ∧ (∀ id, id ∈ f.ri → (Bd ops E L s0 m).heap id = (Bd ops E L' s0 m).heap id) ∧
  (∀ id, Kh f.wt id → (Bd ops E L s0 m).newOk id = (Bd ops E L' s0 m).newOk id)
 | 0, _ => ⟨fun _ _ => rfl, fun _ _ => rfl, fun _ _ => rfl⟩
 | m + 1, hm => by
  obtain ⟨h1, h2, h3⟩ := YL hF hd m (by omega)
  have hom : ops[m]? = some ops[m] := Array.getElem?_eq_getElem (by omega)
  obtain ⟨g1, g2, g3⟩ := hF m _ hom
  simp only [Bd, hom]
  have apart : L m ≠ L' m → Av (F m) f := hd m (by omega)
  have p1 : ∀ (S : AS) t, L m ≠ L' m → t ∈ f.rt → Ua (putE S ops[m].dst (E m)).tm t = Ua S.tm t := by
   intro S t hne ht
   rw [Zq, if_neg]
   intro hdst
   exact (apart hne).t1 t (g1.trans hdst) ht
  have p2 : ∀ (S : AS) id, L m ≠ L' m → id ∈ f.ri → (putE S ops[m].dst (E m)).heap id = S.heap id := by
   intro S id hne hid
   rw [Co, if_neg]
   intro hk
   exact (apart hne).i1 id (by rw [g2]; exact hk) hid
  have p3 : ∀ (S : AS) id, L m ≠ L' m → Kh f.wt id → (putE S ops[m].dst (E m)).newOk id = S.newOk id := by
   intro S id hne hid
   refine Q2 ?_
   rw [← g3]
   exact (apart hne).n2 id hid
  cases hL : L m <;> cases hL' : L' m <;> simp only [yt, yu]
  ·exact ⟨h1, h2, h3⟩
  ·have hne : L m ≠ L' m := by rw [hL, hL']; simp
   exact ⟨fun t ht => (h1 t ht).trans (p1 _ t hne ht).symm, fun id hid => (h2 id hid).trans (p2 _ id hne hid).symm, fun id hid => (h3 id hid).trans (p3 _ id hne hid).symm⟩
  ·have hne : L m ≠ L' m := by rw [hL, hL']; simp
   exact ⟨fun t ht => (p1 _ t hne ht).trans (h1 t ht), fun id hid => (p2 _ id hne hid).trans (h2 id hid), fun id hid => (p3 _ id hne hid).trans (h3 id hid)⟩
  ·refine ⟨fun t ht => ?_, fun id hid => ?_, fun id hid => ?_⟩
   ·rw [Zq, Zq, h1 t ht]
   ·rw [Co, Co, h2 id hid]
   ·have e0 := h3 id hid
    unfold AS.newOk at e0 ⊢
    simp only [AS.ment, putE, List.any_append] at e0 ⊢
    revert e0
    generalize ((match ops[m].dst with | some t => [(t, (E m).1)] | none => []).any fun x => x.2.ment id) = b1
    generalize ((E m).2.any fun x => (x.2.map (Da.ment id)).getD false) = b2
    generalize ((Bd ops E L s0 m).tm.any fun x => x.2.ment id) = c1
    generalize ((Bd ops E L s0 m).hp.any fun x => (x.2.map (Da.ment id)).getD false) = c2
    generalize ((Bd ops E L' s0 m).tm.any fun x => x.2.ment id) = d1
    generalize ((Bd ops E L' s0 m).hp.any fun x => (x.2.map (Da.ment id)).getD false) = d2
    generalize qz id 500000 = z
    cases b1 <;> cases b2 <;> cases c1 <;> cases c2 <;> cases d1 <;> cases d2 <;> cases z <;> simp
theorem QH {E : Nat → Ef} {H : List Nat} {s0 : AS} : ∀ (m : Nat), m ≤ ops.size → (∀ j o, j < m → ops[j]? = some o → KC H (Bd ops E (fun _ => true) s0 j) (E j)) → ∀ id, id ∈ H → ∀ L : Nat → Bool, ((Bd ops E L s0 m).heap id).map Da.kind = (s0.heap id).map Da.kind
 | 0, _, _, _, _, _ => rfl
 | m + 1, hm, hh, id, hid, L => by
  have ih := QH m (by omega) (fun j o hj => hh j o (by omega)) id hid
  have hom : ops[m]? = some ops[m] := Array.getElem?_eq_getElem (by omega)
  simp only [Bd, hom]
  cases hL : L m with
  | false => simp only [yu]; exact ih L
  | true =>
   simp only [yt]
   rw [Co]
   split
   ·rename_i hk
    rw [hh m _ (by omega) hom id hid hk]
    exact ih _
   ·exact ih L
theorem NJ {E : Nat → Ef} {L : Nat → Bool} {s0 : AS} : ∀ m, (Bd ops E L s0 m).n = s0.n
 | 0 => rfl
 | m + 1 => by
  simp only [Bd]
  split
  ·cases L m with
   | true => simp only [yt, putE]; exact NJ m
   | false => simp only [yu]; exact NJ m
  ·exact NJ m
theorem Sq {E E' : Nat → Ef} {L L' : Nat → Bool} {s0 : AS} : ∀ m, (∀ j, j < m → E j = E' j ∧ L j = L' j) → Bd ops E L s0 m = Bd ops E' L' s0 m
 | 0, _ => rfl
 | m + 1, h => by
  have ih := Sq (E := E) (E' := E') (L := L) (L' := L') (s0 := s0) m fun j hj => h j (by omega)
  simp only [Bd, ih, (h m (by omega)).1, (h m (by omega)).2]
theorem RH {E : Nat → Ef} {L : Nat → Bool} {s0 : AS} {i : Nat} : ∀ m, i ≤ m → (∀ j, i ≤ j → j < m → L j = false) → Bd ops E L s0 m = Bd ops E L s0 i
 | 0, h, _ => by
  have : i = 0 := by omega
  subst this; rfl
 | m + 1, h, hL => by
  by_cases he : i = m + 1
  ·subst he; rfl
  ·rw [← RH m (by omega) fun j h1 h2 => hL j h1 (by omega)]
   simp only [Bd, hL m (by omega) (by omega)]
   split <;> rfl
theorem TT {E : Nat → Ef} {F : Nat → FP} {L : Nat → Bool} {s0 : AS} {i : Nat} {o : Oper} (hi : ops[i]? = some o)
 (hF : ∀ m o, ops[m]? = some o → (F m).wt = o.dst ∧ (F m).wi = (E m).2.map (·.1) ∧ (F m).mi = (E m).1.ids ++ Gm (E m).2)
 (hLi : L i = false) (hd : ∀ m, m < ops.size → i < m → L m = true → Av (F m) (F i)) : ∀ m, i < m → m ≤ ops.size →
 Eqv (putE (Bd ops E L s0 m) o.dst (E i)) (Bd ops E (fun j => L j || qq j i) s0 m)
 | 0, h, _ => by omega
 | m + 1, h, hm => by
  by_cases he : m = i
  ·subst he
   have h1 : Bd ops E L s0 (m + 1) = Bd ops E L s0 m := by simp only [Bd, hLi]; split <;> rfl
   have h2 : Bd ops E (fun j => L j || qq j m) s0 m = Bd ops E L s0 m := Sq m fun j hj => by
    refine ⟨rfl, ?_⟩
    have : qq j m = false := by rw [← j7]; intro e; have := ju e; omega
    simp [this]
   have h3 : Bd ops E (fun j => L j || qq j m) s0 (m + 1) = putE (Bd ops E L s0 m) o.dst (E m) := by
    simp only [Bd, hi, Nat.beq_refl, Bool.or_true, yt]
    rw [h2]
   rw [h1, h3]
   exact Eqv.refl _
  ·have ih := TT (s0 := s0) hi hF hLi hd m (by omega) (by omega)
   have hom : ops[m]? = some ops[m] := Array.getElem?_eq_getElem (by omega)
   have hb : qq m i = false := by rw [← j7]; intro e; exact he (ju e)
   obtain ⟨g1, g2, g3⟩ := hF m _ hom
   obtain ⟨k1, k2, k3⟩ := hF i _ hi
   simp only [Bd, hom, hb, Bool.or_false]
   cases hL : L m with
   | false => exact ih
   | true =>
    simp only [yt]
    have hind := hd m (by omega) (by omega) hL
    refine ⟨by simp only [putE]; exact ih.n, fun t => ?_, fun id => ?_⟩
    ·rw [Zq, Zq, Zq, ih.tm t, Zq]
     by_cases h1 : ops[m].dst = some t
     ·rw [if_pos h1, if_neg, if_pos h1]
      intro h2
      exact hind.t3 t (g1.trans h1) (k1.trans h2)
     ·rw [if_neg h1, if_neg h1]
    ·rw [Co, Co, Co, ih.hp id, Co]
     by_cases h1 : id ∈ (E m).2.map (·.1)
     ·rw [if_pos h1, if_neg, if_pos h1]
      intro h2
      exact hind.i3 id (by rw [g2]; exact h1) (by rw [k2]; exact h2)
     ·rw [if_neg h1, if_neg h1]
end
theorem C1 {p q : Nat → Bool} {i : Nat} (hpq : ∀ j, q j = true → p j = true) (hp : p i = true) (hq : q i = false) : ∀ n, i < n → (yo n).countP q < (yo n).countP p := by
 have hle : ∀ n, (yo n).countP q ≤ (yo n).countP p := fun n => List.countP_mono_left fun j _ h => hpq j h
 intro n
 induction n with
 | zero => intro h; omega
 | succ n ih =>
  intro h
  rw [List.range_succ, List.countP_append, List.countP_append]
  by_cases he : i = n
  ·subst he
   have := hle i
   simp [hp, hq]
   omega
  ·have := ih (by omega)
   have h2 : [n].countP q ≤ [n].countP p := List.countP_mono_left fun j _ h => hpq j h
   omega
section
variable {P : Program} {n0 : Nat} {A : Fx} {O0 : Nat → Prop} {w0 : World} {G : Gd} {ops : Array Oper} {s0 : AS} {E : Nat → Ef} {F : Nat → FP} {anc : Nat → List Nat} {H : List Nat} {Q : Exit → Act → World → Prop}
def Mn (listed : Array Bool) (j : Nat) : Bool := listed.getD j false
def WN (ops : Array Oper) (L : Nat → Bool) : Prop := ∀ j o, ops[j]? = some o → L j = true → ∀ e, e ∈ o.after.toList → Region.binds .any e = true → L e.on = true
theorem QA (hPM : ∀ m o, ops[m]? = some o → PM G H ops s0 E F anc m o) {L : Nat → Bool} (hc : WN ops L) : ∀ (b m : Nat), m < b → m < ops.size → L m = true → ∀ x, x ∈ anc m → L x = true
 | 0, _, h, _, _, _, _ => by omega
 | b + 1, m, hb, hm, hL, x, hx => by
  have hom : ops[m]? = some ops[m] := Array.getElem?_eq_getElem hm
  obtain ⟨e, he, hbn, hxe⟩ := (hPM m _ hom).up x hx
  have h1 := hc m _ hom hL e he hbn
  have h2 := (hPM m _ hom).back e he hbn
  rcases hxe with rfl | hxe
  ·exact h1
  ·exact QA hPM hc b e.on (by omega) (by omega) h1 x hxe
theorem WD {listed : Array Bool} {i : Nat} : i ∈ Region.ready .any ops listed ↔ i < ops.size ∧ listed.getD i true = false ∧ ∃ o, ops[i]? = some o ∧ ∀ e, e ∈ o.after.toList → Region.binds .any e = true → listed.getD e.on false = true := by
 unfold Region.ready
 rw [List.mem_filter, List.mem_range]
 constructor
 ·rintro ⟨h1, h2⟩
  have hom : ops[i]? = some ops[i] := Array.getElem?_eq_getElem h1
  rw [hom] at h2
  simp only [j9, qs, jd, yc] at h2
  refine ⟨h1, h2.1, _, hom, fun e he hb => ?_⟩
  have h3 := h2.2
  rw [Array.all_eq_true'] at h3
  have := h3 e (Array.mem_toList_iff.1 he)
  rw [hb] at this
  simpa using this
 ·rintro ⟨h1, h2, o, ho, h3⟩
  refine ⟨h1, ?_⟩
  rw [ho]
  simp only [j9, qs, jd, yc]
  refine ⟨h2, ?_⟩
  rw [Array.all_eq_true']
  intro e he
  cases hb : Region.binds .any e with
  | false => rfl
  | true => simpa using h3 e (Array.mem_toList_iff.2 he) hb
theorem EI (hPM : ∀ m o, ops[m]? = some o → PM G H ops s0 E F anc m o) {listed : Array Bool} (hsz : listed.size = ops.size) (hr : Region.ready .any ops listed = []) : ∀ (b j : Nat), j < b → j < ops.size → Mn listed j = true
 | 0, _, h, _ => by omega
 | b + 1, j, hb, hj => by
  by_cases h : Mn listed j = true
  ·exact h
  ·exfalso
   have hom : ops[j]? = some ops[j] := Array.getElem?_eq_getElem hj
   have : j ∈ Region.ready .any ops listed := by
    refine WD.2 ⟨hj, ?_, _, hom, fun e he hbn => ?_⟩
    ·unfold Mn at h
     simp only [j7] at h
     have hjl : j < listed.size := by omega
     simp [Array.getD, hjl] at h ⊢
     exact h
    ·have := (hPM j _ hom).back e he hbn
     exact EI hPM hsz hr b e.on (by omega) (by omega)
   rw [hr] at this
   simp at this
theorem JO {op : Op} (h : Su op = true) : Ft op = false := by
 cases op <;> first | rfl | simp [Su] at h
theorem QM {op : Op} (h : Hf op = true) : Ft op = false := by
 cases op <;> first | rfl | simp [Hf] at h
theorem YK.of_stL (hPM : ∀ m o, ops[m]? = some o → PM G H ops s0 E F anc m o) {L : Nat → Bool} (hc : WN ops L) {i : Nat} {o : Oper} (hi : ops[i]? = some o) (hLi : L i = false)
 (hready : ∀ e, e ∈ o.after.toList → Region.binds .any e = true → L e.on = true) :
 YK (Bd ops E (fun _ => true) s0 i) (Bd ops E L s0 ops.size) o ∧ (∀ t, t ∈ (F i).rt → Ua (Bd ops E L s0 ops.size).tm t = Ua (Bd ops E (fun _ => true) s0 i).tm t) ∧
  (∀ m, m < ops.size → i < m → L m = true → Av (F m) (F i)) := by
 have hin : i < ops.size := (Array.getElem?_eq_some_iff.1 hi).1
 have hF : ∀ m o, ops[m]? = some o → (F m).wt = o.dst ∧ (F m).wi = (E m).2.map (·.1) ∧ (F m).mi = (E m).1.ids ++ Gm (E m).2 := fun m o ho => ⟨(hPM m o ho).fp.wt, (hPM m o ho).fp.wi, (hPM m o ho).fp.mi⟩
 have hgt : ∀ m, m < ops.size → i < m → L m = true → Av (F m) (F i) := by
  intro m hm him hL
  have hom : ops[m]? = some ops[m] := Array.getElem?_eq_getElem hm
  rcases (hPM m _ hom).ind i him with h | h
  ·have := QA hPM hc (m + 1) m (by omega) hm hL i h
   rw [hLi] at this; simp at this
  ·exact (IP h).symm
 have hd : ∀ m, m < ops.size → L m ≠ qz m i → Av (F m) (F i) := by
  intro m hm hne
  rcases Nat.lt_trichotomy m i with h | h | h
  ·have hb : qz m i = true := by rw [q6]; exact h
   have hL : L m = false := by
    rw [hb] at hne
    simpa using hne
   rcases (hPM i _ hi).ind m h with h' | h'
   ·exfalso
    obtain ⟨e, he, hbn, hxe⟩ := (hPM i _ hi).up m h'
    have h1 := hready e he hbn
    rcases hxe with rfl | hxe
    ·rw [hL] at h1; simp at h1
    ·have h2 := (hPM i _ hi).back e he hbn
     have := QA hPM hc (e.on + 1) e.on (by omega) (by omega) h1 m hxe
     rw [hL] at this; simp at this
   ·exact IP h'
  ·subst h
   exfalso
   apply hne
   rw [hLi]
   have : qz m m = false := by rw [← j7, q6]; omega
   exact this.symm
  ·have hb : qz m i = false := by
    rw [← j7, q6]; omega
   have hL : L m = true := by
    rw [hb] at hne
    simpa using hne
   exact hgt m hm h hL
 obtain ⟨a1, a2, a3⟩ := YL (ops := ops) (s0 := s0) (f := F i) hF hd ops.size (jo _)
 have hst : Bd ops E (fun j => qz j i) s0 ops.size = Bd ops E (fun _ => true) s0 i := by
  rw [RH (i := i) ops.size (by omega) fun j h1 h2 => by
   show qz j i = false
   rw [← j7, q6]; omega]
  exact Sq i fun j hj => ⟨rfl, by rw [q6]; exact hj⟩
 rw [hst] at a1 a2 a3
 have fp := (hPM i _ hi).fp
 refine ⟨⟨fun x hx => AK hx fun t ht => a1 t (fp.rt t ht), fun hmv hsp x hx d hd' id hm => a2 id ((fp.ri hmv x hx d hd' id (.inl hm)).resolve_right fun h => by rw [hsp] at h; simp at h),
  fun hsp x hx d hd' id hm => ?_, fun id hid => a3 id (by rw [fp.wt]; exact hid),
  fun hcl hsp x hx bid p hev ρ d hb id hm => a2 id ((fp.ri (JO hcl) x hx _ hev id (.inr ⟨hcl, by simp only [Gx, hb]; exact Kx.1 hm⟩)).resolve_right fun h => by rw [hsp] at h; simp at h)⟩, a1, hgt⟩
 rcases fp.ri (QM hsp) x hx d hd' id (.inl hm) with h | h
 ·rw [a2 id h]
 ·have hh : ∀ j o, ops[j]? = some o → KC H (Bd ops E (fun _ => true) s0 j) (E j) := fun j o ho => (hPM j o ho).hard
  rw [QH ops.size (jo _) (fun j o _ ho => hh j o ho) id h.2, QH i (Nat.le_of_lt hin) (fun j o _ ho => hh j o ho) id h.2]
theorem TG {s : AS} {dst : Option Tmp} {e : Ef} (hd : ∀ t, dst = some t → t < s.n) {Out : Type} {k : AS → Option Out} : Af s dst e.1 e.2 k = k (putE s dst e) := by
 cases dst with
 | none => rfl
 | some t =>
  have : qz t s.n = true := by rw [q6]; exact hd t rfl
  simp only [Af, this, yt, putE]
  rfl
theorem K2 (hG : Oh P A.I G) (hfz : Cx G A O0) (hPM : ∀ m o, ops[m]? = some o → PM G H ops s0 E F anc m o)
 (hQ : ∀ σ φ a w, La n0 A O0 w0 (Bd ops E (fun _ => true) s0 ops.size) σ φ a w → Q .normal a w) :
 ∀ (fuel : Nat) (listed : Array Bool) (σ : Nat → Value) (φ : Nat → List Nat) (a : Act) (w : World), listed.size = ops.size → (yo ops.size).countP (fun j => !listed.getD j true) ≤ fuel →
  WN ops (Mn listed) → La n0 A O0 w0 (Bd ops E (Mn listed) s0 ops.size) σ φ a w → wpAny P .any ops Q fuel listed a w := by
 intro fuel
 have fin' : ∀ (listed : Array Bool) (σ : Nat → Value) (φ : Nat → List Nat) (a : Act) (w : World), listed.size = ops.size → Region.ready .any ops listed = [] →
  La n0 A O0 w0 (Bd ops E (Mn listed) s0 ops.size) σ φ a w → Q .normal a w := by
  intro listed σ φ a w hsz hr h
  refine hQ σ φ a w ?_
  rw [← Sq (L := Mn listed) ops.size fun j hj => ⟨rfl, EI hPM hsz hr (j + 1) j (by omega) hj⟩]
  exact h
 induction fuel with
 | zero =>
  intro listed σ φ a w hsz hcnt hc h
  have hr : Region.ready .any ops listed = [] := by
   rw [List.eq_nil_iff_forall_not_mem]
   intro i hi
   obtain ⟨h1, h2, _⟩ := WD.1 hi
   have : 0 < (yo ops.size).countP (fun j => !listed.getD j true) := List.countP_pos_iff.2 ⟨i, List.mem_range.2 h1, by rw [h2]; rfl⟩
   omega
  exact ⟨hr, fin' listed σ φ a w hsz hr h⟩
 | succ fuel ih =>
  intro listed σ φ a w hsz hcnt hc h
  refine ⟨fun hr => fin' listed σ φ a w hsz hr h, fun i hi => ?_⟩
  obtain ⟨hin, hun, o, ho, hed⟩ := WD.1 hi
  have hil : i < listed.size := by omega
  have hLi : Mn listed i = false := by
   unfold Mn
   simp [Array.getD, hil] at hun ⊢
   exact hun
  obtain ⟨hag, htm, hgt⟩ := YK.of_stL hPM hc ho hLi hed
  have pm := hPM i o ho
  have hF : ∀ m o, ops[m]? = some o → (F m).wt = o.dst ∧ (F m).wi = (E m).2.map (·.1) ∧ (F m).mi = (E m).1.ids ++ Gm (E m).2 := fun m o ho => ⟨(hPM m o ho).fp.wt, (hPM m o ho).fp.wi, (hPM m o ho).fp.mi⟩
  have hadd := TT (s0 := s0) (L := Mn listed) ho hF hLi hgt ops.size hin (jo _)
  have hset : ∀ j, Mn (listed.setIfInBounds i true) j = (Mn listed j || qq j i) := by
   intro j
   unfold Mn
   by_cases hji : j = i
   ·subst hji
    simp [Array.getD, hil]
   ·have hb : qq j i = false := by rw [← j7]; intro e; exact hji (ju e)
    rw [hb, Bool.or_false]
    simp only [Array.getD_eq_getD_getElem?]
    rw [Array.getElem?_setIfInBounds_ne (fun e => hji e.symm)]
  have next : ∀ σ φ a w, La n0 A O0 w0 (putE (Bd ops E (Mn listed) s0 ops.size) o.dst (E i)) σ φ a w → wpAny P .any ops Q fuel (listed.setIfInBounds i true) a w := by
   intro σ φ a w h
   have h2 := h.eqv hadd
   have h3 : Bd ops E (fun j => Mn listed j || qq j i) s0 ops.size = Bd ops E (Mn (listed.setIfInBounds i true)) s0 ops.size := Sq ops.size fun j _ => ⟨rfl, (hset j).symm⟩
   rw [h3] at h2
   refine ih (listed.setIfInBounds i true) σ φ a w (by simpa using hsz) ?_ ?_ h2
   ·have hlt := C1 (p := fun j => !listed.getD j true) (q := fun j => !(listed.setIfInBounds i true).getD j true) (i := i) ?_ (by simp only [hun, Bool.not_false]) ?_ ops.size hin
    ·omega
    ·intro j hj
     by_cases hji : j = i
     ·subst hji; simp [hun]
     ·simp only [Array.getD_eq_getD_getElem?] at hj ⊢
      rw [Array.getElem?_setIfInBounds_ne (fun e => hji e.symm)] at hj
      exact hj
    ·simp [Array.getD, hil]
   ·intro j oj hoj hL e he hbn
    rw [hset] at hL ⊢
    cases hLj : Mn listed j with
    | true => rw [hc j oj hoj hLj e he hbn]; rfl
    | false =>
     rw [hLj, yj] at hL
     have := ju hL
     subst this
     rw [ho] at hoj
     simp only [jc] at hoj
     subst hoj
     have := hed e he hbn
     unfold Mn
     rw [this]; rfl
  have hdn : ∀ t, o.dst = some t → t < (Bd ops E (Mn listed) s0 ops.size).n := fun t ht => by rw [NJ]; exact pm.dst t ht
  have run : OF G (Bd ops E (fun _ => true) s0 i) o (E i) → o.wp P a w (wpAny P .any ops Q fuel (listed.setIfInBounds i true)) Q := by
   intro hE
   have hE' := hE.congr hag
   have : OC G (Bd ops E (Mn listed) s0 ops.size) o some = some (putE (Bd ops E (Mn listed) s0 ops.size) o.dst (E i)) := by
    rw [← RX]
    rw [hE']
    exact TG hdn
   refine Oper.wp_mono ?_ (JR hG hfz h this)
   rintro a w ⟨s2, σ', φ', h1, h2⟩
   simp only [jc] at h1
   subst h1
   exact next σ' φ' a w h2
  have skp : E i = (.und, []) → wpAny P .any ops Q fuel (listed.setIfInBounds i true) (a.put o.dst undef) w := by
   intro hE
   have := RT (dst := o.dst) (k := some) (out := putE (Bd ops E (Mn listed) s0 ops.size) o.dst (.und, [])) h (TG (e := (.und, [])) hdn)
   obtain ⟨s2, σ', φ', h1, h2⟩ := this
   simp only [jc] at h1
   subst h1
   rw [← hE] at h2
   exact next σ' φ' _ w h2
  have hst := pm.step
  unfold wpOp
  rw [ho]
  simp only []
  unfold JA at hst
  cases hg : o.guard with
  | none =>
   rw [hg] at hst
   rw [if_pos (by simp [Region.wanted, hg])]
   exact .inl (run hst)
  | some g =>
   obtain ⟨j, want⟩ := g
   rw [hg] at hst
   obtain ⟨t, ht, hst⟩ := hst
   have htr : t ∈ (F i).rt := pm.fp.rg j want t hg ht
   have hlook := htm t htr
   rcases hst with ⟨β, hd, hst⟩ | ⟨hd, hst⟩
   ·rw [hd] at hlook
    have hy := LE h ht hlook
    have hwd : Region.wanted o (yielded ops a.tmps) = (some β == some want) := by simp [Region.wanted, hg, hy]
    rw [hwd]
    by_cases hβ : β = want
    ·subst hβ
     rw [if_pos (by simp)]
     rw [if_pos rfl] at hst
     exact .inl (run hst)
    ·rw [if_neg (by simpa using hβ)]
     rw [if_neg hβ] at hst
     exact skp hst
   ·rw [hd] at hlook
    have hy := HG h ht hlook
    have hwd : Region.wanted o (yielded ops a.tmps) = false := by simp [Region.wanted, hg, hy]
    rw [hwd, if_neg (by simp)]
    exact skp hst
end
structure Mg (s s' : AS) : Prop extends Eqv s s' where
 nw : ∀ id, s'.newOk id = s.newOk id
theorem Mg.refl (s : AS) : Mg s s := ⟨Eqv.refl s, fun _ => rfl⟩
theorem Mg.agr {s s' : AS} (h : Mg s s') (o : Oper) : YK s s' o :=
 ⟨fun _ hx => AK hx fun t _ => h.tm t, fun _ _ _ _ _ _ id _ => h.hp id, fun _ _ _ _ _ id _ => by rw [h.hp id], fun id _ => h.nw id, fun _ _ _ _ _ _ _ _ _ _ id _ => h.hp id⟩
theorem Mg.symm {s s' : AS} (h : Mg s s') : Mg s' s := ⟨h.toEqv.symm, fun id => (h.nw id).symm⟩
theorem Mg.trans {s1 s2 s3 : AS} (h : Mg s1 s2) (h' : Mg s2 s3) : Mg s1 s3 := ⟨h.toEqv.trans h'.toEqv, fun id => (h'.nw id).trans (h.nw id)⟩
theorem Mg.putE {s s' : AS} (h : Mg s s') (dst : Option Tmp) (e : Ef) : Mg (KF.putE s dst e) (KF.putE s' dst e) := by
 refine ⟨⟨h.n, fun t => ?_, fun id => ?_⟩, fun id => ?_⟩
 ·rw [Zq, Zq, h.tm t]
 ·rw [Co, Co, h.hp id]
 ·have e0 := h.nw id
  unfold AS.newOk at e0 ⊢
  simp only [AS.ment, KF.putE, List.any_append] at e0 ⊢
  revert e0
  generalize ((match dst with | some t => [(t, e.1)] | none => []).any fun x => x.2.ment id) = b1
  generalize (e.2.any fun x => (x.2.map (Da.ment id)).getD false) = b2
  generalize (s.tm.any fun x => x.2.ment id) = c1
  generalize (s.hp.any fun x => (x.2.map (Da.ment id)).getD false) = c2
  generalize (s'.tm.any fun x => x.2.ment id) = d1
  generalize (s'.hp.any fun x => (x.2.map (Da.ment id)).getD false) = d2
  generalize qz id 500000 = z
  cases b1 <;> cases b2 <;> cases c1 <;> cases c2 <;> cases d1 <;> cases d2 <;> cases z <;> simp
theorem Mg.refine {s : AS} {t : Nat} {β : Bool} (hd : Ua s.tm t = some (.t .b β)) : Mg s ⟨s.n, (t, .t .b β) :: s.tm, s.hp⟩ := by
 refine ⟨⟨rfl, fun t' => ?_, fun _ => rfl⟩, fun id => ?_⟩
 ·rw [Rb]
  split
  ·rename_i e; subst e; exact hd.symm
  ·rfl
 ·simp [AS.newOk, AS.ment, D.ment]
theorem HO {s s' : AS} (h : ∀ j, s'.heap j = s.heap j) (d : D) : Gx s d = Gx s' d := by
 cases d with
 | ptr id p => simp only [Gx, h id]
 | _ => rfl
def P4 (s : AS) (u : List (Nat × Option Da)) : Prop := u = [] ∨ ∃ id b tl, u = (id, some b) :: tl ∧ (s.heap id).map Da.kind = some b.kind
theorem NL {s : AS} {dst : Option Tmp} {τ : Ty} {id i : Nat} {e : Ty} {xs : List (T e)} {k : Nat} {ef : Ef} (hs : (s.heap id).map Da.kind = some (none, some (e, ja xs)))
 (h : Nn s dst τ id i e xs k (fun d u => some (d, u)) = some ef) : P4 s ef.2 := by
 unfold Nn at h
 split at h
 ·cases hb : qq i k with
  | false => rw [hb] at h; simp at h
  | true =>
   rw [hb] at h
   simp only [yt, qc] at h
   obtain ⟨x, hx, h⟩ := h
   simp only [Ba, jc] at h
   obtain ⟨_, rfl⟩ := h
   exact .inr ⟨id, _, _, rfl, hs⟩
 ·simp at h
theorem EW {α : Type} {c : Bool} {a b : Option α} {x : α} (h : (bif c then a else b) = some x) : a = some x ∨ b = some x := by cases c <;> simp_all
theorem G7 {G : Gd} {s : AS} {o : Oper} {ef : Ef} (hk : Zw o.op = true) (h : Jb G s o (fun d u => some (d, u)) = some ef) : P4 s ef.2 := by
 cases ho : o.op with
 | load t x =>
  simp only [Jb, ho] at h
  split at h
  ·split at h
   ·split at h
    ·split at h
     ·simp only [jc] at h; rw [← h]; exact .inl rfl
     ·simp at h
    ·simp at h
   ·simp at h
  ·split at h
   ·simp only [jc] at h; rw [← h]; exact .inl rfl
   ·simp at h
  ·rename_i τ id i path _ _
   cases hml : Nx G o.dst with
   | true =>
    rw [hml] at h
    simp only [yt] at h
    split at h
    ·rename_i hb hz; exact NL (by rw [hb]; rfl) h
    ·rename_i hb hz; exact NL (by rw [hb]; rfl) h
    ·simp at h
   | false =>
    rw [hml] at h
    simp only [yu] at h
    split at h
    ·rename_i e dp xs hb
     simp only [qc] at h
     obtain ⟨x, hx, h⟩ := h
     split at h
     ·split at h
      ·rcases EW h with h | h
       ·simp only [jc] at h; rw [← h]; exact .inl rfl
       ·split at h
        ·simp only [Ba, jc] at h
         obtain ⟨_, rfl⟩ := h
         exact .inr ⟨id, _, _, rfl, by rw [hb]; rfl⟩
        ·simp at h
      ·simp at h
     ·simp at h
    ·split at h
     ·simp only [Ba, jc] at h
      rw [← h.2]; exact .inl rfl
     ·simp at h
    ·simp at h
  ·simp at h
 | store t x v =>
  simp only [Jb, ho] at h
  split at h
  ·rename_i τ id path dv _ _ _
   split at h
   ·rename_i ρ d hb
    split at h
    ·split at h
     ·simp only [Ba, jc] at h
      obtain ⟨_, rfl⟩ := h
      exact .inr ⟨id, _, _, rfl, by rw [hb]; rfl⟩
     ·simp at h
    ·simp at h
   ·simp at h
  ·rename_i τ id i path dv _ _ _
   split at h
   ·rename_i e dp xs hb
    split at h
    ·split at h
     ·cases hc : (dp || e.flat) with
      | true =>
       rw [hc] at h
       simp only [yt] at h
       split at h
       ·simp only [Ba, qc] at h
        obtain ⟨_, x, hx, h⟩ := h
        split at h
        ·simp only [jc] at h; rw [← h]
         exact .inr ⟨id, _, _, rfl, by rw [hb]; simp [Da.kind]⟩
        ·simp at h
       ·simp at h
      | false =>
       rw [hc] at h
       simp only [yu] at h
       split at h
       ·simp only [qc] at h
        obtain ⟨x, hx, h⟩ := h
        split at h
        ·simp only [jc] at h; rw [← h]
         exact .inr ⟨id, _, _, rfl, by rw [hb]; simp [Da.kind]⟩
        ·simp at h
       ·simp at h
     ·simp at h
    ·simp at h
   ·rename_i e xs i0 x path0 τ0 d0 hb
    split at h
    ·split at h
     ·split at h
      ·simp only [Ba] at h
       obtain ⟨_, _, h⟩ := h
       split at h
       ·simp only [jc] at h; rw [← h]
        exact .inr ⟨id, _, _, rfl, by rw [hb]; simp [Da.kind]⟩
       ·simp at h
      ·simp at h
     ·simp at h
    ·simp at h
   ·simp at h
  ·simp at h
 | _ => rw [ho] at hk; simp [Zw] at hk
theorem SX {G : Gd} {s : AS} {o : Oper} {Out : Type} {K : D → List (Nat × Option Da) → Option Out} (hk : Zw o.op = true) : Ot G s o K = Jb G s o K := by
 have : Zt o.op = false := by
  cases ho : o.op <;> first | rfl | (rw [ho] at hk; simp [Zw] at hk)
 unfold Ot
 rw [this]; rfl
theorem CK {G : Gd} {s : AS} {o : Oper} {ef : Ef} {H : List Nat} (h : OF G s o ef) (hb : NI H o.op ef.2 = true) : KC H s ef := by
 intro id hid hm
 unfold NI at hb
 split at hb
 ·simp at hid
 ·cases hk : Zw o.op with
  | false =>
   rw [hk] at hb
   simp only [yu, yc] at hb
   exact absurd hm (Zr hb id hid)
  | true =>
   rw [hk] at hb
   simp only [yt, yc] at hb
   have hkp := G7 hk (by rw [← SX hk]; exact h _ fun d u => some (d, u))
   rcases hkp with h0 | ⟨id0, b, tl, h0, h1⟩
   ·rw [h0] at hm; simp at hm
   ·rw [h0] at hm hb ⊢
    rcases jp.1 hm with e | hm
    ·subst e
     simp only [Rb, if_true, Option.join_some, j9]
     exact h1.symm
    ·exact absurd hm (Zr hb id hid)
theorem YI {H : List Nat} {x : Nat} : ∀ {l : List Nat}, x ∈ l → x ∈ PD H l ∨ x ∈ H
 | y :: l, h => by
  simp only [PD]
  rcases jp.1 h with e | h
  ·subst e
   cases hm : Hq H x with
   | true => exact .inr (DB.1 hm)
   | false => exact .inl (by simp)
  ·refine (YI h).imp (fun h => ?_) id
   cases Hq H y with
   | true => exact h
   | false => exact jr _ h
theorem LL {s : AS} {c : Bool} : ∀ {l : List Operand} {x : Operand} {d : D} {id : Nat}, x ∈ l → s.ev x = some d → (d.ment id = true ∨ (c = true ∧ id ∈ Gx s d)) → id ∈ Hy s c l
 | [], _, _, _, h, _, _ => by simp at h
 | y :: l, x, d, id, h, hd, hm => by
  rcases jp.1 h with e | h
  ·subst e
   simp only [Hy, hd]
   refine qo _ (jl.2 ?_)
   refine hm.imp Kx.1 ?_
   rintro ⟨rfl, h⟩
   exact h
  ·have ih := LL h hd hm
   simp only [Hy]
   split
   ·exact qp _ ih
   ·exact ih
section
variable {P : Program} {n0 : Nat} {A : Fx} {O0 : Nat → Prop} {w0 : World} {G : Gd} {ops : Array Oper} {s0 : AS} {E : Nat → Ef} {F : Nat → FP} {anc : Nat → List Nat} {H : List Nat} {Q : Exit → Act → World → Prop}
variable {Out : Type} {k : AS → Option Out} {out : Out}
theorem PM.congr {E' : Nat → Ef} {F' : Nat → FP} {anc' : Nat → List Nat} {m : Nat} {o : Oper} (h : PM G H ops s0 E F anc m o) (hE : ∀ j, j ≤ m → E j = E' j ∧ F j = F' j ∧ anc j = anc' j) : PM G H ops s0 E' F' anc' m o := by
 have hst : Bd ops E (fun _ => true) s0 m = Bd ops E' (fun _ => true) s0 m := Sq m fun j hj => ⟨(hE j (by omega)).1, rfl⟩
 obtain ⟨e1, e2, e3⟩ := hE m (jo _)
 refine ⟨by rw [← hst, ← e1]; exact h.step, by rw [← hst, ← e1, ← e2]; exact h.fp, h.dst, h.back, ?_, ?_, by rw [← hst, ← e1]; exact h.hard⟩
 ·intro x hx
  rw [← e3] at hx
  obtain ⟨e, he, hb, hxe⟩ := h.up x hx
  refine ⟨e, he, hb, hxe.imp id fun hxe => ?_⟩
  rw [← (hE e.on (Nat.le_of_lt (h.back e he hb))).2.2]
  exact hxe
 ·intro j hj
  rw [← e3, ← e2, ← (hE j (by omega)).2.1]
  exact h.ind j hj
theorem DI : ∀ {r l : List Nat} {x : Nat}, x ∈ CI r l → x ∈ r ∨ x ∈ l
 | [], _, _, h => .inr h
 | y :: r, l, x, h => by
  simp only [CI] at h
  rcases DI h with h | h
  ·exact .inl (jr _ h)
  ·cases hm : Hq l y with
   | true => rw [hm] at h; exact .inr h
   | false =>
    rw [hm] at h
    rcases jp.1 h with h | h
    ·exact .inl (by rw [h]; simp)
    ·exact .inr h
theorem NC {prev : List (Nat × (List Nat × FP))} : ∀ {es : List Edge} {l : List Nat} {x : Nat}, x ∈ VE prev es l → x ∈ l ∨ ∃ e, e ∈ es ∧ Region.binds .any e = true ∧ (x = e.on ∨ ∃ p, Ua prev e.on = some p ∧ x ∈ p.1)
 | [], l, x, h => .inl h
 | e :: es, l, x, h => by
  simp only [VE] at h
  cases hb : Region.binds .any e with
  | false =>
   rw [hb] at h
   rcases NC h with h | ⟨e', he', hb', hx⟩
   ·exact .inl h
   ·exact .inr ⟨e', jr _ he', hb', hx⟩
  | true =>
   rw [hb] at h
   rcases NC h with h | ⟨e', he', hb', hx⟩
   ·rcases DI h with h | h
    ·refine .inr ⟨e, by simp, hb, ?_⟩
     rcases jp.1 h with h | h
     ·exact .inl h
     ·split at h
      ·rename_i a f hp; exact .inr ⟨_, hp, h⟩
      ·simp at h
    ·exact .inl h
   ·exact .inr ⟨e', jr _ he', hb', hx⟩
theorem YT : ∀ (l : List Oper) (i : Nat) (prev : List (Nat × (List Nat × FP))) (s : AS) (E : Nat → Ef) (F : Nat → FP) (anc : Nat → List Nat), ops.toList.drop i = l → Bs G H ops l i prev s k = some out →
 Mg (Bd ops E (fun _ => true) s0 i) s → (∀ j, j < i → Ua prev j = some (anc j, F j)) → (∀ m o, m < i → ops[m]? = some o → PM G H ops s0 E F anc m o) →
 ∃ E F anc, (∀ m o, ops[m]? = some o → PM G H ops s0 E F anc m o) ∧ ∃ sf, k sf = some out ∧ Eqv (Bd ops E (fun _ => true) s0 ops.size) sf
 | [], i, prev, s, E, F, anc, hl, he, hs, hprev, hPM => by
  have hi : ops.size ≤ i := by
   have := congrArg ja hl
   simp at this
   omega
  have hst : Bd ops E (fun _ => true) s0 i = Bd ops E (fun _ => true) s0 ops.size := by
   clear hs he hl hprev hPM
   induction i with
   | zero =>
    have : ops.size = 0 := by omega
    rw [this]
   | succ i ih =>
    by_cases h : ops.size = i + 1
    ·rw [h]
    ·rw [← ih (by omega)]
     have : ops[i]? = none := Array.getElem?_eq_none (by omega)
     simp only [Bd, this]
  refine ⟨E, F, anc, fun m o ho => hPM m o ?_ ho, s, he, by rw [← hst]; exact hs.toEqv⟩
  have := (Array.getElem?_eq_some_iff.1 ho).1
  omega
 | o :: l, i, prev, s, E, F, anc, hl, he, hs, hprev, hPM => by
  have hi : i < ops.size := by
   have := congrArg ja hl
   simp at this
   omega
  have hoi : ops[i]? = some o := by
   have h1 := congrArg (·[0]?) hl
   simpa using h1
  have hl' : ops.toList.drop (i + 1) = l := by
   have h1 := congrArg (List.drop 1) hl
   simpa [qk, Nat.add_comm] using h1
  have next : ∀ (an : List Nat) (f : FP) (e : Ef) (sx : AS), an = VE prev o.after.toList [] → (∀ e, e ∈ o.after.toList → Region.binds .any e = true → e.on < i) → Wv an f prev = true → Mg s sx →
   JA G ops (Bd ops E (fun _ => true) s0 i) o e → U0 H ops (Bd ops E (fun _ => true) s0 i) o e f → KC H (Bd ops E (fun _ => true) s0 i) e → Af sx o.dst e.1 e.2 (fun s' => Bs G H ops l (i + 1) ((i, (an, f)) :: prev) s' k) = some out →
   ∃ E F anc, (∀ m o, ops[m]? = some o → PM G H ops s0 E F anc m o) ∧ ∃ sf, k sf = some out ∧ Eqv (Bd ops E (fun _ => true) s0 ops.size) sf := by
   intro an f e sx han hback hok hsx hstep hfp hhard hfin
   have hdst : ∀ t, o.dst = some t → t < sx.n := by
    intro t ht
    unfold Af at hfin
    rw [ht] at hfin
    simp only at hfin
    cases hb : qz t sx.n with
    | true => rwa [q6] at hb
    | false => rw [hb] at hfin; simp at hfin
   rw [TG hdst] at hfin
   have hn : sx.n = s0.n := by rw [hsx.n, hs.n, NJ]
   have hEi : ∀ j, j < i → E j = (fun j => if j = i then e else E j) j ∧ F j = (fun j => if j = i then f else F j) j ∧ anc j = (fun j => if j = i then an else anc j) j := by
    intro j hj
    have : j ≠ i := by omega
    simp [this]
   have hst : Bd ops E (fun _ => true) s0 i = Bd ops (fun j => if j = i then e else E j) (fun _ => true) s0 i := Sq i fun j hj => ⟨(hEi j hj).1, rfl⟩
   refine YT l (i + 1) _ _ (fun j => if j = i then e else E j) (fun j => if j = i then f else F j) (fun j => if j = i then an else anc j) hl' hfin ?_ ?_ ?_
   ·have : Bd ops (fun j => if j = i then e else E j) (fun _ => true) s0 (i + 1) = putE (Bd ops E (fun _ => true) s0 i) o.dst e := by
     rw [hst]
     simp only [Bd, hoi, yt, if_true]
    rw [this]
    exact (hs.trans hsx).putE _ _
   ·intro j hj
    rw [Rb]
    by_cases hji : i = j
    ·subst hji; simp
    ·have hne : j ≠ i := fun e => hji e.symm
     rw [if_neg hji, hprev j (by omega)]
     simp [hne]
   ·intro m om hm hom
    by_cases hmi : m = i
    ·subst hmi
     rw [hoi] at hom
     simp only [jc] at hom
     subst hom
     refine ⟨?_, ?_, fun t ht => by rw [← hn]; exact hdst t ht, hback, ?_, ?_, by rw [← hst]; simpa using hhard⟩
     ·rw [← hst]; simpa using hstep
     ·rw [← hst]; simpa using hfp
     ·intro x hx
      simp only [if_true] at hx
      rw [han] at hx
      rcases NC hx with hx | ⟨e', he', hb', hx⟩
      ·simp at hx
      ·have hlt := hback e' he' hb'
       refine ⟨e', he', hb', hx.imp id ?_⟩
       rintro ⟨p, hp, hxp⟩
       rw [hprev _ hlt] at hp
       simp only [jc] at hp
       subst hp
       have : e'.on ≠ m := by omega
       simpa [this] using hxp
     ·intro j hj
      have hok' := hok
      unfold Wv at hok'
      rw [ym] at hok'
      have hmem := Sp (hprev j hj)
      have h1 := hok' _ hmem
      simp only [qr] at h1
      have hjm : j ≠ m := by omega
      simp only [if_true, hjm, if_false]
      exact h1.imp DB.1 id
    ·exact (hPM m om (by omega) hom).congr fun j hj => hEi j (by omega)
  have hfpOk : ∀ (g : List Nat) (e : Ef), (∀ j want t, o.guard = some (j, want) → (ops[j]?).bind (·.dst) = some t → t ∈ g) → U0 H ops (Bd ops E (fun _ => true) s0 i) o e (BK H s o g e.1 e.2) := by
   intro g e hg
   refine ⟨rfl, rfl, rfl, fun t ht => qp _ ht, fun j want t hgu ht => qo _ (hg j want t hgu ht), fun hmv x hx d hd id hm => ?_⟩
   have hmem : id ∈ Hy s (Su o.op) (Tb o.op) := by
    refine LL hx ?_ (hm.imp (fun h => h) fun h => ⟨h.1, (HO (fun j => hs.hp j) d) ▸ h.2⟩)
    rw [← hd]
    exact AK hx fun t _ => hs.tm t
   show id ∈ (bif Ft o.op then [] else bif Hf o.op then _ else _) ∨ _
   rw [hmv]
   cases hsp : Hf o.op with
   | false => exact .inl hmem
   | true => exact (YI hmem).imp (fun h => h) fun h => ⟨rfl, h⟩
  simp only [Bs] at he
  cases hbk : XV i o.after.toList with
  | false => rw [hbk] at he; simp at he
  | true =>
   rw [hbk] at he
   simp only [yt] at he
   have hback : ∀ e, e ∈ o.after.toList → Region.binds .any e = true → e.on < i := by
    intro e hem hbe
    unfold XV at hbk
    rw [ym] at hbk
    have := hbk e hem
    rw [hbe] at this
    simp only [jg, yj] at this
    rwa [q6] at this
   have hEff : ∀ (sx : AS) (K : D → List (Nat × Option Da) → Option Out), Mg s sx → Ot G sx o K = some out → ∃ e : Ef, K e.1 e.2 = some out ∧ OF G (Bd ops E (fun _ => true) s0 i) o e := by
    intro sx K hsx hK
    obtain ⟨d, u, h1, h2⟩ := X0 hK
    refine ⟨(d, u), h1, ?_⟩
    have : OF G sx o (d, u) := h2
    exact this.congr ((hs.trans hsx).symm.agr o)
   cases hg : o.guard with
   | none =>
    rw [hg] at he
    simp only at he
    obtain ⟨e, h1, h2⟩ := hEff s _ (Mg.refl s) he
    simp only [Ba, jd] at h1
    exact next _ _ e s rfl hback h1.1.1 (Mg.refl s) (by unfold JA; rw [hg]; exact h2) (hfpOk [] e (by intro j want t hgu; rw [hg] at hgu; simp at hgu)) (CK h2 h1.1.2) h1.2
   | some g =>
    obtain ⟨j, want⟩ := g
    rw [hg] at he
    simp only at he
    split at he
    ·rename_i t ht
     have hgt : ∀ j' want' t', o.guard = some (j', want') → (ops[j']?).bind (·.dst) = some t' → t' ∈ [t] := by
      intro j' want' t' hgu ht'
      rw [hg] at hgu
      simp only [jc, jh] at hgu
      obtain ⟨rfl, rfl⟩ := hgu
      rw [ht] at ht'
      simp only [jc] at ht'
      rw [ht']; simp
     split at he
     ·rename_i β hd
      have hdst : Ua (Bd ops E (fun _ => true) s0 i).tm t = some (.t .b β) := by rw [← hs.tm]; exact hd
      have goal1 : ∀ e : Ef, (if β = want then OF G (Bd ops E (fun _ => true) s0 i) o e else e = (.und, [])) → JA G ops (Bd ops E (fun _ => true) s0 i) o e := by
       intro e h
       unfold JA
       rw [hg]
       exact ⟨t, ht, .inl ⟨β, hdst, h⟩⟩
      cases hβ : (show Bool from β) with
      | true =>
       have hβ' : β = true := hβ
       subst hβ'
       simp only [yt] at he
       cases want with
       | true =>
        simp only [yt] at he
        obtain ⟨e, h1, h2⟩ := hEff _ _ (Mg.refine hd) he
        simp only [Ba, jd] at h1
        exact next _ _ e _ rfl hback h1.1.1 (Mg.refine hd) (goal1 e (by rw [if_pos rfl]; exact h2)) (hfpOk [t] e hgt) (CK h2 h1.1.2) h1.2
       | false =>
        simp only [yu, Ba] at he
        exact next _ _ (.und, []) _ rfl hback he.1 (Mg.refine hd) (goal1 _ (by rw [if_neg (by simp)])) (hfpOk [t] (.und, []) hgt) (by intro id _ hm; simp at hm) he.2
      | false =>
       have hβ' : β = false := hβ
       subst hβ'
       simp only [yu] at he
       cases want with
       | true =>
        simp only [yt, Ba] at he
        exact next _ _ (.und, []) _ rfl hback he.1 (Mg.refine hd) (goal1 _ (by rw [if_neg (by simp)])) (hfpOk [t] (.und, []) hgt) (by intro id _ hm; simp at hm) he.2
       | false =>
        simp only [yu] at he
        obtain ⟨e, h1, h2⟩ := hEff _ _ (Mg.refine hd) he
        simp only [Ba, jd] at h1
        exact next _ _ e _ rfl hback h1.1.1 (Mg.refine hd) (goal1 e (by rw [if_pos rfl]; exact h2)) (hfpOk [t] e hgt) (CK h2 h1.1.2) h1.2
     ·rename_i hd
      simp only [Ba] at he
      refine next _ _ (.und, []) s rfl hback he.1 (Mg.refl s) ?_ (hfpOk [t] (.und, []) hgt) (by intro id _ hm; simp at hm) he.2
      unfold JA
      rw [hg]
      exact ⟨t, ht, .inr ⟨by rw [← hs.tm]; exact hd, rfl⟩⟩
     ·simp at he
    ·simp at he
theorem ET {n j : Nat} : Mn (Array.replicate n false) j = false := by
 unfold Mn
 rw [Array.getD_eq_getD_getElem?, Array.getElem?_replicate]
 split <;> rfl
theorem XZ (hG : Oh P A.I G) (hfz : Cx G A O0) (hm : P.follows .mixedOrders = true) {id : Nat} {H : List Nat} {draw : Bool} {s : AS} {σ : Nat → Value} {φ : Nat → List Nat} {a : Act} {w : World} (h : La n0 A O0 w0 s σ φ a w)
 (he : (bif draw then Bs G H ops ops.toList 0 [] s k else Pt G id ops ops.toList 0 s k) = some out) (hQ : ∀ a w, Hd n0 A O0 w0 k out a w → Q .normal a w) : (Code.region id ops draw).wp P Q a w := by
 cases draw with
 | false =>
  simp only [yu] at he
  refine wp_region ?_
  have := KR (P := P) (Q := Q) hG hfz (fun s σ φ a w h1 h2 => hQ a w ⟨s, σ, φ, h1, h2⟩) ops.toList 0 s σ φ a w (by simp) he h
  simpa using this
 | true =>
  simp only [yt] at he
  obtain ⟨E, F, anc, hPM, sf, h1, h2⟩ := YT (s0 := s) ops.toList 0 [] s (fun _ => (.und, [])) (fun _ => ⟨[], [], none, [], []⟩) (fun _ => []) (by simp) he (Mg.refl s) (by intro j hj; omega) (by intro m o hm; omega)
  refine wp_region_any hm ?_
  refine K2 hG hfz hPM (fun σ φ a w hc => hQ a w ⟨sf, σ, φ, h1, hc.eqv h2⟩) ops.size (Array.replicate ops.size false) σ φ a _ (by simp) ?_ ?_ ?_
  ·have := List.countP_le_length (p := fun j => !(Array.replicate ops.size false).getD j true) (l := yo ops.size)
   simpa using this
  ·intro j o ho hL
   rw [ET] at hL
   simp at hL
  ·have : Bd ops E (Mn (Array.replicate ops.size false)) s ops.size = s := by
    rw [RH (i := 0) ops.size (Nat.zero_le _) fun j _ _ => ET]
    rfl
   rw [this]
   exact h.drew
end
theorem QY {s : AS} : ∀ {td : TD} {d : D} {x : T td.ty} {m : Bh}, Vc s td d = some (x, m) → (Xm td x).isAgg = d.isAgg := by
 intro td
 cases td with
 | data τ =>
  intro d x m h
  simp only [Vc] at h
  split at h
  ·rename_i y hy
   simp only [jc, jh] at h
   obtain ⟨rfl, _⟩ := h
   have hs := (Ae (w := default) (σ := fun _ => undef) (O := fun _ => False) (hp := fun _ => none) hy).1
   rw [hs.isAgg]
   cases τ <;> rfl
  ·simp at h
 | own id e dp =>
  intro d x m h
  cases d <;> simp [Vc] at h <;> rfl
 | ptr id p =>
  intro d x m h
  cases d <;> simp [Vc] at h <;> rfl
 | hol id e p τ td =>
  intro d x m h
  cases d <;> simp [Vc] at h <;> rfl
 | arr id e =>
  intro d x m h
  cases d <;> first | rfl | (simp [Vc] at h; done)
 | mov id e =>
  intro d x m h
  cases d <;> simp [Vc] at h <;> rfl
 | mpo id k v =>
  intro d x m h
  cases d <;> simp [Vc] at h <;> rfl
 | mqo id kk e =>
  intro d x m h
  cases d <;> simp [Vc] at h <;> rfl
 | pr a b =>
  intro d x m h
  simp only [Vc] at h
  cases d with
  | t τ v => cases τ <;> simp [D.fst] at h <;> rfl
  | pr u v => rfl
  | _ => simp [D.fst] at h
 | un =>
  intro d x m h
  simp only [Vc] at h
  split at h
  ·rename_i y hy
   have hs := (Ae (w := default) (σ := fun _ => undef) (O := fun _ => False) (hp := fun _ => none) hy).1
   rw [hs.isAgg]
   rfl
  ·simp at h
def AC (m m' : Bh) : Prop := ∀ p, p ∈ m → p ∈ m'
section
variable {w : World} {s : AS} {σ σ' : Nat → Value} {O O' : Nat → Prop} {hp' : Nat → Option Da} {m : Bh}
structure C9 (s : AS) (σ σ' : Nat → Value) (hp' : Nat → Option Da) (m : Bh) : Prop where
 isS : ∀ j i, (j, some i) ∈ m → σ' j = σ i
 isN : ∀ j, (j, none) ∈ m → σ' j = .slice none 0 0
 isB : ∀ j i ρ d, (j, some i) ∈ m → hp' j = some (.box ρ d) → ∃ d', s.heap i = some (.box ρ d')
 isR : ∀ j i Aa r, (j, some i) ∈ m → hp' j = some Aa → Aa.rowN = some r → ∃ blk', s.heap i = some blk' ∧ blk'.rowN = some r
theorem YE (hT : C9 s σ σ' hp' m) (hO : ∀ b, b < w.heap.size → ¬ O b → ¬ O' b) : ∀ {td : TD} {d : D} {x : T td.ty} {m0 : Bh} {cs : List Value}, Vc s td d = some (x, m0) → AC m0 m → Pa w O s.heap σ d cs →
 Pa w O' hp' σ' (Xm td x) cs := by
 intro td
 induction td with
 | data τ =>
  intro d x m0 cs h hm hr
  simp only [Vc] at h
  split at h
  ·rename_i y hy
   simp only [jc, jh] at h
   obtain ⟨rfl, _⟩ := h
   exact Ha.stable (fun _ _ _ => rfl) hO ((Ae hy).2 _ hr)
  ·simp at h
 | own id' e dp =>
  intro d x m0 cs h hm hr
  cases d with
  | own id =>
   simp only [Vc] at h
   split at h
   ·rename_i e' dp' xs hb
    split at h
    ·rename_i q hq
     subst q
     simp only [Ba] at h
     obtain ⟨_, h⟩ := h
     simp only [jc, jh] at h
     obtain ⟨rfl, rfl⟩ := h
     obtain ⟨v, hcs, h1, hv⟩ := hr
     refine ⟨v, hcs, h1, fun _ _ _ _ => ?_⟩
     rw [hT.isS id' id (hm _ (by simp))]
     exact hv _ _ hb rfl
    ·simp at h
   ·simp at h
  | nil =>
   simp only [Vc, jc, jh] at h
   obtain ⟨rfl, rfl⟩ := h
   simp only [Pa] at hr
   exact ⟨_, hr, rfl, fun _ _ _ _ => (hT.isN id' (hm _ (by simp))).symm⟩
  | _ => simp [Vc] at h
 | mpo id' k v =>
  intro d x m0 cs h hm hr
  cases d with
  | mpo id =>
   simp only [Vc] at h
   split at h
   ·rename_i k' v' xs hb
    split at h
    ·rename_i q1 q2 hq1 hq2
     subst q1
     subst q2
     simp only [jc, jh] at h
     obtain ⟨rfl, rfl⟩ := h
     obtain ⟨u, hcs, h1, hv⟩ := hr
     refine ⟨u, hcs, h1, fun _ _ _ => ?_⟩
     rw [hT.isS id' id (hm _ (by simp))]
     exact hv _ hb rfl
    ·simp at h
   ·simp at h
  | _ => simp [Vc] at h
 | mqo id' kk e =>
  intro d x m0 cs h hm hr
  cases d with
  | mpo id =>
   simp only [Vc] at h
   split at h
   ·rename_i kk' e' xs hb
    split at h
    ·rename_i q hq
     simp only [jc, jh] at h
     obtain ⟨rfl, rfl⟩ := h
     obtain ⟨u, hcs, h1, hv⟩ := hr
     refine ⟨u, hcs, h1, fun _ _ _ => ?_⟩
     rw [hT.isS id' id (hm _ (by simp))]
     exact hv _ hb rfl
    ·simp at h
   ·simp at h
  | _ => simp [Vc] at h
 | hol id' e p τ td _ =>
  intro d x m0 cs h hm hr
  cases d with
  | own id =>
   simp only [Vc] at h
   split at h
   ·rename_i e' xs i x1 p' τ' d' hb
    split at h
    ·simp only [Ba] at h
     obtain ⟨_, h⟩ := h
     split at h
     ·rename_i y m1 h1
      simp only [Ba] at h
      obtain ⟨_, h⟩ := h
      simp only [jc, jh] at h
      obtain ⟨rfl, rfl⟩ := h
      obtain ⟨v, hcs, h1, hv⟩ := hr
      refine ⟨v, hcs, h1, fun _ _ _ _ => ?_⟩
      rw [hT.isS id' id (hm _ (by simp))]
      exact hv _ _ hb rfl
     ·simp at h
    ·simp at h
   ·simp at h
  | _ => simp [Vc] at h
 | arr id' e =>
  intro d x m0 cs h hm hr
  cases d with
  | eptr id i q =>
   cases i with
   | succ i => simp [Vc] at h
   | zero =>
    cases q with
    | cons _ _ => simp [Vc] at h
    | nil =>
     simp only [Vc] at h
     split at h
     ·rename_i e' xs hb
      split at h
      ·rename_i q hq
       subst q
       simp only [jc, jh] at h
       obtain ⟨rfl, rfl⟩ := h
       obtain ⟨v, hcs, h1, hv⟩ := hr
       refine ⟨v, hcs, h1, fun blk' e2 n2 hb' hr' => ?_⟩
       obtain ⟨blk0, hb0, hr0⟩ := hT.isR id' id blk' _ (hm _ (by simp)) hb' hr'
       rw [hT.isS id' id (hm _ (by simp))]
       exact hv _ _ _ hb0 hr0
      ·simp at h
     ·simp at h
  | _ => simp [Vc] at h
 | mov id' e =>
  intro d x m0 cs h hm hr
  cases d with
  | own id =>
   simp only [Vc] at h
   split at h
   ·rename_i e' xs hb
    split at h
    ·rename_i q hq
     subst q
     simp only [jc, jh] at h
     obtain ⟨rfl, rfl⟩ := h
     obtain ⟨v, hcs, h1, hv⟩ := hr
     refine ⟨v, hcs, h1, fun _ _ _ _ => ?_⟩
     rw [hT.isS id' id (hm _ (by simp))]
     exact hv _ _ hb rfl
    ·simp at h
   ·rename_i e' xs k hb
    split at h
    ·rename_i q hq
     subst q
     simp only [jc, jh] at h
     obtain ⟨rfl, rfl⟩ := h
     obtain ⟨v, hcs, h1, hv⟩ := hr
     refine ⟨v, hcs, h1, fun _ _ _ _ => ?_⟩
     rw [hT.isS id' id (hm _ (by simp))]
     exact hv _ _ hb rfl
    ·simp at h
   ·simp at h
  | _ => simp [Vc] at h
 | ptr id' p =>
  intro d x m0 cs h hm hr
  cases d with
  | ptr id q =>
   simp only [Vc, Ba] at h
   obtain ⟨hpq, h⟩ := h
   simp only [jc, jh] at h
   obtain ⟨_, rfl⟩ := h
   have hpq' : p = q := by simpa using hpq
   subst hpq'
   obtain ⟨v, hcs, h1, hv⟩ := hr
   refine ⟨v, hcs, h1, fun ρ d hb => ?_⟩
   obtain ⟨d', hd'⟩ := hT.isB id' id ρ d (hm _ (by simp)) hb
   rw [hT.isS id' id (hm _ (by simp))]
   exact hv ρ d' hd'
  | _ => simp [Vc] at h
 | pr a b iha ihb =>
  intro d x m0 cs h hm hr
  simp only [Vc] at h
  split at h
  ·rename_i d1 d2 h1 h2
   split at h
   ·rename_i u l v l' h3 h4
    simp only [jc, jh] at h
    obtain ⟨rfl, rfl⟩ := h
    have key : ∃ c1 c2, cs = c1 ++ c2 ∧ Pa w O s.heap σ d1 c1 ∧ Pa w O s.heap σ d2 c2 := by
     cases d with
     | t τ v =>
      cases τ with
      | p t1 t2 =>
       simp only [D.fst, D.snd, jc] at h1 h2
       subst h1; subst h2
       exact hr
      | _ => simp [D.fst] at h1
     | pr d1' d2' =>
      simp only [D.fst, D.snd, jc] at h1 h2
      subst h1; subst h2
      exact hr
     | _ => simp [D.fst] at h1
    obtain ⟨c1, c2, hc, r1, r2⟩ := key
    exact ⟨c1, c2, hc, iha h3 (fun p hp => hm p (qo _ hp)) r1, ihb h4 (fun p hp => hm p (qp _ hp)) r2⟩
   ·simp at h
  ·simp at h
 | un =>
  intro d x m0 cs h hm hr
  simp only [Vc] at h
  split at h
  ·rename_i y hy
   exact (Ae hy).2 _ hr
  ·simp at h
theorem H1 (hT : C9 s σ σ' hp' m) (hO : ∀ b, b < w.heap.size → ¬ O b → ¬ O' b) {td : TD} {d : D} {x : T td.ty} {m0 : Bh} {v : Value} (h : Vc s td d = some (x, m0)) (hm : AC m0 m) (hr : Cc w O s.heap σ d v) :
 Cc w O' hp' σ' (Xm td x) v := by
 have hne : Id w O s.heap σ d v := by
  cases d with
  | und => cases td <;> simp [Vc, Qe, D.fst] at h
  | anyv => cases td <;> simp [Vc, Qe, D.fst] at h
  | tup ds => cases td <;> simp [Vc, Qe, D.fst] at h
  | _ => exact hr
 refine Sj ?_
 unfold Id at hne ⊢
 rw [QY h]
 split
 ·rename_i ha
  rw [if_pos ha] at hne
  obtain ⟨cs, h1, h2⟩ := hne
  exact ⟨cs, h1, YE hT hO h hm h2⟩
 ·rename_i ha
  rw [if_neg ha] at hne
  exact YE hT hO h hm hne
def ZM (s : AS) (m : Bh) (j : Nat) (Aa : Da) : Prop :=
 ((j, none) ∈ m ∧ ∃ e dp, Aa = .row e dp ([] : List (T e))) ∨
 ∃ i, (j, some i) ∈ m ∧ ((∃ e dp dp' xs, Aa = .row e dp xs ∧ s.heap i = some (.row e dp' xs) ∧ (dp' = dp ∨ e.flat = true)) ∨
  (∃ ρ d td x m0, Aa = .box ρ (Xm td x) ∧ s.heap i = some (.box ρ d) ∧ Vc s td d = some (x, m0) ∧ AC m0 m ∧ Sa ρ (Xm td x)) ∨
  (∃ e xs k x p τ d td y m0, Aa = .hol e xs k x p τ (Xm td y) ∧ s.heap i = some (.hol e xs k x p τ d) ∧ Vc s td d = some (y, m0) ∧ AC m0 m ∧ Sa τ (Xm td y)) ∨
  (∃ e xs k, Aa = .mov e xs k ∧ (s.heap i = some (.mov e xs k) ∨ (s.heap i = some (.row e true xs) ∧ k = 0))) ∨
  (∃ k v xs, Aa = .mp k v xs ∧ s.heap i = some (.mp k v xs)) ∨
  ∃ kk e xs, Aa = .mq kk e xs ∧ s.heap i = some (.mq kk e xs))
theorem CG : ∀ {td : TD} {d : D} {x : T td.ty} {m0 : Bh}, Vc s td d = some (x, m0) → AC m0 m → ∀ p, p ∈ Ep td x → ∃ Aa, p.2 = some Aa ∧ ZM s m p.1 Aa := by
 intro td
 induction td with
 | own id' e dp =>
  intro d x m0 h hm p hp
  simp only [Ep, qa] at hp
  subst hp
  cases d with
  | own id =>
   simp only [Vc] at h
   split at h
   ·rename_i e' dp' xs hb
    split at h
    ·rename_i q hq
     subst q
     simp only [Ba] at h
     obtain ⟨hc, h⟩ := h
     simp only [jc, jh] at h
     obtain ⟨rfl, rfl⟩ := h
     refine ⟨_, rfl, .inr ⟨id, hm _ (by simp), .inl ⟨_, dp, dp', _, rfl, hb, ?_⟩⟩⟩
     simpa using hc
    ·simp at h
   ·simp at h
  | nil =>
   simp only [Vc, jc, jh] at h
   obtain ⟨rfl, rfl⟩ := h
   exact ⟨_, rfl, .inl ⟨hm _ (by simp), e, dp, rfl⟩⟩
  | _ => simp [Vc] at h
 | hol id' e pth τ td ih =>
  intro d x m0 h hm p hp
  cases d with
  | own id =>
   simp only [Vc] at h
   split at h
   ·rename_i e' xs i x1 p' τ' d' hb
    split at h
    ·rename_i q1 q2 hq1 hq2
     subst q1
     obtain rfl := Jc hq2
     simp only [Ba] at h
     obtain ⟨hpp, h⟩ := h
     have hpp : pth = p' := by simpa using hpp
     subst hpp
     split at h
     ·rename_i y m1 h1
      simp only [Ba] at h
      obtain ⟨hsh, h⟩ := h
      simp only [jc, jh] at h
      obtain ⟨rfl, rfl⟩ := h
      simp only [Ep] at hp
      rcases jp.1 hp with rfl | hp
      ·exact ⟨_, rfl, .inr ⟨id, hm _ (by simp), .inr (.inr (.inl ⟨_, _, i, _, _, _, d', td, y, m1, by simp only [jn], hb, h1, fun p hp => hm p (jr _ hp), Ej hsh⟩))⟩⟩
      ·exact ih h1 (fun p hp => hm p (jr _ hp)) p hp
     ·simp at h
    ·simp at h
   ·simp at h
  | _ => simp [Vc] at h
 | pr a b iha ihb =>
  intro d x m0 h hm p hp
  simp only [Vc] at h
  split at h
  ·split at h
   ·rename_i u l v l' h3 h4
    simp only [jc, jh] at h
    obtain ⟨rfl, rfl⟩ := h
    simp only [Ep] at hp
    rcases jl.1 hp with hp | hp
    ·exact iha h3 (fun p hp => hm p (qo _ hp)) p hp
    ·exact ihb h4 (fun p hp => hm p (qp _ hp)) p hp
   ·simp at h
  ·simp at h
 | arr id' e =>
  intro d x m0 h hm p hp
  simp only [Ep, qa] at hp
  subst hp
  cases d with
  | eptr id i q =>
   cases i with
   | succ i => simp [Vc] at h
   | zero =>
    cases q with
    | cons _ _ => simp [Vc] at h
    | nil =>
     simp only [Vc] at h
     split at h
     ·rename_i e' xs hb
      split at h
      ·rename_i q hq
       subst q
       simp only [jc, jh] at h
       obtain ⟨rfl, rfl⟩ := h
       exact ⟨_, rfl, .inr ⟨id, hm _ (by simp), .inl ⟨_, true, true, _, rfl, hb, .inl rfl⟩⟩⟩
      ·simp at h
     ·simp at h
  | _ => simp [Vc] at h
 | mpo id' k v =>
  intro d x m0 h hm p hp
  simp only [Ep, qa] at hp
  subst hp
  cases d with
  | mpo id =>
   simp only [Vc] at h
   split at h
   ·rename_i k' v' xs hb
    split at h
    ·rename_i q1 q2 hq1 hq2
     subst q1
     subst q2
     simp only [jc, jh] at h
     obtain ⟨rfl, rfl⟩ := h
     exact ⟨_, rfl, .inr ⟨id, hm _ (by simp), .inr (.inr (.inr (.inr (.inl ⟨_, _, _, rfl, hb⟩))))⟩⟩
    ·simp at h
   ·simp at h
  | _ => simp [Vc] at h
 | mqo id' kk e =>
  intro d x m0 h hm p hp
  simp only [Ep, qa] at hp
  subst hp
  cases d with
  | mpo id =>
   simp only [Vc] at h
   split at h
   ·rename_i kk' e' xs hb
    split at h
    ·rename_i q hq
     have q2 := q
     simp only [Ty.mp.injEq, Ty.i.injEq, Ty.sl.injEq] at q2
     obtain ⟨rfl, rfl⟩ := q2
     simp only [jc, jh] at h
     obtain ⟨rfl, rfl⟩ := h
     exact ⟨_, rfl, .inr ⟨id, hm _ (by simp), .inr (.inr (.inr (.inr (.inr ⟨_, _, _, rfl, hb⟩))))⟩⟩
    ·simp at h
   ·simp at h
  | _ => simp [Vc] at h
 | mov id' e =>
  intro d x m0 h hm p hp
  simp only [Ep, qa] at hp
  subst hp
  cases d with
  | own id =>
   simp only [Vc] at h
   split at h
   ·rename_i e' xs hb
    split at h
    ·rename_i q hq
     subst q
     simp only [jc, jh] at h
     obtain ⟨rfl, rfl⟩ := h
     exact ⟨_, rfl, .inr ⟨id, hm _ (by simp), .inr (.inr (.inr (.inl ⟨_, _, 0, rfl, .inr ⟨hb, rfl⟩⟩)))⟩⟩
    ·simp at h
   ·rename_i e' xs k hb
    split at h
    ·rename_i q hq
     subst q
     simp only [jc, jh] at h
     obtain ⟨rfl, rfl⟩ := h
     exact ⟨_, rfl, .inr ⟨id, hm _ (by simp), .inr (.inr (.inr (.inl ⟨_, _, k, by simp only [jn], .inl hb⟩)))⟩⟩
    ·simp at h
   ·simp at h
  | _ => simp [Vc] at h
 | _ => intro d x m0 h hm p hp; simp [Ep] at hp
theorem QR : ∀ {l : List (Tmp × TD)} {x : T (Pr.tyT l)} {m0 : Bh}, GW s l = some (x, m0) → AC m0 m →
 (∀ t d', Ua (VI l x) t = some d' → ∃ td d y m1, Ua s.tm t = some d ∧ Vc s td d = some (y, m1) ∧ AC m1 m ∧ d' = Xm td y) ∧ (∀ p, p ∈ EJ l x → ∃ Aa, p.2 = some Aa ∧ ZM s m p.1 Aa)
 | [], x, m0, h, hm => ⟨by simp [VI, Ua], by simp [EJ]⟩
 | (t0, td) :: r, x, m0, h, hm => by
  simp only [GW] at h
  split at h
  ·rename_i d hd
   split at h
   ·rename_i y m1 z m2 h1 h2
    simp only [jc, jh] at h
    obtain ⟨rfl, rfl⟩ := h
    have hm1 : AC m1 m := fun p hp => hm p (qo _ hp)
    obtain ⟨i1, i2⟩ := QR h2 (fun p hp => hm p (qp _ hp))
    refine ⟨fun t d' ht => ?_, fun p hp => ?_⟩
    ·simp only [VI] at ht
     rw [Rb] at ht
     split at ht
     ·rename_i e
      subst e
      simp only [jc] at ht
      exact ⟨td, d, y, m1, hd, h1, hm1, ht.symm⟩
     ·exact i1 t d' ht
    ·simp only [EJ] at hp
     rcases jl.1 hp with hp | hp
     ·exact CG h1 hm1 p hp
     ·exact i2 p hp
   ·simp at h
  ·simp at h
theorem PR : ∀ {l : List (Nat × Ty × TD)} {x : T (Pr.tyB l)} {m0 m' : Bh}, TO s l m0 = some (x, m') → AC m' m →
 AC m0 m ∧ ∀ p, p ∈ UI l x → ∃ Aa, p.2 = some Aa ∧ ZM s m p.1 Aa
 | [], x, m0, m', h, hm => by
  simp only [TO, jc, jh] at h
  obtain ⟨_, rfl⟩ := h
  exact ⟨hm, by simp [UI]⟩
 | (id', ρ, td) :: r, x, m0, m', h, hm => by
  simp only [TO] at h
  split at h
  ·rename_i id hid
   split at h
   ·rename_i ρ' d hb
    split at h
    ·rename_i q hq
     obtain rfl := q.down
     split at h
     ·rename_i y m1 h1
      simp only [Ba] at h
      obtain ⟨hsh, h⟩ := h
      split at h
      ·rename_i z m2 h2
       simp only [jc, jh] at h
       obtain ⟨rfl, rfl⟩ := h
       obtain ⟨i1, i2⟩ := PR h2 hm
       have hm0 : AC m0 m := fun p hp => i1 p (qo _ hp)
       have hm1 : AC m1 m := fun p hp => i1 p (qp _ hp)
       refine ⟨hm0, fun p hp => ?_⟩
       simp only [UI] at hp
       rcases jp.1 hp with rfl | hp
       ·exact ⟨_, rfl, .inr ⟨id, hm0 _ (Sp hid), .inr (.inl ⟨_, d, td, y, m1, rfl, hb, h1, hm1, Ej hsh⟩)⟩⟩
       ·rcases jl.1 hp with hp | hp
        ·exact CG h1 hm1 p hp
        ·exact i2 p hp
      ·simp at h
     ·simp at h
    ·simp at h
   ·simp at h
  ·simp at h
end
theorem LB : ∀ {m : Bh}, Vw m = true → ∀ j i, (j, some i) ∈ m → (j < 500000 ∧ i < 500000) ∨ j = i
 | [], _, _, _, h => by simp at h
 | (j0, some i0) :: r, hp, j, i, h => by
  simp only [Vw, jd, qr] at hp
  rcases jp.1 h with e | h
  ·simp only [jh, jc] at e
   obtain ⟨rfl, rfl⟩ := e
   rcases hp.1 with h1 | h1
   ·rw [q6, q6] at h1; exact .inl h1
   ·exact .inr (ju h1)
  ·exact LB hp.2 j i h
 | (j0, none) :: r, hp, j, i, h => by
  simp only [Vw, jd] at hp
  rcases jp.1 h with e | h
  ·simp at e
  ·exact LB hp.2 j i h
theorem KB : ∀ {m : Bh}, Vw m = true → ∀ j, (j, none) ∈ m → j < 500000
 | [], _, _, h => by simp at h
 | (j0, some i0) :: r, hp, j, h => by
  simp only [Vw, jd] at hp
  rcases jp.1 h with e | h
  ·simp at e
  ·exact KB hp.2 j h
 | (j0, none) :: r, hp, j, h => by
  simp only [Vw, jd] at hp
  rcases jp.1 h with e | h
  ·simp only [jh, and_true] at e
   subst e
   have := hp.1
   rwa [q6] at this
  ·exact KB hp.2 j h
theorem LT {m : Bh} (h : (m.all fun x => m.all fun y => Yv x y) = true) {x y : Nat × Option Nat} (hx : x ∈ m) (hy : y ∈ m) : Yv x y = true :=
 ym.1 (ym.1 h x hx) y hy
theorem L2 {m : Bh} (h : (m.all fun x => m.all fun y => Yv x y) = true) {j : Nat} {a c : Option Nat} (hx : (j, a) ∈ m) (hy : (j, c) ∈ m) : a = c := by
 have := LT h hx hy
 unfold Yv at this
 cases a with
 | none => cases c with
  | none => rfl
  | some c => simp at this
 | some a => cases c with
  | none => simp at this
  | some c => simpa [Nat.beq_eq] using this
theorem M2 {m : Bh} (h : (m.all fun x => m.all fun y => Yv x y) = true) {j j' i : Nat} (hx : (j, some i) ∈ m) (hy : (j', some i) ∈ m) : j = j' := by
 have := LT h hx hy
 unfold Yv at this
 simpa using this
theorem ZK {α : Type} {j : Nat} {a : α} : ∀ {m : List (Nat × α)}, (j, a) ∈ m → ∃ c, Ua m j = some c ∧ (j, c) ∈ m
 | [], h => by simp at h
 | (j0, a0) :: r, h => by
  rw [Rb]
  by_cases hj : j0 = j
  ·subst hj; exact ⟨a0, by simp, by simp⟩
  ·rw [if_neg hj]
   rcases jp.1 h with e | h
   ·simp only [jh] at e
    exact absurd e.1.symm hj
   ·obtain ⟨c, h1, h2⟩ := ZK h
    exact ⟨c, h1, jr _ h2⟩
theorem Tp {m : Bh} (h : (m.all fun x => m.all fun y => Yv x y) = true) {j : Nat} {a : Option Nat} (hx : (j, a) ∈ m) : Ua m j = some a := by
 obtain ⟨c, h1, h2⟩ := ZK hx
 rw [h1, L2 h hx h2]
section
variable {n0 : Nat} {A : Fx} {O0 : Nat → Prop} {w0 w : World} {s : AS} {σ : Nat → Value} {φ : Nat → List Nat} {a : Act}
theorem ZE (h : La n0 A O0 w0 s σ φ a w) {p : Pr} {x : p.X} (he : ext p s = some x) : ∃ σ' φ', La n0 A O0 w0 (Mx p x s.n) σ' φ' a w := by
 unfold ext at he
 split at he
 ·rename_i x1 m1 h1
  split at he
  ·rename_i x2 m h2
   simp only [Ba] at he
   obtain ⟨hmo, he⟩ := he
   simp only [jc] at he
   subst he
   simp only [E5, jd] at hmo
   obtain ⟨hn1, hpo⟩ := hmo
   obtain ⟨hm1, hB⟩ := PR h2 (fun p hp => hp)
   obtain ⟨hT1, hT2⟩ := QR h1 hm1
   let σ' : Nat → Value := fun j => match Ua m j with
    | some (some i) => σ i
    | some none => .slice none 0 0
    | none => σ j
   let φ' : Nat → List Nat := fun j => match Ua m j with
    | some (some i) => φ i
    | _ => []
   have hσs : ∀ j i, (j, some i) ∈ m → σ' j = σ i ∧ φ' j = φ i := fun j i hj => by
    have := Tp hn1 hj
    simp only [σ', φ', this, and_self]
   have hσn : ∀ j, (j, none) ∈ m → σ' j = .slice none 0 0 ∧ φ' j = [] := fun j hj => by
    have := Tp hn1 hj
    simp only [σ', φ', this, and_self]
   have hent : ∀ j Aa, (Mx p (x1, x2) s.n).heap j = some Aa → ZM s m j Aa := by
    intro j Aa hj
    have hmem := AS.heap_mem hj
    simp only [Mx] at hmem
    rcases jl.1 hmem with hmem | hmem
    ·obtain ⟨blk', e, hE⟩ := hT2 _ hmem
     simp only [jc] at e
     subst e
     exact hE
    ·obtain ⟨blk', e, hE⟩ := hB _ hmem
     simp only [jc] at e
     subst e
     exact hE
   have hlive : ∀ j Aa, (Mx p (x1, x2) s.n).heap j = some Aa → φ' j = [] ∨ ∃ i blk0, (j, some i) ∈ m ∧ s.heap i = some blk0 ∧ φ' j = φ i := by
    intro j Aa hj
    rcases hent j Aa hj with ⟨hn, _⟩ | ⟨i, hi, ⟨e, dp, dp', xs, _, hb, _⟩ | ⟨ρ, d, td, y, m0, _, hb, _⟩ | ⟨e, xs, k, x, p, τ, d, td, y, m0, _, hb, _⟩ | ⟨e, xs, k, _, hb | ⟨hb, _⟩⟩ | ⟨_, _, _, _, hb⟩ | ⟨_, _, _, _, hb⟩⟩
    ·exact .inl (hσn j hn).2
    ·exact .inr ⟨i, _, hi, hb, (hσs j i hi).2⟩
    ·exact .inr ⟨i, _, hi, hb, (hσs j i hi).2⟩
    ·exact .inr ⟨i, _, hi, hb, (hσs j i hi).2⟩
    ·exact .inr ⟨i, _, hi, hb, (hσs j i hi).2⟩
    ·exact .inr ⟨i, _, hi, hb, (hσs j i hi).2⟩
    ·exact .inr ⟨i, _, hi, hb, (hσs j i hi).2⟩
    ·exact .inr ⟨i, _, hi, hb, (hσs j i hi).2⟩
   have hOO : ∀ b, b < w.heap.size → ¬ OO O0 s φ b → ¬ OO O0 (Mx p (x1, x2) s.n) φ' b := by
    rintro b _ hno (ho | ⟨j, Aa, hj, hm⟩)
    ·exact hno (.inl ho)
    ·rcases hlive j Aa hj with hφ | ⟨i, blk0, _, hb, hφ⟩
     ·rw [hφ] at hm; simp at hm
     ·rw [hφ] at hm; exact hno (.inr ⟨i, blk0, hb, hm⟩)
   have hTOk : C9 s σ σ' (Mx p (x1, x2) s.n).heap m := by
    refine ⟨fun j i hj => (hσs j i hj).1, fun j hj => (hσn j hj).1, fun j i ρ d hj hb => ?_, fun j i Aa r hj hb hr => ?_⟩
    rcases hent j _ hb with ⟨hn, e, dp, hh⟩ | ⟨i', hi', ⟨e, dp, dp', xs, hh, _⟩ | ⟨ρ', d', td, y, m0, hh, hb', _⟩ | ⟨e, xs, k, x, p, τ, d', td, y, m0, hh, _⟩ | ⟨e, xs, k, hh, _⟩ | ⟨_, _, _, hh, _⟩ | ⟨_, _, _, hh, _⟩⟩
    ·simp at hh
    ·simp at hh
    ·simp only [Da.box.injEq] at hh
     have e1 := Tp hn1 hj
     have e2 := Tp hn1 hi'
     rw [e1] at e2
     simp only [jc] at e2
     subst e2
     exact ⟨d', by rw [hb', hh.1]⟩
    ·simp at hh
    ·simp at hh
    ·simp at hh
    ·simp at hh
    ·have e1 := Tp hn1 hj
     rcases hent j _ hb with ⟨hn, _⟩ | ⟨i', hi', hx⟩
     ·have e2 := Tp hn1 hn
      rw [e1] at e2
      simp at e2
     ·have e2 := Tp hn1 hi'
      rw [e1] at e2
      simp only [jc] at e2
      subst e2
      rcases hx with ⟨e, dp, dp', xs, rfl, hb', _⟩ | ⟨ρ', d', td, y, m0, rfl, _⟩ | ⟨e, xs, k, x, p, τ, d', td, y, m0, rfl, hb', _⟩ | ⟨e, xs, k, rfl, hb' | ⟨hb', _⟩⟩ | ⟨_, _, _, rfl, _⟩ | ⟨_, _, _, rfl, _⟩
      ·exact ⟨_, hb', hr⟩
      ·simp [Da.rowN] at hr
      ·exact ⟨_, hb', hr⟩
      ·exact ⟨_, hb', hr⟩
      ·exact ⟨_, hb', hr⟩
      ·simp [Da.rowN] at hr
      ·simp [Da.rowN] at hr
   refine ⟨σ', φ', h.sz, h.df, ?_, ?_, ?_, ?_, ?_, h.o0, h.fr, ?_, h.iv0, h.ivw, ?_⟩
   ·intro t d' hd
    obtain ⟨td, d, y, m0, g1, g2, g3, g4⟩ := hT1 t d' hd
    obtain ⟨v, hv, hr⟩ := h.tm t d g1
    rw [g4]
    exact ⟨v, hv, H1 hTOk hOO g2 g3 hr⟩
   ·intro j Aa hj
    rcases hent j Aa hj with ⟨hn, e, dp, rfl⟩ | ⟨i, hi, ⟨e, dp, dp', xs, rfl, hb, hd⟩ | ⟨ρ, d, td, y, m0, rfl, hb, hex, hsub, hsh⟩ | ⟨e, xs, k, x, p, τ, d, td, y, m0, rfl, hb, hex, hsub, hsh⟩ | ⟨e, xs, k, rfl, hb⟩ | ⟨kk, vv, xs, rfl, hb⟩ | ⟨kk, e, xs, rfl, hb⟩⟩
    ·rw [Lh, (hσn j hn).1, (hσn j hn).2]
     exact ⟨by simp, .inl ⟨rfl, rfl, rfl⟩⟩
    ·rw [Lh, (hσs j i hi).1, (hσs j i hi).2]
     have hrow := Lh.1 (h.hp i _ hb)
     have hst : ∀ dq, Mf w (OO O0 s φ) dq e xs (σ i) (φ i) → Mf w (OO O0 (Mx p (x1, x2) s.n) φ') dq e xs (σ i) (φ i) := by
      rintro dq ⟨hm, g | ⟨bl, off, cap, cur, et, Fs, g1, hh, g2, g3, g4, hF, hel⟩⟩
      ·exact ⟨hm, .inl g⟩
      ·exact ⟨hm, .inr ⟨bl, off, cap, cur, et, Fs, g1, hh, g2, g3, g4, hF, hel.stable (fun _ _ _ => rfl) hOO (fun _ _ => rfl)⟩⟩
     rcases hd with rfl | hf
     ·exact hst _ hrow
     ·have hup := hrow.up
      rw [hf, Bool.or_true] at hup
      cases dp with
      | true => exact hst _ hup
      | false =>
       cases dp' with
       | false => exact hst _ hrow
       | true =>
        have hown := CF (h.hp i _ hb) (.inl rfl)
        exact hst _ (Lh.1 (LK (O := OO O0 s φ) (hp := s.heap) hown hf))
    ·rw [(hσs j i hi).2]
     obtain ⟨_, b, cur, et, g1, hh, hF, hr, hsz⟩ := h.hp i _ hb
     exact ⟨hsh, b, cur, et, by rw [(hσs j i hi).1]; exact g1, hh, hF, YE hTOk hOO hex hsub hr, hsz⟩
    ·rw [(hσs j i hi).2]
     obtain ⟨_, g1, g2, g3, bl, off, cap, cur, et, g4, g5, g6, g7, hr, hw⟩ := h.hp i _ hb
     refine ⟨hsh, g1, g2, g3, bl, off, cap, cur, et, by rw [(hσs j i hi).1]; exact g4, g5, g6, g7, YE hTOk hOO hex hsub hr, fun w' c' h1 h2 h3 y Fy x' h4 h5 => ?_⟩
     rw [(hσs j i hi).1]
     exact hw w' c' h1 h2 h3 y Fy x' h4 h5
    ·rw [(hσs j i hi).2]
     have hm0 : Yb w (OO O0 s φ) s.heap σ i (.mov e xs k) (φ i) := by
      rcases hb with hb | ⟨hb, rfl⟩
      ·exact h.hp i _ hb
      ·exact GQ (h.hp i _ hb)
     obtain ⟨hlen, ⟨g1, g2, g3⟩ | ⟨bl, off, cap, cur, et, Fs, g1, g⟩⟩ := hm0
     ·exact ⟨hlen, .inl ⟨by rw [(hσs j i hi).1]; exact g1, g2, g3⟩⟩
     ·exact ⟨hlen, .inr ⟨bl, off, cap, cur, et, Fs, by rw [(hσs j i hi).1]; exact g1, g⟩⟩
    ·rw [(hσs j i hi).2]
     obtain ⟨r, es, clk, g1, g2, g3, g4, g5⟩ := h.hp i _ hb
     exact ⟨r, es, clk, by rw [(hσs j i hi).1]; exact g1, g2, g3, Cz (fun _ _ _ => rfl) hOO ⟨g4, g5⟩⟩
    ·rw [(hσs j i hi).2]
     obtain ⟨r, es, clk, g1, g2⟩ := h.hp i _ hb
     exact ⟨r, es, clk, by rw [(hσs j i hi).1]; exact g1, g2⟩
   ·intro j Aa hj
    rcases hlive j Aa hj with hφ | ⟨i, blk0, _, hb, hφ⟩
    ·rw [hφ]; exact List.nodup_nil
    ·rw [hφ]; exact h.nodup i blk0 hb
   ·intro j j' Aa blk' hne hj hj' b hb hb'
    rcases hlive j Aa hj with hφ | ⟨i, blk0, hi, hbi, hφ⟩
    ·rw [hφ] at hb; simp at hb
    ·rcases hlive j' blk' hj' with hφ' | ⟨i', blk0', hi', hbi', hφ'⟩
     ·rw [hφ'] at hb'; simp at hb'
     ·rw [hφ] at hb
      rw [hφ'] at hb'
      by_cases hii : i = i'
      ·subst hii
       exact hne (M2 hn1 hi hi')
      ·exact h.disj i i' blk0 blk0' hii hbi hbi' b hb hb'
   ·intro j Aa hj b hb
    rcases hlive j Aa hj with hφ | ⟨i, blk0, _, hbi, hφ⟩
    ·rw [hφ] at hb; simp at hb
    ·rw [hφ] at hb; exact h.fresh i blk0 hbi b hb
   ·intro j v hv
    have hlow := A.low j v hv
    show σ' j = v
    simp only [σ']
    split
    ·rename_i i hg
     rcases LB hpo j i (Sp hg) with ⟨hj, _⟩ | rfl
     ·omega
     ·exact h.pin _ v hv
    ·rename_i hg
     have := KB hpo j (Sp hg)
     omega
    ·exact h.pin j v hv
   ·intro j kk e xs hj
    rcases hent j _ hj with ⟨hn, e, dp, hh⟩ | ⟨i, hi, ⟨e, dp, dp', xs, hh, _⟩ | ⟨ρ', d', td, y, m0, hh, hb', _⟩ | ⟨e, xs, k, x, p, τ, d', td, y, m0, hh, _⟩ | ⟨e, xs, k, hh, _⟩ | ⟨_, _, _, hh, _⟩ | ⟨kk2, e2, xs2, hh, hb⟩⟩
    ·simp at hh
    ·simp at hh
    ·simp at hh
    ·simp at hh
    ·simp at hh
    ·simp at hh
    ·simp only [Da.mq.injEq] at hh
     obtain ⟨rfl, rfl, hh⟩ := hh
     simp only [heq_eq_eq] at hh
     subst hh
     rw [(hσs j i hi).1]
     exact (h.shr i _ _ _ hb).stable (fun _ _ _ => rfl) hOO (fun _ _ => rfl)
  ·simp at he
 ·simp at he
end
def L9 : Ex → Exit
 | .normal => .normal
 | .exit id => .exit id
 | .ret => .ret
def Gw {X R : Type} (step : X → Option (X ⊕ R)) : Nat → X → R → Prop
 | 0, _, _ => False
 | n + 1, x, r => step x = some (.inr r) ∨ ∃ x', step x = some (.inl x') ∧ Gw step n x' r
def Od : Code → List Code
 | .seq a b => Od a ++ Od b
 | .cond _ a b => Od a ++ Od b
 | .block _ c => Od c
 | .loop c => c :: Od c
 | _ => []
def Ib (G : Gd) (L : List (Nat × Ta)) (b : Code) : Prop :=
 ∀ r ls, Rh b = some r → Ua L r = some ls → ∀ x y, ls.F x = some y → ∃ m, Gw (Sy G L ls b) m x y
section
variable {P : Program} {n0 : Nat} {A : Fx} {O0 : Nat → Prop} {w0 : World} {G : Gd} {L : List (Nat × Ta)}
theorem SO (hG : Oh P A.I G) (hfz : Cx G A O0) (hm : P.follows .mixedOrders = true) : ∀ (c : Code), (∀ b, b ∈ Od c → Ib G L b) → ∀ {Out : Type} {k : Ex → AS → Option Out} {out : Out} {s : AS} {σ : Nat → Value} {φ : Nat → List Nat} {a : Act} {w : World} {Q : Exit → Act → World → Prop},
 So G L c s k = some out → La n0 A O0 w0 s σ φ a w → (∀ e s σ φ a w, k e s = some out → La n0 A O0 w0 s σ φ a w → Q (L9 e) a w) → c.wp P Q a w := by
 intro c
 induction c with
 | skip =>
  intro _ Out k out s σ φ a w Q he h hQ
  simp only [So] at he
  exact wp_skip (hQ .normal s σ φ a w he h)
 | region id ops draw =>
  intro _ Out k out s σ φ a w Q he h hQ
  simp only [So] at he
  split at he
  ·rename_i s1 h1
   obtain ⟨φ1, hc⟩ := Mu hfz h h1
   obtain ⟨s1, σ1, φ1, he, hc⟩ : ∃ s2 σ2 φ2, (bif draw then Bs G (OI G.att (1000 * id + 998)) ops ops.toList 0 [] s2 fun s' => match Hw G.fz (Im G.att) G.att (1000 * id + 999) s' with
    | some s' => k .normal s'
    | none => none
    else Pt G id ops ops.toList 0 s2 fun s' => match Hw G.fz (Im G.att) G.att (1000 * id + 999) s' with
     | some s' => k .normal s'
     | none => none) = some out ∧ La n0 A O0 w0 s2 σ2 φ2 a w := by
    cases draw with
    | false => exact ⟨s1, σ, φ1, he, hc⟩
    | true => exact M1 hc he
   refine XZ (k := fun s' => match Hw G.fz (Im G.att) G.att (1000 * id + 999) s' with
    | some s' => k .normal s'
    | none => none) hG hfz hm hc he fun a w ⟨s', σ', φ', h2, h3⟩ => ?_
   simp only at h2
   split at h2
   ·rename_i s2 h4
    obtain ⟨φ2, hc2⟩ := Mu hfz h3 h4
    exact hQ .normal _ σ' φ2 a w h2 hc2
   ·simp at h2
  ·simp at he
 | seq x y ihx ihy =>
  intro hL Out k out s σ φ a w Q he h hQ
  simp only [So] at he
  refine wp_seq (ihx (fun b hb => hL b (by simp [Od, hb])) he h fun e s' σ' φ' a' w' hk h' => ?_)
  cases e with
  | normal => exact ihy (fun b hb => hL b (by simp [Od, hb])) hk h' hQ
  | exit j => exact hQ (.exit j) s' σ' φ' a' w' hk h'
  | ret => exact hQ .ret s' σ' φ' a' w' hk h'
 | cond x y z ihy ihz =>
  intro hL Out k out s σ φ a w Q he h hQ
  cases x with
  | tmp t =>
   simp only [So] at he
   split at he
   ·rename_i β hd
    have hs := h.same hd
    obtain ⟨v, hv, hr⟩ := h.tm t _ hd
    rw [Eg] at hr
    subst hr
    have hev : a.eval (.tmp t) = .bool β := by
     simp only [Act.eval]
     rw [Array.getD_eq_getD_getElem?, hv]
     rfl
    refine wp_cond_split hev (fun hb => ?_) (fun hb => ?_)
    ·subst hb
     simp only [yt] at he
     exact ihy (fun b hb => hL b (by simp [Od, hb])) he hs hQ
    ·subst hb
     simp only [yu] at he
     exact ihz (fun b hb => hL b (by simp [Od, hb])) he hs hQ
   ·simp at he
  | const cv =>
   cases cv with
   | bool β =>
    simp only [So] at he
    refine wp_cond_split (show a.eval (.const (.bool β)) = .bool β from rfl) (fun hb => ?_) (fun hb => ?_)
    ·subst hb
     simp only [yt] at he
     exact ihy (fun b hb => hL b (by simp [Od, hb])) he h hQ
    ·subst hb
     simp only [yu] at he
     exact ihz (fun b hb => hL b (by simp [Od, hb])) he h hQ
   | _ => simp [So] at he
  | _ => simp [So] at he
 | block id c ih =>
  intro hL Out k out s σ φ a w Q he h hQ
  simp only [So] at he
  refine wp_block (ih (fun b hb => hL b (by simpa [Od] using hb)) he h fun e s' σ' φ' a' w' hk h' => ?_)
  cases e with
  | normal => exact hQ .normal s' σ' φ' a' w' hk h'
  | exit j =>
   simp only [L9, Exit.inBlock]
   cases hb : qq j id with
   | true =>
    rw [if_pos (ju hb)]
    simp only [hb, yt] at hk
    exact hQ .normal s' σ' φ' a' w' hk h'
   | false =>
    rw [if_neg (fun e => by rw [e, Nat.beq_refl] at hb; simp at hb)]
    simp only [hb, yu] at hk
    exact hQ (.exit j) s' σ' φ' a' w' hk h'
  | ret => exact hQ .ret s' σ' φ' a' w' hk h'
 | exit id =>
  intro _ Out k out s σ φ a w Q he h hQ
  simp only [So] at he
  exact wp_exit (hQ (.exit id) s σ φ a w he h)
 | ret =>
  intro _ Out k out s σ φ a w Q he h hQ
  simp only [So] at he
  exact wp_ret (hQ .ret s σ φ a w he h)
 | loop c ih =>
  intro hL Out k out s σ φ a w Q he h hQ
  simp only [So] at he
  split at he
  ·rename_i r hr
   split at he
   ·rename_i ls hls
    split at he
    ·rename_i x hx
     simp only [Ba] at he
     obtain ⟨hn, he⟩ := he
     have hn := ju hn
     rw [qc] at he
     obtain ⟨y, hy, he⟩ := he
     obtain ⟨m, hit⟩ := hL c (by simp [Od]) r ls hr hls x y hy
     obtain ⟨σ1, φ1, h1⟩ := ZE h hx
     rw [hn] at h1 he
     refine wp_loop_rounds m ?_
     have key : ∀ (m : Nat) (x : ls.inT.X) (σ : Nat → Value) (φ : Nat → List Nat) (a : Act) (w : World), Gw (Sy G L ls c) m x y → La n0 A O0 w0 (Mx ls.inT x ls.n) σ φ a w → Code.rounds P c Q m a w := by
      intro m
      induction m with
      | zero => intro x σ φ a w hit _; exact hit.elim
      | succ m ihm =>
       intro x σ φ a w hit h
       rw [rounds_succ]
       have body : ∀ z, Sy G L ls c x = some z → (z = .inr y ∨ ∃ x', z = .inl x' ∧ Gw (Sy G L ls c) m x' y) → c.wp P (Exit.then (Code.rounds P c Q m) Q) a w := by
        intro z hz hzy
        unfold Sy at hz
        refine ih (fun b hb => hL b (by simp [Od, hb])) hz h fun e s' σ' φ' a' w' hk h' => ?_
        simp only [Ba] at hk
        obtain ⟨hn', hk⟩ := hk
        have hn' := ju hn'
        cases e with
        | normal =>
         simp only at hk
         split at hk
         ·rename_i x' hx'
          simp only [jc] at hk
          obtain ⟨σ2, φ2, h2⟩ := ZE h' hx'
          rw [hn'] at h2
          rcases hzy with hzy | ⟨x'', hzy, hit'⟩
          ·rw [hzy] at hk; simp at hk
          ·rw [hzy] at hk
           simp only [Sum.inl.injEq] at hk
           subst hk
           exact ihm x' σ2 φ2 a' w' hit' h2
         ·simp at hk
        | exit j =>
         simp only [Ba] at hk
         obtain ⟨hj, hk⟩ := hk
         have hj := ju hj
         split at hk
         ·rename_i y' hy'
          simp only [jc] at hk
          obtain ⟨σ2, φ2, h2⟩ := ZE h' hy'
          rw [hn'] at h2
          rcases hzy with hzy | ⟨x'', hzy, _⟩
          ·rw [hzy] at hk
           simp only [Sum.inr.injEq] at hk
           subst hk
           simp only [qe] at he
           show Q (.exit j) a' w'
           rw [hj]
           exact hQ (.exit ls.exitId) _ σ2 φ2 a' w' he h2
          ·rw [hzy] at hk; simp at hk
         ·simp at hk
        | ret =>
         simp only at hk
         split at hk
         ·rename_i y' hy'
          simp only [jc] at hk
          obtain ⟨σ2, φ2, h2⟩ := ZE h' hy'
          rw [hn'] at h2
          rcases hzy with hzy | ⟨x'', hzy, _⟩
          ·rw [hzy] at hk
           simp only [Sum.inr.injEq] at hk
           subst hk
           simp only [Sum.elim_inr] at he
           exact hQ .ret _ σ2 φ2 a' w' he h2
          ·rw [hzy] at hk; simp at hk
         ·simp at hk
       rcases hit with hit | ⟨x', hit, hit'⟩
       ·exact body _ hit (.inl rfl)
       ·exact body _ hit (.inr ⟨x', rfl, hit'⟩)
     exact key m x σ1 φ1 a w hit h1
    ·simp at he
   ·simp at he
  ·simp at he
 | _ => intros; rename_i he _ _; simp [So] at he
end
theorem Zb.mono {w : World} {O O' : Nat → Prop} (hO : ∀ b, O' b → O b) : ∀ {rt : Ty} {r : T rt} {fr : List Bool} {vs : List Value} {F : List Nat}, Zb w O rt r fr vs F → Zb w O' rt r fr vs F
 | .u, _, [], [], _, h => h
 | .p x y, r, f :: fr, v :: vs, F, h => by
  obtain ⟨cs, F1, F2, hv, hF, h1, h2⟩ := h
  refine ⟨cs, F1, F2, hv, hF, ?_, Zb.mono hO h2⟩
  cases f with
  | true => exact h1
  | false =>
   simp only [jq, if_false] at h1 ⊢
   exact ⟨h1.1.weaken hO, h1.2⟩
 | .u, _, _ :: _, _, _, h => by simp [Zb] at h
 | .u, _, [], _ :: _, _, h => by simp [Zb] at h
 | .p _ _, _, [], _, _, h => by simp [Zb] at h
 | .p _ _, _, _ :: _, [], _, h => by simp [Zb] at h
 | .i _, _, fr, vs, _, h => by simp [Zb] at h
 | .b, _, fr, vs, _, h => by simp [Zb] at h
 | .o, _, fr, vs, _, h => by simp [Zb] at h
 | .mp _ _, _, fr, vs, _, h => by simp [Zb] at h
 | .s, _, fr, vs, _, h => by simp [Zb] at h
 | .sl _, _, fr, vs, _, h => by simp [Zb] at h
section
variable {P : Program} {n0 : Nat} {A : Fx} {O0 : Nat → Prop} {w0 w : World} {s : AS} {σ : Nat → Value} {φ : Nat → List Nat} {a : Act} {G : Gd} {L : List (Nat × Ta)}
def RU (w : World) (O : Nat → Prop) (hp : Nat → Option Da) (σ : Nat → Value) : D → List Value → Prop
 | .pr a b, v :: vs => Cc w O hp σ a v ∧ RU w O hp σ b vs
 | .un, [] => True
 | _, _ => False
def XD (tmps : Array Value) : ResultVar → Sem Value
 | .tmp t => pure (tmps.getD t undef)
 | .cell a t => do loadVar t (← asAddr (tmps.getD a undef))
theorem Uu (hG : EnvTy P G) (h : La n0 A O0 w0 s σ φ a w) : ∀ {rs : List ResultVar} {d : D}, Js G s rs = some d → ∃ vs, (rs.mapM (XD a.tmps)).run P w = .ok vs w ∧ RU w (OO O0 s φ) s.heap σ d vs
 | [], d, he => by
  simp only [Js, jc] at he
  subst he
  exact ⟨[], by simp, trivial⟩
 | .tmp t :: r, d, he => by
  simp only [Js] at he
  split at he
  ·rename_i d1 d2 h1 h2
   simp only [jc] at he
   subst he
   obtain ⟨vs, hvs, hr⟩ := Uu hG h h2
   obtain ⟨v, hv, hru⟩ := h.tm t d1 h1
   have hg : a.tmps.getD t undef = v := by rw [Array.getD_eq_getD_getElem?, hv]; rfl
   refine ⟨v :: vs, ?_, hru, hr⟩
   rw [List.mapM_cons]
   simp only [XD, qi, Sem.run_pure, qh, hvs, hg]
  ·simp at he
 | .cell t ty :: r, d, he => by
  simp only [Js] at he
  split at he
  ·rename_i id d2 h1 h2
   split at he
   ·rename_i ρ d1 τ hb hty
    split at he
    ·rename_i q hq
     obtain rfl := q.down
     simp only [jc] at he
     subst he
     obtain ⟨vs, hvs, hr⟩ := Uu hG h h2
     obtain ⟨v, hv, hru⟩ := h.tm t _ h1
     have hg : a.tmps.getD t undef = v := by rw [Array.getD_eq_getD_getElem?, hv]; rfl
     rw [Tj] at hru
     obtain ⟨b, hσ, hv'⟩ := hru.2 _ _ hb
     obtain ⟨hs, b', cur, et, hσ', hh, hF, hrep, hsz⟩ := h.hp id _ hb
     rw [hσ] at hσ'
     simp at hσ'
     subst hσ'
     have hl := Vj (P := P) (hG.ty _ _ hty) (off := 0) hh (by omega)
     have hseg : Gc cur 0 ρ.size = cur.toList := by rw [← hsz]; exact Z7 cur
     rw [hseg] at hl
     refine ⟨Hc ρ cur.toList :: vs, ?_, Uj hs hrep, hr⟩
     rw [List.mapM_cons]
     have hoff : Wa ρ [] = 0 := rfl
     rw [hoff] at hv'
     subst hv'
     simp only [XD, qi, Sem.run_pure, qh, hvs, hg, asAddr, hl]
    ·simp at he
   ·simp at he
  ·simp at he
theorem OK (h : La n0 A O0 w0 s σ φ a w) : ∀ {rt : Ty} {fr : List Bool} {d : D} {r : T rt} {l : List Nat} {vs : List Value}, We s rt fr d = some (r, l) → RU w (OO O0 s φ) s.heap σ d vs →
 Zb w (OO O0 s φ) rt r fr vs (Ca φ l) ∧ ∀ j, j ∈ l → ∃ b, s.heap j = some b
 | .u, [], .un, r, l, vs, he, hr => by
  simp only [We, jc, jh] at he
  obtain ⟨_, rfl⟩ := he
  cases vs with
  | nil => exact ⟨by simp [Zb, Ca], by simp⟩
  | cons v vs => simp [RU] at hr
 | .p x y, f :: fr, .pr d1 d2, r, l, vs, he, hr => by
  cases vs with
  | nil => simp [RU] at hr
  | cons v vs =>
   simp only [We] at he
   split at he
   ·rename_i u l1 z l2 h1 h2
    simp only [jc, jh] at he
    obtain ⟨rfl, rfl⟩ := he
    obtain ⟨g1, g2⟩ := OK h h2 hr.2
    cases f with
    | true =>
     simp only [yt] at h1
     obtain ⟨hrep, hv⟩ := Xc (Tg h1) hr.1
     obtain ⟨ho, hl⟩ := Jj h h1 hrep
     refine ⟨⟨_, Ca φ l1, Ca φ l2, hv, Dd, ?_, g1⟩, ?_⟩
     ·simpa using ho
     ·intro j hj
      rcases jl.1 hj with hj | hj
      ·exact hl j hj
      ·exact g2 j hj
    | false =>
     simp only [yu] at h1
     split at h1
     ·rename_i u' hu
      simp only [jc, jh] at h1
      obtain ⟨rfl, rfl⟩ := h1
      obtain ⟨hs, hvw⟩ := Ae (w := w) (O := OO O0 s φ) (hp := s.heap) (σ := σ) hu
      obtain ⟨hrep, hv⟩ := Xc hs hr.1
      refine ⟨⟨_, [], Ca φ l2, hv, by simp [Ca], ?_, g1⟩, by simpa using g2⟩
      simpa using hvw _ hrep
     ·simp at h1
   ·simp at he
 | .u, _ :: _, d, _, _, _, he, _ => by cases d <;> simp [We] at he
 | .u, [], .und, _, _, _, he, _ => by simp [We] at he
 | .u, [], .anyv, _, _, _, he, _ => by simp [We] at he
 | .u, [], .mpo _, _, _, _, he, _ => by simp [We] at he
 | .u, [], .t _ _, _, _, _, he, _ => by simp [We] at he
 | .u, [], .nil, _, _, _, he, _ => by simp [We] at he
 | .u, [], .own _, _, _, _, he, _ => by simp [We] at he
 | .u, [], .ptr _ _, _, _, _, he, _ => by simp [We] at he
 | .u, [], .eptr _ _ _, _, _, _, he, _ => by simp [We] at he
 | .u, [], .rp _ _, _, _, _, he, _ => by simp [We] at he
 | .u, [], .pr _ _, _, _, _, he, _ => by simp [We] at he
 | .u, [], .tup _, _, _, _, he, _ => by simp [We] at he
 | .p _ _, [], d, _, _, _, he, _ => by cases d <;> simp [We] at he
 | .p _ _, _ :: _, .und, _, _, _, he, _ => by simp [We] at he
 | .p _ _, _ :: _, .anyv, _, _, _, he, _ => by simp [We] at he
 | .p _ _, _ :: _, .mpo _, _, _, _, he, _ => by simp [We] at he
 | .p _ _, _ :: _, .t _ _, _, _, _, he, _ => by simp [We] at he
 | .p _ _, _ :: _, .nil, _, _, _, he, _ => by simp [We] at he
 | .p _ _, _ :: _, .own _, _, _, _, he, _ => by simp [We] at he
 | .p _ _, _ :: _, .ptr _ _, _, _, _, he, _ => by simp [We] at he
 | .p _ _, _ :: _, .eptr _ _ _, _, _, _, he, _ => by simp [We] at he
 | .p _ _, _ :: _, .rp _ _, _, _, _, he, _ => by simp [We] at he
 | .p _ _, _ :: _, .un, _, _, _, he, _ => by simp [We] at he
 | .p _ _, _ :: _, .tup _, _, _, _, he, _ => by simp [We] at he
 | .i _, fr, d, _, _, _, he, _ => by cases fr <;> cases d <;> simp [We] at he
 | .b, fr, d, _, _, _, he, _ => by cases fr <;> cases d <;> simp [We] at he
 | .o, fr, d, _, _, _, he, _ => by cases fr <;> cases d <;> simp [We] at he
 | .mp _ _, fr, d, _, _, _, he, _ => by cases fr <;> cases d <;> simp [We] at he
 | .s, fr, d, _, _, _, he, _ => by cases fr <;> cases d <;> simp [We] at he
 | .sl _, fr, d, _, _, _, he, _ => by cases fr <;> cases d <;> simp [We] at he
theorem Qai (h : La n0 A O0 w0 s σ φ a w) {id : Nat} {kk : IntKind} {e : Ty} {xs : List (Int × List (T e))} (hb : s.heap id = some (.mq kk e xs)) :
 ∃ F, Eb w (.mp (.i kk) (.sl e)) xs [σ id] F ∧ F.Nodup ∧ (∀ b, b ∈ F → n0 ≤ b ∨ A.A b) ∧ F.head? = (φ id).head? ∧ ∀ b, b ∈ F.tail → n0 ≤ b ∧ ¬ OO O0 s φ b := by
 obtain ⟨r, es, clk, g1, g2, g3, g4⟩ := h.hp id _ hb
 obtain ⟨r', es', clk', Gs, s1, s2, s3, s4, s5, s6, s7⟩ := h.shr id _ _ _ hb
 rw [g1] at s1
 simp only [Value.map.injEq, jc] at s1
 subst s1
 refine ⟨r :: List.flatten Gs, .inr ⟨r, es', clk', Gs, by rw [g1], s2, s3, rfl, s4, fun i hi => ?_⟩, ?_, ?_, by rw [g3]; rfl, fun b hb' => s6 b hb'⟩
 ·obtain ⟨en, q1, q2, q3⟩ := s7 i hi
  exact ⟨en, [.int kk (List.get xs ⟨i, hi⟩).1], [en.val], q1, q2, rfl, ⟨rfl, rfl⟩, q3⟩
 ·refine yd.2 ⟨fun hm => (s6 r hm).2 (.inr ⟨id, _, hb, by rw [g3]; simp⟩), s5⟩
 ·intro b hm
  rcases jp.1 hm with rfl | hm
  ·exact h.fresh id _ hb _ (by rw [g3]; simp)
  ·exact .inl (s6 b hm).1
theorem Y7 (h : La n0 A O0 w0 s σ φ a w) {rt : Ty} {fr : List Bool} {d : D} {r : T rt} {vs : List Value} (he : BX s rt fr d = some r) (hr : RU w (OO O0 s φ) s.heap σ d vs) :
 ∃ F, (∀ O', Zb w O' rt r fr vs F) ∧ F.Nodup ∧ (∀ b, b ∈ F → n0 ≤ b ∨ A.A b) := by
 unfold BX at he
 split at he
 ·rename_i k v id
  split at he
  ·rename_i kk e xs hb
   split at he
   ·rename_i q hq
    have q2 := q
    simp only [Ty.mp.injEq] at q2
    obtain ⟨rfl, rfl⟩ := q2
    simp only [jc] at he
    subst he
    obtain ⟨F, h1, h2, h3, _⟩ := Qai h hb
    cases vs with
    | nil => simp [RU] at hr
    | cons u vs =>
     obtain ⟨hr1, hr2⟩ := hr
     cases vs with
     | cons _ _ => simp [RU] at hr2
     | nil =>
      have hu : u = σ id := (Zk.1 hr1).2 _ hb rfl
      subst hu
      exact ⟨F, fun _ => ⟨[σ id], F, [], rfl, by simp, h1, rfl⟩, h2, h3⟩
   ·simp at he
  ·simp at he
 ·simp at he
theorem Mv {fn : Func} {vs : List Value} (h : (fn.results.toList.mapM (XD a.tmps)).run P w = .ok vs w) : (results fn a.tmps).run P w = .ok (Qx vs) w := by
 unfold results
 rw [Array.mapM_eq_mapM_toList]
 simp only [map_eq_pure_bind, bind_assoc, pure_bind, qi, Sem.run_pure]
 show (Sem.run P (List.mapM (XD a.tmps) fn.results.toList) w).andThen (fun vs w' => Result.ok (if h : vs.toArray.size = 1 then vs.toArray[0] else Value.tuple vs.toArray) w') = _
 rw [h]
 simp only [qh]
 congr 1
 cases vs with
 | nil => rfl
 | cons v vs => cases vs <;> rfl
end
def Ty.npar : Ty → Nat
 | .p _ y => y.npar + 1
 | _ => 0
theorem Yy {w : World} {O : Nat → Prop} : ∀ {pt : Ty} {x : T pt} {args : List Value}, Ce w O pt x args → args.length = pt.npar
 | .u, _, [], _ => rfl
 | .p x y, v, a :: r, h => by simp [Ty.npar, Yy h.2]
 | .u, _, _ :: _, h => by simp [Ce] at h
 | .p _ _, _, [], h => by simp [Ce] at h
 | .i _, _, l, h => by simp [Ce] at h
 | .b, _, l, h => by simp [Ce] at h
 | .o, _, l, h => by simp [Ce] at h
 | .mp _ _, _, l, h => by simp [Ce] at h
 | .s, _, l, h => by simp [Ce] at h
 | .sl _, _, l, h => by simp [Ce] at h
theorem IB {w : World} {O : Nat → Prop} {hp : Nat → Option Da} {σ : Nat → Value} : ∀ {pt : Ty} {x : T pt} {args : List Value} {n t : Nat} {d : D}, Ce w O pt x args → Ua (Yq pt x n) t = some d →
 ∃ j v, t = n + j ∧ args[j]? = some v ∧ Cc w O hp σ d v
 | .p x y, v, a :: r, n, t, d, h, hd => by
  simp only [Yq] at hd
  rw [Rb] at hd
  split at hd
  ·rename_i e
   simp only [jc] at hd
   subst hd
   obtain ⟨⟨cs, ha, hv⟩, _⟩ := h
   refine ⟨0, a, by omega, rfl, ?_⟩
   rw [ha]
   exact Uj (τ := x) (by simp [Sa]) hv
  ·obtain ⟨j, v', h1, h2, h3⟩ := IB (hp := hp) (σ := σ) h.2 hd
   exact ⟨j + 1, v', by omega, by simpa using h2, h3⟩
 | .p _ _, _, [], _, _, _, h, _ => by simp [Ce] at h
 | .u, _, _, _, _, _, _, hd => by simp [Yq, Ua] at hd
 | .i _, _, _, _, _, _, h, _ => by simp [Ce] at h
 | .b, _, _, _, _, _, h, _ => by simp [Ce] at h
 | .o, _, _, _, _, _, h, _ => by simp [Ce] at h
 | .mp _ _, _, _, _, _, _, h, _ => by simp [Ce] at h
 | .s, _, _, _, _, _, h, _ => by simp [Ce] at h
 | .sl _, _, _, _, _, _, h, _ => by simp [Ce] at h
section
variable {P : Program} {G : Gd} {L : List (Nat × Ta)}
variable {I : Bg}
def Y1 (I : Bg) : Fx := ⟨fun _ => False, fun _ => none, fun _ _ h => by simp at h, I, fun _ h => h.elim⟩
theorem B3 (hG : Oh P I G) (hm : P.follows .mixedOrders = true) {f : FuncId} {fn : Func} {c : Code} (hf : P.funcs[f]? = some fn) (hb : fn.body = some c) (hname : (fn.name == "runtime.NumGoroutine") = false)
 (hL : ∀ b, b ∈ Od c → Ib G L b) {pt rt : Ty} {fr : List Bool} {F : T pt → Option (T rt)} (hn : pt.npar ≤ fn.ntmps) (hF : ∀ x r, F x = some r → KY G L fn pt rt fr x = some r) : Gg P I f (.pu pt rt fr F) := by
 refine ⟨⟨fn, hf, hname, by rw [hb]; rfl⟩, ?_⟩
 intro O w x r args hx hargs hO hI hB
 have he := hF x r hx
 unfold KY at he
 rw [hb] at he
 simp only at he
 refine calls_of_wp hf hb ?_
 have hlen := Yy hargs
 have hc : La w.heap.size (Y1 I) O w ⟨fn.ntmps, Yq pt x 0, []⟩ (fun _ => undef) (fun _ => []) { tmps := args.toArray ++ Array.replicate (fn.ntmps - args.toArray.size) undef, defers := [] } w := by
  have hh : ∀ id, AS.heap ⟨fn.ntmps, Yq pt x 0, []⟩ id = none := fun id => rfl
  refine ⟨?_, rfl, ?_, ?_, ?_, ?_, ?_, hO, ⟨rfl, rfl, rfl, jo _, fun _ _ _ => rfl⟩, ?_, hB, hI, fun id kk e xs hb => by rw [hh] at hb; simp at hb⟩
  ·simp; omega
  ·intro t d hd
   have hOO : OO O ⟨fn.ntmps, Yq pt x 0, []⟩ (fun _ => []) = O := by
    funext b
    simp [OO, hh]
   rw [hOO]
   obtain ⟨j, v, h1, h2, h3⟩ := IB hargs hd
   refine ⟨v, ?_, h3⟩
   have hj : j < args.length := (qw.1 h2).1
   have : t = j := by omega
   subst this
   rw [Array.getElem?_append_left (by simpa using hj)]
   simpa using h2
  ·intro id Aa hb; rw [hh] at hb; simp at hb
  ·intro id Aa hb; rw [hh] at hb; simp at hb
  ·intro id id' Aa blk' _ hb; rw [hh] at hb; simp at hb
  ·intro id Aa hb; rw [hh] at hb; simp at hb
  ·intro id v hv; simp [Y1] at hv
 refine SO (A := Y1 I) hG (fun _ => .inl fun _ h => h) hm c hL he hc ?_
 intro e s σ φ a w' hk h
 have Af : (match Js G s fn.results.toList with
  | some d => match BX s rt fr d with
   | some r => some r
   | none => match We s rt fr d with
    | some (r, l) => bif Fe l then some r else none
    | none => none
  | none => none) = some r → a.defers = [] ∧ ∃ v, (results fn a.tmps).run P w' = .ok v w' ∧ Dk (fun v w' => ∃ vs Fr, v = Qx vs ∧ Np w w' (fun _ => False) ∧ Zb w' (fun b => O b ∨ b ∈ Fr) rt r fr vs Fr ∧ Fr.Nodup ∧ ∀ b ∈ Fr, w.heap.size ≤ b) (.returned v) w' := by
  intro hk
  split at hk
  ·rename_i d hd
   split at hk
   ·rename_i r' hq
    simp only [jc] at hk
    subst hk
    obtain ⟨vs, hvs, hru⟩ := Uu hG.toEnvTy h hd
    obtain ⟨F, hR, hnd, hfr⟩ := Y7 h hq hru
    exact ⟨h.df, _, Mv hvs, vs, F, rfl, ⟨h.fr.size, fun b hb _ => h.fr.block b hb (fun h => h), h.fr.os, h.fr.tape, h.fr.output⟩, hR _, hnd, fun b hb => (hfr b hb).resolve_right (fun h => h)⟩
   split at hk
   ·rename_i r' l hr
    simp only [Ba] at hk
    obtain ⟨hnd, hk⟩ := hk
    simp only [jc] at hk
    subst hk
    have hnd := Of hnd
    obtain ⟨vs, hvs, hru⟩ := Uu hG.toEnvTy h hd
    obtain ⟨hR, hlive⟩ := OK h hr hru
    refine ⟨h.df, _, Mv hvs, vs, Ca φ l, rfl, ⟨h.fr.size, fun b hb _ => h.fr.block b hb (fun h => h), h.fr.os, h.fr.tape, h.fr.output⟩, hR.mono ?_, Je h hnd hlive, ?_⟩
    ·rintro b (hb | hb)
     ·exact .inl hb
     ·obtain ⟨j, hj, hm'⟩ := Va.1 hb
      obtain ⟨Aa, hbj⟩ := hlive j hj
      exact .inr ⟨j, Aa, hbj, hm'⟩
    ·intro b hb
     obtain ⟨j, hj, hm'⟩ := Va.1 hb
     obtain ⟨Aa, hbj⟩ := hlive j hj
     exact (h.fresh j Aa hbj b hm').resolve_right (fun h => h)
   ·simp at hk
  ·simp at hk
 cases e with
 | normal => exact Af hk
 | ret => exact Af hk
 | exit j => simp at hk
end
theorem QC {φ : Nat → List Nat} : ∀ {L : List Nat}, (Ca φ L).Nodup → ∀ {i j b : Nat}, i ∈ L → j ∈ L → i ≠ j → b ∈ φ i → b ∉ φ j
 | [], _, _, _, _, h, _, _, _ => by simp at h
 | x :: L, hn, i, j, b, hi, hj, hne, hb => by
  intro hb'
  have hx : Ca φ (x :: L) = φ x ++ Ca φ L := by simp [Ca]
  rw [hx, ye] at hn
  rcases jp.1 hi with e1 | q1
  ·rcases jp.1 hj with e2 | q2
   ·exact hne (e1.trans e2.symm)
   ·exact hn.2.2 b (e1 ▸ hb) b (Va.2 ⟨j, q2, hb'⟩) rfl
  ·rcases jp.1 hj with e2 | q2
   ·exact hn.2.2 b (e2 ▸ hb') b (Va.2 ⟨i, q1, hb⟩) rfl
   ·exact QC hn.2.1 q1 q2 hne hb hb'
section
variable {P : Program} {G : Gd} {L : List (Nat × Ta)} {I : Bg}
end
def JB : (pt : Ty) → T pt → Nat → Nat → List (Nat × D) × List (Nat × Option Da) × Nat
 | .p x y, v, t, n => match Ad x v.1 n with
  | (d, l, m) => match JB y v.2 (t + 1) m with
   | (tm, l', m') => ((t, d) :: tm, l ++ l', m')
 | _, _, _, n => ([], [], n)
def QN (G : Gd) (L : List (Nat × Ta)) (fn : Func) (vw cv : Bool) (τ pt rt : Ty) (fr : List Bool) (x0 : T τ) (x : T pt) : Option (T τ × T rt) :=
 match fn.body with
 | some c => match (bif vw then (D.t τ x0, [], 400000) else Ad τ x0 400000) with
  | (d0, rows, m) => match (bif cv then JB pt x 1 m else (Yq pt x 1, [], m)) with
   | (tm, rows2, m2) => bif jx m2 500000 then So G L c ⟨fn.ntmps, (0, .ptr 500000 []) :: tm, (500000, some (.box τ d0)) :: (rows ++ rows2)⟩ fun e s => match e with
    | .exit _ => none
    | _ => match s.heap 500000, Js G s fn.results.toList with
     | some (.box τ' d1), some d => match Ty.dec τ' τ, (bif vw then (match Qe d1 τ with
      | some y => some (y, [])
      | none => none) else Bb s d1 τ), We s rt fr d with
      | some _, some (x', l0), some (r, l) => bif Fe (500000 :: (l0 ++ l)) then some (x', r) else none
      | _, _, _ => none
     | _, _ => none
    else none
 | none => none
theorem QL {w : World} : ∀ {pt : Ty} {x : T pt} {args : List Value} {F : List Nat}, Yd w pt x args F → args.length = pt.npar
 | .u, _, [], _, _ => rfl
 | .p x y, v, a :: r, F, h => by
  obtain ⟨cs, F1, F2, _, _, _, h⟩ := h
  simp [Ty.npar, QL h]
 | .u, _, _ :: _, _, h => by simp [Yd] at h
 | .p _ _, _, [], _, h => by simp [Yd] at h
 | .i _, _, l, _, h => by simp [Yd] at h
 | .b, _, l, _, h => by simp [Yd] at h
 | .o, _, l, _, h => by simp [Yd] at h
 | .mp _ _, _, l, _, h => by simp [Yd] at h
 | .s, _, l, _, h => by simp [Yd] at h
 | .sl _, _, l, _, h => by simp [Yd] at h
theorem Yd.lt {w : World} : ∀ {pt : Ty} {x : T pt} {args : List Value} {F : List Nat}, Yd w pt x args F → ∀ b, b ∈ F → b < w.heap.size
 | .u, _, [], F, h, b, hb => by simp only [Yd] at h; subst h; simp at hb
 | .p x y, v, a :: r, F, h, b, hb => by
  obtain ⟨cs, F1, F2, _, rfl, ho, h⟩ := h
  rcases jl.1 hb with hb | hb
  ·exact ho.lt b hb
  ·exact Yd.lt h b hb
 | .u, _, _ :: _, _, h, _, _ => by simp [Yd] at h
 | .p _ _, _, [], _, h, _, _ => by simp [Yd] at h
 | .i _, _, l, _, h, _, _ => by simp [Yd] at h
 | .b, _, l, _, h, _, _ => by simp [Yd] at h
 | .o, _, l, _, h, _, _ => by simp [Yd] at h
 | .mp _ _, _, l, _, h, _, _ => by simp [Yd] at h
 | .s, _, l, _, h, _, _ => by simp [Yd] at h
 | .sl _, _, l, _, h, _, _ => by simp [Yd] at h
theorem EQ {w : World} : ∀ {pt : Ty} {x : T pt} {args : List Value} {F : List Nat} {t n m : Nat} {tm : List (Nat × D)} {l : List (Nat × Option Da)}, JB pt x t n = (tm, l, m) → Yd w pt x args F →
 n ≤ m ∧ (∀ p, p ∈ l → n ≤ p.1 ∧ p.1 < m) ∧ ∃ (ψ : Nat → List Nat) (ν : Nat → Value), Ca ψ (l.map (·.1)) = F ∧ (∀ p, p ∈ l → FB w p.2 (ν p.1) (ψ p.1)) ∧
  ∀ (hp' : Nat → Option Da) (σ' : Nat → Value) (O' : Nat → Prop), (∀ p, p ∈ l → σ' p.1 = ν p.1) → ∀ t' d, Ua tm t' = some d → ∃ j v, t' = t + j ∧ args[j]? = some v ∧ Cc w O' hp' σ' d v
 | .u, x, [], F, t, n, m, tm, l, he, h => by
  simp only [JB, jh] at he
  obtain ⟨rfl, rfl, rfl⟩ := he
  simp only [Yd] at h
  exact ⟨jo _, by simp, fun _ => [], fun _ => undef, by simp [Ca, h], by simp, fun _ _ _ _ t' d hd => by simp [Ua] at hd⟩
 | .p t1 t2, x, a :: r, F, t, n, m, tm, l, he, h => by
  obtain ⟨cs, F1, F2, ha, hF, ho, hr⟩ := h
  simp only [JB] at he
  rcases ho1 : Ad t1 x.1 n with ⟨d1, l1, m1⟩
  rcases ho2 : JB t2 x.2 (t + 1) m1 with ⟨tm2, l2, m2⟩
  rw [ho1] at he
  simp only at he
  rw [ho2] at he
  simp only [jh] at he
  obtain ⟨rfl, rfl, rfl⟩ := he
  obtain ⟨a1, a2, a3, ψ1, ν1, a4, a5, a6⟩ := Iq ho1 ho
  obtain ⟨b1, b2, ψ2, ν2, b4, b5, b6⟩ := EQ ho2 hr
  refine ⟨by omega, ?_, fun id => if id < m1 then ψ1 id else ψ2 id, fun id => if id < m1 then ν1 id else ν2 id, ?_, ?_, ?_⟩
  ·intro p hp
   rcases jl.1 hp with hp | hp
   ·have := a2 p hp; omega
   ·have := b2 p hp; omega
  ·rw [yl, Dd, hF, ← a4, ← b4]
   congr 1
   ·exact Yh fun id hid => by
     obtain ⟨p, hp, rfl⟩ := qg.1 hid
     rw [if_pos (a2 p hp).2]
   ·exact Yh fun id hid => by
     obtain ⟨p, hp, rfl⟩ := qg.1 hid
     rw [if_neg (by have := b2 p hp; omega)]
  ·intro p hp
   rcases jl.1 hp with hp | hp
   ·simp only [if_pos (a2 p hp).2]; exact a5 p hp
   ·have : ¬ p.1 < m1 := by have := b2 p hp; omega
    simp only [if_neg this]; exact b5 p hp
  ·intro hp' σ' O' hσ t' d hd
   rw [Rb] at hd
   split at hd
   ·rename_i e
    simp only [jc] at hd
    subst hd
    refine ⟨0, a, by omega, rfl, ?_⟩
    rw [ha]
    refine Uj a3 (a6 w hp' σ' O' fun p hp => ?_)
    have h1 := hσ p (qo _ hp)
    simp only [if_pos (a2 p hp).2] at h1
    exact h1
   ·obtain ⟨j, v, h1, h2, h3⟩ := b6 hp' σ' O' (fun p hp => by
     have h1 := hσ p (qp _ hp)
     have h2 : ¬ p.1 < m1 := by have := b2 p hp; omega
     simp only [if_neg h2] at h1
     exact h1) t' d hd
    exact ⟨j + 1, v, by omega, by simpa using h2, h3⟩
 | .u, _, _ :: _, _, _, _, _, _, _, _, h => by simp [Yd] at h
 | .p _ _, _, [], _, _, _, _, _, _, _, h => by simp [Yd] at h
 | .i _, _, l, _, _, _, _, _, _, _, h => by simp [Yd] at h
 | .b, _, l, _, _, _, _, _, _, _, h => by simp [Yd] at h
 | .o, _, l, _, _, _, _, _, _, _, h => by simp [Yd] at h
 | .mp _ _, _, l, _, _, _, _, _, _, _, h => by simp [Yd] at h
 | .s, _, l, _, _, _, _, _, _, _, h => by simp [Yd] at h
 | .sl _, _, l, _, _, _, _, _, _, _, h => by simp [Yd] at h
section
variable {P : Program} {G : Gd} {L : List (Nat × Ta)} {I : Bg}
theorem A3 {vw cv : Bool} (hG : Oh P I G) (hfz : G.fz = false ∨ ((vw && !cv) = true ∧ Im G.att = true)) (hm : P.follows .mixedOrders = true) {f : FuncId} {fn : Func} {c : Code} (hf : P.funcs[f]? = some fn) (hb : fn.body = some c) (hname : (fn.name == "runtime.NumGoroutine") = false)
 (hL : ∀ b, b ∈ Od c → Ib G L b) {τ pt rt : Ty} {fr : List Bool} {F : T τ → T pt → Option (T τ × T rt)} (hn : pt.npar + 1 ≤ fn.ntmps) (hF : ∀ x0 x r, F x0 x = some r → QN G L fn vw cv τ pt rt fr x0 x = some r) :
 Gg P I f (.bx vw cv τ pt rt fr F) := by
 refine ⟨⟨fn, hf, hname, by rw [hb]; rfl⟩, ?_⟩
 intro O w x0 x r b cur et F0 F2 args hx hh hsz hcont hargs hnd hO hI hB hFB
 have he := hF x0 x r hx
 unfold QN at he
 rw [hb] at he
 simp only at he
 rcases hop : (bif vw then (D.t τ x0, [], 400000) else Ad τ x0 400000) with ⟨d0, rows, m⟩
 rw [hop] at he
 simp only at he
 rcases hop2 : (bif cv then JB pt x 1 m else (Yq pt x 1, [], m)) with ⟨tm, rows2, m2⟩
 rw [hop2] at he
 simp only [Ba] at he
 obtain ⟨hm2, he⟩ := he
 have hm2 := qu hm2
 have hlt : b < w.heap.size := (Array.getElem?_eq_some_iff.1 hh).1
 have k1 : 400000 ≤ m ∧ (∀ p, p ∈ rows → 400000 ≤ p.1 ∧ p.1 < m) ∧ Sa τ d0 ∧ (∀ c, c ∈ F0 → c < w.heap.size) ∧ ∃ (ψ : Nat → List Nat) (ν : Nat → Value), Ca ψ (rows.map (·.1)) = F0 ∧ (∀ p, p ∈ rows → FB w p.2 (ν p.1) (ψ p.1)) ∧
  ∀ (hp' : Nat → Option Da) (σ' : Nat → Value), (∀ p, p ∈ rows → σ' p.1 = ν p.1) → Pa w (fun c => O c ∨ c ∈ b :: (F0 ++ F2)) hp' σ' d0 cur.toList := by
  cases vw with
  | true =>
   simp only [yt, jh] at hop
   obtain ⟨rfl, rfl, rfl⟩ := hop
   simp only [if_true] at hcont
   obtain ⟨hv, rfl⟩ := hcont
   refine ⟨jo _, by simp, by simp [Sa], by simp, fun _ => [], fun _ => undef, by simp [Ca], by simp, fun hp' σ' _ => Ha.weaken (fun c hc => ?_) hv⟩
   rcases hc with hc | hc
   ·exact .inl hc
   ·rcases jp.1 hc with rfl | hc
    ·exact .inr (.inl rfl)
    ·exact .inr (.inr (by simpa using hc))
  | false =>
   simp only [yu] at hop
   simp only [jq, if_false] at hcont
   obtain ⟨a1, a2, a3, ψ1, ν1, a4, a5, a6⟩ := Iq hop hcont
   exact ⟨a1, a2, a3, fun c hc => hcont.lt c hc, ψ1, ν1, a4, a5, fun hp' σ' h => a6 w hp' σ' _ h⟩
 obtain ⟨hnm, hids, hsh, hF0lt, ψ1, ν1, hbl1, hrows1, hrep1⟩ := k1
 have k2 : m ≤ m2 ∧ (∀ p, p ∈ rows2 → m ≤ p.1 ∧ p.1 < m2) ∧ args.length = pt.npar ∧ (∀ c, c ∈ F2 → c < w.heap.size) ∧ ∃ (ψ : Nat → List Nat) (ν : Nat → Value), Ca ψ (rows2.map (·.1)) = F2 ∧ (∀ p, p ∈ rows2 → FB w p.2 (ν p.1) (ψ p.1)) ∧
  ∀ (hp' : Nat → Option Da) (σ' : Nat → Value), (∀ p, p ∈ rows2 → σ' p.1 = ν p.1) → ∀ t' d, Ua tm t' = some d → ∃ j v, t' = 1 + j ∧ args[j]? = some v ∧ Cc w (fun c => O c ∨ c ∈ b :: (F0 ++ F2)) hp' σ' d v := by
  cases cv with
  | true =>
   simp only [yt] at hop2
   simp only [if_true] at hargs
   obtain ⟨a1, a2, ψ2, ν2, a4, a5, a6⟩ := EQ hop2 hargs
   exact ⟨a1, a2, QL hargs, hargs.lt, ψ2, ν2, a4, a5, fun hp' σ' h => a6 hp' σ' _ h⟩
  | false =>
   simp only [yu, jh] at hop2
   obtain ⟨rfl, rfl, rfl⟩ := hop2
   simp only [jq, if_false] at hargs
   obtain ⟨hv, rfl⟩ := hargs
   refine ⟨jo _, by simp, Yy hv, by simp, fun _ => [], fun _ => undef, by simp [Ca], by simp, fun hp' σ' _ t' d hd => ?_⟩
   have : (fun c => O c ∨ c ∈ b :: (F0 ++ [])) = (fun c => O c ∨ c = b ∨ c ∈ F0) := by
    funext c; simp
   rw [this]
   exact IB hv hd
 obtain ⟨hmm, hids2, hlen, hF2lt, ψ2, ν2, hbl2, hrows2, hrep2⟩ := k2
 refine calls_of_wp hf hb ?_
 let ψ : Nat → List Nat := fun id => if id = 500000 then [b] else if id < m then ψ1 id else ψ2 id
 let ν : Nat → Value := fun id => if id = 500000 then .pointer (some ⟨b, 0, none⟩) else if id < m then ν1 id else ν2 id
 have hψ0 : ψ 500000 = [b] := if_pos rfl
 have hν0 : ν 500000 = .pointer (some ⟨b, 0, none⟩) := if_pos rfl
 have hψ1 : ∀ p, p ∈ rows → ψ p.1 = ψ1 p.1 ∧ ν p.1 = ν1 p.1 := fun p hp => by
  have h1 := hids p hp
  have h2 : ¬ p.1 = 500000 := by omega
  simp only [ψ, ν, if_neg h2, if_pos h1.2, and_self]
 have hψ2 : ∀ p, p ∈ rows2 → ψ p.1 = ψ2 p.1 ∧ ν p.1 = ν2 p.1 := fun p hp => by
  have h1 := hids2 p hp
  have h2 : ¬ p.1 = 500000 := by omega
  have h3 : ¬ p.1 < m := by omega
  simp only [ψ, ν, if_neg h2, if_neg h3, and_self]
 let s0 : AS := ⟨fn.ntmps, (0, .ptr 500000 []) :: tm, (500000, some (.box τ d0)) :: (rows ++ rows2)⟩
 have hbx : s0.heap 500000 = some (.box τ d0) := by simp [s0, AS.heap, Rb]
 have hmem : ∀ id Aa, s0.heap id = some Aa → (id = 500000 ∧ Aa = .box τ d0) ∨ (id ≠ 500000 ∧ id ∈ (rows ++ rows2).map (·.1) ∧ FB w (some Aa) (ν id) (ψ id)) := by
  intro id Aa hb
  by_cases hid : id = 500000
  ·subst hid
   rw [hbx] at hb
   simp only [jc] at hb
   exact .inl ⟨rfl, hb.symm⟩
  ·have hm := AS.heap_mem hb
   simp only [s0, jp, jh, hid, false_and, false_or] at hm
   refine .inr ⟨hid, yk (f := (·.1)) hm, ?_⟩
   rcases jl.1 hm with hm | hm
   ·rw [(hψ1 _ hm).1, (hψ1 _ hm).2]
    exact hrows1 _ hm
   ·rw [(hψ2 _ hm).1, (hψ2 _ hm).2]
    exact hrows2 _ hm
 have hblr : Ca ψ ((rows ++ rows2).map (·.1)) = F0 ++ F2 := by
  rw [yl, Dd, ← hbl1, ← hbl2]
  congr 1
  ·exact Yh fun id hid => by
    obtain ⟨p, hp, rfl⟩ := qg.1 hid
    exact (hψ1 p hp).1
  ·exact Yh fun id hid => by
    obtain ⟨p, hp, rfl⟩ := qg.1 hid
    exact (hψ2 p hp).1
 have hbl : Ca ψ (500000 :: (rows ++ rows2).map (·.1)) = b :: (F0 ++ F2) := by
  have : Ca ψ (500000 :: (rows ++ rows2).map (·.1)) = ψ 500000 ++ Ca ψ ((rows ++ rows2).map (·.1)) := by simp only [Ca, ya, yg]
  rw [this, hψ0, hblr]; rfl
 have hndB : (Ca ψ (500000 :: (rows ++ rows2).map (·.1))).Nodup := by rw [hbl]; exact hnd
 have hidin : ∀ id Aa, s0.heap id = some Aa → id ∈ 500000 :: (rows ++ rows2).map (·.1) := by
  intro id Aa hb
  rcases hmem id Aa hb with ⟨rfl, _⟩ | ⟨_, h, _⟩
  ·exact List.mem_cons_self
  ·exact jr _ h
 let A : Fx := ⟨(· ∈ b :: (F0 ++ F2)), fun id => if id = 500000 then some (.pointer (some ⟨b, 0, none⟩)) else none, fun id v h => by
  split at h
  ·omega
  ·simp at h, I, hFB⟩
 have hOO : OO (fun c => O c ∨ c ∈ b :: (F0 ++ F2)) s0 ψ = (fun c => O c ∨ c ∈ b :: (F0 ++ F2)) := by
  funext c
  refine propext ⟨fun h => ?_, .inl⟩
  rcases h with h | ⟨id, Aa, hb, hm⟩
  ·exact h
  ·refine .inr ?_
   rw [← hbl]
   exact Va.2 ⟨id, hidin id Aa hb, hm⟩
 have hc : La w.heap.size A (fun c => O c ∨ c ∈ b :: (F0 ++ F2)) w s0 ν ψ { tmps := (.pointer (some ⟨b, 0, none⟩) :: args).toArray ++ Array.replicate (fn.ntmps - (Value.pointer (some ⟨b, 0, none⟩) :: args).toArray.size) undef, defers := [] } w := by
  refine ⟨?_, rfl, ?_, ?_, ?_, ?_, ?_, ?_, ⟨rfl, rfl, rfl, jo _, fun _ _ _ => rfl⟩, ?_, hB, hI, fun id kk e xs hb => (hmem id _ hb).elim (fun h => by simp at h) fun h => h.2.2.nq.elim⟩
  ·simp [s0]; omega
  ·intro t d hd
   rw [hOO]
   simp only [s0] at hd
   rw [Rb] at hd
   split at hd
   ·rename_i e
    subst e
    simp only [jc] at hd
    subst hd
    refine ⟨.pointer (some ⟨b, 0, none⟩), by rw [Array.getElem?_append_left (by simp)]; simp, ?_⟩
    rw [Tj]
    exact ⟨rfl, fun ρ d _ => ⟨b, hν0, by simp [Wa]⟩⟩
   ·obtain ⟨j, v, h1, h2, h3⟩ := hrep2 s0.heap ν (fun p hp => (hψ2 p hp).2) t d hd
    refine ⟨v, ?_, h3⟩
    have hj : j < args.length := (qw.1 h2).1
    have : t = j + 1 := by omega
    subst this
    rw [Array.getElem?_append_left (by simpa using hj)]
    simpa using h2
  ·intro id Aa hb
   rw [hOO]
   rcases hmem id Aa hb with ⟨rfl, rfl⟩ | ⟨_, _, h2⟩
   ·exact ⟨hsh, b, cur, et, hν0, hh, hψ0, hrep1 _ _ fun p hp => (hψ1 p hp).2, hsz⟩
   ·exact h2.rep
  ·intro id Aa hb
   have hi := hidin id Aa hb
   have : (ψ id).Sublist (Ca ψ (500000 :: (rows ++ rows2).map (·.1))) := by
    unfold Ca
    exact List.sublist_flatten_of_mem (yk hi)
   exact this.nodup hndB
  ·intro id id' Aa blk' hne hb hb' c hm
   exact QC hndB (hidin id Aa hb) (hidin id' blk' hb') hne hm
  ·intro id Aa hb c hm
   refine .inr ?_
   show c ∈ b :: (F0 ++ F2)
   rw [← hbl]
   exact Va.2 ⟨id, hidin id Aa hb, hm⟩
  ·rintro c (hc | hc)
   ·exact hO c hc
   ·rcases jp.1 hc with rfl | hc
    ·exact hlt
    ·rcases jl.1 hc with hc | hc
     ·exact hF0lt c hc
     ·exact hF2lt c hc
  ·intro id v hv
   simp only [A] at hv
   split at hv
   ·rename_i e
    subst e
    simp only [jc] at hv
    exact hν0.trans hv
   ·simp at hv
 have hFz : Cx G A (fun c => O c ∨ c ∈ b :: (F0 ++ F2)) := by
  intro hz
  rcases hfz with h0 | ⟨h1, h2⟩
  ·rw [h0] at hz; simp at hz
  ·simp only [jd, yc] at h1
   obtain ⟨h1, h3⟩ := h1
   subst h1
   subst h3
   simp only [if_true] at hcont
   simp only [jq, if_false] at hargs
   obtain ⟨_, hF0⟩ := hcont
   obtain ⟨_, hF2⟩ := hargs
   refine .inr (.inr ⟨h2, fun x hx => ?_⟩)
   have hx' : x ∈ b :: (F0 ++ F2) := hx
   rw [hF0, hF2] at hx'
   simp only [List.append_nil, qa] at hx'
   rw [hx']
   show (if (500000 : Nat) = 500000 then some (Value.pointer (some ⟨b, 0, none⟩)) else none) = _
   exact if_pos rfl
 refine SO (A := A) hG hFz hm c hL he hc ?_
 intro e s σ φ a w' hk h
 have Af : (match s.heap 500000, Js G s fn.results.toList with
  | some (.box τ' d1), some d => match Ty.dec τ' τ, (bif vw then (match Qe d1 τ with
   | some y => some (y, [])
   | none => none) else Bb s d1 τ), We s rt fr d with
   | some _, some (x', l0), some (r, l) => bif Fe (500000 :: (l0 ++ l)) then some (x', r) else none
   | _, _, _ => none
  | _, _ => none) = some r → a.defers = [] ∧ ∃ v, (results fn a.tmps).run P w' = .ok v w' ∧ Dk (fun v w' => ∃ vs cur' et' F1 Fr, v = Qx vs ∧ Np w w' (· ∈ b :: (F0 ++ F2)) ∧ w'.heap[b]? = some (.cells cur' et' (0, 0)) ∧ cur'.size = τ.size ∧
  (if vw then Ha w' (fun c => O c ∨ c ∈ b :: (F0 ++ F2) ∨ c ∈ Fr) τ r.1 cur'.toList ∧ F1 = [] else Eb w' τ r.1 cur'.toList F1) ∧
  Zb w' (fun c => O c ∨ c ∈ b :: (F0 ++ F2) ∨ c ∈ F1 ∨ c ∈ Fr) rt r.2 fr vs Fr ∧ (b :: (F1 ++ Fr)).Nodup ∧ ∀ c ∈ F1 ++ Fr, w.heap.size ≤ c ∨ c ∈ F0 ++ F2) (.returned v) w' := by
  intro hk
  split at hk
  ·rename_i τ' d1 d hbx' hd
   split at hk
   ·rename_i q x' l0 r' l hq hx' hr
    obtain rfl := Jc hq
    simp only [Ba] at hk
    obtain ⟨hnd', hk⟩ := hk
    simp only [jc] at hk
    subst hk
    have hnd' := Of hnd'
    obtain ⟨hsh', b', cur', et', hσ', hh', hF', hr0, hsz'⟩ := h.hp 500000 _ hbx'
    have hpin : σ 500000 = .pointer (some ⟨b, 0, none⟩) := h.pin 500000 _ (show (if (500000 : Nat) = 500000 then some (Value.pointer (some ⟨b, 0, none⟩)) else none) = _ from if_pos rfl)
    rw [hpin] at hσ'
    simp only [Value.pointer.injEq, jc, Addr.mk.injEq, and_true] at hσ'
    subst hσ'
    have hkl : (∀ j, j ∈ l0 → ∃ Aa, s.heap j = some Aa) ∧ (if vw then Ha w' (OO (fun c => O c ∨ c ∈ b :: (F0 ++ F2)) s φ) τ' x' cur'.toList ∧ l0 = [] else Eb w' τ' x' cur'.toList (Ca φ l0)) := by
     cases vw with
     | true =>
      simp only [yt] at hx'
      split at hx'
      ·rename_i y hy
       simp only [jc, jh] at hx'
       obtain ⟨rfl, rfl⟩ := hx'
       exact ⟨by simp, by simp only [if_true]; exact ⟨(Ae hy).2 _ hr0, trivial⟩⟩
      ·simp at hx'
     | false =>
      simp only [yu] at hx'
      obtain ⟨g1, g2⟩ := Jj h hx' hr0
      exact ⟨g2, by simpa using g1⟩
    obtain ⟨hlive0, hx1⟩ := hkl
    obtain ⟨vs, hvs, hru⟩ := Uu hG.toEnvTy h hd
    obtain ⟨hR, hlive⟩ := OK h hr hru
    have hall : ∀ j, j ∈ 500000 :: (l0 ++ l) → ∃ Aa, s.heap j = some Aa := by
     intro j hj
     rcases jp.1 hj with rfl | hj
     ·exact ⟨_, hbx'⟩
     ·rcases jl.1 hj with hj | hj
      ·exact hlive0 j hj
      ·exact hlive j hj
    have hbk : Ca φ (500000 :: (l0 ++ l)) = b :: (Ca φ l0 ++ Ca φ l) := by
     have : Ca φ (500000 :: (l0 ++ l)) = φ 500000 ++ Ca φ (l0 ++ l) := by simp only [Ca, ya, yg]
     rw [this, hF', Dd]; rfl
    have hbn := Je h hnd' hall
    rw [hbk] at hbn
    have hinOO : ∀ c, c ∈ Ca φ l0 ++ Ca φ l → OO (fun c => O c ∨ c ∈ b :: (F0 ++ F2)) s φ c := by
     intro c hc
     rw [← Dd] at hc
     obtain ⟨j, hj, hm'⟩ := Va.1 hc
     obtain ⟨Aa, hbj⟩ := hall j (jr _ hj)
     exact .inr ⟨j, Aa, hbj, hm'⟩
    refine ⟨h.df, _, Mv hvs, vs, cur', et', Ca φ l0, Ca φ l, rfl, ⟨h.fr.size, fun c hc hno => h.fr.block c hc hno, h.fr.os, h.fr.tape, h.fr.output⟩, hh', hsz', ?_, hR.mono ?_, hbn, ?_⟩
    ·cases vw with
     | true =>
      simp only [if_true] at hx1 ⊢
      refine ⟨hx1.1.weaken ?_, by rw [hx1.2]; simp [Ca]⟩
      rintro c (hc | hc | hc)
      ·exact .inl (.inl hc)
      ·exact .inl (.inr hc)
      ·exact hinOO c (qp _ hc)
     | false => simpa using hx1
    ·rintro c (hc | hc | hc | hc)
     ·exact .inl (.inl hc)
     ·exact .inl (.inr hc)
     ·exact hinOO c (qo _ hc)
     ·exact hinOO c (qp _ hc)
    ·intro c hcm
     have hcb : c ≠ b := by
      rintro rfl
      exact (yd.1 hbn).1 hcm
     rw [← Dd] at hcm
     obtain ⟨j, hj, hm'⟩ := Va.1 hcm
     obtain ⟨Aa, hbj⟩ := hall j (jr _ hj)
     rcases h.fresh j Aa hbj c hm' with h1 | h1
     ·exact .inl h1
     ·have h1 : c ∈ b :: (F0 ++ F2) := h1
      rcases jp.1 h1 with h1 | h1
      ·exact absurd h1 hcb
      ·exact .inr h1
   ·simp at hk
  ·simp at hk
 cases e with
 | normal => exact Af hk
 | ret => exact Af hk
 | exit j => simp at hk
end
def RN (G : Gd) (L : List (Nat × Ta)) (fn : Func) (τ κ ε pt rt : Ty) (x0 : T τ) (xs : List (T κ × T ε)) (x : T pt) : Option (T τ × (List (T κ × T ε) × T rt)) :=
 match fn.body with
 | some c => So G L c ⟨fn.ntmps, (0, .ptr 500000 []) :: Yq pt x 1, [(500000, some (.box (.p τ (.p (.mp κ ε) .u)) (.pr (.t τ x0) (.pr (.mpo 500001) .un)))), (500001, some (.mp κ ε xs))]⟩ fun e s => match e with
  | .exit _ => none
  | _ => match s.heap 500000, s.heap 500001, Js G s fn.results.toList with
   | some (.box ρ d), some (.mp κ' ε' ys), some (.pr dr .un) => match Ty.dec ρ (.p τ (.p (.mp κ ε) .u)), d.field 0, d.field 1, Qe dr rt with
    | some _, some d0, some (.mpo j), some y => match Qe d0 τ, Ty.dec κ' κ, Ty.dec ε' ε with
     | some y0, some ⟨h⟩, some ⟨g⟩ => bif qq j 500001 then some (y0, ((h ▸ g ▸ ys : List (T κ × T ε)), y)) else none
     | _, _, _ => none
    | _, _, _, _ => none
   | _, _, _ => none
 | none => none
section
variable {P : Program} {G : Gd} {L : List (Nat × Ta)} {I : Bg}
theorem C3 (hG : Oh P I G) (hfz : G.fz = false ∨ LO G.att = true) (hm : P.follows .mixedOrders = true) {f : FuncId} {fn : Func} {c : Code} (hf : P.funcs[f]? = some fn) (hb : fn.body = some c) (hname : (fn.name == "runtime.NumGoroutine") = false)
 (hL : ∀ b, b ∈ Od c → Ib G L b) {τ κ ε pt rt : Ty} {F : T τ → List (T κ × T ε) → T pt → Option (T τ × (List (T κ × T ε) × T rt))} (hn : pt.npar + 1 ≤ fn.ntmps) (hF : ∀ x0 xs x r, F x0 xs x = some r → RN G L fn τ κ ε pt rt x0 xs x = some r) :
 Gg P I f (.tp τ κ ε pt rt F) := by
 refine ⟨⟨fn, hf, hname, by rw [hb]; rfl⟩, ?_⟩
 intro O w x0 xs x r b m clk cur et es args hx hh hsz hdrop hhm hv0 hes hargs hOb hOm hO hI hB hBb hBm
 have he := hF x0 xs x r hx
 unfold RN at he
 rw [hb] at he
 simp only at he
 have hlen := Yy hargs
 have hltb : b < w.heap.size := (Array.getElem?_eq_some_iff.1 hh).1
 have hltm : m < w.heap.size := (Array.getElem?_eq_some_iff.1 hhm).1
 have hbm : b ≠ m := by
  rintro rfl
  rw [hh] at hhm
  simp at hhm
 refine calls_of_wp hf hb ?_
 let ψ : Nat → List Nat := fun id => if id = 500000 then [b] else [m]
 let ν : Nat → Value := fun id => if id = 500000 then .pointer (some ⟨b, 0, none⟩) else .map (some m)
 have hψ0 : ψ 500000 = [b] := if_pos rfl
 have hψ1 : ψ 500001 = [m] := if_neg (by omega)
 have hν0 : ν 500000 = .pointer (some ⟨b, 0, none⟩) := if_pos rfl
 have hν1 : ν 500001 = .map (some m) := if_neg (by omega)
 obtain ⟨s0, hs0⟩ : ∃ s0 : AS, s0 = ⟨fn.ntmps, (0, .ptr 500000 []) :: Yq pt x 1, [(500000, some (.box (.p τ (.p (.mp κ ε) .u)) (.pr (.t τ x0) (.pr (.mpo 500001) .un)))), (500001, some (.mp κ ε xs))]⟩ := ⟨_, rfl⟩
 rw [← hs0] at he
 have hbx : s0.heap 500000 = some (.box (.p τ (.p (.mp κ ε) .u)) (.pr (.t τ x0) (.pr (.mpo 500001) .un))) := by rw [hs0]; simp [AS.heap, Rb]
 have hmp : s0.heap 500001 = some (.mp κ ε xs) := by rw [hs0]; simp [AS.heap, Rb]
 have hmem : ∀ id Aa, s0.heap id = some Aa → id = 500000 ∨ id = 500001 := by
  intro id Aa hb
  rw [hs0] at hb
  simp only [AS.heap, Rb] at hb
  split at hb
  ·exact .inl (by omega)
  ·split at hb
   ·exact .inr (by omega)
   ·simp [Ua] at hb
 let A : Fx := ⟨fun c => c = b ∨ c = m, fun id => if id = 500000 then some (.pointer (some ⟨b, 0, none⟩)) else if id = 500001 then some (.map (some m)) else none, fun id v h => by
  split at h
  ·omega
  ·split at h
   ·omega
   ·simp at h, I, fun c hc => by rcases hc with rfl | rfl <;> assumption⟩
 have hOO : OO O s0 ψ = (fun c => O c ∨ c = b ∨ c = m) := by
  funext c
  refine propext ⟨fun h => ?_, fun h => ?_⟩
  ·rcases h with h | ⟨id, Aa, hb, hm⟩
   ·exact .inl h
   ·rcases hmem id Aa hb with rfl | rfl
    ·rw [hψ0] at hm; exact .inr (.inl (by simpa using hm))
    ·rw [hψ1] at hm; exact .inr (.inr (by simpa using hm))
  ·rcases h with h | rfl | rfl
   ·exact .inl h
   ·exact .inr ⟨500000, _, hbx, by rw [hψ0]; simp⟩
   ·exact .inr ⟨500001, _, hmp, by rw [hψ1]; simp⟩
 have hc : La w.heap.size A O w s0 ν ψ { tmps := (.pointer (some ⟨b, 0, none⟩) :: args).toArray ++ Array.replicate (fn.ntmps - (Value.pointer (some ⟨b, 0, none⟩) :: args).toArray.size) undef, defers := [] } w := by
  refine ⟨?_, rfl, ?_, ?_, ?_, ?_, ?_, hO, ⟨rfl, rfl, rfl, jo _, fun _ _ _ => rfl⟩, ?_, hB, hI, fun id kk e xs hb => ?_⟩
  ·rw [hs0]; simp; omega
  ·intro t d hd
   rw [hOO]
   have hd' : Ua ((0, D.ptr 500000 []) :: Yq pt x 1) t = some d := by rw [hs0] at hd; exact hd
   rw [Rb] at hd'
   split at hd'
   ·rename_i e
    subst e
    simp only [jc] at hd'
    subst hd'
    refine ⟨.pointer (some ⟨b, 0, none⟩), by rw [Array.getElem?_append_left (by simp)]; simp, ?_⟩
    rw [Tj]
    exact ⟨rfl, fun ρ d _ => ⟨b, hν0, by simp [Wa]⟩⟩
   ·obtain ⟨j, v, h1, h2, h3⟩ := IB hargs hd'
    refine ⟨v, ?_, h3⟩
    have hj : j < args.length := (qw.1 h2).1
    have : t = j + 1 := by omega
    subst this
    rw [Array.getElem?_append_left (by simpa using hj)]
    simpa using h2
  ·intro id Aa hb
   rw [hOO]
   rcases hmem id Aa hb with rfl | rfl
   ·rw [hbx] at hb
    simp only [jc] at hb
    subst hb
    exact ⟨⟨by simp [Sa], trivial, trivial⟩, b, cur, et, hν0, hh, hψ0, ⟨cur.toList.take τ.size, cur.toList.drop τ.size, (List.take_append_drop _ _).symm, hv0, [.map (some m)], [], by rw [hdrop]; rfl, ⟨_, rfl, rfl, fun _ _ _ => hν1.symm⟩, rfl⟩, hsz⟩
   ·rw [hmp] at hb
    simp only [jc] at hb
    subst hb
    exact ⟨m, es, clk, hν1, hhm, hψ1, hes.1, hes.2⟩
  ·intro id Aa hb
   rcases hmem id Aa hb with rfl | rfl
   ·rw [hψ0]; simp
   ·rw [hψ1]; simp
  ·intro id id' Aa blk' hne hb hb' c hm hm'
   rcases hmem id Aa hb with rfl | rfl <;> rcases hmem id' blk' hb' with rfl | rfl
   ·exact hne rfl
   ·rw [hψ0] at hm; rw [hψ1] at hm'
    simp only [qa] at hm hm'
    exact hbm (hm ▸ hm')
   ·rw [hψ1] at hm; rw [hψ0] at hm'
    simp only [qa] at hm hm'
    exact hbm (hm' ▸ hm)
   ·exact hne rfl
  ·intro id Aa hb c hm
   refine .inr ?_
   show c = b ∨ c = m
   rcases hmem id Aa hb with rfl | rfl
   ·rw [hψ0] at hm; exact .inl (by simpa using hm)
   ·rw [hψ1] at hm; exact .inr (by simpa using hm)
  ·intro id v hv
   simp only [A] at hv
   split at hv
   ·rename_i e
    subst e
    simp only [jc] at hv
    exact hν0.trans hv
   ·split at hv
    ·rename_i e
     subst e
     simp only [jc] at hv
     exact hν1.trans hv
    ·simp at hv
  ·rcases hmem id _ hb with rfl | rfl
   ·rw [hbx] at hb; simp at hb
   ·rw [hmp] at hb; simp at hb
 refine SO (A := A) hG (fun h => .inr (.inl ⟨hfz.resolve_left (by rw [h]; simp), fun c hc => by rcases hc with rfl | rfl <;> assumption⟩)) hm c hL he hc ?_
 intro e s σ φ a w' hk h
 have Af : (match s.heap 500000, s.heap 500001, Js G s fn.results.toList with
  | some (.box ρ d), some (.mp κ' ε' ys), some (.pr dr .un) => match Ty.dec ρ (.p τ (.p (.mp κ ε) .u)), d.field 0, d.field 1, Qe dr rt with
   | some _, some d0, some (.mpo j), some y => match Qe d0 τ, Ty.dec κ' κ, Ty.dec ε' ε with
    | some y0, some ⟨h⟩, some ⟨g⟩ => bif qq j 500001 then some (y0, ((h ▸ g ▸ ys : List (T κ × T ε)), y)) else none
    | _, _, _ => none
   | _, _, _, _ => none
  | _, _, _ => none) = some r → a.defers = [] ∧ ∃ v, (results fn a.tmps).run P w' = .ok v w' ∧ Dk (fun u w' => ∃ cs cur' et' es' clk', u = Hc rt cs ∧ Np w w' (fun c => c = b ∨ c = m) ∧ w'.heap[b]? = some (.cells cur' et' (0, 0)) ∧ cur'.size = τ.size + 1 ∧ cur'.toList.drop τ.size = [.map (some m)] ∧
   w'.heap[m]? = some (.map es' clk') ∧ Ha w' (fun c => O c ∨ c = b ∨ c = m) τ r.1 (cur'.toList.take τ.size) ∧ Mi w' (fun c => O c ∨ c = b ∨ c = m) κ ε r.2.1 es' ∧ Ha w' (fun c => O c ∨ c = b ∨ c = m) rt r.2.2 cs) (.returned v) w' := by
  intro hk
  split at hk
  ·rename_i ρ d κ' ε' ys dr hbx' hmp' hd
   split at hk
   ·rename_i q d0 j y hq hf0 hf1 hy
    obtain rfl := Jc hq
    split at hk
    ·rename_i y0 g1 g2 hy0 _ _
     obtain rfl := g1
     obtain rfl := g2
     simp only [Ba, jc] at hk
     obtain ⟨hj, rfl⟩ := hk
     have hj := ju hj
     subst hj
     obtain ⟨hsh', b', cur', et', hσ', hh', hF', hr0, hsz'⟩ := h.hp 500000 _ hbx'
     obtain ⟨m', es', clk', hσm', hhm', hFm', hz', hen'⟩ := h.hp 500001 _ hmp'
     have hp0 : σ 500000 = .pointer (some ⟨b, 0, none⟩) := h.pin 500000 _ (show (if (500000 : Nat) = 500000 then some (Value.pointer (some ⟨b, 0, none⟩)) else if (500000 : Nat) = 500001 then some (Value.map (some m)) else none) = _ from if_pos rfl)
     have hp1 : σ 500001 = .map (some m) := h.pin 500001 _ (show (if (500001 : Nat) = 500000 then some (Value.pointer (some ⟨b, 0, none⟩)) else if (500001 : Nat) = 500001 then some (Value.map (some m)) else none) = _ by rw [if_neg (by omega), if_pos rfl])
     rw [hp0] at hσ'
     simp only [Value.pointer.injEq, jc, Addr.mk.injEq, and_true] at hσ'
     subst hσ'
     rw [hp1] at hσm'
     simp only [Value.map.injEq, jc] at hσm'
     subst hσm'
     obtain ⟨vs, hvs, hru⟩ := Uu hG.toEnvTy h hd
     cases vs with
     | nil => simp [RU] at hru
     | cons v vs =>
      obtain ⟨h1, h2⟩ := hru
      cases vs with
      | cons _ _ => simp [RU] at h2
      | nil =>
       obtain ⟨hsr, hvr⟩ := Ae (w := w') (O := OO O s φ) (hp := s.heap) (σ := σ) hy
       obtain ⟨hrr, hvv⟩ := Xc hsr h1
       obtain ⟨_, r1⟩ := Pa.field (n := 0) (τ := τ) hsh' rfl hf0 hr0
       obtain ⟨_, r2⟩ := Pa.field (n := 1) (τ := .mp κ' ε') hsh' rfl hf1 hr0
       have hsz1 : cur'.size = τ.size + 1 := hsz'
       have hdrop' : cur'.toList.drop τ.size = [.map (some m)] := by
        obtain ⟨v, g1, _, g2⟩ := r2
        rw [g2 _ hmp' rfl, hp1] at g1
        have hl : (cur'.toList.drop τ.size).length = 1 := by simp; omega
        simpa [Xb, Ty.size, List.take_of_length_le (Nat.le_of_eq hl)] using g1
       have hmO : ∀ c, (O c ∨ c = b ∨ c = m) → OO O s φ c := by
        rintro c (hc | rfl | rfl)
        ·exact .inl hc
        ·exact .inr ⟨500000, _, hbx', by rw [hF']; simp⟩
        ·exact .inr ⟨500001, _, hmp', by rw [hFm']; simp⟩
       refine ⟨h.df, _, Mv hvs, v.cells.toList, cur', et', es', clk', hvv, ⟨h.fr.size, fun c hc hno => h.fr.block c hc hno, h.fr.os, h.fr.tape, h.fr.output⟩, hh', hsz1, hdrop', hhm', ?_, ⟨hz', fun i hi => ?_⟩, (hvr _ hrr).weaken hmO⟩
       ·have := (Ae hy0).2 _ r1
        refine Ha.weaken hmO ?_
        simpa [Xb] using this
       ·obtain ⟨en, ck, cv, e1, e2, e3, e4, e5⟩ := hen' i hi
        exact ⟨en, ck, cv, e1, e2, e3, e4.weaken hmO, e5.weaken hmO⟩
    ·simp at hk
   ·simp at hk
  ·simp at hk
 cases e with
 | normal => exact Af hk
 | ret => exact Af hk
 | exit j => simp at hk
end
open Go Go.WideShapes
def Nt : (τ : Ty) → T τ → Prop
 | .i k, n => k.has n
 | .b, _ => True
 | .o, _ => True
 | .mp _ _, _ => True
 | .s, x => ja x ≤ Lg
 | .sl e, xs => ja xs ≤ Lg ∧ ∀ i (h : i < ja xs), Nt e (List.get xs ⟨i, h⟩)
 | .u, _ => True
 | .p x y, v => Nt x v.1 ∧ Nt y v.2
def Ty.pos : Ty → Bool
 | .sl e => e.pos && qz 0 e.size
 | .p x y => x.pos && y.pos
 | .o => false
 | .mp _ _ => false
 | _ => true
section
variable {H : Type} {enc : TypeId × Value → H} {P : Program} {w : World} {base : Nat} {spare : Nat → Bool} {held : Bool}
theorem Rk {τ : Ty} {t : TypeId} (h : Bc P τ t = true) : P.cellsOf t = τ.size := by
 obtain ⟨i, h1, h2, _⟩ := Tok.size h
 simp [Program.cellsOf, h1, h2]
theorem J7 {k : IntKind} {n : Int} (h : (Lit.int k n).wf = true) : k.has n := by
 simpa [Lit.wf, IntKind.has] using h
theorem E9 {a : Addr} {n : Nat} (h : n ≠ 0) : a.add n = ⟨a.block, a.off + n, none⟩ := by
 simp [Addr.add, h]
theorem TC {a : Addr} {n : Nat} {cs : List Value} (h : w.cells? base a n = some cs) (hn : 0 < n) :
 ∃ cur et fr, a = ⟨a.block, a.off, none⟩ ∧ w.heap[a.block]? = some (.cells cur et fr) ∧ a.off + n ≤ cur.size ∧ cs = Gc cur a.off n := by
 unfold World.cells? at h
 split at h
 ·have hlen : cs.length = n := by simpa using mapM_some_length h
  have hget : ∀ i, i < n → w.cell? (a.add i) = cs[i]? := fun i hi => mapM_some_get h i i (by simp [hi])
  have h0 := hget 0 hn
  have ha : a.add 0 = a := by simp [Addr.add]
  rw [ha] at h0
  have hc0 : cs[0]? = some (cs[0]'(by omega)) := je (by omega)
  rw [hc0] at h0
  unfold World.cell? at h0
  split at h0
  ·rename_i cur et fr hb
   have hsp : a.spot = none := by
    cases hs : a.spot with
    | none => rfl
    | some x => simp [hs] at h0
   have hcell : ∀ i, i < n → cur[a.off + i]? = cs[i]? := by
    intro i hi
    have := hget i hi
    by_cases hi0 : i = 0
    ·subst hi0
     rw [ha] at this
     unfold World.cell? at this
     rw [hb] at this
     simpa [hsp] using this
    ·rw [E9 hi0] at this
     unfold World.cell? at this
     simp only at this
     rw [hb] at this
     simpa using this
   refine ⟨cur, et, fr, by cases a; simp_all, hb, ?_, ?_⟩
   ·have h1 := hcell (n - 1) (by omega)
    rw [je (by omega)] at h1
    have := (Array.getElem?_eq_some_iff.1 h1).1
    omega
   ·apply qj
    intro i
    by_cases hi : i < n
    ·rw [Sd _ _ _ _ hi, hcell i hi]
    ·rw [qn (by omega), qn]
     simp [Gc]; omega
  ·simp at h0
 ·simp at h
theorem Q5 {fs : List Field} {o : Nat} (h : Wd P .u fs o = true) : fs = [] := by
 cases fs <;> simp_all [Wd]
theorem YO {x y : Ty} {fs : List Field} {o : Nat} (h : Wd P (.p x y) fs o = true) : ∃ f r, fs = f :: r ∧ f.offset = o ∧ Bc P x f.type = true ∧ Wd P y r (o + x.size) = true := by
 cases fs with
 | nil => simp [Wd] at h
 | cons f r =>
  simp only [Wd, jd] at h
  exact ⟨f, r, rfl, ju h.1.1.1, h.1.2, h.2⟩
theorem UN {x y : Ty} {t : TypeId} (h : Bc P (.p x y) t = true) : ∃ fs, P.underlying t = some (.struct fs) ∧ Wd P (.p x y) fs.toList 0 = true := by
 simp only [Bc, jd] at h
 obtain ⟨_, h⟩ := h
 split at h
 ·rename_i fs hfs
  refine ⟨fs, hfs, ?_⟩
  split at h
  ·rename_i f r hr
   rw [hr]
   simpa [Wd] using h
  ·simp at h
 ·simp at h
theorem VN {t : TypeId} (h : Bc P .u t = true) : ∃ fs, P.underlying t = some (.struct fs) ∧ fs.size = 0 := by
 simp only [Bc, jd] at h
 obtain ⟨_, h⟩ := h
 split at h
 ·rename_i fs hfs
  exact ⟨fs, hfs, ju h⟩
 ·simp at h
mutual
theorem KE (hO : ∀ b, ¬ (fun _ : Nat => False) b) : ∀ (τ : Ty) (t : TypeId) (n : Nat) (cs : List Value) (x : DataW H × List MemPlace), Bc P τ t = true → τ.pos = true →
 DataW.trod enc P w base spare held n t cs = some x → ∃ y : T τ, Ha w (fun _ => False) τ y cs ∧ Nt τ y
 | .i k, t, n, cs, x, ht, _, h => by
  obtain ⟨m, h1, _, h2⟩ := DataW.trod_int (Tok.i ht) h
  exact ⟨m, h1, J7 h2⟩
 | .b, t, n, cs, x, ht, _, h => by
  obtain ⟨m, h1, _⟩ := DataW.trod_bool (Tok.b ht) h
  exact ⟨m, h1, trivial⟩
 | .o, t, n, cs, x, ht, hp, h => by simp [Ty.pos] at hp
 | .mp _ _, t, n, cs, x, ht, hp, h => by simp [Ty.pos] at hp
 | .s, t, n, cs, x, ht, _, h => by
  obtain ⟨m, h1, _, h2⟩ := DataW.trod_string (Tok.s ht) h
  refine ⟨m.data.toList, ?_, ?_⟩
  ·show cs = [.string ⟨ql m.data.toList⟩]
   rw [h1]
  ·show m.data.toList.length ≤ Lg
   have : m.size = m.data.toList.length := Array.length_toList.symm
   unfold maxLen at h2
   unfold Lg
   omega
 | .sl e, t, n, cs, x, ht, hp, h => by
  obtain ⟨et, hu, he⟩ := Tok.sl ht
  simp only [Ty.pos, jd] at hp
  have hpos : 0 < e.size := by simpa using hp.2
  rcases DataW.trod_slice hu h with ⟨h1, _⟩ | ⟨a, len, cap, elems, rest, m, _, h1, _, _, h2, h3, h4, h5, _, _⟩
  ·exact ⟨([] : List (T e)), ⟨none, 0, h1, jo _, Nat.zero_le _, .inl rfl⟩, ⟨Nat.zero_le _, fun i hi => absurd hi (Nat.not_lt_zero i)⟩⟩
  ·rw [Rk he] at h5
   have hone : ∀ i, i < len → ∃ y : T e, ∃ cs', w.cells? base (a.add (i * e.size)) e.size = some cs' ∧ Ha w (fun _ => False) e y cs' ∧ Nt e y := by
    intro i hi
    have := h5 i hi
    rw [je (by omega), qc] at this
    obtain ⟨cs', hc, hy⟩ := this
    obtain ⟨y, hv, hr⟩ := KE hO e et m cs' _ he hp.1 hy
    exact ⟨y, cs', hc, hv, hr⟩
   let ys : List (T e) := List.ofFn fun i : Fin len => Classical.choose (hone i.1 i.2)
   have hlen : ys.length = len := by simp [ys]
   have hy : ∀ i (h : i < ys.length), ∃ cs', w.cells? base (a.add (i * e.size)) e.size = some cs' ∧ Ha w (fun _ => False) e (ys.get ⟨i, h⟩) cs' ∧ Nt e (ys.get ⟨i, h⟩) := by
    intro i hi
    have := Classical.choose_spec (hone i (by omega))
    simpa [ys] using this
   have hmax : len ≤ Lg := by unfold maxLen at h3; unfold Lg; omega
   refine ⟨ys, ⟨some a, cap, by rw [h1, hlen], by rw [hlen]; exact h2, by rw [hlen]; exact hmax, ?_⟩, by rw [hlen]; exact hmax, fun i hi => (hy i hi).choose_spec.2.2⟩
   by_cases hl0 : len = 0
   ·left
    exact qv (by omega)
   ·right
    obtain ⟨cs0, hc0, _⟩ := hy 0 (by omega)
    have ha0 : a.add (0 * e.size) = a := by simp [Addr.add]
    rw [ha0] at hc0
    obtain ⟨cur, et', fr, ha, hb, _, _⟩ := TC hc0 hpos
    have hadd : ∀ i, (a.add (i * e.size)).block = a.block ∧ (a.add (i * e.size)).off = a.off + i * e.size := by
     intro i
     unfold Addr.add
     split
     ·rename_i hz; simp [hz]
     ·exact ⟨rfl, rfl⟩
    refine ⟨a.block, a.off, cur, et', fr, by rw [← ha], fun h => h, hb, ?_, ?_⟩
    ·obtain ⟨cs1, hc1, _⟩ := hy (len - 1) (by omega)
     obtain ⟨cur1, et1, fr1, _, hb1, hs1, _⟩ := TC hc1 hpos
     rw [(hadd _).1, hb] at hb1
     simp only [jc, Obj.cells.injEq] at hb1
     rw [(hadd _).2, ← hb1.1] at hs1
     have : len * e.size = (len - 1) * e.size + e.size := by
      rw [← yh]; congr 1; omega
     show a.off + ys.length * e.size ≤ cur.size
     rw [hlen]
     omega
    ·intro i hi
     obtain ⟨cs1, hc1, hv, _⟩ := hy i hi
     obtain ⟨cur1, et1, fr1, _, hb1, _, hs1⟩ := TC hc1 hpos
     rw [(hadd _).1, hb] at hb1
     simp only [jc, Obj.cells.injEq] at hb1
     rw [(hadd _).2, ← hb1.1] at hs1
     rw [← hs1]
     exact hv
 | .u, t, n, cs, x, ht, _, h => by
  obtain ⟨fs, hu, hz⟩ := VN ht
  obtain ⟨xs, m, _, _, hl, _⟩ := DataW.trod_struct hu h
  rw [Rk ht] at hl
  exact ⟨(), qv hl, trivial⟩
 | .p a c2, t, n, cs, x, ht, hp, h => by
  obtain ⟨fs, hu, hf⟩ := UN ht
  obtain ⟨xs, m, _, _, hl, _, hget⟩ := DataW.trod_struct hu h
  rw [Rk ht] at hl
  have := TF hO (.p a c2) fs.toList 0 m cs hf hp (by simpa using hl) (by
   intro i f hi
   have := hget i f (by simpa using hi)
   have hlt : i < xs.length := by
    have : i < fs.toList.length := (qw.1 hi).1
    simp at this; omega
   exact ⟨_, this.trans (je hlt)⟩)
  simpa using this
termination_by τ => (sizeOf τ, 1)
theorem TF (hO : ∀ b, ¬ (fun _ : Nat => False) b) : ∀ (τ : Ty) (fs : List Field) (o m : Nat) (cs : List Value), Wd P τ fs o = true → τ.pos = true → cs.length = o + τ.size →
 (∀ (i : Nat) (f : Field), fs[i]? = some f → ∃ x, DataW.trod enc P w base spare held m f.type ((cs.drop f.offset).take (P.cellsOf f.type)) = some x) →
 ∃ y : T τ, Ha w (fun _ => False) τ y (cs.drop o) ∧ Nt τ y
 | .p a c2, fs, o, m, cs, hf, hp, hl, hx => by
  obtain ⟨f, r, rfl, ho, ht, hr⟩ := YO hf
  simp only [Ty.pos, jd] at hp
  simp only [Ty.size] at hl
  obtain ⟨z, hz⟩ := hx 0 f rfl
  rw [Rk ht, ho] at hz
  obtain ⟨y1, hv1, hr1⟩ := KE hO a f.type m _ z ht hp.1 hz
  obtain ⟨y2, hv2, hr2⟩ := TF hO c2 r (o + a.size) m cs hr hp.2 (by omega) (fun i f' hi => hx (i + 1) f' (by simpa using hi))
  refine ⟨(y1, y2), ⟨(cs.drop o).take a.size, cs.drop (o + a.size), ?_, hv1, hv2⟩, hr1, hr2⟩
  rw [← qk, List.take_append_drop]
 | .u, fs, o, m, cs, _, _, hl, _ => ⟨(), by simp only [Ha, Ty.size] at hl ⊢; exact List.drop_of_length_le (by omega), trivial⟩
 | .i _, fs, o, m, cs, hf, _, _, _ => by simp [Wd] at hf
 | .b, fs, o, m, cs, hf, _, _, _ => by simp [Wd] at hf
 | .o, fs, o, m, cs, hf, _, _, _ => by simp [Wd] at hf
 | .mp _ _, fs, o, m, cs, hf, _, _, _ => by simp [Wd] at hf
 | .s, fs, o, m, cs, hf, _, _, _ => by simp [Wd] at hf
 | .sl _, fs, o, m, cs, hf, _, _, _ => by simp [Wd] at hf
termination_by τ => (sizeOf τ, 0)
end
end
open Go Go.WideShapes Go.ChangeShapes
def Vh (P : Program) : Ty → List TypeId → Bool
 | .p x y, t :: ts => Bc P x t && x.pos && Vh P y ts
 | .u, [] => true
 | _, _ => false
section
variable {H : Type} {enc : TypeId × Value → H} {P : Program} {w : World} {base : Nat} {spare : Nat → Bool} {held : Bool}
theorem XX {τ : Ty} {t : TypeId} {v : Value} {r : Reach} {b0 : Nat} (ht : Bc P τ t = true) (h : Value.okWide P w r b0 t v) : v = Hc τ v.cells.toList := by
 have key : ∀ {τ : Ty}, τ.isAgg = false → v.cells = #[v] → v = Hc τ v.cells.toList := by
  intro τ h1 h2
  rw [h2]; simp [Hc, h1]
 cases τ with
 | i k =>
  obtain ⟨n, rfl⟩ := okWide_int (Tok.i ht) h
  exact key rfl rfl
 | b =>
  obtain ⟨n, rfl⟩ := okWide_bool (Tok.b ht) h
  exact key rfl rfl
 | o =>
  refine key rfl ?_
  obtain ⟨et, hu⟩ := Tok.o ht
  unfold Value.okWide at h
  rw [hu] at h
  cases v with
  | agg cs => simp [Cell.okWide, Cell.ok, hu] at h
  | _ => rfl
 | mp _ _ =>
  refine key rfl ?_
  obtain ⟨kt, et, hu, _⟩ := Tok.mp ht
  unfold Value.okWide at h
  rw [hu] at h
  cases v with
  | agg cs => simp [Cell.okWide, Cell.ok, hu] at h
  | _ => rfl
 | s =>
  refine key rfl ?_
  have hu := Tok.s ht
  unfold Value.okWide at h
  rw [hu] at h
  cases v with
  | agg cs => simp [Cell.okWide, Cell.ok, hu] at h
  | _ => rfl
 | sl e =>
  refine key rfl ?_
  obtain ⟨et, hu, _⟩ := Tok.sl ht
  unfold Value.okWide at h
  rw [hu] at h
  cases v with
  | agg cs => simp [Cell.okWide, Cell.ok, hu] at h
  | _ => rfl
 | u =>
  obtain ⟨fs, hu, _⟩ := VN ht
  obtain ⟨cs, rfl, _⟩ := okWide_struct hu h
  simp [Hc, Ty.isAgg, Value.cells]
 | p x y =>
  obtain ⟨fs, hu, _⟩ := UN ht
  obtain ⟨cs, rfl, _⟩ := okWide_struct hu h
  simp [Hc, Ty.isAgg, Value.cells]
theorem JE : ∀ {pt : Ty} {ts : List TypeId} {vs : List Value} {ds : List (DataW H)} {ps : List MemPlace}, Vh P pt ts = true → DataW.TrodAll enc P w 0 spare held ts vs ds ps →
 (∀ (j : Nat) t v, ts[j]? = some t → vs[j]? = some v → Value.okWide P w .any base t v) → ∃ x : T pt, Ce w (fun _ => False) pt x vs ∧ Nt pt x
 | .p x y, t :: ts, v :: vs, d :: ds, ps, hp, h, hv => by
  simp only [Vh, jd] at hp
  obtain ⟨p, q, ⟨n, h1⟩, h2, _⟩ := h
  obtain ⟨a, ha, hra⟩ := KE (fun _ h => h) x t n _ _ hp.1.1 hp.1.2 h1
  obtain ⟨b, hb, hrb⟩ := JE hp.2 h2 fun j t' v' h1 h2 => hv (j + 1) t' v' (by simpa using h1) (by simpa using h2)
  exact ⟨(a, b), ⟨⟨_, XX hp.1.1 (hv 0 t v rfl rfl), ha⟩, hb⟩, hra, hrb⟩
 | .u, [], [], [], _, _, _, _ => ⟨(), trivial, trivial⟩
 | .p _ _, [], _, _, _, hp, _, _ => by simp [Vh] at hp
 | .u, _ :: _, _, _, _, hp, _, _ => by simp [Vh] at hp
 | .i _, _, _, _, _, hp, _, _ => by simp [Vh] at hp
 | .b, _, _, _, _, hp, _, _ => by simp [Vh] at hp
 | .o, _, _, _, _, hp, _, _ => by simp [Vh] at hp
 | .mp _ _, _, _, _, _, hp, _, _ => by simp [Vh] at hp
 | .s, _, _, _, _, hp, _, _ => by simp [Vh] at hp
 | .sl _, _, _, _, _, hp, _, _ => by simp [Vh] at hp
 | .p _ _, _ :: _, [], _, _, _, h, _ => by simp [DataW.TrodAll] at h
 | .p _ _, _ :: _, _ :: _, [], _, _, h, _ => by simp [DataW.TrodAll] at h
 | .u, [], _ :: _, _, _, _, h, _ => by simp [DataW.TrodAll] at h
 | .u, [], [], _ :: _, _, _, h, _ => by simp [DataW.TrodAll] at h
def OE (P : Program) (t : TypeId) : Prop := ∃ τ : Ty, Bc P τ t = true ∧ τ.pos = true
theorem ZO : ∀ {τ : Ty} {fs : List Field} {o : Nat}, Wd P τ fs o = true → τ.pos = true →
 (∀ f ∈ fs, OE P f.type) ∧ τ.size = (fs.map fun f => P.cellsOf f.type).sum ∧ ∀ (j : Nat) f, fs[j]? = some f → f.offset = o + ((fs.take j).map fun f => P.cellsOf f.type).sum
 | .u, fs, o, h, _ => by
  rw [Q5 h]
  simp [Ty.size]
 | .p x y, fs, o, h, hp => by
  obtain ⟨f, r, rfl, ho, ht, hr⟩ := YO h
  simp only [Ty.pos, jd] at hp
  obtain ⟨h1, h2, h3⟩ := ZO hr hp.2
  refine ⟨?_, ?_, ?_⟩
  ·intro g hg
   rcases jp.1 hg with rfl | hg
   ·exact ⟨x, ht, hp.1⟩
   ·exact h1 g hg
  ·simp [Ty.size, Rk ht, h2]
  ·intro j g hj
   cases j with
   | zero => simp at hj; subst hj; simp [ho]
   | succ j =>
    have := h3 j g (by simpa using hj)
    simp [this, Rk ht, jt]
 | .i _, fs, o, h, _ => by simp [Wd] at h
 | .b, fs, o, h, _ => by simp [Wd] at h
 | .o, fs, o, h, _ => by simp [Wd] at h
 | .mp _ _, fs, o, h, _ => by simp [Wd] at h
 | .s, fs, o, h, _ => by simp [Wd] at h
 | .sl _, fs, o, h, _ => by simp [Wd] at h
theorem Aw {t : TypeId} {u : TypeDesc} (h : OE P t) (hu : P.underlying t = some u) : (∃ k, u = .int k) ∨ u = .bool ∨ u = .string ∨ (∃ e, u = .slice e ∧ OE P e ∧ 0 < P.cellsOf e) ∨ ∃ fs, u = .struct fs := by
 obtain ⟨τ, ht, hp⟩ := h
 cases τ with
 | i k => rw [Tok.i ht] at hu; exact .inl ⟨k, (yp hu).symm⟩
 | b => rw [Tok.b ht] at hu; exact .inr (.inl (yp hu).symm)
 | o => simp [Ty.pos] at hp
 | mp _ _ => simp [Ty.pos] at hp
 | s => rw [Tok.s ht] at hu; exact .inr (.inr (.inl (yp hu).symm))
 | sl e =>
  obtain ⟨et, h1, h2⟩ := Tok.sl ht
  rw [h1] at hu
  simp only [Ty.pos, jd] at hp
  exact .inr (.inr (.inr (.inl ⟨et, (yp hu).symm, ⟨e, h2, hp.1⟩, by rw [Rk h2]; simpa using hp.2⟩)))
 | u => obtain ⟨fs, h1, _⟩ := VN ht; rw [h1] at hu; exact .inr (.inr (.inr (.inr ⟨fs, (yp hu).symm⟩)))
 | p x y => obtain ⟨fs, h1, _⟩ := UN ht; rw [h1] at hu; exact .inr (.inr (.inr (.inr ⟨fs, (yp hu).symm⟩)))
theorem OW : Kids P (OE P) := by
 refine ⟨?_, ?_, ?_, ?_, ?_⟩
 ·intro t e ht hu
  rcases Aw ht hu with ⟨k, h⟩ | h | h | ⟨e', h, _⟩ | ⟨fs, h⟩ <;> simp at h
 ·intro t e ht hu
  rcases Aw ht hu with ⟨k, h⟩ | h | h | ⟨e', h, h2, _⟩ | ⟨fs, h⟩ <;> simp at h
  rw [h]; exact h2
 ·intro t e n ht hu
  rcases Aw ht hu with ⟨k, h⟩ | h | h | ⟨e', h, _⟩ | ⟨fs, h⟩ <;> simp at h
 ·intro t fs ht hu
  obtain ⟨τ, ht, hp⟩ := ht
  cases τ with
  | i k => rw [Tok.i ht] at hu; simp at hu
  | b => rw [Tok.b ht] at hu; simp at hu
  | o => simp [Ty.pos] at hp
  | mp _ _ => simp [Ty.pos] at hp
  | s => rw [Tok.s ht] at hu; simp at hu
  | sl e => obtain ⟨et, h1, _⟩ := Tok.sl ht; rw [h1] at hu; simp at hu
  | u =>
   obtain ⟨fs', h1, h2⟩ := VN ht
   rw [h1] at hu
   simp only [jc, TypeDesc.struct.injEq] at hu
   subst hu
   have : fs'.toList = [] := by simpa using h2
   rw [Rk ht, this]
   simp [Ty.size]
  | p x y =>
   obtain ⟨fs', h1, h2⟩ := UN ht
   rw [h1] at hu
   simp only [jc, TypeDesc.struct.injEq] at hu
   subst hu
   obtain ⟨a, b, c⟩ := ZO h2 hp
   exact ⟨a, by rw [Rk ht, b], fun j f hj => by simpa using c j f hj⟩
 ·intro t k e ht hu
  rcases Aw ht hu with ⟨k, h⟩ | h | h | ⟨e', h, _⟩ | ⟨fs, h⟩ <;> simp at h
theorem BG : ∀ {pt : Ty} {ts : List TypeId}, Vh P pt ts = true → ∀ t ∈ ts, OE P t
 | .p x y, t :: ts, h, t', ht => by
  simp only [Vh, jd] at h
  rcases jp.1 ht with rfl | ht
  ·exact ⟨x, h.1.1, h.1.2⟩
  ·exact BG h.2 t' ht
 | .u, [], _, _, ht => by simp at ht
 | .p _ _, [], _, _, ht => by simp at ht
 | .u, _ :: _, h, _, _ => by simp [Vh] at h
 | .i _, _, h, _, _ => by simp [Vh] at h
 | .b, _, h, _, _ => by simp [Vh] at h
 | .o, _, h, _, _ => by simp [Vh] at h
 | .mp _ _, _, h, _, _ => by simp [Vh] at h
 | .s, _, h, _, _ => by simp [Vh] at h
 | .sl _, _, h, _, _ => by simp [Vh] at h
theorem GC {w' : World} {sp' : Nat → Bool} : ∀ {ts : List TypeId} {vs : List Value} {ds : List (DataW H)} {ps : List MemPlace}, (∀ t ∈ ts, OE P t) →
 DataW.TrodAll enc P w 0 (fun _ => true) true ts vs ds ps → (∀ p ∈ ps, w.sameAt w' p) → (∀ p ∈ ps, sp' p.block = true) → DataW.TrodAll enc P w' 0 sp' true ts vs ds ps
 | [], [], [], _, _, h, _, _ => h
 | t :: ts, v :: vs, d :: ds, ps, hp, h, h1, h2 => by
  obtain ⟨p, q, ⟨n, ha⟩, hb, rfl⟩ := h
  refine ⟨p, q, ⟨n, DataW.trod_stays OW ?_ (fun h => by simp at h) (hp t (by simp)) ha (fun z hz => h1 z (qo _ hz)) (fun z hz => h2 z (qo _ hz))⟩,
   GC (fun t ht => hp t (by simp [ht])) hb (fun z hz => h1 z (qp _ hz)) (fun z hz => h2 z (qp _ hz)), rfl⟩
  intro t e ht hu
  rcases Aw ht hu with ⟨k, h⟩ | h | h | ⟨e', h, _, h2⟩ | ⟨fs, h⟩ <;> simp at h
  rw [h]; exact h2
 | [], _ :: _, _, _, _, h, _, _ => by simp [DataW.TrodAll] at h
 | [], [], _ :: _, _, _, h, _, _ => by simp [DataW.TrodAll] at h
 | _ :: _, [], _, _, _, h, _, _ => by simp [DataW.TrodAll] at h
 | _ :: _, _ :: _, [], _, _, h, _, _ => by simp [DataW.TrodAll] at h
theorem GG : ∀ {ts : List TypeId} {vs : List Value} {ds : List (DataW H)} {ps : List MemPlace}, DataW.TrodAll enc P w base spare held ts vs ds ps → ds.length = ts.length
 | [], [], [], _, _ => rfl
 | _ :: _, _ :: _, _ :: _, _, h => by
  obtain ⟨_, _, _, h, _⟩ := h
  simp [GG h]
 | [], _ :: _, _, _, h => by simp [DataW.TrodAll] at h
 | [], [], _ :: _, _, h => by simp [DataW.TrodAll] at h
 | _ :: _, [], _, _, h => by simp [DataW.TrodAll] at h
 | _ :: _, _ :: _, [], _, h => by simp [DataW.TrodAll] at h
theorem Np.but {w w' : World} (h : Np w w' fun _ => False) (may : MemPlace → Prop) : w.keptBut w' may := by
 refine ⟨h.os, h.output, fun i hi => ?_⟩
 rw [h.block i hi (fun h => h)]
 cases w.heap[i]? with
 | none => rfl
 | some o =>
  cases o with
  | cells c t fr => exact ⟨rfl, rfl, rfl, fun _ _ => rfl⟩
  | map es clock => exact .inr ⟨rfl, rfl⟩
  | _ => rfl
end
noncomputable def Kb {X R : Type} (step : X → Option (X ⊕ R)) (x : X) : Option R :=
 open Classical in if h : ∃ m y, Gw step m x y then some h.choose_spec.choose else none
theorem Gw.det {X R : Type} {step : X → Option (X ⊕ R)} : ∀ {m n : Nat} {x : X} {y z : R}, Gw step m x y → Gw step n x z → y = z
 | 0, _, _, _, _, h, _ => h.elim
 | _ + 1, 0, _, _, _, _, h => h.elim
 | m + 1, n + 1, x, y, z, h, h' => by
  rcases h with h | ⟨x1, h, h1⟩ <;> rcases h' with h' | ⟨x2, h', h2⟩
  ·rw [h] at h'; simpa using h'
  ·rw [h] at h'; simp at h'
  ·rw [h] at h'; simp at h'
  ·rw [h] at h'
   simp only [jc, Sum.inl.injEq] at h'
   subst h'
   exact Gw.det h1 h2
theorem My {X R : Type} {step : X → Option (X ⊕ R)} {x : X} {y : R} : Kb step x = some y ↔ ∃ m, Gw step m x y := by
 unfold Kb
 constructor
 ·intro h
  split at h
  ·rename_i hh
   simp only [jc] at h
   exact ⟨_, h ▸ hh.choose_spec.choose_spec⟩
  ·simp at h
 ·rintro ⟨m, h⟩
  have hh : ∃ m y, Gw step m x y := ⟨m, y, h⟩
  rw [dif_pos hh]
  exact congrArg some (Gw.det hh.choose_spec.choose_spec h)
theorem Du {X R : Type} {step : X → Option (X ⊕ R)} (x : X) : Kb step x = (step x).bind (Sum.elim (Kb step) some) := by
 apply Option.ext
 intro y
 rw [My]
 constructor
 ·rintro ⟨m, h⟩
  cases m with
  | zero => exact h.elim
  | succ m =>
   rcases h with h | ⟨x', h, h'⟩
   ·simp [h]
   ·simp [h, My.2 ⟨m, h'⟩]
 ·intro h
  rw [qc] at h
  obtain ⟨z, hz, h⟩ := h
  cases z with
  | inl x' =>
   obtain ⟨m, hm⟩ := My.1 h
   exact ⟨m + 1, .inr ⟨x', hz, hm⟩⟩
  | inr z =>
   simp only [Sum.elim_inr, jc] at h
   subst h
   exact ⟨1, .inl hz⟩
def lp (fn : Func) (i : Nat) : Code := (Od (fn.body.getD .skip)).getD i .skip
theorem ML {G : Gd} {L : List (Nat × Ta)} {fn : Func} {i r : Nat} {ls : Ta} {R : ls.inT.X → Option (ls.inT.X ⊕ (ls.outT.X ⊕ ls.retT.X))}
 (h1 : Rh (lp fn i) = some r) (h2 : (Ua L r) = some ls) (h3 : ls.F = Kb R) (h4 : ∀ x, Sy G L ls (lp fn i) x = R x) : Ib G L (lp fn i) := by
 intro r' ls' hr hl x y hy
 rw [h1] at hr
 simp only [jc] at hr
 subst hr
 rw [h2] at hl
 simp only [jc] at hl
 subst hl
 rw [h3] at hy
 obtain ⟨m, hm⟩ := My.1 hy
 have : Sy G L ls (lp fn i) = R := funext h4
 rw [this]
 exact ⟨m, hm⟩
theorem MD {G : Gd} {L : List (Nat × Ta)} {fn : Func} {k : Nat} (hk : qq (Od (fn.body.getD .skip)).length k = true) (h : ∀ i, i < k → Ib G L (lp fn i)) :
 ∀ b, b ∈ Od (fn.body.getD .skip) → Ib G L b := by
 intro b hb
 obtain ⟨i, hi, rfl⟩ := List.mem_iff_getElem.1 hb
 have := h i (by rw [← ju hk]; exact hi)
 unfold lp at this
 rwa [qd, je hi] at this
theorem Za {p : Nat → Prop} : ∀ i, i < 0 → p i := fun i h => absurd h (Nat.not_lt_zero i)
theorem Ra {p : Nat → Prop} {k : Nat} (h : p k) (hr : ∀ i, i < k → p i) : ∀ i, i < k + 1 → p i := by
 intro i hi
 rcases Nat.lt_or_eq_of_le (Nat.lt_succ_iff.1 hi) with hi | rfl
 ·exact hr i hi
 ·exact h
section
variable {P : Program}
theorem E1 {l : List (Nat × Ty)} {fs : List (Nat × Xa)} {m : List (Nat × Nat)} {z : Bool} {ar : List (Nat × Ty × Nat)} {mv ml : List Nat}
 (h : ((l.all fun x => Bc P x.2 x.1) && (ar.all fun x => LG P x.1 x.2.1 x.2.2)) = true) : EnvTy P ⟨l, fs, m, z, ar, mv, ml⟩ := by
 simp only [jd] at h
 exact ⟨fun t τ ht => ym.1 h.1 (t, τ) (Sp ht), fun t e n ht => ym.1 h.2 (t, e, n) (Sp ht)⟩
theorem GL {I : Bg} {l : List (Nat × Ty)} {m : List (Nat × Nat)} {z : Bool} {ar : List (Nat × Ty × Nat)} {mv ml : List Nat}
 (h : ((l.all fun x => Bc P x.2 x.1) && (ar.all fun x => LG P x.1 x.2.1 x.2.2)) = true) : Oh P I ⟨l, [], m, z, ar, mv, ml⟩ :=
 { toEnvTy := E1 h, fn := fun f sem h => by simp [Ua] at h }
theorem Oh.cons {I : Bg} {l : List (Nat × Ty)} {fs : List (Nat × Xa)} {m : List (Nat × Nat)} {z : Bool} {ar : List (Nat × Ty × Nat)} {mv ml : List Nat} {f : Nat} {sem : Xa} (hs : Gg P I f sem)
 (h : Oh P I ⟨l, fs, m, z, ar, mv, ml⟩) : Oh P I ⟨l, (f, sem) :: fs, m, z, ar, mv, ml⟩ :=
 { toEnvTy := ⟨h.ty, h.ar⟩, fn := fun g s hg => by
    simp only [Rb] at hg
    split at hg
    ·rename_i e
     simp only [jc] at hg
     subst e; subst hg
     exact hs
    ·exact h.fn g s hg }
theorem SC {fn : Func} (h : fn.body.isSome = true) : fn.body = some (fn.body.getD .skip) := by
 cases hb : fn.body with
 | none => rw [hb] at h; simp at h
 | some c => rfl
variable {I : Bg} {G : Gd} {L : List (Nat × Ta)}
theorem BE (hG : Oh P I G) (hm : P.follows .mixedOrders = true) {f : FuncId} {fn : Func} {k : Nat} {pt rt : Ty} {fr : List Bool} {F : T pt → Option (T rt)} (hf : P.funcs[f]? = some fn)
 (hb : (fn.body.isSome && !(fn.name == "runtime.NumGoroutine") && jx pt.npar fn.ntmps && qq (Od (fn.body.getD .skip)).length k) = true)
 (hL : ∀ i, i < k → Ib G L (lp fn i)) (hF : ∀ x, KY G L fn pt rt fr x = F x) : Gg P I f (.pu pt rt fr F) := by
 simp only [jd, yc] at hb
 exact B3 hG hm hf (SC hb.1.1.1) hb.1.1.2 (MD hb.2 hL) (qu hb.1.2) fun x r h => (hF x).trans h
theorem A0 (hG : Oh P I G) {vw cv : Bool} (hfz : (!G.fz || ((vw && !cv) && Im G.att)) = true) (hm : P.follows .mixedOrders = true) {f : FuncId} {fn : Func} {k : Nat} {τ pt rt : Ty} {fr : List Bool} {F : T τ → T pt → Option (T τ × T rt)} (hf : P.funcs[f]? = some fn)
 (hb : (fn.body.isSome && !(fn.name == "runtime.NumGoroutine") && jx (pt.npar + 1) fn.ntmps && qq (Od (fn.body.getD .skip)).length k) = true)
 (hL : ∀ i, i < k → Ib G L (lp fn i)) (hF : ∀ x0 x, QN G L fn vw cv τ pt rt fr x0 x = F x0 x) : Gg P I f (.bx vw cv τ pt rt fr F) := by
 simp only [jd, yc] at hb
 have hz : G.fz = false ∨ ((vw && !cv) = true ∧ Im G.att = true) := by
  simp only [qr, yc, jd] at hfz ⊢
  exact hfz
 exact A3 hG hz hm hf (SC hb.1.1.1) hb.1.1.2 (MD hb.2 hL) (qu hb.1.2) fun x0 x r h => (hF x0 x).trans h
theorem C0 (hG : Oh P I G) (hfz : (!G.fz || LO G.att) = true) (hm : P.follows .mixedOrders = true) {f : FuncId} {fn : Func} {k : Nat} {τ κ ε pt rt : Ty} {F : T τ → List (T κ × T ε) → T pt → Option (T τ × (List (T κ × T ε) × T rt))} (hf : P.funcs[f]? = some fn)
 (hb : (fn.body.isSome && !(fn.name == "runtime.NumGoroutine") && jx (pt.npar + 1) fn.ntmps && qq (Od (fn.body.getD .skip)).length k) = true)
 (hL : ∀ i, i < k → Ib G L (lp fn i)) (hF : ∀ x0 xs x, RN G L fn τ κ ε pt rt x0 xs x = F x0 xs x) : Gg P I f (.tp τ κ ε pt rt F) := by
 simp only [jd, yc] at hb
 exact C3 hG (by simpa using hfz) hm hf (SC hb.1.1.1) hb.1.1.2 (MD hb.2 hL) (qu hb.1.2) fun x0 xs x r h => (hF x0 xs x).trans h
end
end KF
