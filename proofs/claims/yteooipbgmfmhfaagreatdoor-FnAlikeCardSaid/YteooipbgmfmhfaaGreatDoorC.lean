/- An evaluator of Go functions on plain data, its soundness, and plain laws on what the functions compute, part 3 (conditions: as each lemma tells). -/
import Derived.Test.YteooipbgmfmhfaaGreatDoorB
import Derived.Orders
import Derived.LoopN
import Derived.ChangeArms
import Derived.ChangeStays
import Derived.ChangeSame
import Derived.WideShapes
import Derived.RowKit
import Derived.Handed
import Derived.JoinedOf
set_option linter.unusedSimpArgs false
set_option linter.unusedVariables false
namespace KF
open Go
open List renaming length → ja, getElem?_eq_getElem → je, append → jf, mem_append → jm, mem_cons → jq, mem_cons_of_mem → js, length_cons → jx, set → j7, length_nil → j8, length_set → j9, mem_singleton → qd, length_append → qe, getD_eq_getElem?_getD → qg, getElem_mem → qi, getElem_of_mem → qj, mem_map → qk, ext_getElem? → qn, drop_drop → qo, toArray → qp, getD → qq, getElem?_eq_none → qr, mem_iff_getElem → qs, mem_append_left → qt, mem_append_right → qu, append_assoc → qy, eq_nil_of_length_eq_zero → q6, getElem?_eq_some_iff → q7, length_eq_one_iff → q8, replicate → yb, cons_append → yf, map_cons → yh, map_nil → yi, nodup_cons → yk, nodup_append → yl, size_toArray → ym, flatten_cons → yn, length_map → yp, mem_map_of_mem → yt, map_append → yu, all_eq_true → yv, range → yx, not_mem_nil → yz
open Option renaming bind_some → jb, bind → j4, map_some → qc, bind_eq_some_iff → qf, getD_some → qx, map_eq_some_iff → yw
open Option.some renaming injEq → jc, inj → yy
open Bool renaming and_eq_true → jd, not_true → jg, true_and → jl, false_eq_true → jr, not_eq_true → qa, or_eq_true → qw, not_eq_true' → yj, or_eq_false_iff → yq, false_or → yr
open Prod.mk renaming injEq → jh
open Nat renaming ble_eq_true_of_le → jk, mul_le_mul_right → jn, le_refl → jp, zero_add → jt, add_assoc → ju, eq_of_beq_eq_true → jv, ble → jy, le_trans → qb, beq → qv, le_of_ble_eq_true → qz, add_zero → q9, blt → ya, blt_eq → yc, add_mul → yd, one_mul → ye, succ_mul → yo
open Int renaming toNat_natCast → jo, eq_ofNat_of_zero_le → jw, toNat → jz
open Go.IntKind renaming wrap → j5, wrap → j6
open Sum renaming elim_inl → qh
open Result renaming andThen_ok → ql
open Sem renaming run_bind → qm
open List.cons renaming injEq → yg
def Tv {α : Type} : List (Int × α) → Int → Option Nat
 | [], _ => none
 | (k, _) :: r, n => bif n == k then some 0 else (Tv r n).map (· + 1)
theorem FR {α : Type} : ∀ (xs : List (Int × α)) (n : Int), Aj xs n = (Tv xs n).bind fun i => (xs[i]?).map (·.2)
 | [], n => rfl
 | (k, x) :: r, n => by
  simp only [Aj, Tv]
  cases hn : n == k with
  | true => simp
  | false =>
   simp only [y8]
   rw [FR r n]
   cases Tv r n <;> simp
theorem XP {α : Type} : ∀ {xs : List (Int × α)} {n : Int} {i : Nat}, Tv xs n = some i → ∃ h : i < xs.length, xs[i].1 = n
 | [], n, i, h => by simp [Tv] at h
 | (k, x) :: r, n, i, h => by
  simp only [Tv] at h
  cases hn : n == k with
  | true => rw [hn] at h; simp at h hn; subst h; exact ⟨by simp, hn.symm⟩
  | false =>
   rw [hn] at h
   simp only [y8, yw] at h
   obtain ⟨j, hj, rfl⟩ := h
   obtain ⟨h1, h2⟩ := XP hj
   exact ⟨by simp; omega, by simpa using h2⟩
theorem MN {α : Type} : ∀ {xs : List (Int × α)} {n : Int} {i : Nat} (y : α), Tv xs n = some i → KH xs n y = xs.set i (n, y)
 | [], n, i, y, h => by simp [Tv] at h
 | (k, x) :: r, n, i, y, h => by
  simp only [Tv] at h
  simp only [KH]
  cases hn : n == k with
  | true => rw [hn] at h; simp at h hn; subst h; simp [hn]
  | false =>
   rw [hn] at h
   simp only [y8, yw] at h
   obtain ⟨j, hj, rfl⟩ := h
   simp [MN y hj]
theorem LN {α : Type} : ∀ {xs : List (Int × α)} {n : Int} (y : α), Tv xs n = none → KH xs n y = xs ++ [(n, y)]
 | [], n, y, h => rfl
 | (k, x) :: r, n, y, h => by
  simp only [Tv] at h
  simp only [KH]
  cases hn : n == k with
  | true => rw [hn] at h; simp at h
  | false =>
   rw [hn] at h
   simp only [y8, Option.map_eq_none_iff] at h
   simp [LN y h]
theorem FM {kk : IntKind} {w : World} {O : Nat → Prop} {v : Ty} (n : Int) : ∀ (xs : List (Int × T v)) (es : List MapEntry) (j : Nat), es.length = xs.length →
 (∀ i (h : i < xs.length), ∃ e, es[i]? = some e ∧ e.key = .int kk xs[i].1) →
 Instr.findNow (.int kk) (.int kk n) es j = some ((Tv xs n).bind fun i => (es[i]?).map fun e => (j + i, e.val))
 | [], [], j, _, _ => rfl
 | [], _ :: _, j, h, _ => by simp at h
 | _ :: _, [], j, h, _ => by simp at h
 | (k, x) :: xs, e :: es, j, h, hk => by
  obtain ⟨e0, h0, h1⟩ := hk 0 (by simp)
  simp only [List.getElem?_cons_zero, jc] at h0
  subst h0
  simp only [List.getElem_cons_zero] at h1
  have ih := FM (w := w) (O := O) n xs es (j + 1) (by simpa using h) (fun i hi => by
   obtain ⟨e', h2, h3⟩ := hk (i + 1) (by simp; omega)
   exact ⟨e', by simpa using h2, by simpa using h3⟩)
  simp only [Instr.findNow, h1, Instr.sameNow, if_true, Tv]
  cases hn : n == k with
  | true => simp
  | false =>
   simp only [y8]
   rw [ih]
   cases Tv xs n with
   | none => rfl
   | some i => simp [ju, Nat.add_comm 1 i]
section
variable {P : Program} {Out : Type} {n0 : Nat} {A : Fx} {O0 : Nat → Prop} {w0 w w' : World} {s : AS} {σ σ' : Nat → Value} {φ φ' : Nat → List Nat} {a : Act}
variable {o : Oper} {Q : Exit → Act → World → Prop} {k : AS → Option Out} {out : Out} {d : D} {v : Value} {upd : List (Nat × Option Ja)} {dst : Option Tmp} {G : Qd}
theorem Un {kk : IntKind} {kt : TypeId} {O : Nat → Prop} {τ : Ty} {xs : List (Int × T τ)} {es : Array MapEntry} (hk : P.underlying kt = some (.int kk)) (he : Il w O (.i kk) τ xs es) (n : Int) (w1 : World) :
 (Instr.findKey kt (.int kk n) es.toList).run P w1 = .ok ((Tv xs n).bind fun i => (es[i]?).map fun e => (i, e.val)) w1 := by
 have := FM (w := w) (O := O) (v := τ) (kk := kk) n xs es.toList 0 (by simpa using he.1) (fun i hi => by
  obtain ⟨e, ck, cv, h1, h2, h3, h4, h5⟩ := he.2 i hi
  refine ⟨e, by simpa using h1, ?_⟩
  have h4' : ck = [.int kk (List.get xs ⟨i, hi⟩).1] := h4
  rw [h2, h4']; rfl)
 simp only [jt, Array.getElem?_toList] at this
 simp [Instr.findKey, run_underlying hk, this]
theorem Ak {kk : IntKind} {kt : TypeId} (hk : P.underlying kt = some (.int kk)) (b : Bool) (n : Int) (w1 : World) : (Instr.checkKey b 10000 kt (.int kk n)).run P w1 = .ok () w1 := by
 have h : ∀ m : Nat, (Instr.checkKey b (m + 1) kt (.int kk n)).run P w1 = .ok () w1 := fun m => by simp [Instr.checkKey, run_underlying hk]
 exact h 9999
theorem YW {O : Nat → Prop} {kk : IntKind} {τ : Ty} {xs : List (Int × T τ)} {es : Array MapEntry} (he : Il w O (.i kk) τ xs es) (n : Int) :
 (Aj xs n = none ∧ Tv xs n = none) ∨ ∃ i e y cv, Tv xs n = some i ∧ es[i]? = some e ∧ Aj xs n = some y ∧ e.val = Bd τ cv ∧ Ka w O τ y cv := by
 rw [FR]
 cases hm : Tv xs n with
 | none => exact .inl ⟨rfl, rfl⟩
 | some i =>
  obtain ⟨hi, _⟩ := XP hm
  obtain ⟨e, ck, cv, h1, h2, h3, h4, h5⟩ := he.2 i hi
  exact .inr ⟨i, e, _, cv, rfl, h1, by simp [je hi], h3, h5⟩
theorem Yz {kk : IntKind} {t kt et : TypeId} {O : Nat → Prop} {τ : Ty} {xs : List (Int × T τ)} {es : Array MapEntry} {clk r : Nat} (ht : P.underlying t = some (.map kt et)) (hk : P.underlying kt = some (.int kk)) (hte : Kc P τ et = true)
 (hh : w.heap[r]? = some (.map es clk)) (he : Il w O (.i kk) τ xs es) (n : Int) (ok : Bool) :
 ∃ cv, Ka w O τ ((Aj xs n).getD (zT τ)) cv ∧ (Instr.lookup t (.map (some r)) (.int kk n) ok).run P w = .ok (if ok then .tuple #[Bd τ cv, .bool (Aj xs n).isSome] else Bd τ cv) w := by
 have hg : (getObj r).run P w = .ok (.map es clk) w := by simp [getObj, Sem.run, hh]
 have hf := Un (P := P) hk he n w
 have hc := Ak (P := P) hk es.isEmpty n w
 rcases YW he n with ⟨h1, h2⟩ | ⟨i, e, y, cv, h1, h2, h3, h4, h5⟩
 ·refine ⟨τ.zc, ?_, ?_⟩
  ·rw [h1]
   exact (BO w τ).view (by simp)
  ·rw [h2] at hf
   rw [h1, Oo]
   simp [Instr.lookup, run_underlying ht, hg, hc, hf, Tok.zero hte]
 ·refine ⟨cv, by rw [h3]; exact h5, ?_⟩
  rw [h1] at hf
  simp only [jb, h2, qc] at hf
  rw [h3]
  simp [Instr.lookup, run_underlying ht, hg, hc, hf, h4]
theorem EG {kk : IntKind} {t kt et : TypeId} {τ : Ty} (ht : P.underlying t = some (.map kt et)) (hk : P.underlying kt = some (.int kk)) (hte : Kc P τ et = true) (n : Int) (ok : Bool) :
 (Instr.lookup t (.map none) (.int kk n) ok).run P w = .ok (if ok then .tuple #[Bd τ τ.zc, .bool false] else Bd τ τ.zc) w := by
 have hc := Ak (P := P) hk true n w
 have hf : (Instr.findKey kt (.int kk n) []).run P w = .ok none w := by simp [Instr.findKey, run_underlying hk, Instr.findNow]
 rw [Oo]
 simp [Instr.lookup, run_underlying ht, hc, hf, Tok.zero hte]
theorem CF {O O' : Nat → Prop} {kk v : Ty} {xs : List (T kk × T v)} {es : Array MapEntry} (hv : ∀ b, ¬ O b → b < w.heap.size → w'.heap[b]? = w.heap[b]?) (hO : ∀ b, b < w.heap.size → ¬ O b → ¬ O' b) (h : Il w O kk v xs es) : Il w' O' kk v xs es := by
 refine ⟨h.1, fun i hi => ?_⟩
 obtain ⟨e, ck, cv, h1, h2, h3, h4, h5⟩ := h.2 i hi
 exact ⟨e, ck, cv, h1, h2, h3, h4.stable hv hO, h5.stable hv hO⟩
theorem Cac {O : Nat → Prop} {kk : IntKind} {τ : Ty} {xs : List (Int × T τ)} {es : Array MapEntry} (he : Il w O (.i kk) τ xs es) (n : Int) {y : T τ} {cv : List Value} (hy : Ka w O τ y cv) (clk : Nat) :
 ∃ es' clk', Il w O (.i kk) τ (KH xs n y) es' ∧ ∀ (t kt et : TypeId) (r : Nat) (w1 : World), P.underlying t = some (.map kt et) → P.underlying kt = some (.int kk) → w1.heap[r]? = some (.map es clk) →
  (Instr.mapUpdate t (.map (some r)) (.int kk n) (Bd τ cv)).run P w1 = .ok () { w1 with heap := w1.heap.setIfInBounds r (.map es' clk') } := by
 cases hm : Tv xs n with
 | none =>
  refine ⟨es.push { key := .int kk n, val := Bd τ cv, born := clk }, clk + 1, ⟨?_, ?_⟩, ?_⟩
  ·rw [LN y hm, Array.size_push, he.1]; simp
  ·rw [LN y hm]
   intro i hi
   by_cases h : i < xs.length
   ·obtain ⟨e, ck, cv', h1, h2, h3, h4, h5⟩ := he.2 i h
    have hlt : i < es.size := by rw [he.1]; exact h
    refine ⟨e, ck, cv', ?_, h2, h3, ?_, ?_⟩
    ·rw [Array.getElem?_push_lt hlt]
     rw [Array.getElem?_eq_getElem hlt] at h1
     exact h1
    ·have : List.get (xs ++ [(n, y)]) ⟨i, hi⟩ = List.get xs ⟨i, h⟩ := List.getElem_append_left h
     rw [this]; exact h4
    ·have : List.get (xs ++ [(n, y)]) ⟨i, hi⟩ = List.get xs ⟨i, h⟩ := List.getElem_append_left h
     rw [this]; exact h5
   ·have hi2 : i = xs.length := by
     have : (xs ++ [(n, y)]).length = xs.length + 1 := by simp
     have hi' : i < (xs ++ [(n, y)]).length := hi
     omega
    subst hi2
    have : List.get (xs ++ [(n, y)]) ⟨xs.length, hi⟩ = (n, y) := by simp
    refine ⟨{ key := .int kk n, val := Bd τ cv, born := clk }, [.int kk n], cv, ?_, rfl, rfl, ?_, ?_⟩
    ·rw [show xs.length = es.size from he.1.symm]
     exact Array.getElem?_push_size
    ·rw [this]; rfl
    ·rw [this]; exact hy
  ·intro t kt et r w1 ht hk hh
   have hg : (getObj r).run P w1 = .ok (.map es clk) w1 := by simp [getObj, Sem.run, hh]
   have hf := Un (P := P) hk he n w1
   have hc := Ak (P := P) hk false n w1
   rw [hm] at hf
   have hs := MapKept.run_setObj_map (P := P) (.map (es.push { key := .int kk n, val := Bd τ cv, born := clk }) (clk + 1)) hh
   simp [Instr.mapUpdate, run_underlying ht, hg, hc, hf, hs]
 | some i =>
  obtain ⟨hi, hik⟩ := XP hm
  obtain ⟨e0, ck0, cv0, g1, g2, g3, g4, g5⟩ := he.2 i hi
  have g4' : ck0 = [.int kk n] := by
   have : ck0 = [.int kk (List.get xs ⟨i, hi⟩).1] := g4
   rw [this, show (List.get xs ⟨i, hi⟩).1 = n from hik]
  have hlt : i < es.size := by rw [he.1]; exact hi
  refine ⟨es.modify i fun e => { e with key := .int kk n, val := Bd τ cv }, clk, ⟨?_, ?_⟩, ?_⟩
  ·rw [MN y hm, Array.size_modify, he.1]; simp
  ·rw [MN y hm]
   intro j hj
   have hj' : j < xs.length := by
    have : j < (xs.set i (n, y)).length := hj
    simpa using this
   have hjs : j < es.size := by rw [he.1]; exact hj'
   by_cases hji : i = j
   ·subst hji
    have : List.get (xs.set i (n, y)) ⟨i, hj⟩ = (n, y) := by simp
    refine ⟨{ es[i] with key := .int kk n, val := Bd τ cv }, [.int kk n], cv, ?_, rfl, rfl, ?_, ?_⟩
    ·rw [Array.getElem?_modify]; simp [Array.getElem?_eq_getElem hjs]
    ·rw [this]; rfl
    ·rw [this]; exact hy
   ·obtain ⟨e, ck, cv', h1, h2, h3, h4, h5⟩ := he.2 j hj'
    have : List.get (xs.set i (n, y)) ⟨j, hj⟩ = List.get xs ⟨j, hj'⟩ := by simp [hji]
    refine ⟨e, ck, cv', ?_, h2, h3, ?_, ?_⟩
    ·rw [Array.getElem?_modify, if_neg hji]; exact h1
    ·rw [this]; exact h4
    ·rw [this]; exact h5
  ·intro t kt et r w1 ht hk hh
   have hg : (getObj r).run P w1 = .ok (.map es clk) w1 := by simp [getObj, Sem.run, hh]
   have hf := Un (P := P) hk he n w1
   have hc := Ak (P := P) hk false n w1
   rw [hm] at hf
   simp only [jb, g1, qc] at hf
   have hs := MapKept.run_setObj_map (P := P) (.map (es.modify i fun e => { e with key := .int kk n, val := Bd τ cv }) clk) hh
   have hkey : e0.key = .int kk n := by rw [g2, g4']; rfl
   have hst : (Instr.keyThatStays (.int kk n) (.int kk n)).run P w1 = .ok (.int kk n) w1 := by simp [Instr.keyThatStays, Instr.sameBits]
   simp [Instr.mapUpdate, run_underlying ht, hg, hc, hf, g1, hkey, hst, hs]
theorem Qo {O : Nat → Prop} {hp : Nat → Option Ja} {id : Nat} {v : Value} : Nc w O hp σ (.mpo id) v ↔ v.oneCell' = true ∧ ∀ Da, hp id = some Da → Da.isM = true → v = σ id := by
 simp only [Nc, Ae, D.isAgg, Wa, jr, if_false]
 constructor
 ·rintro ⟨u, h, h1, h2⟩
  simp only [yg, and_true] at h
  subst h
  exact ⟨h1, h2⟩
 ·rintro ⟨h1, h2⟩
  exact ⟨v, rfl, h1, h2⟩
theorem Y6 (h : Ra n0 A O0 w0 s σ φ a w) {t : TypeId} {r : Option Operand} (ho : o.op = .makeMap t r)
 (he : Xi G s o (fun d u => Kf s o.dst d u k) = some out) : o.wp P a w (Zd n0 A O0 w0 k out) Q := by
 simp only [Xi, ho] at he
 cases r with
 | some r => simp at he
 | none =>
 simp only at he
 split at he
 ·rename_i tt kk v hd hty
  cases hmv : Ou G.mv tt with
  | true =>
   simp only [hmv, y3] at he
   split at he
   ·rename_i k2 e2
    cases hn : s.newOk tt with
    | false => simp [hn] at he
    | true =>
     simp only [hn, y3] at he
     have hc := h.new1 (id := tt) (w' := w.alloc (.map #[] 0)) hn (.mq k2 e2 ([] : List (Int × List (T e2)))) (.map (some w.heap.size)) [w.heap.size] (by simp) (fun b hb => Hg w _ b hb) rfl rfl rfl (by simp) (by simp)
      (by
       intro hp' σ' O' hσ _ _
       exact ⟨w.heap.size, #[], 0, hσ, heap_alloc_new w _, rfl, rfl⟩)
      (by
       intro kk e xs hx
       simp only [Ja.mq.injEq] at hx
       obtain ⟨rfl, rfl, hx⟩ := hx
       have hx' := eq_of_heq hx
       subst hx'
       exact ⟨w.heap.size, #[], 0, [], rfl, heap_alloc_new w _, rfl, rfl, List.nodup_nil, fun b hb => by simp at hb, fun i hi => by simp at hi⟩)
     refine Jb (w' := w.alloc (.map #[] 0)) (v := .map (some w.heap.size)) ?_ (Hd rfl hc (Qo.2 ⟨rfl, fun _ _ _ => (Ld _ _ _).symm⟩) he)
     simp [execOp, ho, Instr.makeMap]
   ·simp at he
  | false =>
  simp only [hmv, y8] at he
  cases hn : s.newOk tt with
  | false => simp [hn] at he
  | true =>
   simp only [hn, y3] at he
   have hc := h.new1 (id := tt) (w' := w.alloc (.map #[] 0)) hn (.mp kk v ([] : List (T kk × T v))) (.map (some w.heap.size)) [w.heap.size] (by simp) (fun b hb => Hg w _ b hb) rfl rfl rfl (by simp) (by simp)
    (by
     intro hp' σ' O' hσ _ _
     exact ⟨w.heap.size, #[], 0, hσ, heap_alloc_new w _, rfl, rfl, fun i hi => by simp at hi⟩)
   refine Jb (w' := w.alloc (.map #[] 0)) (v := .map (some w.heap.size)) ?_ (Hd rfl hc (Qo.2 ⟨rfl, fun _ _ _ => (Ld _ _ _).symm⟩) he)
   simp [execOp, ho, Instr.makeMap]
 ·simp at he
theorem RL {O : Nat → Prop} {hp : Nat → Option Ja} {d : D} {τ : Ty} {x : T τ} {v : Value} (ht : Vf d τ = some x) (h : Nc w O hp σ d v) : Ka w O τ x v.cells.toList ∧ v = Bd τ v.cells.toList := by
 obtain ⟨hs, hv⟩ := Xe (w := w) (O := O) (hp := hp) (σ := σ) ht
 obtain ⟨h1, h2⟩ := Kd hs h
 exact ⟨hv _ h1, by rw [Oo]; exact h2⟩
theorem HT (hG : EnvTy P G) (h : Ra n0 A O0 w0 s σ φ a w) {t : TypeId} {m x v : Operand} (ho : o.op = .mapUpdate t m x v ∨ o.op = .insert t m x v)
 (he : Hm G s t m x v (fun d u => Kf s o.dst d u k) = some out) : o.wp P a w (Zd n0 A O0 w0 k out) Q := by
 unfold Hm at he
 split at he
 ·rename_i kk τ id k2 n d hty hm hx hv
  split at he
  ·rename_i k3 τ3 xs y hid hy
   split at he
   ·rename_i hdec hq
    obtain rfl := hdec
    cases hkk : (kk == k2) && (kk == k3) with
    | false => simp [hkk] at he
    | true =>
     simp only [hkk, y3] at he
     simp only [jd, beq_iff_eq] at hkk
     obtain ⟨rfl, rfl⟩ := hkk
     obtain ⟨kt, et, hu, hk, hte⟩ := Tok.mp (hG.ty _ _ hty)
     obtain ⟨r, es, clk, hσ, hh, hF, hz, hen⟩ := h.hp id _ hid
     have hE : Il w (OO O0 s φ) (.i kk) τ xs es := ⟨hz, hen⟩
     obtain ⟨hyv, hvv⟩ := RL hy (h.ev hv)
     obtain ⟨es', clk', hE', hrun⟩ := Cac (P := P) hE n hyv clk
     have hmv := (Qo.1 (h.ev hm)).2 _ hid rfl
     rw [hσ] at hmv
     have hxv := Xd.1 (h.ev hx)
     have hrlt : r < w.heap.size := (Array.getElem?_eq_some_iff.1 hh).1
     have hOr : OO O0 s φ r := .inr ⟨id, _, hid, by rw [hF]; simp⟩
     have hne : ∀ b, b ≠ r → (w.heap.setIfInBounds r (.map es' clk'))[b]? = w.heap[b]? := fun b hb => by
      rw [Array.getElem?_setIfInBounds, if_neg (fun e => hb e.symm)]
     have hc := h.turn (w' := { w with heap := w.heap.setIfInBounds r (.map es' clk') }) hid (Da := .mp (.i kk) τ (KH xs n y)) ⟨rfl, rfl⟩ [] (by simp) (by simp) (φ id) (by simp)
      (fun b _ hb _ => hne b (fun e => hb (by rw [hF, e]; simp))) rfl rfl rfl (h.nodup id _ hid) (fun b hb => .inr (.inl hb))
      (by
       intro hp' O' hO _
       refine ⟨r, es', clk', hσ, ?_, hF, ?_⟩
       ·show (w.heap.setIfInBounds r (.map es' clk'))[r]? = _
        rw [Array.getElem?_setIfInBounds]; simp [hrlt]
       ·exact CF (fun b hb hlt => hne b (fun e => hb (e ▸ hOr))) hO hE')
     refine Fv (w' := { w with heap := w.heap.setIfInBounds r (.map es' clk') }) ?_ (Hd (upd := [(id, some (.mp (.i kk) τ (KH xs n y)))]) rfl hc (Ro.2 rfl) he)
     have := hrun t kt et r w hu (Tok.i hk) hh
     rw [← hvv] at this
     rcases ho with ho | ho <;> simp [execOp, ho, hmv, hxv, this]
   ·simp at he
  ·simp at he
 ·simp at he
theorem OY {O : Nat → Prop} {kk : IntKind} {e : Ty} {xs : List (Int × List (T e))} {es : Array MapEntry} {Gs : List (List Nat)} (hz : es.size = ja xs) (hO : ∀ b, b ∈ List.flatten Gs → ¬ O b)
 (hen : ∀ i (h : i < ja xs), ∃ en, es[i]? = some en ∧ en.key = .int kk (List.get xs ⟨i, h⟩).1 ∧ Ob w (.sl e) (List.get xs ⟨i, h⟩).2 [en.val] (Gs.getD i [])) : Il w O (.i kk) (.sl e) xs es := by
 refine ⟨hz, fun i hi => ?_⟩
 obtain ⟨en, h1, h2, h3⟩ := hen i hi
 exact ⟨en, [.int kk (List.get xs ⟨i, hi⟩).1], [en.val], h1, h2, rfl, rfl, h3.view fun b hb => hO b (Ke hb)⟩
theorem SZ {O : Nat → Prop} {kk : IntKind} {τ : Ty} {xs : List (Int × T τ)} {es : Array MapEntry} (he : Il w O (.i kk) τ xs es) {n : Int} (hm : Aj xs n = none) (v : Value) (clk : Nat) {t kt et : TypeId} {r : Nat} {w1 : World}
 (ht : P.underlying t = some (.map kt et)) (hk : P.underlying kt = some (.int kk)) (hh : w1.heap[r]? = some (.map es clk)) :
 (Instr.mapUpdate t (.map (some r)) (.int kk n) v).run P w1 = .ok () { w1 with heap := w1.heap.setIfInBounds r (.map (es.push { key := .int kk n, val := v, born := clk }) (clk + 1)) } := by
 have hm' : Tv xs n = none := by
  rcases YW he n with ⟨_, h2⟩ | ⟨_, _, _, _, _, _, h3, _⟩
  ·exact h2
  ·rw [hm] at h3; simp at h3
 have hg : (getObj r).run P w1 = .ok (.map es clk) w1 := by simp [getObj, Sem.run, hh]
 have hf := Un (P := P) hk he n w1
 have hc := Ak (P := P) hk false n w1
 rw [hm'] at hf
 have hs := MapKept.run_setObj_map (P := P) (.map (es.push { key := .int kk n, val := v, born := clk }) (clk + 1)) hh
 simp [Instr.mapUpdate, run_underlying ht, hg, hc, hf, hs]
theorem BQ (hG : EnvTy P G) (hfz : OC G A O0) (h : Ra n0 A O0 w0 s σ φ a w) {t : TypeId} {m x v : Operand} (ho : o.op = .mapUpdate t m x v ∨ o.op = .insert t m x v)
 (he : Tj G s t m x v (fun d u => Kf s o.dst d u k) = some out) : o.wp P a w (Zd n0 A O0 w0 k out) Q := by
 unfold Tj at he
 split at he
 ·rename_i kk e id k2 n d hty hm hx hv
  split at he
  ·rename_i k3 e3 xs y l hid hy
   split at he
   ·rename_i hdec hq
    obtain rfl := hdec
    cases hkk : (kk == k2) && ((kk == k3) && (Mf (id :: l) && (G.fz && (!Dq G.att && !UW G.att)))) with
    | false => simp [hkk] at he
    | true =>
     simp only [hkk, y3] at he
     simp only [jd, beq_iff_eq] at hkk
     obtain ⟨rfl, rfl, hnd, hfz1, hfz2, hfz3⟩ := hkk
     have hnl := Rh hnd
     have hnoA : ∀ b, ¬ A.A b := by
      rcases hfz hfz1 with h1 | ⟨h1, _⟩ | ⟨h1, _⟩
      ·exact h1
      ·rw [h1] at hfz3; simp at hfz3
      ·rw [h1] at hfz2; simp at hfz2
     cases hnone : (Aj xs n).isNone with
     | false => rw [hnone] at he; simp at he
     | true =>
      rw [hnone] at he
      simp only [y3] at he
      have hmg : Aj xs n = none := by simpa using hnone
      obtain ⟨kt, et, hu, hk, hte⟩ := Tok.mp (hG.ty _ _ hty)
      obtain ⟨r, es, clk, Gs, hσ, hh, hz, hGl, hGn, hGo, hen⟩ := h.shr id _ _ _ hid
      obtain ⟨r', es', clk', hσ', _, hF, _⟩ := h.hp id _ hid
      have hrr : r' = r := by rw [hσ] at hσ'; simpa using hσ'.symm
      subst hrr
      have hE : Il w (OO O0 s φ) (.i kk) (.sl e) xs es := OY hz (fun b hb => (hGo b hb).2) hen
      obtain ⟨hrc, hvv⟩ := Kd (Cj hy) (h.ev hv)
      obtain ⟨hown, hlive⟩ := Jm h hy hrc
      have hlen := Ob.length hown
      simp only [Ty.size] at hlen
      obtain ⟨v1, hv1⟩ := q8.1 hlen
      have hval : a.eval v = v1 := by rw [hvv, hv1]; rfl
      rw [hv1] at hown
      have hmv := (Qo.1 (h.ev hm)).2 _ hid rfl
      rw [hσ] at hmv
      have hxv := Xd.1 (h.ev hx)
      have hrlt : r' < w.heap.size := (Array.getElem?_eq_some_iff.1 hh).1
      have hOr : OO O0 s φ r' := .inr ⟨id, _, hid, by rw [hF]; simp⟩
      have hne : ∀ b, b ≠ r' → (w.heap.setIfInBounds r' (.map (es.push { key := .int kk n, val := v1, born := clk }) (clk + 1)))[b]? = w.heap[b]? := fun b hb => by
       rw [Array.getElem?_setIfInBounds, if_neg (fun e => hb e.symm)]
      have hidl : id ∉ l := (yk.1 hnl).1
      have hblO : ∀ b, b ∈ Ia φ l → OO O0 s φ b := fun b hb => by
       obtain ⟨j, hj, hm⟩ := Gb.1 hb
       obtain ⟨Da, hbl⟩ := hlive j hj
       exact .inr ⟨j, Da, hbl, hm⟩
      have hbr : ∀ b, b ∈ Ia φ l → b ≠ r' := fun b hb e => by
       obtain ⟨j, hj, hm⟩ := Gb.1 hb
       obtain ⟨Da, hbl⟩ := hlive j hj
       exact h.disj id j _ Da (fun e => hidl (e ▸ hj)) hid hbl r' (by rw [hF]; simp) (e ▸ hm)
      have hGr : ∀ b, b ∈ List.flatten Gs → b ≠ r' := fun b hb e => (hGo b hb).2 (e ▸ hOr)
      have hzz : (ja xs + 1) = ja (jf xs [(n, y)]) := by simp
      have hsz : (es.push { key := .int kk n, val := v1, born := clk }).size = ja (jf xs [(n, y)]) := by rw [Array.size_push, hz, hzz]
      have hset : (w.heap.setIfInBounds r' (.map (es.push { key := .int kk n, val := v1, born := clk }) (clk + 1)))[r']? = some (.map (es.push { key := .int kk n, val := v1, born := clk }) (clk + 1)) := by
       rw [Array.getElem?_setIfInBounds]; simp [hrlt]
      have hc := h.turn (w' := { w with heap := w.heap.setIfInBounds r' (.map (es.push { key := .int kk n, val := v1, born := clk }) (clk + 1)) }) hid (Da := .mq kk e (jf xs [(n, y)])) ⟨rfl, rfl⟩ l hlive hidl (φ id) (by simp)
       (fun b _ hb _ => hne b (fun e => hb (by rw [hF, e]; simp))) rfl rfl rfl (h.nodup id _ hid) (fun b hb => .inr (.inl hb))
       (by
        intro hp' O' hO _
        exact ⟨r', _, _, hσ, hset, hF, hsz⟩)
       (by
        intro kk' e' xs' hx'
        simp only [Ja.mq.injEq] at hx'
        obtain ⟨rfl, rfl, hx'⟩ := hx'
        have hx2 := eq_of_heq hx'
        subst hx2
        refine ⟨r', _, _, Gs ++ [Ia φ l], hσ, hset, hsz, ?_, ?_, ?_, ?_⟩
        ·rw [qe, hGl, List.length_singleton, hzz]
        ·rw [List.flatten_append, yl]
         refine ⟨hGn, ?_, fun a ha b hb e => ?_⟩
         ·simpa using Qf h (yk.1 hnl).2 hlive
         ·subst e
          exact (hGo a ha).2 (hblO a (by simpa using hb))
        ·intro b hb
         rw [List.flatten_append] at hb
         have hOmono : ∀ b, OO O0 ⟨s.n, s.tm, (id, some (.mq kk e (jf xs [(n, y)]))) :: (Ub l ++ s.hp)⟩ (Kg φ id (φ id)) b → O0 b ∨ ∃ j Da, j ∉ l ∧ s.heap j = some Da ∧ b ∈ φ j := by
          rintro b (ho | ⟨j, Da, hl', hm⟩)
          ·exact .inl ho
          ·rw [Zc] at hl'
           by_cases hj : j = id
           ·subst hj
            rw [Ld] at hm
            exact .inr ⟨j, _, hidl, hid, hm⟩
           ·rw [if_neg hj] at hl'
            split at hl'
            ·simp at hl'
            ·rename_i hjl
             rw [Fj _ _ hj] at hm
             exact .inr ⟨j, Da, hjl, hl', hm⟩
         rcases jm.1 hb with hb | hb
         ·refine ⟨(hGo b hb).1, fun hO => (hGo b hb).2 ?_⟩
          rcases hOmono b hO with ho | ⟨j, Da, _, h1, h2⟩
          ·exact .inl ho
          ·exact .inr ⟨j, Da, h1, h2⟩
         ·have hb' : b ∈ Ia φ l := by simpa using hb
          obtain ⟨j, hj, hm⟩ := Gb.1 hb'
          obtain ⟨Da, hbl⟩ := hlive j hj
          have hge : n0 ≤ b := (h.fresh j Da hbl b hm).resolve_right (hnoA b)
          refine ⟨hge, fun hO => ?_⟩
          rcases hOmono b hO with ho | ⟨j', blk', hjl, h1, h2⟩
          ·have := h.o0 b ho; omega
          ·exact h.disj j j' Da blk' (fun e => hjl (e ▸ hj)) hbl h1 b hm h2
        ·intro i hi
         have hi' : i < ja xs + 1 := by rw [hzz]; exact hi
         by_cases hix : i < ja xs
         ·obtain ⟨en, g1, g2, g3⟩ := hen i hix
          have hlt : i < es.size := by rw [hz]; exact hix
          have hgx : List.get (jf xs [(n, y)]) ⟨i, hi⟩ = List.get xs ⟨i, hix⟩ := List.getElem_append_left hix
          have hgG : (Gs ++ [Ia φ l]).getD i [] = Gs.getD i [] := by
           rw [qg, qg, List.getElem?_append_left (by omega)]
          refine ⟨en, ?_, by rw [hgx]; exact g2, ?_⟩
          ·rw [Array.getElem?_push_lt hlt]
           rw [Array.getElem?_eq_getElem hlt] at g1
           exact g1
          ·rw [hgx, hgG]
           exact g3.stable fun b hb => hne b (hGr b (Ke hb))
         ·have hie : i = ja xs := by omega
          subst hie
          have hgx : List.get (jf xs [(n, y)]) ⟨ja xs, hi⟩ = (n, y) := by simp
          have hgG : (Gs ++ [Ia φ l]).getD (ja xs) [] = Ia φ l := by
           rw [qg, ← hGl, List.getElem?_append_right (jp _), Nat.sub_self]; rfl
          refine ⟨{ key := .int kk n, val := v1, born := clk }, ?_, by rw [hgx], ?_⟩
          ·rw [← hz]; exact Array.getElem?_push_size
          ·rw [hgx, hgG]
           exact hown.stable fun b hb => hne b (hbr b hb))
      refine Fv (w' := { w with heap := w.heap.setIfInBounds r' (.map (es.push { key := .int kk n, val := v1, born := clk }) (clk + 1)) }) ?_ (Hd (upd := (id, some (.mq kk e (jf xs [(n, y)]))) :: Ub l) rfl hc (Ro.2 rfl) he)
      have := SZ (P := P) hE hmg v1 clk hu (Tok.i hk) hh
      rcases ho with ho | ho <;> simp [execOp, ho, hmv, hxv, hval, this]
   ·simp at he
  ·simp at he
 ·simp at he
theorem EH (h : Ra n0 A O0 w0 s σ φ a w) {τ : Ty} {xs : List (Int × T τ)} {n : Int} {ok : Bool} {cv : List Value} (hv : Ka w (OO O0 s φ) τ ((Aj xs n).getD (zT τ)) cv)
 (hrun : (execOp a.eval o).run P w = .ok (.value (if ok then .tuple #[Bd τ cv, .bool (Aj xs n).isSome] else Bd τ cv)) w)
 (he : Qx xs n ok (fun d u => Kf s o.dst d u k) = some out) : o.wp P a w (Zd n0 A O0 w0 k out) Q := by
 have h1 : Ae w (OO O0 s φ) s.heap σ (.t τ ((Aj xs n).getD (zT τ))) (Bd τ cv) := by
  rw [Oo]
  exact QH (d := .t τ ((Aj xs n).getD (zT τ))) (by simp [Ab]) hv
 unfold Qx at he
 cases ok with
 | true =>
  simp only [y3] at he
  refine Jb hrun (Sb h ?_ he)
  simp only [if_true]
  refine ⟨#[Bd τ cv, .bool (Aj xs n).isSome], rfl, h1, ?_, trivial⟩
  simp [Ae, D.isAgg, Wa, Ka]
 | false =>
  simp only [y8] at he
  refine Jb hrun (Sb h ?_ he)
  exact Rm h1
theorem Z6 {kk : IntKind} {t kt et : TypeId} {e : Ty} {xs : List (Int × List (T e))} {v : Value} {F : List Nat} (ht : P.underlying t = some (.map kt et)) (hk : P.underlying kt = some (.int kk)) (hte : Kc P (.sl e) et = true)
 (ho : Ob w (.mp (.i kk) (.sl e)) xs [v] F) (n : Int) :
 ∃ v1 G, (Instr.lookup t v (.int kk n) true).run P w = .ok (.tuple #[v1, .bool (Aj xs n).isSome]) w ∧ Ob w (.sl e) ((Aj xs n).getD []) [v1] G ∧ G.Sublist F ∧ v1.oneCell' = true := by
 obtain ⟨hc, hx, hF⟩ | ⟨r, es, clk, Fs, hc, hh, hz, hF, hl, hen⟩ := ho
 ·have hx' : xs = [] := hx
  subst hx'
  simp only [yg, and_true] at hc
  subst hc
  refine ⟨.slice none 0 0, [], ?_, ?_, List.nil_sublist _, rfl⟩
  ·have := EG (P := P) (w := w) ht hk hte n true
   simpa [Bd, Ty.zc, Aj] using this
  ·exact ⟨by simp [Aj], .inl ⟨rfl, rfl, rfl⟩⟩
 ·simp only [yg, and_true] at hc
  subst hc
  have hE : Il w (fun _ => False) (.i kk) (.sl e) xs es := ⟨hz, fun i hi => by
   obtain ⟨en, ck, cv, g1, g2, g3, g4, g5⟩ := hen i hi
   exact ⟨en, ck, cv, g1, g2, g3, g4.view (fun _ _ h => h), g5.view (fun _ _ h => h)⟩⟩
  have hg : (getObj r).run P w = .ok (.map es clk) w := by simp [getObj, Sem.run, hh]
  have hf := Un (P := P) hk hE n w
  have hck := Ak (P := P) hk es.isEmpty n w
  rw [FR]
  cases hm : Tv xs n with
  | none =>
   rw [hm] at hf
   refine ⟨.slice none 0 0, [], ?_, ⟨by simp, .inl ⟨rfl, rfl, rfl⟩⟩, List.nil_sublist _, rfl⟩
   have hzt := Tok.zero (P := P) hte
   simp [Instr.lookup, run_underlying ht, hg, hck, hf, hzt, Ty.zc, Sc, Ty.isAgg]
  | some i =>
   obtain ⟨hi, _⟩ := XP hm
   obtain ⟨en, ck, cv, g1, g2, g3, g4, g5⟩ := hen i hi
   have hlen := Ob.length g5
   simp only [Ty.size] at hlen
   obtain ⟨v1, rfl⟩ := q8.1 hlen
   have hval : en.val = v1 := by rw [g3]; rfl
   rw [hm] at hf
   simp only [jb, g1, qc] at hf
   refine ⟨v1, Fs.getD i [], ?_, ?_, ?_, g5.one v1 (by simp)⟩
   ·simp [Instr.lookup, run_underlying ht, hg, hck, hf, hval, je hi]
   ·have : (((some i : Option Nat).bind fun i => (xs[i]?).map (·.2)).getD ([] : List (T e))) = (List.get xs ⟨i, hi⟩).2 := by
     simp [je hi]
    rw [this]
    exact g5
   ·rw [hF]
    refine List.Sublist.cons _ ?_
    have : Fs.getD i [] ∈ Fs := by
     rw [qg, je (by rw [hl]; exact hi)]
     exact qi _
    exact List.sublist_flatten_of_mem this
theorem Nag (h : Ra n0 A O0 w0 s σ φ a w) {id : Nat} {κ τ : Ty} {xs : List (T κ × T τ)} (hid : s.heap id = some (.mp κ τ xs)) {t kt et : TypeId} (hu : P.underlying t = some (.map kt et)) (hk : Kc P κ kt = true) (hkb : Kr κ = true)
 {n : T κ} {y : T τ} {cn cv : List Value} (hnv : Ka w (OO O0 s φ) κ n cn) (hyv : Ka w (OO O0 s φ) τ y cv) :
 ∃ w', (Instr.mapUpdate t (σ id) (Bd κ cn) (Bd τ cv)).run P w = .ok () w' ∧ Ra n0 A O0 w0 ⟨s.n, s.tm, (id, some (.mp κ τ (Gk κ xs n y))) :: s.hp⟩ σ (Kg φ id (φ id)) a w' := by
 obtain ⟨r, es, clk, hσ, hh, hF, hz, hen⟩ := h.hp id _ hid
 have hE : Il w (OO O0 s φ) κ τ xs es := ⟨hz, hen⟩
 obtain ⟨es', clk', hE', hrun⟩ := N8 (P := P) hE hk hkb hnv hyv clk
 have hrlt : r < w.heap.size := (Array.getElem?_eq_some_iff.1 hh).1
 have hOr : OO O0 s φ r := .inr ⟨id, _, hid, by rw [hF]; simp⟩
 have hne : ∀ b, b ≠ r → (w.heap.setIfInBounds r (.map es' clk'))[b]? = w.heap[b]? := fun b hb => by
  rw [Array.getElem?_setIfInBounds, if_neg (fun e => hb e.symm)]
 refine ⟨{ w with heap := w.heap.setIfInBounds r (.map es' clk') }, by rw [hσ]; exact hrun t et r hu hh, ?_⟩
 exact h.turn (w' := { w with heap := w.heap.setIfInBounds r (.map es' clk') }) hid (Da := .mp κ τ (Gk κ xs n y)) ⟨rfl, rfl⟩ [] (by simp) (by simp) (φ id) (by simp)
  (fun b _ hb _ => hne b (fun e => hb (by rw [hF, e]; simp))) rfl rfl rfl (h.nodup id _ hid) (fun b hb => .inr (.inl hb))
  (by
   intro hp' O' hO _
   refine ⟨r, es', clk', hσ, ?_, hF, ?_⟩
   ·show (w.heap.setIfInBounds r (.map es' clk'))[r]? = _
    rw [Array.getElem?_setIfInBounds]; simp [hrlt]
   ·exact CF (fun b hb hlt => hne b (fun e => hb (e ▸ hOr))) hO hE')
theorem N7 {s : AS} : ∀ {d : D} {τ : Ty} {x : T τ}, Va s d τ = some x → ∀ j, j ∈ d.owns → ∃ Da, s.heap j = some Da ∧ Da.isM = false := by
 intro d
 induction d with
 | own id =>
  intro τ x h j hj
  simp only [D.owns, qd] at hj
  subst hj
  cases τ with
  | sl e =>
   simp only [Va] at h
   split at h
   ·rename_i hb; exact ⟨_, hb, rfl⟩
   ·rename_i hb; exact ⟨_, hb, rfl⟩
   ·simp at h
  | _ => simp [Va] at h
 | pr a b iha ihb =>
  intro τ x h j hj
  cases τ with
  | p t1 t2 =>
   simp only [Va] at h
   split at h
   ·rename_i u v hu hv
    simp only [D.owns, jm] at hj
    rcases hj with hj | hj
    ·exact iha hu j hj
    ·exact ihb hv j hj
   ·simp at h
  | _ => simp [Va] at h
 | _ => intro τ x h j hj; simp [D.owns] at hj
theorem CQ (hG : EnvTy P G) (hfz : OC G A O0) (h : Ra n0 A O0 w0 s σ φ a w) {t : TypeId} {m x v : Operand} (ho : o.op = .mapUpdate t m x v ∨ o.op = .insert t m x v)
 (he : Uj G s t m x v (fun d u => Kf s o.dst d u k) = some out) : o.wp P a w (Zd n0 A O0 w0 k out) Q := by
 unfold Uj at he
 split at he
 ·rename_i κ τ id dx d hty hm hx hv
  split at he
  ·rename_i κ3 τ3 xs hid
   split at he
   ·rename_i q1 q2 n y hq1 hq2 hxn hyn
    obtain rfl := Pc hq1
    obtain rfl := Pc hq2
    cases hkb : Kr κ && (!d.hasOwn || ((G.fz && !Dq G.att) && d.noCut)) with
    | false => rw [hkb] at he; simp at he
    | true =>
     rw [hkb] at he
     simp only [y3] at he
     simp only [jd] at hkb
     obtain ⟨hkb, hoc⟩ := hkb
     obtain ⟨kt, et, hu, hk, hte⟩ := Tok.mp (hG.ty _ _ hty)
     obtain ⟨hnv, hnn⟩ := RL hxn (h.ev hx)
     have hmv := (Qo.1 (h.ev hm)).2 _ hid rfl
     cases hown : d.hasOwn with
     | false =>
      rw [hown] at he
      simp only [Bool.not_false, y3] at he
      obtain ⟨hyv, hvv⟩ := RL (LB hown hyn) (h.ev hv)
      obtain ⟨w', hrun, hc⟩ := Nag (P := P) h hid hu hk hkb hnv hyv
      refine Fv (w' := w') ?_ (Hd (upd := [(id, some (.mp κ τ (Gk κ xs n y)))]) rfl hc (Ro.2 rfl) he)
      rw [← hvv, ← hnn, ← hmv] at hrun
      rcases ho with ho | ho <;> simp [execOp, ho, hrun]
     | true =>
      rw [hown] at he hoc
      simp only [jg, y8] at he
      simp only [jg, yr, jd, yj] at hoc
      obtain ⟨hr, hvv⟩ := Kd (Es hyn) (h.ev hv)
      have hyv := QQ (noA (hfz hoc.1.1) (by rw [hoc.1.2]; rfl) h) h (L := d.owns) hyn hr hoc.2 fun j hj => hj
      have h2 := h.drop d.owns
      have hO : ∀ b, OO O0 ⟨s.n, s.tm, Ub d.owns ++ s.hp⟩ φ b → OO O0 s φ b := fun b hb => by
       rcases JF hb with hb | ⟨j, Da, _, hl, hm⟩
       ·exact .inl hb
       ·exact .inr ⟨j, Da, hl, hm⟩
      have hidl : id ∉ d.owns := fun hj => by
       obtain ⟨Da, hb, hM⟩ := N7 hyn id hj
       rw [hid] at hb
       simp only [jc] at hb
       subst hb
       simp [Ja.isM] at hM
      have hid2 : AS.heap ⟨s.n, s.tm, Ub d.owns ++ s.hp⟩ id = some (.mp κ τ xs) := by
       simp only [AS.heap, Kl, if_neg hidl]
       exact hid
      obtain ⟨w', hrun, hc⟩ := Nag (P := P) h2 hid2 hu hk hkb (hnv.weaken hO) hyv
      refine Fv (w' := w') ?_ (Hd (upd := (id, some (.mp κ τ (Gk κ xs n y))) :: Ub d.owns) (s₁ := ⟨s.n, s.tm, (id, some (.mp κ τ (Gk κ xs n y))) :: (Ub d.owns ++ s.hp)⟩) rfl hc (Ro.2 rfl) he)
      rw [Oo τ, ← hvv, ← hnn, ← hmv] at hrun
      rcases ho with ho | ho <;> simp [execOp, ho, hrun]
   ·simp at he
  ·simp at he
 ·simp at he
theorem X6 (hG : EnvTy P G) (h : Ra n0 A O0 w0 s σ φ a w) {t : TypeId} {m x : Operand} {ok : Bool} (ho : o.op = .lookup t m x ok)
 (he : Mn G s t m x ok (fun d u => Kf s o.dst d u k) = some out) : o.wp P a w (Zd n0 A O0 w0 k out) Q := by
 unfold Mn at he
 split at he
 ·rename_i κ τ id dx hty hm hx
  split at he
  ·rename_i κ3 τ3 xs hid
   split at he
   ·rename_i q1 q2 n hq1 hq2 hxn
    obtain rfl := Pc hq1
    obtain rfl := Pc hq2
    cases hkb : Kr κ with
    | false => simp [hkb] at he
    | true =>
     simp only [hkb, y3] at he
     obtain ⟨kt, et, hu, hk, hte⟩ := Tok.mp (hG.ty _ _ hty)
     obtain ⟨r, es, clk, hσ, hh, hF, hz, hen⟩ := h.hp id _ hid
     have hE : Il w (OO O0 s φ) κ τ xs es := ⟨hz, hen⟩
     obtain ⟨hnv, hnn⟩ := RL hxn (h.ev hx)
     have hmv := (Qo.1 (h.ev hm)).2 _ hid rfl
     rw [hσ] at hmv
     obtain ⟨cv, hcv, hrun⟩ := WY (P := P) hu hk hkb hte hh hE hnv ok
     have hex : (execOp a.eval o).run P w = .ok (.value (if ok then .tuple #[Bd τ cv, .bool (Ge κ xs n).isSome] else Bd τ cv)) w := by
      rw [← hnn] at hrun
      simp [execOp, ho, hmv, hrun]
     have h1 : Ae w (OO O0 s φ) s.heap σ (.t τ ((Ge κ xs n).getD (zT τ))) (Bd τ cv) := by
      rw [Oo]
      exact QH (d := .t τ ((Ge κ xs n).getD (zT τ))) (by simp [Ab]) hcv
     unfold RM at he
     cases ok with
     | true =>
      simp only [y3] at he
      refine Jb hex (Sb h ?_ he)
      simp only [if_true]
      refine ⟨#[Bd τ cv, .bool (Ge κ xs n).isSome], rfl, h1, ?_, trivial⟩
      simp [Ae, D.isAgg, Wa, Ka]
     | false =>
      simp only [y8] at he
      refine Jb hex (Sb h ?_ he)
      exact Rm h1
   ·simp at he
  ·simp at he
 ·simp at he
theorem Laa (hG : EnvTy P G) (h : Ra n0 A O0 w0 s σ φ a w) {t : TypeId} {m x : Operand} {ok : Bool} (ho : o.op = .lookup t m x ok)
 (he : Xi G s o (fun d u => Kf s o.dst d u k) = some out) : o.wp P a w (Zd n0 A O0 w0 k out) Q := by
 simp only [Xi, ho] at he
 cases hka : s.kAgg x with
 | true => rw [hka] at he; simp only [y3] at he; exact X6 hG h ho he
 | false =>
 rw [hka] at he
 simp only [y8] at he
 split at he
 ·rename_i kk τ id k2 n hty hm hx
  split at he
  ·rename_i k3 τ3 xs hid
   split at he
   ·rename_i hdec
    obtain rfl := Pc hdec
    cases hkk : (kk == k2) && (kk == k3) with
    | false => simp [hkk] at he
    | true =>
     simp only [hkk, y3] at he
     simp only [jd, beq_iff_eq] at hkk
     obtain ⟨rfl, rfl⟩ := hkk
     obtain ⟨kt, et, hu, hk, hte⟩ := Tok.mp (hG.ty _ _ hty)
     obtain ⟨r, es, clk, hσ, hh, hF, hz, hen⟩ := h.hp id _ hid
     have hmv := (Qo.1 (h.ev hm)).2 _ hid rfl
     rw [hσ] at hmv
     have hxv := Xd.1 (h.ev hx)
     obtain ⟨cv, g1, g2⟩ := Yz (P := P) hu (Tok.i hk) hte hh (O := OO O0 s φ) (xs := xs) ⟨hz, hen⟩ n ok
     refine EH h g1 ?_ he
     simp [execOp, ho, hmv, hxv, g2]
   ·simp at he
  ·rename_i k3 e xs hid
   split at he
   ·rename_i hdec
    obtain rfl := Pc hdec
    cases hkk : (kk == k2) && (kk == k3) with
    | false => simp [hkk] at he
    | true =>
     simp only [hkk, y3] at he
     simp only [jd, beq_iff_eq] at hkk
     obtain ⟨rfl, rfl⟩ := hkk
     obtain ⟨kt, et, hu, hk, hte⟩ := Tok.mp (hG.ty _ _ hty)
     obtain ⟨r, es, clk, Gs, hσ, hh, hz, hGl, hGn, hGo, hen⟩ := h.shr id _ _ _ hid
     have hmv := (Qo.1 (h.ev hm)).2 _ hid rfl
     rw [hσ] at hmv
     have hxv := Xd.1 (h.ev hx)
     obtain ⟨cv, g1, g2⟩ := Yz (P := P) hu (Tok.i hk) hte hh (O := OO O0 s φ) (τ := .sl e) (xs := xs) (OY hz (fun b hb => (hGo b hb).2) hen) n ok
     refine EH h g1 ?_ he
     simp [execOp, ho, hmv, hxv, g2]
   ·simp at he
  ·rename_i k3 e xs hid
   split at he
   ·rename_i hdec
    obtain rfl := Pc hdec
    cases hkk : (kk == k2) && ((kk == k3) && (ok && ZC G o.dst)) && s.newOk (100000 + 64 * o.dst.getD 0) with
    | false => simp [hkk] at he
    | true =>
     simp only [hkk, y3] at he
     simp only [jd, beq_iff_eq] at hkk
     obtain ⟨⟨rfl, rfl, rfl, _⟩, hnew⟩ := hkk
     generalize 100000 + 64 * o.dst.getD 0 = j at he hnew
     obtain ⟨kt, et, hu, hk, hte⟩ := Tok.mp (hG.ty _ _ hty)
     have hown : Ob w (.mp (.i kk) (.sl e)) xs [σ id] (φ id) := h.hp id _ hid
     have hnd := h.nodup id _ hid
     have hmv := (Qo.1 (h.ev hm)).2 _ hid rfl
     have hxv := Xd.1 (h.ev hx)
     obtain ⟨v1, F, h1, h2, h3, h4⟩ := Z6 (P := P) hu (Tok.i hk) hte hown n
     have hFn : F.Nodup := h3.nodup hnd
     have hc := h.absorb (w' := w) hnew [id] (by intro j' hj'; simp only [qd] at hj'; subst hj'; exact ⟨_, hid⟩) (.row e true ((Aj xs n).getD [])) v1 F (jp _) (fun _ _ _ => rfl) rfl rfl rfl hFn
      (fun b hb => .inr ⟨id, by simp, h3.subset hb⟩)
      (by
       intro hp' σ' O' hσ' _
       simp only [Ec]
       rw [hσ']
       exact h2)
     refine Jb (w' := w) (v := .tuple #[v1, .bool (Aj xs n).isSome]) ?_ (Hd (upd := [(j, some (.row e true ((Aj xs n).getD []))), (id, none)]) rfl hc ?_ he)
     ·simp [execOp, ho, hmv, hxv, h1]
     ·refine ⟨_, rfl, ?_, ?_, trivial⟩
      ·exact ⟨v1, rfl, h4, fun Da r hb hr => by
        rw [Ld]⟩
      ·simp [Ae, D.isAgg, Wa, Ka]
   ·simp at he
  ·simp at he
 ·rename_i kk τ k3 τ3 xs k2 n hty hm hx
  split at he
  ·rename_i hdec
   obtain rfl := Pc hdec
   cases hkk : (kk == k2) && (kk == k3) with
   | false => simp [hkk] at he
   | true =>
    simp only [hkk, y3] at he
    simp only [jd, beq_iff_eq] at hkk
    obtain ⟨rfl, rfl⟩ := hkk
    obtain ⟨kt, et, hu, hk, hte⟩ := Tok.mp (hG.ty _ _ hty)
    have hxv := Xd.1 (h.ev hx)
    have hmv : Ka w (OO O0 s φ) (.mp (.i kk) τ) xs [a.eval m] := by
     have := h.ev hm
     simpa [Nc, Ae, D.isAgg, Wa] using this
    obtain ⟨hc, hxs⟩ | ⟨r, es, clk, hc, hO, hh, hz, hen⟩ := hmv
    ·simp only [yg, and_true] at hc
     have hxs' : xs = ([] : List (Int × T τ)) := hxs
     refine EH h (cv := τ.zc) ?_ ?_ he
     ·rw [hxs']; exact (BO w τ).view (by simp)
     ·rw [hxs']
      simp [execOp, ho, hc, hxv, EG (P := P) (w := w) hu (Tok.i hk) hte n ok, Aj]
    ·simp only [yg, and_true] at hc
     obtain ⟨cv, g1, g2⟩ := Yz (P := P) hu (Tok.i hk) hte hh (O := OO O0 s φ) (xs := xs) ⟨hz, hen⟩ n ok
     refine EH h g1 ?_ he
     simp [execOp, ho, hc, hxv, g2]
  ·simp at he
 ·simp at he
theorem C0 (hG : Ui P A.I G) (hfz : OC G A O0) (h : Ra n0 A O0 w0 s σ φ a w) (he : VI G s o k = some out) : o.wp P a w (Zd n0 A O0 w0 k out) Q := by
 have hT := hG.toEnvTy
 unfold VI at he
 cases hb : Oy o.op with
 | false => rw [hb] at he; exact Fal hG hfz h he
 | true =>
  rw [hb] at he
  simp only [y3] at he
  cases ho : o.op with
  | makeMap t r => exact Y6 h ho he
  | lookup t m x ok => exact Laa hT h ho he
  | mapUpdate t m x v =>
   simp only [Xi, ho] at he
   cases hka : s.kAgg x with
   | true => rw [hka] at he; simp only [y3] at he; exact CQ hT hfz h (.inl ho) he
   | false =>
   rw [hka] at he
   simp only [y8] at he
   cases hq : s.isMq m with
   | true => rw [hq] at he; exact BQ hT hfz h (.inl ho) he
   | false => rw [hq] at he; exact HT hT h (.inl ho) he
  | insert t m x v =>
   simp only [Xi, ho] at he
   cases hka : s.kAgg x with
   | true => rw [hka] at he; simp only [y3] at he; exact CQ hT hfz h (.inr ho) he
   | false =>
   rw [hka] at he
   simp only [y8] at he
   cases hq : s.isMq m with
   | true => rw [hq] at he; exact BQ hT hfz h (.inr ho) he
   | false => rw [hq] at he; exact HT hT h (.inr ho) he
  | _ => simp [Oy, ho] at hb
end
def Yj (dst : Option Tmp) (id : Nat) : Prop := dst = some id ∨ (100000 + 64 * dst.getD 0 ≤ id ∧ id < 100064 + 64 * dst.getD 0)
def Ja.kind : Ja → Option Ty × Option (Ty × Nat)
 | .box ρ _ => (some ρ, none)
 | .row e _ xs => (none, some (e, ja xs))
 | .hol e xs _ _ _ _ _ => (none, some (e, ja xs))
 | .mov e xs _ => (none, some (e, ja xs))
 | .mp _ _ _ => (none, none)
 | .mq _ _ _ => (none, none)
 | .mx _ _ _ => (none, none)
 | .fz e xs => (none, some (e, ja xs))
theorem Ja.kind_rowN {b : Ja} : b.rowN = b.kind.2 := by cases b <;> rfl
theorem kind_rowN {a b : Option Ja} (h : a.map Ja.kind = b.map Ja.kind) : a.bind Ja.rowN = b.bind Ja.rowN := by
 cases a <;> cases b <;> simp at h ⊢
 rw [Ja.kind_rowN, Ja.kind_rowN, h]
theorem VX {a b : Option Ja} (h : a.map Ja.kind = b.map Ja.kind) : ∀ ρ, (∃ d, a = some (.box ρ d)) ↔ ∃ d, b = some (.box ρ d) := by
 intro ρ
 cases a with
 | none => cases b with
  | none => simp
  | some b => simp at h
 | some a => cases b with
  | none => simp at h
  | some b =>
   simp only [qc, jc] at h
   cases a <;> cases b <;> simp [Ja.kind] at h ⊢
   rw [h]
structure BS (s s' : AS) (o : Oper) : Prop where
 ev : ∀ x, x ∈ Wb o.op → s'.ev x = s.ev x
 hp : Sx o.op = false → Xg o.op = false → ∀ x, x ∈ Wb o.op → ∀ d, s.ev x = some d → ∀ id, d.ment id = true → s'.heap id = s.heap id
 sh : Xg o.op = true → ∀ x, x ∈ Wb o.op → ∀ d, s.ev x = some d → ∀ id, d.ment id = true → (s'.heap id).map Ja.kind = (s.heap id).map Ja.kind
 nw : ∀ id, Yj o.dst id → s'.newOk id = s.newOk id
 bx : Tz o.op = true → Xg o.op = false → ∀ x, x ∈ Wb o.op → ∀ bid p, s.ev x = some (.ptr bid p) → ∀ ρ d, s.heap bid = some (.box ρ d) → ∀ id, d.ment id = true → s'.heap id = s.heap id
def Xh (s s' : AS) (d : D) : Prop := ∀ id, d.ment id = true → s'.heap id = s.heap id
section
variable {s s' : AS} {G : Qd} {o : Oper} {Out : Type}
theorem Xh.left {a b : D} (h : Xh s s' (.pr a b)) : Xh s s' a := fun id hi => h id (by simp [D.ment, hi])
theorem Xh.right {a b : D} (h : Xh s s' (.pr a b)) : Xh s s' b := fun id hi => h id (by simp [D.ment, hi])
theorem Xh.mpo {id : Nat} (h : Xh s s' (.mpo id)) : s'.heap id = s.heap id := h id (by simp [D.ment])
theorem Xh.own {id : Nat} (h : Xh s s' (.own id)) : s'.heap id = s.heap id := h id (by simp [D.ment])
theorem Xh.cut {id lo hi : Nat} (h : Xh s s' (.cut id lo hi)) : s'.heap id = s.heap id := h id (by simp [D.ment])
theorem Xh.ptr {id : Nat} {p : List Nat} (h : Xh s s' (.ptr id p)) : s'.heap id = s.heap id := h id (by simp [D.ment])
theorem Xh.eptr {id i : Nat} {p : List Nat} (h : Xh s s' (.eptr id i p)) : s'.heap id = s.heap id := h id (by simp [D.ment])
theorem Ds : ∀ {d : D} {τ : Ty}, Xh s s' d → Va s' d τ = Va s d τ := by
 intro d
 induction d with
 | pr a b iha ihb =>
  intro τ h
  cases τ with
  | p x y => simp only [Va, iha h.left, ihb h.right]
  | _ => rfl
 | own id => intro τ h; cases τ <;> simp [Va, h.own]
 | cut id lo hi => intro τ h; cases τ <;> simp [Va, h.cut]
 | _ => intro τ h; cases τ <;> rfl
theorem Zq : ∀ {d : D} {τ : Ty}, Xh s s' d → Lb s' d τ = Lb s d τ := by
 intro d
 induction d with
 | pr a b iha ihb =>
  intro τ h
  cases τ with
  | p x y => simp only [Lb, iha h.left, ihb h.right]
  | _ => rfl
 | own id => intro τ h; cases τ <;> simp [Lb, h.own]
 | mpo id => intro τ h; cases τ <;> simp [Lb, h.mpo]
 | _ => intro τ h; cases τ <;> rfl
theorem Au : ∀ {l : List Operand}, (∀ x, x ∈ l → s'.ev x = s.ev x) → Zl s' l = Zl s l
 | [], _ => rfl
 | x :: r, h => by simp only [Zl, h x (by simp), Au fun y hy => h y (js _ hy)]
theorem UC : ∀ {l : List Operand} {d : D}, Zl s l = some d → (∀ x, x ∈ l → ∀ d, s.ev x = some d → Xh s s' d) → Xh s s' d
 | [], d, h, _ => by
  simp only [Zl, jc] at h
  subst h
  intro id hi; simp [D.ment] at hi
 | x :: r, d, h, ha => by
  simp only [Zl] at h
  split at h
  ·rename_i d1 d2 h1 h2
   simp only [jc] at h
   subst h
   intro id hi
   simp only [D.ment, qw] at hi
   rcases hi with hi | hi
   ·exact ha x (by simp) d1 h1 id hi
   ·exact UC h2 (fun y hy => ha y (js _ hy)) id hi
  ·simp at h
theorem EM {τ : Ty} : ∀ {ps : List (Nat × Operand)} {d : D}, (∀ x, x ∈ ps.map (·.2) → s'.ev x = s.ev x) → AE s' τ d ps = AE s τ d ps
 | [], _, _ => rfl
 | (i, x) :: r, d, h => by
  simp only [AE, h x (by simp)]
  split
  ·rename_i e τ' _ _
   cases Zb τ' e with
   | false => rfl
   | true =>
    simp only [y3]
    split
    ·exact EM fun y hy => h y (js _ hy)
    ·rfl
  ·rfl
theorem TP {e : Ty} : ∀ {ps : List (Nat × Operand)} {n : Nat}, (∀ x, x ∈ ps.map (·.2) → s'.ev x = s.ev x) → (∀ x, x ∈ ps.map (·.2) → ∀ d, s.ev x = some d → Xh s s' d) → VJ s' e n ps = VJ s e n ps
 | [], _, _, _ => rfl
 | (i, x) :: r, n, h, ha => by
  have ih := TP (e := e) (ps := r) (n := n + 1) (fun y hy => h y (js _ hy)) (fun y hy => ha y (js _ hy))
  simp only [VJ, h x (by simp)]
  cases qv i n with
  | false => rfl
  | true =>
   simp only [y3]
   cases hx : s.ev x with
   | none => rfl
   | some d => simp only [Zq (ha x (by simp) d hx), ih]
theorem IM {e : Ty} : ∀ {ps : List (Nat × Operand)} {n : Nat}, (∀ x, x ∈ ps.map (·.2) → s'.ev x = s.ev x) → IE s' e n ps = IE s e n ps
 | [], _, _ => rfl
 | (i, x) :: r, n, h => by
  have ih := IM (e := e) (ps := r) (n := n + 1) (fun y hy => h y (js _ hy))
  simp only [IE, h x (by simp), ih]
theorem Caa {x : Option Operand} (h : ∀ y, x = some y → s'.ev y = s.ev y) : XF s' x = XF s x := by
 cases x with
 | none => rfl
 | some y => simp only [XF, h y rfl]
theorem T8 {x : Option Operand} {n : Nat} (h : ∀ y, x = some y → s'.ev y = s.ev y) : MJ s' n x = MJ s n x := by
 cases x with
 | none => rfl
 | some y => simp only [MJ, h y rfl]
theorem YH {e : Ty} {d : D} (h : Xh s s' d) : JD s' e d = JD s e d := by
 cases d with
 | own id => simp only [JD, h.own]
 | cut id lo hi => simp only [JD, h.cut]
 | t τ x => cases τ <;> rfl
 | _ => rfl
theorem F6 {e : Ty} {d : D} (h : Xh s s' d) : XM s' e d = XM s e d := by
 cases d with
 | own id => simp only [XM, h.own]
 | cut id lo hi => simp only [XM, h.cut]
 | _ => rfl
theorem Qz {u : List (Nat × Option Ja)} (h : ∀ p, p ∈ u → s'.newOk p.1 = s.newOk p.1) : Dd s' u = Dd s u := by
 unfold Dd
 congr 1
 induction u with
 | nil => rfl
 | cons p u ih => simp only [List.all_cons, h p (by simp), ih fun q hq => h q (js _ hq)]
theorem DB : ∀ {τ : Ty} {x : T τ} {n m : Nat} {d : D} {l : List (Nat × Option Ja)}, Od τ x n = (d, l, m) → n ≤ m ∧ ∀ p, p ∈ l → n ≤ p.1 ∧ p.1 < m
 | .i k, x, n, m, d, l, he => by simp only [Od, jh] at he; obtain ⟨rfl, rfl, rfl⟩ := he; simp
 | .b, x, n, m, d, l, he => by simp only [Od, jh] at he; obtain ⟨rfl, rfl, rfl⟩ := he; simp
 | .o, x, n, m, d, l, he => by simp only [Od, jh] at he; obtain ⟨rfl, rfl, rfl⟩ := he; simp
 | .mp _ _, x, n, m, d, l, he => by simp only [Od, jh] at he; obtain ⟨rfl, rfl, rfl⟩ := he; simp
 | .s, x, n, m, d, l, he => by simp only [Od, jh] at he; obtain ⟨rfl, rfl, rfl⟩ := he; simp
 | .u, x, n, m, d, l, he => by simp only [Od, jh] at he; obtain ⟨rfl, rfl, rfl⟩ := he; simp
 | .sl e, x, n, m, d, l, he => by simp only [Od, jh] at he; obtain ⟨rfl, rfl, rfl⟩ := he; simp
 | .p t1 t2, x, n, m, d, l, he => by
  simp only [Od] at he
  rcases ho1 : Od t1 x.1 n with ⟨d1, l1, m1⟩
  rcases ho2 : Od t2 x.2 m1 with ⟨d2, l2, m2⟩
  rw [ho1] at he
  simp only at he
  rw [ho2] at he
  simp only [jh] at he
  obtain ⟨rfl, rfl, rfl⟩ := he
  have a := DB ho1
  have b := DB ho2
  refine ⟨by omega, fun p hp => ?_⟩
  rcases jm.1 hp with hp | hp
  ·have := a.2 p hp; omega
  ·have := b.2 p hp; omega
theorem ZJ : ∀ {rt : Ty} {r : T rt} {fr : List Bool} {n m : Nat} {d : D} {l : List (Nat × Option Ja)}, Gf rt r fr n = some (d, l, m) → n ≤ m ∧ ∀ p, p ∈ l → n ≤ p.1 ∧ p.1 < m
 | .u, r, [], n, m, d, l, he => by simp only [Gf, jc, jh] at he; obtain ⟨rfl, rfl, rfl⟩ := he; simp
 | .p t1 t2, r, f :: fr, n, m, d, l, he => by
  simp only [Gf] at he
  rcases ho1 : (bif f then Od t1 r.1 n else (.t t1 r.1, [], n)) with ⟨d1, l1, m1⟩
  rw [ho1] at he
  simp only at he
  split at he
  ·rename_i d2 l2 m2 ho2
   simp only [jc, jh] at he
   obtain ⟨rfl, rfl, rfl⟩ := he
   have b := ZJ ho2
   have a : n ≤ m1 ∧ ∀ p, p ∈ l1 → n ≤ p.1 ∧ p.1 < m1 := by
    cases f with
    | true => exact DB (by simpa using ho1)
    | false =>
     simp only [y8, jh] at ho1
     obtain ⟨rfl, rfl, rfl⟩ := ho1
     simp
   refine ⟨by omega, fun p hp => ?_⟩
   rcases jm.1 hp with hp | hp
   ·have := a.2 p hp; omega
   ·have := b.2 p hp; omega
  ·simp at he
 | .u, _, _ :: _, _, _, _, _, he => by simp [Gf] at he
 | .p _ _, _, [], _, _, _, _, he => by simp [Gf] at he
 | .i _, _, fr, _, _, _, _, he => by cases fr <;> simp [Gf] at he
 | .b, _, fr, _, _, _, _, he => by cases fr <;> simp [Gf] at he
 | .o, _, fr, _, _, _, _, he => by cases fr <;> simp [Gf] at he
 | .mp _ _, _, fr, _, _, _, _, he => by cases fr <;> simp [Gf] at he
 | .s, _, fr, _, _, _, _, he => by cases fr <;> simp [Gf] at he
 | .sl _, _, fr, _, _, _, _, he => by cases fr <;> simp [Gf] at he
theorem DH {dst : Option Tmp} {u : List (Nat × Option Ja)} {rt : Ty} {r : T rt} {fr : List Bool} {m : Nat} {d : D} (hop : Gf rt r fr (100000 + 64 * dst.getD 0) = some (d, u, m)) (hn : ∀ id, Yj dst id → s'.newOk id = s.newOk id) :
 (jy m (100064 + 64 * dst.getD 0) && Dd s' u) = (jy m (100064 + 64 * dst.getD 0) && Dd s u) := by
 cases hb : jy m (100064 + 64 * dst.getD 0) with
 | false => rfl
 | true =>
  have hle := qz hb
  rw [jl, jl]
  refine Qz fun p hp => hn p.1 (.inr ?_)
  have := (ZJ hop).2 p hp
  exact ⟨this.1, by omega⟩
theorem LZ {dst : Option Tmp} {vw : Bool} {τ : Ty} {y : T τ} {u v : List (Nat × Option Ja)} {rt : Ty} {r : T rt} {fr : List Bool} {m m' : Nat} {d e : D} (hop : Gf rt r fr (100000 + 64 * dst.getD 0) = some (d, u, m))
 (hev : (bif vw then (D.t τ y, [], m) else Od τ y m) = (e, v, m')) (hn : ∀ id, Yj dst id → s'.newOk id = s.newOk id) :
 (jy m' (100064 + 64 * dst.getD 0) && Dd s' (u ++ v)) = (jy m' (100064 + 64 * dst.getD 0) && Dd s (u ++ v)) := by
 cases hb : jy m' (100064 + 64 * dst.getD 0) with
 | false => rfl
 | true =>
  have hle := qz hb
  rw [jl, jl]
  refine Qz fun p hp => hn p.1 (.inr ?_)
  have h1 := ZJ hop
  have h2 : m ≤ m' ∧ ∀ p, p ∈ v → m ≤ p.1 ∧ p.1 < m' := by
   cases vw with
   | true =>
    simp only [y3, jh] at hev
    obtain ⟨_, rfl, rfl⟩ := hev
    exact ⟨jp _, by simp⟩
   | false =>
    simp only [y8] at hev
    exact DB hev
  rcases jm.1 hp with hp | hp
  ·have := h1.2 p hp; have h3 := h2.1; exact ⟨this.1, by omega⟩
  ·have h4 := h2.2 p hp; have h3 := h1.1; exact ⟨qb h3 h4.1, by omega⟩
theorem BP {dst : Option Tmp} (hn : ∀ id, Yj dst id → s'.newOk id = s.newOk id) (τ : Ty) (y : T τ) :
 (jy (Od τ y (100000 + 64 * dst.getD 0)).2.2 (100064 + 64 * dst.getD 0) && Dd s' (Od τ y (100000 + 64 * dst.getD 0)).2.1) =
  (jy (Od τ y (100000 + 64 * dst.getD 0)).2.2 (100064 + 64 * dst.getD 0) && Dd s (Od τ y (100000 + 64 * dst.getD 0)).2.1) := by
 cases hb : jy (Od τ y (100000 + 64 * dst.getD 0)).2.2 (100064 + 64 * dst.getD 0) with
 | false => rfl
 | true =>
  have hle := qz hb
  rw [jl, jl]
  refine Qz fun p hp => hn p.1 (.inr ?_)
  have := (DB (τ := τ) (x := y) rfl).2 p hp
  exact ⟨this.1, Nat.lt_of_lt_of_le this.2 hle⟩
theorem HW {dst : Option Tmp} {τ : Ty} {id i : Nat} {e : Ty} {xs : List (T e)} {k : Nat} {K : D → List (Nat × Option Ja) → Option Out} (hn : ∀ id, Yj dst id → s'.newOk id = s.newOk id) :
 Mr s' dst τ id i e xs k K = Mr s dst τ id i e xs k K := by
 unfold Mr
 simp only [BP hn]
theorem Gac {d e : D} {id : Nat} (h : d.fst = some e) (hm : e.ment id = true) : d.ment id = true := by
 cases d with
 | t τ x => cases τ <;> simp [D.fst] at h; subst h; simp [D.ment] at hm
 | pr a b => simp only [D.fst, jc] at h; subst h; simp [D.ment, hm]
 | _ => simp [D.fst] at h
theorem Wad {d e : D} {id : Nat} (h : d.snd = some e) (hm : e.ment id = true) : d.ment id = true := by
 cases d with
 | t τ x => cases τ <;> simp [D.snd] at h; subst h; simp [D.ment] at hm
 | pr a b => simp only [D.snd, jc] at h; subst h; simp [D.ment, hm]
 | _ => simp [D.snd] at h
theorem XO : ∀ {n : Nat} {d e : D} {id : Nat}, d.field n = some e → e.ment id = true → d.ment id = true
 | 0, d, e, id, h, hm => Gac (by simpa [D.field] using h) hm
 | n + 1, d, e, id, h, hm => by
  simp only [D.field] at h
  split at h
  ·rename_i y hy
   exact Wad hy (XO h hm)
  ·simp at h
theorem DW {dst : Option Tmp} {f : FuncId} {args : List Operand} {K : D → List (Nat × Option Ja) → Option Out} (hev : ∀ x, x ∈ args → s'.ev x = s.ev x) (hag : ∀ x, x ∈ args → ∀ d, s.ev x = some d → Xh s s' d)
 (hn : ∀ id, Yj dst id → s'.newOk id = s.newOk id) (hbx : ∀ x, x ∈ args → ∀ bid p, s.ev x = some (.ptr bid p) → ∀ ρ d, s.heap bid = some (.box ρ d) → Xh s s' d) : UA G s' dst f args K = UA G s dst f args K := by
 unfold UA
 split
 ·rename_i pt rt fr F _
  rw [Au hev]
  cases hds : Zl s args with
  | none => rfl
  | some ds =>
   simp only []
   rw [Ds (UC hds hag)]
   cases Va s ds pt with
   | none => rfl
   | some x =>
    simp only []
    congr 1
    funext r
    cases hop : Gf rt r fr (100000 + 64 * dst.getD 0) with
    | none => rfl
    | some t =>
     obtain ⟨d, u, m⟩ := t
     simp only []
     cases GD d with
     | none => rfl
     | some d' => simp only [DH hop hn]
 ·rename_i τ pt rt fr F _
  cases args with
  | nil => rfl
  | cons a0 args =>
   simp only []
   rw [hev a0 (by simp), Au fun x hx => hev x (js _ hx)]
   cases h0 : s.ev a0 with
   | none => rfl
   | some d0 =>
    cases hds : Zl s args with
    | none => rfl
    | some ds =>
     simp only []
     rw [Zq (hag a0 (by simp) d0 h0), Ds (UC hds fun x hx => hag x (js _ hx))]
     cases Lb s d0 τ with
     | none => rfl
     | some xl =>
      obtain ⟨x0, l⟩ := xl
      cases Va s ds pt with
      | none => rfl
      | some x =>
       simp only []
       congr 1
       funext r
       cases hop : Gf rt r.2 fr (100000 + 64 * dst.getD 0) with
       | none => rfl
       | some t =>
        obtain ⟨d, u, m⟩ := t
        simp only []
        cases GD d with
        | none => rfl
        | some d' => simp only [DH hop hn]
 ·rename_i pt rt fr F _
  rw [Au hev]
  cases hds : Zl s args with
  | none => rfl
  | some ds =>
   simp only []
   rw [Zq (UC hds hag)]
   cases Lb s ds pt with
   | none => rfl
   | some xl =>
    simp only []
    congr 1
    funext r
    cases hop : Gf rt r fr (100000 + 64 * dst.getD 0) with
    | none => rfl
    | some t =>
     obtain ⟨d, u, m⟩ := t
     simp only []
     cases GD d with
     | none => rfl
     | some d' => simp only [DH hop hn]
 ·rename_i vw cv τ pt rt fr F _
  cases args with
  | nil => rfl
  | cons a0 args =>
   simp only []
   rw [hev a0 (by simp), Au fun x hx => hev x (js _ hx)]
   cases h0 : s.ev a0 with
   | none => rfl
   | some d0 =>
    cases hds : Zl s args with
    | none =>
     cases d0 with
     | ptr bid path => cases path <;> rfl
     | _ => rfl
    | some ds =>
     cases d0 with
     | ptr bid path =>
      cases path with
      | cons _ _ => rfl
      | nil =>
       simp only []
       rw [(hag a0 (by simp) _ h0).ptr]
       cases hb : s.heap bid with
       | none => rfl
       | some Da =>
        cases Da with
        | box τ' d1 =>
         simp only []
         rw [Zq (hbx a0 (by simp) bid [] h0 τ' d1 hb), Zq (UC hds fun x hx => hag x (js _ hx)), Ds (UC hds fun x hx => hag x (js _ hx))]
         split
         ·rename_i x0 l x l2 _ _ _
          congr 1
          funext r
          cases hop : Gf rt r.2 fr (100000 + 64 * dst.getD 0) with
          | none => rfl
          | some t =>
           obtain ⟨d, u, m⟩ := t
           simp only []
           cases GD d with
           | none => rfl
           | some d' =>
            rcases hev2 : (bif vw then (D.t τ r.1, [], m) else Od τ r.1 m) with ⟨e, v, m'⟩
            simp only [LZ hop hev2 hn]
         ·rfl
        | _ => rfl
     | _ => rfl
 ·rename_i pt τ F _
  rw [Au hev]
  cases dst with
  | none => rfl
  | some tt =>
   cases hds : Zl s args with
   | none => rfl
   | some ds =>
    simp only []
    rw [Ds (UC hds hag), hn tt (.inl rfl)]
 ·rename_i τ κ ε pt rt F _
  cases args with
  | nil => rfl
  | cons a0 args =>
   simp only []
   rw [hev a0 (by simp), Au fun x hx => hev x (js _ hx)]
   cases h0 : s.ev a0 with
   | none => rfl
   | some d0 =>
    cases hds : Zl s args with
    | none =>
     cases d0 with
     | ptr bid path => cases path <;> rfl
     | _ => rfl
    | some ds =>
     cases d0 with
     | ptr bid path =>
      cases path with
      | cons _ _ => rfl
      | nil =>
       simp only []
       rw [(hag a0 (by simp) _ h0).ptr]
       cases hb : s.heap bid with
       | none => rfl
       | some Da =>
        cases Da with
        | box ρ d1 =>
         simp only []
         split
         ·rename_i q d2 id x _ _ hf1 _
          rw [hbx a0 (by simp) bid [] h0 ρ d1 hb id (XO hf1 (by simp [D.ment]))]
         ·rfl
        | _ => rfl
     | _ => rfl
 ·rfl
theorem RQ {dst : Option Tmp} {t tx : TypeId} {x y : Operand} {K : D → List (Nat × Option Ja) → Option Out} (hx : s'.ev x = s.ev x) (hy : s'.ev y = s.ev y)
 (ax : ∀ d, s.ev x = some d → Xh s s' d) (ay : ∀ d, s.ev y = some d → Xh s s' d) (hn : ∀ id, Yj dst id → s'.newOk id = s.newOk id) : Vt G s' dst t tx x y K = Vt G s dst t tx x y K := by
 unfold Vt
 rw [hx, hy]
 split
 ·rename_i tt e da db _ h2 h3
  rw [F6 (ax _ h2), YH (ay _ h3), hn tt (.inl rfl)]
 ·rfl
theorem MO {dst : Option Tmp} {t tx : TypeId} {x y : Operand} {K : D → List (Nat × Option Ja) → Option Out} (hx : s'.ev x = s.ev x) (hy : s'.ev y = s.ev y)
 (ax : ∀ d, s.ev x = some d → Xh s s' d) (ay : ∀ d, s.ev y = some d → Xh s s' d) : Cq G s' dst t tx x y K = Cq G s dst t tx x y K := by
 unfold Cq
 rw [hx, hy]
 split
 ·rename_i tt e id db _ h2 h3
  rw [(ax _ h2).own, YH (ay _ h3)]
 ·rfl
theorem GZ {dst : Option Tmp} {t tx : TypeId} {x y : Operand} {K : D → List (Nat × Option Ja) → Option Out} (hx : s'.ev x = s.ev x) (hy : s'.ev y = s.ev y)
 (ax : ∀ d, s.ev x = some d → Xh s s' d) (ay : ∀ d, s.ev y = some d → Xh s s' d) (hn : ∀ id, Yj dst id → s'.newOk id = s.newOk id) : DC G s' dst t tx x y K = DC G s dst t tx x y K := by
 unfold DC
 rw [RQ hx hy ax ay hn, MO hx hy ax ay]
theorem EW {t tx : TypeId} {x y : Operand} {K : D → List (Nat × Option Ja) → Option Out} (hx : s'.ev x = s.ev x) (hy : s'.ev y = s.ev y)
 (ax : ∀ d, s.ev x = some d → Xh s s' d) (ay : ∀ d, s.ev y = some d → Xh s s' d) : VA G s' t tx x y K = VA G s t tx x y K := by
 unfold VA
 rw [hx, hy]
 split
 ·rename_i e id db _ h2 h3
  rw [ax _ h2 id (by simp [D.ment])]
  split
  ·rw [YH (ay _ h3)]
  ·rfl
 ·rfl
theorem V5 {K : D → List (Nat × Option Ja) → Option Out} (h : BS s s' o) : Qb G s' o K = Qb G s o K := by
 obtain ⟨hev, hag, hsh, hn, hbx⟩ := h
 cases hmv : Sx o.op with
 | true =>
  cases ho : o.op with
  | move x => rw [ho] at hev; simp only [Qb, ho, hev x (by simp [Wb])]
  | assign x => rw [ho] at hev; simp only [Qb, ho, hev x (by simp [Wb])]
  | _ => rw [ho] at hmv; simp [Sx] at hmv
 | false =>
 cases hsp : Xg o.op with
 | true =>
  have hk := hsh hsp
  clear hag hn hbx hsh
  cases ho : o.op with
  | nilCheck x =>
   rw [ho] at hev hk
   simp only [Qb, ho, hev x (by simp [Wb])]
   split
   ·rename_i id p hx
    have h1 := VX (hk x (by simp [Wb]) _ hx id (by simp [D.ment]))
    split
    ·rename_i ρ d hb
     obtain ⟨d', hd'⟩ := (h1 ρ).1 ⟨d, hb⟩
     simp only [hd']
    ·rename_i hne
     split
     ·rename_i ρ d hb
      obtain ⟨d', hd'⟩ := (h1 ρ).2 ⟨d, hb⟩
      exact absurd hd' (hne ρ d')
     ·rfl
   ·rfl
   ·rename_i id i p hx
    rw [kind_rowN (hk x (by simp [Wb]) _ hx id (by simp [D.ment]))]
   ·rfl
  | fieldAddr t x f =>
   rw [ho] at hev hk
   simp only [Qb, ho, hev x (by simp [Wb])]
   split
   ·rename_i τ id path hτ hx
    have h1 := VX (hk x (by simp [Wb]) _ hx id (by simp [D.ment]))
    split
    ·rename_i ρ d hb
     obtain ⟨d', hd'⟩ := (h1 ρ).1 ⟨d, hb⟩
     simp only [hd']
    ·rename_i hne
     split
     ·rename_i ρ d hb
      obtain ⟨d', hd'⟩ := (h1 ρ).2 ⟨d, hb⟩
      exact absurd hd' (hne ρ d')
     ·rfl
   ·rename_i τ id i path hτ hx
    rw [kind_rowN (hk x (by simp [Wb]) _ hx id (by simp [D.ment]))]
   ·rfl
   ·rfl
  | indexAddr t x i =>
   rw [ho] at hev hk
   simp only [Qb, ho, hev x (by simp [Wb]), hev i (by simp [Wb])]
   split
   ·rfl
   ·rename_i hx _; rw [kind_rowN (hk x (by simp [Wb]) _ hx _ (by simp [D.ment]))]
   ·rename_i hx _; rw [kind_rowN (hk x (by simp [Wb]) _ hx _ (by simp [D.ment]))]
   ·rename_i hx _; rw [kind_rowN (hk x (by simp [Wb]) _ hx _ (by simp [D.ment]))]
   ·rfl
  | call c =>
   obtain ⟨callee, args, ts⟩ := c
   rw [ho] at hev hk hsp
   simp only [Wb] at hev hk
   cases callee with
   | builtin b =>
    cases b with
    | len =>
     simp only [Qb, ho]
     split
     ·rename_i x t hx _
      rw [hev x (by rw [hx]; simp)]
      split
      ·rfl
      ·rfl
      ·rfl
      ·rename_i hd; rw [kind_rowN (hk x (by rw [hx]; simp) _ hd _ (by simp [D.ment]))]
      ·rename_i hd; rw [kind_rowN (hk x (by rw [hx]; simp) _ hd _ (by simp [D.ment]))]
      ·rfl
     ·rfl
    | _ => simp [Xg] at hsp
   | _ => simp [Xg] at hsp
  | _ => rw [ho] at hsp; simp [Xg] at hsp
 | false =>
 have hag' : ∀ x, x ∈ Wb o.op → ∀ d, s.ev x = some d → Xh s s' d := hag hmv hsp
 cases ho : o.op with
 | move x => rw [ho] at hev; simp only [Qb, ho, hev x (by simp [Wb])]
 | assign x => rw [ho] at hev; simp only [Qb, ho, hev x (by simp [Wb])]
 | pick c x y => rw [ho] at hev; simp only [Qb, ho, hev c (by simp [Wb]), hev x (by simp [Wb]), hev y (by simp [Wb])]
 | alloc t =>
  simp only [Qb, ho]
  split
  ·rename_i tt τ hd _; rw [hn tt (.inl hd)]
  ·rename_i tt hd _; rw [hn tt (.inl hd)]
  ·rfl
 | box t x =>
  rw [ho] at hev
  simp only [Qb, ho, hev x (by simp [Wb])]
  split
  ·rename_i tt τ d hd _ _; rw [hn tt (.inl hd)]
  ·rfl
 | build t ps =>
  rw [ho] at hev
  have := fun τ d => EM (s := s) (s' := s') (τ := τ) (ps := ps.toList) (d := d) hev
  simp only [Qb, ho, this]
 | buildSlice t n ps =>
  rw [ho] at hev hag'
  have h1 := fun e n => TP (s := s) (s' := s') (e := e) (ps := ps.toList) (n := n) hev hag'
  have h2 := fun e n => IM (s := s) (s' := s') (e := e) (ps := ps.toList) (n := n) hev
  simp only [Qb, ho, h1, h2]
  split
  ·rename_i tt e hd _
   rw [hn tt (.inl hd)]
  ·rfl
 | load t x =>
  rw [ho] at hev hag'
  simp only [Qb, ho, hev x (by simp [Wb])]
  split
  ·rename_i hx; rw [(hag' x (by simp [Wb]) _ hx).ptr]
  ·rfl
  ·rename_i hx; rw [(hag' x (by simp [Wb]) _ hx).eptr]; simp only [BP hn, HW hn]
  ·rfl
 | store t x y =>
  rw [ho] at hev hag'
  simp only [Qb, ho, hev x (by simp [Wb]), hev y (by simp [Wb])]
  split
  ·rename_i hx _; rw [(hag' x (by simp [Wb]) _ hx).ptr]
  ·rename_i dv _ hx hy
   have := fun τ => Zq (τ := τ) (hag' y (by simp [Wb]) _ hy)
   simp only [(hag' x (by simp [Wb]) _ hx).eptr, this]
  ·rfl
 | nilCheck x => rw [ho] at hsp; simp [Xg] at hsp
 | binOp op t x y t' => rw [ho] at hev; simp only [Qb, ho, hev x (by simp [Wb]), hev y (by simp [Wb])]
 | unOp op t x => rw [ho] at hev; simp only [Qb, ho, hev x (by simp [Wb])]
 | convert src t x =>
  rw [ho] at hev hag'
  simp only [Qb, ho, hev x (by simp [Wb])]
  split
  ·rfl
  ·rfl
  ·rename_i hx; rw [Ds (hag' x (by simp [Wb]) _ hx)]
  ·rfl
  ·rfl
 | slice t x lo hi mx =>
  rw [ho] at hev hag'
  have h1 : XF s' lo = XF s lo := Caa fun y hy => hev y (by simp [Wb, hy])
  have h2 := fun n => T8 (s := s) (s' := s') (x := hi) (n := n) fun y hy => hev y (by simp [Wb, hy])
  cases mx with
  | some m => simp only [Qb, ho]
  | none =>
   simp only [Qb, ho, hev x (by simp [Wb]), h1, h2]
   split
   ·rfl
   ·rfl
   ·rename_i hx
    unfold DL
    rw [(hag' x (by simp [Wb]) _ hx).own, h1]
    simp only [h2]
    split
    ·split
     ·split
      ·split
       ·rename_i tt hd; rw [hn tt (.inl hd)]
       ·rfl
      ·rfl
     ·rfl
    ·rfl
   ·simp only [h2]
   ·rename_i hx
    unfold LF
    rw [(hag' x (by simp [Wb]) _ hx).cut, h1]
    simp only [h2]
   ·rfl
 | fieldAddr t x f => rw [ho] at hsp; simp [Xg] at hsp
 | field t x f => rw [ho] at hev; simp only [Qb, ho, hev x (by simp [Wb])]
 | indexAddr t x i => rw [ho] at hsp; simp [Xg] at hsp
 | index t x i => rw [ho] at hev; simp only [Qb, ho, hev x (by simp [Wb]), hev i (by simp [Wb])]
 | makeSlice t l c =>
  rw [ho] at hev
  simp only [Qb, ho, hev l (by simp [Wb]), hev c (by simp [Wb])]
  split
  ·rename_i hd _ _ _; rw [hn _ (.inl hd)]
  ·rfl
 | extract x n => rw [ho] at hev; simp only [Qb, ho, hev x (by simp [Wb])]
 | call c =>
  obtain ⟨callee, args, ts⟩ := c
  rw [ho] at hev hag'
  simp only [Wb] at hev hag'
  cases callee with
  | value f =>
   cases f with
   | func f => simp only [Qb, ho]; exact DW hev hag' hn (by rw [ho] at hbx; exact hbx rfl rfl)
   | _ => simp only [Qb, ho]
  | invoke r m => simp only [Qb, ho]
  | builtin b =>
   cases b with
   | len => rw [ho] at hsp; simp [Xg] at hsp
   | append =>
    simp only [Qb, ho]
    split
    ·rename_i x y t tx hx _
     exact GZ (hev x (by rw [hx]; simp)) (hev y (by rw [hx]; simp)) (hag' x (by rw [hx]; simp)) (hag' y (by rw [hx]; simp)) hn
    ·rfl
   | copy =>
    simp only [Qb, ho]
    split
    ·rename_i x y t tx hx _
     exact EW (hev x (by rw [hx]; simp)) (hev y (by rw [hx]; simp)) (hag' x (by rw [hx]; simp)) (hag' y (by rw [hx]; simp))
    ·rfl
   | max =>
    simp only [Qb, ho]
    split
    ·rename_i x y hx
     rw [hev x (by rw [hx]; simp), hev y (by rw [hx]; simp)]
    ·rfl
   | min =>
    simp only [Qb, ho]
    split
    ·rename_i x y hx
     rw [hev x (by rw [hx]; simp), hev y (by rw [hx]; simp)]
    ·rfl
   | _ => simp only [Qb, ho]
 | _ => simp only [Qb, ho]
theorem TQ {t : TypeId} {m x v : Operand} {K : D → List (Nat × Option Ja) → Option Out} (hm : s'.ev m = s.ev m) (hx : s'.ev x = s.ev x) (hv : s'.ev v = s.ev v) (am : ∀ d, s.ev m = some d → Xh s s' d) (av : ∀ d, s.ev v = some d → Xh s s' d) : Uj G s' t m x v K = Uj G s t m x v K := by
 unfold Uj
 rw [hm, hx, hv]
 split
 ·rename_i h1 _ h3
  have := fun τ => Ds (τ := τ) (av _ h3)
  rw [(am _ h1).mpo]
  simp only [this]
 ·rfl
theorem ZT {t : TypeId} {m x v : Operand} {K : D → List (Nat × Option Ja) → Option Out} (hm : s'.ev m = s.ev m) (hx : s'.ev x = s.ev x) (hv : s'.ev v = s.ev v) (am : ∀ d, s.ev m = some d → Xh s s' d) : Hm G s' t m x v K = Hm G s t m x v K := by
 unfold Hm
 rw [hm, hx, hv]
 split
 ·rename_i h1 _ _; rw [(am _ h1).mpo]
 ·rfl
theorem SQ {t : TypeId} {m x v : Operand} {K : D → List (Nat × Option Ja) → Option Out} (hm : s'.ev m = s.ev m) (hx : s'.ev x = s.ev x) (hv : s'.ev v = s.ev v) (am : ∀ d, s.ev m = some d → Xh s s' d) (av : ∀ d, s.ev v = some d → Xh s s' d) : Tj G s' t m x v K = Tj G s t m x v K := by
 unfold Tj
 rw [hm, hx, hv]
 split
 ·rename_i h1 _ h3; rw [(am _ h1).mpo, Zq (av _ h3)]
 ·rfl
theorem L6 {m : Operand} (hm : s'.ev m = s.ev m) (am : ∀ d, s.ev m = some d → Xh s s' d) : s'.isMq m = s.isMq m := by
 unfold AS.isMq
 rw [hm]
 split
 ·rename_i h1; rw [(am _ h1).mpo]
 ·rfl
theorem NF {t : TypeId} {m x v : Operand} {K : D → List (Nat × Option Ja) → Option Out} (hm : s'.ev m = s.ev m) (hx : s'.ev x = s.ev x) (hv : s'.ev v = s.ev v) (am : ∀ d, s.ev m = some d → Xh s s' d) (av : ∀ d, s.ev v = some d → Xh s s' d) :
 (bif s'.kAgg x then Uj G s' t m x v K else bif s'.isMq m then Tj G s' t m x v K else Hm G s' t m x v K) = bif s.kAgg x then Uj G s t m x v K else bif s.isMq m then Tj G s t m x v K else Hm G s t m x v K := by
 have hk : s'.kAgg x = s.kAgg x := by unfold AS.kAgg; rw [hx]
 rw [hk, L6 hm am, TQ hm hx hv am av, SQ hm hx hv am av, ZT hm hx hv am]
theorem HZ {K : D → List (Nat × Option Ja) → Option Out} (hb : Oy o.op = true) (h : BS s s' o) : Xi G s' o K = Xi G s o K := by
 obtain ⟨hev, hag, hsh, hn, hbx⟩ := h
 cases ho : o.op with
 | makeMap t r =>
  cases r with
  | some r => simp only [Xi, ho]
  | none =>
   simp only [Xi, ho]
   split
   ·rename_i tt k v hd _
    simp only [hn tt (.inl hd)]
   ·rfl
 | mapUpdate t m x v =>
  rw [ho] at hev hag
  have hag := hag rfl rfl
  simp only [Xi, ho]
  exact NF (hev m (by simp [Wb])) (hev x (by simp [Wb])) (hev v (by simp [Wb])) (hag m (by simp [Wb])) (hag v (by simp [Wb]))
 | insert t m x v =>
  rw [ho] at hev hag
  have hag := hag rfl rfl
  simp only [Xi, ho]
  exact NF (hev m (by simp [Wb])) (hev x (by simp [Wb])) (hev v (by simp [Wb])) (hag m (by simp [Wb])) (hag v (by simp [Wb]))
 | lookup t m x ok =>
  rw [ho] at hev hag
  have hag : ∀ x_1, x_1 ∈ Wb (Op.lookup t m x ok) → ∀ d, s.ev x_1 = some d → Xh s s' d := hag rfl rfl
  have hm := hev m (by simp [Wb])
  have hx := hev x (by simp [Wb])
  have hk : s'.kAgg x = s.kAgg x := by unfold AS.kAgg; rw [hx]
  have hL : Mn G s' t m x ok K = Mn G s t m x ok K := by
   unfold Mn
   rw [hm, hx]
   split
   ·rename_i h1 _; rw [(hag m (by simp [Wb]) _ h1).mpo]
   ·rfl
  simp only [Xi, ho]
  rw [hk, hL, hm, hx]
  congr 1
  split
  ·rename_i h1 _
   rw [(hag m (by simp [Wb]) _ h1).mpo]
   simp only [hn (100000 + 64 * o.dst.getD 0) (.inr ⟨jp _, by omega⟩)]
  ·rfl
  ·rfl
 | _ => rw [ho] at hb; simp [Oy] at hb
theorem W5 {K : D → List (Nat × Option Ja) → Option Out} (h : BS s s' o) : Dy G s' o K = Dy G s o K := by
 unfold Dy
 cases hb : Oy o.op with
 | true => exact HZ hb h
 | false => exact V5 h
end
theorem Ha {α : Type} {c : Bool} {x : Option α} {r : α} : (bif c then x else none) = some r ↔ c = true ∧ x = some r := by cases c <;> simp
theorem HR {α : Type} {c : Bool} {x : Option α} {r : α} : (bif c then none else x) = some r ↔ c = false ∧ x = some r := by cases c <;> simp
section
variable {s s' : AS} {G : Qd} {o : Oper} {Out : Type} {K : D → List (Nat × Option Ja) → Option Out} {out : Out}
theorem S7 {tb : Bool} {op : BinOp} {a b : D} (he : CL tb op a b K = some out) : ∃ d u, K d u = some out ∧ ∀ (Out' : Type) (K' : D → List (Nat × Option Ja) → Option Out'), CL tb op a b K' = K' d u := by
 unfold CL at he ⊢
 split at he
 ·split at he
  ·simp only [Ha] at he; exact ⟨_, _, he.2, fun _ _ => by simp [he.1]⟩
  ·simp only [Ha] at he; exact ⟨_, _, he.2, fun _ _ => by simp [he.1]⟩
  ·simp only [Ha] at he
   obtain ⟨hk, he⟩ := he
   simp only [hk, y3]
   split at he
   all_goals first
    | exact ⟨_, _, he, fun _ _ => rfl⟩
    | (simp only [HR] at he; exact ⟨_, _, he.2, fun _ _ => by simp [he.1]⟩)
    | simp at he
 ·split at he
  ·simp only [Ha] at he; exact ⟨_, _, he.2, fun _ _ => by simp [he.1]⟩
  ·exact ⟨_, _, he, fun _ _ => rfl⟩
  ·exact ⟨_, _, he, fun _ _ => rfl⟩
  ·simp at he
 ·split at he
  ·simp only [Ha] at he; exact ⟨_, _, he.2, fun _ _ => by simp [he.1]⟩
  ·simp only [Ha] at he; exact ⟨_, _, he.2, fun _ _ => by simp [he.1]⟩
  ·simp at he
 ·simp at he
theorem S5 {dst : Option Tmp} {f : FuncId} {args : List Operand} (he : UA G s dst f args K = some out) : ∃ d u, K d u = some out ∧ ∀ (Out' : Type) (K' : D → List (Nat × Option Ja) → Option Out'), UA G s dst f args K' = K' d u := by
 unfold UA at he ⊢
 split at he
 ·rename_i h1
  split at he
  ·rename_i h2
   split at he
   ·rename_i h3
    simp only [qf] at he
    obtain ⟨r, h4, he⟩ := he
    split at he
    ·rename_i h5
     split at he
     ·rename_i h6
      simp only [Ha] at he
      exact ⟨_, _, he.2, fun _ _ => by simp [h4, h5, h6, he.1]⟩
     ·simp at he
    ·simp at he
   ·simp at he
  ·simp at he
 ·rename_i h1
  split at he
  ·split at he
   ·rename_i h2 h3
    split at he
    ·rename_i h4 h5
     simp only [qf] at he
     obtain ⟨r, h6, he⟩ := he
     split at he
     ·rename_i h7
      split at he
      ·rename_i h8
       simp only [Ha] at he
       exact ⟨_, _, he.2, fun _ _ => by simp [h6, h7, h8, he.1]⟩
      ·simp at he
     ·simp at he
    ·simp at he
   ·simp at he
  ·simp at he
 ·rename_i h1
  split at he
  ·rename_i h2
   split at he
   ·rename_i h3
    simp only [qf] at he
    obtain ⟨r, h4, he⟩ := he
    split at he
    ·rename_i h5
     split at he
     ·rename_i h6
      simp only [Ha] at he
      exact ⟨_, _, he.2, fun _ _ => by simp [h4, h5, h6, he.1]⟩
     ·simp at he
    ·simp at he
   ·simp at he
  ·simp at he
 ·rename_i h1
  split at he
  ·split at he
   ·rename_i h2 h3
    split at he
    ·rename_i h4
     split at he
     ·rename_i h5 h6 h7
      simp only [qf] at he
      obtain ⟨r, h8, he⟩ := he
      split at he
      ·rename_i h9
       split at he
       ·rename_i h10 h11
        simp only [Ha] at he
        exact ⟨_, _, he.2, fun _ _ => by simp only [h8, h9, h10, h11, jb, he.1, y3]⟩
       ·simp at he
      ·simp at he
     ·simp at he
    ·simp at he
   ·simp at he
  ·simp at he
 ·rename_i h1
  split at he
  ·rename_i h2
   split at he
   ·rename_i h3
    simp only [qf, Ha] at he
    obtain ⟨r, h4, h5, he⟩ := he
    exact ⟨_, _, he, fun _ _ => by simp only [h4, jb, h5, y3]⟩
   ·simp at he
  ·simp at he
 ·rename_i h1
  split at he
  ·split at he
   ·rename_i h2 h3
    split at he
    ·rename_i h4
     split at he
     ·rename_i h5 h6 h7 h8
      split at he
      ·rename_i h9 h10
       split at he
       ·rename_i h11 h12
        simp only [qf, Ha] at he
        obtain ⟨r, h13, h14, he⟩ := he
        exact ⟨_, _, he, fun _ _ => by simp only [h13, jb, h14, y3]⟩
       ·simp at he
      ·simp at he
     ·simp at he
    ·simp at he
   ·simp at he
  ·simp at he
 ·simp at he
theorem CW {dst : Option Tmp} {t tx : TypeId} {x y : Operand} (he : Vt G s dst t tx x y K = some out) : ∃ d u, K d u = some out ∧ ∀ (Out' : Type) (K' : D → List (Nat × Option Ja) → Option Out'), Vt G s dst t tx x y K' = K' d u := by
 unfold Vt at he ⊢
 split at he
 ·rename_i h1 h2 h3
  split at he
  ·rename_i h4 h5
   simp only [Ha] at he
   exact ⟨_, _, he.2.2, fun _ _ => by simp [he.1, he.2.1]⟩
  ·simp at he
 ·simp at he
theorem XT {dst : Option Tmp} {t tx : TypeId} {x y : Operand} (he : Cq G s dst t tx x y K = some out) : ∃ d u, K d u = some out ∧ ∀ (Out' : Type) (K' : D → List (Nat × Option Ja) → Option Out'), Cq G s dst t tx x y K' = K' d u := by
 unfold Cq at he ⊢
 split at he
 ·split at he
  ·rename_i h4 h5
   split at he
   ·simp only [Ha] at he
    exact ⟨_, _, he.2.2, fun _ _ => by simp only [he.1, he.2.1, y3]⟩
   ·simp at he
  ·simp at he
 ·simp at he
theorem R7 {dst : Option Tmp} {t tx : TypeId} {x y : Operand} (he : DC G s dst t tx x y K = some out) : ∃ d u, K d u = some out ∧ ∀ (Out' : Type) (K' : D → List (Nat × Option Ja) → Option Out'), DC G s dst t tx x y K' = K' d u := by
 unfold DC at he ⊢
 cases hml : ZC G dst with
 | true => rw [hml] at he; exact XT he
 | false => rw [hml] at he; exact CW he
theorem T5 {t tx : TypeId} {x y : Operand} (he : VA G s t tx x y K = some out) : ∃ d u, K d u = some out ∧ ∀ (Out' : Type) (K' : D → List (Nat × Option Ja) → Option Out'), VA G s t tx x y K' = K' d u := by
 unfold VA at he ⊢
 split at he
 ·split at he
  ·rename_i h4
   split at he
   ·rename_i h5 h6
    simp only [Ha] at he
    exact ⟨_, _, he.2.2, fun _ _ => by simp [he.1, he.2.1]⟩
   ·simp at he
  ·simp at he
 ·simp at he
theorem NO {dst : Option Tmp} {τ : Ty} {id i : Nat} {e : Ty} {xs : List (T e)} {k : Nat} (he : Mr s dst τ id i e xs k K = some out) :
 ∃ d u, K d u = some out ∧ ∀ (Out' : Type) (K' : D → List (Nat × Option Ja) → Option Out'), Mr s dst τ id i e xs k K' = K' d u := by
 unfold Mr at he ⊢
 split at he
 ·rename_i h1
  simp only [Ha, qf] at he
  obtain ⟨h2, x, h3, h4, h5⟩ := he
  exact ⟨_, _, h5, fun _ _ => by simp only [h2, h3, jb, h4, y3]⟩
 ·simp at he
theorem T7 {dst : Option Tmp} {t : TypeId} {id : Nat} {lo hi : Option Operand} (he : DL G s dst t id lo hi K = some out) :
 ∃ d u, K d u = some out ∧ ∀ (Out' : Type) (K' : D → List (Nat × Option Ja) → Option Out'), DL G s dst t id lo hi K' = K' d u := by
 unfold DL at he ⊢
 split at he
 ·rename_i h1
  split at he
  ·rename_i h2 h3 h4
   split at he
   ·rename_i h5
    simp only [Ha] at he
    obtain ⟨h6, he⟩ := he
    split at he
    ·rename_i tt
     cases hm : Ou G.mv tt with
     | true =>
      rw [hm] at he
      simp only [y3, Ha] at he
      exact ⟨_, _, he.2, fun _ _ => by simp only [h6, he.1, y3]⟩
     | false =>
      rw [hm] at he
      simp only [y8] at he
      exact ⟨_, _, he, fun _ _ => by simp only [h6, y3, y8]⟩
    ·simp at he
   ·simp at he
  ·simp at he
 ·simp at he
theorem U5 {t : TypeId} {id a b : Nat} {lo hi : Option Operand} (he : LF G s t id a b lo hi K = some out) :
 ∃ d u, K d u = some out ∧ ∀ (Out' : Type) (K' : D → List (Nat × Option Ja) → Option Out'), LF G s t id a b lo hi K' = K' d u := by
 unfold LF at he ⊢
 split at he
 ·rename_i h1
  split at he
  ·rename_i h2 h3 h4
   split at he
   ·rename_i h5
    simp only [Ha] at he
    exact ⟨_, _, he.2, fun _ _ => by simp only [he.1, y3]⟩
   ·simp at he
  ·simp at he
 ·simp at he
theorem Vab (he : Qb G s o K = some out) : ∃ d u, K d u = some out ∧ ∀ (Out' : Type) (K' : D → List (Nat × Option Ja) → Option Out'), Qb G s o K' = K' d u := by
 cases ho : o.op with
 | move x => simp only [Qb, ho] at he ⊢; split at he <;> first | (simp at he; done) | (rename_i h1; exact ⟨_, _, he, fun _ _ => by simp⟩)
 | assign x => simp only [Qb, ho] at he ⊢; split at he <;> first | (simp at he; done) | (rename_i h1; exact ⟨_, _, he, fun _ _ => by simp⟩)
 | pick c x y =>
  simp only [Qb, ho] at he ⊢
  split at he
  ·rename_i β hc
   cases hb : (show Bool from β) with
   | true =>
    have hb' : β = true := hb
    subst hb'
    simp only [y3] at he
    split at he
    ·rename_i h1; exact ⟨_, _, he, fun _ _ => by simp⟩
    ·simp at he
   | false =>
    have hb' : β = false := hb
    subst hb'
    simp only [y8] at he
    split at he
    ·rename_i h1; exact ⟨_, _, he, fun _ _ => by simp⟩
    ·simp at he
  ·simp at he
 | alloc t =>
  simp only [Qb, ho] at he ⊢
  split at he
  ·rename_i h1 h2; simp only [Ha] at he; exact ⟨_, _, he.2, fun _ _ => by simp [he.1]⟩
  ·split at he
   ·rename_i h3; simp only [Ha] at he; exact ⟨_, _, he.2, fun _ _ => by simp only [he.1, y3]⟩
   ·simp at he
  ·simp at he
 | box t x =>
  simp only [Qb, ho] at he ⊢
  split at he
  ·rename_i h1 h2 h3; simp only [Ha] at he; exact ⟨_, _, he.2, fun _ _ => by simp [he.1]⟩
  ·simp at he
 | build t ps =>
  simp only [Qb, ho] at he ⊢
  split at he
  ·rename_i h1
   split at he
   ·rename_i h2; simp only [Ha] at he; exact ⟨_, _, he.2, fun _ _ => by simp [he.1]⟩
   ·simp at he
  ·simp at he
 | buildSlice t n ps =>
  simp only [Qb, ho] at he ⊢
  split at he
  ·rename_i h1 h2
   split at he
   ·rename_i h3; simp only [Ha] at he; exact ⟨_, _, he.2, fun _ _ => by simp [he.1]⟩
   ·rename_i h3
    split at he
    ·rename_i h4; simp only [Ha] at he; exact ⟨_, _, he.2, fun _ _ => by simp [he.1]⟩
    ·simp at he
  ·simp at he
 | load t x =>
  simp only [Qb, ho] at he ⊢
  split at he
  ·rename_i h1 h2
   split at he
   ·rename_i h3
    split at he
    ·rename_i h4 h5
     split at he
     ·rename_i h6; exact ⟨_, _, he, fun _ _ => by simp⟩
     ·simp at he
    ·simp at he
   ·simp at he
  ·rename_i h1 h2
   split at he
   ·rename_i h3; exact ⟨_, _, he, fun _ _ => by simp⟩
   ·simp at he
  ·rename_i h1 h2
   cases hml : ZC G o.dst with
   | true =>
    rw [hml] at he
    simp only [y3] at he
    split at he
    ·rename_i h3; obtain ⟨d, u, g1, g2⟩ := NO he; exact ⟨d, u, g1, fun _ _ => by simp only [y3]; exact g2 _ _⟩
    ·rename_i h3; obtain ⟨d, u, g1, g2⟩ := NO he; exact ⟨d, u, g1, fun _ _ => by simp only [y3]; exact g2 _ _⟩
    ·simp at he
   | false =>
   rw [hml] at he
   simp only [y8] at he
   split at he
   ·rename_i h3
    simp only [qf] at he
    obtain ⟨z, hz, he⟩ := he
    split at he
    ·rename_i τ' y h4 h5
     split at he
     ·rename_i h6
      cases hc : ((!_ || Ty.flat _) || Ty.flat _) with
      | true =>
       rw [hc] at he
       exact ⟨_, _, he, fun _ _ => by simp only [y8, hz, jb, h4, h5, h6, hc, y3]⟩
      | false =>
       rw [hc] at he
       simp only [y8] at he
       split at he
       ·rename_i h7
        simp only [Ha] at he
        obtain ⟨hc2, he⟩ := he
        exact ⟨_, _, he, fun _ _ => by simp only [hz, jb, h4, h5, h6, hc, y8, h7, hc2, y3]⟩
       ·simp at he
     ·simp at he
    ·simp at he
   ·split at he
    ·rename_i h7
     simp only [Ha] at he
     exact ⟨_, _, he.2, fun _ _ => by simp only [y8, h7, he.1, y3]⟩
    ·simp at he
   ·simp at he
  ·simp at he
 | store t x y =>
  simp only [Qb, ho] at he ⊢
  split at he
  ·rename_i h1 h2 h3
   split at he
   ·rename_i h4
    split at he
    ·rename_i h5 h6
     split at he
     ·rename_i h7; simp only [Ha] at he; exact ⟨_, _, he.2, fun _ _ => by simp [he.1]⟩
     ·simp at he
    ·simp at he
   ·simp at he
  ·rename_i h1 h2 h3
   split at he
   ·rename_i e dp xs h4
    split at he
    ·rename_i h5
     split at he
     ·rename_i h6
      cases hf : (dp || e.flat) with
      | true =>
       rw [hf] at he
       simp only [y3] at he
       split at he
       ·rename_i h7
        simp only [Ha, qf] at he
        obtain ⟨hc, z, hz, he⟩ := he
        split at he
        ·rename_i h8; exact ⟨_, _, he, fun _ _ => by simp only [hc, y3, hz, jb, h8]⟩
        ·simp at he
       ·simp at he
      | false =>
       rw [hf] at he
       simp only [y8] at he
       split at he
       ·rename_i h7
        simp only [qf] at he
        obtain ⟨z, hz, he⟩ := he
        split at he
        ·rename_i h8; exact ⟨_, _, he, fun _ _ => by simp only [y8, hz, jb, h8]⟩
        ·simp at he
       ·simp at he
     ·simp at he
    ·simp at he
   ·split at he
    ·rename_i h5
     split at he
     ·rename_i h6
      split at he
      ·rename_i h7
       simp only [Ha] at he
       obtain ⟨hc, hd, he⟩ := he
       split at he
       ·rename_i h8; exact ⟨_, _, he, fun _ _ => by simp only [hc, hd, y3]⟩
       ·simp at he
      ·simp at he
     ·simp at he
    ·simp at he
   ·simp at he
  ·simp at he
 | nilCheck x =>
  simp only [Qb, ho] at he ⊢
  split at he
  ·rename_i h1
   split at he
   ·rename_i h2; exact ⟨_, _, he, fun _ _ => by simp⟩
   ·simp at he
  ·rename_i h1; exact ⟨_, _, he, fun _ _ => by simp⟩
  ·rename_i h1
   split at he
   ·exact ⟨_, _, he, fun _ _ => by simp only⟩
   ·simp at he
  ·simp at he
 | binOp op t x y t' =>
  simp only [Qb, ho] at he ⊢
  split at he
  ·rename_i u v h1 h2
   cases ha : u.isAgg with
   | true =>
    rw [ha] at he
    simp only [y3] at he
    split at he
    ·rename_i h3
     split at he
     ·rename_i h4 h5
      simp only [Ha] at he
      obtain ⟨hc, he⟩ := he
      split at he
      ·exact ⟨_, _, he, fun _ _ => by simp only [y3, h3, hc]⟩
      ·exact ⟨_, _, he, fun _ _ => by simp only [y3, h3, hc]⟩
      ·simp at he
     ·simp at he
    ·simp at he
   | false =>
    rw [ha] at he
    simp only [y8] at he
    obtain ⟨d, u', h3, h4⟩ := S7 he
    exact ⟨d, u', h3, fun _ _ => by simp only [y8]; exact h4 _ _⟩
  ·simp at he
 | unOp op t x =>
  simp only [Qb, ho] at he ⊢
  split at he
  ·rename_i h1; exact ⟨_, _, he, fun _ _ => by simp⟩
  ·rename_i h1; exact ⟨_, _, he, fun _ _ => by simp⟩
  ·simp at he
 | convert src t x =>
  simp only [Qb, ho] at he ⊢
  split at he
  ·rename_i h1 h2 h3; exact ⟨_, _, he, fun _ _ => by simp⟩
  ·rename_i h1 h2 h3; exact ⟨_, _, he, fun _ _ => by simp⟩
  ·rename_i h1 h2 h3
   split at he
   ·rename_i h4; exact ⟨_, _, he, fun _ _ => by simp only⟩
   ·simp at he
  ·rename_i h1 h2 h3; simp only [Ha] at he; exact ⟨_, _, he.2, fun _ _ => by simp [he.1]⟩
  ·simp at he
 | slice t x lo hi mx =>
  cases mx with
  | some m => simp [Qb, ho] at he
  | none =>
   simp only [Qb, ho] at he ⊢
   split at he
   ·rename_i h1
    split at he
    ·rename_i h2 h3 h4; simp only [Ha] at he; exact ⟨_, _, he.2, fun _ _ => by simp only [he.1, y3]⟩
    ·simp at he
   ·rename_i h1
    split at he
    ·rename_i h2 h3 h4
     split at he
     ·rename_i h5; simp only [Ha] at he; exact ⟨_, _, he.2, fun _ _ => by simp only [he.1, y3]⟩
     ·simp at he
    ·simp at he
   ·exact T7 he
   ·split at he
    ·simp only [Ha] at he
     exact ⟨_, _, he.2, fun _ _ => by simp only [he.1, y3]⟩
    ·simp at he
   ·exact U5 he
   ·simp at he
 | fieldAddr t x f =>
  simp only [Qb, ho] at he ⊢
  split at he
  ·rename_i h1 h2
   split at he
   ·rename_i h3
    split at he
    ·rename_i h4 h5
     split at he
     ·rename_i h6; simp only [Ha] at he; exact ⟨_, _, he.2, fun _ _ => by simp only [he.1, y3]⟩
     ·simp at he
    ·simp at he
   ·simp at he
  ·rename_i h1 h2
   split at he
   ·rename_i h3
    split at he
    ·rename_i h4 h5
     split at he
     ·rename_i h6; simp only [Ha] at he; exact ⟨_, _, he.2, fun _ _ => by simp only [he.1, y3]⟩
     ·simp at he
    ·simp at he
   ·simp at he
  ·rename_i h1 h2
   split at he
   ·rename_i h3 h4 h5; simp only [Ha] at he; exact ⟨_, _, he.2, fun _ _ => by simp only [he.1, y3]⟩
   ·simp at he
  ·simp at he
 | field t x f =>
  simp only [Qb, ho] at he ⊢
  split at he
  ·rename_i h1 h2
   simp only [Ha] at he
   obtain ⟨hc, he⟩ := he
   split at he
   ·rename_i h3 h4; exact ⟨_, _, he, fun _ _ => by simp only [hc, y3]⟩
   ·simp at he
  ·simp at he
 | indexAddr t x i =>
  simp only [Qb, ho] at he ⊢
  split at he
  ·rename_i h1 h2 h3
   split at he
   ·rename_i h4
    simp only [qf] at he
    obtain ⟨z, hz, he⟩ := he
    exact ⟨_, _, he, fun _ _ => by simp only [hz, jb]⟩
   ·simp at he
  ·rename_i h1 h2 h3
   split at he
   ·rename_i h4
    split at he
    ·rename_i h5; simp only [Ha] at he; exact ⟨_, _, he.2, fun _ _ => by simp only [he.1, y3]⟩
    ·simp at he
   ·simp at he
  ·rename_i h1 h2 h3
   split at he
   ·rename_i h4
    split at he
    ·rename_i h5; simp only [Ha] at he; exact ⟨_, _, he.2, fun _ _ => by simp only [he.1, y3]⟩
    ·simp at he
   ·simp at he
  ·rename_i h1 h2 h3
   split at he
   ·rename_i h4 h5
    split at he
    ·rename_i h6; simp only [Ha] at he; exact ⟨_, _, he.2.2, fun _ _ => by simp only [he.1, he.2.1, y3]⟩
    ·simp at he
   ·simp at he
  ·simp at he
 | index t x i =>
  simp only [Qb, ho] at he ⊢
  split at he
  ·rename_i h1 h2 h3
   simp only [qf] at he
   obtain ⟨z, hz, he⟩ := he
   exact ⟨_, _, he, fun _ _ => by simp only [hz, jb]⟩
  ·simp at he
 | makeSlice t l c =>
  simp only [Qb, ho] at he ⊢
  split at he
  ·rename_i h1 h2 h3 h4; simp only [Ha] at he; exact ⟨_, _, he.2.2, fun _ _ => by simp only [he.1, he.2.1, y3]⟩
  ·simp at he
 | extract x n =>
  simp only [Qb, ho] at he ⊢
  split at he
  ·rename_i h1
   split at he
   ·rename_i h2; exact ⟨_, _, he, fun _ _ => by simp⟩
   ·simp at he
  ·simp at he
 | call c =>
  obtain ⟨callee, args, ts⟩ := c
  cases callee with
  | value f =>
   cases f with
   | func f => simp only [Qb, ho] at he ⊢; exact S5 he
   | _ => simp [Qb, ho] at he
  | invoke r m => simp [Qb, ho] at he
  | builtin b =>
   cases b with
   | len =>
    simp only [Qb, ho] at he ⊢
    split at he
    ·rename_i h1 h2
     split at he
     ·rename_i h3 h4; exact ⟨_, _, he, fun _ _ => by simp only⟩
     ·rename_i h3 h4; exact ⟨_, _, he, fun _ _ => by simp only⟩
     ·rename_i h3 h4; exact ⟨_, _, he, fun _ _ => by simp only⟩
     ·rename_i h3 h4
      split at he
      ·rename_i h5; exact ⟨_, _, he, fun _ _ => by simp only⟩
      ·simp at he
     ·rename_i h3 h4
      split at he
      ·rename_i h5; exact ⟨_, _, he, fun _ _ => by simp only⟩
      ·simp at he
     ·simp at he
    ·simp at he
   | append =>
    simp only [Qb, ho] at he ⊢
    split at he
    ·rename_i h1 h2
     exact R7 he
    ·simp at he
   | copy =>
    simp only [Qb, ho] at he ⊢
    split at he
    ·exact T5 he
    ·simp at he
   | max =>
    simp only [Qb, ho] at he ⊢
    split at he
    ·rename_i h1
     split at he
     ·rename_i h2 h3; simp only [Ha] at he; exact ⟨_, _, he.2, fun _ _ => by simp only [he.1, y3]⟩
     ·simp at he
    ·simp at he
   | min =>
    simp only [Qb, ho] at he ⊢
    split at he
    ·rename_i h1
     split at he
     ·rename_i h2 h3; simp only [Ha] at he; exact ⟨_, _, he.2, fun _ _ => by simp only [he.1, y3]⟩
     ·simp at he
    ·simp at he
   | _ => simp [Qb, ho] at he
 | _ => simp [Qb, ho] at he
theorem GW {t : TypeId} {m x v : Operand} (he : Uj G s t m x v K = some out) : ∃ d u, K d u = some out ∧ ∀ (Out' : Type) (K' : D → List (Nat × Option Ja) → Option Out'), Uj G s t m x v K' = K' d u := by
 unfold Uj at he ⊢
 split at he
 ·split at he
  ·split at he
   ·simp only [Ha] at he
    exact ⟨_, _, he.2, fun _ _ => by simp only [he.1, y3]⟩
   ·simp at he
  ·simp at he
 ·simp at he
theorem IZ {t : TypeId} {m x v : Operand} (he : Hm G s t m x v K = some out) : ∃ d u, K d u = some out ∧ ∀ (Out' : Type) (K' : D → List (Nat × Option Ja) → Option Out'), Hm G s t m x v K' = K' d u := by
 unfold Hm at he ⊢
 split at he
 ·split at he
  ·split at he
   ·simp only [Ha] at he
    exact ⟨_, _, he.2, fun _ _ => by simp only [he.1, y3]⟩
   ·simp at he
  ·simp at he
 ·simp at he
theorem FW {t : TypeId} {m x v : Operand} (he : Tj G s t m x v K = some out) : ∃ d u, K d u = some out ∧ ∀ (Out' : Type) (K' : D → List (Nat × Option Ja) → Option Out'), Tj G s t m x v K' = K' d u := by
 unfold Tj at he ⊢
 split at he
 ·split at he
  ·split at he
   ·simp only [Ha] at he
    exact ⟨_, _, he.2.2, fun _ _ => by simp only [he.1, he.2.1, y3]⟩
   ·simp at he
  ·simp at he
 ·simp at he
theorem XE {τ : Ty} {xs : List (Int × T τ)} {n : Int} {ok : Bool} (he : Qx xs n ok K = some out) : ∃ d u, K d u = some out ∧ ∀ (Out' : Type) (K' : D → List (Nat × Option Ja) → Option Out'), Qx xs n ok K' = K' d u := by
 unfold Qx at he ⊢
 cases ok with
 | true => exact ⟨_, _, he, fun _ _ => rfl⟩
 | false => exact ⟨_, _, he, fun _ _ => rfl⟩
theorem YT {t : TypeId} {m x : Operand} {ok : Bool} (he : Mn G s t m x ok K = some out) : ∃ d u, K d u = some out ∧ ∀ (Out' : Type) (K' : D → List (Nat × Option Ja) → Option Out'), Mn G s t m x ok K' = K' d u := by
 unfold Mn at he ⊢
 split at he
 ·split at he
  ·split at he
   ·simp only [Ha] at he
    obtain ⟨h1, he⟩ := he
    unfold RM at he ⊢
    cases ok with
    | true => exact ⟨_, _, he, fun _ _ => by simp only [h1, y3]⟩
    | false => exact ⟨_, _, he, fun _ _ => by simp only [h1, y3, y8]⟩
   ·simp at he
  ·simp at he
 ·simp at he
theorem SI {t : TypeId} {m x v : Operand} (he : (bif s.kAgg x then Uj G s t m x v K else bif s.isMq m then Tj G s t m x v K else Hm G s t m x v K) = some out) : ∃ d u, K d u = some out ∧ ∀ (Out' : Type) (K' : D → List (Nat × Option Ja) → Option Out'),
 (bif s.kAgg x then Uj G s t m x v K' else bif s.isMq m then Tj G s t m x v K' else Hm G s t m x v K') = K' d u := by
 cases h1 : s.kAgg x with
 | true => rw [h1] at he; exact GW he
 | false =>
  rw [h1] at he
  simp only [y8] at he ⊢
  cases h2 : s.isMq m with
  | true => rw [h2] at he; exact FW he
  | false => rw [h2] at he; exact IZ he
theorem U7 (he : Xi G s o K = some out) : ∃ d u, K d u = some out ∧ ∀ (Out' : Type) (K' : D → List (Nat × Option Ja) → Option Out'), Xi G s o K' = K' d u := by
 cases ho : o.op with
 | makeMap t r =>
  cases r with
  | some r => simp [Xi, ho] at he
  | none =>
   simp only [Xi, ho] at he ⊢
   split at he
   ·rename_i tt kk vv _ _
    cases hm : Ou G.mv tt with
    | true =>
     rw [hm] at he
     simp only [y3] at he ⊢
     split at he
     ·simp only [Ha] at he
      exact ⟨_, _, he.2, fun _ _ => by simp only [he.1, y3]⟩
     ·simp at he
    | false =>
     rw [hm] at he
     simp only [y8, Ha] at he ⊢
     exact ⟨_, _, he.2, fun _ _ => by simp only [he.1, y3]⟩
   ·simp at he
 | mapUpdate t m x v => simp only [Xi, ho] at he ⊢; exact SI he
 | insert t m x v => simp only [Xi, ho] at he ⊢; exact SI he
 | lookup t m x ok =>
  simp only [Xi, ho] at he ⊢
  cases h1 : s.kAgg x with
  | true => rw [h1] at he; exact YT he
  | false =>
   rw [h1] at he
   simp only [y8] at he ⊢
   split at he
   ·split at he
    ·split at he
     ·simp only [Ha] at he
      obtain ⟨g1, he⟩ := he
      obtain ⟨d, u, k1, k2⟩ := XE he
      exact ⟨d, u, k1, fun _ _ => by simp only [g1, y3]; exact k2 _ _⟩
     ·simp at he
    ·split at he
     ·simp only [Ha] at he
      obtain ⟨g1, he⟩ := he
      obtain ⟨d, u, k1, k2⟩ := XE he
      exact ⟨d, u, k1, fun _ _ => by simp only [g1, y3]; exact k2 _ _⟩
     ·simp at he
    ·split at he
     ·simp only [Ha] at he
      exact ⟨_, _, he.2, fun _ _ => by simp only [he.1, y3]⟩
     ·simp at he
    ·simp at he
   ·split at he
    ·simp only [Ha] at he
     obtain ⟨g1, he⟩ := he
     obtain ⟨d, u, k1, k2⟩ := XE he
     exact ⟨d, u, k1, fun _ _ => by simp only [g1, y3]; exact k2 _ _⟩
    ·simp at he
   ·simp at he
 | _ => simp [Xi, ho] at he
theorem Wab (he : Dy G s o K = some out) : ∃ d u, K d u = some out ∧ ∀ (Out' : Type) (K' : D → List (Nat × Option Ja) → Option Out'), Dy G s o K' = K' d u := by
 unfold Dy at he ⊢
 cases hb : Oy o.op with
 | true => rw [hb] at he; exact U7 he
 | false => rw [hb] at he; exact Vab he
theorem W7 (k : AS → Option Out) : Dy G s o (fun d u => Kf s o.dst d u k) = VI G s o k := rfl
end
section
variable {P : Program} {Out : Type} {n0 : Nat} {A : Fx} {O0 : Nat → Prop} {w0 w w' : World} {s s' : AS} {σ σ' : Nat → Value} {φ φ' : Nat → List Nat} {a : Act}
variable {o : Oper} {Q : Exit → Act → World → Prop} {k : AS → Option Out} {out : Out} {d : D} {v : Value} {upd : List (Nat × Option Ja)} {dst : Option Tmp} {G : Qd}
structure Eqv (s s' : AS) : Prop where
 n : s'.n = s.n
 tm : ∀ t, Eb s'.tm t = Eb s.tm t
 hp : ∀ id, s'.heap id = s.heap id
theorem Eqv.refl (s : AS) : Eqv s s := ⟨rfl, fun _ => rfl, fun _ => rfl⟩
theorem Eqv.trans {s1 s2 s3 : AS} (h : Eqv s1 s2) (h' : Eqv s2 s3) : Eqv s1 s3 := ⟨h'.n.trans h.n, fun t => (h'.tm t).trans (h.tm t), fun id => (h'.hp id).trans (h.hp id)⟩
theorem Eqv.symm {s1 s2 : AS} (h : Eqv s1 s2) : Eqv s2 s1 := ⟨h.n.symm, fun t => (h.tm t).symm, fun id => (h.hp id).symm⟩
theorem Ra.eqv (h : Ra n0 A O0 w0 s σ φ a w) (he : Eqv s s') : Ra n0 A O0 w0 s' σ φ a w := by
 have hh : s'.heap = s.heap := funext he.hp
 have hO : OO O0 s' φ = OO O0 s φ := by
  funext b
  simp only [OO, hh]
 refine ⟨by rw [he.n]; exact h.sz, h.df, ?_, ?_, ?_, ?_, ?_, h.o0, h.fr, h.pin, h.iv0, h.ivw, fun id kk e xs hb => by rw [hO]; exact h.shr id kk e xs (by rw [← hh]; exact hb)⟩
 ·intro t d hd
  rw [he.tm] at hd
  rw [hO, hh]
  exact h.tm t d hd
 ·intro id Da hb
  rw [hh] at hb
  rw [hO, hh]
  exact h.hp id Da hb
 ·intro id Da hb
  rw [hh] at hb
  exact h.nodup id Da hb
 ·intro id id' Da blk' hne hb hb'
  rw [hh] at hb hb'
  exact h.disj id id' Da blk' hne hb hb'
 ·intro id Da hb
  rw [hh] at hb
  exact h.fresh id Da hb
theorem UK (h : Ra n0 A O0 w0 s σ φ a w) {ops : Array Oper} {j : Nat} {t : Tmp} {β : Bool} (hj : (ops[j]?).bind (·.dst) = some t) (hd : Eb s.tm t = some (.t .b β)) :
 yielded ops a.tmps j = some β := by
 obtain ⟨v, hv, hr⟩ := h.tm t _ hd
 rw [Ki] at hr
 subst hr
 unfold yielded
 rw [hj, jb, hv]
theorem NM (h : Ra n0 A O0 w0 s σ φ a w) {ops : Array Oper} {j : Nat} {t : Tmp} (hj : (ops[j]?).bind (·.dst) = some t) (hd : Eb s.tm t = some .und) :
 yielded ops a.tmps j = none := by
 obtain ⟨v, hv, hr⟩ := h.tm t _ hd
 rw [Ro] at hr
 subst hr
 unfold yielded
 rw [hj, jb, hv]
 rfl
theorem Zd.mono {K : Act → World → Prop} (h : ∀ s σ φ a w, k s = some out → Ra n0 A O0 w0 s σ φ a w → K a w) {a : Act} {w : World} (hg : Zd n0 A O0 w0 k out a w) : K a w := by
 obtain ⟨s, σ, φ, h1, h2⟩ := hg
 exact h s σ φ a w h1 h2
theorem P3 (h : Ra n0 A O0 w0 s σ φ a w) (he : Kf s dst .und [] k = some out) : Zd n0 A O0 w0 k out (a.put dst undef) w := Sb h (Ro.2 rfl) he
theorem B7 {n i : Nat} (h : i < n) : (yx n).drop i = i :: (yx n).drop (i + 1) := by
 rw [List.drop_eq_getElem_cons (by simpa using h)]
 simp
theorem D0 (hG : Ui P A.I G) (hfz : OC G A O0) {r : Nat} {ops : Array Oper} (hQ : ∀ s σ φ a w, k s = some out → Ra n0 A O0 w0 s σ φ a w → Q .normal a w) : ∀ (l : List Oper) (i : Nat) (s : AS) (σ : Nat → Value) (φ : Nat → List Nat) (a : Act) (w : World),
 ops.toList.drop i = l → Ey G r ops l i s k = some out → Ra n0 A O0 w0 s σ φ a w → wpOps P ops Q ((yx ops.size).drop i) a w
 | [], i, s, σ, φ, a, w, hl, he, h => by
  have hi : ops.size ≤ i := by
   have := congrArg ja hl
   simp at this
   omega
  rw [List.drop_eq_nil_of_le (by simpa using hi)]
  exact hQ s σ φ a w he h
 | o :: l, i, s, σ, φ, a, w, hl, he, h => by
  have hi : i < ops.size := by
   have := congrArg ja hl
   simp at this
   omega
  have hoi : ops[i]? = some o := by
   have h1 := congrArg (·[0]?) hl
   simpa using h1
  have hl' : ops.toList.drop (i + 1) = l := by
   have h1 := congrArg (List.drop 1) hl
   simpa [qo, Nat.add_comm] using h1
  have next : ∀ a w, Zd n0 A O0 w0 (fun s' => Ey G r ops l (i + 1) s' k) out a w → wpOps P ops Q ((yx ops.size).drop (i + 1)) a w := by
   rintro a w ⟨s', σ', φ', h1, h2⟩
   exact D0 hG hfz hQ l (i + 1) s' σ' φ' a w hl' h1 h2
  simp only [Ey] at he
  split at he
  ·simp at he
  rename_i s1 hat
  obtain ⟨φ1, h⟩ := Lz hfz h hat
  have run : ∀ s, Ra n0 A O0 w0 s σ φ1 a w → VI G s o (fun s' => Ey G r ops l (i + 1) s' k) = some out → o.wp P a w (wpOps P ops Q ((yx ops.size).drop (i + 1))) Q := fun s hs hop =>
   Oper.wp_mono next (C0 hG hfz hs hop)
  have skp : ∀ s, Ra n0 A O0 w0 s σ φ1 a w → Kf s o.dst .und [] (fun s' => Ey G r ops l (i + 1) s' k) = some out → wpOps P ops Q ((yx ops.size).drop (i + 1)) (a.put o.dst undef) w := fun s hs hop =>
   next _ _ (P3 hs hop)
  rw [B7 hi]
  simp only [wpOps, hoi]
  cases hg : o.guard with
  | none =>
   rw [hg] at he
   have hw : Region.wanted o (yielded ops a.tmps) = true := by simp [Region.wanted, hg]
   rw [if_pos hw]
   exact .inl (run s1 h he)
  | some g =>
   obtain ⟨j, want⟩ := g
   rw [hg] at he
   simp only at he
   split at he
   ·rename_i t ht
    split at he
    ·rename_i β hd
     have hy := UK h ht hd
     have hwd : Region.wanted o (yielded ops a.tmps) = (some β == some want) := by simp [Region.wanted, hg, hy]
     have hs := h.same hd
     rw [hwd]
     cases hβ : (show Bool from β) with
     | true =>
      have hβ' : β = true := hβ
      subst hβ'
      simp only [y3] at he
      cases want with
      | true => rw [if_pos (by rfl)]; exact .inl (run _ hs he)
      | false => rw [if_neg (by simp)]; exact skp _ hs he
     | false =>
      have hβ' : β = false := hβ
      subst hβ'
      simp only [y8] at he
      cases want with
      | true => rw [if_neg (by simp)]; exact skp _ hs he
      | false => rw [if_pos (by rfl)]; exact .inl (run _ hs he)
    ·rename_i hd
     have hy := NM h ht hd
     have hwd : Region.wanted o (yielded ops a.tmps) = false := by simp [Region.wanted, hg, hy]
     rw [hwd, if_neg (by simp)]
     exact skp _ h he
    ·simp at he
   ·simp at he
end
abbrev Ef := D × List (Nat × Option Ja)
def AM (G : Qd) (s : AS) (o : Oper) (e : Ef) : Prop := ∀ (Out' : Type) (K' : D → List (Nat × Option Ja) → Option Out'), Dy G s o K' = K' e.1 e.2
theorem AM.congr {G : Qd} {s s' : AS} {o : Oper} {e : Ef} (h : AM G s o e) (ha : BS s s' o) : AM G s' o e := fun Out' K' => (W5 ha).trans (h Out' K')
def putE (s : AS) (dst : Option Tmp) (e : Ef) : AS := ⟨s.n, (match dst with | some t => [(t, e.1)] | none => []) ++ s.tm, e.2 ++ s.hp⟩
def PG (G : Qd) (ops : Array Oper) (s : AS) (o : Oper) (e : Ef) : Prop :=
 match o.guard with
 | none => AM G s o e
 | some (j, want) => ∃ t, (ops[j]?).bind (·.dst) = some t ∧ ((∃ β : Bool, Eb s.tm t = some (.t .b β) ∧ (if β = want then AM G s o e else e = (.und, []))) ∨ (Eb s.tm t = some .und ∧ e = (.und, [])))
def Pd (ops : Array Oper) (E : Nat → Ef) (L : Nat → Bool) (s0 : AS) : Nat → AS
 | 0 => s0
 | m + 1 => match ops[m]? with
  | some o => bif L m then putE (Pd ops E L s0 m) o.dst (E m) else Pd ops E L s0 m
  | none => Pd ops E L s0 m
structure Rab (H : List Nat) (ops : Array Oper) (s : AS) (o : Oper) (e : Ef) (f : FP) : Prop where
 wt : f.wt = o.dst
 wi : f.wi = e.2.map (·.1)
 mi : f.mi = e.1.ids ++ Bq e.2
 rt : ∀ t, t ∈ Bo (Wb o.op) → t ∈ f.rt
 rg : ∀ j want t, o.guard = some (j, want) → (ops[j]?).bind (·.dst) = some t → t ∈ f.rt
 ri : Sx o.op = false → ∀ x, x ∈ Wb o.op → ∀ d, s.ev x = some d → ∀ id, (d.ment id = true ∨ (Tz o.op = true ∧ id ∈ SC s d)) → id ∈ f.ri ∨ (Xg o.op = true ∧ id ∈ H)
def QI (H : List Nat) (s : AS) (e : Ef) : Prop := ∀ id, id ∈ H → id ∈ e.2.map (·.1) → ((Eb e.2 id).join).map Ja.kind = (s.heap id).map Ja.kind
structure PM (G : Qd) (H : List Nat) (ops : Array Oper) (s0 : AS) (E : Nat → Ef) (F : Nat → FP) (anc : Nat → List Nat) (m : Nat) (o : Oper) : Prop where
 step : PG G ops (Pd ops E (fun _ => true) s0 m) o (E m)
 fp : Rab H ops (Pd ops E (fun _ => true) s0 m) o (E m) (F m)
 dst : ∀ t, o.dst = some t → t < s0.n
 back : ∀ e, e ∈ o.after.toList → Region.binds .any e = true → e.on < m
 up : ∀ x, x ∈ anc m → ∃ e, e ∈ o.after.toList ∧ Region.binds .any e = true ∧ (x = e.on ∨ x ∈ anc e.on)
 ind : ∀ j, j < m → j ∈ anc m ∨ MP (F j) (F m) = true
 hard : QI H (Pd ops E (fun _ => true) s0 m) (E m)
theorem IH {l : List Nat} {x : Nat} : Ou l x = true ↔ x ∈ l := by
 unfold Ou
 rw [List.any_eq_true]
 constructor
 ·rintro ⟨y, hy, he⟩
  have := jv he
  exact this ▸ hy
 ·intro h; exact ⟨x, h, Nat.beq_refl x⟩
theorem Lw {l m : List Nat} (h : ME l m = false) : ∀ x, x ∈ l → x ∉ m := by
 intro x hx hm
 have : ME l m = true := by
  unfold ME
  rw [List.any_eq_true]
  exact ⟨x, hx, IH.2 hm⟩
 rw [h] at this; simp at this
theorem BI {t : Option Nat} {l : List Nat} (h : EZ t l = false) : ∀ x, t = some x → x ∉ l := by
 rintro x rfl hm
 simp only [EZ] at h
 rw [IH.2 hm] at h; simp at h
theorem JM {dst : Option Nat} {l : List Nat} (h : YP dst l = false) : ∀ id, Yj dst id → id ∉ l := by
 intro id hn hm
 have : YP dst l = true := by
  unfold YP
  cases dst with
  | some t =>
   simp only []
   rw [List.any_eq_true]
   refine ⟨id, hm, ?_⟩
   rcases hn with hn | hn
   ·simp only [jc] at hn
    subst hn
    simp
   ·simp only [qx] at hn
    have h1 : jy (100000 + 64 * t) id = true := jk hn.1
    have h2 : ya id (100064 + 64 * t) = true := by rw [yc]; exact hn.2
    simp [h1, h2]
  | none =>
   simp only []
   rw [List.any_eq_true]
   refine ⟨id, hm, ?_⟩
   rcases hn with hn | hn
   ·simp at hn
   ·simp only [Option.getD_none] at hn
    have hn1 : 100000 ≤ id := by simpa using hn.1
    have hn2 : id < 100064 := by simpa using hn.2
    have h1 : jy 100000 id = true := jk hn1
    have h2 : ya id 100064 = true := by rw [yc]; exact hn2
    simp [h1, h2]
 rw [h] at this; simp at this
structure HA (f g : FP) : Prop where
 t1 : ∀ x, f.wt = some x → x ∉ g.rt
 t2 : ∀ x, g.wt = some x → x ∉ f.rt
 t3 : ∀ x, f.wt = some x → g.wt ≠ some x
 i1 : ∀ x, x ∈ f.wi → x ∉ g.ri
 i2 : ∀ x, x ∈ g.wi → x ∉ f.ri
 i3 : ∀ x, x ∈ f.wi → x ∉ g.wi
 n1 : ∀ id, Yj f.wt id → id ∉ g.mi
 n2 : ∀ id, Yj g.wt id → id ∉ f.mi
theorem HA.symm {f g : FP} (h : HA f g) : HA g f :=
 ⟨h.t2, h.t1, fun x hx hf => h.t3 x hf hx, h.i2, h.i1, fun x hx hf => h.i3 x hf hx, h.n2, h.n1⟩
theorem RX {f g : FP} (h : MP f g = true) : HA f g := by
 simp only [MP, jd, yj] at h
 obtain ⟨⟨⟨⟨⟨⟨⟨h1, h2⟩, h3⟩, h4⟩, h5⟩, h6⟩, h7⟩, h8⟩ := h
 refine ⟨BI h1, BI h2, fun x hx hg => ?_, Lw h4, Lw h5, Lw h6, JM h7, JM h8⟩
 exact BI h3 x hx (by rw [hg]; simp)
theorem VC : ∀ {d : D} {id : Nat}, d.ment id = true ↔ id ∈ d.ids := by
 intro d
 induction d with
 | pr a b iha ihb => intro id; simp [D.ment, D.ids, iha, ihb]
 | tup d ih => intro id; simp only [D.ment, D.ids]; exact ih
 | own j => intro id; simp only [D.ment, D.ids, qd]; exact ⟨fun h => (jv h).symm, fun h => by rw [h]; exact Nat.beq_refl _⟩
 | mpo j => intro id; simp only [D.ment, D.ids, qd]; exact ⟨fun h => (jv h).symm, fun h => by rw [h]; exact Nat.beq_refl _⟩
 | cut j lo hi => intro id; simp only [D.ment, D.ids, qd]; exact ⟨fun h => (jv h).symm, fun h => by rw [h]; exact Nat.beq_refl _⟩
 | ptr j p => intro id; simp only [D.ment, D.ids, qd]; exact ⟨fun h => (jv h).symm, fun h => by rw [h]; exact Nat.beq_refl _⟩
 | eptr j i p => intro id; simp only [D.ment, D.ids, qd]; exact ⟨fun h => (jv h).symm, fun h => by rw [h]; exact Nat.beq_refl _⟩
 | _ => intro id; simp [D.ment, D.ids]
theorem IF {id : Nat} : ∀ {u : List (Nat × Option Ja)}, (u.any fun x => (x.2.map (Ja.ment id)).getD false) = true ↔ id ∈ Bq u
 | [] => by simp [Bq]
 | (j, none) :: r => by
  simp only [List.any_cons, Bq, Option.map_none, Option.getD_none, yr]
  exact IF (u := r)
 | (j, some b) :: r => by
  simp only [List.any_cons, Bq, qc, qx, qw, jm]
  rw [IF (u := r)]
  refine or_congr ?_ Iff.rfl
  cases b with
  | box ρ d => simp only [Ja.ment, Ja.ids]; exact VC
  | row e dp xs => simp [Ja.ment, Ja.ids]
  | hol e xs i x p τ d => simp only [Ja.ment, Ja.ids]; exact VC
  | mov e xs k => simp [Ja.ment, Ja.ids]
  | mp k v xs => simp [Ja.ment, Ja.ids]
  | mq k v xs => simp [Ja.ment, Ja.ids]
  | mx k v xs => simp [Ja.ment, Ja.ids]
  | fz e xs => simp [Ja.ment, Ja.ids]
section
variable {s s' : AS} {e : Ef} {dst : Option Tmp} {G : Qd} {ops : Array Oper}
theorem Mv {t : Nat} : Eb (putE s dst e).tm t = if dst = some t then some e.1 else Eb s.tm t := by
 cases dst with
 | none => simp [putE]
 | some t' => simp [putE, Vb]
theorem JZ {α : Type} {l m : List (Nat × α)} {k : Nat} : Eb (l ++ m) k = if k ∈ l.map (·.1) then Eb l k else Eb m k := by
 induction l with
 | nil => simp
 | cons p l ih =>
  obtain ⟨j, a⟩ := p
  rw [yf, Vb, Vb, ih]
  by_cases h : j = k
  ·subst h; simp
  ·have h' : ¬ k = j := fun e => h e.symm
   have hk : k ∈ ((j, a) :: l).map (·.1) ↔ k ∈ l.map (·.1) := by simp [h']
   simp only [hk, if_neg h]
theorem Yr {id : Nat} : (putE s dst e).heap id = if id ∈ e.2.map (·.1) then (Eb e.2 id).join else s.heap id := by
 simp only [AS.heap, putE, JZ]
 split <;> rfl
theorem Lad {id : Nat} (h : id ∉ e.1.ids ++ Bq e.2) : (putE s dst e).newOk id = s.newOk id := by
 rw [jm, not_or] at h
 have h1 : e.1.ment id = false := by rw [← qa]; exact fun hm => h.1 (VC.1 hm)
 have h2 : (e.2.any fun x => (x.2.map (Ja.ment id)).getD false) = false := by rw [← qa]; exact fun hm => h.2 (IF.1 hm)
 unfold AS.newOk
 congr 2
 simp only [AS.ment, putE, List.any_append, h2, yr]
 cases dst with
 | none => simp
 | some t => simp [h1]
theorem VQ {x : Operand} {l : List Operand} (hx : x ∈ l) (h : ∀ t, t ∈ Bo l → Eb s'.tm t = Eb s.tm t) : s'.ev x = s.ev x := by
 cases x with
 | tmp t =>
  refine h t ?_
  induction l with
  | nil => simp at hx
  | cons y l ih =>
   rcases jq.1 hx with e | hx2
   ·subst e; simp [Bo]
   ·cases y with
    | tmp t' => simp only [Bo]; exact js _ (ih (fun t ht => h t (by simp only [Bo]; exact js _ ht)) hx2)
    | const v => simp only [Bo]; exact ih (fun t ht => h t (by simp only [Bo]; exact ht)) hx2
    | global g => simp only [Bo]; exact ih (fun t ht => h t (by simp only [Bo]; exact ht)) hx2
    | func g => simp only [Bo]; exact ih (fun t ht => h t (by simp only [Bo]; exact ht)) hx2
 | _ => rfl
theorem PT {E : Nat → Ef} {F : Nat → FP} {L L' : Nat → Bool} {s0 : AS} {f : FP}
 (hF : ∀ m o, ops[m]? = some o → (F m).wt = o.dst ∧ (F m).wi = (E m).2.map (·.1) ∧ (F m).mi = (E m).1.ids ++ Bq (E m).2)
 (hd : ∀ m, m < ops.size → L m ≠ L' m → HA (F m) f) : ∀ m, m ≤ ops.size →
 (∀ t, t ∈ f.rt → Eb (Pd ops E L s0 m).tm t = Eb (Pd ops E L' s0 m).tm t) ∧ (∀ id, id ∈ f.ri → (Pd ops E L s0 m).heap id = (Pd ops E L' s0 m).heap id) ∧
  (∀ id, Yj f.wt id → (Pd ops E L s0 m).newOk id = (Pd ops E L' s0 m).newOk id)
 | 0, _ => ⟨fun _ _ => rfl, fun _ _ => rfl, fun _ _ => rfl⟩
 | m + 1, hm => by
  obtain ⟨h1, h2, h3⟩ := PT hF hd m (by omega)
  have hom : ops[m]? = some ops[m] := Array.getElem?_eq_getElem (by omega)
  obtain ⟨g1, g2, g3⟩ := hF m _ hom
  simp only [Pd, hom]
  have apart : L m ≠ L' m → HA (F m) f := hd m (by omega)
  have p1 : ∀ (S : AS) t, L m ≠ L' m → t ∈ f.rt → Eb (putE S ops[m].dst (E m)).tm t = Eb S.tm t := by
   intro S t hne ht
   rw [Mv, if_neg]
   intro hdst
   exact (apart hne).t1 t (g1.trans hdst) ht
  have p2 : ∀ (S : AS) id, L m ≠ L' m → id ∈ f.ri → (putE S ops[m].dst (E m)).heap id = S.heap id := by
   intro S id hne hid
   rw [Yr, if_neg]
   intro hk
   exact (apart hne).i1 id (by rw [g2]; exact hk) hid
  have p3 : ∀ (S : AS) id, L m ≠ L' m → Yj f.wt id → (putE S ops[m].dst (E m)).newOk id = S.newOk id := by
   intro S id hne hid
   refine Lad ?_
   rw [← g3]
   exact (apart hne).n2 id hid
  cases hL : L m <;> cases hL' : L' m <;> simp only [y3, y8]
  ·exact ⟨h1, h2, h3⟩
  ·have hne : L m ≠ L' m := by rw [hL, hL']; simp
   exact ⟨fun t ht => (h1 t ht).trans (p1 _ t hne ht).symm, fun id hid => (h2 id hid).trans (p2 _ id hne hid).symm, fun id hid => (h3 id hid).trans (p3 _ id hne hid).symm⟩
  ·have hne : L m ≠ L' m := by rw [hL, hL']; simp
   exact ⟨fun t ht => (p1 _ t hne ht).trans (h1 t ht), fun id hid => (p2 _ id hne hid).trans (h2 id hid), fun id hid => (p3 _ id hne hid).trans (h3 id hid)⟩
  ·refine ⟨fun t ht => ?_, fun id hid => ?_, fun id hid => ?_⟩
   ·rw [Mv, Mv, h1 t ht]
   ·rw [Yr, Yr, h2 id hid]
   ·have e0 := h3 id hid
    unfold AS.newOk at e0 ⊢
    simp only [AS.ment, putE, List.any_append] at e0 ⊢
    revert e0
    generalize ((match ops[m].dst with | some t => [(t, (E m).1)] | none => []).any fun x => x.2.ment id) = b1
    generalize ((E m).2.any fun x => (x.2.map (Ja.ment id)).getD false) = b2
    generalize ((Pd ops E L s0 m).tm.any fun x => x.2.ment id) = c1
    generalize ((Pd ops E L s0 m).hp.any fun x => (x.2.map (Ja.ment id)).getD false) = c2
    generalize ((Pd ops E L' s0 m).tm.any fun x => x.2.ment id) = d1
    generalize ((Pd ops E L' s0 m).hp.any fun x => (x.2.map (Ja.ment id)).getD false) = d2
    generalize ya id 500000 = z
    cases b1 <;> cases b2 <;> cases c1 <;> cases c2 <;> cases d1 <;> cases d2 <;> cases z <;> simp
theorem YN {E : Nat → Ef} {H : List Nat} {s0 : AS} : ∀ (m : Nat), m ≤ ops.size → (∀ j o, j < m → ops[j]? = some o → QI H (Pd ops E (fun _ => true) s0 j) (E j)) → ∀ id, id ∈ H → ∀ L : Nat → Bool, ((Pd ops E L s0 m).heap id).map Ja.kind = (s0.heap id).map Ja.kind
 | 0, _, _, _, _, _ => rfl
 | m + 1, hm, hh, id, hid, L => by
  have ih := YN m (by omega) (fun j o hj => hh j o (by omega)) id hid
  have hom : ops[m]? = some ops[m] := Array.getElem?_eq_getElem (by omega)
  simp only [Pd, hom]
  cases hL : L m with
  | false => simp only [y8]; exact ih L
  | true =>
   simp only [y3]
   rw [Yr]
   split
   ·rename_i hk
    rw [hh m _ (by omega) hom id hid hk]
    exact ih _
   ·exact ih L
theorem NQ {E : Nat → Ef} {L : Nat → Bool} {s0 : AS} : ∀ m, (Pd ops E L s0 m).n = s0.n
 | 0 => rfl
 | m + 1 => by
  simp only [Pd]
  split
  ·cases L m with
   | true => simp only [y3, putE]; exact NQ m
   | false => simp only [y8]; exact NQ m
  ·exact NQ m
theorem Ev {E E' : Nat → Ef} {L L' : Nat → Bool} {s0 : AS} : ∀ m, (∀ j, j < m → E j = E' j ∧ L j = L' j) → Pd ops E L s0 m = Pd ops E' L' s0 m
 | 0, _ => rfl
 | m + 1, h => by
  have ih := Ev (E := E) (E' := E') (L := L) (L' := L') (s0 := s0) m fun j hj => h j (by omega)
  simp only [Pd, ih, (h m (by omega)).1, (h m (by omega)).2]
theorem ZN {E : Nat → Ef} {L : Nat → Bool} {s0 : AS} {i : Nat} : ∀ m, i ≤ m → (∀ j, i ≤ j → j < m → L j = false) → Pd ops E L s0 m = Pd ops E L s0 i
 | 0, h, _ => by
  have : i = 0 := by omega
  subst this; rfl
 | m + 1, h, hL => by
  by_cases he : i = m + 1
  ·subst he; rfl
  ·rw [← ZN m (by omega) fun j h1 h2 => hL j h1 (by omega)]
   simp only [Pd, hL m (by omega) (by omega)]
   split <;> rfl
theorem R3 {E : Nat → Ef} {F : Nat → FP} {L : Nat → Bool} {s0 : AS} {i : Nat} {o : Oper} (hi : ops[i]? = some o)
 (hF : ∀ m o, ops[m]? = some o → (F m).wt = o.dst ∧ (F m).wi = (E m).2.map (·.1) ∧ (F m).mi = (E m).1.ids ++ Bq (E m).2)
 (hLi : L i = false) (hd : ∀ m, m < ops.size → i < m → L m = true → HA (F m) (F i)) : ∀ m, i < m → m ≤ ops.size →
 Eqv (putE (Pd ops E L s0 m) o.dst (E i)) (Pd ops E (fun j => L j || qv j i) s0 m)
 | 0, h, _ => by omega
 | m + 1, h, hm => by
  by_cases he : m = i
  ·subst he
   have h1 : Pd ops E L s0 (m + 1) = Pd ops E L s0 m := by simp only [Pd, hLi]; split <;> rfl
   have h2 : Pd ops E (fun j => L j || qv j m) s0 m = Pd ops E L s0 m := Ev m fun j hj => by
    refine ⟨rfl, ?_⟩
    have : qv j m = false := by rw [← qa]; intro e; have := jv e; omega
    simp [this]
   have h3 : Pd ops E (fun j => L j || qv j m) s0 (m + 1) = putE (Pd ops E L s0 m) o.dst (E m) := by
    simp only [Pd, hi, Nat.beq_refl, Bool.or_true, y3]
    rw [h2]
   rw [h1, h3]
   exact Eqv.refl _
  ·have ih := R3 (s0 := s0) hi hF hLi hd m (by omega) (by omega)
   have hom : ops[m]? = some ops[m] := Array.getElem?_eq_getElem (by omega)
   have hb : qv m i = false := by rw [← qa]; intro e; exact he (jv e)
   obtain ⟨g1, g2, g3⟩ := hF m _ hom
   obtain ⟨k1, k2, k3⟩ := hF i _ hi
   simp only [Pd, hom, hb, Bool.or_false]
   cases hL : L m with
   | false => exact ih
   | true =>
    simp only [y3]
    have hind := hd m (by omega) (by omega) hL
    refine ⟨by simp only [putE]; exact ih.n, fun t => ?_, fun id => ?_⟩
    ·rw [Mv, Mv, Mv, ih.tm t, Mv]
     by_cases h1 : ops[m].dst = some t
     ·rw [if_pos h1, if_neg, if_pos h1]
      intro h2
      exact hind.t3 t (g1.trans h1) (k1.trans h2)
     ·rw [if_neg h1, if_neg h1]
    ·rw [Yr, Yr, Yr, ih.hp id, Yr]
     by_cases h1 : id ∈ (E m).2.map (·.1)
     ·rw [if_pos h1, if_neg, if_pos h1]
      intro h2
      exact hind.i3 id (by rw [g2]; exact h1) (by rw [k2]; exact h2)
     ·rw [if_neg h1, if_neg h1]
end
theorem Bac {p q : Nat → Bool} {i : Nat} (hpq : ∀ j, q j = true → p j = true) (hp : p i = true) (hq : q i = false) : ∀ n, i < n → (yx n).countP q < (yx n).countP p := by
 have hle : ∀ n, (yx n).countP q ≤ (yx n).countP p := fun n => List.countP_mono_left fun j _ h => hpq j h
 intro n
 induction n with
 | zero => intro h; omega
 | succ n ih =>
  intro h
  rw [List.range_succ, List.countP_append, List.countP_append]
  by_cases he : i = n
  ·subst he
   have := hle i
   simp [hp, hq]
   omega
  ·have := ih (by omega)
   have h2 : [n].countP q ≤ [n].countP p := List.countP_mono_left fun j _ h => hpq j h
   omega
section
variable {P : Program} {n0 : Nat} {A : Fx} {O0 : Nat → Prop} {w0 : World} {G : Qd} {ops : Array Oper} {s0 : AS} {E : Nat → Ef} {F : Nat → FP} {anc : Nat → List Nat} {H : List Nat} {Q : Exit → Act → World → Prop}
def Lr (listed : Array Bool) (j : Nat) : Bool := listed.getD j false
def WV (ops : Array Oper) (L : Nat → Bool) : Prop := ∀ j o, ops[j]? = some o → L j = true → ∀ e, e ∈ o.after.toList → Region.binds .any e = true → L e.on = true
theorem XG (hPM : ∀ m o, ops[m]? = some o → PM G H ops s0 E F anc m o) {L : Nat → Bool} (hc : WV ops L) : ∀ (b m : Nat), m < b → m < ops.size → L m = true → ∀ x, x ∈ anc m → L x = true
 | 0, _, h, _, _, _, _ => by omega
 | b + 1, m, hb, hm, hL, x, hx => by
  have hom : ops[m]? = some ops[m] := Array.getElem?_eq_getElem hm
  obtain ⟨e, he, hbn, hxe⟩ := (hPM m _ hom).up x hx
  have h1 := hc m _ hom hL e he hbn
  have h2 := (hPM m _ hom).back e he hbn
  rcases hxe with rfl | hxe
  ·exact h1
  ·exact XG hPM hc b e.on (by omega) (by omega) h1 x hxe
theorem CK {listed : Array Bool} {i : Nat} : i ∈ Region.ready .any ops listed ↔ i < ops.size ∧ listed.getD i true = false ∧ ∃ o, ops[i]? = some o ∧ ∀ e, e ∈ o.after.toList → Region.binds .any e = true → listed.getD e.on false = true := by
 unfold Region.ready
 rw [List.mem_filter, List.mem_range]
 constructor
 ·rintro ⟨h1, h2⟩
  have hom : ops[i]? = some ops[i] := Array.getElem?_eq_getElem h1
  rw [hom] at h2
  simp only [qc, qx, jd, yj] at h2
  refine ⟨h1, h2.1, _, hom, fun e he hb => ?_⟩
  have h3 := h2.2
  rw [Array.all_eq_true'] at h3
  have := h3 e (Array.mem_toList_iff.1 he)
  rw [hb] at this
  simpa using this
 ·rintro ⟨h1, h2, o, ho, h3⟩
  refine ⟨h1, ?_⟩
  rw [ho]
  simp only [qc, qx, jd, yj]
  refine ⟨h2, ?_⟩
  rw [Array.all_eq_true']
  intro e he
  cases hb : Region.binds .any e with
  | false => rfl
  | true => simpa using h3 e (Array.mem_toList_iff.2 he) hb
theorem SO (hPM : ∀ m o, ops[m]? = some o → PM G H ops s0 E F anc m o) {listed : Array Bool} (hsz : listed.size = ops.size) (hr : Region.ready .any ops listed = []) : ∀ (b j : Nat), j < b → j < ops.size → Lr listed j = true
 | 0, _, h, _ => by omega
 | b + 1, j, hb, hj => by
  by_cases h : Lr listed j = true
  ·exact h
  ·exfalso
   have hom : ops[j]? = some ops[j] := Array.getElem?_eq_getElem hj
   have : j ∈ Region.ready .any ops listed := by
    refine CK.2 ⟨hj, ?_, _, hom, fun e he hbn => ?_⟩
    ·unfold Lr at h
     simp only [qa] at h
     have hjl : j < listed.size := by omega
     simp [Array.getD, hjl] at h ⊢
     exact h
    ·have := (hPM j _ hom).back e he hbn
     exact SO hPM hsz hr b e.on (by omega) (by omega)
   rw [hr] at this
   simp at this
theorem SW {op : Op} (h : Tz op = true) : Sx op = false := by
 cases op <;> first | rfl | simp [Tz] at h
theorem KU {op : Op} (h : Xg op = true) : Sx op = false := by
 cases op <;> first | rfl | simp [Xg] at h
theorem BS.of_stL (hPM : ∀ m o, ops[m]? = some o → PM G H ops s0 E F anc m o) {L : Nat → Bool} (hc : WV ops L) {i : Nat} {o : Oper} (hi : ops[i]? = some o) (hLi : L i = false)
 (hready : ∀ e, e ∈ o.after.toList → Region.binds .any e = true → L e.on = true) :
 BS (Pd ops E (fun _ => true) s0 i) (Pd ops E L s0 ops.size) o ∧ (∀ t, t ∈ (F i).rt → Eb (Pd ops E L s0 ops.size).tm t = Eb (Pd ops E (fun _ => true) s0 i).tm t) ∧
  (∀ m, m < ops.size → i < m → L m = true → HA (F m) (F i)) := by
 have hin : i < ops.size := (Array.getElem?_eq_some_iff.1 hi).1
 have hF : ∀ m o, ops[m]? = some o → (F m).wt = o.dst ∧ (F m).wi = (E m).2.map (·.1) ∧ (F m).mi = (E m).1.ids ++ Bq (E m).2 := fun m o ho => ⟨(hPM m o ho).fp.wt, (hPM m o ho).fp.wi, (hPM m o ho).fp.mi⟩
 have hgt : ∀ m, m < ops.size → i < m → L m = true → HA (F m) (F i) := by
  intro m hm him hL
  have hom : ops[m]? = some ops[m] := Array.getElem?_eq_getElem hm
  rcases (hPM m _ hom).ind i him with h | h
  ·have := XG hPM hc (m + 1) m (by omega) hm hL i h
   rw [hLi] at this; simp at this
  ·exact (RX h).symm
 have hd : ∀ m, m < ops.size → L m ≠ ya m i → HA (F m) (F i) := by
  intro m hm hne
  rcases Nat.lt_trichotomy m i with h | h | h
  ·have hb : ya m i = true := by rw [yc]; exact h
   have hL : L m = false := by
    rw [hb] at hne
    simpa using hne
   rcases (hPM i _ hi).ind m h with h' | h'
   ·exfalso
    obtain ⟨e, he, hbn, hxe⟩ := (hPM i _ hi).up m h'
    have h1 := hready e he hbn
    rcases hxe with rfl | hxe
    ·rw [hL] at h1; simp at h1
    ·have h2 := (hPM i _ hi).back e he hbn
     have := XG hPM hc (e.on + 1) e.on (by omega) (by omega) h1 m hxe
     rw [hL] at this; simp at this
   ·exact RX h'
  ·subst h
   exfalso
   apply hne
   rw [hLi]
   have : ya m m = false := by rw [← qa, yc]; omega
   exact this.symm
  ·have hb : ya m i = false := by
    rw [← qa, yc]; omega
   have hL : L m = true := by
    rw [hb] at hne
    simpa using hne
   exact hgt m hm h hL
 obtain ⟨a1, a2, a3⟩ := PT (ops := ops) (s0 := s0) (f := F i) hF hd ops.size (jp _)
 have hst : Pd ops E (fun j => ya j i) s0 ops.size = Pd ops E (fun _ => true) s0 i := by
  rw [ZN (i := i) ops.size (by omega) fun j h1 h2 => by
   show ya j i = false
   rw [← qa, yc]; omega]
  exact Ev i fun j hj => ⟨rfl, by rw [yc]; exact hj⟩
 rw [hst] at a1 a2 a3
 have fp := (hPM i _ hi).fp
 refine ⟨⟨fun x hx => VQ hx fun t ht => a1 t (fp.rt t ht), fun hmv hsp x hx d hd' id hm => a2 id ((fp.ri hmv x hx d hd' id (.inl hm)).resolve_right fun h => by rw [hsp] at h; simp at h),
  fun hsp x hx d hd' id hm => ?_, fun id hid => a3 id (by rw [fp.wt]; exact hid),
  fun hcl hsp x hx bid p hev ρ d hb id hm => a2 id ((fp.ri (SW hcl) x hx _ hev id (.inr ⟨hcl, by simp only [SC, hb]; exact VC.1 hm⟩)).resolve_right fun h => by rw [hsp] at h; simp at h)⟩, a1, hgt⟩
 rcases fp.ri (KU hsp) x hx d hd' id (.inl hm) with h | h
 ·rw [a2 id h]
 ·have hh : ∀ j o, ops[j]? = some o → QI H (Pd ops E (fun _ => true) s0 j) (E j) := fun j o ho => (hPM j o ho).hard
  rw [YN ops.size (jp _) (fun j o _ ho => hh j o ho) id h.2, YN i (Nat.le_of_lt hin) (fun j o _ ho => hh j o ho) id h.2]
theorem BN {s : AS} {dst : Option Tmp} {e : Ef} (hd : ∀ t, dst = some t → t < s.n) {Out : Type} {k : AS → Option Out} : Kf s dst e.1 e.2 k = k (putE s dst e) := by
 cases dst with
 | none => rfl
 | some t =>
  have : ya t s.n = true := by rw [yc]; exact hd t rfl
  simp only [Kf, this, y3, putE]
  rfl
theorem Had (hG : Ui P A.I G) (hfz : OC G A O0) (hPM : ∀ m o, ops[m]? = some o → PM G H ops s0 E F anc m o)
 (hQ : ∀ σ φ a w, Ra n0 A O0 w0 (Pd ops E (fun _ => true) s0 ops.size) σ φ a w → Q .normal a w) :
 ∀ (fuel : Nat) (listed : Array Bool) (σ : Nat → Value) (φ : Nat → List Nat) (a : Act) (w : World), listed.size = ops.size → (yx ops.size).countP (fun j => !listed.getD j true) ≤ fuel →
  WV ops (Lr listed) → Ra n0 A O0 w0 (Pd ops E (Lr listed) s0 ops.size) σ φ a w → wpAny P .any ops Q fuel listed a w := by
 intro fuel
 have fin' : ∀ (listed : Array Bool) (σ : Nat → Value) (φ : Nat → List Nat) (a : Act) (w : World), listed.size = ops.size → Region.ready .any ops listed = [] →
  Ra n0 A O0 w0 (Pd ops E (Lr listed) s0 ops.size) σ φ a w → Q .normal a w := by
  intro listed σ φ a w hsz hr h
  refine hQ σ φ a w ?_
  rw [← Ev (L := Lr listed) ops.size fun j hj => ⟨rfl, SO hPM hsz hr (j + 1) j (by omega) hj⟩]
  exact h
 induction fuel with
 | zero =>
  intro listed σ φ a w hsz hcnt hc h
  have hr : Region.ready .any ops listed = [] := by
   rw [List.eq_nil_iff_forall_not_mem]
   intro i hi
   obtain ⟨h1, h2, _⟩ := CK.1 hi
   have : 0 < (yx ops.size).countP (fun j => !listed.getD j true) := List.countP_pos_iff.2 ⟨i, List.mem_range.2 h1, by rw [h2]; rfl⟩
   omega
  exact ⟨hr, fin' listed σ φ a w hsz hr h⟩
 | succ fuel ih =>
  intro listed σ φ a w hsz hcnt hc h
  refine ⟨fun hr => fin' listed σ φ a w hsz hr h, fun i hi => ?_⟩
  obtain ⟨hin, hun, o, ho, hed⟩ := CK.1 hi
  have hil : i < listed.size := by omega
  have hLi : Lr listed i = false := by
   unfold Lr
   simp [Array.getD, hil] at hun ⊢
   exact hun
  obtain ⟨hag, htm, hgt⟩ := BS.of_stL hPM hc ho hLi hed
  have pm := hPM i o ho
  have hF : ∀ m o, ops[m]? = some o → (F m).wt = o.dst ∧ (F m).wi = (E m).2.map (·.1) ∧ (F m).mi = (E m).1.ids ++ Bq (E m).2 := fun m o ho => ⟨(hPM m o ho).fp.wt, (hPM m o ho).fp.wi, (hPM m o ho).fp.mi⟩
  have hadd := R3 (s0 := s0) (L := Lr listed) ho hF hLi hgt ops.size hin (jp _)
  have hset : ∀ j, Lr (listed.setIfInBounds i true) j = (Lr listed j || qv j i) := by
   intro j
   unfold Lr
   by_cases hji : j = i
   ·subst hji
    simp [Array.getD, hil]
   ·have hb : qv j i = false := by rw [← qa]; intro e; exact hji (jv e)
    rw [hb, Bool.or_false]
    simp only [Array.getD_eq_getD_getElem?]
    rw [Array.getElem?_setIfInBounds_ne (fun e => hji e.symm)]
  have next : ∀ σ φ a w, Ra n0 A O0 w0 (putE (Pd ops E (Lr listed) s0 ops.size) o.dst (E i)) σ φ a w → wpAny P .any ops Q fuel (listed.setIfInBounds i true) a w := by
   intro σ φ a w h
   have h2 := h.eqv hadd
   have h3 : Pd ops E (fun j => Lr listed j || qv j i) s0 ops.size = Pd ops E (Lr (listed.setIfInBounds i true)) s0 ops.size := Ev ops.size fun j _ => ⟨rfl, (hset j).symm⟩
   rw [h3] at h2
   refine ih (listed.setIfInBounds i true) σ φ a w (by simpa using hsz) ?_ ?_ h2
   ·have hlt := Bac (p := fun j => !listed.getD j true) (q := fun j => !(listed.setIfInBounds i true).getD j true) (i := i) ?_ (by simp only [hun, Bool.not_false]) ?_ ops.size hin
    ·omega
    ·intro j hj
     by_cases hji : j = i
     ·subst hji; simp [hun]
     ·simp only [Array.getD_eq_getD_getElem?] at hj ⊢
      rw [Array.getElem?_setIfInBounds_ne (fun e => hji e.symm)] at hj
      exact hj
    ·simp [Array.getD, hil]
   ·intro j oj hoj hL e he hbn
    rw [hset] at hL ⊢
    cases hLj : Lr listed j with
    | true => rw [hc j oj hoj hLj e he hbn]; rfl
    | false =>
     rw [hLj, yr] at hL
     have := jv hL
     subst this
     rw [ho] at hoj
     simp only [jc] at hoj
     subst hoj
     have := hed e he hbn
     unfold Lr
     rw [this]; rfl
  have hdn : ∀ t, o.dst = some t → t < (Pd ops E (Lr listed) s0 ops.size).n := fun t ht => by rw [NQ]; exact pm.dst t ht
  have run : AM G (Pd ops E (fun _ => true) s0 i) o (E i) → o.wp P a w (wpAny P .any ops Q fuel (listed.setIfInBounds i true)) Q := by
   intro hE
   have hE' := hE.congr hag
   have : VI G (Pd ops E (Lr listed) s0 ops.size) o some = some (putE (Pd ops E (Lr listed) s0 ops.size) o.dst (E i)) := by
    rw [← W7]
    rw [hE']
    exact BN hdn
   refine Oper.wp_mono ?_ (C0 hG hfz h this)
   rintro a w ⟨s2, σ', φ', h1, h2⟩
   simp only [jc] at h1
   subst h1
   exact next σ' φ' a w h2
  have skp : E i = (.und, []) → wpAny P .any ops Q fuel (listed.setIfInBounds i true) (a.put o.dst undef) w := by
   intro hE
   have := P3 (dst := o.dst) (k := some) (out := putE (Pd ops E (Lr listed) s0 ops.size) o.dst (.und, [])) h (BN (e := (.und, [])) hdn)
   obtain ⟨s2, σ', φ', h1, h2⟩ := this
   simp only [jc] at h1
   subst h1
   rw [← hE] at h2
   exact next σ' φ' _ w h2
  have hst := pm.step
  unfold wpOp
  rw [ho]
  simp only []
  unfold PG at hst
  cases hg : o.guard with
  | none =>
   rw [hg] at hst
   rw [if_pos (by simp [Region.wanted, hg])]
   exact .inl (run hst)
  | some g =>
   obtain ⟨j, want⟩ := g
   rw [hg] at hst
   obtain ⟨t, ht, hst⟩ := hst
   have htr : t ∈ (F i).rt := pm.fp.rg j want t hg ht
   have hlook := htm t htr
   rcases hst with ⟨β, hd, hst⟩ | ⟨hd, hst⟩
   ·rw [hd] at hlook
    have hy := UK h ht hlook
    have hwd : Region.wanted o (yielded ops a.tmps) = (some β == some want) := by simp [Region.wanted, hg, hy]
    rw [hwd]
    by_cases hβ : β = want
    ·subst hβ
     rw [if_pos (by simp)]
     rw [if_pos rfl] at hst
     exact .inl (run hst)
    ·rw [if_neg (by simpa using hβ)]
     rw [if_neg hβ] at hst
     exact skp hst
   ·rw [hd] at hlook
    have hy := NM h ht hlook
    have hwd : Region.wanted o (yielded ops a.tmps) = false := by simp [Region.wanted, hg, hy]
    rw [hwd, if_neg (by simp)]
    exact skp hst
end
structure Vi (s s' : AS) : Prop extends Eqv s s' where
 nw : ∀ id, s'.newOk id = s.newOk id
theorem Vi.refl (s : AS) : Vi s s := ⟨Eqv.refl s, fun _ => rfl⟩
theorem Vi.agr {s s' : AS} (h : Vi s s') (o : Oper) : BS s s' o :=
 ⟨fun _ hx => VQ hx fun t _ => h.tm t, fun _ _ _ _ _ _ id _ => h.hp id, fun _ _ _ _ _ id _ => by rw [h.hp id], fun id _ => h.nw id, fun _ _ _ _ _ _ _ _ _ _ id _ => h.hp id⟩
theorem Vi.symm {s s' : AS} (h : Vi s s') : Vi s' s := ⟨h.toEqv.symm, fun id => (h.nw id).symm⟩
theorem Vi.trans {s1 s2 s3 : AS} (h : Vi s1 s2) (h' : Vi s2 s3) : Vi s1 s3 := ⟨h.toEqv.trans h'.toEqv, fun id => (h'.nw id).trans (h.nw id)⟩
theorem Vi.putE {s s' : AS} (h : Vi s s') (dst : Option Tmp) (e : Ef) : Vi (KF.putE s dst e) (KF.putE s' dst e) := by
 refine ⟨⟨h.n, fun t => ?_, fun id => ?_⟩, fun id => ?_⟩
 ·rw [Mv, Mv, h.tm t]
 ·rw [Yr, Yr, h.hp id]
 ·have e0 := h.nw id
  unfold AS.newOk at e0 ⊢
  simp only [AS.ment, KF.putE, List.any_append] at e0 ⊢
  revert e0
  generalize ((match dst with | some t => [(t, e.1)] | none => []).any fun x => x.2.ment id) = b1
  generalize (e.2.any fun x => (x.2.map (Ja.ment id)).getD false) = b2
  generalize (s.tm.any fun x => x.2.ment id) = c1
  generalize (s.hp.any fun x => (x.2.map (Ja.ment id)).getD false) = c2
  generalize (s'.tm.any fun x => x.2.ment id) = d1
  generalize (s'.hp.any fun x => (x.2.map (Ja.ment id)).getD false) = d2
  generalize ya id 500000 = z
  cases b1 <;> cases b2 <;> cases c1 <;> cases c2 <;> cases d1 <;> cases d2 <;> cases z <;> simp
theorem Vi.refine {s : AS} {t : Nat} {β : Bool} (hd : Eb s.tm t = some (.t .b β)) : Vi s ⟨s.n, (t, .t .b β) :: s.tm, s.hp⟩ := by
 refine ⟨⟨rfl, fun t' => ?_, fun _ => rfl⟩, fun id => ?_⟩
 ·rw [Vb]
  split
  ·rename_i e; subst e; exact hd.symm
  ·rfl
 ·simp [AS.newOk, AS.ment, D.ment]
theorem OW {s s' : AS} (h : ∀ j, s'.heap j = s.heap j) (d : D) : SC s d = SC s' d := by
 cases d with
 | ptr id p => simp only [SC, h id]
 | _ => rfl
def Uaf (s : AS) (u : List (Nat × Option Ja)) : Prop := u = [] ∨ ∃ id b tl, u = (id, some b) :: tl ∧ (s.heap id).map Ja.kind = some b.kind
theorem CT {s : AS} {dst : Option Tmp} {τ : Ty} {id i : Nat} {e : Ty} {xs : List (T e)} {k : Nat} {ef : Ef} (hs : (s.heap id).map Ja.kind = some (none, some (e, ja xs)))
 (h : Mr s dst τ id i e xs k (fun d u => some (d, u)) = some ef) : Uaf s ef.2 := by
 unfold Mr at h
 split at h
 ·cases hb : qv i k with
  | false => rw [hb] at h; simp at h
  | true =>
   rw [hb] at h
   simp only [y3, qf] at h
   obtain ⟨x, hx, h⟩ := h
   simp only [Ha, jc] at h
   obtain ⟨_, rfl⟩ := h
   exact .inr ⟨id, _, _, rfl, hs⟩
 ·simp at h
theorem E6 {α : Type} {c : Bool} {a b : Option α} {x : α} (h : (bif c then a else b) = some x) : a = some x ∨ b = some x := by cases c <;> simp_all
theorem Tai {G : Qd} {s : AS} {o : Oper} {ef : Ef} (hk : LC o.op = true) (h : Qb G s o (fun d u => some (d, u)) = some ef) : Uaf s ef.2 := by
 cases ho : o.op with
 | load t x =>
  simp only [Qb, ho] at h
  split at h
  ·split at h
   ·split at h
    ·split at h
     ·simp only [jc] at h; rw [← h]; exact .inl rfl
     ·simp at h
    ·simp at h
   ·simp at h
  ·split at h
   ·simp only [jc] at h; rw [← h]; exact .inl rfl
   ·simp at h
  ·rename_i τ id i path _ _
   cases hml : ZC G o.dst with
   | true =>
    rw [hml] at h
    simp only [y3] at h
    split at h
    ·rename_i hb hz; exact CT (by rw [hb]; rfl) h
    ·rename_i hb hz; exact CT (by rw [hb]; rfl) h
    ·simp at h
   | false =>
    rw [hml] at h
    simp only [y8] at h
    split at h
    ·rename_i e dp xs hb
     simp only [qf] at h
     obtain ⟨x, hx, h⟩ := h
     split at h
     ·split at h
      ·rcases E6 h with h | h
       ·simp only [jc] at h; rw [← h]; exact .inl rfl
       ·split at h
        ·simp only [Ha, jc] at h
         obtain ⟨_, rfl⟩ := h
         exact .inr ⟨id, _, _, rfl, by rw [hb]; rfl⟩
        ·simp at h
      ·simp at h
     ·simp at h
    ·split at h
     ·simp only [Ha, jc] at h
      rw [← h.2]; exact .inl rfl
     ·simp at h
    ·simp at h
  ·simp at h
 | store t x v =>
  simp only [Qb, ho] at h
  split at h
  ·rename_i τ id path dv _ _ _
   split at h
   ·rename_i ρ d hb
    split at h
    ·split at h
     ·simp only [Ha, jc] at h
      obtain ⟨_, rfl⟩ := h
      exact .inr ⟨id, _, _, rfl, by rw [hb]; rfl⟩
     ·simp at h
    ·simp at h
   ·simp at h
  ·rename_i τ id i path dv _ _ _
   split at h
   ·rename_i e dp xs hb
    split at h
    ·split at h
     ·cases hc : (dp || e.flat) with
      | true =>
       rw [hc] at h
       simp only [y3] at h
       split at h
       ·simp only [Ha, qf] at h
        obtain ⟨_, x, hx, h⟩ := h
        split at h
        ·simp only [jc] at h; rw [← h]
         exact .inr ⟨id, _, _, rfl, by rw [hb]; simp [Ja.kind]⟩
        ·simp at h
       ·simp at h
      | false =>
       rw [hc] at h
       simp only [y8] at h
       split at h
       ·simp only [qf] at h
        obtain ⟨x, hx, h⟩ := h
        split at h
        ·simp only [jc] at h; rw [← h]
         exact .inr ⟨id, _, _, rfl, by rw [hb]; simp [Ja.kind]⟩
        ·simp at h
       ·simp at h
     ·simp at h
    ·simp at h
   ·rename_i e xs i0 x path0 τ0 d0 hb
    split at h
    ·split at h
     ·split at h
      ·simp only [Ha] at h
       obtain ⟨_, _, h⟩ := h
       split at h
       ·simp only [jc] at h; rw [← h]
        exact .inr ⟨id, _, _, rfl, by rw [hb]; simp [Ja.kind]⟩
       ·simp at h
      ·simp at h
     ·simp at h
    ·simp at h
   ·simp at h
  ·simp at h
 | _ => rw [ho] at hk; simp [LC] at hk
theorem X7 {G : Qd} {s : AS} {o : Oper} {Out : Type} {K : D → List (Nat × Option Ja) → Option Out} (hk : LC o.op = true) : Dy G s o K = Qb G s o K := by
 have : Oy o.op = false := by
  cases ho : o.op <;> first | rfl | (rw [ho] at hk; simp [LC] at hk)
 unfold Dy
 rw [this]; rfl
theorem XQ {G : Qd} {s : AS} {o : Oper} {ef : Ef} {H : List Nat} (h : AM G s o ef) (hb : CP H o.op ef.2 = true) : QI H s ef := by
 intro id hid hm
 unfold CP at hb
 split at hb
 ·simp at hid
 ·cases hk : LC o.op with
  | false =>
   rw [hk] at hb
   simp only [y8, yj] at hb
   exact absurd hm (Lw hb id hid)
  | true =>
   rw [hk] at hb
   simp only [y3, yj] at hb
   have hkp := Tai hk (by rw [← X7 hk]; exact h _ fun d u => some (d, u))
   rcases hkp with h0 | ⟨id0, b, tl, h0, h1⟩
   ·rw [h0] at hm; simp at hm
   ·rw [h0] at hm hb ⊢
    rcases jq.1 hm with e | hm
    ·subst e
     simp only [Vb, if_true, Option.join_some, qc]
     exact h1.symm
    ·exact absurd hm (Lw hb id hid)
theorem VP {H : List Nat} {x : Nat} : ∀ {l : List Nat}, x ∈ l → x ∈ WJ H l ∨ x ∈ H
 | y :: l, h => by
  simp only [WJ]
  rcases jq.1 h with e | h
  ·subst e
   cases hm : Ou H x with
   | true => exact .inr (IH.1 hm)
   | false => exact .inl (by simp)
  ·refine (VP h).imp (fun h => ?_) id
   cases Ou H y with
   | true => exact h
   | false => exact js _ h
theorem US {s : AS} {c : Bool} : ∀ {l : List Operand} {x : Operand} {d : D} {id : Nat}, x ∈ l → s.ev x = some d → (d.ment id = true ∨ (c = true ∧ id ∈ SC s d)) → id ∈ BE s c l
 | [], _, _, _, h, _, _ => by simp at h
 | y :: l, x, d, id, h, hd, hm => by
  rcases jq.1 h with e | h
  ·subst e
   simp only [BE, hd]
   refine qt _ (jm.2 ?_)
   refine hm.imp VC.1 ?_
   rintro ⟨rfl, h⟩
   exact h
  ·have ih := US h hd hm
   simp only [BE]
   split
   ·exact qu _ ih
   ·exact ih
section
variable {P : Program} {n0 : Nat} {A : Fx} {O0 : Nat → Prop} {w0 : World} {G : Qd} {ops : Array Oper} {s0 : AS} {E : Nat → Ef} {F : Nat → FP} {anc : Nat → List Nat} {H : List Nat} {Q : Exit → Act → World → Prop}
variable {Out : Type} {k : AS → Option Out} {out : Out}
theorem PM.congr {E' : Nat → Ef} {F' : Nat → FP} {anc' : Nat → List Nat} {m : Nat} {o : Oper} (h : PM G H ops s0 E F anc m o) (hE : ∀ j, j ≤ m → E j = E' j ∧ F j = F' j ∧ anc j = anc' j) : PM G H ops s0 E' F' anc' m o := by
 have hst : Pd ops E (fun _ => true) s0 m = Pd ops E' (fun _ => true) s0 m := Ev m fun j hj => ⟨(hE j (by omega)).1, rfl⟩
 obtain ⟨e1, e2, e3⟩ := hE m (jp _)
 refine ⟨by rw [← hst, ← e1]; exact h.step, by rw [← hst, ← e1, ← e2]; exact h.fp, h.dst, h.back, ?_, ?_, by rw [← hst, ← e1]; exact h.hard⟩
 ·intro x hx
  rw [← e3] at hx
  obtain ⟨e, he, hb, hxe⟩ := h.up x hx
  refine ⟨e, he, hb, hxe.imp id fun hxe => ?_⟩
  rw [← (hE e.on (Nat.le_of_lt (h.back e he hb))).2.2]
  exact hxe
 ·intro j hj
  rw [← e3, ← e2, ← (hE j (by omega)).2.1]
  exact h.ind j hj
theorem QO : ∀ {r l : List Nat} {x : Nat}, x ∈ PO r l → x ∈ r ∨ x ∈ l
 | [], _, _, h => .inr h
 | y :: r, l, x, h => by
  simp only [PO] at h
  rcases QO h with h | h
  ·exact .inl (js _ h)
  ·cases hm : Ou l y with
   | true => rw [hm] at h; exact .inr h
   | false =>
    rw [hm] at h
    rcases jq.1 h with h | h
    ·exact .inl (by rw [h]; simp)
    ·exact .inr h
theorem UI {prev : List (Nat × (List Nat × FP))} : ∀ {es : List Edge} {l : List Nat} {x : Nat}, x ∈ EL prev es l → x ∈ l ∨ ∃ e, e ∈ es ∧ Region.binds .any e = true ∧ (x = e.on ∨ ∃ p, Eb prev e.on = some p ∧ x ∈ p.1)
 | [], l, x, h => .inl h
 | e :: es, l, x, h => by
  simp only [EL] at h
  cases hb : Region.binds .any e with
  | false =>
   rw [hb] at h
   rcases UI h with h | ⟨e', he', hb', hx⟩
   ·exact .inl h
   ·exact .inr ⟨e', js _ he', hb', hx⟩
  | true =>
   rw [hb] at h
   rcases UI h with h | ⟨e', he', hb', hx⟩
   ·rcases QO h with h | h
    ·refine .inr ⟨e, by simp, hb, ?_⟩
     rcases jq.1 h with h | h
     ·exact .inl h
     ·split at h
      ·rename_i a f hp; exact .inr ⟨_, hp, h⟩
      ·simp at h
    ·exact .inl h
   ·exact .inr ⟨e', js _ he', hb', hx⟩
theorem W3 : ∀ (l : List Oper) (i : Nat) (prev : List (Nat × (List Nat × FP))) (s : AS) (E : Nat → Ef) (F : Nat → FP) (anc : Nat → List Nat), ops.toList.drop i = l → Qw G H ops l i prev s k = some out →
 Vi (Pd ops E (fun _ => true) s0 i) s → (∀ j, j < i → Eb prev j = some (anc j, F j)) → (∀ m o, m < i → ops[m]? = some o → PM G H ops s0 E F anc m o) →
 ∃ E F anc, (∀ m o, ops[m]? = some o → PM G H ops s0 E F anc m o) ∧ ∃ sf, k sf = some out ∧ Eqv (Pd ops E (fun _ => true) s0 ops.size) sf
 | [], i, prev, s, E, F, anc, hl, he, hs, hprev, hPM => by
  have hi : ops.size ≤ i := by
   have := congrArg ja hl
   simp at this
   omega
  have hst : Pd ops E (fun _ => true) s0 i = Pd ops E (fun _ => true) s0 ops.size := by
   clear hs he hl hprev hPM
   induction i with
   | zero =>
    have : ops.size = 0 := by omega
    rw [this]
   | succ i ih =>
    by_cases h : ops.size = i + 1
    ·rw [h]
    ·rw [← ih (by omega)]
     have : ops[i]? = none := Array.getElem?_eq_none (by omega)
     simp only [Pd, this]
  refine ⟨E, F, anc, fun m o ho => hPM m o ?_ ho, s, he, by rw [← hst]; exact hs.toEqv⟩
  have := (Array.getElem?_eq_some_iff.1 ho).1
  omega
 | o :: l, i, prev, s, E, F, anc, hl, he, hs, hprev, hPM => by
  have hi : i < ops.size := by
   have := congrArg ja hl
   simp at this
   omega
  have hoi : ops[i]? = some o := by
   have h1 := congrArg (·[0]?) hl
   simpa using h1
  have hl' : ops.toList.drop (i + 1) = l := by
   have h1 := congrArg (List.drop 1) hl
   simpa [qo, Nat.add_comm] using h1
  have next : ∀ (an : List Nat) (f : FP) (e : Ef) (sx : AS), an = EL prev o.after.toList [] → (∀ e, e ∈ o.after.toList → Region.binds .any e = true → e.on < i) → CB an f prev = true → Vi s sx →
   PG G ops (Pd ops E (fun _ => true) s0 i) o e → Rab H ops (Pd ops E (fun _ => true) s0 i) o e f → QI H (Pd ops E (fun _ => true) s0 i) e → Kf sx o.dst e.1 e.2 (fun s' => Qw G H ops l (i + 1) ((i, (an, f)) :: prev) s' k) = some out →
   ∃ E F anc, (∀ m o, ops[m]? = some o → PM G H ops s0 E F anc m o) ∧ ∃ sf, k sf = some out ∧ Eqv (Pd ops E (fun _ => true) s0 ops.size) sf := by
   intro an f e sx han hback hok hsx hstep hfp hhard hfin
   have hdst : ∀ t, o.dst = some t → t < sx.n := by
    intro t ht
    unfold Kf at hfin
    rw [ht] at hfin
    simp only at hfin
    cases hb : ya t sx.n with
    | true => rwa [yc] at hb
    | false => rw [hb] at hfin; simp at hfin
   rw [BN hdst] at hfin
   have hn : sx.n = s0.n := by rw [hsx.n, hs.n, NQ]
   have hEi : ∀ j, j < i → E j = (fun j => if j = i then e else E j) j ∧ F j = (fun j => if j = i then f else F j) j ∧ anc j = (fun j => if j = i then an else anc j) j := by
    intro j hj
    have : j ≠ i := by omega
    simp [this]
   have hst : Pd ops E (fun _ => true) s0 i = Pd ops (fun j => if j = i then e else E j) (fun _ => true) s0 i := Ev i fun j hj => ⟨(hEi j hj).1, rfl⟩
   refine W3 l (i + 1) _ _ (fun j => if j = i then e else E j) (fun j => if j = i then f else F j) (fun j => if j = i then an else anc j) hl' hfin ?_ ?_ ?_
   ·have : Pd ops (fun j => if j = i then e else E j) (fun _ => true) s0 (i + 1) = putE (Pd ops E (fun _ => true) s0 i) o.dst e := by
     rw [hst]
     simp only [Pd, hoi, y3, if_true]
    rw [this]
    exact (hs.trans hsx).putE _ _
   ·intro j hj
    rw [Vb]
    by_cases hji : i = j
    ·subst hji; simp
    ·have hne : j ≠ i := fun e => hji e.symm
     rw [if_neg hji, hprev j (by omega)]
     simp [hne]
   ·intro m om hm hom
    by_cases hmi : m = i
    ·subst hmi
     rw [hoi] at hom
     simp only [jc] at hom
     subst hom
     refine ⟨?_, ?_, fun t ht => by rw [← hn]; exact hdst t ht, hback, ?_, ?_, by rw [← hst]; simpa using hhard⟩
     ·rw [← hst]; simpa using hstep
     ·rw [← hst]; simpa using hfp
     ·intro x hx
      simp only [if_true] at hx
      rw [han] at hx
      rcases UI hx with hx | ⟨e', he', hb', hx⟩
      ·simp at hx
      ·have hlt := hback e' he' hb'
       refine ⟨e', he', hb', hx.imp id ?_⟩
       rintro ⟨p, hp, hxp⟩
       rw [hprev _ hlt] at hp
       simp only [jc] at hp
       subst hp
       have : e'.on ≠ m := by omega
       simpa [this] using hxp
     ·intro j hj
      have hok' := hok
      unfold CB at hok'
      rw [yv] at hok'
      have hmem := Wt (hprev j hj)
      have h1 := hok' _ hmem
      simp only [qw] at h1
      have hjm : j ≠ m := by omega
      simp only [if_true, hjm, if_false]
      exact h1.imp IH.1 id
    ·exact (hPM m om (by omega) hom).congr fun j hj => hEi j (by omega)
  have hfpOk : ∀ (g : List Nat) (e : Ef), (∀ j want t, o.guard = some (j, want) → (ops[j]?).bind (·.dst) = some t → t ∈ g) → Rab H ops (Pd ops E (fun _ => true) s0 i) o e (WQ H s o g e.1 e.2) := by
   intro g e hg
   refine ⟨rfl, rfl, rfl, fun t ht => qu _ ht, fun j want t hgu ht => qt _ (hg j want t hgu ht), fun hmv x hx d hd id hm => ?_⟩
   have hmem : id ∈ BE s (Tz o.op) (Wb o.op) := by
    refine US hx ?_ (hm.imp (fun h => h) fun h => ⟨h.1, (OW (fun j => hs.hp j) d) ▸ h.2⟩)
    rw [← hd]
    exact VQ hx fun t _ => hs.tm t
   show id ∈ (bif Sx o.op then [] else bif Xg o.op then _ else _) ∨ _
   rw [hmv]
   cases hsp : Xg o.op with
   | false => exact .inl hmem
   | true => exact (VP hmem).imp (fun h => h) fun h => ⟨rfl, h⟩
  simp only [Qw] at he
  cases hbk : X5 i o.after.toList with
  | false => rw [hbk] at he; simp at he
  | true =>
   rw [hbk] at he
   simp only [y3] at he
   have hback : ∀ e, e ∈ o.after.toList → Region.binds .any e = true → e.on < i := by
    intro e hem hbe
    unfold X5 at hbk
    rw [yv] at hbk
    have := hbk e hem
    rw [hbe] at this
    simp only [jg, yr] at this
    rwa [yc] at this
   have hEff : ∀ (sx : AS) (K : D → List (Nat × Option Ja) → Option Out), Vi s sx → Dy G sx o K = some out → ∃ e : Ef, K e.1 e.2 = some out ∧ AM G (Pd ops E (fun _ => true) s0 i) o e := by
    intro sx K hsx hK
    obtain ⟨d, u, h1, h2⟩ := Wab hK
    refine ⟨(d, u), h1, ?_⟩
    have : AM G sx o (d, u) := h2
    exact this.congr ((hs.trans hsx).symm.agr o)
   cases hg : o.guard with
   | none =>
    rw [hg] at he
    simp only at he
    obtain ⟨e, h1, h2⟩ := hEff s _ (Vi.refl s) he
    simp only [Ha, jd] at h1
    exact next _ _ e s rfl hback h1.1.1 (Vi.refl s) (by unfold PG; rw [hg]; exact h2) (hfpOk [] e (by intro j want t hgu; rw [hg] at hgu; simp at hgu)) (XQ h2 h1.1.2) h1.2
   | some g =>
    obtain ⟨j, want⟩ := g
    rw [hg] at he
    simp only at he
    split at he
    ·rename_i t ht
     have hgt : ∀ j' want' t', o.guard = some (j', want') → (ops[j']?).bind (·.dst) = some t' → t' ∈ [t] := by
      intro j' want' t' hgu ht'
      rw [hg] at hgu
      simp only [jc, jh] at hgu
      obtain ⟨rfl, rfl⟩ := hgu
      rw [ht] at ht'
      simp only [jc] at ht'
      rw [ht']; simp
     split at he
     ·rename_i β hd
      have hdst : Eb (Pd ops E (fun _ => true) s0 i).tm t = some (.t .b β) := by rw [← hs.tm]; exact hd
      have goal1 : ∀ e : Ef, (if β = want then AM G (Pd ops E (fun _ => true) s0 i) o e else e = (.und, [])) → PG G ops (Pd ops E (fun _ => true) s0 i) o e := by
       intro e h
       unfold PG
       rw [hg]
       exact ⟨t, ht, .inl ⟨β, hdst, h⟩⟩
      cases hβ : (show Bool from β) with
      | true =>
       have hβ' : β = true := hβ
       subst hβ'
       simp only [y3] at he
       cases want with
       | true =>
        simp only [y3] at he
        obtain ⟨e, h1, h2⟩ := hEff _ _ (Vi.refine hd) he
        simp only [Ha, jd] at h1
        exact next _ _ e _ rfl hback h1.1.1 (Vi.refine hd) (goal1 e (by rw [if_pos rfl]; exact h2)) (hfpOk [t] e hgt) (XQ h2 h1.1.2) h1.2
       | false =>
        simp only [y8, Ha] at he
        exact next _ _ (.und, []) _ rfl hback he.1 (Vi.refine hd) (goal1 _ (by rw [if_neg (by simp)])) (hfpOk [t] (.und, []) hgt) (by intro id _ hm; simp at hm) he.2
      | false =>
       have hβ' : β = false := hβ
       subst hβ'
       simp only [y8] at he
       cases want with
       | true =>
        simp only [y3, Ha] at he
        exact next _ _ (.und, []) _ rfl hback he.1 (Vi.refine hd) (goal1 _ (by rw [if_neg (by simp)])) (hfpOk [t] (.und, []) hgt) (by intro id _ hm; simp at hm) he.2
       | false =>
        simp only [y8] at he
        obtain ⟨e, h1, h2⟩ := hEff _ _ (Vi.refine hd) he
        simp only [Ha, jd] at h1
        exact next _ _ e _ rfl hback h1.1.1 (Vi.refine hd) (goal1 e (by rw [if_pos rfl]; exact h2)) (hfpOk [t] e hgt) (XQ h2 h1.1.2) h1.2
     ·rename_i hd
      simp only [Ha] at he
      refine next _ _ (.und, []) s rfl hback he.1 (Vi.refl s) ?_ (hfpOk [t] (.und, []) hgt) (by intro id _ hm; simp at hm) he.2
      unfold PG
      rw [hg]
      exact ⟨t, ht, .inr ⟨by rw [← hs.tm]; exact hd, rfl⟩⟩
     ·simp at he
    ·simp at he
theorem U2 {n j : Nat} : Lr (Array.replicate n false) j = false := by
 unfold Lr
 rw [Array.getD_eq_getD_getElem?, Array.getElem?_replicate]
 split <;> rfl
theorem Raa (hG : Ui P A.I G) (hfz : OC G A O0) (hm : P.follows .mixedOrders = true) {id : Nat} {H : List Nat} {draw : Bool} {s : AS} {σ : Nat → Value} {φ : Nat → List Nat} {a : Act} {w : World} (h : Ra n0 A O0 w0 s σ φ a w)
 (he : (bif draw then Qw G H ops ops.toList 0 [] s k else Ey G id ops ops.toList 0 s k) = some out) (hQ : ∀ a w, Zd n0 A O0 w0 k out a w → Q .normal a w) : (Code.region id ops draw).wp P Q a w := by
 cases draw with
 | false =>
  simp only [y8] at he
  refine wp_region ?_
  have := D0 (P := P) (Q := Q) hG hfz (fun s σ φ a w h1 h2 => hQ a w ⟨s, σ, φ, h1, h2⟩) ops.toList 0 s σ φ a w (by simp) he h
  simpa using this
 | true =>
  simp only [y3] at he
  obtain ⟨E, F, anc, hPM, sf, h1, h2⟩ := W3 (s0 := s) ops.toList 0 [] s (fun _ => (.und, [])) (fun _ => ⟨[], [], none, [], []⟩) (fun _ => []) (by simp) he (Vi.refl s) (by intro j hj; omega) (by intro m o hm; omega)
  refine wp_region_any hm ?_
  refine Had hG hfz hPM (fun σ φ a w hc => hQ a w ⟨sf, σ, φ, h1, hc.eqv h2⟩) ops.size (Array.replicate ops.size false) σ φ a _ (by simp) ?_ ?_ ?_
  ·have := List.countP_le_length (p := fun j => !(Array.replicate ops.size false).getD j true) (l := yx ops.size)
   simpa using this
  ·intro j o ho hL
   rw [U2] at hL
   simp at hL
  ·have : Pd ops E (Lr (Array.replicate ops.size false)) s ops.size = s := by
    rw [ZN (i := 0) ops.size (Nat.zero_le _) fun j _ _ => U2]
    rfl
   rw [this]
   exact h.drew
end
theorem V8 {s : AS} : ∀ {td : TD} {d : D} {x : T td.ty} {m : Kj}, Gd s td d = some (x, m) → (Xq td x).isAgg = d.isAgg := by
 intro td
 cases td with
 | data τ =>
  intro d x m h
  simp only [Gd] at h
  split at h
  ·rename_i y hy
   simp only [jc, jh] at h
   obtain ⟨rfl, _⟩ := h
   have hs := (Xe (w := default) (σ := fun _ => undef) (O := fun _ => False) (hp := fun _ => none) hy).1
   rw [hs.isAgg]
   cases τ <;> rfl
  ·simp at h
 | own id e dp =>
  intro d x m h
  cases d <;> simp [Gd] at h <;> rfl
 | ptr id p =>
  intro d x m h
  cases d <;> simp [Gd] at h <;> rfl
 | hol id e p τ td =>
  intro d x m h
  cases d <;> simp [Gd] at h <;> rfl
 | arr id e =>
  intro d x m h
  cases d <;> first | rfl | (simp [Gd] at h; done)
 | mov id e =>
  intro d x m h
  cases d <;> simp [Gd] at h <;> rfl
 | mpo id k v =>
  intro d x m h
  cases d <;> simp [Gd] at h <;> rfl
 | mqo id kk e =>
  intro d x m h
  cases d <;> simp [Gd] at h <;> rfl
 | pr a b =>
  intro d x m h
  simp only [Gd] at h
  cases d with
  | t τ v => cases τ <;> simp [D.fst] at h <;> rfl
  | pr u v => rfl
  | _ => simp [D.fst] at h
 | un =>
  intro d x m h
  simp only [Gd] at h
  split at h
  ·rename_i y hy
   have hs := (Xe (w := default) (σ := fun _ => undef) (O := fun _ => False) (hp := fun _ => none) hy).1
   rw [hs.isAgg]
   rfl
  ·simp at h
def EI (m m' : Kj) : Prop := ∀ p, p ∈ m → p ∈ m'
section
variable {w : World} {s : AS} {σ σ' : Nat → Value} {O O' : Nat → Prop} {hp' : Nat → Option Ja} {m : Kj}
structure TOk (s : AS) (σ σ' : Nat → Value) (hp' : Nat → Option Ja) (m : Kj) : Prop where
 isS : ∀ j i, (j, some i) ∈ m → σ' j = σ i
 isN : ∀ j, (j, none) ∈ m → σ' j = .slice none 0 0
 isB : ∀ j i ρ d, (j, some i) ∈ m → hp' j = some (.box ρ d) → ∃ d', s.heap i = some (.box ρ d')
 isR : ∀ j i Da r, (j, some i) ∈ m → hp' j = some Da → Da.rowN = some r → ∃ blk', s.heap i = some blk' ∧ blk'.rowN = some r
theorem GL (hT : TOk s σ σ' hp' m) (hO : ∀ b, b < w.heap.size → ¬ O b → ¬ O' b) : ∀ {td : TD} {d : D} {x : T td.ty} {m0 : Kj} {cs : List Value}, Gd s td d = some (x, m0) → EI m0 m → Wa w O s.heap σ d cs →
 Wa w O' hp' σ' (Xq td x) cs := by
 intro td
 induction td with
 | data τ =>
  intro d x m0 cs h hm hr
  simp only [Gd] at h
  split at h
  ·rename_i y hy
   simp only [jc, jh] at h
   obtain ⟨rfl, _⟩ := h
   exact Ka.stable (fun _ _ _ => rfl) hO ((Xe hy).2 _ hr)
  ·simp at h
 | own id' e dp =>
  intro d x m0 cs h hm hr
  cases d with
  | own id =>
   simp only [Gd] at h
   split at h
   ·rename_i e' dp' xs hb
    split at h
    ·rename_i q hq
     subst q
     simp only [Ha] at h
     obtain ⟨_, h⟩ := h
     simp only [jc, jh] at h
     obtain ⟨rfl, rfl⟩ := h
     obtain ⟨v, hcs, h1, hv⟩ := hr
     refine ⟨v, hcs, h1, fun _ _ _ _ => ?_⟩
     rw [hT.isS id' id (hm _ (by simp))]
     exact hv _ _ hb rfl
    ·simp at h
   ·simp at h
  | nil =>
   simp only [Gd, jc, jh] at h
   obtain ⟨rfl, rfl⟩ := h
   simp only [Wa] at hr
   exact ⟨_, hr, rfl, fun _ _ _ _ => (hT.isN id' (hm _ (by simp))).symm⟩
  | _ => simp [Gd] at h
 | mpo id' k v =>
  intro d x m0 cs h hm hr
  cases d with
  | mpo id =>
   simp only [Gd] at h
   split at h
   ·rename_i k' v' xs hb
    split at h
    ·rename_i q1 q2 hq1 hq2
     subst q1
     subst q2
     simp only [jc, jh] at h
     obtain ⟨rfl, rfl⟩ := h
     obtain ⟨u, hcs, h1, hv⟩ := hr
     refine ⟨u, hcs, h1, fun _ _ _ => ?_⟩
     rw [hT.isS id' id (hm _ (by simp))]
     exact hv _ hb rfl
    ·simp at h
   ·simp at h
  | _ => simp [Gd] at h
 | mqo id' kk e =>
  intro d x m0 cs h hm hr
  cases d with
  | mpo id =>
   simp only [Gd] at h
   split at h
   ·rename_i kk' e' xs hb
    split at h
    ·rename_i q hq
     simp only [jc, jh] at h
     obtain ⟨rfl, rfl⟩ := h
     obtain ⟨u, hcs, h1, hv⟩ := hr
     refine ⟨u, hcs, h1, fun _ _ _ => ?_⟩
     rw [hT.isS id' id (hm _ (by simp))]
     exact hv _ hb rfl
    ·simp at h
   ·simp at h
  | _ => simp [Gd] at h
 | hol id' e p τ td _ =>
  intro d x m0 cs h hm hr
  cases d with
  | own id =>
   simp only [Gd] at h
   split at h
   ·rename_i e' xs i x1 p' τ' d' hb
    split at h
    ·simp only [Ha] at h
     obtain ⟨_, h⟩ := h
     split at h
     ·rename_i y m1 h1
      simp only [Ha] at h
      obtain ⟨_, h⟩ := h
      simp only [jc, jh] at h
      obtain ⟨rfl, rfl⟩ := h
      obtain ⟨v, hcs, h1, hv⟩ := hr
      refine ⟨v, hcs, h1, fun _ _ _ _ => ?_⟩
      rw [hT.isS id' id (hm _ (by simp))]
      exact hv _ _ hb rfl
     ·simp at h
    ·simp at h
   ·simp at h
  | _ => simp [Gd] at h
 | arr id' e =>
  intro d x m0 cs h hm hr
  cases d with
  | eptr id i q =>
   cases i with
   | succ i => simp [Gd] at h
   | zero =>
    cases q with
    | cons _ _ => simp [Gd] at h
    | nil =>
     simp only [Gd] at h
     split at h
     ·rename_i e' xs hb
      split at h
      ·rename_i q hq
       subst q
       simp only [jc, jh] at h
       obtain ⟨rfl, rfl⟩ := h
       obtain ⟨v, hcs, h1, hv⟩ := hr
       refine ⟨v, hcs, h1, fun blk' e2 n2 hb' hr' => ?_⟩
       obtain ⟨blk0, hb0, hr0⟩ := hT.isR id' id blk' _ (hm _ (by simp)) hb' hr'
       rw [hT.isS id' id (hm _ (by simp))]
       exact hv _ _ _ hb0 hr0
      ·simp at h
     ·simp at h
  | _ => simp [Gd] at h
 | mov id' e =>
  intro d x m0 cs h hm hr
  cases d with
  | own id =>
   simp only [Gd] at h
   split at h
   ·rename_i e' xs hb
    split at h
    ·rename_i q hq
     subst q
     simp only [jc, jh] at h
     obtain ⟨rfl, rfl⟩ := h
     obtain ⟨v, hcs, h1, hv⟩ := hr
     refine ⟨v, hcs, h1, fun _ _ _ _ => ?_⟩
     rw [hT.isS id' id (hm _ (by simp))]
     exact hv _ _ hb rfl
    ·simp at h
   ·rename_i e' xs k hb
    split at h
    ·rename_i q hq
     subst q
     simp only [jc, jh] at h
     obtain ⟨rfl, rfl⟩ := h
     obtain ⟨v, hcs, h1, hv⟩ := hr
     refine ⟨v, hcs, h1, fun _ _ _ _ => ?_⟩
     rw [hT.isS id' id (hm _ (by simp))]
     exact hv _ _ hb rfl
    ·simp at h
   ·simp at h
  | _ => simp [Gd] at h
 | ptr id' p =>
  intro d x m0 cs h hm hr
  cases d with
  | ptr id q =>
   simp only [Gd, Ha] at h
   obtain ⟨hpq, h⟩ := h
   simp only [jc, jh] at h
   obtain ⟨_, rfl⟩ := h
   have hpq' : p = q := by simpa using hpq
   subst hpq'
   obtain ⟨v, hcs, h1, hv⟩ := hr
   refine ⟨v, hcs, h1, fun ρ d hb => ?_⟩
   obtain ⟨d', hd'⟩ := hT.isB id' id ρ d (hm _ (by simp)) hb
   rw [hT.isS id' id (hm _ (by simp))]
   exact hv ρ d' hd'
  | _ => simp [Gd] at h
 | pr a b iha ihb =>
  intro d x m0 cs h hm hr
  simp only [Gd] at h
  split at h
  ·rename_i d1 d2 h1 h2
   split at h
   ·rename_i u l v l' h3 h4
    simp only [jc, jh] at h
    obtain ⟨rfl, rfl⟩ := h
    have key : ∃ c1 c2, cs = c1 ++ c2 ∧ Wa w O s.heap σ d1 c1 ∧ Wa w O s.heap σ d2 c2 := by
     cases d with
     | t τ v =>
      cases τ with
      | p t1 t2 =>
       simp only [D.fst, D.snd, jc] at h1 h2
       subst h1; subst h2
       exact hr
      | _ => simp [D.fst] at h1
     | pr d1' d2' =>
      simp only [D.fst, D.snd, jc] at h1 h2
      subst h1; subst h2
      exact hr
     | _ => simp [D.fst] at h1
    obtain ⟨c1, c2, hc, r1, r2⟩ := key
    exact ⟨c1, c2, hc, iha h3 (fun p hp => hm p (qt _ hp)) r1, ihb h4 (fun p hp => hm p (qu _ hp)) r2⟩
   ·simp at h
  ·simp at h
 | un =>
  intro d x m0 cs h hm hr
  simp only [Gd] at h
  split at h
  ·rename_i y hy
   exact (Xe hy).2 _ hr
  ·simp at h
theorem Eac (hT : TOk s σ σ' hp' m) (hO : ∀ b, b < w.heap.size → ¬ O b → ¬ O' b) {td : TD} {d : D} {x : T td.ty} {m0 : Kj} {v : Value} (h : Gd s td d = some (x, m0)) (hm : EI m0 m) (hr : Nc w O s.heap σ d v) :
 Nc w O' hp' σ' (Xq td x) v := by
 have hne : Ae w O s.heap σ d v := by
  cases d with
  | und => cases td <;> simp [Gd, Vf, D.fst] at h
  | anyv => cases td <;> simp [Gd, Vf, D.fst] at h
  | tup ds => cases td <;> simp [Gd, Vf, D.fst] at h
  | _ => exact hr
 refine Rm ?_
 unfold Ae at hne ⊢
 rw [V8 h]
 split
 ·rename_i ha
  rw [if_pos ha] at hne
  obtain ⟨cs, h1, h2⟩ := hne
  exact ⟨cs, h1, GL hT hO h hm h2⟩
 ·rename_i ha
  rw [if_neg ha] at hne
  exact GL hT hO h hm hne
def TU (s : AS) (m : Kj) (j : Nat) (Da : Ja) : Prop :=
 ((j, none) ∈ m ∧ ∃ e dp, Da = .row e dp ([] : List (T e))) ∨
 ∃ i, (j, some i) ∈ m ∧ ((∃ e dp dp' xs, Da = .row e dp xs ∧ s.heap i = some (.row e dp' xs) ∧ (dp' = dp ∨ e.flat = true)) ∨
  (∃ ρ d td x m0, Da = .box ρ (Xq td x) ∧ s.heap i = some (.box ρ d) ∧ Gd s td d = some (x, m0) ∧ EI m0 m ∧ Ab ρ (Xq td x)) ∨
  (∃ e xs k x p τ d td y m0, Da = .hol e xs k x p τ (Xq td y) ∧ s.heap i = some (.hol e xs k x p τ d) ∧ Gd s td d = some (y, m0) ∧ EI m0 m ∧ Ab τ (Xq td y)) ∨
  (∃ e xs k, Da = .mov e xs k ∧ (s.heap i = some (.mov e xs k) ∨ (s.heap i = some (.row e true xs) ∧ k = 0))) ∨
  (∃ k v xs, Da = .mp k v xs ∧ s.heap i = some (.mp k v xs)) ∨
  ∃ kk e xs, Da = .mq kk e xs ∧ s.heap i = some (.mq kk e xs))
theorem LM : ∀ {td : TD} {d : D} {x : T td.ty} {m0 : Kj}, Gd s td d = some (x, m0) → EI m0 m → ∀ p, p ∈ It td x → ∃ Da, p.2 = some Da ∧ TU s m p.1 Da := by
 intro td
 induction td with
 | own id' e dp =>
  intro d x m0 h hm p hp
  simp only [It, qd] at hp
  subst hp
  cases d with
  | own id =>
   simp only [Gd] at h
   split at h
   ·rename_i e' dp' xs hb
    split at h
    ·rename_i q hq
     subst q
     simp only [Ha] at h
     obtain ⟨hc, h⟩ := h
     simp only [jc, jh] at h
     obtain ⟨rfl, rfl⟩ := h
     refine ⟨_, rfl, .inr ⟨id, hm _ (by simp), .inl ⟨_, dp, dp', _, rfl, hb, ?_⟩⟩⟩
     simpa using hc
    ·simp at h
   ·simp at h
  | nil =>
   simp only [Gd, jc, jh] at h
   obtain ⟨rfl, rfl⟩ := h
   exact ⟨_, rfl, .inl ⟨hm _ (by simp), e, dp, rfl⟩⟩
  | _ => simp [Gd] at h
 | hol id' e pth τ td ih =>
  intro d x m0 h hm p hp
  cases d with
  | own id =>
   simp only [Gd] at h
   split at h
   ·rename_i e' xs i x1 p' τ' d' hb
    split at h
    ·rename_i q1 q2 hq1 hq2
     subst q1
     obtain rfl := Pc hq2
     simp only [Ha] at h
     obtain ⟨hpp, h⟩ := h
     have hpp : pth = p' := by simpa using hpp
     subst hpp
     split at h
     ·rename_i y m1 h1
      simp only [Ha] at h
      obtain ⟨hsh, h⟩ := h
      simp only [jc, jh] at h
      obtain ⟨rfl, rfl⟩ := h
      simp only [It] at hp
      rcases jq.1 hp with rfl | hp
      ·exact ⟨_, rfl, .inr ⟨id, hm _ (by simp), .inr (.inr (.inl ⟨_, _, i, _, _, _, d', td, y, m1, by simp only [jo], hb, h1, fun p hp => hm p (js _ hp), Dm hsh⟩))⟩⟩
      ·exact ih h1 (fun p hp => hm p (js _ hp)) p hp
     ·simp at h
    ·simp at h
   ·simp at h
  | _ => simp [Gd] at h
 | pr a b iha ihb =>
  intro d x m0 h hm p hp
  simp only [Gd] at h
  split at h
  ·split at h
   ·rename_i u l v l' h3 h4
    simp only [jc, jh] at h
    obtain ⟨rfl, rfl⟩ := h
    simp only [It] at hp
    rcases jm.1 hp with hp | hp
    ·exact iha h3 (fun p hp => hm p (qt _ hp)) p hp
    ·exact ihb h4 (fun p hp => hm p (qu _ hp)) p hp
   ·simp at h
  ·simp at h
 | arr id' e =>
  intro d x m0 h hm p hp
  simp only [It, qd] at hp
  subst hp
  cases d with
  | eptr id i q =>
   cases i with
   | succ i => simp [Gd] at h
   | zero =>
    cases q with
    | cons _ _ => simp [Gd] at h
    | nil =>
     simp only [Gd] at h
     split at h
     ·rename_i e' xs hb
      split at h
      ·rename_i q hq
       subst q
       simp only [jc, jh] at h
       obtain ⟨rfl, rfl⟩ := h
       exact ⟨_, rfl, .inr ⟨id, hm _ (by simp), .inl ⟨_, true, true, _, rfl, hb, .inl rfl⟩⟩⟩
      ·simp at h
     ·simp at h
  | _ => simp [Gd] at h
 | mpo id' k v =>
  intro d x m0 h hm p hp
  simp only [It, qd] at hp
  subst hp
  cases d with
  | mpo id =>
   simp only [Gd] at h
   split at h
   ·rename_i k' v' xs hb
    split at h
    ·rename_i q1 q2 hq1 hq2
     subst q1
     subst q2
     simp only [jc, jh] at h
     obtain ⟨rfl, rfl⟩ := h
     exact ⟨_, rfl, .inr ⟨id, hm _ (by simp), .inr (.inr (.inr (.inr (.inl ⟨_, _, _, rfl, hb⟩))))⟩⟩
    ·simp at h
   ·simp at h
  | _ => simp [Gd] at h
 | mqo id' kk e =>
  intro d x m0 h hm p hp
  simp only [It, qd] at hp
  subst hp
  cases d with
  | mpo id =>
   simp only [Gd] at h
   split at h
   ·rename_i kk' e' xs hb
    split at h
    ·rename_i q hq
     have q2 := q
     simp only [Ty.mp.injEq, Ty.i.injEq, Ty.sl.injEq] at q2
     obtain ⟨rfl, rfl⟩ := q2
     simp only [jc, jh] at h
     obtain ⟨rfl, rfl⟩ := h
     exact ⟨_, rfl, .inr ⟨id, hm _ (by simp), .inr (.inr (.inr (.inr (.inr ⟨_, _, _, rfl, hb⟩))))⟩⟩
    ·simp at h
   ·simp at h
  | _ => simp [Gd] at h
 | mov id' e =>
  intro d x m0 h hm p hp
  simp only [It, qd] at hp
  subst hp
  cases d with
  | own id =>
   simp only [Gd] at h
   split at h
   ·rename_i e' xs hb
    split at h
    ·rename_i q hq
     subst q
     simp only [jc, jh] at h
     obtain ⟨rfl, rfl⟩ := h
     exact ⟨_, rfl, .inr ⟨id, hm _ (by simp), .inr (.inr (.inr (.inl ⟨_, _, 0, rfl, .inr ⟨hb, rfl⟩⟩)))⟩⟩
    ·simp at h
   ·rename_i e' xs k hb
    split at h
    ·rename_i q hq
     subst q
     simp only [jc, jh] at h
     obtain ⟨rfl, rfl⟩ := h
     exact ⟨_, rfl, .inr ⟨id, hm _ (by simp), .inr (.inr (.inr (.inl ⟨_, _, k, by simp only [jo], .inl hb⟩)))⟩⟩
    ·simp at h
   ·simp at h
  | _ => simp [Gd] at h
 | _ => intro d x m0 h hm p hp; simp [It] at hp
theorem U0 : ∀ {l : List (Tmp × TD)} {x : T (Ew.tyT l)} {m0 : Kj}, G6 s l = some (x, m0) → EI m0 m →
 (∀ t d', Eb (OP l x) t = some d' → ∃ td d y m1, Eb s.tm t = some d ∧ Gd s td d = some (y, m1) ∧ EI m1 m ∧ d' = Xq td y) ∧ (∀ p, p ∈ EQ l x → ∃ Da, p.2 = some Da ∧ TU s m p.1 Da)
 | [], x, m0, h, hm => ⟨by simp [OP, Eb], by simp [EQ]⟩
 | (t0, td) :: r, x, m0, h, hm => by
  simp only [G6] at h
  split at h
  ·rename_i d hd
   split at h
   ·rename_i y m1 z m2 h1 h2
    simp only [jc, jh] at h
    obtain ⟨rfl, rfl⟩ := h
    have hm1 : EI m1 m := fun p hp => hm p (qt _ hp)
    obtain ⟨i1, i2⟩ := U0 h2 (fun p hp => hm p (qu _ hp))
    refine ⟨fun t d' ht => ?_, fun p hp => ?_⟩
    ·simp only [OP] at ht
     rw [Vb] at ht
     split at ht
     ·rename_i e
      subst e
      simp only [jc] at ht
      exact ⟨td, d, y, m1, hd, h1, hm1, ht.symm⟩
     ·exact i1 t d' ht
    ·simp only [EQ] at hp
     rcases jm.1 hp with hp | hp
     ·exact LM h1 hm1 p hp
     ·exact i2 p hp
   ·simp at h
  ·simp at h
theorem T0 : ∀ {l : List (Nat × Ty × TD)} {x : T (Ew.tyB l)} {m0 m' : Kj}, ZW s l m0 = some (x, m') → EI m' m →
 EI m0 m ∧ ∀ p, p ∈ NP l x → ∃ Da, p.2 = some Da ∧ TU s m p.1 Da
 | [], x, m0, m', h, hm => by
  simp only [ZW, jc, jh] at h
  obtain ⟨_, rfl⟩ := h
  exact ⟨hm, by simp [NP]⟩
 | (id', ρ, td) :: r, x, m0, m', h, hm => by
  simp only [ZW] at h
  split at h
  ·rename_i id hid
   split at h
   ·rename_i ρ' d hb
    split at h
    ·rename_i q hq
     obtain rfl := q.down
     split at h
     ·rename_i y m1 h1
      simp only [Ha] at h
      obtain ⟨hsh, h⟩ := h
      split at h
      ·rename_i z m2 h2
       simp only [jc, jh] at h
       obtain ⟨rfl, rfl⟩ := h
       obtain ⟨i1, i2⟩ := T0 h2 hm
       have hm0 : EI m0 m := fun p hp => i1 p (qt _ hp)
       have hm1 : EI m1 m := fun p hp => i1 p (qu _ hp)
       refine ⟨hm0, fun p hp => ?_⟩
       simp only [NP] at hp
       rcases jq.1 hp with rfl | hp
       ·exact ⟨_, rfl, .inr ⟨id, hm0 _ (Wt hid), .inr (.inl ⟨_, d, td, y, m1, rfl, hb, h1, hm1, Dm hsh⟩)⟩⟩
       ·rcases jm.1 hp with hp | hp
        ·exact LM h1 hm1 p hp
        ·exact i2 p hp
      ·simp at h
     ·simp at h
    ·simp at h
   ·simp at h
  ·simp at h
end
theorem PH : ∀ {m : Kj}, FC m = true → ∀ j i, (j, some i) ∈ m → (j < 500000 ∧ i < 500000) ∨ j = i
 | [], _, _, _, h => by simp at h
 | (j0, some i0) :: r, hp, j, i, h => by
  simp only [FC, jd, qw] at hp
  rcases jq.1 h with e | h
  ·simp only [jh, jc] at e
   obtain ⟨rfl, rfl⟩ := e
   rcases hp.1 with h1 | h1
   ·rw [yc, yc] at h1; exact .inl h1
   ·exact .inr (jv h1)
  ·exact PH hp.2 j i h
 | (j0, none) :: r, hp, j, i, h => by
  simp only [FC, jd] at hp
  rcases jq.1 h with e | h
  ·simp at e
  ·exact PH hp.2 j i h
theorem OH : ∀ {m : Kj}, FC m = true → ∀ j, (j, none) ∈ m → j < 500000
 | [], _, _, h => by simp at h
 | (j0, some i0) :: r, hp, j, h => by
  simp only [FC, jd] at hp
  rcases jq.1 h with e | h
  ·simp at e
  ·exact OH hp.2 j h
 | (j0, none) :: r, hp, j, h => by
  simp only [FC, jd] at hp
  rcases jq.1 h with e | h
  ·simp only [jh, and_true] at e
   subst e
   have := hp.1
   rwa [yc] at this
  ·exact OH hp.2 j h
theorem G3 {m : Kj} (h : (m.all fun x => m.all fun y => EB x y) = true) {x y : Nat × Option Nat} (hx : x ∈ m) (hy : y ∈ m) : EB x y = true :=
 yv.1 (yv.1 h x hx) y hy
theorem Iad {m : Kj} (h : (m.all fun x => m.all fun y => EB x y) = true) {j : Nat} {a c : Option Nat} (hx : (j, a) ∈ m) (hy : (j, c) ∈ m) : a = c := by
 have := G3 h hx hy
 unfold EB at this
 cases a with
 | none => cases c with
  | none => rfl
  | some c => simp at this
 | some a => cases c with
  | none => simp at this
  | some c => simpa [Nat.beq_eq] using this
theorem Jad {m : Kj} (h : (m.all fun x => m.all fun y => EB x y) = true) {j j' i : Nat} (hx : (j, some i) ∈ m) (hy : (j', some i) ∈ m) : j = j' := by
 have := G3 h hx hy
 unfold EB at this
 simpa using this
theorem CS {α : Type} {j : Nat} {a : α} : ∀ {m : List (Nat × α)}, (j, a) ∈ m → ∃ c, Eb m j = some c ∧ (j, c) ∈ m
 | [], h => by simp at h
 | (j0, a0) :: r, h => by
  rw [Vb]
  by_cases hj : j0 = j
  ·subst hj; exact ⟨a0, by simp, by simp⟩
  ·rw [if_neg hj]
   rcases jq.1 h with e | h
   ·simp only [jh] at e
    exact absurd e.1.symm hj
   ·obtain ⟨c, h1, h2⟩ := CS h
    exact ⟨c, h1, js _ h2⟩
theorem Xt {m : Kj} (h : (m.all fun x => m.all fun y => EB x y) = true) {j : Nat} {a : Option Nat} (hx : (j, a) ∈ m) : Eb m j = some a := by
 obtain ⟨c, h1, h2⟩ := CS hx
 rw [h1, Iad h hx h2]
section
variable {n0 : Nat} {A : Fx} {O0 : Nat → Prop} {w0 w : World} {s : AS} {σ : Nat → Value} {φ : Nat → List Nat} {a : Act}
theorem HL (h : Ra n0 A O0 w0 s σ φ a w) {p : Ew} {x : p.X} (he : ext p s = some x) : ∃ σ' φ', Ra n0 A O0 w0 (YC p x s.n) σ' φ' a w := by
 unfold ext at he
 split at he
 ·rename_i x1 m1 h1
  split at he
  ·rename_i x2 m h2
   simp only [Ha] at he
   obtain ⟨hmo, he⟩ := he
   simp only [jc] at he
   subst he
   simp only [Lag, jd] at hmo
   obtain ⟨hn1, hpo⟩ := hmo
   obtain ⟨hm1, hB⟩ := T0 h2 (fun p hp => hp)
   obtain ⟨hT1, hT2⟩ := U0 h1 hm1
   let σ' : Nat → Value := fun j => match Eb m j with
    | some (some i) => σ i
    | some none => .slice none 0 0
    | none => σ j
   let φ' : Nat → List Nat := fun j => match Eb m j with
    | some (some i) => φ i
    | _ => []
   have hσs : ∀ j i, (j, some i) ∈ m → σ' j = σ i ∧ φ' j = φ i := fun j i hj => by
    have := Xt hn1 hj
    simp only [σ', φ', this, and_self]
   have hσn : ∀ j, (j, none) ∈ m → σ' j = .slice none 0 0 ∧ φ' j = [] := fun j hj => by
    have := Xt hn1 hj
    simp only [σ', φ', this, and_self]
   have hent : ∀ j Da, (YC p (x1, x2) s.n).heap j = some Da → TU s m j Da := by
    intro j Da hj
    have hmem := AS.heap_mem hj
    simp only [YC] at hmem
    rcases jm.1 hmem with hmem | hmem
    ·obtain ⟨blk', e, hE⟩ := hT2 _ hmem
     simp only [jc] at e
     subst e
     exact hE
    ·obtain ⟨blk', e, hE⟩ := hB _ hmem
     simp only [jc] at e
     subst e
     exact hE
   have hlive : ∀ j Da, (YC p (x1, x2) s.n).heap j = some Da → φ' j = [] ∨ ∃ i blk0, (j, some i) ∈ m ∧ s.heap i = some blk0 ∧ φ' j = φ i := by
    intro j Da hj
    rcases hent j Da hj with ⟨hn, _⟩ | ⟨i, hi, ⟨e, dp, dp', xs, _, hb, _⟩ | ⟨ρ, d, td, y, m0, _, hb, _⟩ | ⟨e, xs, k, x, p, τ, d, td, y, m0, _, hb, _⟩ | ⟨e, xs, k, _, hb | ⟨hb, _⟩⟩ | ⟨_, _, _, _, hb⟩ | ⟨_, _, _, _, hb⟩⟩
    ·exact .inl (hσn j hn).2
    ·exact .inr ⟨i, _, hi, hb, (hσs j i hi).2⟩
    ·exact .inr ⟨i, _, hi, hb, (hσs j i hi).2⟩
    ·exact .inr ⟨i, _, hi, hb, (hσs j i hi).2⟩
    ·exact .inr ⟨i, _, hi, hb, (hσs j i hi).2⟩
    ·exact .inr ⟨i, _, hi, hb, (hσs j i hi).2⟩
    ·exact .inr ⟨i, _, hi, hb, (hσs j i hi).2⟩
    ·exact .inr ⟨i, _, hi, hb, (hσs j i hi).2⟩
   have hOO : ∀ b, b < w.heap.size → ¬ OO O0 s φ b → ¬ OO O0 (YC p (x1, x2) s.n) φ' b := by
    rintro b _ hno (ho | ⟨j, Da, hj, hm⟩)
    ·exact hno (.inl ho)
    ·rcases hlive j Da hj with hφ | ⟨i, blk0, _, hb, hφ⟩
     ·rw [hφ] at hm; simp at hm
     ·rw [hφ] at hm; exact hno (.inr ⟨i, blk0, hb, hm⟩)
   have hTOk : TOk s σ σ' (YC p (x1, x2) s.n).heap m := by
    refine ⟨fun j i hj => (hσs j i hj).1, fun j hj => (hσn j hj).1, fun j i ρ d hj hb => ?_, fun j i Da r hj hb hr => ?_⟩
    rcases hent j _ hb with ⟨hn, e, dp, hh⟩ | ⟨i', hi', ⟨e, dp, dp', xs, hh, _⟩ | ⟨ρ', d', td, y, m0, hh, hb', _⟩ | ⟨e, xs, k, x, p, τ, d', td, y, m0, hh, _⟩ | ⟨e, xs, k, hh, _⟩ | ⟨_, _, _, hh, _⟩ | ⟨_, _, _, hh, _⟩⟩
    ·simp at hh
    ·simp at hh
    ·simp only [Ja.box.injEq] at hh
     have e1 := Xt hn1 hj
     have e2 := Xt hn1 hi'
     rw [e1] at e2
     simp only [jc] at e2
     subst e2
     exact ⟨d', by rw [hb', hh.1]⟩
    ·simp at hh
    ·simp at hh
    ·simp at hh
    ·simp at hh
    ·have e1 := Xt hn1 hj
     rcases hent j _ hb with ⟨hn, _⟩ | ⟨i', hi', hx⟩
     ·have e2 := Xt hn1 hn
      rw [e1] at e2
      simp at e2
     ·have e2 := Xt hn1 hi'
      rw [e1] at e2
      simp only [jc] at e2
      subst e2
      rcases hx with ⟨e, dp, dp', xs, rfl, hb', _⟩ | ⟨ρ', d', td, y, m0, rfl, _⟩ | ⟨e, xs, k, x, p, τ, d', td, y, m0, rfl, hb', _⟩ | ⟨e, xs, k, rfl, hb' | ⟨hb', _⟩⟩ | ⟨_, _, _, rfl, _⟩ | ⟨_, _, _, rfl, _⟩
      ·exact ⟨_, hb', hr⟩
      ·simp [Ja.rowN] at hr
      ·exact ⟨_, hb', hr⟩
      ·exact ⟨_, hb', hr⟩
      ·exact ⟨_, hb', hr⟩
      ·simp [Ja.rowN] at hr
      ·simp [Ja.rowN] at hr
   refine ⟨σ', φ', h.sz, h.df, ?_, ?_, ?_, ?_, ?_, h.o0, h.fr, ?_, h.iv0, h.ivw, ?_⟩
   ·intro t d' hd
    obtain ⟨td, d, y, m0, g1, g2, g3, g4⟩ := hT1 t d' hd
    obtain ⟨v, hv, hr⟩ := h.tm t d g1
    rw [g4]
    exact ⟨v, hv, Eac hTOk hOO g2 g3 hr⟩
   ·intro j Da hj
    rcases hent j Da hj with ⟨hn, e, dp, rfl⟩ | ⟨i, hi, ⟨e, dp, dp', xs, rfl, hb, hd⟩ | ⟨ρ, d, td, y, m0, rfl, hb, hex, hsub, hsh⟩ | ⟨e, xs, k, x, p, τ, d, td, y, m0, rfl, hb, hex, hsub, hsh⟩ | ⟨e, xs, k, rfl, hb⟩ | ⟨kk, vv, xs, rfl, hb⟩ | ⟨kk, e, xs, rfl, hb⟩⟩
    ·rw [Zj, (hσn j hn).1, (hσn j hn).2]
     exact ⟨by simp, .inl ⟨rfl, rfl, rfl⟩⟩
    ·rw [Zj, (hσs j i hi).1, (hσs j i hi).2]
     have hrow := Zj.1 (h.hp i _ hb)
     have hst : ∀ dq, Dh w (OO O0 s φ) dq e xs (σ i) (φ i) → Dh w (OO O0 (YC p (x1, x2) s.n) φ') dq e xs (σ i) (φ i) := by
      rintro dq ⟨hm, g | ⟨bl, off, cap, cur, et, Fs, g1, hh, g2, g3, g4, hF, hel⟩⟩
      ·exact ⟨hm, .inl g⟩
      ·exact ⟨hm, .inr ⟨bl, off, cap, cur, et, Fs, g1, hh, g2, g3, g4, hF, hel.stable (fun _ _ _ => rfl) hOO (fun _ _ => rfl)⟩⟩
     rcases hd with rfl | hf
     ·exact hst _ hrow
     ·have hup := hrow.up
      rw [hf, Bool.or_true] at hup
      cases dp with
      | true => exact hst _ hup
      | false =>
       cases dp' with
       | false => exact hst _ hrow
       | true =>
        have hown := ML (h.hp i _ hb) (.inl rfl)
        exact hst _ (Zj.1 (IR (O := OO O0 s φ) (hp := s.heap) hown hf))
    ·rw [(hσs j i hi).2]
     obtain ⟨_, b, cur, et, g1, hh, hF, hr, hsz⟩ := h.hp i _ hb
     exact ⟨hsh, b, cur, et, by rw [(hσs j i hi).1]; exact g1, hh, hF, GL hTOk hOO hex hsub hr, hsz⟩
    ·rw [(hσs j i hi).2]
     obtain ⟨_, g1, g2, g3, bl, off, cap, cur, et, g4, g5, g6, g7, hr, hw⟩ := h.hp i _ hb
     refine ⟨hsh, g1, g2, g3, bl, off, cap, cur, et, by rw [(hσs j i hi).1]; exact g4, g5, g6, g7, GL hTOk hOO hex hsub hr, fun w' c' h1 h2 h3 y Fy x' h4 h5 => ?_⟩
     rw [(hσs j i hi).1]
     exact hw w' c' h1 h2 h3 y Fy x' h4 h5
    ·rw [(hσs j i hi).2]
     have hm0 : Ec w (OO O0 s φ) s.heap σ i (.mov e xs k) (φ i) := by
      rcases hb with hb | ⟨hb, rfl⟩
      ·exact h.hp i _ hb
      ·exact SY (h.hp i _ hb)
     obtain ⟨hlen, ⟨g1, g2, g3⟩ | ⟨bl, off, cap, cur, et, Fs, g1, g⟩⟩ := hm0
     ·exact ⟨hlen, .inl ⟨by rw [(hσs j i hi).1]; exact g1, g2, g3⟩⟩
     ·exact ⟨hlen, .inr ⟨bl, off, cap, cur, et, Fs, by rw [(hσs j i hi).1]; exact g1, g⟩⟩
    ·rw [(hσs j i hi).2]
     obtain ⟨r, es, clk, g1, g2, g3, g4, g5⟩ := h.hp i _ hb
     exact ⟨r, es, clk, by rw [(hσs j i hi).1]; exact g1, g2, g3, CF (fun _ _ _ => rfl) hOO ⟨g4, g5⟩⟩
    ·rw [(hσs j i hi).2]
     obtain ⟨r, es, clk, g1, g2⟩ := h.hp i _ hb
     exact ⟨r, es, clk, by rw [(hσs j i hi).1]; exact g1, g2⟩
   ·intro j Da hj
    rcases hlive j Da hj with hφ | ⟨i, blk0, _, hb, hφ⟩
    ·rw [hφ]; exact List.nodup_nil
    ·rw [hφ]; exact h.nodup i blk0 hb
   ·intro j j' Da blk' hne hj hj' b hb hb'
    rcases hlive j Da hj with hφ | ⟨i, blk0, hi, hbi, hφ⟩
    ·rw [hφ] at hb; simp at hb
    ·rcases hlive j' blk' hj' with hφ' | ⟨i', blk0', hi', hbi', hφ'⟩
     ·rw [hφ'] at hb'; simp at hb'
     ·rw [hφ] at hb
      rw [hφ'] at hb'
      by_cases hii : i = i'
      ·subst hii
       exact hne (Jad hn1 hi hi')
      ·exact h.disj i i' blk0 blk0' hii hbi hbi' b hb hb'
   ·intro j Da hj b hb
    rcases hlive j Da hj with hφ | ⟨i, blk0, _, hbi, hφ⟩
    ·rw [hφ] at hb; simp at hb
    ·rw [hφ] at hb; exact h.fresh i blk0 hbi b hb
   ·intro j v hv
    have hlow := A.low j v hv
    show σ' j = v
    simp only [σ']
    split
    ·rename_i i hg
     rcases PH hpo j i (Wt hg) with ⟨hj, _⟩ | rfl
     ·omega
     ·exact h.pin _ v hv
    ·rename_i hg
     have := OH hpo j (Wt hg)
     omega
    ·exact h.pin j v hv
   ·intro j kk e xs hj
    rcases hent j _ hj with ⟨hn, e, dp, hh⟩ | ⟨i, hi, ⟨e, dp, dp', xs, hh, _⟩ | ⟨ρ', d', td, y, m0, hh, hb', _⟩ | ⟨e, xs, k, x, p, τ, d', td, y, m0, hh, _⟩ | ⟨e, xs, k, hh, _⟩ | ⟨_, _, _, hh, _⟩ | ⟨kk2, e2, xs2, hh, hb⟩⟩
    ·simp at hh
    ·simp at hh
    ·simp at hh
    ·simp at hh
    ·simp at hh
    ·simp at hh
    ·simp only [Ja.mq.injEq] at hh
     obtain ⟨rfl, rfl, hh⟩ := hh
     simp only [heq_eq_eq] at hh
     subst hh
     rw [(hσs j i hi).1]
     exact (h.shr i _ _ _ hb).stable (fun _ _ _ => rfl) hOO (fun _ _ => rfl)
  ·simp at he
 ·simp at he
end
def Ial : Ex → Exit
 | .normal => .normal
 | .exit id => .exit id
 | .ret => .ret
def NB {X R : Type} (step : X → Option (X ⊕ R)) : Nat → X → R → Prop
 | 0, _, _ => False
 | n + 1, x, r => step x = some (.inr r) ∨ ∃ x', step x = some (.inl x') ∧ NB step n x' r
def Yd : Code → List Code
 | .seq a b => Yd a ++ Yd b
 | .cond _ a b => Yd a ++ Yd b
 | .block _ c => Yd c
 | .loop c => c :: Yd c
 | _ => []
def Bb (G : Qd) (L : List (Nat × Ua)) (b : Code) : Prop :=
 ∀ r ls, Ck b = some r → Eb L r = some ls → ∀ x y, ls.F x = some y → ∃ m, NB (QE G L ls b) m x y
section
variable {P : Program} {n0 : Nat} {A : Fx} {O0 : Nat → Prop} {w0 : World} {G : Qd} {L : List (Nat × Ua)}
theorem VO (hG : Ui P A.I G) (hfz : OC G A O0) (hm : P.follows .mixedOrders = true) : ∀ (c : Code), (∀ b, b ∈ Yd c → Bb G L b) → ∀ {Out : Type} {k : Ex → AS → Option Out} {out : Out} {s : AS} {σ : Nat → Value} {φ : Nat → List Nat} {a : Act} {w : World} {Q : Exit → Act → World → Prop},
 Nr G L c s k = some out → Ra n0 A O0 w0 s σ φ a w → (∀ e s σ φ a w, k e s = some out → Ra n0 A O0 w0 s σ φ a w → Q (Ial e) a w) → c.wp P Q a w := by
 intro c
 induction c with
 | skip =>
  intro _ Out k out s σ φ a w Q he h hQ
  simp only [Nr] at he
  exact wp_skip (hQ .normal s σ φ a w he h)
 | region id ops draw =>
  intro _ Out k out s σ φ a w Q he h hQ
  simp only [Nr] at he
  split at he
  ·rename_i s1 h1
   obtain ⟨φ1, hc⟩ := Lz hfz h h1
   obtain ⟨s1, σ1, φ1, he, hc⟩ : ∃ s2 σ2 φ2, (bif draw then Qw G (DP G.att (1000 * id + 998)) ops ops.toList 0 [] s2 fun s' => match OB G.fz (Dq G.att) G.att (1000 * id + 999) s' with
    | some s' => k .normal s'
    | none => none
    else Ey G id ops ops.toList 0 s2 fun s' => match OB G.fz (Dq G.att) G.att (1000 * id + 999) s' with
     | some s' => k .normal s'
     | none => none) = some out ∧ Ra n0 A O0 w0 s2 σ2 φ2 a w := by
    cases draw with
    | false => exact ⟨s1, σ, φ1, he, hc⟩
    | true => exact Jac hc he
   refine Raa (k := fun s' => match OB G.fz (Dq G.att) G.att (1000 * id + 999) s' with
    | some s' => k .normal s'
    | none => none) hG hfz hm hc he fun a w ⟨s', σ', φ', h2, h3⟩ => ?_
   simp only at h2
   split at h2
   ·rename_i s2 h4
    obtain ⟨φ2, hc2⟩ := Lz hfz h3 h4
    exact hQ .normal _ σ' φ2 a w h2 hc2
   ·simp at h2
  ·simp at he
 | seq x y ihx ihy =>
  intro hL Out k out s σ φ a w Q he h hQ
  simp only [Nr] at he
  refine wp_seq (ihx (fun b hb => hL b (by simp [Yd, hb])) he h fun e s' σ' φ' a' w' hk h' => ?_)
  cases e with
  | normal => exact ihy (fun b hb => hL b (by simp [Yd, hb])) hk h' hQ
  | exit j => exact hQ (.exit j) s' σ' φ' a' w' hk h'
  | ret => exact hQ .ret s' σ' φ' a' w' hk h'
 | cond x y z ihy ihz =>
  intro hL Out k out s σ φ a w Q he h hQ
  cases x with
  | tmp t =>
   simp only [Nr] at he
   split at he
   ·rename_i β hd
    have hs := h.same hd
    obtain ⟨v, hv, hr⟩ := h.tm t _ hd
    rw [Ki] at hr
    subst hr
    have hev : a.eval (.tmp t) = .bool β := by
     simp only [Act.eval]
     rw [Array.getD_eq_getD_getElem?, hv]
     rfl
    refine wp_cond_split hev (fun hb => ?_) (fun hb => ?_)
    ·subst hb
     simp only [y3] at he
     exact ihy (fun b hb => hL b (by simp [Yd, hb])) he hs hQ
    ·subst hb
     simp only [y8] at he
     exact ihz (fun b hb => hL b (by simp [Yd, hb])) he hs hQ
   ·simp at he
  | const cv =>
   cases cv with
   | bool β =>
    simp only [Nr] at he
    refine wp_cond_split (show a.eval (.const (.bool β)) = .bool β from rfl) (fun hb => ?_) (fun hb => ?_)
    ·subst hb
     simp only [y3] at he
     exact ihy (fun b hb => hL b (by simp [Yd, hb])) he h hQ
    ·subst hb
     simp only [y8] at he
     exact ihz (fun b hb => hL b (by simp [Yd, hb])) he h hQ
   | _ => simp [Nr] at he
  | _ => simp [Nr] at he
 | block id c ih =>
  intro hL Out k out s σ φ a w Q he h hQ
  simp only [Nr] at he
  refine wp_block (ih (fun b hb => hL b (by simpa [Yd] using hb)) he h fun e s' σ' φ' a' w' hk h' => ?_)
  cases e with
  | normal => exact hQ .normal s' σ' φ' a' w' hk h'
  | exit j =>
   simp only [Ial, Exit.inBlock]
   cases hb : qv j id with
   | true =>
    rw [if_pos (jv hb)]
    simp only [hb, y3] at hk
    exact hQ .normal s' σ' φ' a' w' hk h'
   | false =>
    rw [if_neg (fun e => by rw [e, Nat.beq_refl] at hb; simp at hb)]
    simp only [hb, y8] at hk
    exact hQ (.exit j) s' σ' φ' a' w' hk h'
  | ret => exact hQ .ret s' σ' φ' a' w' hk h'
 | exit id =>
  intro _ Out k out s σ φ a w Q he h hQ
  simp only [Nr] at he
  exact wp_exit (hQ (.exit id) s σ φ a w he h)
 | ret =>
  intro _ Out k out s σ φ a w Q he h hQ
  simp only [Nr] at he
  exact wp_ret (hQ .ret s σ φ a w he h)
 | loop c ih =>
  intro hL Out k out s σ φ a w Q he h hQ
  simp only [Nr] at he
  split at he
  ·rename_i r hr
   split at he
   ·rename_i ls hls
    split at he
    ·rename_i x hx
     simp only [Ha] at he
     obtain ⟨hn, he⟩ := he
     have hn := jv hn
     rw [qf] at he
     obtain ⟨y, hy, he⟩ := he
     obtain ⟨m, hit⟩ := hL c (by simp [Yd]) r ls hr hls x y hy
     obtain ⟨σ1, φ1, h1⟩ := HL h hx
     rw [hn] at h1 he
     refine wp_loop_rounds m ?_
     have key : ∀ (m : Nat) (x : ls.inT.X) (σ : Nat → Value) (φ : Nat → List Nat) (a : Act) (w : World), NB (QE G L ls c) m x y → Ra n0 A O0 w0 (YC ls.inT x ls.n) σ φ a w → Code.rounds P c Q m a w := by
      intro m
      induction m with
      | zero => intro x σ φ a w hit _; exact hit.elim
      | succ m ihm =>
       intro x σ φ a w hit h
       rw [rounds_succ]
       have body : ∀ z, QE G L ls c x = some z → (z = .inr y ∨ ∃ x', z = .inl x' ∧ NB (QE G L ls c) m x' y) → c.wp P (Exit.then (Code.rounds P c Q m) Q) a w := by
        intro z hz hzy
        unfold QE at hz
        refine ih (fun b hb => hL b (by simp [Yd, hb])) hz h fun e s' σ' φ' a' w' hk h' => ?_
        simp only [Ha] at hk
        obtain ⟨hn', hk⟩ := hk
        have hn' := jv hn'
        cases e with
        | normal =>
         simp only at hk
         split at hk
         ·rename_i x' hx'
          simp only [jc] at hk
          obtain ⟨σ2, φ2, h2⟩ := HL h' hx'
          rw [hn'] at h2
          rcases hzy with hzy | ⟨x'', hzy, hit'⟩
          ·rw [hzy] at hk; simp at hk
          ·rw [hzy] at hk
           simp only [Sum.inl.injEq] at hk
           subst hk
           exact ihm x' σ2 φ2 a' w' hit' h2
         ·simp at hk
        | exit j =>
         simp only [Ha] at hk
         obtain ⟨hj, hk⟩ := hk
         have hj := jv hj
         split at hk
         ·rename_i y' hy'
          simp only [jc] at hk
          obtain ⟨σ2, φ2, h2⟩ := HL h' hy'
          rw [hn'] at h2
          rcases hzy with hzy | ⟨x'', hzy, _⟩
          ·rw [hzy] at hk
           simp only [Sum.inr.injEq] at hk
           subst hk
           simp only [qh] at he
           show Q (.exit j) a' w'
           rw [hj]
           exact hQ (.exit ls.exitId) _ σ2 φ2 a' w' he h2
          ·rw [hzy] at hk; simp at hk
         ·simp at hk
        | ret =>
         simp only at hk
         split at hk
         ·rename_i y' hy'
          simp only [jc] at hk
          obtain ⟨σ2, φ2, h2⟩ := HL h' hy'
          rw [hn'] at h2
          rcases hzy with hzy | ⟨x'', hzy, _⟩
          ·rw [hzy] at hk
           simp only [Sum.inr.injEq] at hk
           subst hk
           simp only [Sum.elim_inr] at he
           exact hQ .ret _ σ2 φ2 a' w' he h2
          ·rw [hzy] at hk; simp at hk
         ·simp at hk
       rcases hit with hit | ⟨x', hit, hit'⟩
       ·exact body _ hit (.inl rfl)
       ·exact body _ hit (.inr ⟨x', rfl, hit'⟩)
     exact key m x σ1 φ1 a w hit h1
    ·simp at he
   ·simp at he
  ·simp at he
 | _ => intros; rename_i he _ _; simp [Nr] at he
end
theorem Jc.mono {w : World} {O O' : Nat → Prop} (hO : ∀ b, O' b → O b) : ∀ {rt : Ty} {r : T rt} {fr : List Bool} {vs : List Value} {F : List Nat}, Jc w O rt r fr vs F → Jc w O' rt r fr vs F
 | .u, _, [], [], _, h => h
 | .p x y, r, f :: fr, v :: vs, F, h => by
  obtain ⟨cs, F1, F2, hv, hF, h1, h2⟩ := h
  refine ⟨cs, F1, F2, hv, hF, ?_, Jc.mono hO h2⟩
  cases f with
  | true => exact h1
  | false =>
   simp only [jr, if_false] at h1 ⊢
   exact ⟨h1.1.weaken hO, h1.2⟩
 | .u, _, _ :: _, _, _, h => by simp [Jc] at h
 | .u, _, [], _ :: _, _, h => by simp [Jc] at h
 | .p _ _, _, [], _, _, h => by simp [Jc] at h
 | .p _ _, _, _ :: _, [], _, h => by simp [Jc] at h
 | .i _, _, fr, vs, _, h => by simp [Jc] at h
 | .b, _, fr, vs, _, h => by simp [Jc] at h
 | .o, _, fr, vs, _, h => by simp [Jc] at h
 | .mp _ _, _, fr, vs, _, h => by simp [Jc] at h
 | .s, _, fr, vs, _, h => by simp [Jc] at h
 | .sl _, _, fr, vs, _, h => by simp [Jc] at h
section
variable {P : Program} {n0 : Nat} {A : Fx} {O0 : Nat → Prop} {w0 w : World} {s : AS} {σ : Nat → Value} {φ : Nat → List Nat} {a : Act} {G : Qd} {L : List (Nat × Ua)}
def RU (w : World) (O : Nat → Prop) (hp : Nat → Option Ja) (σ : Nat → Value) : D → List Value → Prop
 | .pr a b, v :: vs => Nc w O hp σ a v ∧ RU w O hp σ b vs
 | .un, [] => True
 | _, _ => False
def DK (tmps : Array Value) : ResultVar → Sem Value
 | .tmp t => pure (tmps.getD t undef)
 | .cell a t => do loadVar t (← asAddr (tmps.getD a undef))
theorem Lx (hG : EnvTy P G) (h : Ra n0 A O0 w0 s σ φ a w) : ∀ {rs : List ResultVar} {d : D}, Ht G s rs = some d → ∃ vs, (rs.mapM (DK a.tmps)).run P w = .ok vs w ∧ RU w (OO O0 s φ) s.heap σ d vs
 | [], d, he => by
  simp only [Ht, jc] at he
  subst he
  exact ⟨[], by simp, trivial⟩
 | .tmp t :: r, d, he => by
  simp only [Ht] at he
  split at he
  ·rename_i d1 d2 h1 h2
   simp only [jc] at he
   subst he
   obtain ⟨vs, hvs, hr⟩ := Lx hG h h2
   obtain ⟨v, hv, hru⟩ := h.tm t d1 h1
   have hg : a.tmps.getD t undef = v := by rw [Array.getD_eq_getD_getElem?, hv]; rfl
   refine ⟨v :: vs, ?_, hru, hr⟩
   rw [List.mapM_cons]
   simp only [DK, qm, Sem.run_pure, ql, hvs, hg]
  ·simp at he
 | .cell t ty :: r, d, he => by
  simp only [Ht] at he
  split at he
  ·rename_i id d2 h1 h2
   split at he
   ·rename_i ρ d1 τ hb hty
    split at he
    ·rename_i q hq
     obtain rfl := q.down
     simp only [jc] at he
     subst he
     obtain ⟨vs, hvs, hr⟩ := Lx hG h h2
     obtain ⟨v, hv, hru⟩ := h.tm t _ h1
     have hg : a.tmps.getD t undef = v := by rw [Array.getD_eq_getD_getElem?, hv]; rfl
     rw [Al] at hru
     obtain ⟨b, hσ, hv'⟩ := hru.2 _ _ hb
     obtain ⟨hs, b', cur, et, hσ', hh, hF, hrep, hsz⟩ := h.hp id _ hb
     rw [hσ] at hσ'
     simp at hσ'
     subst hσ'
     have hl := Tm (P := P) (hG.ty _ _ hty) (off := 0) hh (by omega)
     have hseg : Rc cur 0 ρ.size = cur.toList := by rw [← hsz]; exact Taj cur
     rw [hseg] at hl
     refine ⟨Sc ρ cur.toList :: vs, ?_, Sm hs hrep, hr⟩
     rw [List.mapM_cons]
     have hoff : Db ρ [] = 0 := rfl
     rw [hoff] at hv'
     subst hv'
     simp only [DK, qm, Sem.run_pure, ql, hvs, hg, asAddr, hl]
    ·simp at he
   ·simp at he
  ·simp at he
theorem MR (h : Ra n0 A O0 w0 s σ φ a w) : ∀ {rt : Ty} {fr : List Bool} {d : D} {r : T rt} {l : List Nat} {vs : List Value}, Ig s rt fr d = some (r, l) → RU w (OO O0 s φ) s.heap σ d vs →
 Jc w (OO O0 s φ) rt r fr vs (Ia φ l) ∧ ∀ j, j ∈ l → ∃ b, s.heap j = some b
 | .u, [], .un, r, l, vs, he, hr => by
  simp only [Ig, jc, jh] at he
  obtain ⟨_, rfl⟩ := he
  cases vs with
  | nil => exact ⟨by simp [Jc, Ia], by simp⟩
  | cons v vs => simp [RU] at hr
 | .p x y, f :: fr, .pr d1 d2, r, l, vs, he, hr => by
  cases vs with
  | nil => simp [RU] at hr
  | cons v vs =>
   simp only [Ig] at he
   split at he
   ·rename_i u l1 z l2 h1 h2
    simp only [jc, jh] at he
    obtain ⟨rfl, rfl⟩ := he
    obtain ⟨g1, g2⟩ := MR h h2 hr.2
    cases f with
    | true =>
     simp only [y3] at h1
     obtain ⟨hrep, hv⟩ := Kd (Cj h1) hr.1
     obtain ⟨ho, hl⟩ := Jm h h1 hrep
     refine ⟨⟨_, Ia φ l1, Ia φ l2, hv, Rd, ?_, g1⟩, ?_⟩
     ·simpa using ho
     ·intro j hj
      rcases jm.1 hj with hj | hj
      ·exact hl j hj
      ·exact g2 j hj
    | false =>
     simp only [y8] at h1
     split at h1
     ·rename_i u' hu
      simp only [jc, jh] at h1
      obtain ⟨rfl, rfl⟩ := h1
      obtain ⟨hs, hvw⟩ := Xe (w := w) (O := OO O0 s φ) (hp := s.heap) (σ := σ) hu
      obtain ⟨hrep, hv⟩ := Kd hs hr.1
      refine ⟨⟨_, [], Ia φ l2, hv, by simp [Ia], ?_, g1⟩, by simpa using g2⟩
      simpa using hvw _ hrep
     ·simp at h1
   ·simp at he
 | .u, _ :: _, d, _, _, _, he, _ => by cases d <;> simp [Ig] at he
 | .u, [], .und, _, _, _, he, _ => by simp [Ig] at he
 | .u, [], .anyv, _, _, _, he, _ => by simp [Ig] at he
 | .u, [], .mpo _, _, _, _, he, _ => by simp [Ig] at he
 | .u, [], .t _ _, _, _, _, he, _ => by simp [Ig] at he
 | .u, [], .nil, _, _, _, he, _ => by simp [Ig] at he
 | .u, [], .own _, _, _, _, he, _ => by simp [Ig] at he
 | .u, [], .ptr _ _, _, _, _, he, _ => by simp [Ig] at he
 | .u, [], .eptr _ _ _, _, _, _, he, _ => by simp [Ig] at he
 | .u, [], .rp _ _, _, _, _, he, _ => by simp [Ig] at he
 | .u, [], .pr _ _, _, _, _, he, _ => by simp [Ig] at he
 | .u, [], .tup _, _, _, _, he, _ => by simp [Ig] at he
 | .p _ _, [], d, _, _, _, he, _ => by cases d <;> simp [Ig] at he
 | .p _ _, _ :: _, .und, _, _, _, he, _ => by simp [Ig] at he
 | .p _ _, _ :: _, .anyv, _, _, _, he, _ => by simp [Ig] at he
 | .p _ _, _ :: _, .mpo _, _, _, _, he, _ => by simp [Ig] at he
 | .p _ _, _ :: _, .t _ _, _, _, _, he, _ => by simp [Ig] at he
 | .p _ _, _ :: _, .nil, _, _, _, he, _ => by simp [Ig] at he
 | .p _ _, _ :: _, .own _, _, _, _, he, _ => by simp [Ig] at he
 | .p _ _, _ :: _, .ptr _ _, _, _, _, he, _ => by simp [Ig] at he
 | .p _ _, _ :: _, .eptr _ _ _, _, _, _, he, _ => by simp [Ig] at he
 | .p _ _, _ :: _, .rp _ _, _, _, _, he, _ => by simp [Ig] at he
 | .p _ _, _ :: _, .un, _, _, _, he, _ => by simp [Ig] at he
 | .p _ _, _ :: _, .tup _, _, _, _, he, _ => by simp [Ig] at he
 | .i _, fr, d, _, _, _, he, _ => by cases fr <;> cases d <;> simp [Ig] at he
 | .b, fr, d, _, _, _, he, _ => by cases fr <;> cases d <;> simp [Ig] at he
 | .o, fr, d, _, _, _, he, _ => by cases fr <;> cases d <;> simp [Ig] at he
 | .mp _ _, fr, d, _, _, _, he, _ => by cases fr <;> cases d <;> simp [Ig] at he
 | .s, fr, d, _, _, _, he, _ => by cases fr <;> cases d <;> simp [Ig] at he
 | .sl _, fr, d, _, _, _, he, _ => by cases fr <;> cases d <;> simp [Ig] at he
theorem Pav (h : Ra n0 A O0 w0 s σ φ a w) {id : Nat} {kk : IntKind} {e : Ty} {xs : List (Int × List (T e))} (hb : s.heap id = some (.mq kk e xs)) :
 ∃ F, Ob w (.mp (.i kk) (.sl e)) xs [σ id] F ∧ F.Nodup ∧ (∀ b, b ∈ F → n0 ≤ b ∨ A.A b) ∧ F.head? = (φ id).head? ∧ ∀ b, b ∈ F.tail → n0 ≤ b ∧ ¬ OO O0 s φ b := by
 obtain ⟨r, es, clk, g1, g2, g3, g4⟩ := h.hp id _ hb
 obtain ⟨r', es', clk', Gs, s1, s2, s3, s4, s5, s6, s7⟩ := h.shr id _ _ _ hb
 rw [g1] at s1
 simp only [Value.map.injEq, jc] at s1
 subst s1
 refine ⟨r :: List.flatten Gs, .inr ⟨r, es', clk', Gs, by rw [g1], s2, s3, rfl, s4, fun i hi => ?_⟩, ?_, ?_, by rw [g3]; rfl, fun b hb' => s6 b hb'⟩
 ·obtain ⟨en, q1, q2, q3⟩ := s7 i hi
  exact ⟨en, [.int kk (List.get xs ⟨i, hi⟩).1], [en.val], q1, q2, rfl, ⟨rfl, rfl⟩, q3⟩
 ·refine yk.2 ⟨fun hm => (s6 r hm).2 (.inr ⟨id, _, hb, by rw [g3]; simp⟩), s5⟩
 ·intro b hm
  rcases jq.1 hm with rfl | hm
  ·exact h.fresh id _ hb _ (by rw [g3]; simp)
  ·exact .inl (s6 b hm).1
theorem Qaj (h : Ra n0 A O0 w0 s σ φ a w) {rt : Ty} {fr : List Bool} {d : D} {r : T rt} {vs : List Value} (he : D7 s rt fr d = some r) (hr : RU w (OO O0 s φ) s.heap σ d vs) :
 ∃ F, (∀ O', Jc w O' rt r fr vs F) ∧ F.Nodup ∧ (∀ b, b ∈ F → n0 ≤ b ∨ A.A b) := by
 unfold D7 at he
 split at he
 ·rename_i k v id
  split at he
  ·rename_i kk e xs hb
   split at he
   ·rename_i q hq
    have q2 := q
    simp only [Ty.mp.injEq] at q2
    obtain ⟨rfl, rfl⟩ := q2
    simp only [jc] at he
    subst he
    obtain ⟨F, h1, h2, h3, _⟩ := Pav h hb
    cases vs with
    | nil => simp [RU] at hr
    | cons u vs =>
     obtain ⟨hr1, hr2⟩ := hr
     cases vs with
     | cons _ _ => simp [RU] at hr2
     | nil =>
      have hu : u = σ id := (Qo.1 hr1).2 _ hb rfl
      subst hu
      exact ⟨F, fun _ => ⟨[σ id], F, [], rfl, by simp, h1, rfl⟩, h2, h3⟩
   ·simp at he
  ·simp at he
 ·simp at he
theorem Mw {fn : Func} {vs : List Value} (h : (fn.results.toList.mapM (DK a.tmps)).run P w = .ok vs w) : (results fn a.tmps).run P w = .ok (TB vs) w := by
 unfold results
 rw [Array.mapM_eq_mapM_toList]
 simp only [map_eq_pure_bind, bind_assoc, pure_bind, qm, Sem.run_pure]
 show (Sem.run P (List.mapM (DK a.tmps) fn.results.toList) w).andThen (fun vs w' => Result.ok (if h : vs.toArray.size = 1 then vs.toArray[0] else Value.tuple vs.toArray) w') = _
 rw [h]
 simp only [ql]
 congr 1
 cases vs with
 | nil => rfl
 | cons v vs => cases vs <;> rfl
end
def Ty.npar : Ty → Nat
 | .p _ y => y.npar + 1
 | _ => 0
theorem KB {w : World} {O : Nat → Prop} : ∀ {pt : Ty} {x : T pt} {args : List Value}, Ff w O pt x args → args.length = pt.npar
 | .u, _, [], _ => rfl
 | .p x y, v, a :: r, h => by simp [Ty.npar, KB h.2]
 | .u, _, _ :: _, h => by simp [Ff] at h
 | .p _ _, _, [], h => by simp [Ff] at h
 | .i _, _, l, h => by simp [Ff] at h
 | .b, _, l, h => by simp [Ff] at h
 | .o, _, l, h => by simp [Ff] at h
 | .mp _ _, _, l, h => by simp [Ff] at h
 | .s, _, l, h => by simp [Ff] at h
 | .sl _, _, l, h => by simp [Ff] at h
theorem DD {w : World} {O : Nat → Prop} {hp : Nat → Option Ja} {σ : Nat → Value} : ∀ {pt : Ty} {x : T pt} {args : List Value} {n t : Nat} {d : D}, Ff w O pt x args → Eb (Tn pt x n) t = some d →
 ∃ j v, t = n + j ∧ args[j]? = some v ∧ Nc w O hp σ d v
 | .p x y, v, a :: r, n, t, d, h, hd => by
  simp only [Tn] at hd
  rw [Vb] at hd
  split at hd
  ·rename_i e
   simp only [jc] at hd
   subst hd
   obtain ⟨⟨cs, ha, hv⟩, _⟩ := h
   refine ⟨0, a, by omega, rfl, ?_⟩
   rw [ha]
   exact Sm (τ := x) (by simp [Ab]) hv
  ·obtain ⟨j, v', h1, h2, h3⟩ := DD (hp := hp) (σ := σ) h.2 hd
   exact ⟨j + 1, v', by omega, by simpa using h2, h3⟩
 | .p _ _, _, [], _, _, _, h, _ => by simp [Ff] at h
 | .u, _, _, _, _, _, _, hd => by simp [Tn, Eb] at hd
 | .i _, _, _, _, _, _, h, _ => by simp [Ff] at h
 | .b, _, _, _, _, _, h, _ => by simp [Ff] at h
 | .o, _, _, _, _, _, h, _ => by simp [Ff] at h
 | .mp _ _, _, _, _, _, _, h, _ => by simp [Ff] at h
 | .s, _, _, _, _, _, h, _ => by simp [Ff] at h
 | .sl _, _, _, _, _, _, h, _ => by simp [Ff] at h
section
variable {P : Program} {G : Qd} {L : List (Nat × Ua)}
variable {I : Ei}
def GR (I : Ei) : Fx := ⟨fun _ => False, fun _ => none, fun _ _ h => by simp at h, I, fun _ h => h.elim⟩
theorem Zad (hG : Ui P I G) (hm : P.follows .mixedOrders = true) {f : FuncId} {fn : Func} {c : Code} (hf : P.funcs[f]? = some fn) (hb : fn.body = some c) (hname : (fn.name == "runtime.NumGoroutine") = false)
 (hL : ∀ b, b ∈ Yd c → Bb G L b) {pt rt : Ty} {fr : List Bool} {F : T pt → Option (T rt)} (hn : pt.npar ≤ fn.ntmps) (hF : ∀ x r, F x = some r → O8 G L fn pt rt fr x = some r) : Qh P I f (.pu pt rt fr F) := by
 refine ⟨⟨fn, hf, hname, by rw [hb]; rfl⟩, ?_⟩
 intro O w x r args hx hargs hO hI hB
 have he := hF x r hx
 unfold O8 at he
 rw [hb] at he
 simp only at he
 refine calls_of_wp hf hb ?_
 have hlen := KB hargs
 have hc : Ra w.heap.size (GR I) O w ⟨fn.ntmps, Tn pt x 0, []⟩ (fun _ => undef) (fun _ => []) { tmps := args.toArray ++ Array.replicate (fn.ntmps - args.toArray.size) undef, defers := [] } w := by
  have hh : ∀ id, AS.heap ⟨fn.ntmps, Tn pt x 0, []⟩ id = none := fun id => rfl
  refine ⟨?_, rfl, ?_, ?_, ?_, ?_, ?_, hO, ⟨rfl, rfl, rfl, jp _, fun _ _ _ => rfl⟩, ?_, hB, hI, fun id kk e xs hb => by rw [hh] at hb; simp at hb⟩
  ·simp; omega
  ·intro t d hd
   have hOO : OO O ⟨fn.ntmps, Tn pt x 0, []⟩ (fun _ => []) = O := by
    funext b
    simp [OO, hh]
   rw [hOO]
   obtain ⟨j, v, h1, h2, h3⟩ := DD hargs hd
   refine ⟨v, ?_, h3⟩
   have hj : j < args.length := (q7.1 h2).1
   have : t = j := by omega
   subst this
   rw [Array.getElem?_append_left (by simpa using hj)]
   simpa using h2
  ·intro id Da hb; rw [hh] at hb; simp at hb
  ·intro id Da hb; rw [hh] at hb; simp at hb
  ·intro id id' Da blk' _ hb; rw [hh] at hb; simp at hb
  ·intro id Da hb; rw [hh] at hb; simp at hb
  ·intro id v hv; simp [GR] at hv
 refine VO (A := GR I) hG (fun _ => .inl fun _ h => h) hm c hL he hc ?_
 intro e s σ φ a w' hk h
 have Kf : (match Ht G s fn.results.toList with
  | some d => match D7 s rt fr d with
   | some r => some r
   | none => match Ig s rt fr d with
    | some (r, l) => bif Mf l then some r else none
    | none => none
  | none => none) = some r → a.defers = [] ∧ ∃ v, (results fn a.tmps).run P w' = .ok v w' ∧ Gm (fun v w' => ∃ vs Fr, v = TB vs ∧ Hs w w' (fun _ => False) ∧ Jc w' (fun b => O b ∨ b ∈ Fr) rt r fr vs Fr ∧ Fr.Nodup ∧ ∀ b ∈ Fr, w.heap.size ≤ b) (.returned v) w' := by
  intro hk
  split at hk
  ·rename_i d hd
   split at hk
   ·rename_i r' hq
    simp only [jc] at hk
    subst hk
    obtain ⟨vs, hvs, hru⟩ := Lx hG.toEnvTy h hd
    obtain ⟨F, hR, hnd, hfr⟩ := Qaj h hq hru
    exact ⟨h.df, _, Mw hvs, vs, F, rfl, ⟨h.fr.size, fun b hb _ => h.fr.block b hb (fun h => h), h.fr.os, h.fr.tape, h.fr.output⟩, hR _, hnd, fun b hb => (hfr b hb).resolve_right (fun h => h)⟩
   split at hk
   ·rename_i r' l hr
    simp only [Ha] at hk
    obtain ⟨hnd, hk⟩ := hk
    simp only [jc] at hk
    subst hk
    have hnd := Rh hnd
    obtain ⟨vs, hvs, hru⟩ := Lx hG.toEnvTy h hd
    obtain ⟨hR, hlive⟩ := MR h hr hru
    refine ⟨h.df, _, Mw hvs, vs, Ia φ l, rfl, ⟨h.fr.size, fun b hb _ => h.fr.block b hb (fun h => h), h.fr.os, h.fr.tape, h.fr.output⟩, hR.mono ?_, Qf h hnd hlive, ?_⟩
    ·rintro b (hb | hb)
     ·exact .inl hb
     ·obtain ⟨j, hj, hm'⟩ := Gb.1 hb
      obtain ⟨Da, hbj⟩ := hlive j hj
      exact .inr ⟨j, Da, hbj, hm'⟩
    ·intro b hb
     obtain ⟨j, hj, hm'⟩ := Gb.1 hb
     obtain ⟨Da, hbj⟩ := hlive j hj
     exact (h.fresh j Da hbj b hm').resolve_right (fun h => h)
   ·simp at hk
  ·simp at hk
 cases e with
 | normal => exact Kf hk
 | ret => exact Kf hk
 | exit j => simp at hk
end
theorem XI {φ : Nat → List Nat} : ∀ {L : List Nat}, (Ia φ L).Nodup → ∀ {i j b : Nat}, i ∈ L → j ∈ L → i ≠ j → b ∈ φ i → b ∉ φ j
 | [], _, _, _, _, h, _, _, _ => by simp at h
 | x :: L, hn, i, j, b, hi, hj, hne, hb => by
  intro hb'
  have hx : Ia φ (x :: L) = φ x ++ Ia φ L := by simp [Ia]
  rw [hx, yl] at hn
  rcases jq.1 hi with e1 | q1
  ·rcases jq.1 hj with e2 | q2
   ·exact hne (e1.trans e2.symm)
   ·exact hn.2.2 b (e1 ▸ hb) b (Gb.2 ⟨j, q2, hb'⟩) rfl
  ·rcases jq.1 hj with e2 | q2
   ·exact hn.2.2 b (e2 ▸ hb') b (Gb.2 ⟨i, q1, hb⟩) rfl
   ·exact XI hn.2.1 q1 q2 hne hb hb'
section
variable {P : Program} {G : Qd} {L : List (Nat × Ua)} {I : Ei}
end
def NH : (pt : Ty) → T pt → Nat → Nat → List (Nat × D) × List (Nat × Option Ja) × Nat
 | .p x y, v, t, n => match Od x v.1 n with
  | (d, l, m) => match NH y v.2 (t + 1) m with
   | (tm, l', m') => ((t, d) :: tm, l ++ l', m')
 | _, _, _, n => ([], [], n)
def MV (G : Qd) (L : List (Nat × Ua)) (fn : Func) (vw cv : Bool) (τ pt rt : Ty) (fr : List Bool) (x0 : T τ) (x : T pt) : Option (T τ × T rt) :=
 match fn.body with
 | some c => match (bif vw then (D.t τ x0, [], 400000) else Od τ x0 400000) with
  | (d0, rows, m) => match (bif cv then NH pt x 1 m else (Tn pt x 1, [], m)) with
   | (tm, rows2, m2) => bif jy m2 500000 then Nr G L c ⟨fn.ntmps, (0, .ptr 500000 []) :: tm, (500000, some (.box τ d0)) :: (rows ++ rows2)⟩ fun e s => match e with
    | .exit _ => none
    | _ => match s.heap 500000, Ht G s fn.results.toList with
     | some (.box τ' d1), some d => match Ty.dec τ' τ, (bif vw then (match Vf d1 τ with
      | some y => some (y, [])
      | none => none) else Lb s d1 τ), Ig s rt fr d with
      | some _, some (x', l0), some (r, l) => bif Mf (500000 :: (l0 ++ l)) then some (x', r) else none
      | _, _, _ => none
     | _, _ => none
    else none
 | none => none
theorem FT {w : World} : ∀ {pt : Ty} {x : T pt} {args : List Value} {F : List Nat}, Ue w pt x args F → args.length = pt.npar
 | .u, _, [], _, _ => rfl
 | .p x y, v, a :: r, F, h => by
  obtain ⟨cs, F1, F2, _, _, _, h⟩ := h
  simp [Ty.npar, FT h]
 | .u, _, _ :: _, _, h => by simp [Ue] at h
 | .p _ _, _, [], _, h => by simp [Ue] at h
 | .i _, _, l, _, h => by simp [Ue] at h
 | .b, _, l, _, h => by simp [Ue] at h
 | .o, _, l, _, h => by simp [Ue] at h
 | .mp _ _, _, l, _, h => by simp [Ue] at h
 | .s, _, l, _, h => by simp [Ue] at h
 | .sl _, _, l, _, h => by simp [Ue] at h
theorem Ue.lt {w : World} : ∀ {pt : Ty} {x : T pt} {args : List Value} {F : List Nat}, Ue w pt x args F → ∀ b, b ∈ F → b < w.heap.size
 | .u, _, [], F, h, b, hb => by simp only [Ue] at h; subst h; simp at hb
 | .p x y, v, a :: r, F, h, b, hb => by
  obtain ⟨cs, F1, F2, _, rfl, ho, h⟩ := h
  rcases jm.1 hb with hb | hb
  ·exact ho.lt b hb
  ·exact Ue.lt h b hb
 | .u, _, _ :: _, _, h, _, _ => by simp [Ue] at h
 | .p _ _, _, [], _, h, _, _ => by simp [Ue] at h
 | .i _, _, l, _, h, _, _ => by simp [Ue] at h
 | .b, _, l, _, h, _, _ => by simp [Ue] at h
 | .o, _, l, _, h, _, _ => by simp [Ue] at h
 | .mp _ _, _, l, _, h, _, _ => by simp [Ue] at h
 | .s, _, l, _, h, _, _ => by simp [Ue] at h
 | .sl _, _, l, _, h, _, _ => by simp [Ue] at h
theorem PY {w : World} : ∀ {pt : Ty} {x : T pt} {args : List Value} {F : List Nat} {t n m : Nat} {tm : List (Nat × D)} {l : List (Nat × Option Ja)}, NH pt x t n = (tm, l, m) → Ue w pt x args F →
 n ≤ m ∧ (∀ p, p ∈ l → n ≤ p.1 ∧ p.1 < m) ∧ ∃ (ψ : Nat → List Nat) (ν : Nat → Value), Ia ψ (l.map (·.1)) = F ∧ (∀ p, p ∈ l → FB w p.2 (ν p.1) (ψ p.1)) ∧
  ∀ (hp' : Nat → Option Ja) (σ' : Nat → Value) (O' : Nat → Prop), (∀ p, p ∈ l → σ' p.1 = ν p.1) → ∀ t' d, Eb tm t' = some d → ∃ j v, t' = t + j ∧ args[j]? = some v ∧ Nc w O' hp' σ' d v
 | .u, x, [], F, t, n, m, tm, l, he, h => by
  simp only [NH, jh] at he
  obtain ⟨rfl, rfl, rfl⟩ := he
  simp only [Ue] at h
  exact ⟨jp _, by simp, fun _ => [], fun _ => undef, by simp [Ia, h], by simp, fun _ _ _ _ t' d hd => by simp [Eb] at hd⟩
 | .p t1 t2, x, a :: r, F, t, n, m, tm, l, he, h => by
  obtain ⟨cs, F1, F2, ha, hF, ho, hr⟩ := h
  simp only [NH] at he
  rcases ho1 : Od t1 x.1 n with ⟨d1, l1, m1⟩
  rcases ho2 : NH t2 x.2 (t + 1) m1 with ⟨tm2, l2, m2⟩
  rw [ho1] at he
  simp only at he
  rw [ho2] at he
  simp only [jh] at he
  obtain ⟨rfl, rfl, rfl⟩ := he
  obtain ⟨a1, a2, a3, ψ1, ν1, a4, a5, a6⟩ := Qu ho1 ho
  obtain ⟨b1, b2, ψ2, ν2, b4, b5, b6⟩ := PY ho2 hr
  refine ⟨by omega, ?_, fun id => if id < m1 then ψ1 id else ψ2 id, fun id => if id < m1 then ν1 id else ν2 id, ?_, ?_, ?_⟩
  ·intro p hp
   rcases jm.1 hp with hp | hp
   ·have := a2 p hp; omega
   ·have := b2 p hp; omega
  ·rw [yu, Rd, hF, ← a4, ← b4]
   congr 1
   ·exact Kk fun id hid => by
     obtain ⟨p, hp, rfl⟩ := qk.1 hid
     rw [if_pos (a2 p hp).2]
   ·exact Kk fun id hid => by
     obtain ⟨p, hp, rfl⟩ := qk.1 hid
     rw [if_neg (by have := b2 p hp; omega)]
  ·intro p hp
   rcases jm.1 hp with hp | hp
   ·simp only [if_pos (a2 p hp).2]; exact a5 p hp
   ·have : ¬ p.1 < m1 := by have := b2 p hp; omega
    simp only [if_neg this]; exact b5 p hp
  ·intro hp' σ' O' hσ t' d hd
   rw [Vb] at hd
   split at hd
   ·rename_i e
    simp only [jc] at hd
    subst hd
    refine ⟨0, a, by omega, rfl, ?_⟩
    rw [ha]
    refine Sm a3 (a6 w hp' σ' O' fun p hp => ?_)
    have h1 := hσ p (qt _ hp)
    simp only [if_pos (a2 p hp).2] at h1
    exact h1
   ·obtain ⟨j, v, h1, h2, h3⟩ := b6 hp' σ' O' (fun p hp => by
     have h1 := hσ p (qu _ hp)
     have h2 : ¬ p.1 < m1 := by have := b2 p hp; omega
     simp only [if_neg h2] at h1
     exact h1) t' d hd
    exact ⟨j + 1, v, by omega, by simpa using h2, h3⟩
 | .u, _, _ :: _, _, _, _, _, _, _, _, h => by simp [Ue] at h
 | .p _ _, _, [], _, _, _, _, _, _, _, h => by simp [Ue] at h
 | .i _, _, l, _, _, _, _, _, _, _, h => by simp [Ue] at h
 | .b, _, l, _, _, _, _, _, _, _, h => by simp [Ue] at h
 | .o, _, l, _, _, _, _, _, _, _, h => by simp [Ue] at h
 | .mp _ _, _, l, _, _, _, _, _, _, _, h => by simp [Ue] at h
 | .s, _, l, _, _, _, _, _, _, _, h => by simp [Ue] at h
 | .sl _, _, l, _, _, _, _, _, _, _, h => by simp [Ue] at h
section
variable {P : Program} {G : Qd} {L : List (Nat × Ua)} {I : Ei}
theorem Xad {vw cv : Bool} (hG : Ui P I G) (hfz : G.fz = false ∨ ((vw && !cv) = true ∧ Dq G.att = true)) (hm : P.follows .mixedOrders = true) {f : FuncId} {fn : Func} {c : Code} (hf : P.funcs[f]? = some fn) (hb : fn.body = some c) (hname : (fn.name == "runtime.NumGoroutine") = false)
 (hL : ∀ b, b ∈ Yd c → Bb G L b) {τ pt rt : Ty} {fr : List Bool} {F : T τ → T pt → Option (T τ × T rt)} (hn : pt.npar + 1 ≤ fn.ntmps) (hF : ∀ x0 x r, F x0 x = some r → MV G L fn vw cv τ pt rt fr x0 x = some r) :
 Qh P I f (.bx vw cv τ pt rt fr F) := by
 refine ⟨⟨fn, hf, hname, by rw [hb]; rfl⟩, ?_⟩
 intro O w x0 x r b cur et F0 F2 args hx hh hsz hcont hargs hnd hO hI hB hFB
 have he := hF x0 x r hx
 unfold MV at he
 rw [hb] at he
 simp only at he
 rcases hop : (bif vw then (D.t τ x0, [], 400000) else Od τ x0 400000) with ⟨d0, rows, m⟩
 rw [hop] at he
 simp only at he
 rcases hop2 : (bif cv then NH pt x 1 m else (Tn pt x 1, [], m)) with ⟨tm, rows2, m2⟩
 rw [hop2] at he
 simp only [Ha] at he
 obtain ⟨hm2, he⟩ := he
 have hm2 := qz hm2
 have hlt : b < w.heap.size := (Array.getElem?_eq_some_iff.1 hh).1
 have k1 : 400000 ≤ m ∧ (∀ p, p ∈ rows → 400000 ≤ p.1 ∧ p.1 < m) ∧ Ab τ d0 ∧ (∀ c, c ∈ F0 → c < w.heap.size) ∧ ∃ (ψ : Nat → List Nat) (ν : Nat → Value), Ia ψ (rows.map (·.1)) = F0 ∧ (∀ p, p ∈ rows → FB w p.2 (ν p.1) (ψ p.1)) ∧
  ∀ (hp' : Nat → Option Ja) (σ' : Nat → Value), (∀ p, p ∈ rows → σ' p.1 = ν p.1) → Wa w (fun c => O c ∨ c ∈ b :: (F0 ++ F2)) hp' σ' d0 cur.toList := by
  cases vw with
  | true =>
   simp only [y3, jh] at hop
   obtain ⟨rfl, rfl, rfl⟩ := hop
   simp only [if_true] at hcont
   obtain ⟨hv, rfl⟩ := hcont
   refine ⟨jp _, by simp, by simp [Ab], by simp, fun _ => [], fun _ => undef, by simp [Ia], by simp, fun hp' σ' _ => Ka.weaken (fun c hc => ?_) hv⟩
   rcases hc with hc | hc
   ·exact .inl hc
   ·rcases jq.1 hc with rfl | hc
    ·exact .inr (.inl rfl)
    ·exact .inr (.inr (by simpa using hc))
  | false =>
   simp only [y8] at hop
   simp only [jr, if_false] at hcont
   obtain ⟨a1, a2, a3, ψ1, ν1, a4, a5, a6⟩ := Qu hop hcont
   exact ⟨a1, a2, a3, fun c hc => hcont.lt c hc, ψ1, ν1, a4, a5, fun hp' σ' h => a6 w hp' σ' _ h⟩
 obtain ⟨hnm, hids, hsh, hF0lt, ψ1, ν1, hbl1, hrows1, hrep1⟩ := k1
 have k2 : m ≤ m2 ∧ (∀ p, p ∈ rows2 → m ≤ p.1 ∧ p.1 < m2) ∧ args.length = pt.npar ∧ (∀ c, c ∈ F2 → c < w.heap.size) ∧ ∃ (ψ : Nat → List Nat) (ν : Nat → Value), Ia ψ (rows2.map (·.1)) = F2 ∧ (∀ p, p ∈ rows2 → FB w p.2 (ν p.1) (ψ p.1)) ∧
  ∀ (hp' : Nat → Option Ja) (σ' : Nat → Value), (∀ p, p ∈ rows2 → σ' p.1 = ν p.1) → ∀ t' d, Eb tm t' = some d → ∃ j v, t' = 1 + j ∧ args[j]? = some v ∧ Nc w (fun c => O c ∨ c ∈ b :: (F0 ++ F2)) hp' σ' d v := by
  cases cv with
  | true =>
   simp only [y3] at hop2
   simp only [if_true] at hargs
   obtain ⟨a1, a2, ψ2, ν2, a4, a5, a6⟩ := PY hop2 hargs
   exact ⟨a1, a2, FT hargs, hargs.lt, ψ2, ν2, a4, a5, fun hp' σ' h => a6 hp' σ' _ h⟩
  | false =>
   simp only [y8, jh] at hop2
   obtain ⟨rfl, rfl, rfl⟩ := hop2
   simp only [jr, if_false] at hargs
   obtain ⟨hv, rfl⟩ := hargs
   refine ⟨jp _, by simp, KB hv, by simp, fun _ => [], fun _ => undef, by simp [Ia], by simp, fun hp' σ' _ t' d hd => ?_⟩
   have : (fun c => O c ∨ c ∈ b :: (F0 ++ [])) = (fun c => O c ∨ c = b ∨ c ∈ F0) := by
    funext c; simp
   rw [this]
   exact DD hv hd
 obtain ⟨hmm, hids2, hlen, hF2lt, ψ2, ν2, hbl2, hrows2, hrep2⟩ := k2
 refine calls_of_wp hf hb ?_
 let ψ : Nat → List Nat := fun id => if id = 500000 then [b] else if id < m then ψ1 id else ψ2 id
 let ν : Nat → Value := fun id => if id = 500000 then .pointer (some ⟨b, 0, none⟩) else if id < m then ν1 id else ν2 id
 have hψ0 : ψ 500000 = [b] := if_pos rfl
 have hν0 : ν 500000 = .pointer (some ⟨b, 0, none⟩) := if_pos rfl
 have hψ1 : ∀ p, p ∈ rows → ψ p.1 = ψ1 p.1 ∧ ν p.1 = ν1 p.1 := fun p hp => by
  have h1 := hids p hp
  have h2 : ¬ p.1 = 500000 := by omega
  simp only [ψ, ν, if_neg h2, if_pos h1.2, and_self]
 have hψ2 : ∀ p, p ∈ rows2 → ψ p.1 = ψ2 p.1 ∧ ν p.1 = ν2 p.1 := fun p hp => by
  have h1 := hids2 p hp
  have h2 : ¬ p.1 = 500000 := by omega
  have h3 : ¬ p.1 < m := by omega
  simp only [ψ, ν, if_neg h2, if_neg h3, and_self]
 let s0 : AS := ⟨fn.ntmps, (0, .ptr 500000 []) :: tm, (500000, some (.box τ d0)) :: (rows ++ rows2)⟩
 have hbx : s0.heap 500000 = some (.box τ d0) := by simp [s0, AS.heap, Vb]
 have hmem : ∀ id Da, s0.heap id = some Da → (id = 500000 ∧ Da = .box τ d0) ∨ (id ≠ 500000 ∧ id ∈ (rows ++ rows2).map (·.1) ∧ FB w (some Da) (ν id) (ψ id)) := by
  intro id Da hb
  by_cases hid : id = 500000
  ·subst hid
   rw [hbx] at hb
   simp only [jc] at hb
   exact .inl ⟨rfl, hb.symm⟩
  ·have hm := AS.heap_mem hb
   simp only [s0, jq, jh, hid, false_and, false_or] at hm
   refine .inr ⟨hid, yt (f := (·.1)) hm, ?_⟩
   rcases jm.1 hm with hm | hm
   ·rw [(hψ1 _ hm).1, (hψ1 _ hm).2]
    exact hrows1 _ hm
   ·rw [(hψ2 _ hm).1, (hψ2 _ hm).2]
    exact hrows2 _ hm
 have hblr : Ia ψ ((rows ++ rows2).map (·.1)) = F0 ++ F2 := by
  rw [yu, Rd, ← hbl1, ← hbl2]
  congr 1
  ·exact Kk fun id hid => by
    obtain ⟨p, hp, rfl⟩ := qk.1 hid
    exact (hψ1 p hp).1
  ·exact Kk fun id hid => by
    obtain ⟨p, hp, rfl⟩ := qk.1 hid
    exact (hψ2 p hp).1
 have hbl : Ia ψ (500000 :: (rows ++ rows2).map (·.1)) = b :: (F0 ++ F2) := by
  have : Ia ψ (500000 :: (rows ++ rows2).map (·.1)) = ψ 500000 ++ Ia ψ ((rows ++ rows2).map (·.1)) := by simp only [Ia, yh, yn]
  rw [this, hψ0, hblr]; rfl
 have hndB : (Ia ψ (500000 :: (rows ++ rows2).map (·.1))).Nodup := by rw [hbl]; exact hnd
 have hidin : ∀ id Da, s0.heap id = some Da → id ∈ 500000 :: (rows ++ rows2).map (·.1) := by
  intro id Da hb
  rcases hmem id Da hb with ⟨rfl, _⟩ | ⟨_, h, _⟩
  ·exact List.mem_cons_self
  ·exact js _ h
 let A : Fx := ⟨(· ∈ b :: (F0 ++ F2)), fun id => if id = 500000 then some (.pointer (some ⟨b, 0, none⟩)) else none, fun id v h => by
  split at h
  ·omega
  ·simp at h, I, hFB⟩
 have hOO : OO (fun c => O c ∨ c ∈ b :: (F0 ++ F2)) s0 ψ = (fun c => O c ∨ c ∈ b :: (F0 ++ F2)) := by
  funext c
  refine propext ⟨fun h => ?_, .inl⟩
  rcases h with h | ⟨id, Da, hb, hm⟩
  ·exact h
  ·refine .inr ?_
   rw [← hbl]
   exact Gb.2 ⟨id, hidin id Da hb, hm⟩
 have hc : Ra w.heap.size A (fun c => O c ∨ c ∈ b :: (F0 ++ F2)) w s0 ν ψ { tmps := (.pointer (some ⟨b, 0, none⟩) :: args).toArray ++ Array.replicate (fn.ntmps - (Value.pointer (some ⟨b, 0, none⟩) :: args).toArray.size) undef, defers := [] } w := by
  refine ⟨?_, rfl, ?_, ?_, ?_, ?_, ?_, ?_, ⟨rfl, rfl, rfl, jp _, fun _ _ _ => rfl⟩, ?_, hB, hI, fun id kk e xs hb => (hmem id _ hb).elim (fun h => by simp at h) fun h => h.2.2.nq.elim⟩
  ·simp [s0]; omega
  ·intro t d hd
   rw [hOO]
   simp only [s0] at hd
   rw [Vb] at hd
   split at hd
   ·rename_i e
    subst e
    simp only [jc] at hd
    subst hd
    refine ⟨.pointer (some ⟨b, 0, none⟩), by rw [Array.getElem?_append_left (by simp)]; simp, ?_⟩
    rw [Al]
    exact ⟨rfl, fun ρ d _ => ⟨b, hν0, by simp [Db]⟩⟩
   ·obtain ⟨j, v, h1, h2, h3⟩ := hrep2 s0.heap ν (fun p hp => (hψ2 p hp).2) t d hd
    refine ⟨v, ?_, h3⟩
    have hj : j < args.length := (q7.1 h2).1
    have : t = j + 1 := by omega
    subst this
    rw [Array.getElem?_append_left (by simpa using hj)]
    simpa using h2
  ·intro id Da hb
   rw [hOO]
   rcases hmem id Da hb with ⟨rfl, rfl⟩ | ⟨_, _, h2⟩
   ·exact ⟨hsh, b, cur, et, hν0, hh, hψ0, hrep1 _ _ fun p hp => (hψ1 p hp).2, hsz⟩
   ·exact h2.rep
  ·intro id Da hb
   have hi := hidin id Da hb
   have : (ψ id).Sublist (Ia ψ (500000 :: (rows ++ rows2).map (·.1))) := by
    unfold Ia
    exact List.sublist_flatten_of_mem (yt hi)
   exact this.nodup hndB
  ·intro id id' Da blk' hne hb hb' c hm
   exact XI hndB (hidin id Da hb) (hidin id' blk' hb') hne hm
  ·intro id Da hb c hm
   refine .inr ?_
   show c ∈ b :: (F0 ++ F2)
   rw [← hbl]
   exact Gb.2 ⟨id, hidin id Da hb, hm⟩
  ·rintro c (hc | hc)
   ·exact hO c hc
   ·rcases jq.1 hc with rfl | hc
    ·exact hlt
    ·rcases jm.1 hc with hc | hc
     ·exact hF0lt c hc
     ·exact hF2lt c hc
  ·intro id v hv
   simp only [A] at hv
   split at hv
   ·rename_i e
    subst e
    simp only [jc] at hv
    exact hν0.trans hv
   ·simp at hv
 have hFz : OC G A (fun c => O c ∨ c ∈ b :: (F0 ++ F2)) := by
  intro hz
  rcases hfz with h0 | ⟨h1, h2⟩
  ·rw [h0] at hz; simp at hz
  ·simp only [jd, yj] at h1
   obtain ⟨h1, h3⟩ := h1
   subst h1
   subst h3
   simp only [if_true] at hcont
   simp only [jr, if_false] at hargs
   obtain ⟨_, hF0⟩ := hcont
   obtain ⟨_, hF2⟩ := hargs
   refine .inr (.inr ⟨h2, fun x hx => ?_⟩)
   have hx' : x ∈ b :: (F0 ++ F2) := hx
   rw [hF0, hF2] at hx'
   simp only [List.append_nil, qd] at hx'
   rw [hx']
   show (if (500000 : Nat) = 500000 then some (Value.pointer (some ⟨b, 0, none⟩)) else none) = _
   exact if_pos rfl
 refine VO (A := A) hG hFz hm c hL he hc ?_
 intro e s σ φ a w' hk h
 have Kf : (match s.heap 500000, Ht G s fn.results.toList with
  | some (.box τ' d1), some d => match Ty.dec τ' τ, (bif vw then (match Vf d1 τ with
   | some y => some (y, [])
   | none => none) else Lb s d1 τ), Ig s rt fr d with
   | some _, some (x', l0), some (r, l) => bif Mf (500000 :: (l0 ++ l)) then some (x', r) else none
   | _, _, _ => none
  | _, _ => none) = some r → a.defers = [] ∧ ∃ v, (results fn a.tmps).run P w' = .ok v w' ∧ Gm (fun v w' => ∃ vs cur' et' F1 Fr, v = TB vs ∧ Hs w w' (· ∈ b :: (F0 ++ F2)) ∧ w'.heap[b]? = some (.cells cur' et' (0, 0)) ∧ cur'.size = τ.size ∧
  (if vw then Ka w' (fun c => O c ∨ c ∈ b :: (F0 ++ F2) ∨ c ∈ Fr) τ r.1 cur'.toList ∧ F1 = [] else Ob w' τ r.1 cur'.toList F1) ∧
  Jc w' (fun c => O c ∨ c ∈ b :: (F0 ++ F2) ∨ c ∈ F1 ∨ c ∈ Fr) rt r.2 fr vs Fr ∧ (b :: (F1 ++ Fr)).Nodup ∧ ∀ c ∈ F1 ++ Fr, w.heap.size ≤ c ∨ c ∈ F0 ++ F2) (.returned v) w' := by
  intro hk
  split at hk
  ·rename_i τ' d1 d hbx' hd
   split at hk
   ·rename_i q x' l0 r' l hq hx' hr
    obtain rfl := Pc hq
    simp only [Ha] at hk
    obtain ⟨hnd', hk⟩ := hk
    simp only [jc] at hk
    subst hk
    have hnd' := Rh hnd'
    obtain ⟨hsh', b', cur', et', hσ', hh', hF', hr0, hsz'⟩ := h.hp 500000 _ hbx'
    have hpin : σ 500000 = .pointer (some ⟨b, 0, none⟩) := h.pin 500000 _ (show (if (500000 : Nat) = 500000 then some (Value.pointer (some ⟨b, 0, none⟩)) else none) = _ from if_pos rfl)
    rw [hpin] at hσ'
    simp only [Value.pointer.injEq, jc, Addr.mk.injEq, and_true] at hσ'
    subst hσ'
    have hkl : (∀ j, j ∈ l0 → ∃ Da, s.heap j = some Da) ∧ (if vw then Ka w' (OO (fun c => O c ∨ c ∈ b :: (F0 ++ F2)) s φ) τ' x' cur'.toList ∧ l0 = [] else Ob w' τ' x' cur'.toList (Ia φ l0)) := by
     cases vw with
     | true =>
      simp only [y3] at hx'
      split at hx'
      ·rename_i y hy
       simp only [jc, jh] at hx'
       obtain ⟨rfl, rfl⟩ := hx'
       exact ⟨by simp, by simp only [if_true]; exact ⟨(Xe hy).2 _ hr0, trivial⟩⟩
      ·simp at hx'
     | false =>
      simp only [y8] at hx'
      obtain ⟨g1, g2⟩ := Jm h hx' hr0
      exact ⟨g2, by simpa using g1⟩
    obtain ⟨hlive0, hx1⟩ := hkl
    obtain ⟨vs, hvs, hru⟩ := Lx hG.toEnvTy h hd
    obtain ⟨hR, hlive⟩ := MR h hr hru
    have hall : ∀ j, j ∈ 500000 :: (l0 ++ l) → ∃ Da, s.heap j = some Da := by
     intro j hj
     rcases jq.1 hj with rfl | hj
     ·exact ⟨_, hbx'⟩
     ·rcases jm.1 hj with hj | hj
      ·exact hlive0 j hj
      ·exact hlive j hj
    have hbk : Ia φ (500000 :: (l0 ++ l)) = b :: (Ia φ l0 ++ Ia φ l) := by
     have : Ia φ (500000 :: (l0 ++ l)) = φ 500000 ++ Ia φ (l0 ++ l) := by simp only [Ia, yh, yn]
     rw [this, hF', Rd]; rfl
    have hbn := Qf h hnd' hall
    rw [hbk] at hbn
    have hinOO : ∀ c, c ∈ Ia φ l0 ++ Ia φ l → OO (fun c => O c ∨ c ∈ b :: (F0 ++ F2)) s φ c := by
     intro c hc
     rw [← Rd] at hc
     obtain ⟨j, hj, hm'⟩ := Gb.1 hc
     obtain ⟨Da, hbj⟩ := hall j (js _ hj)
     exact .inr ⟨j, Da, hbj, hm'⟩
    refine ⟨h.df, _, Mw hvs, vs, cur', et', Ia φ l0, Ia φ l, rfl, ⟨h.fr.size, fun c hc hno => h.fr.block c hc hno, h.fr.os, h.fr.tape, h.fr.output⟩, hh', hsz', ?_, hR.mono ?_, hbn, ?_⟩
    ·cases vw with
     | true =>
      simp only [if_true] at hx1 ⊢
      refine ⟨hx1.1.weaken ?_, by rw [hx1.2]; simp [Ia]⟩
      rintro c (hc | hc | hc)
      ·exact .inl (.inl hc)
      ·exact .inl (.inr hc)
      ·exact hinOO c (qu _ hc)
     | false => simpa using hx1
    ·rintro c (hc | hc | hc | hc)
     ·exact .inl (.inl hc)
     ·exact .inl (.inr hc)
     ·exact hinOO c (qt _ hc)
     ·exact hinOO c (qu _ hc)
    ·intro c hcm
     have hcb : c ≠ b := by
      rintro rfl
      exact (yk.1 hbn).1 hcm
     rw [← Rd] at hcm
     obtain ⟨j, hj, hm'⟩ := Gb.1 hcm
     obtain ⟨Da, hbj⟩ := hall j (js _ hj)
     rcases h.fresh j Da hbj c hm' with h1 | h1
     ·exact .inl h1
     ·have h1 : c ∈ b :: (F0 ++ F2) := h1
      rcases jq.1 h1 with h1 | h1
      ·exact absurd h1 hcb
      ·exact .inr h1
   ·simp at hk
  ·simp at hk
 cases e with
 | normal => exact Kf hk
 | ret => exact Kf hk
 | exit j => simp at hk
def NV (G : Qd) (L : List (Nat × Ua)) (fn : Func) (pt τ : Ty) (x : T pt) : Option (T τ) :=
 match fn.body with
 | some c => Nr G L c ⟨fn.ntmps, Tn pt x 0, []⟩ fun e s => match e with
  | .exit _ => none
  | _ => match Ht G s fn.results.toList with
   | some (.pr (.ptr id []) .un) => match s.heap id with
    | some (.box τ' d) => match Ty.dec τ' τ, Vf d τ with
     | some _, some y => some y
     | _, _ => none
    | _ => none
   | _ => none
 | none => none
theorem Yad (hG : Ui P I G) (hm : P.follows .mixedOrders = true) {f : FuncId} {fn : Func} {c : Code} (hf : P.funcs[f]? = some fn) (hb : fn.body = some c) (hname : (fn.name == "runtime.NumGoroutine") = false)
 (hL : ∀ b, b ∈ Yd c → Bb G L b) {pt τ : Ty} {F : T pt → Option (T τ)} (hn : pt.npar ≤ fn.ntmps) (hF : ∀ x r, F x = some r → NV G L fn pt τ x = some r) : Qh P I f (.nw pt τ F) := by
 refine ⟨⟨fn, hf, hname, by rw [hb]; rfl⟩, ?_⟩
 intro O w x r args hx hargs hO hI hB
 have he := hF x r hx
 unfold NV at he
 rw [hb] at he
 simp only at he
 refine calls_of_wp hf hb ?_
 have hlen := KB hargs
 have hc : Ra w.heap.size (GR I) O w ⟨fn.ntmps, Tn pt x 0, []⟩ (fun _ => undef) (fun _ => []) { tmps := args.toArray ++ Array.replicate (fn.ntmps - args.toArray.size) undef, defers := [] } w := by
  have hh : ∀ id, AS.heap ⟨fn.ntmps, Tn pt x 0, []⟩ id = none := fun id => rfl
  refine ⟨?_, rfl, ?_, ?_, ?_, ?_, ?_, hO, ⟨rfl, rfl, rfl, jp _, fun _ _ _ => rfl⟩, ?_, hB, hI, fun id kk e xs hb => by rw [hh] at hb; simp at hb⟩
  ·simp; omega
  ·intro t d hd
   have hOO : OO O ⟨fn.ntmps, Tn pt x 0, []⟩ (fun _ => []) = O := by
    funext b
    simp [OO, hh]
   rw [hOO]
   obtain ⟨j, v, h1, h2, h3⟩ := DD hargs hd
   refine ⟨v, ?_, h3⟩
   have hj : j < args.length := (q7.1 h2).1
   have : t = j := by omega
   subst this
   rw [Array.getElem?_append_left (by simpa using hj)]
   simpa using h2
  ·intro id Da hb; rw [hh] at hb; simp at hb
  ·intro id Da hb; rw [hh] at hb; simp at hb
  ·intro id id' Da blk' _ hb; rw [hh] at hb; simp at hb
  ·intro id Da hb; rw [hh] at hb; simp at hb
  ·intro id v hv; simp [GR] at hv
 refine VO (A := GR I) hG (fun _ => .inl fun _ h => h) hm c hL he hc ?_
 intro e s σ φ a w' hk h
 have Kf : (match Ht G s fn.results.toList with
  | some (.pr (.ptr id []) .un) => match s.heap id with
   | some (.box τ' d) => match Ty.dec τ' τ, Vf d τ with
    | some _, some y => some y
    | _, _ => none
   | _ => none
  | _ => none) = some r → a.defers = [] ∧ ∃ v, (results fn a.tmps).run P w' = .ok v w' ∧ Gm (fun v w' => ∃ b cur et, v = .pointer (some ⟨b, 0, none⟩) ∧ Hs w w' (fun _ => False) ∧ w.heap.size ≤ b ∧ w'.heap[b]? = some (.cells cur et (0, 0)) ∧ cur.size = τ.size ∧ Ka w' (fun c => O c ∨ c = b) τ r cur.toList) (.returned v) w' := by
  intro hk
  split at hk
  ·rename_i id hd
   split at hk
   ·rename_i τ' d hbx
    split at hk
    ·rename_i q y hq hy
     obtain rfl := Pc hq
     simp only [jc] at hk
     subst hk
     obtain ⟨vs, hvs, hru⟩ := Lx hG.toEnvTy h hd
     cases vs with
     | nil => simp [RU] at hru
     | cons v vs =>
      obtain ⟨h1, h2⟩ := hru
      cases vs with
      | cons _ _ => simp [RU] at h2
      | nil =>
       obtain ⟨_, b, cur, et, hσ, hh, hφ, hr0, hsz⟩ := h.hp id _ hbx
       rw [Al] at h1
       obtain ⟨b', hσ', hv⟩ := h1.2 _ _ hbx
       rw [hσ] at hσ'
       simp only [Value.pointer.injEq, jc, Addr.mk.injEq, and_true] at hσ'
       subst hσ'
       have hmem : b ∈ φ id := by rw [hφ]; simp
       refine ⟨h.df, _, Mw hvs, b, cur, et, by simp only [TB, hv, Db], ⟨h.fr.size, fun b hb _ => h.fr.block b hb (fun h => h), h.fr.os, h.fr.tape, h.fr.output⟩, (h.fresh id _ hbx b hmem).resolve_right (fun h => h), hh, hsz, ?_⟩
       refine Ka.weaken ?_ ((Xe hy).2 _ hr0)
       rintro c (hc | rfl)
       ·exact .inl hc
       ·exact .inr ⟨id, _, hbx, hmem⟩
    ·simp at hk
   ·simp at hk
  ·simp at hk
 cases e with
 | normal => exact Kf hk
 | ret => exact Kf hk
 | exit j => simp at hk
end
def OV (G : Qd) (L : List (Nat × Ua)) (fn : Func) (τ κ ε pt rt : Ty) (x0 : T τ) (xs : List (T κ × T ε)) (x : T pt) : Option (T τ × (List (T κ × T ε) × T rt)) :=
 match fn.body with
 | some c => Nr G L c ⟨fn.ntmps, (0, .ptr 500000 []) :: Tn pt x 1, [(500000, some (.box (.p τ (.p (.mp κ ε) .u)) (.pr (.t τ x0) (.pr (.mpo 500001) .un)))), (500001, some (.mp κ ε xs))]⟩ fun e s => match e with
  | .exit _ => none
  | _ => match s.heap 500000, s.heap 500001, Ht G s fn.results.toList with
   | some (.box ρ d), some (.mp κ' ε' ys), some (.pr dr .un) => match Ty.dec ρ (.p τ (.p (.mp κ ε) .u)), d.field 0, d.field 1, Vf dr rt with
    | some _, some d0, some (.mpo j), some y => match Vf d0 τ, Ty.dec κ' κ, Ty.dec ε' ε with
     | some y0, some ⟨h⟩, some ⟨g⟩ => bif qv j 500001 then some (y0, ((h ▸ g ▸ ys : List (T κ × T ε)), y)) else none
     | _, _, _ => none
    | _, _, _, _ => none
   | _, _, _ => none
 | none => none
section
variable {P : Program} {G : Qd} {L : List (Nat × Ua)} {I : Ei}
theorem Aae (hG : Ui P I G) (hfz : G.fz = false ∨ UW G.att = true) (hm : P.follows .mixedOrders = true) {f : FuncId} {fn : Func} {c : Code} (hf : P.funcs[f]? = some fn) (hb : fn.body = some c) (hname : (fn.name == "runtime.NumGoroutine") = false)
 (hL : ∀ b, b ∈ Yd c → Bb G L b) {τ κ ε pt rt : Ty} {F : T τ → List (T κ × T ε) → T pt → Option (T τ × (List (T κ × T ε) × T rt))} (hn : pt.npar + 1 ≤ fn.ntmps) (hF : ∀ x0 xs x r, F x0 xs x = some r → OV G L fn τ κ ε pt rt x0 xs x = some r) :
 Qh P I f (.tp τ κ ε pt rt F) := by
 refine ⟨⟨fn, hf, hname, by rw [hb]; rfl⟩, ?_⟩
 intro O w x0 xs x r b m clk cur et es args hx hh hsz hdrop hhm hv0 hes hargs hOb hOm hO hI hB hBb hBm
 have he := hF x0 xs x r hx
 unfold OV at he
 rw [hb] at he
 simp only at he
 have hlen := KB hargs
 have hltb : b < w.heap.size := (Array.getElem?_eq_some_iff.1 hh).1
 have hltm : m < w.heap.size := (Array.getElem?_eq_some_iff.1 hhm).1
 have hbm : b ≠ m := by
  rintro rfl
  rw [hh] at hhm
  simp at hhm
 refine calls_of_wp hf hb ?_
 let ψ : Nat → List Nat := fun id => if id = 500000 then [b] else [m]
 let ν : Nat → Value := fun id => if id = 500000 then .pointer (some ⟨b, 0, none⟩) else .map (some m)
 have hψ0 : ψ 500000 = [b] := if_pos rfl
 have hψ1 : ψ 500001 = [m] := if_neg (by omega)
 have hν0 : ν 500000 = .pointer (some ⟨b, 0, none⟩) := if_pos rfl
 have hν1 : ν 500001 = .map (some m) := if_neg (by omega)
 obtain ⟨s0, hs0⟩ : ∃ s0 : AS, s0 = ⟨fn.ntmps, (0, .ptr 500000 []) :: Tn pt x 1, [(500000, some (.box (.p τ (.p (.mp κ ε) .u)) (.pr (.t τ x0) (.pr (.mpo 500001) .un)))), (500001, some (.mp κ ε xs))]⟩ := ⟨_, rfl⟩
 rw [← hs0] at he
 have hbx : s0.heap 500000 = some (.box (.p τ (.p (.mp κ ε) .u)) (.pr (.t τ x0) (.pr (.mpo 500001) .un))) := by rw [hs0]; simp [AS.heap, Vb]
 have hmp : s0.heap 500001 = some (.mp κ ε xs) := by rw [hs0]; simp [AS.heap, Vb]
 have hmem : ∀ id Da, s0.heap id = some Da → id = 500000 ∨ id = 500001 := by
  intro id Da hb
  rw [hs0] at hb
  simp only [AS.heap, Vb] at hb
  split at hb
  ·exact .inl (by omega)
  ·split at hb
   ·exact .inr (by omega)
   ·simp [Eb] at hb
 let A : Fx := ⟨fun c => c = b ∨ c = m, fun id => if id = 500000 then some (.pointer (some ⟨b, 0, none⟩)) else if id = 500001 then some (.map (some m)) else none, fun id v h => by
  split at h
  ·omega
  ·split at h
   ·omega
   ·simp at h, I, fun c hc => by rcases hc with rfl | rfl <;> assumption⟩
 have hOO : OO O s0 ψ = (fun c => O c ∨ c = b ∨ c = m) := by
  funext c
  refine propext ⟨fun h => ?_, fun h => ?_⟩
  ·rcases h with h | ⟨id, Da, hb, hm⟩
   ·exact .inl h
   ·rcases hmem id Da hb with rfl | rfl
    ·rw [hψ0] at hm; exact .inr (.inl (by simpa using hm))
    ·rw [hψ1] at hm; exact .inr (.inr (by simpa using hm))
  ·rcases h with h | rfl | rfl
   ·exact .inl h
   ·exact .inr ⟨500000, _, hbx, by rw [hψ0]; simp⟩
   ·exact .inr ⟨500001, _, hmp, by rw [hψ1]; simp⟩
 have hc : Ra w.heap.size A O w s0 ν ψ { tmps := (.pointer (some ⟨b, 0, none⟩) :: args).toArray ++ Array.replicate (fn.ntmps - (Value.pointer (some ⟨b, 0, none⟩) :: args).toArray.size) undef, defers := [] } w := by
  refine ⟨?_, rfl, ?_, ?_, ?_, ?_, ?_, hO, ⟨rfl, rfl, rfl, jp _, fun _ _ _ => rfl⟩, ?_, hB, hI, fun id kk e xs hb => ?_⟩
  ·rw [hs0]; simp; omega
  ·intro t d hd
   rw [hOO]
   have hd' : Eb ((0, D.ptr 500000 []) :: Tn pt x 1) t = some d := by rw [hs0] at hd; exact hd
   rw [Vb] at hd'
   split at hd'
   ·rename_i e
    subst e
    simp only [jc] at hd'
    subst hd'
    refine ⟨.pointer (some ⟨b, 0, none⟩), by rw [Array.getElem?_append_left (by simp)]; simp, ?_⟩
    rw [Al]
    exact ⟨rfl, fun ρ d _ => ⟨b, hν0, by simp [Db]⟩⟩
   ·obtain ⟨j, v, h1, h2, h3⟩ := DD hargs hd'
    refine ⟨v, ?_, h3⟩
    have hj : j < args.length := (q7.1 h2).1
    have : t = j + 1 := by omega
    subst this
    rw [Array.getElem?_append_left (by simpa using hj)]
    simpa using h2
  ·intro id Da hb
   rw [hOO]
   rcases hmem id Da hb with rfl | rfl
   ·rw [hbx] at hb
    simp only [jc] at hb
    subst hb
    exact ⟨⟨by simp [Ab], trivial, trivial⟩, b, cur, et, hν0, hh, hψ0, ⟨cur.toList.take τ.size, cur.toList.drop τ.size, (List.take_append_drop _ _).symm, hv0, [.map (some m)], [], by rw [hdrop]; rfl, ⟨_, rfl, rfl, fun _ _ _ => hν1.symm⟩, rfl⟩, hsz⟩
   ·rw [hmp] at hb
    simp only [jc] at hb
    subst hb
    exact ⟨m, es, clk, hν1, hhm, hψ1, hes.1, hes.2⟩
  ·intro id Da hb
   rcases hmem id Da hb with rfl | rfl
   ·rw [hψ0]; simp
   ·rw [hψ1]; simp
  ·intro id id' Da blk' hne hb hb' c hm hm'
   rcases hmem id Da hb with rfl | rfl <;> rcases hmem id' blk' hb' with rfl | rfl
   ·exact hne rfl
   ·rw [hψ0] at hm; rw [hψ1] at hm'
    simp only [qd] at hm hm'
    exact hbm (hm ▸ hm')
   ·rw [hψ1] at hm; rw [hψ0] at hm'
    simp only [qd] at hm hm'
    exact hbm (hm' ▸ hm)
   ·exact hne rfl
  ·intro id Da hb c hm
   refine .inr ?_
   show c = b ∨ c = m
   rcases hmem id Da hb with rfl | rfl
   ·rw [hψ0] at hm; exact .inl (by simpa using hm)
   ·rw [hψ1] at hm; exact .inr (by simpa using hm)
  ·intro id v hv
   simp only [A] at hv
   split at hv
   ·rename_i e
    subst e
    simp only [jc] at hv
    exact hν0.trans hv
   ·split at hv
    ·rename_i e
     subst e
     simp only [jc] at hv
     exact hν1.trans hv
    ·simp at hv
  ·rcases hmem id _ hb with rfl | rfl
   ·rw [hbx] at hb; simp at hb
   ·rw [hmp] at hb; simp at hb
 refine VO (A := A) hG (fun h => .inr (.inl ⟨hfz.resolve_left (by rw [h]; simp), fun c hc => by rcases hc with rfl | rfl <;> assumption⟩)) hm c hL he hc ?_
 intro e s σ φ a w' hk h
 have Kf : (match s.heap 500000, s.heap 500001, Ht G s fn.results.toList with
  | some (.box ρ d), some (.mp κ' ε' ys), some (.pr dr .un) => match Ty.dec ρ (.p τ (.p (.mp κ ε) .u)), d.field 0, d.field 1, Vf dr rt with
   | some _, some d0, some (.mpo j), some y => match Vf d0 τ, Ty.dec κ' κ, Ty.dec ε' ε with
    | some y0, some ⟨h⟩, some ⟨g⟩ => bif qv j 500001 then some (y0, ((h ▸ g ▸ ys : List (T κ × T ε)), y)) else none
    | _, _, _ => none
   | _, _, _, _ => none
  | _, _, _ => none) = some r → a.defers = [] ∧ ∃ v, (results fn a.tmps).run P w' = .ok v w' ∧ Gm (fun u w' => ∃ cs cur' et' es' clk', u = Sc rt cs ∧ Hs w w' (fun c => c = b ∨ c = m) ∧ w'.heap[b]? = some (.cells cur' et' (0, 0)) ∧ cur'.size = τ.size + 1 ∧ cur'.toList.drop τ.size = [.map (some m)] ∧
   w'.heap[m]? = some (.map es' clk') ∧ Ka w' (fun c => O c ∨ c = b ∨ c = m) τ r.1 (cur'.toList.take τ.size) ∧ Il w' (fun c => O c ∨ c = b ∨ c = m) κ ε r.2.1 es' ∧ Ka w' (fun c => O c ∨ c = b ∨ c = m) rt r.2.2 cs) (.returned v) w' := by
  intro hk
  split at hk
  ·rename_i ρ d κ' ε' ys dr hbx' hmp' hd
   split at hk
   ·rename_i q d0 j y hq hf0 hf1 hy
    obtain rfl := Pc hq
    split at hk
    ·rename_i y0 g1 g2 hy0 _ _
     obtain rfl := g1
     obtain rfl := g2
     simp only [Ha, jc] at hk
     obtain ⟨hj, rfl⟩ := hk
     have hj := jv hj
     subst hj
     obtain ⟨hsh', b', cur', et', hσ', hh', hF', hr0, hsz'⟩ := h.hp 500000 _ hbx'
     obtain ⟨m', es', clk', hσm', hhm', hFm', hz', hen'⟩ := h.hp 500001 _ hmp'
     have hp0 : σ 500000 = .pointer (some ⟨b, 0, none⟩) := h.pin 500000 _ (show (if (500000 : Nat) = 500000 then some (Value.pointer (some ⟨b, 0, none⟩)) else if (500000 : Nat) = 500001 then some (Value.map (some m)) else none) = _ from if_pos rfl)
     have hp1 : σ 500001 = .map (some m) := h.pin 500001 _ (show (if (500001 : Nat) = 500000 then some (Value.pointer (some ⟨b, 0, none⟩)) else if (500001 : Nat) = 500001 then some (Value.map (some m)) else none) = _ by rw [if_neg (by omega), if_pos rfl])
     rw [hp0] at hσ'
     simp only [Value.pointer.injEq, jc, Addr.mk.injEq, and_true] at hσ'
     subst hσ'
     rw [hp1] at hσm'
     simp only [Value.map.injEq, jc] at hσm'
     subst hσm'
     obtain ⟨vs, hvs, hru⟩ := Lx hG.toEnvTy h hd
     cases vs with
     | nil => simp [RU] at hru
     | cons v vs =>
      obtain ⟨h1, h2⟩ := hru
      cases vs with
      | cons _ _ => simp [RU] at h2
      | nil =>
       obtain ⟨hsr, hvr⟩ := Xe (w := w') (O := OO O s φ) (hp := s.heap) (σ := σ) hy
       obtain ⟨hrr, hvv⟩ := Kd hsr h1
       obtain ⟨_, r1⟩ := Wa.field (n := 0) (τ := τ) hsh' rfl hf0 hr0
       obtain ⟨_, r2⟩ := Wa.field (n := 1) (τ := .mp κ' ε') hsh' rfl hf1 hr0
       have hsz1 : cur'.size = τ.size + 1 := hsz'
       have hdrop' : cur'.toList.drop τ.size = [.map (some m)] := by
        obtain ⟨v, g1, _, g2⟩ := r2
        rw [g2 _ hmp' rfl, hp1] at g1
        have hl : (cur'.toList.drop τ.size).length = 1 := by simp; omega
        simpa [Bc, Ty.size, List.take_of_length_le (Nat.le_of_eq hl)] using g1
       have hmO : ∀ c, (O c ∨ c = b ∨ c = m) → OO O s φ c := by
        rintro c (hc | rfl | rfl)
        ·exact .inl hc
        ·exact .inr ⟨500000, _, hbx', by rw [hF']; simp⟩
        ·exact .inr ⟨500001, _, hmp', by rw [hFm']; simp⟩
       refine ⟨h.df, _, Mw hvs, v.cells.toList, cur', et', es', clk', hvv, ⟨h.fr.size, fun c hc hno => h.fr.block c hc hno, h.fr.os, h.fr.tape, h.fr.output⟩, hh', hsz1, hdrop', hhm', ?_, ⟨hz', fun i hi => ?_⟩, (hvr _ hrr).weaken hmO⟩
       ·have := (Xe hy0).2 _ r1
        refine Ka.weaken hmO ?_
        simpa [Bc] using this
       ·obtain ⟨en, ck, cv, e1, e2, e3, e4, e5⟩ := hen' i hi
        exact ⟨en, ck, cv, e1, e2, e3, e4.weaken hmO, e5.weaken hmO⟩
    ·simp at hk
   ·simp at hk
  ·simp at hk
 cases e with
 | normal => exact Kf hk
 | ret => exact Kf hk
 | exit j => simp at hk
end
open Go Go.WideShapes
def DI : (τ : Ty) → T τ → Prop
 | .i k, n => k.has n
 | .b, _ => True
 | .o, _ => True
 | .mp _ _, _ => True
 | .s, x => ja x ≤ Ph
 | .sl e, xs => ja xs ≤ Ph ∧ ∀ i (h : i < ja xs), DI e (List.get xs ⟨i, h⟩)
 | .u, _ => True
 | .p x y, v => DI x v.1 ∧ DI y v.2
def Ty.pos : Ty → Bool
 | .sl e => e.pos && ya 0 e.size
 | .p x y => x.pos && y.pos
 | .o => false
 | .mp _ _ => false
 | _ => true
section
variable {H : Type} {enc : TypeId × Value → H} {P : Program} {w : World} {base : Nat} {spare : Nat → Bool} {held : Bool}
theorem Co {τ : Ty} {t : TypeId} (h : Kc P τ t = true) : P.cellsOf t = τ.size := by
 obtain ⟨i, h1, h2, _⟩ := Tok.size h
 simp [Program.cellsOf, h1, h2]
theorem Wai {k : IntKind} {n : Int} (h : (Lit.int k n).wf = true) : k.has n := by
 simpa [Lit.wf, IntKind.has] using h
theorem Dal {a : Addr} {n : Nat} (h : n ≠ 0) : a.add n = ⟨a.block, a.off + n, none⟩ := by
 simp [Addr.add, h]
theorem AJ {a : Addr} {n : Nat} {cs : List Value} (h : w.cells? base a n = some cs) (hn : 0 < n) :
 ∃ cur et fr, a = ⟨a.block, a.off, none⟩ ∧ w.heap[a.block]? = some (.cells cur et fr) ∧ a.off + n ≤ cur.size ∧ cs = Rc cur a.off n := by
 unfold World.cells? at h
 split at h
 ·have hlen : cs.length = n := by simpa using mapM_some_length h
  have hget : ∀ i, i < n → w.cell? (a.add i) = cs[i]? := fun i hi => mapM_some_get h i i (by simp [hi])
  have h0 := hget 0 hn
  have ha : a.add 0 = a := by simp [Addr.add]
  rw [ha] at h0
  have hc0 : cs[0]? = some (cs[0]'(by omega)) := je (by omega)
  rw [hc0] at h0
  unfold World.cell? at h0
  split at h0
  ·rename_i cur et fr hb
   have hsp : a.spot = none := by
    cases hs : a.spot with
    | none => rfl
    | some x => simp [hs] at h0
   have hcell : ∀ i, i < n → cur[a.off + i]? = cs[i]? := by
    intro i hi
    have := hget i hi
    by_cases hi0 : i = 0
    ·subst hi0
     rw [ha] at this
     unfold World.cell? at this
     rw [hb] at this
     simpa [hsp] using this
    ·rw [Dal hi0] at this
     unfold World.cell? at this
     simp only at this
     rw [hb] at this
     simpa using this
   refine ⟨cur, et, fr, by cases a; simp_all, hb, ?_, ?_⟩
   ·have h1 := hcell (n - 1) (by omega)
    rw [je (by omega)] at h1
    have := (Array.getElem?_eq_some_iff.1 h1).1
    omega
   ·apply qn
    intro i
    by_cases hi : i < n
    ·rw [Me _ _ _ _ hi, hcell i hi]
    ·rw [qr (by omega), qr]
     simp [Rc]; omega
  ·simp at h0
 ·simp at h
theorem Xag {fs : List Field} {o : Nat} (h : Qe P .u fs o = true) : fs = [] := by
 cases fs <;> simp_all [Qe]
theorem EX {x y : Ty} {fs : List Field} {o : Nat} (h : Qe P (.p x y) fs o = true) : ∃ f r, fs = f :: r ∧ f.offset = o ∧ Kc P x f.type = true ∧ Qe P y r (o + x.size) = true := by
 cases fs with
 | nil => simp [Qe] at h
 | cons f r =>
  simp only [Qe, jd] at h
  exact ⟨f, r, rfl, jv h.1.1.1, h.1.2, h.2⟩
theorem TV {x y : Ty} {t : TypeId} (h : Kc P (.p x y) t = true) : ∃ fs, P.underlying t = some (.struct fs) ∧ Qe P (.p x y) fs.toList 0 = true := by
 simp only [Kc, jd] at h
 obtain ⟨_, h⟩ := h
 split at h
 ·rename_i fs hfs
  refine ⟨fs, hfs, ?_⟩
  split at h
  ·rename_i f r hr
   rw [hr]
   simpa [Qe] using h
  ·simp at h
 ·simp at h
theorem UV {t : TypeId} (h : Kc P .u t = true) : ∃ fs, P.underlying t = some (.struct fs) ∧ fs.size = 0 := by
 simp only [Kc, jd] at h
 obtain ⟨_, h⟩ := h
 split at h
 ·rename_i fs hfs
  exact ⟨fs, hfs, jv h⟩
 ·simp at h
mutual
theorem TK (hO : ∀ b, ¬ (fun _ : Nat => False) b) : ∀ (τ : Ty) (t : TypeId) (n : Nat) (cs : List Value) (x : DataW H × List MemPlace), Kc P τ t = true → τ.pos = true →
 DataW.trod enc P w base spare held n t cs = some x → ∃ y : T τ, Ka w (fun _ => False) τ y cs ∧ DI τ y
 | .i k, t, n, cs, x, ht, _, h => by
  obtain ⟨m, h1, _, h2⟩ := DataW.trod_int (Tok.i ht) h
  exact ⟨m, h1, Wai h2⟩
 | .b, t, n, cs, x, ht, _, h => by
  obtain ⟨m, h1, _⟩ := DataW.trod_bool (Tok.b ht) h
  exact ⟨m, h1, trivial⟩
 | .o, t, n, cs, x, ht, hp, h => by simp [Ty.pos] at hp
 | .mp _ _, t, n, cs, x, ht, hp, h => by simp [Ty.pos] at hp
 | .s, t, n, cs, x, ht, _, h => by
  obtain ⟨m, h1, _, h2⟩ := DataW.trod_string (Tok.s ht) h
  refine ⟨m.data.toList, ?_, ?_⟩
  ·show cs = [.string ⟨qp m.data.toList⟩]
   rw [h1]
  ·show m.data.toList.length ≤ Ph
   have : m.size = m.data.toList.length := Array.length_toList.symm
   unfold maxLen at h2
   unfold Ph
   omega
 | .sl e, t, n, cs, x, ht, hp, h => by
  obtain ⟨et, hu, he⟩ := Tok.sl ht
  simp only [Ty.pos, jd] at hp
  have hpos : 0 < e.size := by simpa using hp.2
  rcases DataW.trod_slice hu h with ⟨h1, _⟩ | ⟨a, len, cap, elems, rest, m, _, h1, _, _, h2, h3, h4, h5, _, _⟩
  ·exact ⟨([] : List (T e)), ⟨none, 0, h1, jp _, Nat.zero_le _, .inl rfl⟩, ⟨Nat.zero_le _, fun i hi => absurd hi (Nat.not_lt_zero i)⟩⟩
  ·rw [Co he] at h5
   have hone : ∀ i, i < len → ∃ y : T e, ∃ cs', w.cells? base (a.add (i * e.size)) e.size = some cs' ∧ Ka w (fun _ => False) e y cs' ∧ DI e y := by
    intro i hi
    have := h5 i hi
    rw [je (by omega), qf] at this
    obtain ⟨cs', hc, hy⟩ := this
    obtain ⟨y, hv, hr⟩ := TK hO e et m cs' _ he hp.1 hy
    exact ⟨y, cs', hc, hv, hr⟩
   let ys : List (T e) := List.ofFn fun i : Fin len => Classical.choose (hone i.1 i.2)
   have hlen : ys.length = len := by simp [ys]
   have hy : ∀ i (h : i < ys.length), ∃ cs', w.cells? base (a.add (i * e.size)) e.size = some cs' ∧ Ka w (fun _ => False) e (ys.get ⟨i, h⟩) cs' ∧ DI e (ys.get ⟨i, h⟩) := by
    intro i hi
    have := Classical.choose_spec (hone i (by omega))
    simpa [ys] using this
   have hmax : len ≤ Ph := by unfold maxLen at h3; unfold Ph; omega
   refine ⟨ys, ⟨some a, cap, by rw [h1, hlen], by rw [hlen]; exact h2, by rw [hlen]; exact hmax, ?_⟩, by rw [hlen]; exact hmax, fun i hi => (hy i hi).choose_spec.2.2⟩
   by_cases hl0 : len = 0
   ·left
    exact q6 (by omega)
   ·right
    obtain ⟨cs0, hc0, _⟩ := hy 0 (by omega)
    have ha0 : a.add (0 * e.size) = a := by simp [Addr.add]
    rw [ha0] at hc0
    obtain ⟨cur, et', fr, ha, hb, _, _⟩ := AJ hc0 hpos
    have hadd : ∀ i, (a.add (i * e.size)).block = a.block ∧ (a.add (i * e.size)).off = a.off + i * e.size := by
     intro i
     unfold Addr.add
     split
     ·rename_i hz; simp [hz]
     ·exact ⟨rfl, rfl⟩
    refine ⟨a.block, a.off, cur, et', fr, by rw [← ha], fun h => h, hb, ?_, ?_⟩
    ·obtain ⟨cs1, hc1, _⟩ := hy (len - 1) (by omega)
     obtain ⟨cur1, et1, fr1, _, hb1, hs1, _⟩ := AJ hc1 hpos
     rw [(hadd _).1, hb] at hb1
     simp only [jc, Obj.cells.injEq] at hb1
     rw [(hadd _).2, ← hb1.1] at hs1
     have : len * e.size = (len - 1) * e.size + e.size := by
      rw [← yo]; congr 1; omega
     show a.off + ys.length * e.size ≤ cur.size
     rw [hlen]
     omega
    ·intro i hi
     obtain ⟨cs1, hc1, hv, _⟩ := hy i hi
     obtain ⟨cur1, et1, fr1, _, hb1, _, hs1⟩ := AJ hc1 hpos
     rw [(hadd _).1, hb] at hb1
     simp only [jc, Obj.cells.injEq] at hb1
     rw [(hadd _).2, ← hb1.1] at hs1
     rw [← hs1]
     exact hv
 | .u, t, n, cs, x, ht, _, h => by
  obtain ⟨fs, hu, hz⟩ := UV ht
  obtain ⟨xs, m, _, _, hl, _⟩ := DataW.trod_struct hu h
  rw [Co ht] at hl
  exact ⟨(), q6 hl, trivial⟩
 | .p a c2, t, n, cs, x, ht, hp, h => by
  obtain ⟨fs, hu, hf⟩ := TV ht
  obtain ⟨xs, m, _, _, hl, _, hget⟩ := DataW.trod_struct hu h
  rw [Co ht] at hl
  have := DM hO (.p a c2) fs.toList 0 m cs hf hp (by simpa using hl) (by
   intro i f hi
   have := hget i f (by simpa using hi)
   have hlt : i < xs.length := by
    have : i < fs.toList.length := (q7.1 hi).1
    simp at this; omega
   exact ⟨_, this.trans (je hlt)⟩)
  simpa using this
termination_by τ => (sizeOf τ, 1)
theorem DM (hO : ∀ b, ¬ (fun _ : Nat => False) b) : ∀ (τ : Ty) (fs : List Field) (o m : Nat) (cs : List Value), Qe P τ fs o = true → τ.pos = true → cs.length = o + τ.size →
 (∀ (i : Nat) (f : Field), fs[i]? = some f → ∃ x, DataW.trod enc P w base spare held m f.type ((cs.drop f.offset).take (P.cellsOf f.type)) = some x) →
 ∃ y : T τ, Ka w (fun _ => False) τ y (cs.drop o) ∧ DI τ y
 | .p a c2, fs, o, m, cs, hf, hp, hl, hx => by
  obtain ⟨f, r, rfl, ho, ht, hr⟩ := EX hf
  simp only [Ty.pos, jd] at hp
  simp only [Ty.size] at hl
  obtain ⟨z, hz⟩ := hx 0 f rfl
  rw [Co ht, ho] at hz
  obtain ⟨y1, hv1, hr1⟩ := TK hO a f.type m _ z ht hp.1 hz
  obtain ⟨y2, hv2, hr2⟩ := DM hO c2 r (o + a.size) m cs hr hp.2 (by omega) (fun i f' hi => hx (i + 1) f' (by simpa using hi))
  refine ⟨(y1, y2), ⟨(cs.drop o).take a.size, cs.drop (o + a.size), ?_, hv1, hv2⟩, hr1, hr2⟩
  rw [← qo, List.take_append_drop]
 | .u, fs, o, m, cs, _, _, hl, _ => ⟨(), by simp only [Ka, Ty.size] at hl ⊢; exact List.drop_of_length_le (by omega), trivial⟩
 | .i _, fs, o, m, cs, hf, _, _, _ => by simp [Qe] at hf
 | .b, fs, o, m, cs, hf, _, _, _ => by simp [Qe] at hf
 | .o, fs, o, m, cs, hf, _, _, _ => by simp [Qe] at hf
 | .mp _ _, fs, o, m, cs, hf, _, _, _ => by simp [Qe] at hf
 | .s, fs, o, m, cs, hf, _, _, _ => by simp [Qe] at hf
 | .sl _, fs, o, m, cs, hf, _, _, _ => by simp [Qe] at hf
termination_by τ => (sizeOf τ, 0)
end
end
open Go Go.WideShapes Go.ChangeShapes
def Hk (P : Program) : Ty → List TypeId → Bool
 | .p x y, t :: ts => Kc P x t && x.pos && Hk P y ts
 | .u, [] => true
 | _, _ => false
section
variable {H : Type} {enc : TypeId × Value → H} {P : Program} {w : World} {base : Nat} {spare : Nat → Bool} {held : Bool}
theorem C8 {τ : Ty} {t : TypeId} {v : Value} {r : Reach} {b0 : Nat} (ht : Kc P τ t = true) (h : Value.okWide P w r b0 t v) : v = Sc τ v.cells.toList := by
 have key : ∀ {τ : Ty}, τ.isAgg = false → v.cells = #[v] → v = Sc τ v.cells.toList := by
  intro τ h1 h2
  rw [h2]; simp [Sc, h1]
 cases τ with
 | i k =>
  obtain ⟨n, rfl⟩ := okWide_int (Tok.i ht) h
  exact key rfl rfl
 | b =>
  obtain ⟨n, rfl⟩ := okWide_bool (Tok.b ht) h
  exact key rfl rfl
 | o =>
  refine key rfl ?_
  obtain ⟨et, hu⟩ := Tok.o ht
  unfold Value.okWide at h
  rw [hu] at h
  cases v with
  | agg cs => simp [Cell.okWide, Cell.ok, hu] at h
  | _ => rfl
 | mp _ _ =>
  refine key rfl ?_
  obtain ⟨kt, et, hu, _⟩ := Tok.mp ht
  unfold Value.okWide at h
  rw [hu] at h
  cases v with
  | agg cs => simp [Cell.okWide, Cell.ok, hu] at h
  | _ => rfl
 | s =>
  refine key rfl ?_
  have hu := Tok.s ht
  unfold Value.okWide at h
  rw [hu] at h
  cases v with
  | agg cs => simp [Cell.okWide, Cell.ok, hu] at h
  | _ => rfl
 | sl e =>
  refine key rfl ?_
  obtain ⟨et, hu, _⟩ := Tok.sl ht
  unfold Value.okWide at h
  rw [hu] at h
  cases v with
  | agg cs => simp [Cell.okWide, Cell.ok, hu] at h
  | _ => rfl
 | u =>
  obtain ⟨fs, hu, _⟩ := UV ht
  obtain ⟨cs, rfl, _⟩ := okWide_struct hu h
  simp [Sc, Ty.isAgg, Value.cells]
 | p x y =>
  obtain ⟨fs, hu, _⟩ := TV ht
  obtain ⟨cs, rfl, _⟩ := okWide_struct hu h
  simp [Sc, Ty.isAgg, Value.cells]
theorem SK : ∀ {pt : Ty} {ts : List TypeId} {vs : List Value} {ds : List (DataW H)} {ps : List MemPlace}, Hk P pt ts = true → DataW.TrodAll enc P w 0 spare held ts vs ds ps →
 (∀ (j : Nat) t v, ts[j]? = some t → vs[j]? = some v → Value.okWide P w .any base t v) → ∃ x : T pt, Ff w (fun _ => False) pt x vs ∧ DI pt x
 | .p x y, t :: ts, v :: vs, d :: ds, ps, hp, h, hv => by
  simp only [Hk, jd] at hp
  obtain ⟨p, q, ⟨n, h1⟩, h2, _⟩ := h
  obtain ⟨a, ha, hra⟩ := TK (fun _ h => h) x t n _ _ hp.1.1 hp.1.2 h1
  obtain ⟨b, hb, hrb⟩ := SK hp.2 h2 fun j t' v' h1 h2 => hv (j + 1) t' v' (by simpa using h1) (by simpa using h2)
  exact ⟨(a, b), ⟨⟨_, C8 hp.1.1 (hv 0 t v rfl rfl), ha⟩, hb⟩, hra, hrb⟩
 | .u, [], [], [], _, _, _, _ => ⟨(), trivial, trivial⟩
 | .p _ _, [], _, _, _, hp, _, _ => by simp [Hk] at hp
 | .u, _ :: _, _, _, _, hp, _, _ => by simp [Hk] at hp
 | .i _, _, _, _, _, hp, _, _ => by simp [Hk] at hp
 | .b, _, _, _, _, hp, _, _ => by simp [Hk] at hp
 | .o, _, _, _, _, hp, _, _ => by simp [Hk] at hp
 | .mp _ _, _, _, _, _, hp, _, _ => by simp [Hk] at hp
 | .s, _, _, _, _, hp, _, _ => by simp [Hk] at hp
 | .sl _, _, _, _, _, hp, _, _ => by simp [Hk] at hp
 | .p _ _, _ :: _, [], _, _, _, h, _ => by simp [DataW.TrodAll] at h
 | .p _ _, _ :: _, _ :: _, [], _, _, h, _ => by simp [DataW.TrodAll] at h
 | .u, [], _ :: _, _, _, _, h, _ => by simp [DataW.TrodAll] at h
 | .u, [], [], _ :: _, _, _, h, _ => by simp [DataW.TrodAll] at h
def XK (P : Program) (t : TypeId) : Prop := ∃ τ : Ty, Kc P τ t = true ∧ τ.pos = true
theorem FX : ∀ {τ : Ty} {fs : List Field} {o : Nat}, Qe P τ fs o = true → τ.pos = true →
 (∀ f ∈ fs, XK P f.type) ∧ τ.size = (fs.map fun f => P.cellsOf f.type).sum ∧ ∀ (j : Nat) f, fs[j]? = some f → f.offset = o + ((fs.take j).map fun f => P.cellsOf f.type).sum
 | .u, fs, o, h, _ => by
  rw [Xag h]
  simp [Ty.size]
 | .p x y, fs, o, h, hp => by
  obtain ⟨f, r, rfl, ho, ht, hr⟩ := EX h
  simp only [Ty.pos, jd] at hp
  obtain ⟨h1, h2, h3⟩ := FX hr hp.2
  refine ⟨?_, ?_, ?_⟩
  ·intro g hg
   rcases jq.1 hg with rfl | hg
   ·exact ⟨x, ht, hp.1⟩
   ·exact h1 g hg
  ·simp [Ty.size, Co ht, h2]
  ·intro j g hj
   cases j with
   | zero => simp at hj; subst hj; simp [ho]
   | succ j =>
    have := h3 j g (by simpa using hj)
    simp [this, Co ht, ju]
 | .i _, fs, o, h, _ => by simp [Qe] at h
 | .b, fs, o, h, _ => by simp [Qe] at h
 | .o, fs, o, h, _ => by simp [Qe] at h
 | .mp _ _, fs, o, h, _ => by simp [Qe] at h
 | .s, fs, o, h, _ => by simp [Qe] at h
 | .sl _, fs, o, h, _ => by simp [Qe] at h
theorem GB {t : TypeId} {u : TypeDesc} (h : XK P t) (hu : P.underlying t = some u) : (∃ k, u = .int k) ∨ u = .bool ∨ u = .string ∨ (∃ e, u = .slice e ∧ XK P e ∧ 0 < P.cellsOf e) ∨ ∃ fs, u = .struct fs := by
 obtain ⟨τ, ht, hp⟩ := h
 cases τ with
 | i k => rw [Tok.i ht] at hu; exact .inl ⟨k, (yy hu).symm⟩
 | b => rw [Tok.b ht] at hu; exact .inr (.inl (yy hu).symm)
 | o => simp [Ty.pos] at hp
 | mp _ _ => simp [Ty.pos] at hp
 | s => rw [Tok.s ht] at hu; exact .inr (.inr (.inl (yy hu).symm))
 | sl e =>
  obtain ⟨et, h1, h2⟩ := Tok.sl ht
  rw [h1] at hu
  simp only [Ty.pos, jd] at hp
  exact .inr (.inr (.inr (.inl ⟨et, (yy hu).symm, ⟨e, h2, hp.1⟩, by rw [Co h2]; simpa using hp.2⟩)))
 | u => obtain ⟨fs, h1, _⟩ := UV ht; rw [h1] at hu; exact .inr (.inr (.inr (.inr ⟨fs, (yy hu).symm⟩)))
 | p x y => obtain ⟨fs, h1, _⟩ := TV ht; rw [h1] at hu; exact .inr (.inr (.inr (.inr ⟨fs, (yy hu).symm⟩)))
theorem N6 : Kids P (XK P) := by
 refine ⟨?_, ?_, ?_, ?_, ?_⟩
 ·intro t e ht hu
  rcases GB ht hu with ⟨k, h⟩ | h | h | ⟨e', h, _⟩ | ⟨fs, h⟩ <;> simp at h
 ·intro t e ht hu
  rcases GB ht hu with ⟨k, h⟩ | h | h | ⟨e', h, h2, _⟩ | ⟨fs, h⟩ <;> simp at h
  rw [h]; exact h2
 ·intro t e n ht hu
  rcases GB ht hu with ⟨k, h⟩ | h | h | ⟨e', h, _⟩ | ⟨fs, h⟩ <;> simp at h
 ·intro t fs ht hu
  obtain ⟨τ, ht, hp⟩ := ht
  cases τ with
  | i k => rw [Tok.i ht] at hu; simp at hu
  | b => rw [Tok.b ht] at hu; simp at hu
  | o => simp [Ty.pos] at hp
  | mp _ _ => simp [Ty.pos] at hp
  | s => rw [Tok.s ht] at hu; simp at hu
  | sl e => obtain ⟨et, h1, _⟩ := Tok.sl ht; rw [h1] at hu; simp at hu
  | u =>
   obtain ⟨fs', h1, h2⟩ := UV ht
   rw [h1] at hu
   simp only [jc, TypeDesc.struct.injEq] at hu
   subst hu
   have : fs'.toList = [] := by simpa using h2
   rw [Co ht, this]
   simp [Ty.size]
  | p x y =>
   obtain ⟨fs', h1, h2⟩ := TV ht
   rw [h1] at hu
   simp only [jc, TypeDesc.struct.injEq] at hu
   subst hu
   obtain ⟨a, b, c⟩ := FX h2 hp
   exact ⟨a, by rw [Co ht, b], fun j f hj => by simpa using c j f hj⟩
 ·intro t k e ht hu
  rcases GB ht hu with ⟨k, h⟩ | h | h | ⟨e', h, _⟩ | ⟨fs, h⟩ <;> simp at h
theorem KM : ∀ {pt : Ty} {ts : List TypeId}, Hk P pt ts = true → ∀ t ∈ ts, XK P t
 | .p x y, t :: ts, h, t', ht => by
  simp only [Hk, jd] at h
  rcases jq.1 ht with rfl | ht
  ·exact ⟨x, h.1.1, h.1.2⟩
  ·exact KM h.2 t' ht
 | .u, [], _, _, ht => by simp at ht
 | .p _ _, [], _, _, ht => by simp at ht
 | .u, _ :: _, h, _, _ => by simp [Hk] at h
 | .i _, _, h, _, _ => by simp [Hk] at h
 | .b, _, h, _, _ => by simp [Hk] at h
 | .o, _, h, _, _ => by simp [Hk] at h
 | .mp _ _, _, h, _, _ => by simp [Hk] at h
 | .s, _, h, _, _ => by simp [Hk] at h
 | .sl _, _, h, _, _ => by simp [Hk] at h
theorem OI {w' : World} {sp' : Nat → Bool} : ∀ {ts : List TypeId} {vs : List Value} {ds : List (DataW H)} {ps : List MemPlace}, (∀ t ∈ ts, XK P t) →
 DataW.TrodAll enc P w 0 (fun _ => true) true ts vs ds ps → (∀ p ∈ ps, w.sameAt w' p) → (∀ p ∈ ps, sp' p.block = true) → DataW.TrodAll enc P w' 0 sp' true ts vs ds ps
 | [], [], [], _, _, h, _, _ => h
 | t :: ts, v :: vs, d :: ds, ps, hp, h, h1, h2 => by
  obtain ⟨p, q, ⟨n, ha⟩, hb, rfl⟩ := h
  refine ⟨p, q, ⟨n, DataW.trod_stays N6 ?_ (fun h => by simp at h) (hp t (by simp)) ha (fun z hz => h1 z (qt _ hz)) (fun z hz => h2 z (qt _ hz))⟩,
   OI (fun t ht => hp t (by simp [ht])) hb (fun z hz => h1 z (qu _ hz)) (fun z hz => h2 z (qu _ hz)), rfl⟩
  intro t e ht hu
  rcases GB ht hu with ⟨k, h⟩ | h | h | ⟨e', h, _, h2⟩ | ⟨fs, h⟩ <;> simp at h
  rw [h]; exact h2
 | [], _ :: _, _, _, _, h, _, _ => by simp [DataW.TrodAll] at h
 | [], [], _ :: _, _, _, h, _, _ => by simp [DataW.TrodAll] at h
 | _ :: _, [], _, _, _, h, _, _ => by simp [DataW.TrodAll] at h
 | _ :: _, _ :: _, [], _, _, h, _, _ => by simp [DataW.TrodAll] at h
theorem MM : ∀ {ts : List TypeId} {vs : List Value} {ds : List (DataW H)} {ps : List MemPlace}, DataW.TrodAll enc P w base spare held ts vs ds ps → ds.length = ts.length
 | [], [], [], _, _ => rfl
 | _ :: _, _ :: _, _ :: _, _, h => by
  obtain ⟨_, _, _, h, _⟩ := h
  simp [MM h]
 | [], _ :: _, _, _, h => by simp [DataW.TrodAll] at h
 | [], [], _ :: _, _, h => by simp [DataW.TrodAll] at h
 | _ :: _, [], _, _, h => by simp [DataW.TrodAll] at h
 | _ :: _, _ :: _, [], _, h => by simp [DataW.TrodAll] at h
theorem Hs.but {w w' : World} (h : Hs w w' fun _ => False) (may : MemPlace → Prop) : w.keptBut w' may := by
 refine ⟨h.os, h.output, fun i hi => ?_⟩
 rw [h.block i hi (fun h => h)]
 cases w.heap[i]? with
 | none => rfl
 | some o =>
  cases o with
  | cells c t fr => exact ⟨rfl, rfl, rfl, fun _ _ => rfl⟩
  | map es clock => exact .inr ⟨rfl, rfl⟩
  | _ => rfl
end
noncomputable def Ib {X R : Type} (step : X → Option (X ⊕ R)) (x : X) : Option R :=
 open Classical in if h : ∃ m y, NB step m x y then some h.choose_spec.choose else none
theorem NB.det {X R : Type} {step : X → Option (X ⊕ R)} : ∀ {m n : Nat} {x : X} {y z : R}, NB step m x y → NB step n x z → y = z
 | 0, _, _, _, _, h, _ => h.elim
 | _ + 1, 0, _, _, _, _, h => h.elim
 | m + 1, n + 1, x, y, z, h, h' => by
  rcases h with h | ⟨x1, h, h1⟩ <;> rcases h' with h' | ⟨x2, h', h2⟩
  ·rw [h] at h'; simpa using h'
  ·rw [h] at h'; simp at h'
  ·rw [h] at h'; simp at h'
  ·rw [h] at h'
   simp only [jc, Sum.inl.injEq] at h'
   subst h'
   exact NB.det h1 h2
theorem JE {X R : Type} {step : X → Option (X ⊕ R)} {x : X} {y : R} : Ib step x = some y ↔ ∃ m, NB step m x y := by
 unfold Ib
 constructor
 ·intro h
  split at h
  ·rename_i hh
   simp only [jc] at h
   exact ⟨_, h ▸ hh.choose_spec.choose_spec⟩
  ·simp at h
 ·rintro ⟨m, h⟩
  have hh : ∃ m y, NB step m x y := ⟨m, y, h⟩
  rw [dif_pos hh]
  exact congrArg some (NB.det hh.choose_spec.choose_spec h)
theorem Qy {X R : Type} {step : X → Option (X ⊕ R)} (x : X) : Ib step x = (step x).bind (Sum.elim (Ib step) some) := by
 apply Option.ext
 intro y
 rw [JE]
 constructor
 ·rintro ⟨m, h⟩
  cases m with
  | zero => exact h.elim
  | succ m =>
   rcases h with h | ⟨x', h, h'⟩
   ·simp [h]
   ·simp [h, JE.2 ⟨m, h'⟩]
 ·intro h
  rw [qf] at h
  obtain ⟨z, hz, h⟩ := h
  cases z with
  | inl x' =>
   obtain ⟨m, hm⟩ := JE.1 h
   exact ⟨m + 1, .inr ⟨x', hz, hm⟩⟩
  | inr z =>
   simp only [Sum.elim_inr, jc] at h
   subst h
   exact ⟨1, .inl hz⟩
def lp (fn : Func) (i : Nat) : Code := (Yd (fn.body.getD .skip)).getD i .skip
theorem AT {G : Qd} {L : List (Nat × Ua)} {fn : Func} {i r : Nat} {ls : Ua} {R : ls.inT.X → Option (ls.inT.X ⊕ (ls.outT.X ⊕ ls.retT.X))}
 (h1 : Ck (lp fn i) = some r) (h2 : (Eb L r) = some ls) (h3 : ls.F = Ib R) (h4 : ∀ x, QE G L ls (lp fn i) x = R x) : Bb G L (lp fn i) := by
 intro r' ls' hr hl x y hy
 rw [h1] at hr
 simp only [jc] at hr
 subst hr
 rw [h2] at hl
 simp only [jc] at hl
 subst hl
 rw [h3] at hy
 obtain ⟨m, hm⟩ := JE.1 hy
 have : QE G L ls (lp fn i) = R := funext h4
 rw [this]
 exact ⟨m, hm⟩
theorem LE {G : Qd} {L : List (Nat × Ua)} {fn : Func} {k : Nat} (hk : qv (Yd (fn.body.getD .skip)).length k = true) (h : ∀ i, i < k → Bb G L (lp fn i)) :
 ∀ b, b ∈ Yd (fn.body.getD .skip) → Bb G L b := by
 intro b hb
 obtain ⟨i, hi, rfl⟩ := qs.1 hb
 have := h i (by rw [← jv hk]; exact hi)
 unfold lp at this
 rwa [qg, je hi] at this
theorem Ta {p : Nat → Prop} : ∀ i, i < 0 → p i := fun i h => absurd h (Nat.not_lt_zero i)
theorem Na {p : Nat → Prop} {k : Nat} (h : p k) (hr : ∀ i, i < k → p i) : ∀ i, i < k + 1 → p i := by
 intro i hi
 rcases Nat.lt_or_eq_of_le (Nat.lt_succ_iff.1 hi) with hi | rfl
 ·exact hr i hi
 ·exact h
section
variable {P : Program}
theorem Dac {l : List (Nat × Ty)} {fs : List (Nat × Ya)} {m : List (Nat × Nat)} {z : Bool} {ar : List (Nat × Ty × Nat)} {mv ml : List Nat}
 (h : ((l.all fun x => Kc P x.2 x.1) && (ar.all fun x => TM P x.1 x.2.1 x.2.2)) = true) : EnvTy P ⟨l, fs, m, z, ar, mv, ml⟩ := by
 simp only [jd] at h
 exact ⟨fun t τ ht => yv.1 h.1 (t, τ) (Wt ht), fun t e n ht => yv.1 h.2 (t, e, n) (Wt ht)⟩
theorem NS {I : Ei} {l : List (Nat × Ty)} {m : List (Nat × Nat)} {z : Bool} {ar : List (Nat × Ty × Nat)} {mv ml : List Nat}
 (h : ((l.all fun x => Kc P x.2 x.1) && (ar.all fun x => TM P x.1 x.2.1 x.2.2)) = true) : Ui P I ⟨l, [], m, z, ar, mv, ml⟩ :=
 { toEnvTy := Dac h, fn := fun f sem h => by simp [Eb] at h }
theorem Ui.cons {I : Ei} {l : List (Nat × Ty)} {fs : List (Nat × Ya)} {m : List (Nat × Nat)} {z : Bool} {ar : List (Nat × Ty × Nat)} {mv ml : List Nat} {f : Nat} {sem : Ya} (hs : Qh P I f sem)
 (h : Ui P I ⟨l, fs, m, z, ar, mv, ml⟩) : Ui P I ⟨l, (f, sem) :: fs, m, z, ar, mv, ml⟩ :=
 { toEnvTy := ⟨h.ty, h.ar⟩, fn := fun g s hg => by
    simp only [Vb] at hg
    split at hg
    ·rename_i e
     simp only [jc] at hg
     subst e; subst hg
     exact hs
    ·exact h.fn g s hg }
theorem UD {fn : Func} (h : fn.body.isSome = true) : fn.body = some (fn.body.getD .skip) := by
 cases hb : fn.body with
 | none => rw [hb] at h; simp at h
 | some c => rfl
variable {I : Ei} {G : Qd} {L : List (Nat × Ua)}
theorem IK (hG : Ui P I G) (hm : P.follows .mixedOrders = true) {f : FuncId} {fn : Func} {k : Nat} {pt rt : Ty} {fr : List Bool} {F : T pt → Option (T rt)} (hf : P.funcs[f]? = some fn)
 (hb : (fn.body.isSome && !(fn.name == "runtime.NumGoroutine") && jy pt.npar fn.ntmps && qv (Yd (fn.body.getD .skip)).length k) = true)
 (hL : ∀ i, i < k → Bb G L (lp fn i)) (hF : ∀ x, O8 G L fn pt rt fr x = F x) : Qh P I f (.pu pt rt fr F) := by
 simp only [jd, yj] at hb
 exact Zad hG hm hf (UD hb.1.1.1) hb.1.1.2 (LE hb.2 hL) (qz hb.1.2) fun x r h => (hF x).trans h
theorem Vaa (hG : Ui P I G) {vw cv : Bool} (hfz : (!G.fz || ((vw && !cv) && Dq G.att)) = true) (hm : P.follows .mixedOrders = true) {f : FuncId} {fn : Func} {k : Nat} {τ pt rt : Ty} {fr : List Bool} {F : T τ → T pt → Option (T τ × T rt)} (hf : P.funcs[f]? = some fn)
 (hb : (fn.body.isSome && !(fn.name == "runtime.NumGoroutine") && jy (pt.npar + 1) fn.ntmps && qv (Yd (fn.body.getD .skip)).length k) = true)
 (hL : ∀ i, i < k → Bb G L (lp fn i)) (hF : ∀ x0 x, MV G L fn vw cv τ pt rt fr x0 x = F x0 x) : Qh P I f (.bx vw cv τ pt rt fr F) := by
 simp only [jd, yj] at hb
 have hz : G.fz = false ∨ ((vw && !cv) = true ∧ Dq G.att = true) := by
  simp only [qw, yj, jd] at hfz ⊢
  exact hfz
 exact Xad hG hz hm hf (UD hb.1.1.1) hb.1.1.2 (LE hb.2 hL) (qz hb.1.2) fun x0 x r h => (hF x0 x).trans h
theorem Xaa (hG : Ui P I G) (hm : P.follows .mixedOrders = true) {f : FuncId} {fn : Func} {k : Nat} {pt τ : Ty} {F : T pt → Option (T τ)} (hf : P.funcs[f]? = some fn)
 (hb : (fn.body.isSome && !(fn.name == "runtime.NumGoroutine") && jy pt.npar fn.ntmps && qv (Yd (fn.body.getD .skip)).length k) = true)
 (hL : ∀ i, i < k → Bb G L (lp fn i)) (hF : ∀ x, NV G L fn pt τ x = F x) : Qh P I f (.nw pt τ F) := by
 simp only [jd, yj] at hb
 exact Yad hG hm hf (UD hb.1.1.1) hb.1.1.2 (LE hb.2 hL) (qz hb.1.2) fun x r h => (hF x).trans h
theorem Yaa (hG : Ui P I G) (hfz : (!G.fz || UW G.att) = true) (hm : P.follows .mixedOrders = true) {f : FuncId} {fn : Func} {k : Nat} {τ κ ε pt rt : Ty} {F : T τ → List (T κ × T ε) → T pt → Option (T τ × (List (T κ × T ε) × T rt))} (hf : P.funcs[f]? = some fn)
 (hb : (fn.body.isSome && !(fn.name == "runtime.NumGoroutine") && jy (pt.npar + 1) fn.ntmps && qv (Yd (fn.body.getD .skip)).length k) = true)
 (hL : ∀ i, i < k → Bb G L (lp fn i)) (hF : ∀ x0 xs x, OV G L fn τ κ ε pt rt x0 xs x = F x0 xs x) : Qh P I f (.tp τ κ ε pt rt F) := by
 simp only [jd, yj] at hb
 exact Aae hG (by simpa using hfz) hm hf (UD hb.1.1.1) hb.1.1.2 (LE hb.2 hL) (qz hb.1.2) fun x0 xs x r h => (hF x0 xs x).trans h
end
end KF
