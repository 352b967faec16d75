/- An evaluator of Go functions on plain data, and its soundness: second part, and the lift to a law (no condition). -/
import Derived.Test.YtokklojkcoeooaaCa
import Derived.Laws.CopyRow
import Derived.Orders
import Derived.LoopN
import Derived.ChangeArms
import Derived.ChangeStays
import Derived.ChangeSame
import Derived.WideShapes
import Derived.RowKit
import Derived.Handed
import Derived.JoinedOf
namespace KF
open Go

theorem elt_getElem? {L : List Value} {i size j : Nat} (hj : j < size) : (elt L i size)[j]? = L[i * size + j]? := by
  simp [elt, hj]

theorem El.one {w : World} {O : Nat → Prop} {dq : Bool} {e : Ty} {xs : List (T e)} {L : List Value} {Fs : List (List Nat)} (h : El w O dq e xs L Fs) : ∀ v ∈ L, v.oneCell' = true := by
  intro v hv
  obtain ⟨p, hp, hpv⟩ := List.mem_iff_getElem.1 hv
  have hlen := h.len
  rcases Nat.eq_zero_or_pos e.size with h0 | h0
  · rw [h0, Nat.mul_zero] at hlen
    omega
  · have hi : p / e.size < List.length xs := by
      rw [Nat.div_lt_iff_lt_mul h0]
      omega
    have hdm : p / e.size * e.size + p % e.size = p := Nat.div_add_mod' p e.size
    have hm : (elt L (p / e.size) e.size)[p % e.size]? = some v := by
      rw [elt_getElem? (Nat.mod_lt _ h0), hdm, List.getElem?_eq_getElem hp, hpv]
    have hmem : v ∈ elt L (p / e.size) e.size := List.mem_of_getElem? hm
    have := h.el _ hi
    cases dq with
    | true =>
      simp only [if_true] at this
      exact this.one v hmem
    | false =>
      simp only [Bool.false_eq_true, if_false] at this
      exact this.1.one v hmem

theorem RowV.up {w : World} {O : Nat → Prop} {dp : Bool} {e : Ty} {xs : List (T e)} {v : Value} {F : List Nat} (h : RowV w O dp e xs v F) : RowV w O (dp || e.flat) e xs v F := by
  cases dp with
  | true => exact h
  | false =>
    cases hf : e.flat with
    | false => exact h
    | true =>
      obtain ⟨hm, h | ⟨bl, off, cap, cur, et, Fs, h1, hh, h2, h3, h4, hF, hel⟩⟩ := h
      · exact ⟨hm, .inl h⟩
      · refine ⟨hm, .inr ⟨bl, off, cap, cur, et, Fs, h1, hh, h2, h3, h4, hF, hel.len, hel.flen, fun i hi => ?_⟩⟩
        have := hel.el i hi
        simp only [Bool.false_eq_true, if_false] at this
        simp only [Bool.false_or, if_true]
        rw [this.2]
        exact this.1.flat hf

section
variable {P : Program} {Out : Type} {n0 : Nat} {A : Fx} {O0 : Nat → Prop} {w0 w w' : World} {s : AS} {σ σ' : Nat → Value} {φ φ' : Nat → List Nat} {a : Act}
variable {o : Oper} {Q : Exit → Act → World → Prop} {k : AS → Option Out} {out : Out} {d : D} {v : Value} {upd : List (Nat × Option Blk)} {dst : Option Tmp} {G : Env}

theorem src_nil {size : Nat} {tx : TypeId} (hk : (∃ e', P.underlying tx = some (.slice e')) ∨ P.underlying tx = some .string) (cap : Nat) : Src P size tx (.slice none 0 cap) 0 [] w :=
  ⟨hk, fun _ => rfl, run_firstCells_none w size 0 0 cap, run_firstCells_none w.drew size 0 0 cap, by simp, fun _ h => by cases h⟩

theorem src_some {size : Nat} {tx : TypeId} (hk : (∃ e', P.underlying tx = some (.slice e')) ∨ P.underlying tx = some .string) (ad : Addr) (n cap : Nat) (news : List Value) (hl : news.length = n * size)
    (hnews : ∀ j u, news[j]? = some u → w.cell? (ad.add j) = some u) (h1 : ∀ u ∈ news, u.oneCell' = true) : Src P size tx (.slice (some ad) n cap) n news w :=
  ⟨hk, fun _ => rfl, run_firstCells_some w size n ad n cap news hl hnews, run_firstCells_some w.drew size n ad n cap news hl (by simpa using hnews), hl, h1⟩

theorem seg_cells {bl off n : Nat} {cur : Array Value} {et : TypeId} {fr : Nat × Nat} (hh : w.heap[bl]? = some (.cells cur et fr)) (hs : off + n ≤ cur.size) :
    ∀ j u, (seg cur off n)[j]? = some u → w.cell? ((⟨bl, off, none⟩ : Addr).add j) = some u := by
  intro j u hu
  rw [add_mk, cell_of_row w bl (off + j) cur et fr hh]
  have hj : j < n := by
    have := (List.getElem?_eq_some_iff.1 hu).1
    rwa [seg_length hs] at this
  rwa [seg_getElem? _ _ _ _ hj] at hu

theorem src_row {e : Ty} {O : Nat → Prop} {dq : Bool} {ys : List (T e)} {F : List Nat} {tx : TypeId} (hk : (∃ e', P.underlying tx = some (.slice e')) ∨ P.underlying tx = some .string) (h : RowV w O dq e ys v F) :
    ∃ news Gs, Src P e.size tx v (List.length ys) news w ∧ El w O dq e ys news Gs ∧ Gs.flatten.Sublist F := by
  obtain ⟨hm, ⟨h1, h2, h3⟩ | ⟨bl, off, cap, cur, et, Fs, h1, hh, h2, h3, h4, hF, hel⟩⟩ := h
  · subst h2
    rw [h1]
    exact ⟨[], [], src_nil hk 0, El.nil, by simp⟩
  · have := Nat.mul_le_mul_right e.size h2
    refine ⟨_, Fs, ?_, hel, by rw [hF]; exact List.sublist_cons_self _ _⟩
    rw [h1]
    exact src_some hk _ _ _ _ hel.len (seg_cells hh (by omega)) hel.one

theorem row_heap (h : Conc n0 A O0 w0 s σ φ a w) {id : Nat} {e : Ty} {dp : Bool} {xs : List (T e)} (hb : s.heap id = some (.row e dp xs)) (hv : RepU w (OO O0 s φ) s.heap σ (.own id) v) :
    RowV w (OO O0 s φ) (dp || e.flat) e xs v (φ id) := by
  have := rowV_iff.1 (h.hp id _ hb)
  rw [repU_own] at hv
  rw [hv.2 _ _ hb rfl]
  exact this.up

theorem srcD_ok (h : Conc n0 A O0 w0 s σ φ a w) {e : Ty} {db : D} {ys : List (T e)} {dq : Bool} {m : List Nat} (hs : srcD s e db = some (ys, dq, m)) (hv : RepU w (OO O0 s φ) s.heap σ db v)
    {tx : TypeId} (hk : (∃ e', P.underlying tx = some (.slice e')) ∨ P.underlying tx = some .string) :
    ∃ news Gs, Src P e.size tx v (List.length ys) news w ∧ El w (OO O0 s φ) dq e ys news Gs ∧ Gs.flatten.Sublist (blocks φ m) ∧ ∀ j, j ∈ m → ∃ b, s.heap j = some b := by
  unfold srcD at hs
  split at hs
  · simp only [Option.some.injEq, Prod.mk.injEq] at hs
    obtain ⟨rfl, rfl, rfl⟩ := hs
    rw [repU_nil] at hv
    rw [hv]
    exact ⟨[], [], src_nil hk 0, El.nil, by simp, by simp⟩
  · rename_i e' ys'
    split at hs
    · rename_i q hq
      subst q
      simp only [Option.some.injEq, Prod.mk.injEq] at hs
      obtain ⟨rfl, rfl, rfl⟩ := hs
      rw [repU_sl] at hv
      obtain ⟨ad, cap, hv, hc, hm, hd⟩ := hv
      simp only [List.cons.injEq, and_true] at hv
      rcases hd with hd | ⟨bl, off, cur, et, fr, hd, hO, hh, hsz, hel⟩
      · subst hd
        rw [hv]
        refine ⟨[], [], ?_, El.nil, by simp, by simp⟩
        cases ad with
        | none => exact src_nil hk cap
        | some ad => exact src_some hk ad 0 cap [] (by simp) (by simp) (by simp)
      · have hEl : El w (OO O0 s φ) e'.flat e' ys' (seg cur off (List.length ys' * e'.size)) (List.replicate (List.length ys') []) := by
          refine ⟨seg_length hsz, by simp, fun i hi => ?_⟩
          have hg : (List.replicate (List.length ys') ([] : List Nat)).getD i [] = [] := by simp [List.getD, hi]
          rw [elt_seg hi, hg]
          cases hf : e'.flat with
          | true => exact (hel i hi).flat hf
          | false => simpa using hel i hi
        refine ⟨_, _, ?_, hEl, by simp, by simp⟩
        rw [hv, hd]
        exact src_some hk _ _ _ _ hEl.len (seg_cells hh hsz) hEl.one
    · simp at hs
  · rename_i y
    split at hs
    · rename_i q hq
      subst q
      simp only [Option.some.injEq, Prod.mk.injEq] at hs
      obtain ⟨rfl, rfl, rfl⟩ := hs
      rw [repU_str] at hv
      rw [hv]
      have hbl : List.length (bytesOf y) = (⟨List.toArray y⟩ : ByteArray).size := by simp [bytesOf, ByteArray.size]
      have hEl : El w (OO O0 s φ) true (.i .u8) (bytesOf y) (byteCells ⟨List.toArray y⟩) (List.replicate (List.length (bytesOf y)) []) := by
        refine ⟨by rw [byteCells_length, ← hbl]; simp [Ty.size], by simp, fun i hi => ?_⟩
        have hg : (List.replicate (List.length (bytesOf y)) ([] : List Nat)).getD i [] = [] := by simp [List.getD, hi]
        rw [hg]
        simp only [if_true, Own, and_true]
        apply List.ext_getElem?
        intro j
        cases j with
        | zero =>
          rw [elt_getElem? (by simp [Ty.size])]
          have hi' : i < y.length := by simpa [bytesOf] using hi
          simp [Ty.size, byteCells, bytesOf, hi']
        | succ j => simp [elt, Ty.size]; omega
      refine ⟨byteCells ⟨List.toArray y⟩, _, ⟨hk, fun _ => ?_, ?_, ?_, hEl.len, hEl.one⟩, hEl, by simp, by simp⟩
      · rw [hbl]; rfl
      · rw [hbl]; exact firstCells_string _ _
      · rw [hbl]; exact firstCells_string _ _
    · simp at hs
  · rename_i id
    split at hs
    · rename_i e' dp ys' hb
      split at hs
      · rename_i q hq
        subst q
        simp only [Option.some.injEq, Prod.mk.injEq] at hs
        obtain ⟨rfl, rfl, rfl⟩ := hs
        have hrow := row_heap h hb hv
        obtain ⟨news, Gs, h1, h2, h3⟩ := src_row (P := P) (tx := tx) hk hrow
        refine ⟨news, Gs, h1, h2, ?_, ?_⟩
        · cases hf : e'.flat with
          | false => simpa [blocks] using h3
          | true =>
            have : Gs.flatten = [] := flatten_nils fun i hi => by
              have := h2.el i (by rw [← h2.flen]; exact hi)
              simp only [hf, Bool.or_true, if_true] at this
              exact own_flat hf this
            rw [this]; simp
        · intro j hj
          cases hf : e'.flat with
          | true => rw [hf] at hj; simp at hj
          | false => rw [hf] at hj; simp at hj; subst hj; exact ⟨_, hb⟩
      · simp at hs
    · simp at hs
  · simp at hs

theorem dstD_ok (h : Conc n0 A O0 w0 s σ φ a w) {e : Ty} {da : D} {xs : List (T e)} {dp : Option Bool} {l : List Nat} (hs : dstD s e da = some (xs, dp, l)) (hv : RepU w (OO O0 s φ) s.heap σ da v)
    {dq : Bool} (hd : dp.getD dq = dq) : RowV w (OO O0 s φ) dq e xs v (blocks φ l) ∧ ∀ j, j ∈ l → ∃ b, s.heap j = some b := by
  unfold dstD at hs
  split at hs
  · simp only [Option.some.injEq, Prod.mk.injEq] at hs
    obtain ⟨rfl, rfl, rfl⟩ := hs
    rw [repU_nil] at hv
    exact ⟨⟨by simp, .inl ⟨hv, rfl, by simp [blocks]⟩⟩, by simp⟩
  · rename_i id
    split at hs
    · rename_i e' dp' ys' hb
      split at hs
      · rename_i q hq
        subst q
        simp only [Option.some.injEq, Prod.mk.injEq] at hs
        obtain ⟨rfl, rfl, rfl⟩ := hs
        simp only [Option.getD_some] at hd
        have hrow := row_heap h hb hv
        rw [hd] at hrow
        refine ⟨by simpa [blocks] using hrow, ?_⟩
        intro j hj
        simp at hj
        subst hj
        exact ⟨_, hb⟩
      · simp at hs
    · simp at hs
  · simp at hs

theorem op_append (hG : EnvTy P G) (h : Conc n0 A O0 w0 s σ φ a w) {args : Array Operand} {ts : Array TypeId} (ho : o.op = .call ⟨.builtin .append, args, ts⟩)
    (he : aop G s o k = some out) : o.wp P a w (Good n0 A O0 w0 k out) Q := by
  simp only [aop, aopK, ho] at he
  split at he
  · rename_i x y t tx hargs hts
    unfold aAppendK at he
    split at he
    · rename_i tt e da db hd hty hx hy
      split at he
      · rename_i xs dp l ys dq m hdst hsrc
        cases hc : ((dp.getD dq == dq) && s.newOk tt && nodupB (l ++ m) && slOrS (aget G.ty tx)) with
        | false => rw [hc] at he; simp at he
        | true =>
          rw [hc] at he
          simp only [cond_true] at he
          simp only [Bool.and_eq_true, beq_iff_eq] at hc
          obtain ⟨⟨⟨hdq, hnew⟩, hnd⟩, hkx⟩ := hc
          have hnd := nodupB_ok hnd
          cases hlim : Nat.ble (List.length xs + List.length ys) lim with
          | false => rw [hlim] at he; simp at he
          | true =>
            rw [hlim] at he
            simp only [cond_true] at he
            have hlim := Nat.le_of_ble_eq_true hlim
            obtain ⟨et, hu, hte⟩ := Tok.sl (hG.ty _ _ hty)
            have hk : (∃ e', P.underlying tx = some (.slice e')) ∨ P.underlying tx = some .string := by
              unfold slOrS at hkx
              split at hkx
              · rename_i e' hq
                obtain ⟨et', hu', _⟩ := Tok.sl (hG.ty _ _ hq)
                exact .inl ⟨et', hu'⟩
              · rename_i hq
                exact .inr (Tok.s (hG.ty _ _ hq))
              · simp at hkx
            obtain ⟨hrow, hl1⟩ := dstD_ok h hdst (h.ev hx) hdq
            obtain ⟨news, Gs, hS, hEl, hsub, hl2⟩ := srcD_ok (P := P) h hsrc (h.ev hy) hk
            have hlive : ∀ j, j ∈ l ++ m → ∃ b, s.heap j = some b := by
              intro j hj
              rcases List.mem_append.1 hj with hj | hj
              · exact hl1 j hj
              · exact hl2 j hj
            have hbn := blocks_nodup h hnd hlive
            rw [blocks_append] at hbn
            obtain ⟨v', w', F', hr, h1, hsz, hbl, hos, htape, hout, hF', hsubF, hres⟩ := append_core (P := P) (t := t) (tx := tx) (ty := o.type) hu hte hrow hS hEl
              (List.Sublist.nodup (List.Sublist.append (List.Sublist.refl _) hsub) hbn) hlim
              (by
                intro c hc
                obtain ⟨j, hj, hm⟩ := mem_blocks.1 hc
                obtain ⟨b, hb⟩ := hl1 j hj
                exact .inr ⟨j, b, hb, hm⟩)
              (by
                intro c hc
                obtain ⟨j, hj, hm⟩ := mem_blocks.1 (hsub.subset hc)
                obtain ⟨b, hb⟩ := hl2 j hj
                exact (h.hp j b hb).lt c hm)
            have hc := h.absorb (w' := w') hnew (l ++ m) hlive (.row e dq (List.append xs ys)) v' F' hsz
              (by
                intro b hb hno
                refine hbl b hb fun hm => ?_
                obtain ⟨j, hj, hm⟩ := mem_blocks.1 hm
                exact hno j (List.mem_append_left _ hj) hm)
              hos htape hout hF'
              (by
                intro b hb
                rcases hsubF b hb with hb | hb | hb
                · exact .inl hb
                · obtain ⟨j, hj, hm⟩ := mem_blocks.1 hb
                  exact .inr ⟨j, List.mem_append_left _ hj, hm⟩
                · obtain ⟨j, hj, hm⟩ := mem_blocks.1 (hsub.subset hb)
                  exact .inr ⟨j, List.mem_append_right _ hj, hm⟩)
              (by
                intro hp' σ' O' hσ hO'
                rw [rowV_iff, hσ]
                exact hres O' hO')
            refine wp_value (w' := w') (v := v') ?_ (fin_good rfl hc ?_ he)
            · have hts' : ts = #[t, tx] := by
                apply Array.ext'
                rw [hts]
              rw [exec_builtin ho hargs, hts']
              simp [builtin, hr]
            · exact repU_own_new (e := e) (dp := dq) (xs := List.append xs ys) h1 (by rw [List.cons_append, heap_absorb, if_pos rfl])
      · simp at he
    · simp at he
  · simp at he
end
end KF

namespace KF
open Go

/-! ### What is told of a function -/
/-- arguments that are only read -/
def VArgs (w : World) (O : Nat → Prop) : (τ : Ty) → T τ → List Value → Prop
  | .p x y, v, a :: r => (∃ cs, a = vof x cs ∧ View w O x v.1 cs) ∧ VArgs w O y v.2 r
  | .u, _, [] => True
  | _, _, _ => False

/-- the results: new memory (flag true) or to be read only -/
def RParts (w : World) (O : Nat → Prop) : (τ : Ty) → T τ → List Bool → List Value → List Nat → Prop
  | .p x y, v, f :: r, a :: as, F => ∃ cs F1 F2, a = vof x cs ∧ F = F1 ++ F2 ∧ (if f then Own w x v.1 cs F1 else View w O x v.1 cs ∧ F1 = []) ∧ RParts w O y v.2 r as F2
  | .u, _, [], [], F => F = []
  | _, _, _, _, _ => False

def oneV : List Value → Value
  | [v] => v
  | vs => .tuple vs.toArray

/-- the old blocks but for F are as they were -/
structure Kept (w w' : World) (F : Nat → Prop) : Prop where
  size : w.heap.size ≤ w'.heap.size
  block : ∀ b, b < w.heap.size → ¬ F b → w'.heap[b]? = w.heap[b]?
  os : w'.os = w.os
  tape : w'.tape = w.tape
  output : w'.output = w.output

def Entered (P : Program) (f : FuncId) : Prop := ∃ fn, P.funcs[f]? = some fn ∧ (fn.name == "runtime.NumGoroutine") = false ∧ fn.body.isNone = false

def Returns (R : Value → World → Prop) : Ending → World → Prop
  | .returned v, w' => R v w'
  | _, _ => False

def Sound (P : Program) (f : FuncId) : FnSem → Prop
  | .pu pt rt fr F => Entered P f ∧ ∀ (O : Nat → Prop) (w : World) (x : T pt) (r : T rt) (args : List Value), F x = some r → VArgs w O pt x args → (∀ b, O b → b < w.heap.size) →
      Calls P f args.toArray w (Returns fun v w' => ∃ vs Fr, v = oneV vs ∧ Kept w w' (fun _ => False) ∧ RParts w' (fun b => O b ∨ b ∈ Fr) rt r fr vs Fr ∧ Fr.Nodup ∧ ∀ b ∈ Fr, w.heap.size ≤ b)
  | .io τ pt rt fr F => Entered P f ∧ ∀ (O : Nat → Prop) (w : World) (x0 : T τ) (x : T pt) (r : T τ × T rt) (cs0 : List Value) (F0 : List Nat) (args : List Value), F x0 x = some r →
      Own w τ x0 cs0 F0 → F0.Nodup → VArgs w (fun b => O b ∨ b ∈ F0) pt x args → (∀ b, O b → b < w.heap.size) →
      Calls P f (vof τ cs0 :: args).toArray w (Returns fun v w' => ∃ vs F1 Fr, v = oneV vs ∧ Kept w w' (· ∈ F0) ∧ Own w' τ r.1 cs0 F1 ∧ (∀ b ∈ F1, w.heap.size ≤ b ∨ b ∈ F0) ∧
        RParts w' (fun b => O b ∨ b ∈ F0 ∨ b ∈ F1 ∨ b ∈ Fr) rt r.2 fr vs Fr ∧ (F1 ++ Fr).Nodup ∧ ∀ b ∈ Fr, w.heap.size ≤ b ∨ b ∈ F0)

structure EnvOk (P : Program) (G : Env) : Prop extends EnvTy P G where
  fn : ∀ f sem, aget G.fn f = some sem → Sound P f sem

theorem viewT_toT {s : AS} : ∀ {d : D} {τ : Ty} {x : T τ}, d.hasOwn = false → viewT s d τ = some x → toT d τ = some x := by
  intro d
  induction d with
  | pr a b iha ihb =>
    intro τ x ho he
    simp only [D.hasOwn, Bool.or_eq_false_iff] at ho
    cases τ with
    | p t1 t2 =>
      simp only [viewT] at he
      split at he
      · rename_i u v hu hv
        simp only [toT, iha ho.1 hu, ihb ho.2 hv]
        exact he
      · simp at he
    | _ => simp [viewT] at he
  | own id => intro τ x ho; simp [D.hasOwn] at ho
  | t τ' y => intro τ x _ he; simpa [viewT, toT] using he
  | nil => intro τ x _ he; cases τ <;> simp_all [viewT, toT]
  | un => intro τ x _ he; cases τ <;> simp_all [viewT, toT]
  | _ => intro τ x _ he; cases τ <;> simp [viewT] at he

/-- repV of a value laid out -/
theorem repV_vof {w : World} {σ : Nat → Value} {O : Nat → Prop} {hp : Nat → Option Blk} {τ : Ty} {d : D} {cs : List Value} (hs : Shape τ d) (h : Rep w O hp σ d cs) : RepV w O hp σ d (vof τ cs) := by
  have ha := hs.isAgg
  have hl := Rep.length hs h
  unfold RepV vof
  rw [ha]
  cases hτ : τ.isAgg with
  | true => simp only [if_true]; exact ⟨cs.toArray, rfl, by simpa using h⟩
  | false =>
    simp only [Bool.false_eq_true, if_false]
    rw [Ty.size_one hτ] at hl
    obtain ⟨v, rfl⟩ := List.length_eq_one_iff.1 hl
    simpa using h

section
variable {P : Program} {Out : Type} {n0 : Nat} {A : Fx} {O0 : Nat → Prop} {w0 w w' : World} {s : AS} {σ σ' : Nat → Value} {φ φ' : Nat → List Nat} {a : Act}
variable {o : Oper} {Q : Exit → Act → World → Prop} {k : AS → Option Out} {out : Out} {d : D} {v : Value} {upd : List (Nat × Option Blk)} {dst : Option Tmp} {G : Env}

theorem vargs_ok (h : Conc n0 A O0 w0 s σ φ a w) {O : Nat → Prop} (hV : ∀ (d : D) (τ : Ty) (x : T τ) (cs : List Value), viewT s d τ = some x → Rep w (OO O0 s φ) s.heap σ d cs → (O = noO ∨ d.hasOwn = false) → View w O τ x cs) :
    ∀ {args : List Operand} {ds : D} {pt : Ty} {x : T pt}, evs s args = some ds → viewT s ds pt = some x → (O = noO ∨ ds.hasOwn = false) → VArgs w O pt x (args.map a.eval)
  | [], ds, pt, x, he, hv, _ => by
    simp only [evs, Option.some.injEq] at he
    subst he
    cases pt <;> simp [viewT] at hv
    trivial
  | y :: r, ds, pt, x, he, hv, ho => by
    simp only [evs] at he
    split at he
    · rename_i d1 d2 h1 h2
      simp only [Option.some.injEq] at he
      subst he
      cases pt with
      | p t1 t2 =>
        simp only [viewT] at hv
        split at hv
        · rename_i u1 u2 hu1 hu2
          simp only [Option.some.injEq] at hv
          subst hv
          have ho1 : O = noO ∨ d1.hasOwn = false := ho.imp id fun h => by simp only [D.hasOwn, Bool.or_eq_false_iff] at h; exact h.1
          have ho2 : O = noO ∨ d2.hasOwn = false := ho.imp id fun h => by simp only [D.hasOwn, Bool.or_eq_false_iff] at h; exact h.2
          obtain ⟨hr, hvv⟩ := rep_cells (viewT_shape hu1) (h.ev h1)
          exact ⟨⟨_, hvv, hV _ _ _ _ hu1 hr ho1⟩, vargs_ok h hV h2 hu2 ho2⟩
        · simp at hv
      | _ => simp [viewT] at hv
    · simp at he

/-- new rows, and old ones that have turned in place -/
theorem Conc.adopt (h : Conc n0 A O0 w0 s σ φ a w) (U : List (Nat × Option Blk)) (hU : (U.map (·.1)).Nodup)
    (hσ : ∀ id, id ∉ U.map (·.1) → σ' id = σ id ∧ φ' id = φ id)
    (hnew : ∀ p, p ∈ U → s.newOk p.1 = true ∨ (∃ blk blk', s.heap p.1 = some blk ∧ p.2 = some blk' ∧ blk.like blk' ∧ σ' p.1 = σ p.1))
    (hK : Kept w w' (fun b => ∃ p, p ∈ U ∧ ∃ blk, s.heap p.1 = some blk ∧ b ∈ φ p.1))
    (hblk : ∀ p, p ∈ U → ∃ e xs, p.2 = some (.row e true xs) ∧ Own w' (.sl e) xs [σ' p.1] (φ' p.1))
    (hnd : (blocks φ' (U.map (·.1))).Nodup)
    (hsub : ∀ b, b ∈ blocks φ' (U.map (·.1)) → w.heap.size ≤ b ∨ ∃ p, p ∈ U ∧ ∃ blk, s.heap p.1 = some blk ∧ b ∈ φ p.1) :
    Conc n0 A O0 w0 ⟨s.n, s.tm, U ++ s.hp⟩ σ' φ' a w' := by
  have hget : ∀ (U : List (Nat × Option Blk)) (id : Nat), id ∉ U.map (·.1) → aget (U ++ s.hp) id = aget s.hp id := by
    intro U id
    induction U with
    | nil => simp
    | cons p U ih =>
      intro hn
      simp only [List.map_cons, List.mem_cons, not_or] at hn
      rw [List.cons_append, aget_cons, if_neg (Ne.symm hn.1), ih hn.2]
  have hgetm : ∀ (U : List (Nat × Option Blk)), (U.map (·.1)).Nodup → ∀ p, p ∈ U → aget (U ++ s.hp) p.1 = some p.2 := by
    intro U
    induction U with
    | nil => simp
    | cons q U ih =>
      intro hn p hp
      simp only [List.map_cons, List.nodup_cons] at hn
      rw [List.cons_append, aget_cons]
      rcases List.mem_cons.1 hp with rfl | hp
      · rw [if_pos rfl]
      · rw [if_neg (fun e : q.1 = p.1 => hn.1 (by rw [e]; exact List.mem_map_of_mem hp)), ih hn.2 p hp]
  have hh1 : ∀ id, id ∉ U.map (·.1) → AS.heap ⟨s.n, s.tm, U ++ s.hp⟩ id = s.heap id := fun id hid => by simp [AS.heap, hget U id hid]
  have hh2 : ∀ p, p ∈ U → AS.heap ⟨s.n, s.tm, U ++ s.hp⟩ p.1 = p.2 := fun p hp => by simp [AS.heap, hgetm U hU p hp]
  have hmemb : ∀ id, id ∈ U.map (·.1) → ∃ p, p ∈ U ∧ p.1 = id := fun id hid => by
    obtain ⟨p, hp, he⟩ := List.mem_map.1 hid
    exact ⟨p, hp, he⟩
  refine h.trans (fun id => id ∈ U.map (·.1)) rfl rfl ?_ ?_ hK.size ?_ ?_ ?_ ?_ hK.os hK.tape hK.output ?_
  · intro id hid
    exact ⟨hh1 id hid, hσ id hid⟩
  · intro b hb hno
    refine hK.block b hb ?_
    rintro ⟨p, hp, blk, hl, hm⟩
    exact hno p.1 blk (List.mem_map_of_mem hp) hl hm
  · intro id blk' hid hl b hbm
    rcases hsub b (mem_blocks.2 ⟨id, hid, hbm⟩) with hb | ⟨p, hp, blk, hb, hm⟩
    · exact .inl hb
    · exact .inr ⟨p.1, blk, List.mem_map_of_mem hp, hb, hm⟩
  · intro id blk' hid hl hm
    obtain ⟨p, hp, rfl⟩ := hmemb id hid
    rw [hh2 p hp] at hl
    rcases hnew p hp with hn | ⟨blk, blk'', h1, h2, h3, h4⟩
    · simp only [AS.newOk, Bool.and_eq_true, Bool.not_eq_true'] at hn
      rw [hn.1] at hm; simp at hm
    · rw [h2] at hl
      simp only [Option.some.injEq] at hl
      subst hl
      exact ⟨blk, h1, h3, h4⟩
  · intro id blk' hid hl
    obtain ⟨p, hp, rfl⟩ := hmemb id hid
    rw [hh2 p hp] at hl
    obtain ⟨e, xs, he, hown⟩ := hblk p hp
    rw [he] at hl
    simp only [Option.some.injEq] at hl
    subst hl
    refine ⟨hown, ?_⟩
    have : (φ' p.1).Sublist (blocks φ' (U.map (·.1))) := by
      unfold blocks
      exact List.sublist_flatten_of_mem (List.mem_map_of_mem (List.mem_map_of_mem hp))
    exact this.nodup hnd
  · intro id id' b1 b2 hid hid' hne _ _ b hb hb'
    have : ∀ (L : List Nat), (blocks φ' L).Nodup → id ∈ L → id' ∈ L → False := by
      intro L
      induction L with
      | nil => simp
      | cons x L ih =>
        intro hn hi hi'
        have hx : blocks φ' (x :: L) = φ' x ++ blocks φ' L := by simp [blocks]
        rw [hx, List.nodup_append] at hn
        rcases List.mem_cons.1 hi with e1 | q1
        · rcases List.mem_cons.1 hi' with e2 | q2
          · exact hne (e1.trans e2.symm)
          · exact hn.2.2 b (e1 ▸ hb) b (mem_blocks.2 ⟨id', q2, hb'⟩) rfl
        · rcases List.mem_cons.1 hi' with e2 | q2
          · exact hn.2.2 b (e2 ▸ hb') b (mem_blocks.2 ⟨id, q1, hb⟩) rfl
          · exact ih hn.2.1 q1 q2
    exact this _ hnd hid hid'
  · intro id hid
    obtain ⟨p, hp, rfl⟩ := hmemb id hid
    rcases hnew p hp with hn | ⟨_, _, _, _, _, h4⟩
    · exact .inr (newOk_lt hn)
    · exact .inl h4

/-- a fresh datum's slices get ids -/
theorem openD_ok : ∀ {τ : Ty} {x : T τ} {n m : Nat} {d : D} {l : List (Nat × Option Blk)} {cs : List Value} {F : List Nat}, openD τ x n = (d, l, m) → Own w' τ x cs F →
    n ≤ m ∧ (∀ p, p ∈ l → n ≤ p.1 ∧ p.1 < m) ∧ Shape τ d ∧ ∃ (ψ : Nat → List Nat) (ν : Nat → Value), blocks ψ (l.map (·.1)) = F ∧ (∀ p, p ∈ l → ∃ e xs, p.2 = some (.row e true xs) ∧ Own w' (.sl e) xs [ν p.1] (ψ p.1)) ∧
      ∀ (w2 : World) (hp' : Nat → Option Blk) (σ' : Nat → Value) (O' : Nat → Prop), (∀ p, p ∈ l → σ' p.1 = ν p.1) → Rep w2 O' hp' σ' d cs
  | .i k, x, n, m, d, l, cs, F, he, h => by
    simp only [openD, Prod.mk.injEq] at he
    obtain ⟨rfl, rfl, rfl⟩ := he
    simp only [Own] at h
    exact ⟨Nat.le_refl _, by simp, rfl, fun _ => [], fun _ => undef, by simp [blocks, h.2], by simp, fun _ _ _ _ _ => h.1⟩
  | .b, x, n, m, d, l, cs, F, he, h => by
    simp only [openD, Prod.mk.injEq] at he
    obtain ⟨rfl, rfl, rfl⟩ := he
    simp only [Own] at h
    exact ⟨Nat.le_refl _, by simp, rfl, fun _ => [], fun _ => undef, by simp [blocks, h.2], by simp, fun _ _ _ _ _ => h.1⟩
  | .s, x, n, m, d, l, cs, F, he, h => by
    simp only [openD, Prod.mk.injEq] at he
    obtain ⟨rfl, rfl, rfl⟩ := he
    simp only [Own] at h
    exact ⟨Nat.le_refl _, by simp, rfl, fun _ => [], fun _ => undef, by simp [blocks, h.2], by simp, fun _ _ _ _ _ => h.1⟩
  | .u, x, n, m, d, l, cs, F, he, h => by
    simp only [openD, Prod.mk.injEq] at he
    obtain ⟨rfl, rfl, rfl⟩ := he
    simp only [Own] at h
    exact ⟨Nat.le_refl _, by simp, trivial, fun _ => [], fun _ => undef, by simp [blocks, h.2], by simp, fun _ _ _ _ _ => h.1⟩
  | .sl e, x, n, m, d, l, cs, F, he, h => by
    simp only [openD, Prod.mk.injEq] at he
    obtain ⟨rfl, rfl, rfl⟩ := he
    have hlen := Own.length h
    simp only [Ty.size] at hlen
    obtain ⟨v, rfl⟩ := List.length_eq_one_iff.1 hlen
    refine ⟨by omega, by simp, trivial, fun _ => F, fun _ => v, by simp [blocks], ?_, ?_⟩
    · intro p hp
      simp only [List.mem_singleton] at hp
      subst hp
      exact ⟨e, x, rfl, h⟩
    · intro w2 hp' σ' O' hσ
      refine ⟨v, rfl, h.one v (by simp), fun _ _ _ _ => ?_⟩
      exact (hσ (n, some (.row e true x)) (by simp)).symm
  | .p t1 t2, x, n, m, d, l, cs, F, he, h => by
    obtain ⟨c1, c2, F1, F2, hc, hF, h1, h2⟩ := h
    simp only [openD] at he
    rcases ho1 : openD t1 x.1 n with ⟨d1, l1, m1⟩
    rcases ho2 : openD t2 x.2 m1 with ⟨d2, l2, m2⟩
    rw [ho1] at he
    simp only at he
    rw [ho2] at he
    simp only [Prod.mk.injEq] at he
    obtain ⟨rfl, rfl, rfl⟩ := he
    obtain ⟨a1, a2, a3, ψ1, ν1, a4, a5, a6⟩ := openD_ok ho1 h1
    obtain ⟨b1, b2, b3, ψ2, ν2, b4, b5, b6⟩ := openD_ok ho2 h2
    refine ⟨by omega, ?_, a3.mkpr b3, fun id => if id < m1 then ψ1 id else ψ2 id, fun id => if id < m1 then ν1 id else ν2 id, ?_, ?_, ?_⟩
    · intro p hp
      rcases List.mem_append.1 hp with hp | hp
      · have := a2 p hp; omega
      · have := b2 p hp; omega
    · rw [List.map_append, blocks_append, hF, ← a4, ← b4]
      congr 1
      · unfold blocks
        congr 1
        apply List.map_congr_left
        intro id hid
        obtain ⟨p, hp, rfl⟩ := List.mem_map.1 hid
        rw [if_pos (a2 p hp).2]
      · unfold blocks
        congr 1
        apply List.map_congr_left
        intro id hid
        obtain ⟨p, hp, rfl⟩ := List.mem_map.1 hid
        rw [if_neg (by have := b2 p hp; omega)]
    · intro p hp
      rcases List.mem_append.1 hp with hp | hp
      · have := (a2 p hp).2
        simp only [if_pos this]
        exact a5 p hp
      · have : ¬ p.1 < m1 := by have := b2 p hp; omega
        simp only [if_neg this]
        exact b5 p hp
    · intro w2 hp' σ' O' hσ
      rw [hc]
      refine Rep.mkpr (a6 w2 hp' σ' O' fun p hp => ?_) (b6 w2 hp' σ' O' fun p hp => ?_)
      · have h1 := hσ p (List.mem_append_left _ hp)
        simp only [if_pos (a2 p hp).2] at h1
        exact h1
      · have h1 := hσ p (List.mem_append_right _ hp)
        have h2 : ¬ p.1 < m1 := by have := b2 p hp; omega
        simp only [if_neg h2] at h1
        exact h1

theorem openR_ok {O' : Nat → Prop} : ∀ {rt : Ty} {r : T rt} {fr : List Bool} {n m : Nat} {d : D} {l : List (Nat × Option Blk)} {vs : List Value} {F : List Nat}, openR rt r fr n = some (d, l, m) → RParts w' O' rt r fr vs F →
    n ≤ m ∧ (∀ p, p ∈ l → n ≤ p.1 ∧ p.1 < m) ∧ ∃ (ψ : Nat → List Nat) (ν : Nat → Value), blocks ψ (l.map (·.1)) = F ∧ (∀ p, p ∈ l → ∃ e xs, p.2 = some (.row e true xs) ∧ Own w' (.sl e) xs [ν p.1] (ψ p.1)) ∧
      ∀ (hp' : Nat → Option Blk) (σ' : Nat → Value) (O'' : Nat → Prop), (∀ p, p ∈ l → σ' p.1 = ν p.1) → (∀ b, b < w'.heap.size → ¬ O' b → ¬ O'' b) → RepT w' O'' hp' σ' d vs
  | .u, r, [], n, m, d, l, vs, F, he, h => by
    simp only [openR, Option.some.injEq, Prod.mk.injEq] at he
    obtain ⟨rfl, rfl, rfl⟩ := he
    cases vs with
    | nil =>
      simp only [RParts] at h
      exact ⟨Nat.le_refl _, by simp, fun _ => [], fun _ => undef, by simp [blocks, h], by simp, fun _ _ _ _ _ => trivial⟩
    | cons a r => simp [RParts] at h
  | .p t1 t2, r, f :: fr, n, m, d, l, vs, F, he, h => by
    cases vs with
    | nil => simp [RParts] at h
    | cons v vs =>
      obtain ⟨cs, F1, F2, hv, hF, h1, h2⟩ := h
      simp only [openR] at he
      rcases ho1 : (bif f then openD t1 r.1 n else (.t t1 r.1, [], n)) with ⟨d1, l1, m1⟩
      rw [ho1] at he
      simp only at he
      split at he
      · rename_i d2 l2 m2 ho2
        simp only [Option.some.injEq, Prod.mk.injEq] at he
        obtain ⟨rfl, rfl, rfl⟩ := he
        obtain ⟨b1, b2, ψ2, ν2, b4, b5, b6⟩ := openR_ok ho2 h2
        have hA : n ≤ m1 ∧ (∀ p, p ∈ l1 → n ≤ p.1 ∧ p.1 < m1) ∧ Shape t1 d1 ∧ ∃ (ψ : Nat → List Nat) (ν : Nat → Value), blocks ψ (l1.map (·.1)) = F1 ∧ (∀ p, p ∈ l1 → ∃ e xs, p.2 = some (.row e true xs) ∧ Own w' (.sl e) xs [ν p.1] (ψ p.1)) ∧
            ∀ (hp' : Nat → Option Blk) (σ' : Nat → Value) (O'' : Nat → Prop), (∀ p, p ∈ l1 → σ' p.1 = ν p.1) → (∀ b, b < w'.heap.size → ¬ O' b → ¬ O'' b) → Rep w' O'' hp' σ' d1 cs := by
          cases f with
          | true =>
            simp only [cond_true] at ho1
            simp only [if_true] at h1
            obtain ⟨a1, a2, a3, ψ1, ν1, a4, a5, a6⟩ := openD_ok ho1 h1
            exact ⟨a1, a2, a3, ψ1, ν1, a4, a5, fun hp' σ' O'' hσ _ => a6 w' hp' σ' O'' hσ⟩
          | false =>
            simp only [cond_false, Prod.mk.injEq] at ho1
            obtain ⟨rfl, rfl, rfl⟩ := ho1
            simp only [Bool.false_eq_true, if_false] at h1
            exact ⟨Nat.le_refl _, by simp, by simp [Shape], fun _ => [], fun _ => undef, by simp [blocks, h1.2], by simp, fun hp' σ' O'' _ hO => View.stable (fun _ _ _ => rfl) hO h1.1⟩
        obtain ⟨a1, a2, a3, ψ1, ν1, a4, a5, a6⟩ := hA
        refine ⟨by omega, ?_, fun id => if id < m1 then ψ1 id else ψ2 id, fun id => if id < m1 then ν1 id else ν2 id, ?_, ?_, ?_⟩
        · intro p hp
          rcases List.mem_append.1 hp with hp | hp
          · have := a2 p hp; omega
          · have := b2 p hp; omega
        · rw [List.map_append, blocks_append, hF, ← a4, ← b4]
          congr 1
          · unfold blocks
            congr 1
            apply List.map_congr_left
            intro id hid
            obtain ⟨p, hp, rfl⟩ := List.mem_map.1 hid
            rw [if_pos (a2 p hp).2]
          · unfold blocks
            congr 1
            apply List.map_congr_left
            intro id hid
            obtain ⟨p, hp, rfl⟩ := List.mem_map.1 hid
            rw [if_neg (by have := b2 p hp; omega)]
        · intro p hp
          rcases List.mem_append.1 hp with hp | hp
          · have := (a2 p hp).2
            simp only [if_pos this]
            exact a5 p hp
          · have : ¬ p.1 < m1 := by have := b2 p hp; omega
            simp only [if_neg this]
            exact b5 p hp
        · intro hp' σ' O'' hσ hO
          rw [hv]
          refine ⟨repV_vof a3 (a6 hp' σ' O'' (fun p hp => ?_) hO), b6 hp' σ' O'' (fun p hp => ?_) hO⟩
          · have h1 := hσ p (List.mem_append_left _ hp)
            simp only [if_pos (a2 p hp).2] at h1
            exact h1
          · have h1 := hσ p (List.mem_append_right _ hp)
            have h2 : ¬ p.1 < m1 := by have := b2 p hp; omega
            simp only [if_neg h2] at h1
            exact h1
      · simp at he
  | .u, _, _ :: _, _, _, _, _, _, _, he, _ => by simp [openR] at he
  | .p _ _, _, [], _, _, _, _, _, _, he, _ => by simp [openR] at he
  | .i _, _, fr, _, _, _, _, _, _, he, _ => by cases fr <;> simp [openR] at he
  | .b, _, fr, _, _, _, _, _, _, he, _ => by cases fr <;> simp [openR] at he
  | .s, _, fr, _, _, _, _, _, _, he, _ => by cases fr <;> simp [openR] at he
  | .sl _, _, fr, _, _, _, _, _, _, he, _ => by cases fr <;> simp [openR] at he

theorem resD_ok {O : Nat → Prop} {hp : Nat → Option Blk} {d d' : D} {vs : List Value} (he : resD d = some d') (h : RepT w O hp σ d vs) : RepU w O hp σ d' (oneV vs) := by
  unfold resD at he
  split at he
  · rename_i a
    simp only [Option.some.injEq] at he
    subst he
    cases vs with
    | nil => simp [RepT] at h
    | cons v vs =>
      cases vs with
      | nil => exact repU_of_repV h.1
      | cons u vs => simp [RepT] at h
  · rename_i hne
    simp only [Option.some.injEq] at he
    subst he
    refine ⟨vs.toArray, ?_, by simpa using h⟩
    cases vs with
    | nil => rfl
    | cons v vs =>
      cases vs with
      | nil =>
        exfalso
        cases d with
        | pr a b =>
          have hb := h.2
          cases b with
          | un => exact hne a rfl
          | _ => simp [RepT] at hb
        | _ => simp [RepT] at h
      | cons u vs => rfl

theorem run_enter {f : FuncId} {args : Array Operand} {ts : Array TypeId} (ho : o.op = .call ⟨.value (.func f), args, ts⟩) (hf : Entered P f) :
    (execOp a.eval o).run P w = .ok (.enter f (args.toList.map a.eval).toArray) w := by
  obtain ⟨fn, h1, h2, h3⟩ := hf
  have : (args.toList.map a.eval).toArray = args.map a.eval := by rw [← Array.toList_map, Array.toArray_toList]
  have h2' : ¬ fn.name = "runtime.NumGoroutine" := by simpa using h2
  have h3' : ¬ fn.body = none := by
    intro e
    rw [e] at h3
    simp at h3
  rw [this]
  simp [execOp, ho, resolve, Deferred.ofValue, invoke, callFunc, Act.eval, run_program, h1, h2', h3']

theorem freshIds_ok {u : List (Nat × Option Blk)} (h : freshIds s u = true) : (∀ p, p ∈ u → s.newOk p.1 = true) ∧ (u.map (·.1)).Nodup := by
  simp only [freshIds, Bool.and_eq_true, List.all_eq_true] at h
  exact ⟨fun p hp => h.1 p hp, nodupB_ok h.2⟩

end
end KF

namespace KF
open Go

theorem RParts.all {w : World} {O O' : Nat → Prop} : ∀ {rt : Ty} {r : T rt} {fr : List Bool} {vs : List Value} {F : List Nat}, fr.all id = true → RParts w O rt r fr vs F → RParts w O' rt r fr vs F
  | .u, _, [], [], _, _, h => h
  | .p x y, r, f :: fr, v :: vs, F, ha, h => by
    simp only [List.all_cons, id, Bool.and_eq_true] at ha
    obtain ⟨cs, F1, F2, hv, hF, h1, h2⟩ := h
    have hf : f = true := ha.1
    subst hf
    exact ⟨cs, F1, F2, hv, hF, h1, RParts.all (O := O) ha.2 h2⟩
  | .u, _, _ :: _, _, _, _, h => by simp [RParts] at h
  | .u, _, [], _ :: _, _, _, h => by simp [RParts] at h
  | .p _ _, _, [], _, _, _, h => by simp [RParts] at h
  | .p _ _, _, _ :: _, [], _, _, h => by simp [RParts] at h
  | .i _, _, fr, vs, _, _, h => by simp [RParts] at h
  | .b, _, fr, vs, _, _, h => by simp [RParts] at h
  | .s, _, fr, vs, _, _, h => by simp [RParts] at h
  | .sl _, _, fr, vs, _, _, h => by simp [RParts] at h

theorem own_len {w w' : World} {e : Ty} {xs ys : List (T e)} {v : Value} {F F' : List Nat} (h : Own w (.sl e) xs [v] F) (h' : Own w' (.sl e) ys [v] F') : List.length xs = List.length ys := by
  obtain ⟨_, ⟨h1, h2, _⟩ | ⟨_, _, _, _, _, _, h1, _⟩⟩ := h <;> obtain ⟨_, ⟨g1, g2, _⟩ | ⟨_, _, _, _, _, _, g1, _⟩⟩ := h'
  · rw [h2, g2]
  · rw [h1] at g1; simp at g1
  · rw [h1] at g1; simp at g1
  · rw [h1] at g1; simp at g1; exact g1.2.1

section
variable {P : Program} {Out : Type} {n0 : Nat} {A : Fx} {O0 : Nat → Prop} {w0 w w' : World} {s : AS} {σ σ' : Nat → Value} {φ φ' : Nat → List Nat} {a : Act}
variable {o : Oper} {Q : Exit → Act → World → Prop} {k : AS → Option Out} {out : Out} {d : D} {v : Value} {upd : List (Nat × Option Blk)} {dst : Option Tmp} {G : Env}

theorem ev_ment {x : Operand} (hx : s.ev x = some d) {j : Nat} (hj : d.ment j = true) : s.ment j = true := by
  cases x with
  | tmp q => exact AS.ment_tm hx hj
  | const c =>
    exfalso
    simp only [AS.ev] at hx
    unfold constD at hx
    split at hx <;> simp at hx <;> subst hx <;> simp [D.ment] at hj
  | _ => simp [AS.ev] at hx

theorem ownT_ment : ∀ {d : D} {τ : Ty} {x : T τ} {l : List Nat}, ownT s d τ = some (x, l) → ∀ j, j ∈ l → d.ment j = true := by
  intro d
  induction d with
  | t τ' y =>
    intro τ x l he j hj
    simp only [ownT] at he
    cases hf : τ'.flat with
    | false => rw [hf] at he; simp at he
    | true =>
      rw [hf] at he
      simp only [cond_true] at he
      split at he
      · simp only [Option.some.injEq, Prod.mk.injEq] at he
        rw [← he.2] at hj
        simp at hj
      · simp at he
  | nil => intro τ x l he j hj; cases τ <;> simp [ownT] at he; rw [he.2] at hj; simp at hj
  | own id =>
    intro τ x l he j hj
    cases τ with
    | sl e =>
      simp only [ownT] at he
      split at he
      · rename_i e' dp xs hb
        cases hc : (dp || e'.flat) with
        | false => rw [hc] at he; simp at he
        | true =>
          rw [hc] at he
          simp only [cond_true] at he
          split at he
          · simp only [Option.some.injEq, Prod.mk.injEq] at he
            rw [← he.2] at hj
            simp at hj
            subst hj
            simp [D.ment]
          · simp at he
      · simp at he
    | _ => simp [ownT] at he
  | pr a b iha ihb =>
    intro τ x l he j hj
    cases τ with
    | p t1 t2 =>
      simp only [ownT] at he
      split at he
      · rename_i u l1 v l2 h1 h2
        simp only [Option.some.injEq, Prod.mk.injEq] at he
        rw [← he.2] at hj
        simp only [D.ment, Bool.or_eq_true]
        rcases List.mem_append.1 hj with hj | hj
        · exact .inl (iha h1 j hj)
        · exact .inr (ihb h2 j hj)
      · simp at he
    | _ => simp [ownT] at he
  | un => intro τ x l he j hj; cases τ <;> simp [ownT] at he; rw [he] at hj; simp at hj
  | _ => intro τ x l he; cases τ <;> simp [ownT] at he

/-- a handed-over datum's rows, as they come back -/
theorem updD_ok (h : Conc n0 A O0 w0 s σ φ a w) : ∀ {d : D} {τ : Ty} {x x' : T τ} {l : List Nat} {cs : List Value} {F : List Nat}, ownT s d τ = some (x, l) → l.Nodup → Rep w (OO O0 s φ) s.heap σ d cs → Own w' τ x' cs F →
    (updD d τ x').map (·.1) = l ∧ ∃ ψ : Nat → List Nat, blocks ψ l = F ∧ ∀ p, p ∈ updD d τ x' → ∃ e xs blk, p.2 = some (.row e true xs) ∧ Own w' (.sl e) xs [σ p.1] (ψ p.1) ∧ s.heap p.1 = some blk ∧ blk.like (.row e true xs) := by
  intro d
  induction d with
  | t τ' y =>
    intro τ x x' l cs F he hn hr ho
    simp only [ownT] at he
    cases hf : τ'.flat with
    | false => rw [hf] at he; simp at he
    | true =>
      rw [hf] at he
      simp only [cond_true] at he
      split at he
      · rename_i q hq
        subst q
        simp only [Option.some.injEq, Prod.mk.injEq] at he
        obtain ⟨rfl, rfl⟩ := he
        have hF := own_flat hf ho
        have hup : updD (.t τ' y) τ' x' = [] := by cases τ' <;> rfl
        rw [hup]
        exact ⟨rfl, fun _ => [], by simp [blocks, hF], by simp⟩
      · simp at he
  | nil =>
    intro τ x x' l cs F he hn hr ho
    cases τ with
    | sl e =>
      simp only [ownT, Option.some.injEq, Prod.mk.injEq] at he
      obtain ⟨rfl, rfl⟩ := he
      simp only [Rep] at hr
      subst hr
      refine ⟨rfl, fun _ => [], ?_, by simp [updD]⟩
      obtain ⟨_, ⟨_, _, h3⟩ | ⟨_, _, _, _, _, _, h1, _⟩⟩ := ho
      · simp [blocks, h3]
      · simp at h1
    | _ => simp [ownT] at he
  | own id =>
    intro τ x x' l cs F he hn hr ho
    cases τ with
    | sl e =>
      simp only [ownT] at he
      split at he
      · rename_i e' dp xs hb
        cases hc : (dp || e'.flat) with
        | false => rw [hc] at he; simp at he
        | true =>
          rw [hc] at he
          simp only [cond_true] at he
          split at he
          · rename_i q hq
            subst q
            simp only [Option.some.injEq, Prod.mk.injEq] at he
            obtain ⟨rfl, rfl⟩ := he
            obtain ⟨u, hcs, _, hu⟩ := hr
            have hu' := hu _ _ hb rfl
            subst hu'
            subst hcs
            have hold := row_own (h.hp id _ hb) (by simpa using hc)
            refine ⟨rfl, fun _ => F, by simp [blocks], ?_⟩
            intro p hp
            simp only [updD, List.mem_singleton] at hp
            subst hp
            exact ⟨e', x', _, rfl, ho, hb, rfl, own_len hold ho⟩
          · simp at he
      · simp at he
    | _ => simp [ownT] at he
  | pr d1 d2 iha ihb =>
    intro τ x x' l cs F he hn hr ho
    cases τ with
    | p t1 t2 =>
      simp only [ownT] at he
      split at he
      · rename_i u l1 v l2 h1 h2
        simp only [Option.some.injEq, Prod.mk.injEq] at he
        obtain ⟨rfl, rfl⟩ := he
        obtain ⟨c1, c2, hc, r1, r2⟩ := hr
        obtain ⟨e1, e2, F1, F2, hc', hF, o1, o2⟩ := ho
        have hlen : c1.length = e1.length := by
          rw [Rep.length (ownT_shape h1) r1, Own.length o1]
        rw [hc] at hc'
        obtain ⟨q1, q2⟩ := List.append_inj hc' hlen
        subst q1; subst q2
        rw [List.nodup_append] at hn
        obtain ⟨i1, ψ1, i2, i3⟩ := iha h1 hn.1 r1 o1
        obtain ⟨j1, ψ2, j2, j3⟩ := ihb h2 hn.2.1 r2 o2
        have hnot : ∀ j, j ∈ l2 → j ∉ l1 := fun j hj hj' => hn.2.2 j hj' j hj rfl
        refine ⟨by simp [updD, i1, j1], fun j => if j ∈ l1 then ψ1 j else ψ2 j, ?_, ?_⟩
        · rw [blocks_append, hF, ← i2, ← j2]
          congr 1
          · unfold blocks
            congr 1
            exact List.map_congr_left fun j hj => by rw [if_pos hj]
          · unfold blocks
            congr 1
            exact List.map_congr_left fun j hj => by rw [if_neg (hnot j hj)]
        · intro p hp
          simp only [updD] at hp
          rcases List.mem_append.1 hp with hp | hp
          · have hm : p.1 ∈ l1 := by rw [← i1]; exact List.mem_map_of_mem hp
            simp only [if_pos hm]
            exact i3 p hp
          · have hm : p.1 ∈ l2 := by rw [← j1]; exact List.mem_map_of_mem hp
            simp only [if_neg (hnot _ hm)]
            exact j3 p hp
      · simp at he
    | _ => simp [ownT] at he
  | un =>
    intro τ x x' l cs F he hn hr ho
    cases τ with
    | u =>
      simp only [ownT, Option.some.injEq, Prod.mk.injEq] at he
      obtain ⟨_, rfl⟩ := he
      simp only [Own] at ho
      exact ⟨rfl, fun _ => [], by simp [blocks, ho.2], by simp [updD]⟩
    | _ => simp [ownT] at he
  | _ => intro τ x x' l cs F he; cases τ <;> simp [ownT] at he

theorem blocks_congr {l : List Nat} (h : ∀ j, j ∈ l → φ j = φ' j) : blocks φ l = blocks φ' l := by
  unfold blocks
  congr 1
  exact List.map_congr_left h

/-- behind a call -/
theorem after_call (h : Conc n0 A O0 w0 s σ φ a w) {l : List Nat} {V : List (Nat × Option Blk)} (hV : V.map (·.1) = l) (hl : l.Nodup) (hlm : ∀ j, j ∈ l → s.ment j = true) {ψ0 : Nat → List Nat} {F1 : List Nat}
    (hb0 : blocks ψ0 l = F1) (hVp : ∀ p, p ∈ V → ∃ e xs blk, p.2 = some (.row e true xs) ∧ Own w' (.sl e) xs [σ p.1] (ψ0 p.1) ∧ s.heap p.1 = some blk ∧ blk.like (.row e true xs))
    (hK : Kept w w' (· ∈ blocks φ l)) (hF1 : ∀ b, b ∈ F1 → w.heap.size ≤ b ∨ b ∈ blocks φ l) {rt : Ty} {r : T rt} {fr : List Bool} {n m : Nat} {d d' : D} {u : List (Nat × Option Blk)} {vs : List Value} {Fr : List Nat}
    (hop : openR rt r fr n = some (d, u, m)) (hfi : freshIds s u = true) (hR : RParts w' (fun b => OO O0 s φ b ∨ b ∈ F1 ∨ b ∈ Fr) rt r fr vs Fr) (hnd : (F1 ++ Fr).Nodup) (hFr : ∀ b, b ∈ Fr → w.heap.size ≤ b ∨ b ∈ blocks φ l)
    (hres : resD d = some d') (he : fin s dst d' (u ++ V) k = some out) : Good n0 A O0 w0 k out (a.put dst (oneV vs)) w' := by
  obtain ⟨hnew, hun⟩ := freshIds_ok hfi
  obtain ⟨_, _, ψ, ν, hb1, hup, hrep⟩ := openR_ok hop hR
  have hul : ∀ j, j ∈ u.map (·.1) → j ∉ l := by
    intro j hj hj'
    obtain ⟨p, hp, rfl⟩ := List.mem_map.1 hj
    have h1 := hnew p hp
    simp only [AS.newOk, Bool.and_eq_true, Bool.not_eq_true'] at h1
    rw [hlm _ hj'] at h1
    simp at h1
  let σ' : Nat → Value := fun j => if j ∈ u.map (·.1) then ν j else σ j
  let φ' : Nat → List Nat := fun j => if j ∈ u.map (·.1) then ψ j else if j ∈ l then ψ0 j else φ j
  have hσu : ∀ p, p ∈ u → σ' p.1 = ν p.1 := fun p hp => if_pos (List.mem_map_of_mem hp)
  have hφu : ∀ j, j ∈ u.map (·.1) → φ' j = ψ j := fun j hj => if_pos hj
  have hφl : ∀ j, j ∈ l → φ' j = ψ0 j := fun j hj => by
    have : j ∉ u.map (·.1) := fun hj' => hul j hj' hj
    show (if j ∈ u.map (·.1) then ψ j else if j ∈ l then ψ0 j else φ j) = ψ0 j
    rw [if_neg this, if_pos hj]
  have hbl : blocks φ' ((u ++ V).map (·.1)) = Fr ++ F1 := by
    rw [List.map_append, blocks_append, hV, ← hb1, ← hb0, blocks_congr hφu, blocks_congr hφl]
  have hc : Conc n0 A O0 w0 ⟨s.n, s.tm, (u ++ V) ++ s.hp⟩ σ' φ' a w' := by
    refine h.adopt (u ++ V) ?_ ?_ ?_ ⟨hK.size, fun b hb hno => hK.block b hb fun hm => hno ?_, hK.os, hK.tape, hK.output⟩ ?_ ?_ ?_
    · rw [List.map_append, hV, List.nodup_append]
      exact ⟨hun, hl, fun x hx y hy e => hul x hx (e ▸ hy)⟩
    · intro j hj
      rw [List.map_append, hV, List.mem_append, not_or] at hj
      exact ⟨if_neg hj.1, (if_neg hj.1).trans (if_neg hj.2)⟩
    · intro p hp
      rcases List.mem_append.1 hp with hp | hp
      · exact .inl (hnew p hp)
      · obtain ⟨e, xs, blk, h1, h2, h3, h4⟩ := hVp p hp
        have hpl : p.1 ∈ l := by rw [← hV]; exact List.mem_map_of_mem hp
        exact .inr ⟨blk, _, h3, h1, h4, if_neg fun hj => hul _ hj hpl⟩
    · obtain ⟨j, hj, hm'⟩ := mem_blocks.1 hm
      rw [← hV] at hj
      obtain ⟨p, hp, rfl⟩ := List.mem_map.1 hj
      obtain ⟨e, xs, blk, h1, h2, h3, h4⟩ := hVp p hp
      exact ⟨p, List.mem_append_right _ hp, blk, h3, hm'⟩
    · intro p hp
      rcases List.mem_append.1 hp with hp | hp
      · obtain ⟨e, xs, h1, h2⟩ := hup p hp
        refine ⟨e, xs, h1, ?_⟩
        rw [hσu p hp, hφu _ (List.mem_map_of_mem hp)]
        exact h2
      · obtain ⟨e, xs, blk, h1, h2, h3, h4⟩ := hVp p hp
        have hpl : p.1 ∈ l := by rw [← hV]; exact List.mem_map_of_mem hp
        refine ⟨e, xs, h1, ?_⟩
        have : σ' p.1 = σ p.1 := if_neg fun hj => hul _ hj hpl
        rw [this, hφl _ hpl]
        exact h2
    · rw [hbl]
      exact (List.perm_append_comm.nodup_iff).1 hnd
    · intro b hb
      rw [hbl] at hb
      have hb2 : w.heap.size ≤ b ∨ b ∈ blocks φ l := by
        rcases List.mem_append.1 hb with hb | hb
        · exact hFr b hb
        · exact hF1 b hb
      rcases hb2 with hb | hb
      · exact .inl hb
      · obtain ⟨j, hj, hm'⟩ := mem_blocks.1 hb
        rw [← hV] at hj
        obtain ⟨p, hp, rfl⟩ := List.mem_map.1 hj
        obtain ⟨e, xs, blk, h1, h2, h3, h4⟩ := hVp p hp
        exact .inr ⟨p, List.mem_append_right _ hp, blk, h3, hm'⟩
  refine fin_good rfl hc ?_ he
  refine resD_ok hres (hrep _ _ _ hσu ?_)
  intro b hb hno hO
  apply hno
  rcases hO with hO | ⟨j, blk, hl', hm⟩
  · exact .inl (.inl hO)
  · by_cases hju : j ∈ u.map (·.1)
    · rw [hφu j hju] at hm
      exact .inr (.inr (by rw [← hb1]; exact mem_blocks.2 ⟨j, hju, hm⟩))
    · by_cases hjl : j ∈ l
      · rw [hφl j hjl] at hm
        exact .inr (.inl (by rw [← hb0]; exact mem_blocks.2 ⟨j, hjl, hm⟩))
      · have hφ : φ' j = φ j := (if_neg hju).trans (if_neg hjl)
        rw [hφ] at hm
        have hne : ∀ (U : List (Nat × Option Blk)), j ∉ U.map (·.1) → aget (U ++ s.hp) j = aget s.hp j := by
          intro U
          induction U with
          | nil => simp
          | cons p U ih =>
            intro hn
            simp only [List.map_cons, List.mem_cons, not_or] at hn
            rw [List.cons_append, aget_cons, if_neg (Ne.symm hn.1), ih hn.2]
        have hjUV : j ∉ (u ++ V).map (·.1) := by
          rw [List.map_append, hV, List.mem_append, not_or]; exact ⟨hju, hjl⟩
        have : s.heap j = some blk := by
          have h1 := hl'
          simp only [AS.heap] at h1 ⊢
          rw [hne _ hjUV] at h1
          exact h1
        exact .inl (.inr ⟨j, blk, this, hm⟩)

theorem wp_enter {f : FuncId} {args : List Value} (hrun : (execOp a.eval o).run P w = .ok (.enter f args.toArray) w) {R : Value → World → Prop} (hc : Calls P f args.toArray w (Returns R))
    (hg : ∀ v w', R v w' → Good n0 A O0 w0 k out (a.put o.dst v) w') : o.wp P a w (Good n0 A O0 w0 k out) Q := by
  unfold Oper.wp
  rw [hrun, Oper.upon_enter]
  refine hc.mono fun e w' hR => ?_
  cases e with
  | returned v => exact hg v w' hR
  | panicked chain => exact hR.elim
  | outgrown => exact hR.elim

theorem op_call (hG : EnvOk P G) (h : Conc n0 A O0 w0 s σ φ a w) {f : FuncId} {args : Array Operand} {ts : Array TypeId} (ho : o.op = .call ⟨.value (.func f), args, ts⟩)
    (he : aop G s o k = some out) : o.wp P a w (Good n0 A O0 w0 k out) Q := by
  simp only [aop, aopK, ho] at he
  unfold aCallK at he
  split at he
  · -- read only
    rename_i pt rt fr F hfn
    obtain ⟨hE, hS⟩ := hG.fn _ _ hfn
    split at he
    · rename_i ds hds
      split at he
      · rename_i x hx
        cases hr : F x with
        | none => simp [hr] at he
        | some r =>
          simp only [hr, Option.bind_some] at he
          split at he
          · rename_i d u m hop
            split at he
            · rename_i d' hres
              cases hc : (Nat.ble m (100064 + 64 * o.dst.getD 0) && freshIds s u && (!ds.hasOwn || fr.all id)) with
              | false => rw [hc] at he; simp at he
              | true =>
                rw [hc] at he
                simp only [cond_true] at he
                simp only [Bool.and_eq_true, Bool.or_eq_true, Bool.not_eq_true'] at hc
                obtain ⟨⟨_, hfi⟩, hno⟩ := hc
                have key : ∃ O : Nat → Prop, (∀ b, O b → b < w.heap.size) ∧ VArgs w O pt x (args.toList.map a.eval) ∧
                    ∀ (w' : World) (vs : List Value) (Fr : List Nat), RParts w' (fun b => O b ∨ b ∈ Fr) rt r fr vs Fr → RParts w' (fun b => OO O0 s φ b ∨ b ∈ ([] : List Nat) ∨ b ∈ Fr) rt r fr vs Fr := by
                  rcases hno with hno | hno
                  · refine ⟨OO O0 s φ, fun b hb => h.OO_lt hb, vargs_ok h (fun d τ x cs he hr ho => ?_) hds hx (.inr hno), fun w' vs Fr hR => ?_⟩
                    · rcases ho with ho | ho
                      · rw [ho]; exact viewT_noO h he hr
                      · exact (toT_view (viewT_toT ho he)).2 _ hr
                    · have : (fun b => OO O0 s φ b ∨ b ∈ ([] : List Nat) ∨ b ∈ Fr) = (fun b => OO O0 s φ b ∨ b ∈ Fr) := by
                        funext b; simp
                      rw [this]; exact hR
                  · exact ⟨noO, fun b hb => hb.elim, vargs_ok h (fun d τ x cs he hr _ => viewT_noO h he hr) hds hx (.inl rfl), fun w' vs Fr hR => hR.all hno⟩
                obtain ⟨O, hO1, hO2, hO3⟩ := key
                refine wp_enter (run_enter ho hE) (hS O w x r _ hr hO2 hO1) ?_
                rintro v w' ⟨vs, Fr, rfl, hK, hR, hFn, hFr⟩
                exact after_call (V := []) (l := []) (ψ0 := fun _ => []) (F1 := []) h rfl List.nodup_nil (by simp) (by simp [blocks]) (by simp) ⟨hK.size, fun b hb _ => hK.block b hb (fun h => h), hK.os, hK.tape, hK.output⟩ (by simp)
                  hop hfi (hO3 _ _ _ hR) (by simpa using hFn) (fun b hb => .inl (hFr b hb)) hres (by simpa using he)
            · simp at he
          · simp at he
      · simp at he
    · simp at he
  · -- one argument is handed over
    rename_i τ pt rt fr F hfn
    obtain ⟨hE, hS⟩ := hG.fn _ _ hfn
    split at he
    · rename_i a0 args' hargs
      split at he
      · rename_i d0 ds hd0 hds
        split at he
        · rename_i x0 l x hx0 hx
          cases hr : F x0 x with
          | none => simp [hr] at he
          | some r =>
            simp only [hr, Option.bind_some] at he
            split at he
            · rename_i d u m hop
              split at he
              · rename_i d' hres
                cases hc : (Nat.ble m (100064 + 64 * o.dst.getD 0) && freshIds s u && nodupB l && !ds.hasOwn) with
                | false => rw [hc] at he; simp at he
                | true =>
                  rw [hc] at he
                  simp only [cond_true] at he
                  simp only [Bool.and_eq_true, Bool.not_eq_true'] at hc
                  obtain ⟨⟨⟨_, hfi⟩, hnd⟩, hno⟩ := hc
                  have hnd := nodupB_ok hnd
                  obtain ⟨hrep, hval⟩ := rep_cells (ownT_shape hx0) (h.ev hd0)
                  obtain ⟨hown, hlive⟩ := ownT_ok h hx0 hrep
                  have hbn := blocks_nodup h hnd hlive
                  have hva : VArgs w (OO O0 s φ) pt x (args'.map a.eval) := by
                    refine vargs_ok h (fun d τ x cs he hr ho => ?_) hds hx (.inr hno)
                    rcases ho with ho | ho
                    · rw [ho]; exact viewT_noO h he hr
                    · exact (toT_view (viewT_toT ho he)).2 _ hr
                  have hsub : ∀ b, b ∈ blocks φ l → OO O0 s φ b := by
                    intro b hb
                    obtain ⟨j, hj, hm⟩ := mem_blocks.1 hb
                    obtain ⟨blk, hbj⟩ := hlive j hj
                    exact .inr ⟨j, blk, hbj, hm⟩
                  have hOO : (fun b => OO O0 s φ b ∨ b ∈ blocks φ l) = OO O0 s φ := by
                    funext b
                    exact propext ⟨fun h => h.elim id (hsub b), .inl⟩
                  have hrun := run_enter (a := a) (w := w) ho hE
                  rw [hargs, List.map_cons, hval] at hrun
                  refine wp_enter hrun (hS (OO O0 s φ) w x0 x r _ _ _ hr hown hbn (by rw [hOO]; exact hva) (fun b hb => h.OO_lt hb)) ?_
                  rintro v w' ⟨vs, F1, Fr, rfl, hK, hown', hF1, hR, hFn, hFr⟩
                  obtain ⟨g1, ψ, g2, g3⟩ := updD_ok h hx0 hnd hrep hown'
                  refine after_call (V := updD d0 τ r.1) (l := l) (ψ0 := ψ) (F1 := F1) h g1 hnd (fun j hj => ev_ment hd0 (ownT_ment hx0 j hj)) g2 g3 hK hF1 hop hfi ?_ hFn hFr hres he
                  have : (fun b => OO O0 s φ b ∨ b ∈ F1 ∨ b ∈ Fr) = (fun b => OO O0 s φ b ∨ b ∈ blocks φ l ∨ b ∈ F1 ∨ b ∈ Fr) := by
                    funext b
                    refine propext ⟨fun h => h.elim .inl fun h => .inr (.inr h), fun h => h.elim .inl fun h => h.elim (fun h => .inl (hsub b h)) .inr⟩
                  rw [this]
                  exact hR
              · simp at he
            · simp at he
        · simp at he
      · simp at he
    · simp at he
  · simp at he
end
end KF

namespace KF
open Go

theorem El.drop {w : World} {O : Nat → Prop} {dq : Bool} {e : Ty} {xs : List (T e)} {L : List Value} {Fs : List (List Nat)} (h : El w O dq e xs L Fs) {k : Nat} (hk : k ≤ List.length xs) :
    El w O dq e (List.drop k xs) (L.drop (k * e.size)) (Fs.drop k) := by
  have hl := h.len
  refine ⟨?_, ?_, ?_⟩
  · rw [List.length_drop, hl, List.length_drop, Nat.sub_mul]
  · rw [List.length_drop, List.length_drop, h.flen]
  · intro i hi
    have hi' : k + i < List.length xs := by
      have : i < List.length xs - k := by simpa using hi
      omega
    have := h.el (k + i) hi'
    have e1 : elt (L.drop (k * e.size)) i e.size = elt L (k + i) e.size := by
      unfold elt
      rw [List.drop_drop, Nat.add_mul]
    have e2 : List.get (List.drop k xs) ⟨i, hi⟩ = List.get xs ⟨k + i, hi'⟩ := by simp
    have e3 : (Fs.drop k).getD i [] = Fs.getD (k + i) [] := by simp [List.getD_eq_getElem?_getD]
    rw [e1, e2, e3]
    exact this

theorem El.upf {w : World} {O : Nat → Prop} {dq : Bool} {e : Ty} {xs : List (T e)} {L : List Value} {Fs : List (List Nat)} (h : El w O dq e xs L Fs) (hf : e.flat = true) : El w O true e xs L Fs := by
  refine ⟨h.len, h.flen, fun i hi => ?_⟩
  have := h.el i hi
  cases dq with
  | true => exact this
  | false =>
    simp only [Bool.false_eq_true, if_false] at this
    rw [if_pos rfl, this.2]
    exact this.1.flat hf

theorem El.flats {w : World} {O : Nat → Prop} {e : Ty} {xs : List (T e)} {L : List Value} {Fs : List (List Nat)} (h : El w O true e xs L Fs) (hf : e.flat = true) : Fs.flatten = [] :=
  flatten_nils fun i hi => by
    have := h.el i (by rw [← h.flen]; exact hi)
    rw [if_pos rfl] at this
    exact own_flat hf this

section
variable {P : Program} {Out : Type} {n0 : Nat} {A : Fx} {O0 : Nat → Prop} {w0 w w' : World} {s : AS} {σ σ' : Nat → Value} {φ φ' : Nat → List Nat} {a : Act}
variable {o : Oper} {Q : Exit → Act → World → Prop} {k : AS → Option Out} {out : Out} {d : D} {v : Value} {upd : List (Nat × Option Blk)} {dst : Option Tmp} {G : Env}

theorem seg_splice_start {cur : Array Value} {off n : Nat} {news : List Value} (h : off + n ≤ cur.size) (hn : news.length ≤ n) :
    seg (splice cur.toList off news).toArray off n = news ++ (seg cur off n).drop news.length := by
  have := splice_seg_same (cur := cur) (o := off) (n := n) (o' := 0) (ce := news) h (by omega)
  simp only [Nat.add_zero] at this
  rw [this]
  unfold splice
  simp

theorem run_copy (t tx ty et : TypeId) (i : TypeInfo) (ht : P.underlying t = some (.slice et)) (hi : P.info? et = some i) {b off n cap : Nat} {x : Value} {m : Nat} {news : List Value} (hs : Src P i.size tx x m news w)
    {cur : Array Value} {ct : TypeId} (hh : w.heap[b]? = some (.cells cur ct (0, 0))) (hm : m ≤ n) (hfit : off + news.length ≤ cur.size) :
    (Builtin.copy_ #[t, tx] ty #[.slice (some ⟨b, off, none⟩) n cap, x]).run P w = .ok (.int .i64 (m : Int)) (w.setRow b (splice cur.toList off news).toArray) := by
  have hst := run_storeCells_at P b off ct news 0 cur w hh (by simpa using hfit) hs.one
  simp only [Nat.add_zero] at hst
  have hmin : Nat.min m n = m := Nat.min_eq_left hm
  simp [Builtin.copy_, run_underlying ht, Go.sizeOf, typeInfo, hi, hs.len, hmin, hs.cells, hst, splice, goInt]

theorem op_copy (hG : EnvTy P G) (h : Conc n0 A O0 w0 s σ φ a w) {args : Array Operand} {ts : Array TypeId} (ho : o.op = .call ⟨.builtin .copy, args, ts⟩)
    (he : aop G s o k = some out) : o.wp P a w (Good n0 A O0 w0 k out) Q := by
  simp only [aop, aopK, ho] at he
  split at he
  · rename_i x y t tx hargs hts
    unfold aCopyK at he
    split at he
    · rename_i e id db hty hx hy
      split at he
      · rename_i e' dp xs hb
        split at he
        · rename_i q ys dq m hq hsrc
          obtain rfl := dec_eq hq
          cases hc : (e'.flat && slOrS (aget G.ty tx)) with
          | false => rw [hc] at he; simp at he
          | true =>
            rw [hc] at he
            simp only [cond_true] at he
            simp only [Bool.and_eq_true] at hc
            obtain ⟨hfl, hkx⟩ := hc
            cases hlim : Nat.ble (List.length ys) (List.length xs) with
            | false => rw [hlim] at he; simp at he
            | true =>
              rw [hlim] at he
              simp only [cond_true] at he
              have hlim := Nat.le_of_ble_eq_true hlim
              obtain ⟨et, hu, hte⟩ := Tok.sl (hG.ty _ _ hty)
              obtain ⟨i, hi, hsz, _, _⟩ := Tok.size hte
              have hk : (∃ e', P.underlying tx = some (.slice e')) ∨ P.underlying tx = some .string := by
                unfold slOrS at hkx
                split at hkx
                · rename_i e' hq
                  obtain ⟨et', hu', _⟩ := Tok.sl (hG.ty _ _ hq)
                  exact .inl ⟨et', hu'⟩
                · rename_i hq
                  exact .inr (Tok.s (hG.ty _ _ hq))
                · simp at hkx
              have hev := h.ev hx
              have hrow := row_heap h hb hev
              rw [hfl, Bool.or_true] at hrow
              obtain ⟨news, Gs, hS, hEl, hsub, hl2⟩ := srcD_ok (P := P) h hsrc (h.ev hy) hk
              have hEl := hEl.upf hfl
              have hnl := hS.newsLen
              have hS' : Src P i.size tx (a.eval y) (List.length ys) news w := by rw [hsz]; exact hS
              have hts' : ts = #[t, tx] := by
                apply Array.ext'
                rw [hts]
              have hal : List.length (List.append ys (List.drop (List.length ys) xs)) = List.length xs := by
                show (ys ++ List.drop ys.length xs).length = _
                rw [List.length_append, List.length_drop]; omega
              obtain ⟨hm, ⟨h1, h2, h3⟩ | ⟨bl, off, cap, cur, ct, Fs, h1, hh, h2, h3, h4, hF, hel⟩⟩ := hrow
              · subst h2
                have hy0 : ys = ([] : List (T e')) := List.eq_nil_of_length_eq_zero (by simpa using hlim)
                subst hy0
                have hc : Conc n0 A O0 w0 ⟨s.n, s.tm, (id, some (.row e' dp (List.append ([] : List (T e')) (List.drop 0 ([] : List (T e')))))) :: (drops [] ++ s.hp)⟩ σ (upd1 φ id (φ id)) a w := by
                  refine h.turn (blk0 := .row e' dp []) hb (by simp [Blk.like]) [] (by simp) (by simp) (φ id) (Nat.le_refl _) (fun _ _ _ _ => rfl) rfl rfl rfl (h.nodup _ _ hb) (fun c hc => .inr (.inl hc)) ?_
                  intro hp' O' hO hcp
                  have h0 := h.hp id _ hb
                  exact BlkRep.stable (fun _ _ _ => rfl) hO (fun _ _ => rfl) rfl (fun j _ => hcp j) h0
                refine wp_value (w' := w) (v := .int .i64 0) ?_ (fin_good rfl hc ?_ he)
                · rw [exec_builtin ho hargs, hts']
                  have := hS'.cells
                  simp only [List.length_nil] at this
                  simp [builtin, Builtin.copy_, h1, run_underlying hu, Go.sizeOf, typeInfo, hi, hS'.len, this, goInt]
                · exact repU_int.2 rfl
              · have hcap := Nat.mul_le_mul_right e'.size h2
                have hmul := Nat.mul_le_mul_right e'.size hlim
                have hr := run_copy (P := P) (w := w) (b := bl) (off := off) (n := List.length xs) (cap := cap) t tx o.type et i hu hi hS' hh hlim (by omega)
                have hF' : φ id = [bl] := by rw [hF, hel.flats hfl]
                have hoth : ∀ c, c ≠ bl → (w.setRow bl (splice cur.toList off news).toArray).heap[c]? = w.heap[c]? := fun c hc => setRow_other w bl c _ hc
                have hc : Conc n0 A O0 w0 ⟨s.n, s.tm, (id, some (.row e' dp (List.append ys (List.drop (List.length ys) xs)))) :: (drops [] ++ s.hp)⟩ σ (upd1 φ id (φ id)) a (w.setRow bl (splice cur.toList off news).toArray) := by
                  refine h.turn (blk0 := .row e' dp xs) hb (by simp only [Blk.like, true_and]; exact hal.symm) [] (by simp) (by simp) (φ id) (by simp) ?_ rfl rfl rfl (h.nodup _ _ hb) (fun c hc => .inr (.inl hc)) ?_
                  · intro c _ hc _
                    rw [hF'] at hc
                    exact hoth c (by simpa using hc)
                  · intro hp' O' hO hcp
                    have hnew : BlkRep (w.setRow bl (splice cur.toList off news).toArray) O' hp' σ id (.row e' true (List.append ys (List.drop (List.length ys) xs))) (φ id) := by
                      rw [rowV_iff]
                      have hσ : σ id = a.eval x := by
                        rw [repU_own] at hev
                        exact (hev.2 _ _ hb rfl).symm
                      rw [hσ, h1, hF']
                      have happ := hEl.append (hel.drop hlim)
                      have hcl : cur.toList.length = cur.size := Array.length_toList
                      refine ⟨by rw [hal]; exact hm, .inr ⟨bl, off, cap, _, ct, Gs ++ Fs.drop (List.length ys), by rw [hal], setRow_heap w bl cur _ ct (0, 0) hh, by rw [hal]; exact h2, h3, ?_, ?_, ?_⟩⟩
                      · rw [List.size_toArray, splice_length (by omega)]
                        omega
                      · rw [happ.flats hfl]
                      · rw [hal, seg_splice_start (by omega) (by omega), hnl]
                        refine happ.stable ?_ ?_ ?_
                        · intro b hb' _
                          refine hoth b fun e => hb' (.inr ⟨id, _, hb, ?_⟩)
                          rw [hF', e]; simp
                        · exact hO
                        · rw [happ.flats hfl]; simp
                    cases dp with
                    | true => exact hnew
                    | false => exact own_row hnew hfl
                refine wp_value (w' := w.setRow bl (splice cur.toList off news).toArray) (v := .int .i64 (List.length ys : Int)) ?_ (fin_good rfl hc ?_ he)
                · rw [exec_builtin ho hargs, hts']
                  simp [builtin, h1, hr]
                · exact repU_int.2 rfl
        · simp at he
      · simp at he
    · simp at he
  · simp at he
end
end KF

namespace KF
open Go

/-- a part of an owned datum, and what is about it -/
theorem own_at {w : World} : ∀ {e : Ty} {x : T e} {p : List Nat} {τ : Ty} {y : D} {y' : T τ} {cs : List Value} {F : List Nat}, tyAt e p = some τ → (D.t e x).at p = some y → toT y τ = some y' →
    Own w e x cs F → ∃ F1 Fy F3, F = F1 ++ Fy ++ F3 ∧ Own w τ y' ((cs.drop (offAt e p)).take τ.size) Fy ∧
      ∀ (w' : World) (c' : List Value), c'.length = τ.size → (∀ b, b ∈ F1 ++ F3 → w'.heap[b]? = w.heap[b]?) → ∀ (z : T τ) (Fz : List Nat) (x' : T e), Own w' τ z c' Fz → setT e x p τ z = some x' →
        Own w' e x' (splice cs (offAt e p) c') (F1 ++ Fz ++ F3)
  | e, x, [], τ, y, y', cs, F, ht, hy, hy', h => by
    simp only [tyAt, Option.some.injEq] at ht
    subst ht
    simp only [D.at, Option.some.injEq] at hy
    subst hy
    simp only [toT] at hy'
    split at hy'
    · simp only [Option.some.injEq] at hy'
      subst hy'
      have hl := Own.length h
      have hcs : (cs.drop (offAt e [])).take e.size = cs := by rw [← hl]; simp [offAt]
      refine ⟨[], F, [], by simp, by rw [hcs]; exact h, fun w' c' hc' _ z Fz x' hz hs => ?_⟩
      unfold setT at hs
      split at hs
      · simp only [Option.some.injEq] at hs
        subst hs
        simp only [offAt]
        rw [splice_all (by omega)]
        simpa using hz
      · simp at hs
    · simp at hy'
  | .p a b', x, 0 :: p, τ, y, y', cs, F, ht, hy, hy', h => by
    have ht' : tyAt a p = some τ := by simpa [tyAt, tyField] using ht
    have hy1 : (D.t a x.1).at p = some y := by simpa [D.at, D.field, D.fst] using hy
    obtain ⟨c1, c2, Fa, Fb, hc, hF, h1, h2⟩ := h
    obtain ⟨F1, Fy, F3, e1, e2, e3⟩ := own_at ht' hy1 hy' h1
    have hle := off_le_at ht'
    have l1 := Own.length h1
    have ho : offAt (.p a b') (0 :: p) = offAt a p := by simp [offAt, offField, tyField]
    have hcs : (cs.drop (offAt (.p a b') (0 :: p))).take τ.size = (c1.drop (offAt a p)).take τ.size := by
      rw [ho, hc, List.drop_append_of_le_length (by omega), List.take_append_of_le_length (by simp; omega)]
    rw [hcs]
    refine ⟨F1, Fy, F3 ++ Fb, by simp [hF, e1], e2, fun w' c' hc' hw z Fz x' hz hs => ?_⟩
    simp only [setT] at hs
    split at hs
    · rename_i u hu
      simp only [Option.some.injEq] at hs
      subst hs
      rw [ho, hc, splice_left (by omega)]
      refine ⟨_, c2, F1 ++ Fz ++ F3, Fb, rfl, by simp, e3 w' c' hc' (fun b hb => hw b ?_) z Fz u hz hu, h2.stable fun b hb => hw b ?_⟩
      · rcases List.mem_append.1 hb with hb | hb <;> simp [hb]
      · simp [hb]
    · simp at hs
  | .p a b', x, (n + 1) :: p, τ, y, y', cs, F, ht, hy, hy', h => by
    have ht' : tyAt b' (n :: p) = some τ := by simpa [tyAt, tyField] using ht
    have hy1 : (D.t b' x.2).at (n :: p) = some y := by simpa [D.at, D.field, D.snd] using hy
    obtain ⟨c1, c2, Fa, Fb, hc, hF, h1, h2⟩ := h
    obtain ⟨F1, Fy, F3, e1, e2, e3⟩ := own_at ht' hy1 hy' h2
    have l1 := Own.length h1
    have ho : offAt (.p a b') ((n + 1) :: p) = c1.length + offAt b' (n :: p) := by simp [offAt, offField, tyField, l1, Nat.add_assoc]
    have hcs : (cs.drop (offAt (.p a b') ((n + 1) :: p))).take τ.size = (c2.drop (offAt b' (n :: p))).take τ.size := by
      rw [ho, hc]; simp [List.drop_append, List.drop_eq_nil_of_le]
    rw [hcs]
    refine ⟨Fa ++ F1, Fy, F3, by simp [hF, e1], e2, fun w' c' hc' hw z Fz x' hz hs => ?_⟩
    simp only [setT] at hs
    split at hs
    · rename_i u hu
      simp only [Option.some.injEq] at hs
      subst hs
      rw [ho, hc, splice_append]
      refine ⟨c1, _, Fa, F1 ++ Fz ++ F3, rfl, by simp, h1.stable fun b hb => hw b ?_, e3 w' c' hc' (fun b hb => hw b ?_) z Fz u hz hu⟩
      · simp [hb]
      · rcases List.mem_append.1 hb with hb | hb <;> simp [hb]
    · simp at hs
  | .i _, _, _ :: _, _, _, _, _, _, ht, _, _, _ => by simp [tyAt, tyField] at ht
  | .b, _, _ :: _, _, _, _, _, _, ht, _, _, _ => by simp [tyAt, tyField] at ht
  | .s, _, _ :: _, _, _, _, _, _, ht, _, _, _ => by simp [tyAt, tyField] at ht
  | .sl _, _, _ :: _, _, _, _, _, _, ht, _, _, _ => by simp [tyAt, tyField] at ht
  | .u, _, _ :: _, _, _, _, _, _, ht, _, _, _ => by simp [tyAt, tyField] at ht

/-- a part of an element of an owned row, and what is about it -/
theorem own_focus {w : World} {e τ : Ty} {xs : List (T e)} {b off cap : Nat} {F : List Nat} {i : Nat} {x : T e} {y : D} {y' : T τ} {p : List Nat}
    (h : Own w (.sl e) xs [.slice (some ⟨b, off, none⟩) (List.length xs) cap] F) (hi : xs[i]? = some x) (ht : tyAt e p = some τ) (hy : (D.t e x).at p = some y) (hy' : toT y τ = some y') :
    ∃ cur et F1 Fy, w.heap[b]? = some (.cells cur et (0, 0)) ∧ b ∈ F1 ∧ off + i * e.size + e.size ≤ cur.size ∧ F.Perm (F1 ++ Fy) ∧ Own w τ y' (seg cur (off + i * e.size + offAt e p) τ.size) Fy ∧
      (b ∉ F1.erase b → ∀ (w' : World) (c' : List Value), c'.length = τ.size → (∀ c, c ∈ F1 → c ≠ b → w'.heap[c]? = w.heap[c]?) →
        w'.heap[b]? = some (.cells (splice cur.toList (off + i * e.size + offAt e p) c').toArray et (0, 0)) → ∀ (z : T τ) (Fz : List Nat) (x' : T e), Own w' τ z c' Fz → setT e x p τ z = some x' →
        ∃ F', F'.Perm (F1 ++ Fz) ∧ Own w' (.sl e) (List.set xs i x') [.slice (some ⟨b, off, none⟩) (List.length xs) cap] F') := by
  obtain ⟨hm, ⟨h1, _⟩ | ⟨bl, off', cap', cur, et, Fs, h1, hh, h2, h3, h4, hF, hl, hv⟩⟩ := h
  · simp at h1
  · simp at h1
    obtain ⟨⟨rfl, rfl⟩, rfl⟩ := h1
    have hil : i < List.length xs := (List.getElem?_eq_some_iff.1 hi).1
    have hxe : List.get xs ⟨i, hil⟩ = x := by simpa [List.getElem?_eq_getElem hil] using hi
    have hle := off_le_at ht
    have hcap := Nat.mul_le_mul_right e.size h2
    have hlt : (i + 1) * e.size ≤ List.length xs * e.size := Nat.mul_le_mul_right _ hil
    rw [Nat.add_mul, Nat.one_mul] at hlt
    have hoi := hv i hil
    rw [hxe] at hoi
    obtain ⟨Fa, Fy, Fc, hFi, hown, hwand⟩ := own_at ht hy hy' hoi
    have hseg := seg_seg cur (off + i * e.size) e.size (offAt e p) τ.size hle
    rw [hseg] at hown
    have hiF : i < Fs.length := by omega
    refine ⟨cur, et, b :: ((Fs.take i).flatten ++ (Fa ++ Fc) ++ (Fs.drop (i + 1)).flatten), Fy, hh, by simp, by omega, ?_, hown, fun hbn w' c' hc' hw hwb z Fz x' hz hs => ?_⟩
    · rw [hF, (flatten_set hiF []).1, hFi, List.perm_iff_count]
      intro c
      simp only [List.count_append, List.count_cons]
      omega
    · simp only [List.erase_cons_head] at hbn
      obtain ⟨_, g2⟩ := flatten_set hiF (Fa ++ Fz ++ Fc)
      refine ⟨b :: (Fs.set i (Fa ++ Fz ++ Fc)).flatten, ?_, by simpa using hm, .inr ⟨b, off, cap, _, et, _, by simp, hwb, by simpa using h2, h3, ?_, rfl, by simpa using hl, fun j hj => ?_⟩⟩
      · rw [g2, List.perm_iff_count]
        intro c
        simp only [List.count_append, List.count_cons]
        omega
      · rw [List.size_toArray, splice_length (by simp; omega)]
        simpa using h4
      · have hjl : j < List.length xs := by simpa using hj
        by_cases hji : j = i
        · subst hji
          have e1 : List.get (List.set xs j x') ⟨j, hj⟩ = x' := by simp
          have e2 : (Fs.set j (Fa ++ Fz ++ Fc)).getD j [] = Fa ++ Fz ++ Fc := by simp [List.getD, hiF]
          rw [e1, e2, splice_seg_same (by omega) (by omega)]
          refine hwand w' c' hc' (fun c hc => hw c ?_ ?_) z Fz x' hz hs
          · simp only [List.mem_cons, List.mem_append] at hc ⊢
            grind
          · rintro rfl
            apply hbn
            simp only [List.mem_append] at hc ⊢
            grind
        · have e1 : List.get (List.set xs i x') ⟨j, hj⟩ = List.get xs ⟨j, hjl⟩ := by simp [Ne.symm hji]
          have e2 : (Fs.set i (Fa ++ Fz ++ Fc)).getD j [] = Fs.getD j [] := by simp [List.getD, Ne.symm hji]
          have hjle : (j + 1) * e.size ≤ List.length xs * e.size := Nat.mul_le_mul_right _ hjl
          rw [Nat.add_mul, Nat.one_mul] at hjle
          have hjF : j < Fs.length := by omega
          have hinF : ∀ c, c ∈ Fs.getD j [] → c ∈ (Fs.take i).flatten ++ (Fa ++ Fc) ++ (Fs.drop (i + 1)).flatten := by
            intro c hc
            have hc' : c ∈ Fs[j] := by simpa [List.getD, hjF] using hc
            simp only [List.mem_append]
            rcases Nat.lt_or_gt_of_ne hji with hlt' | hlt'
            · exact .inl (.inl (List.mem_flatten.2 ⟨Fs[j], List.mem_take_iff_getElem.2 ⟨j, by omega, rfl⟩, hc'⟩))
            · exact .inr (List.mem_flatten.2 ⟨Fs[j], List.mem_drop_iff_getElem.2 ⟨j - (i + 1), by omega, by congr 1; omega⟩, hc'⟩)
          rw [e1, e2, splice_seg_other (by omega) (by omega) ?_]
          · refine (hv j hjl).stable fun c hc => hw c (List.mem_cons_of_mem _ (hinF c hc)) ?_
            rintro rfl
            exact hbn (hinF c hc)
          · rcases Nat.lt_or_gt_of_ne hji with hlt' | hlt'
            · left
              have := Nat.mul_le_mul_right e.size hlt'
              rw [Nat.succ_mul] at this
              omega
            · right
              have := Nat.mul_le_mul_right e.size hlt'
              rw [Nat.succ_mul] at this
              omega

theorem splice_same {cs : List Value} {o n : Nat} (h : o + n ≤ cs.length) : splice cs o ((cs.drop o).take n) = cs := by
  apply List.ext_getElem?
  intro j
  have hl : ((cs.drop o).take n).length = n := by simp; omega
  rw [splice_get (by omega), hl]
  split
  · rfl
  · split
    · rw [List.getElem?_take, if_pos (by omega), List.getElem?_drop]; congr 1; omega
    · rfl

section
variable {P : Program} {Out : Type} {n0 : Nat} {A : Fx} {O0 : Nat → Prop} {w0 w w' : World} {s : AS} {σ σ' : Nat → Value} {φ φ' : Nat → List Nat} {a : Act}
variable {o : Oper} {Q : Exit → Act → World → Prop} {k : AS → Option Out} {out : Out} {d : D} {v : Value} {upd : List (Nat × Option Blk)} {dst : Option Tmp} {G : Env}

/-- a part of an owned row's element is taken in hand -/
theorem Conc.focus (h : Conc n0 A O0 w0 s σ φ a w) {id : Nat} {e τ : Ty} {xs : List (T e)} {i : Nat} {x : T e} {p : List Nat} {y : D} {y' : T τ} {n m : Nat} {u : List (Nat × Option Blk)}
    (hb : s.heap id = some (.row e true xs)) (hm : s.ment id = true) (hi : xs[i]? = some x) (ht : tyAt e p = some τ) (hy : (D.t e x).at p = some y) (hy' : toT y τ = some y')
    {b off cap : Nat} (hσ : σ id = .slice (some ⟨b, off, none⟩) (List.length xs) cap) (ho : openD τ y' n = (d, u, m)) (hu : freshIds s u = true) :
    ∃ cur et σ' φ', w.heap[b]? = some (.cells cur et (0, 0)) ∧ off + i * e.size + e.size ≤ cur.size ∧
      Conc n0 A O0 w0 ⟨s.n, s.tm, ((id, some (.hol e xs i x p τ d)) :: u) ++ s.hp⟩ σ' φ' a w ∧ Shape τ d ∧
      ∀ hp' O', Rep w O' hp' σ' d (seg cur (off + i * e.size + offAt e p) τ.size) := by
  have hown := h.hp id _ hb
  simp only [BlkRep, hσ] at hown
  obtain ⟨cur, et, F1, Fy, hh, hbF, hsz, hperm, hoy, hwand⟩ := own_focus hown hi ht hy hy'
  obtain ⟨hnm, hrange, hsh, ψ, ν, hbl, hrows, hrep⟩ := openD_ok ho hoy
  obtain ⟨hnew, hnd⟩ := freshIds_ok hu
  have hnm' : ∀ q, q ∈ u → s.ment q.1 = false := fun q hq => by
    have := hnew q hq
    simp only [AS.newOk, Bool.and_eq_true, Bool.not_eq_true'] at this
    exact this.1
  have hidu : id ∉ u.map (·.1) := fun hid => by
    obtain ⟨q, hq, he⟩ := List.mem_map.1 hid
    rw [← he, hnm' q hq] at hm
    simp at hm
  have hndF : (F1 ++ Fy).Nodup := hperm.nodup_iff.1 (h.nodup id _ hb)
  let σ' : Nat → Value := fun j => if j ∈ u.map (·.1) then ν j else σ j
  let φ' : Nat → List Nat := fun j => if j = id then F1 else if j ∈ u.map (·.1) then ψ j else φ j
  have hσid : σ' id = σ id := if_neg hidu
  have hσu : ∀ q, q ∈ u → σ' q.1 = ν q.1 := fun q hq => if_pos (List.mem_map_of_mem hq)
  have hφid : φ' id = F1 := if_pos rfl
  have hφu : ∀ j, j ∈ u.map (·.1) → φ' j = ψ j := fun j hj => by
    have : j ≠ id := fun e => hidu (e ▸ hj)
    simp only [φ', if_neg this, if_pos hj]
  have hget : ∀ (U : List (Nat × Option Blk)) (j : Nat), j ∉ U.map (·.1) → aget (U ++ s.hp) j = aget s.hp j := by
    intro U j
    induction U with
    | nil => simp
    | cons q U ih =>
      intro hn
      simp only [List.map_cons, List.mem_cons, not_or] at hn
      rw [List.cons_append, aget_cons, if_neg (Ne.symm hn.1), ih hn.2]
  have hgetm : ∀ (U : List (Nat × Option Blk)), (U.map (·.1)).Nodup → ∀ q, q ∈ U → aget (U ++ s.hp) q.1 = some q.2 := by
    intro U
    induction U with
    | nil => simp
    | cons r U ih =>
      intro hn q hp
      simp only [List.map_cons, List.nodup_cons] at hn
      rw [List.cons_append, aget_cons]
      rcases List.mem_cons.1 hp with rfl | hp
      · rw [if_pos rfl]
      · rw [if_neg (fun e : r.1 = q.1 => hn.1 (by rw [e]; exact List.mem_map_of_mem hp)), ih hn.2 q hp]
  have hU : (((id, some (Blk.hol e xs i x p τ d)) :: u).map (·.1)).Nodup := by
    simp only [List.map_cons, List.nodup_cons]
    exact ⟨hidu, hnd⟩
  have hh1 : ∀ j, ¬ (j = id ∨ j ∈ u.map (·.1)) → AS.heap ⟨s.n, s.tm, ((id, some (Blk.hol e xs i x p τ d)) :: u) ++ s.hp⟩ j = s.heap j := fun j hj => by
    simp only [AS.heap]
    rw [hget _ j (by simpa using hj)]
  have hh2 : AS.heap ⟨s.n, s.tm, ((id, some (Blk.hol e xs i x p τ d)) :: u) ++ s.hp⟩ id = some (.hol e xs i x p τ d) := by
    simp only [AS.heap]
    rw [hgetm _ hU (id, some (.hol e xs i x p τ d)) (by simp)]
    rfl
  have hh3 : ∀ q, q ∈ u → AS.heap ⟨s.n, s.tm, ((id, some (Blk.hol e xs i x p τ d)) :: u) ++ s.hp⟩ q.1 = q.2 := fun q hq => by
    simp only [AS.heap]
    rw [hgetm _ hU q (by simp [hq])]
    rfl
  have hmemu : ∀ j, j ∈ u.map (·.1) → ∃ q, q ∈ u ∧ q.1 = j := fun j hj => by
    obtain ⟨q, hq, he⟩ := List.mem_map.1 hj
    exact ⟨q, hq, he⟩
  have hψ : ∀ j, j ∈ u.map (·.1) → ∀ c, c ∈ ψ j → c ∈ Fy := fun j hj c hc => by
    rw [← hbl]; exact mem_blocks.2 ⟨j, hj, hc⟩
  have hin : ∀ j, (j = id ∨ j ∈ u.map (·.1)) → ∀ c, c ∈ φ' j → c ∈ φ id := by
    intro j hj c hc
    refine hperm.mem_iff.2 ?_
    rcases hj with rfl | hj
    · rw [hφid] at hc
      exact List.mem_append_left _ hc
    · rw [hφu j hj] at hc
      exact List.mem_append_right _ (hψ j hj c hc)
  have hrep' : ∀ hp' O', Rep w O' hp' σ' d (seg cur (off + i * e.size + offAt e p) τ.size) := fun hp' O' => hrep w hp' σ' O' hσu
  refine ⟨cur, et, σ', φ', hh, hsz, ?_, hsh, hrep'⟩
  refine h.trans (fun j => j = id ∨ j ∈ u.map (·.1)) rfl rfl ?_ (fun _ _ _ => rfl) (Nat.le_refl _) ?_ ?_ ?_ ?_ rfl rfl rfl ?_
  · intro j hj
    refine ⟨hh1 j hj, ?_, ?_⟩
    · exact if_neg fun hm => hj (.inr hm)
    · simp only [not_or] at hj
      simp only [φ', if_neg hj.1, if_neg hj.2]
  · intro j blk' hj _ c hc
    exact .inr ⟨id, _, .inl rfl, hb, hin j hj c hc⟩
  · intro j blk' hj hl hmj
    rcases hj with rfl | hj
    · rw [hh2] at hl
      simp only [Option.some.injEq] at hl
      subst hl
      exact ⟨_, hb, by simp [Blk.like], hσid⟩
    · obtain ⟨q, hq, rfl⟩ := hmemu j hj
      rw [hnm' q hq] at hmj
      simp at hmj
  · intro j blk' hj hl
    rcases hj with rfl | hj
    · rw [hh2] at hl
      simp only [Option.some.injEq] at hl
      subst hl
      rw [hφid]
      have hF1 : F1.Nodup := hndF.sublist (List.sublist_append_left _ _)
      refine ⟨⟨hsh, hi, ht, fun c hc => (h.hp _ _ hb).lt c (hperm.mem_iff.2 (List.mem_append_left _ hc)), b, off, cap, cur, et, hσid.trans hσ, hh, hbF, hsz, hrep' _ _, fun w' c' hc' hw hwb z Fz x' hz hs => ?_⟩, hF1⟩
      obtain ⟨F', hp', ho'⟩ := hwand (fun hm => ((List.Nodup.mem_erase_iff hF1).1 hm).1 rfl) w' c' hc' hw hwb z Fz x' hz hs
      exact ⟨F', hp', by rw [hσid, hσ]; exact ho'⟩
    · obtain ⟨q, hq, rfl⟩ := hmemu j hj
      rw [hh3 q hq] at hl
      obtain ⟨e2, xs2, he2, hown2⟩ := hrows q hq
      rw [he2] at hl
      simp only [Option.some.injEq] at hl
      subst hl
      rw [hφu _ hj]
      refine ⟨?_, ?_⟩
      · simp only [BlkRep]
        rw [hσu q hq]
        exact hown2
      · have hs : (ψ q.1).Sublist Fy := by
          rw [← hbl]
          unfold blocks
          exact List.sublist_flatten_of_mem (List.mem_map_of_mem hj)
        exact hs.nodup (hndF.sublist (List.sublist_append_right _ _))
  · intro j j' b1 b2 hj hj' hne _ _ c hc hc'
    rw [List.nodup_append] at hndF
    rcases hj with rfl | hj
    · rcases hj' with e | hj'
      · exact hne e.symm
      · rw [hφid] at hc
        rw [hφu _ hj'] at hc'
        exact hndF.2.2 c hc c (hψ _ hj' c hc') rfl
    · rcases hj' with rfl | hj'
      · rw [hφid] at hc'
        rw [hφu _ hj] at hc
        exact hndF.2.2 c hc' c (hψ _ hj c hc) rfl
      · rw [hφu _ hj] at hc
        rw [hφu _ hj'] at hc'
        have : ∀ (L : List Nat), (blocks ψ L).Nodup → j ∈ L → j' ∈ L → False := by
          intro L
          induction L with
          | nil => simp
          | cons z L ih =>
            intro hn hi hi'
            have hx : blocks ψ (z :: L) = ψ z ++ blocks ψ L := by simp [blocks]
            rw [hx, List.nodup_append] at hn
            rcases List.mem_cons.1 hi with e1 | q1
            · rcases List.mem_cons.1 hi' with e2 | q2
              · exact hne (e1.trans e2.symm)
              · exact hn.2.2 c (e1 ▸ hc) c (mem_blocks.2 ⟨j', q2, hc'⟩) rfl
            · rcases List.mem_cons.1 hi' with e2 | q2
              · exact hn.2.2 c (e2 ▸ hc') c (mem_blocks.2 ⟨j, q1, hc⟩) rfl
              · exact ih hn.2.1 q1 q2
        exact this _ (by rw [hbl]; exact hndF.2.1) hj hj'
  · intro j hj
    rcases hj with rfl | hj
    · exact .inl hσid
    · obtain ⟨q, hq, rfl⟩ := hmemu j hj
      exact .inr (newOk_lt (hnew q hq))

theorem cond_none_some' {α : Type} {b : Bool} {x : Option α} {y : α} : (bif b then x else none) = some y ↔ b = true ∧ x = some y := by cases b <;> simp

/-- the part that is held goes back -/
theorem attach_ok (h : Conc n0 A O0 w0 s σ φ a w) {id : Nat} {s' : AS} (he : s.attach id = some s') : ∃ φ', Conc n0 A O0 w0 s' σ φ' a w := by
  unfold AS.attach at he
  split at he
  · rename_i e xs i x path τ d hb
    split at he
    · rename_i y l hy
      cases hnd : nodupB (id :: l) with
      | false => simp [hnd] at he
      | true =>
        simp only [hnd, cond_true] at he
        split at he
        · rename_i x' hx'
          simp only [Option.some.injEq] at he
          subst he
          have hnd := nodupB_ok hnd
          obtain ⟨hsh, hi, ht, hlt, bl, off, cap, cur, et, hσ, hh, hbF, hsz, hrep, hwand⟩ := h.hp id _ hb
          obtain ⟨hown, hlive⟩ := ownT_ok h hy hrep
          have hle := off_le_at ht
          have hcl : cur.toList.length = cur.size := Array.length_toList
          have hsame : splice cur.toList (off + i * e.size + offAt e path) (seg cur (off + i * e.size + offAt e path) τ.size) = cur.toList := splice_same (by omega)
          obtain ⟨F', hperm, hown'⟩ := hwand w _ (seg_length (by omega)) (fun _ _ _ => rfl) (by rw [hsame]; exact hh) y _ x' hown hx'
          have hFF : (φ id ++ blocks φ l).Nodup := by
            have := blocks_nodup h hnd (by
              intro j hj
              rcases List.mem_cons.1 hj with rfl | hj
              · exact ⟨_, hb⟩
              · exact hlive j hj)
            simpa [blocks] using this
          refine ⟨_, h.turn (blk0 := .hol e xs i x path τ d) (blk := .row e true (List.set xs i x')) hb (by simp [Blk.like]) l hlive (List.nodup_cons.1 hnd).1 F' (Nat.le_refl _) (fun _ _ _ _ => rfl) rfl rfl rfl (hperm.nodup_iff.2 hFF) ?_ ?_⟩
          · intro c hc
            rcases List.mem_append.1 (hperm.mem_iff.1 hc) with hc | hc
            · exact .inr (.inl hc)
            · exact .inr (.inr (mem_blocks.1 hc))
          · intro hp' O' _ _
            exact hown'
        · simp at he
    · simp at he
  · simp only [Option.some.injEq] at he
    subst he
    exact ⟨φ, h⟩

theorem aget_map {α β : Type} (f : α → β) : ∀ (l : List (Nat × α)) (k : Nat), aget (l.map fun p => (p.1, f p.2)) k = (aget l k).map f
  | [], k => rfl
  | (j, a) :: r, k => by
    rw [List.map_cons, aget_cons, aget_cons]
    split
    · rfl
    · exact aget_map f r k
theorem rowN_frz {id : Nat} {τ : Ty} {x : T τ} (b : Blk) : (b.frz id τ x).rowN = b.rowN := by cases b <;> rfl
theorem isAgg_frz {id : Nat} {e : Ty} {x : List (T e)} (d : D) : (d.frz id (.sl e) x).isAgg = d.isAgg := by
  cases d with
  | own j => simp only [D.frz]; cases Nat.beq j id <;> rfl
  | _ => rfl

/-- the row is to be read only -/
theorem row_frozen {id : Nat} {e : Ty} {dp : Bool} {xs : List (T e)} {O O' : Nat → Prop} {hp : Nat → Option Blk} {F : List Nat} (h : BlkRep w O hp σ id (.row e dp xs) F) (hO : ∀ b, O' b → O b) (hF : ∀ b, b ∈ F → ¬ O' b) :
    View w O' (.sl e) xs [σ id] := by
  cases dp with
  | true => exact Own.view (show Own w (.sl e) xs [σ id] F from h) hF
  | false =>
    simp only [BlkRep] at h
    obtain ⟨hm, ⟨h1, h2, _⟩ | ⟨bl, off, cap, cur, et, h1, hh, h2, h3, h4, hF', hv⟩⟩ := h
    · subst h2; exact ⟨none, 0, by rw [h1]; rfl, Nat.le_refl _, hm, .inl rfl⟩
    · have := Nat.mul_le_mul_right e.size h2
      exact ⟨_, cap, by rw [h1], h2, hm, .inr ⟨bl, off, cur, et, _, rfl, hF bl (by rw [hF']; simp), hh, by omega, fun i hi => (hv i hi).weaken hO⟩⟩

section
variable {O O' : Nat → Prop} {hp hp' : Nat → Option Blk} {id : Nat} {e : Ty} {dp : Bool} {xs : List (T e)}

theorem Rep.frz (hb : hp id = some (.row e dp xs)) (hn : hp' id = none) (hh : ∀ j, j ≠ id → hp' j = (hp j).map (Blk.frz id (.sl e) xs)) (hO : ∀ b, O' b → O b) (hv : View w O' (.sl e) xs [σ id]) :
    ∀ (d : D) (cs : List Value), Rep w O hp σ d cs → Rep w O' hp' σ (d.frz id (.sl e) xs) cs
  | .und, cs, h => h
  | .t τ x, cs, h => View.weaken hO h
  | .nil, cs, h => h
  | .own j, cs, h => by
    obtain ⟨v, hcs, h1, h2⟩ := h
    simp only [D.frz]
    cases hj : Nat.beq j id with
    | true =>
      have := Nat.eq_of_beq_eq_true hj
      subst this
      rw [hcs, h2 _ _ hb rfl]
      exact hv
    | false =>
      have hne : j ≠ id := fun e => by rw [e, Nat.beq_refl] at hj; simp at hj
      refine ⟨v, hcs, h1, fun blk r hl hr => ?_⟩
      rw [hh j hne, Option.map_eq_some_iff] at hl
      obtain ⟨b0, hb0, rfl⟩ := hl
      rw [rowN_frz] at hr
      exact h2 b0 r hb0 hr
  | .ptr j path, cs, h => by
    obtain ⟨v, hcs, h1, h2⟩ := h
    refine ⟨v, hcs, h1, fun ρ d hl => ?_⟩
    by_cases hne : j = id
    · subst hne; rw [hn] at hl; simp at hl
    rw [hh j hne, Option.map_eq_some_iff] at hl
    obtain ⟨b0, hb0, hbe⟩ := hl
    cases b0 with
    | box ρ' d' =>
      simp only [Blk.frz, Blk.box.injEq] at hbe
      rw [← hbe.1]
      exact h2 ρ' d' hb0
    | _ => simp [Blk.frz] at hbe
  | .eptr j i path, cs, h => by
    obtain ⟨v, hcs, h1, h2⟩ := h
    refine ⟨v, hcs, h1, fun blk e' n hl hr => ?_⟩
    by_cases hne : j = id
    · subst hne; rw [hn] at hl; simp at hl
    rw [hh j hne, Option.map_eq_some_iff] at hl
    obtain ⟨b0, hb0, rfl⟩ := hl
    rw [rowN_frz] at hr
    exact h2 b0 e' n hb0 hr
  | .rp τ x, cs, h => by
    obtain ⟨b, off, cur, et, fr, hcs, hb', hh', hs, hvw⟩ := h
    exact ⟨b, off, cur, et, fr, hcs, fun h => hb' (hO _ h), hh', hs, View.weaken hO hvw⟩
  | .pr a b, cs, h => by
    obtain ⟨c1, c2, h0, h1, h2⟩ := h
    exact ⟨c1, c2, h0, Rep.frz hb hn hh hO hv a c1 h1, Rep.frz hb hn hh hO hv b c2 h2⟩
  | .un, cs, h => h
  | .tup d, cs, h => h

theorem RepV.frz (hb : hp id = some (.row e dp xs)) (hn : hp' id = none) (hh : ∀ j, j ≠ id → hp' j = (hp j).map (Blk.frz id (.sl e) xs)) (hO : ∀ b, O' b → O b) (hv : View w O' (.sl e) xs [σ id])
    {d : D} {v : Value} (h : RepV w O hp σ d v) : RepV w O' hp' σ (d.frz id (.sl e) xs) v := by
  unfold RepV at *
  rw [isAgg_frz]
  split
  · rename_i ha
    rw [if_pos ha] at h
    obtain ⟨cs, h1, h2⟩ := h
    exact ⟨cs, h1, Rep.frz hb hn hh hO hv d _ h2⟩
  · rename_i ha
    rw [if_neg ha] at h
    exact Rep.frz hb hn hh hO hv d _ h

theorem RepT.frz (hb : hp id = some (.row e dp xs)) (hn : hp' id = none) (hh : ∀ j, j ≠ id → hp' j = (hp j).map (Blk.frz id (.sl e) xs)) (hO : ∀ b, O' b → O b) (hv : View w O' (.sl e) xs [σ id]) :
    ∀ (d : D) (vs : List Value), RepT w O hp σ d vs → RepT w O' hp' σ (d.frz id (.sl e) xs) vs
  | .pr a b, v :: vs, h => ⟨RepV.frz hb hn hh hO hv h.1, RepT.frz hb hn hh hO hv b vs h.2⟩
  | .un, [], _ => trivial
  | .pr _ _, [], h => h.elim
  | .un, _ :: _, h => h.elim
  | .und, _, h => by simp [RepT] at h
  | .t _ _, _, h => by simp [RepT] at h
  | .nil, _, h => by simp [RepT] at h
  | .own _, _, h => by simp [RepT] at h
  | .ptr _ _, _, h => by simp [RepT] at h
  | .eptr _ _ _, _, h => by simp [RepT] at h
  | .rp _ _, _, h => by simp [RepT] at h
  | .tup _, _, h => by simp [RepT] at h

theorem RepU.frz (hb : hp id = some (.row e dp xs)) (hn : hp' id = none) (hh : ∀ j, j ≠ id → hp' j = (hp j).map (Blk.frz id (.sl e) xs)) (hO : ∀ b, O' b → O b) (hv : View w O' (.sl e) xs [σ id])
    {d : D} {v : Value} (h : RepU w O hp σ d v) : RepU w O' hp' σ (d.frz id (.sl e) xs) v := by
  cases d with
  | tup ds =>
    obtain ⟨vs, h1, h2⟩ := h
    exact ⟨vs, h1, RepT.frz hb hn hh hO hv ds _ h2⟩
  | und => exact h
  | _ => exact repU_of_repV (RepV.frz hb hn hh hO hv h)
end

theorem freeze_ok (hA : ∀ b, ¬ A.A b) (h : Conc n0 A O0 w0 s σ φ a w) {id : Nat} {s' : AS} (he : s.freeze id = some s') : Conc n0 A O0 w0 s' σ φ a w := by
  unfold AS.freeze at he
  split at he
  · rename_i e dp xs hb
    simp only [cond_none_some'] at he
    obtain ⟨hsh, he⟩ := he
    simp only [Option.some.injEq] at he
    subst he
    have hheap : ∀ j, AS.heap ⟨s.n, s.tm.map fun p => (p.1, p.2.frz id (.sl e) xs), (id, none) :: s.hp.map fun p => (p.1, p.2.map (Blk.frz id (.sl e) xs))⟩ j = if j = id then none else (s.heap j).map (Blk.frz id (.sl e) xs) := by
      intro j
      simp only [AS.heap, aget_cons]
      by_cases hj : id = j
      · subst hj; simp
      · rw [if_neg hj, if_neg (Ne.symm hj), aget_map]
        cases aget s.hp j with
        | none => rfl
        | some o => cases o <;> rfl
    generalize hs' : (⟨s.n, s.tm.map fun p => (p.1, p.2.frz id (.sl e) xs), (id, none) :: s.hp.map fun p => (p.1, p.2.map (Blk.frz id (.sl e) xs))⟩ : AS) = s' at hheap
    have hback : ∀ j blk, s'.heap j = some blk → j ≠ id ∧ ∃ b0, s.heap j = some b0 ∧ blk = b0.frz id (.sl e) xs := by
      intro j blk hl
      rw [hheap] at hl
      split at hl
      · simp at hl
      · rename_i hne
        obtain ⟨b0, h1, h2⟩ := Option.map_eq_some_iff.1 hl
        exact ⟨hne, b0, h1, h2.symm⟩
    have hO : ∀ b, OO O0 s' φ b → OO O0 s φ b := by
      rintro b (ho | ⟨j, blk, hl, hm⟩)
      · exact .inl ho
      · obtain ⟨_, b0, h1, _⟩ := hback j blk hl
        exact .inr ⟨j, b0, h1, hm⟩
    have hF : ∀ b, b ∈ φ id → ¬ OO O0 s' φ b := by
      rintro b hm (ho | ⟨j, blk, hl, hm'⟩)
      · rcases h.fresh id _ hb b hm with hge | hA'
        · have := h.o0 b ho; omega
        · exact hA b hA'
      · obtain ⟨hne, b0, h1, _⟩ := hback j blk hl
        exact h.disj id j _ b0 (Ne.symm hne) hb h1 b hm hm'
    have hv := row_frozen (h.hp id _ hb) hO hF
    have hn' : s'.heap id = none := by rw [hheap, if_pos rfl]
    have hh' : ∀ j, j ≠ id → s'.heap j = (s.heap j).map (Blk.frz id (.sl e) xs) := fun j hj => by rw [hheap, if_neg hj]
    refine ⟨by subst hs'; exact h.sz, h.df, ?_, ?_, ?_, ?_, ?_, h.o0, h.fr, h.pin⟩
    · intro t d hd
      subst hs'
      simp only at hd
      rw [aget_map, Option.map_eq_some_iff] at hd
      obtain ⟨d0, hd0, rfl⟩ := hd
      obtain ⟨v, hv1, hr⟩ := h.tm t d0 hd0
      exact ⟨v, hv1, RepU.frz hb hn' hh' hO hv hr⟩
    · intro j blk hl
      obtain ⟨hne, b0, h1, rfl⟩ := hback j blk hl
      have hsb : (b0.frz id (.sl e) xs).shaped = true := by
        have hm := AS.heap_mem hl
        subst hs'
        simp only [List.mem_cons, Prod.mk.injEq] at hm
        rcases hm with ⟨_, hx⟩ | hm
        · simp at hx
        · have := List.all_eq_true.1 hsh _ hm
          simpa using this
      have hbr := h.hp j b0 h1
      cases b0 with
      | box ρ d =>
        obtain ⟨_, b, cur, et, g1, g2, g3, g4, g5⟩ := hbr
        exact ⟨shapeB_ok hsb, b, cur, et, g1, g2, g3, Rep.frz hb hn' hh' hO hv d _ g4, g5⟩
      | row e' dp' xs' =>
        cases dp' with
        | true => exact hbr
        | false =>
          obtain ⟨hm, g | ⟨bl, off, cap, cur, et, g1, g2, g3, g4, g5, g6, g7⟩⟩ := hbr
          · exact ⟨hm, .inl g⟩
          · exact ⟨hm, .inr ⟨bl, off, cap, cur, et, g1, g2, g3, g4, g5, g6, fun i hi => (g7 i hi).weaken hO⟩⟩
      | hol e' xs' i x p τ d =>
        obtain ⟨_, g1, g2, g3, bl, off, cap, cur, et, g4, g5, g6, g7, g8, g9⟩ := hbr
        exact ⟨shapeB_ok hsb, g1, g2, g3, bl, off, cap, cur, et, g4, g5, g6, g7, Rep.frz hb hn' hh' hO hv d _ g8, g9⟩
    · intro j blk hl
      obtain ⟨_, b0, h1, _⟩ := hback j blk hl
      exact h.nodup j b0 h1
    · intro j j' blk blk' hne hl hl'
      obtain ⟨_, b0, h1, _⟩ := hback j blk hl
      obtain ⟨_, b1, h2, _⟩ := hback j' blk' hl'
      exact h.disj j j' b0 b1 hne h1 h2
    · intro j blk hl
      obtain ⟨_, b0, h1, _⟩ := hback j blk hl
      exact h.fresh j b0 h1
  · simp only [Option.some.injEq] at he
    subst he
    exact h

theorem attL_ok {fz : Bool} (hfz : fz = true → ∀ b, ¬ A.A b) : ∀ {l : List (Nat × Nat)} {n : Nat} {s s' : AS} {φ : Nat → List Nat}, Conc n0 A O0 w0 s σ φ a w → attL fz l n s = some s' → ∃ φ', Conc n0 A O0 w0 s' σ φ' a w
  | [], n, s, s', φ, h, he => by
    simp only [attL, Option.some.injEq] at he
    subst he
    exact ⟨φ, h⟩
  | (r, id) :: l, n, s, s', φ, h, he => by
    simp only [attL] at he
    cases hr : Nat.beq r n with
    | false => rw [hr] at he; exact attL_ok hfz h he
    | true =>
      rw [hr] at he
      simp only [cond_true] at he
      cases hq : Nat.ble 1000000000 id with
      | false =>
        rw [hq] at he
        simp only [cond_false] at he
        split at he
        · rename_i s1 h1
          obtain ⟨φ1, hc⟩ := attach_ok h h1
          exact attL_ok hfz hc he
        · simp at he
      | true =>
        rw [hq] at he
        simp only [cond_true] at he
        cases fz with
        | false => simp at he
        | true =>
          simp only [cond_true] at he
          split at he
          · rename_i s1 h1
            exact attL_ok hfz (freeze_ok (hfz rfl) h h1) he
          · simp at he

/-- a part of a datum is a datum -/
theorem t_field : ∀ {n : Nat} {e τ : Ty} {x : T e} {y : D}, tyField e n = some τ → (D.t e x).field n = some y → ∃ z : T τ, y = .t τ z
  | 0, .p a c, τ, x, y, ht, hy => by
    simp only [tyField, Option.some.injEq] at ht
    subst ht
    simp only [D.field, D.fst, Option.some.injEq] at hy
    exact ⟨x.1, hy.symm⟩
  | n + 1, .p a c, τ, x, y, ht, hy => by
    simp only [D.field, D.snd] at hy
    exact t_field (e := c) ht hy
  | n, .i _, _, _, _, ht, _ => by cases n <;> simp [tyField] at ht
  | n, .b, _, _, _, ht, _ => by cases n <;> simp [tyField] at ht
  | n, .s, _, _, _, ht, _ => by cases n <;> simp [tyField] at ht
  | n, .sl _, _, _, _, ht, _ => by cases n <;> simp [tyField] at ht
  | n, .u, _, _, _, ht, _ => by cases n <;> simp [tyField] at ht

theorem dec_refl : ∀ τ : Ty, Ty.dec τ τ = some ⟨rfl⟩
  | .i _ => by simp [Ty.dec]
  | .b => rfl
  | .s => rfl
  | .u => rfl
  | .sl e => by simp only [Ty.dec, dec_refl e]
  | .p x y => by simp only [Ty.dec, dec_refl x, dec_refl y]

theorem t_at : ∀ {p : List Nat} {e τ : Ty} {x : T e} {y : D}, tyAt e p = some τ → (D.t e x).at p = some y → ∃ z : T τ, y = .t τ z ∧ toT y τ = some z
  | [], e, τ, x, y, ht, hy => by
    simp only [tyAt, Option.some.injEq] at ht
    subst ht
    simp only [D.at, Option.some.injEq] at hy
    subst hy
    exact ⟨x, rfl, by simp only [toT, dec_refl e]⟩
  | f :: p, e, τ, x, y, ht, hy => by
    simp only [tyAt] at ht
    cases hf : tyField e f with
    | none => simp [hf] at ht
    | some τ' =>
      simp only [hf, Option.bind_some] at ht
      simp only [D.at] at hy
      cases hd : (D.t e x).field f with
      | none => simp [hd] at hy
      | some z =>
        simp only [hd] at hy
        obtain ⟨u, rfl⟩ := t_field hf hd
        exact t_at ht hy

theorem op_load (hG : EnvTy P G) (h : Conc n0 A O0 w0 s σ φ a w) {t : TypeId} {x : Operand} (ho : o.op = .load t x)
    (he : aop G s o k = some out) : o.wp P a w (Good n0 A O0 w0 k out) Q := by
  simp only [aop, aopK, ho] at he
  split at he
  · -- a box
    rename_i τ id path hty hx
    split at he
    · rename_i ρ d hb
      split at he
      · rename_i τ' e ht hd
        split at he
        · rename_i q hq
          obtain rfl := dec_eq hq
          have hv := h.ev hx
          rw [repU_ptr] at hv
          obtain ⟨b, hσ, hv⟩ := hv.2 ρ d hb
          obtain ⟨hs, b', cur, et, hσ', hh, hF, hr, hsz⟩ := h.hp id _ hb
          rw [hσ] at hσ'
          simp at hσ'
          subst hσ'
          obtain ⟨hse, hre⟩ := Rep.at hs ht hd hr
          have hle := off_le_at ht
          have hl := run_loadVar' (hG.ty _ _ hty) hh (by omega : offAt ρ path + τ'.size ≤ cur.size)
          refine wp_value (w' := w) (v := vof τ' (seg cur (offAt ρ path) τ'.size)) ?_ (fin_pure h ?_ he)
          · simp [execOp, ho, hv, Instr.loadAt, Instr.sureAddr, hl]
          · exact repU_vof hse hre
        · simp at he
      · simp at he
    · simp at he
  · -- memory that is only read
    rename_i τ τ' y hty hx
    split at he
    · rename_i q hq
      obtain rfl := dec_eq hq
      have hv := h.ev hx
      rw [repU_rp] at hv
      obtain ⟨b, off, cur, et, fr, hv, hO, hh, hs, hvw⟩ := hv
      have hl := run_loadVar' (hG.ty _ _ hty) hh hs
      refine wp_value (w' := w) (v := vof τ' (seg cur off τ'.size)) ?_ (fin_pure h ?_ he)
      · simp [execOp, ho, hv, Instr.loadAt, Instr.sureAddr, hl]
      · exact repU_vof (τ := τ') (by simp [Shape]) hvw
    · simp at he
  · -- an element of a row
    rename_i τ id i path hty hx
    split at he
    · rename_i e dp xs hb
      cases hxi : xs[i]? with
      | none => simp [hxi] at he
      | some x0 =>
        simp only [hxi, Option.bind_some] at he
        split at he
        · rename_i τ' y ht hd
          split at he
          · rename_i q hq
            obtain rfl := dec_eq hq
            have hv := h.ev hx
            rw [repU_eptr] at hv
            obtain ⟨hi, b, off, cap, hσ, hv⟩ := hv.2 _ _ _ hb rfl
            have hle := off_le_at ht
            cases hf : ((!dp || e.flat) || τ'.flat) with
            | true =>
              simp only [hf, cond_true] at he
              have hel : ∃ cur et, w.heap[b]? = some (.cells cur et (0, 0)) ∧ off + i * e.size + e.size ≤ cur.size ∧ Shape τ' y ∧ Rep w (OO O0 s φ) s.heap σ y (seg cur (off + i * e.size + offAt e path) τ'.size) := by
                cases hf1 : (!dp || e.flat) with
                | true =>
                  obtain ⟨cur, et, hh, hs, hvw⟩ := row_elem (h.hp id _ hb) (by simpa using hf1) hxi hσ
                  have hrep : Rep w (OO O0 s φ) s.heap σ (.t e x0) (seg cur (off + i * e.size) e.size) := hvw
                  obtain ⟨hse, hre⟩ := Rep.at (τ := τ') (by simp [Shape]) ht hd hrep
                  rw [seg_seg _ _ _ _ _ hle] at hre
                  exact ⟨cur, et, hh, hs, hse, hre⟩
                | false =>
                  have hfl : τ'.flat = true := by simpa [hf1] using hf
                  have hdp : dp = true := by
                    simp only [Bool.or_eq_false_iff] at hf1
                    simpa using hf1.1
                  subst hdp
                  have hown := h.hp id _ hb
                  simp only [BlkRep, hσ] at hown
                  obtain ⟨y', hy1, hy2⟩ := t_at ht hd
                  subst hy1
                  obtain ⟨cur, et, F1, Fy, hh, _, hsz, _, hoy, _⟩ := own_focus hown hxi ht hd hy2
                  refine ⟨cur, et, hh, hsz, by simp [Shape], ?_⟩
                  have hnil := own_flat hfl hoy
                  exact hoy.view (by rw [hnil]; simp)
              obtain ⟨cur, et, hh, hs, hse, hre⟩ := hel
              have hl := run_loadVar' (hG.ty _ _ hty) hh (by omega : off + i * e.size + offAt e path + τ'.size ≤ cur.size)
              refine wp_value (w' := w) (v := vof τ' (seg cur (off + i * e.size + offAt e path) τ'.size)) ?_ (fin_pure h (repU_vof hse hre) he)
              simp [execOp, ho, hv, Instr.loadAt, Instr.sureAddr, hl]
            | false =>
              simp only [hf, cond_false] at he
              split at he
              · rename_i y' hy'
                rcases hop : openD τ' y' (100000 + 64 * o.dst.getD 0) with ⟨d, u, m⟩
                rw [hop] at he
                simp only at he
                cases hck : (Nat.ble m (100064 + 64 * o.dst.getD 0) && freshIds s u) with
                | false => rw [hck] at he; simp at he
                | true =>
                  rw [hck] at he
                  simp only [cond_true] at he
                  simp only [Bool.and_eq_true] at hck
                  have hdp : dp = true := by
                    simp only [Bool.or_eq_false_iff] at hf
                    simpa using hf.1.1
                  subst hdp
                  have hm : s.ment id = true := ev_ment hx (by simp [D.ment])
                  obtain ⟨cur, et, σ', φ', hh, hs, hc, hsh, hrep⟩ := h.focus hb hm hxi ht hd hy' hσ hop hck.2
                  have hl := run_loadVar' (hG.ty _ _ hty) hh (by omega : off + i * e.size + offAt e path + τ'.size ≤ cur.size)
                  refine wp_value (w' := w) (v := vof τ' (seg cur (off + i * e.size + offAt e path) τ'.size)) ?_ (fin_good rfl hc (repU_vof hsh (hrep _ _)) he)
                  simp [execOp, ho, hv, Instr.loadAt, Instr.sureAddr, hl]
              · simp at he
          · simp at he
        · simp at he
    · simp at he
  · simp at he

end
end KF

namespace KF
open Go

section
variable {P : Program} {Out : Type} {n0 : Nat} {A : Fx} {O0 : Nat → Prop} {w0 w w' : World} {s : AS} {σ σ' : Nat → Value} {φ φ' : Nat → List Nat} {a : Act}
variable {o : Oper} {Q : Exit → Act → World → Prop} {k : AS → Option Out} {out : Out} {d : D} {v : Value} {upd : List (Nat × Option Blk)} {dst : Option Tmp} {G : Env}

theorem aop_ok (hG : EnvOk P G) (h : Conc n0 A O0 w0 s σ φ a w) (he : aop G s o k = some out) : o.wp P a w (Good n0 A O0 w0 k out) Q := by
  have hT := hG.toEnvTy
  cases ho : o.op with
  | move x => exact op_move h (.inl ho) (by simp only [aop, aopK, ho] at he; cases hx : s.ev x with | none => simp [hx] at he | some d => simpa [hx] using he)
  | assign x => exact op_move h (.inr ho) (by simp only [aop, aopK, ho] at he; cases hx : s.ev x with | none => simp [hx] at he | some d => simpa [hx] using he)
  | pick c x y => exact op_pick h ho he
  | alloc t => exact op_alloc hT h ho he
  | box t x => exact op_box hT h ho he
  | build t ps => exact op_build hT h ho he
  | buildSlice t n ps => exact op_buildSlice hT h ho he
  | load t x => exact op_load hT h ho he
  | store t x y => exact op_store hT h ho he
  | nilCheck x => exact op_nilCheck h ho he
  | binOp op t x y t' => exact op_binOp' hT h ho he
  | unOp op t x => exact op_unOp h ho he
  | convert src t x => exact op_convert hT h ho he
  | slice t x lo hi max => 
    cases max with
    | none => exact op_slice hT h ho he
    | some m => simp [aop, aopK, ho] at he
  | fieldAddr t x f => exact op_fieldAddr hT h ho he
  | field t x f => exact op_field hT h ho he
  | indexAddr t x i => exact op_indexAddr hT h ho he
  | index t x i => exact op_index h hT ho he
  | makeSlice t l c => exact op_makeSlice hT h ho he
  | extract x n => exact op_extract h ho he
  | call c =>
    obtain ⟨callee, args, ts⟩ := c
    cases callee with
    | value f =>
      cases f with
      | func f => exact op_call hG h ho he
      | _ => simp [aop, aopK, ho] at he
    | invoke r m => simp [aop, aopK, ho] at he
    | builtin b =>
      cases b with
      | len => exact op_len hT h ho he
      | append => exact op_append hT h ho he
      | copy => exact op_copy hT h ho he
      | max => exact op_max h ho he
      | min => exact op_min h ho he
      | _ => simp [aop, aopK, ho] at he
  | _ => simp [aop, aopK, ho] at he
end
end KF

namespace KF
open Go

/-! ### What an operation looks at -/
/-- the ids that an operation may make -/
def newIdsOf (dst : Option Tmp) (id : Nat) : Prop := dst = some id ∨ (100000 + 64 * dst.getD 0 ≤ id ∧ id < 100064 + 64 * dst.getD 0)

/-- two states that are alike to an operation -/
structure Agr (s s' : AS) (o : Oper) : Prop where
  ev : ∀ x, x ∈ opnds o.op → s'.ev x = s.ev x
  hp : ∀ x, x ∈ opnds o.op → ∀ d, s.ev x = some d → ∀ id, d.ment id = true → s'.heap id = s.heap id
  nw : ∀ id, newIdsOf o.dst id → s'.newOk id = s.newOk id

def AgD (s s' : AS) (d : D) : Prop := ∀ id, d.ment id = true → s'.heap id = s.heap id

section
variable {s s' : AS} {G : Env} {o : Oper} {Out : Type}

theorem AgD.left {a b : D} (h : AgD s s' (.pr a b)) : AgD s s' a := fun id hi => h id (by simp [D.ment, hi])
theorem AgD.right {a b : D} (h : AgD s s' (.pr a b)) : AgD s s' b := fun id hi => h id (by simp [D.ment, hi])
theorem AgD.own {id : Nat} (h : AgD s s' (.own id)) : s'.heap id = s.heap id := h id (by simp [D.ment])
theorem AgD.ptr {id : Nat} {p : List Nat} (h : AgD s s' (.ptr id p)) : s'.heap id = s.heap id := h id (by simp [D.ment])
theorem AgD.eptr {id i : Nat} {p : List Nat} (h : AgD s s' (.eptr id i p)) : s'.heap id = s.heap id := h id (by simp [D.ment])

theorem viewT_congr : ∀ {d : D} {τ : Ty}, AgD s s' d → viewT s' d τ = viewT s d τ := by
  intro d
  induction d with
  | pr a b iha ihb =>
    intro τ h
    cases τ with
    | p x y => simp only [viewT, iha h.left, ihb h.right]
    | _ => rfl
  | own id => intro τ h; cases τ <;> simp [viewT, h.own]
  | _ => intro τ h; cases τ <;> rfl

theorem ownT_congr : ∀ {d : D} {τ : Ty}, AgD s s' d → ownT s' d τ = ownT s d τ := by
  intro d
  induction d with
  | pr a b iha ihb =>
    intro τ h
    cases τ with
    | p x y => simp only [ownT, iha h.left, ihb h.right]
    | _ => rfl
  | own id => intro τ h; cases τ <;> simp [ownT, h.own]
  | _ => intro τ h; cases τ <;> rfl

theorem evs_congr : ∀ {l : List Operand}, (∀ x, x ∈ l → s'.ev x = s.ev x) → evs s' l = evs s l
  | [], _ => rfl
  | x :: r, h => by simp only [evs, h x (by simp), evs_congr fun y hy => h y (List.mem_cons_of_mem _ hy)]

theorem evs_ag : ∀ {l : List Operand} {d : D}, evs s l = some d → (∀ x, x ∈ l → ∀ d, s.ev x = some d → AgD s s' d) → AgD s s' d
  | [], d, h, _ => by
    simp only [evs, Option.some.injEq] at h
    subst h
    intro id hi; simp [D.ment] at hi
  | x :: r, d, h, ha => by
    simp only [evs] at h
    split at h
    · rename_i d1 d2 h1 h2
      simp only [Option.some.injEq] at h
      subst h
      intro id hi
      simp only [D.ment, Bool.or_eq_true] at hi
      rcases hi with hi | hi
      · exact ha x (by simp) d1 h1 id hi
      · exact evs_ag h2 (fun y hy => ha y (List.mem_cons_of_mem _ hy)) id hi
    · simp at h

theorem fills_congr {τ : Ty} : ∀ {ps : List (Nat × Operand)} {d : D}, (∀ x, x ∈ ps.map (·.2) → s'.ev x = s.ev x) → fills s' τ d ps = fills s τ d ps
  | [], _, _ => rfl
  | (i, x) :: r, d, h => by
    simp only [fills, h x (by simp)]
    split
    · rename_i e τ' _ _
      cases shapeB τ' e with
      | false => rfl
      | true =>
        simp only [cond_true]
        split
        · exact fills_congr fun y hy => h y (List.mem_cons_of_mem _ hy)
        · rfl
    · rfl

theorem lits_congr {e : Ty} : ∀ {ps : List (Nat × Operand)} {n : Nat}, (∀ x, x ∈ ps.map (·.2) → s'.ev x = s.ev x) → (∀ x, x ∈ ps.map (·.2) → ∀ d, s.ev x = some d → AgD s s' d) → lits s' e n ps = lits s e n ps
  | [], _, _, _ => rfl
  | (i, x) :: r, n, h, ha => by
    have ih := lits_congr (e := e) (ps := r) (n := n + 1) (fun y hy => h y (List.mem_cons_of_mem _ hy)) (fun y hy => ha y (List.mem_cons_of_mem _ hy))
    simp only [lits, h x (by simp)]
    cases Nat.beq i n with
    | false => rfl
    | true =>
      simp only [cond_true]
      cases hx : s.ev x with
      | none => rfl
      | some d => simp only [ownT_congr (ha x (by simp) d hx), ih]

theorem litsV_congr {e : Ty} : ∀ {ps : List (Nat × Operand)} {n : Nat}, (∀ x, x ∈ ps.map (·.2) → s'.ev x = s.ev x) → litsV s' e n ps = litsV s e n ps
  | [], _, _ => rfl
  | (i, x) :: r, n, h => by
    have ih := litsV_congr (e := e) (ps := r) (n := n + 1) (fun y hy => h y (List.mem_cons_of_mem _ hy))
    simp only [litsV, h x (by simp), ih]

theorem loD_congr {x : Option Operand} (h : ∀ y, x = some y → s'.ev y = s.ev y) : loD s' x = loD s x := by
  cases x with
  | none => rfl
  | some y => simp only [loD, h y rfl]
theorem hiD_congr {x : Option Operand} {n : Nat} (h : ∀ y, x = some y → s'.ev y = s.ev y) : hiD s' n x = hiD s n x := by
  cases x with
  | none => rfl
  | some y => simp only [hiD, h y rfl]

theorem srcD_congr {e : Ty} {d : D} (h : AgD s s' d) : srcD s' e d = srcD s e d := by
  cases d with
  | own id => simp only [srcD, h.own]
  | t τ x => cases τ <;> rfl
  | _ => rfl
theorem dstD_congr {e : Ty} {d : D} (h : AgD s s' d) : dstD s' e d = dstD s e d := by
  cases d with
  | own id => simp only [dstD, h.own]
  | _ => rfl

theorem freshIds_congr {u : List (Nat × Option Blk)} (h : ∀ p, p ∈ u → s'.newOk p.1 = s.newOk p.1) : freshIds s' u = freshIds s u := by
  unfold freshIds
  congr 1
  induction u with
  | nil => rfl
  | cons p u ih => simp only [List.all_cons, h p (by simp), ih fun q hq => h q (List.mem_cons_of_mem _ hq)]

theorem openD_ids : ∀ {τ : Ty} {x : T τ} {n m : Nat} {d : D} {l : List (Nat × Option Blk)}, openD τ x n = (d, l, m) → n ≤ m ∧ ∀ p, p ∈ l → n ≤ p.1 ∧ p.1 < m
  | .i k, x, n, m, d, l, he => by simp only [openD, Prod.mk.injEq] at he; obtain ⟨rfl, rfl, rfl⟩ := he; simp
  | .b, x, n, m, d, l, he => by simp only [openD, Prod.mk.injEq] at he; obtain ⟨rfl, rfl, rfl⟩ := he; simp
  | .s, x, n, m, d, l, he => by simp only [openD, Prod.mk.injEq] at he; obtain ⟨rfl, rfl, rfl⟩ := he; simp
  | .u, x, n, m, d, l, he => by simp only [openD, Prod.mk.injEq] at he; obtain ⟨rfl, rfl, rfl⟩ := he; simp
  | .sl e, x, n, m, d, l, he => by simp only [openD, Prod.mk.injEq] at he; obtain ⟨rfl, rfl, rfl⟩ := he; simp
  | .p t1 t2, x, n, m, d, l, he => by
    simp only [openD] at he
    rcases ho1 : openD t1 x.1 n with ⟨d1, l1, m1⟩
    rcases ho2 : openD t2 x.2 m1 with ⟨d2, l2, m2⟩
    rw [ho1] at he
    simp only at he
    rw [ho2] at he
    simp only [Prod.mk.injEq] at he
    obtain ⟨rfl, rfl, rfl⟩ := he
    have a := openD_ids ho1
    have b := openD_ids ho2
    refine ⟨by omega, fun p hp => ?_⟩
    rcases List.mem_append.1 hp with hp | hp
    · have := a.2 p hp; omega
    · have := b.2 p hp; omega

theorem openR_ids : ∀ {rt : Ty} {r : T rt} {fr : List Bool} {n m : Nat} {d : D} {l : List (Nat × Option Blk)}, openR rt r fr n = some (d, l, m) → n ≤ m ∧ ∀ p, p ∈ l → n ≤ p.1 ∧ p.1 < m
  | .u, r, [], n, m, d, l, he => by simp only [openR, Option.some.injEq, Prod.mk.injEq] at he; obtain ⟨rfl, rfl, rfl⟩ := he; simp
  | .p t1 t2, r, f :: fr, n, m, d, l, he => by
    simp only [openR] at he
    rcases ho1 : (bif f then openD t1 r.1 n else (.t t1 r.1, [], n)) with ⟨d1, l1, m1⟩
    rw [ho1] at he
    simp only at he
    split at he
    · rename_i d2 l2 m2 ho2
      simp only [Option.some.injEq, Prod.mk.injEq] at he
      obtain ⟨rfl, rfl, rfl⟩ := he
      have b := openR_ids ho2
      have a : n ≤ m1 ∧ ∀ p, p ∈ l1 → n ≤ p.1 ∧ p.1 < m1 := by
        cases f with
        | true => exact openD_ids (by simpa using ho1)
        | false =>
          simp only [cond_false, Prod.mk.injEq] at ho1
          obtain ⟨rfl, rfl, rfl⟩ := ho1
          simp
      refine ⟨by omega, fun p hp => ?_⟩
      rcases List.mem_append.1 hp with hp | hp
      · have := a.2 p hp; omega
      · have := b.2 p hp; omega
    · simp at he
  | .u, _, _ :: _, _, _, _, _, he => by simp [openR] at he
  | .p _ _, _, [], _, _, _, _, he => by simp [openR] at he
  | .i _, _, fr, _, _, _, _, he => by cases fr <;> simp [openR] at he
  | .b, _, fr, _, _, _, _, he => by cases fr <;> simp [openR] at he
  | .s, _, fr, _, _, _, _, he => by cases fr <;> simp [openR] at he
  | .sl _, _, fr, _, _, _, _, he => by cases fr <;> simp [openR] at he

theorem fresh_call {dst : Option Tmp} {u : List (Nat × Option Blk)} {rt : Ty} {r : T rt} {fr : List Bool} {m : Nat} {d : D} (hop : openR rt r fr (100000 + 64 * dst.getD 0) = some (d, u, m)) (hn : ∀ id, newIdsOf dst id → s'.newOk id = s.newOk id) :
    (Nat.ble m (100064 + 64 * dst.getD 0) && freshIds s' u) = (Nat.ble m (100064 + 64 * dst.getD 0) && freshIds s u) := by
  cases hb : Nat.ble m (100064 + 64 * dst.getD 0) with
  | false => rfl
  | true =>
    have hle := Nat.le_of_ble_eq_true hb
    rw [Bool.true_and, Bool.true_and]
    refine freshIds_congr fun p hp => hn p.1 (.inr ?_)
    have := (openR_ids hop).2 p hp
    exact ⟨this.1, by omega⟩

theorem fresh_open {dst : Option Tmp} (hn : ∀ id, newIdsOf dst id → s'.newOk id = s.newOk id) (τ : Ty) (y : T τ) :
    (Nat.ble (openD τ y (100000 + 64 * dst.getD 0)).2.2 (100064 + 64 * dst.getD 0) && freshIds s' (openD τ y (100000 + 64 * dst.getD 0)).2.1) =
      (Nat.ble (openD τ y (100000 + 64 * dst.getD 0)).2.2 (100064 + 64 * dst.getD 0) && freshIds s (openD τ y (100000 + 64 * dst.getD 0)).2.1) := by
  cases hb : Nat.ble (openD τ y (100000 + 64 * dst.getD 0)).2.2 (100064 + 64 * dst.getD 0) with
  | false => rfl
  | true =>
    have hle := Nat.le_of_ble_eq_true hb
    rw [Bool.true_and, Bool.true_and]
    refine freshIds_congr fun p hp => hn p.1 (.inr ?_)
    have := (openD_ids (τ := τ) (x := y) rfl).2 p hp
    exact ⟨this.1, Nat.lt_of_lt_of_le this.2 hle⟩

theorem aCallK_congr {dst : Option Tmp} {f : FuncId} {args : List Operand} {K : D → List (Nat × Option Blk) → Option Out} (hev : ∀ x, x ∈ args → s'.ev x = s.ev x) (hag : ∀ x, x ∈ args → ∀ d, s.ev x = some d → AgD s s' d)
    (hn : ∀ id, newIdsOf dst id → s'.newOk id = s.newOk id) : aCallK G s' dst f args K = aCallK G s dst f args K := by
  unfold aCallK
  split
  · rename_i pt rt fr F _
    rw [evs_congr hev]
    cases hds : evs s args with
    | none => rfl
    | some ds =>
      simp only []
      rw [viewT_congr (evs_ag hds hag)]
      cases viewT s ds pt with
      | none => rfl
      | some x =>
        simp only []
        congr 1
        funext r
        cases hop : openR rt r fr (100000 + 64 * dst.getD 0) with
        | none => rfl
        | some t =>
          obtain ⟨d, u, m⟩ := t
          simp only []
          cases resD d with
          | none => rfl
          | some d' => simp only [fresh_call hop hn]
  · rename_i τ pt rt fr F _
    cases args with
    | nil => rfl
    | cons a0 args =>
      simp only []
      rw [hev a0 (by simp), evs_congr fun x hx => hev x (List.mem_cons_of_mem _ hx)]
      cases h0 : s.ev a0 with
      | none => rfl
      | some d0 =>
        cases hds : evs s args with
        | none => rfl
        | some ds =>
          simp only []
          rw [ownT_congr (hag a0 (by simp) d0 h0), viewT_congr (evs_ag hds fun x hx => hag x (List.mem_cons_of_mem _ hx))]
          cases ownT s d0 τ with
          | none => rfl
          | some xl =>
            obtain ⟨x0, l⟩ := xl
            cases viewT s ds pt with
            | none => rfl
            | some x =>
              simp only []
              congr 1
              funext r
              cases hop : openR rt r.2 fr (100000 + 64 * dst.getD 0) with
              | none => rfl
              | some t =>
                obtain ⟨d, u, m⟩ := t
                simp only []
                cases resD d with
                | none => rfl
                | some d' => simp only [fresh_call hop hn]
  · rfl

theorem aAppendK_congr {dst : Option Tmp} {t tx : TypeId} {x y : Operand} {K : D → List (Nat × Option Blk) → Option Out} (hx : s'.ev x = s.ev x) (hy : s'.ev y = s.ev y)
    (ax : ∀ d, s.ev x = some d → AgD s s' d) (ay : ∀ d, s.ev y = some d → AgD s s' d) (hn : ∀ id, newIdsOf dst id → s'.newOk id = s.newOk id) : aAppendK G s' dst t tx x y K = aAppendK G s dst t tx x y K := by
  unfold aAppendK
  rw [hx, hy]
  split
  · rename_i tt e da db _ h2 h3
    rw [dstD_congr (ax _ h2), srcD_congr (ay _ h3), hn tt (.inl rfl)]
  · rfl

theorem aCopyK_congr {t tx : TypeId} {x y : Operand} {K : D → List (Nat × Option Blk) → Option Out} (hx : s'.ev x = s.ev x) (hy : s'.ev y = s.ev y)
    (ax : ∀ d, s.ev x = some d → AgD s s' d) (ay : ∀ d, s.ev y = some d → AgD s s' d) : aCopyK G s' t tx x y K = aCopyK G s t tx x y K := by
  unfold aCopyK
  rw [hx, hy]
  split
  · rename_i e id db _ h2 h3
    rw [ax _ h2 id (by simp [D.ment])]
    split
    · rw [srcD_congr (ay _ h3)]
    · rfl
  · rfl

/-- AN OPERATION LOOKS AT NOTHING ELSE. -/
theorem aopK_congr {K : D → List (Nat × Option Blk) → Option Out} (h : Agr s s' o) : aopK G s' o K = aopK G s o K := by
  obtain ⟨hev, hag, hn⟩ := h
  have hag' : ∀ x, x ∈ opnds o.op → ∀ d, s.ev x = some d → AgD s s' d := hag
  cases ho : o.op with
  | move x => rw [ho] at hev; simp only [aopK, ho, hev x (by simp [opnds])]
  | assign x => rw [ho] at hev; simp only [aopK, ho, hev x (by simp [opnds])]
  | pick c x y => rw [ho] at hev; simp only [aopK, ho, hev c (by simp [opnds]), hev x (by simp [opnds]), hev y (by simp [opnds])]
  | alloc t =>
    simp only [aopK, ho]
    split
    · rename_i tt τ hd _; rw [hn tt (.inl hd)]
    · rfl
  | box t x =>
    rw [ho] at hev
    simp only [aopK, ho, hev x (by simp [opnds])]
    split
    · rename_i tt τ d hd _ _; rw [hn tt (.inl hd)]
    · rfl
  | build t ps =>
    rw [ho] at hev
    have := fun τ d => fills_congr (s := s) (s' := s') (τ := τ) (ps := ps.toList) (d := d) hev
    simp only [aopK, ho, this]
  | buildSlice t n ps =>
    rw [ho] at hev hag'
    have h1 := fun e n => lits_congr (s := s) (s' := s') (e := e) (ps := ps.toList) (n := n) hev hag'
    have h2 := fun e n => litsV_congr (s := s) (s' := s') (e := e) (ps := ps.toList) (n := n) hev
    simp only [aopK, ho, h1, h2]
    split
    · rename_i tt e hd _
      rw [hn tt (.inl hd)]
    · rfl
  | load t x =>
    rw [ho] at hev hag'
    simp only [aopK, ho, hev x (by simp [opnds])]
    split
    · rename_i hx; rw [(hag' x (by simp [opnds]) _ hx).ptr]
    · rfl
    · rename_i hx; rw [(hag' x (by simp [opnds]) _ hx).eptr]; simp only [fresh_open hn]
    · rfl
  | store t x y =>
    rw [ho] at hev hag'
    simp only [aopK, ho, hev x (by simp [opnds]), hev y (by simp [opnds])]
    split
    · rename_i hx _; rw [(hag' x (by simp [opnds]) _ hx).ptr]
    · rename_i dv _ hx hy
      have := fun τ => ownT_congr (τ := τ) (hag' y (by simp [opnds]) _ hy)
      simp only [(hag' x (by simp [opnds]) _ hx).eptr, this]
    · rfl
  | nilCheck x =>
    rw [ho] at hev hag'
    simp only [aopK, ho, hev x (by simp [opnds])]
    split
    · rename_i hx; rw [(hag' x (by simp [opnds]) _ hx).ptr]
    · rfl
    · rfl
  | binOp op t x y t' => rw [ho] at hev; simp only [aopK, ho, hev x (by simp [opnds]), hev y (by simp [opnds])]
  | unOp op t x => rw [ho] at hev; simp only [aopK, ho, hev x (by simp [opnds])]
  | convert src t x =>
    rw [ho] at hev hag'
    simp only [aopK, ho, hev x (by simp [opnds])]
    split
    · rfl
    · rfl
    · rename_i hx; rw [viewT_congr (hag' x (by simp [opnds]) _ hx)]
    · rfl
    · rfl
  | slice t x lo hi mx =>
    rw [ho] at hev
    have h1 : loD s' lo = loD s lo := loD_congr fun y hy => hev y (by simp [opnds, hy])
    have h2 := fun n => hiD_congr (s := s) (s' := s') (x := hi) (n := n) fun y hy => hev y (by simp [opnds, hy])
    cases mx with
    | some m => simp only [aopK, ho]
    | none => simp only [aopK, ho, hev x (by simp [opnds]), h1, h2]
  | fieldAddr t x f =>
    rw [ho] at hev hag'
    simp only [aopK, ho, hev x (by simp [opnds])]
    split
    · rename_i hx; rw [(hag' x (by simp [opnds]) _ hx).ptr]
    · rename_i hx; rw [(hag' x (by simp [opnds]) _ hx).eptr]
    · rfl
    · rfl
  | field t x f => rw [ho] at hev; simp only [aopK, ho, hev x (by simp [opnds])]
  | indexAddr t x i =>
    rw [ho] at hev hag'
    simp only [aopK, ho, hev x (by simp [opnds]), hev i (by simp [opnds])]
    split
    · rfl
    · rename_i hx _; rw [(hag' x (by simp [opnds]) _ hx).own]
    · rfl
  | index t x i => rw [ho] at hev; simp only [aopK, ho, hev x (by simp [opnds]), hev i (by simp [opnds])]
  | makeSlice t l c =>
    rw [ho] at hev
    simp only [aopK, ho, hev l (by simp [opnds]), hev c (by simp [opnds])]
    split
    · rename_i hd _ _ _; rw [hn _ (.inl hd)]
    · rfl
  | extract x n => rw [ho] at hev; simp only [aopK, ho, hev x (by simp [opnds])]
  | call c =>
    obtain ⟨callee, args, ts⟩ := c
    rw [ho] at hev hag'
    simp only [opnds] at hev hag'
    cases callee with
    | value f =>
      cases f with
      | func f => simp only [aopK, ho]; exact aCallK_congr hev hag' hn
      | _ => simp only [aopK, ho]
    | invoke r m => simp only [aopK, ho]
    | builtin b =>
      cases b with
      | len =>
        simp only [aopK, ho]
        split
        · rename_i x t hx _
          rw [hev x (by rw [hx]; simp)]
          split
          · rfl
          · rfl
          · rfl
          · rename_i hd; rw [(hag' x (by rw [hx]; simp) _ hd).own]
          · rfl
        · rfl
      | append =>
        simp only [aopK, ho]
        split
        · rename_i x y t tx hx _
          exact aAppendK_congr (hev x (by rw [hx]; simp)) (hev y (by rw [hx]; simp)) (hag' x (by rw [hx]; simp)) (hag' y (by rw [hx]; simp)) hn
        · rfl
      | copy =>
        simp only [aopK, ho]
        split
        · rename_i x y t tx hx _
          exact aCopyK_congr (hev x (by rw [hx]; simp)) (hev y (by rw [hx]; simp)) (hag' x (by rw [hx]; simp)) (hag' y (by rw [hx]; simp))
        · rfl
      | max =>
        simp only [aopK, ho]
        split
        · rename_i x y hx
          rw [hev x (by rw [hx]; simp), hev y (by rw [hx]; simp)]
        · rfl
      | min =>
        simp only [aopK, ho]
        split
        · rename_i x y hx
          rw [hev x (by rw [hx]; simp), hev y (by rw [hx]; simp)]
        · rfl
      | _ => simp only [aopK, ho]
  | _ => simp only [aopK, ho]

end
end KF

namespace KF
open Go

theorem cond_none_some {α : Type} {c : Bool} {x : Option α} {r : α} : (bif c then x else none) = some r ↔ c = true ∧ x = some r := by cases c <;> simp
theorem none_cond_some {α : Type} {c : Bool} {x : Option α} {r : α} : (bif c then none else x) = some r ↔ c = false ∧ x = some r := by cases c <;> simp

section
variable {s s' : AS} {G : Env} {o : Oper} {Out : Type} {K : D → List (Nat × Option Blk) → Option Out} {out : Out}

theorem aBinK_nat {tb : Bool} {op : BinOp} {a b : D} (he : aBinK tb op a b K = some out) : ∃ d u, K d u = some out ∧ ∀ (Out' : Type) (K' : D → List (Nat × Option Blk) → Option Out'), aBinK tb op a b K' = K' d u := by
  unfold aBinK at he ⊢
  split at he
  · split at he
    · simp only [cond_none_some] at he; exact ⟨_, _, he.2, fun _ _ => by simp [he.1]⟩
    · simp only [cond_none_some] at he; exact ⟨_, _, he.2, fun _ _ => by simp [he.1]⟩
    · simp only [cond_none_some] at he
      obtain ⟨hk, he⟩ := he
      simp only [hk, cond_true]
      split at he
      all_goals first
        | exact ⟨_, _, he, fun _ _ => rfl⟩
        | (simp only [none_cond_some] at he; exact ⟨_, _, he.2, fun _ _ => by simp [he.1]⟩)
        | simp at he
  · split at he
    · simp only [cond_none_some] at he; exact ⟨_, _, he.2, fun _ _ => by simp [he.1]⟩
    · exact ⟨_, _, he, fun _ _ => rfl⟩
    · exact ⟨_, _, he, fun _ _ => rfl⟩
    · simp at he
  · split at he
    · simp only [cond_none_some] at he; exact ⟨_, _, he.2, fun _ _ => by simp [he.1]⟩
    · simp only [cond_none_some] at he; exact ⟨_, _, he.2, fun _ _ => by simp [he.1]⟩
    · simp at he
  · simp at he

theorem aCallK_nat {dst : Option Tmp} {f : FuncId} {args : List Operand} (he : aCallK G s dst f args K = some out) : ∃ d u, K d u = some out ∧ ∀ (Out' : Type) (K' : D → List (Nat × Option Blk) → Option Out'), aCallK G s dst f args K' = K' d u := by
  unfold aCallK at he ⊢
  split at he
  · rename_i h1
    split at he
    · rename_i h2
      split at he
      · rename_i h3
        simp only [Option.bind_eq_some_iff] at he
        obtain ⟨r, h4, he⟩ := he
        split at he
        · rename_i h5
          split at he
          · rename_i h6
            simp only [cond_none_some] at he
            exact ⟨_, _, he.2, fun _ _ => by simp [h4, h5, h6, he.1]⟩
          · simp at he
        · simp at he
      · simp at he
    · simp at he
  · rename_i h1
    split at he
    · split at he
      · rename_i h2 h3
        split at he
        · rename_i h4 h5
          simp only [Option.bind_eq_some_iff] at he
          obtain ⟨r, h6, he⟩ := he
          split at he
          · rename_i h7
            split at he
            · rename_i h8
              simp only [cond_none_some] at he
              exact ⟨_, _, he.2, fun _ _ => by simp [h6, h7, h8, he.1]⟩
            · simp at he
          · simp at he
        · simp at he
      · simp at he
    · simp at he
  · simp at he

theorem aAppendK_nat {dst : Option Tmp} {t tx : TypeId} {x y : Operand} (he : aAppendK G s dst t tx x y K = some out) : ∃ d u, K d u = some out ∧ ∀ (Out' : Type) (K' : D → List (Nat × Option Blk) → Option Out'), aAppendK G s dst t tx x y K' = K' d u := by
  unfold aAppendK at he ⊢
  split at he
  · rename_i h1 h2 h3
    split at he
    · rename_i h4 h5
      simp only [cond_none_some] at he
      exact ⟨_, _, he.2.2, fun _ _ => by simp [he.1, he.2.1]⟩
    · simp at he
  · simp at he

theorem aCopyK_nat {t tx : TypeId} {x y : Operand} (he : aCopyK G s t tx x y K = some out) : ∃ d u, K d u = some out ∧ ∀ (Out' : Type) (K' : D → List (Nat × Option Blk) → Option Out'), aCopyK G s t tx x y K' = K' d u := by
  unfold aCopyK at he ⊢
  split at he
  · split at he
    · rename_i h4
      split at he
      · rename_i h5 h6
        simp only [cond_none_some] at he
        exact ⟨_, _, he.2.2, fun _ _ => by simp [he.1, he.2.1]⟩
      · simp at he
    · simp at he
  · simp at he

theorem aopK_nat (he : aopK G s o K = some out) : ∃ d u, K d u = some out ∧ ∀ (Out' : Type) (K' : D → List (Nat × Option Blk) → Option Out'), aopK G s o K' = K' d u := by
  cases ho : o.op with
  | move x => simp only [aopK, ho] at he ⊢; split at he <;> first | (simp at he; done) | (rename_i h1; exact ⟨_, _, he, fun _ _ => by simp⟩)
  | assign x => simp only [aopK, ho] at he ⊢; split at he <;> first | (simp at he; done) | (rename_i h1; exact ⟨_, _, he, fun _ _ => by simp⟩)
  | pick c x y =>
    simp only [aopK, ho] at he ⊢
    split at he
    · rename_i β hc
      cases hb : (show Bool from β) with
      | true =>
        have hb' : β = true := hb
        subst hb'
        simp only [cond_true] at he
        split at he
        · rename_i h1; exact ⟨_, _, he, fun _ _ => by simp⟩
        · simp at he
      | false =>
        have hb' : β = false := hb
        subst hb'
        simp only [cond_false] at he
        split at he
        · rename_i h1; exact ⟨_, _, he, fun _ _ => by simp⟩
        · simp at he
    · simp at he
  | alloc t =>
    simp only [aopK, ho] at he ⊢
    split at he
    · rename_i h1 h2; simp only [cond_none_some] at he; exact ⟨_, _, he.2, fun _ _ => by simp [he.1]⟩
    · simp at he
  | box t x =>
    simp only [aopK, ho] at he ⊢
    split at he
    · rename_i h1 h2 h3; simp only [cond_none_some] at he; exact ⟨_, _, he.2, fun _ _ => by simp [he.1]⟩
    · simp at he
  | build t ps =>
    simp only [aopK, ho] at he ⊢
    split at he
    · rename_i h1
      split at he
      · rename_i h2; simp only [cond_none_some] at he; exact ⟨_, _, he.2, fun _ _ => by simp [he.1]⟩
      · simp at he
    · simp at he
  | buildSlice t n ps =>
    simp only [aopK, ho] at he ⊢
    split at he
    · rename_i h1 h2
      split at he
      · rename_i h3; simp only [cond_none_some] at he; exact ⟨_, _, he.2, fun _ _ => by simp [he.1]⟩
      · rename_i h3
        split at he
        · rename_i h4; simp only [cond_none_some] at he; exact ⟨_, _, he.2, fun _ _ => by simp [he.1]⟩
        · simp at he
    · simp at he
  | load t x =>
    simp only [aopK, ho] at he ⊢
    split at he
    · rename_i h1 h2
      split at he
      · rename_i h3
        split at he
        · rename_i h4 h5
          split at he
          · rename_i h6; exact ⟨_, _, he, fun _ _ => by simp⟩
          · simp at he
        · simp at he
      · simp at he
    · rename_i h1 h2
      split at he
      · rename_i h3; exact ⟨_, _, he, fun _ _ => by simp⟩
      · simp at he
    · rename_i h1 h2
      split at he
      · rename_i h3
        simp only [Option.bind_eq_some_iff] at he
        obtain ⟨z, hz, he⟩ := he
        split at he
        · rename_i τ' y h4 h5
          split at he
          · rename_i h6
            cases hc : ((!_ || Ty.flat _) || Ty.flat _) with
            | true =>
              rw [hc] at he
              exact ⟨_, _, he, fun _ _ => by simp only [hz, Option.bind_some, h4, h5, h6, hc, cond_true]⟩
            | false =>
              rw [hc] at he
              simp only [cond_false] at he
              split at he
              · rename_i h7
                simp only [cond_none_some] at he
                obtain ⟨hc2, he⟩ := he
                exact ⟨_, _, he, fun _ _ => by simp only [hz, Option.bind_some, h4, h5, h6, hc, cond_false, h7, hc2, cond_true]⟩
              · simp at he
          · simp at he
        · simp at he
      · simp at he
    · simp at he
  | store t x y =>
    simp only [aopK, ho] at he ⊢
    split at he
    · rename_i h1 h2 h3
      split at he
      · rename_i h4
        split at he
        · rename_i h5 h6
          split at he
          · rename_i h7; simp only [cond_none_some] at he; exact ⟨_, _, he.2, fun _ _ => by simp [he.1]⟩
          · simp at he
        · simp at he
      · simp at he
    · rename_i h1 h2 h3
      split at he
      · rename_i e dp xs h4
        split at he
        · rename_i h5
          split at he
          · rename_i h6
            cases hf : (dp || e.flat) with
            | true =>
              rw [hf] at he
              simp only [cond_true] at he
              split at he
              · rename_i h7
                simp only [cond_none_some, Option.bind_eq_some_iff] at he
                obtain ⟨hc, z, hz, he⟩ := he
                split at he
                · rename_i h8; exact ⟨_, _, he, fun _ _ => by simp only [hc, cond_true, hz, Option.bind_some, h8]⟩
                · simp at he
              · simp at he
            | false =>
              rw [hf] at he
              simp only [cond_false] at he
              split at he
              · rename_i h7
                simp only [Option.bind_eq_some_iff] at he
                obtain ⟨z, hz, he⟩ := he
                split at he
                · rename_i h8; exact ⟨_, _, he, fun _ _ => by simp only [cond_false, hz, Option.bind_some, h8]⟩
                · simp at he
              · simp at he
          · simp at he
        · simp at he
      · split at he
        · rename_i h5
          split at he
          · rename_i h6
            split at he
            · rename_i h7
              simp only [cond_none_some] at he
              obtain ⟨hc, hd, he⟩ := he
              split at he
              · rename_i h8; exact ⟨_, _, he, fun _ _ => by simp only [hc, hd, cond_true]⟩
              · simp at he
            · simp at he
          · simp at he
        · simp at he
      · simp at he
    · simp at he
  | nilCheck x =>
    simp only [aopK, ho] at he ⊢
    split at he
    · rename_i h1
      split at he
      · rename_i h2; exact ⟨_, _, he, fun _ _ => by simp⟩
      · simp at he
    · rename_i h1; exact ⟨_, _, he, fun _ _ => by simp⟩
    · simp at he
  | binOp op t x y t' =>
    simp only [aopK, ho] at he ⊢
    split at he
    · rename_i u v h1 h2
      cases ha : u.isAgg with
      | true =>
        rw [ha] at he
        simp only [cond_true] at he
        split at he
        · rename_i h3
          split at he
          · rename_i h4 h5
            simp only [cond_none_some] at he
            obtain ⟨hc, he⟩ := he
            split at he
            · exact ⟨_, _, he, fun _ _ => by simp only [cond_true, h3, hc]⟩
            · exact ⟨_, _, he, fun _ _ => by simp only [cond_true, h3, hc]⟩
            · simp at he
          · simp at he
        · simp at he
      | false =>
        rw [ha] at he
        simp only [cond_false] at he
        obtain ⟨d, u', h3, h4⟩ := aBinK_nat he
        exact ⟨d, u', h3, fun _ _ => by simp only [cond_false]; exact h4 _ _⟩
    · simp at he
  | unOp op t x =>
    simp only [aopK, ho] at he ⊢
    split at he
    · rename_i h1; exact ⟨_, _, he, fun _ _ => by simp⟩
    · rename_i h1; exact ⟨_, _, he, fun _ _ => by simp⟩
    · simp at he
  | convert src t x =>
    simp only [aopK, ho] at he ⊢
    split at he
    · rename_i h1 h2 h3; exact ⟨_, _, he, fun _ _ => by simp⟩
    · rename_i h1 h2 h3; exact ⟨_, _, he, fun _ _ => by simp⟩
    · rename_i h1 h2 h3
      split at he
      · rename_i h4; exact ⟨_, _, he, fun _ _ => by simp only⟩
      · simp at he
    · rename_i h1 h2 h3; simp only [cond_none_some] at he; exact ⟨_, _, he.2, fun _ _ => by simp [he.1]⟩
    · simp at he
  | slice t x lo hi mx =>
    cases mx with
    | some m => simp [aopK, ho] at he
    | none =>
      simp only [aopK, ho] at he ⊢
      split at he
      · rename_i h1
        split at he
        · rename_i h2 h3 h4; simp only [cond_none_some] at he; exact ⟨_, _, he.2, fun _ _ => by simp only [he.1, cond_true]⟩
        · simp at he
      · rename_i h1
        split at he
        · rename_i h2 h3 h4
          split at he
          · rename_i h5; simp only [cond_none_some] at he; exact ⟨_, _, he.2, fun _ _ => by simp only [he.1, cond_true]⟩
          · simp at he
        · simp at he
      · simp at he
  | fieldAddr t x f =>
    simp only [aopK, ho] at he ⊢
    split at he
    · rename_i h1 h2
      split at he
      · rename_i h3
        split at he
        · rename_i h4 h5
          split at he
          · rename_i h6; simp only [cond_none_some] at he; exact ⟨_, _, he.2, fun _ _ => by simp only [he.1, cond_true]⟩
          · simp at he
        · simp at he
      · simp at he
    · rename_i h1 h2
      split at he
      · rename_i h3
        split at he
        · rename_i h4 h5
          split at he
          · rename_i h6; simp only [cond_none_some] at he; exact ⟨_, _, he.2, fun _ _ => by simp only [he.1, cond_true]⟩
          · simp at he
        · simp at he
      · simp at he
    · rename_i h1 h2
      split at he
      · rename_i h3 h4 h5; simp only [cond_none_some] at he; exact ⟨_, _, he.2, fun _ _ => by simp only [he.1, cond_true]⟩
      · simp at he
    · simp at he
  | field t x f =>
    simp only [aopK, ho] at he ⊢
    split at he
    · rename_i h1 h2
      simp only [cond_none_some] at he
      obtain ⟨hc, he⟩ := he
      split at he
      · rename_i h3 h4; exact ⟨_, _, he, fun _ _ => by simp only [hc, cond_true]⟩
      · simp at he
    · simp at he
  | indexAddr t x i =>
    simp only [aopK, ho] at he ⊢
    split at he
    · rename_i h1 h2 h3
      split at he
      · rename_i h4
        simp only [Option.bind_eq_some_iff] at he
        obtain ⟨z, hz, he⟩ := he
        exact ⟨_, _, he, fun _ _ => by simp only [hz, Option.bind_some]⟩
      · simp at he
    · rename_i h1 h2 h3
      split at he
      · rename_i h4
        split at he
        · rename_i h5; simp only [cond_none_some] at he; exact ⟨_, _, he.2, fun _ _ => by simp only [he.1, cond_true]⟩
        · simp at he
      · simp at he
    · simp at he
  | index t x i =>
    simp only [aopK, ho] at he ⊢
    split at he
    · rename_i h1 h2 h3
      simp only [Option.bind_eq_some_iff] at he
      obtain ⟨z, hz, he⟩ := he
      exact ⟨_, _, he, fun _ _ => by simp only [hz, Option.bind_some]⟩
    · simp at he
  | makeSlice t l c =>
    simp only [aopK, ho] at he ⊢
    split at he
    · rename_i h1 h2 h3 h4; simp only [cond_none_some] at he; exact ⟨_, _, he.2.2, fun _ _ => by simp only [he.1, he.2.1, cond_true]⟩
    · simp at he
  | extract x n =>
    simp only [aopK, ho] at he ⊢
    split at he
    · rename_i h1
      split at he
      · rename_i h2; exact ⟨_, _, he, fun _ _ => by simp⟩
      · simp at he
    · simp at he
  | call c =>
    obtain ⟨callee, args, ts⟩ := c
    cases callee with
    | value f =>
      cases f with
      | func f => simp only [aopK, ho] at he ⊢; exact aCallK_nat he
      | _ => simp [aopK, ho] at he
    | invoke r m => simp [aopK, ho] at he
    | builtin b =>
      cases b with
      | len =>
        simp only [aopK, ho] at he ⊢
        split at he
        · rename_i h1 h2
          split at he
          · rename_i h3 h4; exact ⟨_, _, he, fun _ _ => by simp only⟩
          · rename_i h3 h4; exact ⟨_, _, he, fun _ _ => by simp only⟩
          · rename_i h3 h4; exact ⟨_, _, he, fun _ _ => by simp only⟩
          · rename_i h3 h4
            split at he
            · rename_i h5; exact ⟨_, _, he, fun _ _ => by simp only⟩
            · simp at he
          · simp at he
        · simp at he
      | append =>
        simp only [aopK, ho] at he ⊢
        split at he
        · rename_i h1 h2
          exact aAppendK_nat he
        · simp at he
      | copy =>
        simp only [aopK, ho] at he ⊢
        split at he
        · exact aCopyK_nat he
        · simp at he
      | max =>
        simp only [aopK, ho] at he ⊢
        split at he
        · rename_i h1
          split at he
          · rename_i h2 h3; simp only [cond_none_some] at he; exact ⟨_, _, he.2, fun _ _ => by simp only [he.1, cond_true]⟩
          · simp at he
        · simp at he
      | min =>
        simp only [aopK, ho] at he ⊢
        split at he
        · rename_i h1
          split at he
          · rename_i h2 h3; simp only [cond_none_some] at he; exact ⟨_, _, he.2, fun _ _ => by simp only [he.1, cond_true]⟩
          · simp at he
        · simp at he
      | _ => simp [aopK, ho] at he
  | _ => simp [aopK, ho] at he

end
end KF

namespace KF
open Go

section
variable {P : Program} {Out : Type} {n0 : Nat} {A : Fx} {O0 : Nat → Prop} {w0 w w' : World} {s s' : AS} {σ σ' : Nat → Value} {φ φ' : Nat → List Nat} {a : Act}
variable {o : Oper} {Q : Exit → Act → World → Prop} {k : AS → Option Out} {out : Out} {d : D} {v : Value} {upd : List (Nat × Option Blk)} {dst : Option Tmp} {G : Env}

/-- two states that say the same -/
structure Eqv (s s' : AS) : Prop where
  n : s'.n = s.n
  tm : ∀ t, aget s'.tm t = aget s.tm t
  hp : ∀ id, s'.heap id = s.heap id

theorem Eqv.refl (s : AS) : Eqv s s := ⟨rfl, fun _ => rfl, fun _ => rfl⟩
theorem Eqv.trans {s1 s2 s3 : AS} (h : Eqv s1 s2) (h' : Eqv s2 s3) : Eqv s1 s3 := ⟨h'.n.trans h.n, fun t => (h'.tm t).trans (h.tm t), fun id => (h'.hp id).trans (h.hp id)⟩
theorem Eqv.symm {s1 s2 : AS} (h : Eqv s1 s2) : Eqv s2 s1 := ⟨h.n.symm, fun t => (h.tm t).symm, fun id => (h.hp id).symm⟩

theorem Conc.eqv (h : Conc n0 A O0 w0 s σ φ a w) (he : Eqv s s') : Conc n0 A O0 w0 s' σ φ a w := by
  have hh : s'.heap = s.heap := funext he.hp
  have hO : OO O0 s' φ = OO O0 s φ := by
    funext b
    simp only [OO, hh]
  refine ⟨by rw [he.n]; exact h.sz, h.df, ?_, ?_, ?_, ?_, ?_, h.o0, h.fr, h.pin⟩
  · intro t d hd
    rw [he.tm] at hd
    rw [hO, hh]
    exact h.tm t d hd
  · intro id blk hb
    rw [hh] at hb
    rw [hO, hh]
    exact h.hp id blk hb
  · intro id blk hb
    rw [hh] at hb
    exact h.nodup id blk hb
  · intro id id' blk blk' hne hb hb'
    rw [hh] at hb hb'
    exact h.disj id id' blk blk' hne hb hb'
  · intro id blk hb
    rw [hh] at hb
    exact h.fresh id blk hb

theorem yielded_bool (h : Conc n0 A O0 w0 s σ φ a w) {ops : Array Oper} {j : Nat} {t : Tmp} {β : Bool} (hj : (ops[j]?).bind (·.dst) = some t) (hd : aget s.tm t = some (.t .b β)) :
    yielded ops a.tmps j = some β := by
  obtain ⟨v, hv, hr⟩ := h.tm t _ hd
  rw [repU_bool] at hr
  subst hr
  unfold yielded
  rw [hj, Option.bind_some, hv]

theorem yielded_und (h : Conc n0 A O0 w0 s σ φ a w) {ops : Array Oper} {j : Nat} {t : Tmp} (hj : (ops[j]?).bind (·.dst) = some t) (hd : aget s.tm t = some .und) :
    yielded ops a.tmps j = none := by
  obtain ⟨v, hv, hr⟩ := h.tm t _ hd
  rw [repU_und] at hr
  subst hr
  unfold yielded
  rw [hj, Option.bind_some, hv]
  rfl

theorem Good.mono {K : Act → World → Prop} (h : ∀ s σ φ a w, k s = some out → Conc n0 A O0 w0 s σ φ a w → K a w) {a : Act} {w : World} (hg : Good n0 A O0 w0 k out a w) : K a w := by
  obtain ⟨s, σ, φ, h1, h2⟩ := hg
  exact h s σ φ a w h1 h2

/-- a guard that is not met -/
theorem skip_ok (h : Conc n0 A O0 w0 s σ φ a w) (he : fin s dst .und [] k = some out) : Good n0 A O0 w0 k out (a.put dst undef) w := fin_pure h (repU_und.2 rfl) he

theorem range_drop {n i : Nat} (h : i < n) : (List.range n).drop i = i :: (List.range n).drop (i + 1) := by
  rw [List.drop_eq_getElem_cons (by simpa using h)]
  simp

/-- a region whose order is that of the text -/
theorem aops_ok (hG : EnvOk P G) (hfz : G.fz = true → ∀ b, ¬ A.A b) {r : Nat} {ops : Array Oper} (hQ : ∀ s σ φ a w, k s = some out → Conc n0 A O0 w0 s σ φ a w → Q .normal a w) : ∀ (l : List Oper) (i : Nat) (s : AS) (σ : Nat → Value) (φ : Nat → List Nat) (a : Act) (w : World),
    ops.toList.drop i = l → aops G r ops l i s k = some out → Conc n0 A O0 w0 s σ φ a w → wpOps P ops Q ((List.range ops.size).drop i) a w
  | [], i, s, σ, φ, a, w, hl, he, h => by
    have hi : ops.size ≤ i := by
      have := congrArg List.length hl
      simp at this
      omega
    rw [List.drop_eq_nil_of_le (by simpa using hi)]
    exact hQ s σ φ a w he h
  | o :: l, i, s, σ, φ, a, w, hl, he, h => by
    have hi : i < ops.size := by
      have := congrArg List.length hl
      simp at this
      omega
    have hoi : ops[i]? = some o := by
      have h1 := congrArg (·[0]?) hl
      simpa using h1
    have hl' : ops.toList.drop (i + 1) = l := by
      have h1 := congrArg (List.drop 1) hl
      simpa [List.drop_drop, Nat.add_comm] using h1
    have next : ∀ a w, Good n0 A O0 w0 (fun s' => aops G r ops l (i + 1) s' k) out a w → wpOps P ops Q ((List.range ops.size).drop (i + 1)) a w := by
      rintro a w ⟨s', σ', φ', h1, h2⟩
      exact aops_ok hG hfz hQ l (i + 1) s' σ' φ' a w hl' h1 h2
    simp only [aops] at he
    split at he
    · simp at he
    rename_i s1 hat
    obtain ⟨φ1, h⟩ := attL_ok hfz h hat
    have run : ∀ s, Conc n0 A O0 w0 s σ φ1 a w → aop G s o (fun s' => aops G r ops l (i + 1) s' k) = some out → o.wp P a w (wpOps P ops Q ((List.range ops.size).drop (i + 1))) Q := fun s hs hop =>
      Oper.wp_mono next (aop_ok hG hs hop)
    have skp : ∀ s, Conc n0 A O0 w0 s σ φ1 a w → fin s o.dst .und [] (fun s' => aops G r ops l (i + 1) s' k) = some out → wpOps P ops Q ((List.range ops.size).drop (i + 1)) (a.put o.dst undef) w := fun s hs hop =>
      next _ _ (skip_ok hs hop)
    rw [range_drop hi]
    simp only [wpOps, hoi]
    cases hg : o.guard with
    | none =>
      rw [hg] at he
      have hw : Region.wanted o (yielded ops a.tmps) = true := by simp [Region.wanted, hg]
      rw [if_pos hw]
      exact .inl (run s1 h he)
    | some g =>
      obtain ⟨j, want⟩ := g
      rw [hg] at he
      simp only at he
      split at he
      · rename_i t ht
        split at he
        · rename_i β hd
          have hy := yielded_bool h ht hd
          have hwd : Region.wanted o (yielded ops a.tmps) = (some β == some want) := by simp [Region.wanted, hg, hy]
          have hs := h.same hd
          rw [hwd]
          cases hβ : (show Bool from β) with
          | true =>
            have hβ' : β = true := hβ
            subst hβ'
            simp only [cond_true] at he
            cases want with
            | true => rw [if_pos (by rfl)]; exact .inl (run _ hs he)
            | false => rw [if_neg (by simp)]; exact skp _ hs he
          | false =>
            have hβ' : β = false := hβ
            subst hβ'
            simp only [cond_false] at he
            cases want with
            | true => rw [if_neg (by simp)]; exact skp _ hs he
            | false => rw [if_pos (by rfl)]; exact .inl (run _ hs he)
        · rename_i hd
          have hy := yielded_und h ht hd
          have hwd : Region.wanted o (yielded ops a.tmps) = false := by simp [Region.wanted, hg, hy]
          rw [hwd, if_neg (by simp)]
          exact skp _ h he
        · simp at he
      · simp at he
end
end KF

namespace KF
open Go

abbrev Ef := D × List (Nat × Option Blk)

def Eff (G : Env) (s : AS) (o : Oper) (e : Ef) : Prop := ∀ (Out' : Type) (K' : D → List (Nat × Option Blk) → Option Out'), aopK G s o K' = K' e.1 e.2

theorem Eff.congr {G : Env} {s s' : AS} {o : Oper} {e : Ef} (h : Eff G s o e) (ha : Agr s s' o) : Eff G s' o e := fun Out' K' => (aopK_congr ha).trans (h Out' K')

def putE (s : AS) (dst : Option Tmp) (e : Ef) : AS := ⟨s.n, (match dst with | some t => [(t, e.1)] | none => []) ++ s.tm, e.2 ++ s.hp⟩

def GStep (G : Env) (ops : Array Oper) (s : AS) (o : Oper) (e : Ef) : Prop :=
  match o.guard with
  | none => Eff G s o e
  | some (j, want) => ∃ t, (ops[j]?).bind (·.dst) = some t ∧ ((∃ β : Bool, aget s.tm t = some (.t .b β) ∧ (if β = want then Eff G s o e else e = (.und, []))) ∨ (aget s.tm t = some .und ∧ e = (.und, [])))

/-- the state behind those operations of the first m that L holds -/
def stL (ops : Array Oper) (E : Nat → Ef) (L : Nat → Bool) (s0 : AS) : Nat → AS
  | 0 => s0
  | m + 1 => match ops[m]? with
    | some o => bif L m then putE (stL ops E L s0 m) o.dst (E m) else stL ops E L s0 m
    | none => stL ops E L s0 m

structure FpOk (ops : Array Oper) (s : AS) (o : Oper) (e : Ef) (f : FP) : Prop where
  wt : f.wt = o.dst
  wi : f.wi = e.2.map (·.1)
  mi : f.mi = e.1.ids ++ updIds e.2
  rt : ∀ t, t ∈ tmpsOf (opnds o.op) → t ∈ f.rt
  rg : ∀ j want t, o.guard = some (j, want) → (ops[j]?).bind (·.dst) = some t → t ∈ f.rt
  ri : ∀ x, x ∈ opnds o.op → ∀ d, s.ev x = some d → ∀ id, d.ment id = true → id ∈ f.ri

structure PM (G : Env) (ops : Array Oper) (s0 : AS) (E : Nat → Ef) (F : Nat → FP) (anc : Nat → List Nat) (m : Nat) (o : Oper) : Prop where
  step : GStep G ops (stL ops E (fun _ => true) s0 m) o (E m)
  fp : FpOk ops (stL ops E (fun _ => true) s0 m) o (E m) (F m)
  dst : ∀ t, o.dst = some t → t < s0.n
  back : ∀ e, e ∈ o.after.toList → Region.binds .any e = true → e.on < m
  up : ∀ x, x ∈ anc m → ∃ e, e ∈ o.after.toList ∧ Region.binds .any e = true ∧ (x = e.on ∨ x ∈ anc e.on)
  ind : ∀ j, j < m → j ∈ anc m ∨ indepB (F j) (F m) = true

/-! ### The Bools -/
theorem memB_iff {l : List Nat} {x : Nat} : memB l x = true ↔ x ∈ l := by
  unfold memB
  rw [List.any_eq_true]
  constructor
  · rintro ⟨y, hy, he⟩
    have := Nat.eq_of_beq_eq_true he
    exact this ▸ hy
  · intro h; exact ⟨x, h, Nat.beq_refl x⟩

theorem meetB_false {l m : List Nat} (h : meetB l m = false) : ∀ x, x ∈ l → x ∉ m := by
  intro x hx hm
  have : meetB l m = true := by
    unfold meetB
    rw [List.any_eq_true]
    exact ⟨x, hx, memB_iff.2 hm⟩
  rw [h] at this; simp at this

theorem wtIn_false {t : Option Nat} {l : List Nat} (h : wtIn t l = false) : ∀ x, t = some x → x ∉ l := by
  rintro x rfl hm
  simp only [wtIn] at h
  rw [memB_iff.2 hm] at h; simp at h

theorem newIn_false {dst : Option Nat} {l : List Nat} (h : newIn dst l = false) : ∀ id, newIdsOf dst id → id ∉ l := by
  intro id hn hm
  have : newIn dst l = true := by
    unfold newIn
    cases dst with
    | some t =>
      simp only []
      rw [List.any_eq_true]
      refine ⟨id, hm, ?_⟩
      rcases hn with hn | hn
      · simp only [Option.some.injEq] at hn
        subst hn
        simp
      · simp only [Option.getD_some] at hn
        have h1 : Nat.ble (100000 + 64 * t) id = true := Nat.ble_eq_true_of_le hn.1
        have h2 : Nat.blt id (100064 + 64 * t) = true := by rw [Nat.blt_eq]; exact hn.2
        simp [h1, h2]
    | none =>
      simp only []
      rw [List.any_eq_true]
      refine ⟨id, hm, ?_⟩
      rcases hn with hn | hn
      · simp at hn
      · simp only [Option.getD_none] at hn
        have hn1 : 100000 ≤ id := by simpa using hn.1
        have hn2 : id < 100064 := by simpa using hn.2
        have h1 : Nat.ble 100000 id = true := Nat.ble_eq_true_of_le hn1
        have h2 : Nat.blt id 100064 = true := by rw [Nat.blt_eq]; exact hn2
        simp [h1, h2]
  rw [h] at this; simp at this

structure Indep (f g : FP) : Prop where
  t1 : ∀ x, f.wt = some x → x ∉ g.rt
  t2 : ∀ x, g.wt = some x → x ∉ f.rt
  t3 : ∀ x, f.wt = some x → g.wt ≠ some x
  i1 : ∀ x, x ∈ f.wi → x ∉ g.ri
  i2 : ∀ x, x ∈ g.wi → x ∉ f.ri
  i3 : ∀ x, x ∈ f.wi → x ∉ g.wi
  n1 : ∀ id, newIdsOf f.wt id → id ∉ g.mi
  n2 : ∀ id, newIdsOf g.wt id → id ∉ f.mi

theorem Indep.symm {f g : FP} (h : Indep f g) : Indep g f :=
  ⟨h.t2, h.t1, fun x hx hf => h.t3 x hf hx, h.i2, h.i1, fun x hx hf => h.i3 x hf hx, h.n2, h.n1⟩

theorem indep_ok {f g : FP} (h : indepB f g = true) : Indep f g := by
  simp only [indepB, Bool.and_eq_true, Bool.not_eq_true'] at h
  obtain ⟨⟨⟨⟨⟨⟨⟨h1, h2⟩, h3⟩, h4⟩, h5⟩, h6⟩, h7⟩, h8⟩ := h
  refine ⟨wtIn_false h1, wtIn_false h2, fun x hx hg => ?_, meetB_false h4, meetB_false h5, meetB_false h6, newIn_false h7, newIn_false h8⟩
  exact wtIn_false h3 x hx (by rw [hg]; simp)

theorem ids_ment : ∀ {d : D} {id : Nat}, d.ment id = true ↔ id ∈ d.ids := by
  intro d
  induction d with
  | pr a b iha ihb => intro id; simp [D.ment, D.ids, iha, ihb]
  | tup d ih => intro id; simp only [D.ment, D.ids]; exact ih
  | own j => intro id; simp only [D.ment, D.ids, List.mem_singleton]; exact ⟨fun h => (Nat.eq_of_beq_eq_true h).symm, fun h => by rw [h]; exact Nat.beq_refl _⟩
  | ptr j p => intro id; simp only [D.ment, D.ids, List.mem_singleton]; exact ⟨fun h => (Nat.eq_of_beq_eq_true h).symm, fun h => by rw [h]; exact Nat.beq_refl _⟩
  | eptr j i p => intro id; simp only [D.ment, D.ids, List.mem_singleton]; exact ⟨fun h => (Nat.eq_of_beq_eq_true h).symm, fun h => by rw [h]; exact Nat.beq_refl _⟩
  | _ => intro id; simp [D.ment, D.ids]

theorem updIds_ment {id : Nat} : ∀ {u : List (Nat × Option Blk)}, (u.any fun x => (x.2.map (Blk.ment id)).getD false) = true ↔ id ∈ updIds u
  | [] => by simp [updIds]
  | (j, none) :: r => by
    simp only [List.any_cons, updIds, Option.map_none, Option.getD_none, Bool.false_or]
    exact updIds_ment (u := r)
  | (j, some b) :: r => by
    simp only [List.any_cons, updIds, Option.map_some, Option.getD_some, Bool.or_eq_true, List.mem_append]
    rw [updIds_ment (u := r)]
    refine or_congr ?_ Iff.rfl
    cases b with
    | box ρ d => simp only [Blk.ment, Blk.ids]; exact ids_ment
    | row e dp xs => simp [Blk.ment, Blk.ids]
    | hol e xs i x p τ d => simp only [Blk.ment, Blk.ids]; exact ids_ment

section
variable {s s' : AS} {e : Ef} {dst : Option Tmp} {G : Env} {ops : Array Oper}

theorem putE_tm {t : Nat} : aget (putE s dst e).tm t = if dst = some t then some e.1 else aget s.tm t := by
  cases dst with
  | none => simp [putE]
  | some t' => simp [putE, aget_cons]

theorem aget_append {α : Type} {l m : List (Nat × α)} {k : Nat} : aget (l ++ m) k = if k ∈ l.map (·.1) then aget l k else aget m k := by
  induction l with
  | nil => simp
  | cons p l ih =>
    obtain ⟨j, a⟩ := p
    rw [List.cons_append, aget_cons, aget_cons, ih]
    by_cases h : j = k
    · subst h; simp
    · have h' : ¬ k = j := fun e => h e.symm
      have hk : k ∈ ((j, a) :: l).map (·.1) ↔ k ∈ l.map (·.1) := by simp [h']
      simp only [hk, if_neg h]

theorem putE_hp {id : Nat} : (putE s dst e).heap id = if id ∈ e.2.map (·.1) then (aget e.2 id).join else s.heap id := by
  simp only [AS.heap, putE, aget_append]
  split <;> rfl

theorem putE_new {id : Nat} (h : id ∉ e.1.ids ++ updIds e.2) : (putE s dst e).newOk id = s.newOk id := by
  rw [List.mem_append, not_or] at h
  have h1 : e.1.ment id = false := by rw [← Bool.not_eq_true]; exact fun hm => h.1 (ids_ment.1 hm)
  have h2 : (e.2.any fun x => (x.2.map (Blk.ment id)).getD false) = false := by rw [← Bool.not_eq_true]; exact fun hm => h.2 (updIds_ment.1 hm)
  unfold AS.newOk
  congr 2
  simp only [AS.ment, putE, List.any_append, h2, Bool.false_or]
  cases dst with
  | none => simp
  | some t => simp [h1]

theorem ev_tmps {x : Operand} {l : List Operand} (hx : x ∈ l) (h : ∀ t, t ∈ tmpsOf l → aget s'.tm t = aget s.tm t) : s'.ev x = s.ev x := by
  cases x with
  | tmp t =>
    refine h t ?_
    induction l with
    | nil => simp at hx
    | cons y l ih =>
      rcases List.mem_cons.1 hx with e | hx2
      · subst e; simp [tmpsOf]
      · cases y with
        | tmp t' => simp only [tmpsOf]; exact List.mem_cons_of_mem _ (ih (fun t ht => h t (by simp only [tmpsOf]; exact List.mem_cons_of_mem _ ht)) hx2)
        | const v => simp only [tmpsOf]; exact ih (fun t ht => h t (by simp only [tmpsOf]; exact ht)) hx2
        | global g => simp only [tmpsOf]; exact ih (fun t ht => h t (by simp only [tmpsOf]; exact ht)) hx2
        | func g => simp only [tmpsOf]; exact ih (fun t ht => h t (by simp only [tmpsOf]; exact ht)) hx2
  | _ => rfl

/-- TWO SETS OF OPERATIONS, APART IN SUCH ALONE AS i DOES NOT MEET: alike to i. -/
theorem stL_agree {E : Nat → Ef} {F : Nat → FP} {L L' : Nat → Bool} {s0 : AS} {f : FP}
    (hF : ∀ m o, ops[m]? = some o → (F m).wt = o.dst ∧ (F m).wi = (E m).2.map (·.1) ∧ (F m).mi = (E m).1.ids ++ updIds (E m).2)
    (hd : ∀ m, m < ops.size → L m ≠ L' m → Indep (F m) f) : ∀ m, m ≤ ops.size →
    (∀ t, t ∈ f.rt → aget (stL ops E L s0 m).tm t = aget (stL ops E L' s0 m).tm t) ∧ (∀ id, id ∈ f.ri → (stL ops E L s0 m).heap id = (stL ops E L' s0 m).heap id) ∧
      (∀ id, newIdsOf f.wt id → (stL ops E L s0 m).newOk id = (stL ops E L' s0 m).newOk id)
  | 0, _ => ⟨fun _ _ => rfl, fun _ _ => rfl, fun _ _ => rfl⟩
  | m + 1, hm => by
    obtain ⟨h1, h2, h3⟩ := stL_agree hF hd m (by omega)
    have hom : ops[m]? = some ops[m] := Array.getElem?_eq_getElem (by omega)
    obtain ⟨g1, g2, g3⟩ := hF m _ hom
    simp only [stL, hom]
    have apart : L m ≠ L' m → Indep (F m) f := hd m (by omega)
    have p1 : ∀ (S : AS) t, L m ≠ L' m → t ∈ f.rt → aget (putE S ops[m].dst (E m)).tm t = aget S.tm t := by
      intro S t hne ht
      rw [putE_tm, if_neg]
      intro hdst
      exact (apart hne).t1 t (g1.trans hdst) ht
    have p2 : ∀ (S : AS) id, L m ≠ L' m → id ∈ f.ri → (putE S ops[m].dst (E m)).heap id = S.heap id := by
      intro S id hne hid
      rw [putE_hp, if_neg]
      intro hk
      exact (apart hne).i1 id (by rw [g2]; exact hk) hid
    have p3 : ∀ (S : AS) id, L m ≠ L' m → newIdsOf f.wt id → (putE S ops[m].dst (E m)).newOk id = S.newOk id := by
      intro S id hne hid
      refine putE_new ?_
      rw [← g3]
      exact (apart hne).n2 id hid
    cases hL : L m <;> cases hL' : L' m <;> simp only [cond_true, cond_false]
    · exact ⟨h1, h2, h3⟩
    · have hne : L m ≠ L' m := by rw [hL, hL']; simp
      exact ⟨fun t ht => (h1 t ht).trans (p1 _ t hne ht).symm, fun id hid => (h2 id hid).trans (p2 _ id hne hid).symm, fun id hid => (h3 id hid).trans (p3 _ id hne hid).symm⟩
    · have hne : L m ≠ L' m := by rw [hL, hL']; simp
      exact ⟨fun t ht => (p1 _ t hne ht).trans (h1 t ht), fun id hid => (p2 _ id hne hid).trans (h2 id hid), fun id hid => (p3 _ id hne hid).trans (h3 id hid)⟩
    · refine ⟨fun t ht => ?_, fun id hid => ?_, fun id hid => ?_⟩
      · rw [putE_tm, putE_tm, h1 t ht]
      · rw [putE_hp, putE_hp, h2 id hid]
      · have e0 := h3 id hid
        unfold AS.newOk at e0 ⊢
        simp only [AS.ment, putE, List.any_append] at e0 ⊢
        revert e0
        generalize ((match ops[m].dst with | some t => [(t, (E m).1)] | none => []).any fun x => x.2.ment id) = b1
        generalize ((E m).2.any fun x => (x.2.map (Blk.ment id)).getD false) = b2
        generalize ((stL ops E L s0 m).tm.any fun x => x.2.ment id) = c1
        generalize ((stL ops E L s0 m).hp.any fun x => (x.2.map (Blk.ment id)).getD false) = c2
        generalize ((stL ops E L' s0 m).tm.any fun x => x.2.ment id) = d1
        generalize ((stL ops E L' s0 m).hp.any fun x => (x.2.map (Blk.ment id)).getD false) = d2
        generalize Nat.blt id 500000 = z
        cases b1 <;> cases b2 <;> cases c1 <;> cases c2 <;> cases d1 <;> cases d2 <;> cases z <;> simp

theorem stL_n {E : Nat → Ef} {L : Nat → Bool} {s0 : AS} : ∀ m, (stL ops E L s0 m).n = s0.n
  | 0 => rfl
  | m + 1 => by
    simp only [stL]
    split
    · cases L m with
      | true => simp only [cond_true, putE]; exact stL_n m
      | false => simp only [cond_false]; exact stL_n m
    · exact stL_n m

theorem stL_congr {E E' : Nat → Ef} {L L' : Nat → Bool} {s0 : AS} : ∀ m, (∀ j, j < m → E j = E' j ∧ L j = L' j) → stL ops E L s0 m = stL ops E' L' s0 m
  | 0, _ => rfl
  | m + 1, h => by
    have ih := stL_congr (E := E) (E' := E') (L := L) (L' := L') (s0 := s0) m fun j hj => h j (by omega)
    simp only [stL, ih, (h m (by omega)).1, (h m (by omega)).2]

theorem stL_none {E : Nat → Ef} {L : Nat → Bool} {s0 : AS} {i : Nat} : ∀ m, i ≤ m → (∀ j, i ≤ j → j < m → L j = false) → stL ops E L s0 m = stL ops E L s0 i
  | 0, h, _ => by have : i = 0 := by omega
                  subst this; rfl
  | m + 1, h, hL => by
    by_cases he : i = m + 1
    · subst he; rfl
    · rw [← stL_none m (by omega) fun j h1 h2 => hL j h1 (by omega)]
      simp only [stL, hL m (by omega) (by omega)]
      split <;> rfl

/-- an operation done last stands as if it had been done in its place -/
theorem stL_add {E : Nat → Ef} {F : Nat → FP} {L : Nat → Bool} {s0 : AS} {i : Nat} {o : Oper} (hi : ops[i]? = some o)
    (hF : ∀ m o, ops[m]? = some o → (F m).wt = o.dst ∧ (F m).wi = (E m).2.map (·.1) ∧ (F m).mi = (E m).1.ids ++ updIds (E m).2)
    (hLi : L i = false) (hd : ∀ m, m < ops.size → i < m → L m = true → Indep (F m) (F i)) : ∀ m, i < m → m ≤ ops.size →
    Eqv (putE (stL ops E L s0 m) o.dst (E i)) (stL ops E (fun j => L j || Nat.beq j i) s0 m)
  | 0, h, _ => by omega
  | m + 1, h, hm => by
    by_cases he : m = i
    · subst he
      have h1 : stL ops E L s0 (m + 1) = stL ops E L s0 m := by simp only [stL, hLi]; split <;> rfl
      have h2 : stL ops E (fun j => L j || Nat.beq j m) s0 m = stL ops E L s0 m := stL_congr m fun j hj => by
        refine ⟨rfl, ?_⟩
        have : Nat.beq j m = false := by rw [← Bool.not_eq_true]; intro e; have := Nat.eq_of_beq_eq_true e; omega
        simp [this]
      have h3 : stL ops E (fun j => L j || Nat.beq j m) s0 (m + 1) = putE (stL ops E L s0 m) o.dst (E m) := by
        simp only [stL, hi, Nat.beq_refl, Bool.or_true, cond_true]
        rw [h2]
      rw [h1, h3]
      exact Eqv.refl _
    · have ih := stL_add (s0 := s0) hi hF hLi hd m (by omega) (by omega)
      have hom : ops[m]? = some ops[m] := Array.getElem?_eq_getElem (by omega)
      have hb : Nat.beq m i = false := by rw [← Bool.not_eq_true]; intro e; exact he (Nat.eq_of_beq_eq_true e)
      obtain ⟨g1, g2, g3⟩ := hF m _ hom
      obtain ⟨k1, k2, k3⟩ := hF i _ hi
      simp only [stL, hom, hb, Bool.or_false]
      cases hL : L m with
      | false => exact ih
      | true =>
        simp only [cond_true]
        have hind := hd m (by omega) (by omega) hL
        refine ⟨by simp only [putE]; exact ih.n, fun t => ?_, fun id => ?_⟩
        · rw [putE_tm, putE_tm, putE_tm, ih.tm t, putE_tm]
          by_cases h1 : ops[m].dst = some t
          · rw [if_pos h1, if_neg, if_pos h1]
            intro h2
            exact hind.t3 t (g1.trans h1) (k1.trans h2)
          · rw [if_neg h1, if_neg h1]
        · rw [putE_hp, putE_hp, putE_hp, ih.hp id, putE_hp]
          by_cases h1 : id ∈ (E m).2.map (·.1)
          · rw [if_pos h1, if_neg, if_pos h1]
            intro h2
            exact hind.i3 id (by rw [g2]; exact h1) (by rw [k2]; exact h2)
          · rw [if_neg h1, if_neg h1]
end
end KF

namespace KF
open Go

theorem count_lt {p q : Nat → Bool} {i : Nat} (hpq : ∀ j, q j = true → p j = true) (hp : p i = true) (hq : q i = false) : ∀ n, i < n → (List.range n).countP q < (List.range n).countP p := by
  have hle : ∀ n, (List.range n).countP q ≤ (List.range n).countP p := fun n => List.countP_mono_left fun j _ h => hpq j h
  intro n
  induction n with
  | zero => intro h; omega
  | succ n ih =>
    intro h
    rw [List.range_succ, List.countP_append, List.countP_append]
    by_cases he : i = n
    · subst he
      have := hle i
      simp [hp, hq]
      omega
    · have := ih (by omega)
      have h2 : [n].countP q ≤ [n].countP p := List.countP_mono_left fun j _ h => hpq j h
      omega

section
variable {P : Program} {n0 : Nat} {A : Fx} {O0 : Nat → Prop} {w0 : World} {G : Env} {ops : Array Oper} {s0 : AS} {E : Nat → Ef} {F : Nat → FP} {anc : Nat → List Nat} {Q : Exit → Act → World → Prop}

def Lof (listed : Array Bool) (j : Nat) : Bool := listed.getD j false

def Closed (ops : Array Oper) (L : Nat → Bool) : Prop := ∀ j o, ops[j]? = some o → L j = true → ∀ e, e ∈ o.after.toList → Region.binds .any e = true → L e.on = true

theorem anc_closed (hPM : ∀ m o, ops[m]? = some o → PM G ops s0 E F anc m o) {L : Nat → Bool} (hc : Closed ops L) : ∀ (b m : Nat), m < b → m < ops.size → L m = true → ∀ x, x ∈ anc m → L x = true
  | 0, _, h, _, _, _, _ => by omega
  | b + 1, m, hb, hm, hL, x, hx => by
    have hom : ops[m]? = some ops[m] := Array.getElem?_eq_getElem hm
    obtain ⟨e, he, hbn, hxe⟩ := (hPM m _ hom).up x hx
    have h1 := hc m _ hom hL e he hbn
    have h2 := (hPM m _ hom).back e he hbn
    rcases hxe with rfl | hxe
    · exact h1
    · exact anc_closed hPM hc b e.on (by omega) (by omega) h1 x hxe

theorem ready_iff {listed : Array Bool} {i : Nat} : i ∈ Region.ready .any ops listed ↔ i < ops.size ∧ listed.getD i true = false ∧ ∃ o, ops[i]? = some o ∧ ∀ e, e ∈ o.after.toList → Region.binds .any e = true → listed.getD e.on false = true := by
  unfold Region.ready
  rw [List.mem_filter, List.mem_range]
  constructor
  · rintro ⟨h1, h2⟩
    have hom : ops[i]? = some ops[i] := Array.getElem?_eq_getElem h1
    rw [hom] at h2
    simp only [Option.map_some, Option.getD_some, Bool.and_eq_true, Bool.not_eq_true'] at h2
    refine ⟨h1, h2.1, _, hom, fun e he hb => ?_⟩
    have h3 := h2.2
    rw [Array.all_eq_true'] at h3
    have := h3 e (Array.mem_toList_iff.1 he)
    rw [hb] at this
    simpa using this
  · rintro ⟨h1, h2, o, ho, h3⟩
    refine ⟨h1, ?_⟩
    rw [ho]
    simp only [Option.map_some, Option.getD_some, Bool.and_eq_true, Bool.not_eq_true']
    refine ⟨h2, ?_⟩
    rw [Array.all_eq_true']
    intro e he
    cases hb : Region.binds .any e with
    | false => rfl
    | true => simpa using h3 e (Array.mem_toList_iff.2 he) hb

theorem all_listed (hPM : ∀ m o, ops[m]? = some o → PM G ops s0 E F anc m o) {listed : Array Bool} (hsz : listed.size = ops.size) (hr : Region.ready .any ops listed = []) : ∀ (b j : Nat), j < b → j < ops.size → Lof listed j = true
  | 0, _, h, _ => by omega
  | b + 1, j, hb, hj => by
    by_cases h : Lof listed j = true
    · exact h
    · exfalso
      have hom : ops[j]? = some ops[j] := Array.getElem?_eq_getElem hj
      have : j ∈ Region.ready .any ops listed := by
        refine ready_iff.2 ⟨hj, ?_, _, hom, fun e he hbn => ?_⟩
        · unfold Lof at h
          simp only [Bool.not_eq_true] at h
          have hjl : j < listed.size := by omega
          simp [Array.getD, hjl] at h ⊢
          exact h
        · have := (hPM j _ hom).back e he hbn
          exact all_listed hPM hsz hr b e.on (by omega) (by omega)
      rw [hr] at this
      simp at this

theorem Agr.of_stL (hPM : ∀ m o, ops[m]? = some o → PM G ops s0 E F anc m o) {L : Nat → Bool} (hc : Closed ops L) {i : Nat} {o : Oper} (hi : ops[i]? = some o) (hLi : L i = false)
    (hready : ∀ e, e ∈ o.after.toList → Region.binds .any e = true → L e.on = true) :
    Agr (stL ops E (fun _ => true) s0 i) (stL ops E L s0 ops.size) o ∧ (∀ t, t ∈ (F i).rt → aget (stL ops E L s0 ops.size).tm t = aget (stL ops E (fun _ => true) s0 i).tm t) ∧
      (∀ m, m < ops.size → i < m → L m = true → Indep (F m) (F i)) := by
  have hin : i < ops.size := (Array.getElem?_eq_some_iff.1 hi).1
  have hF : ∀ m o, ops[m]? = some o → (F m).wt = o.dst ∧ (F m).wi = (E m).2.map (·.1) ∧ (F m).mi = (E m).1.ids ++ updIds (E m).2 := fun m o ho => ⟨(hPM m o ho).fp.wt, (hPM m o ho).fp.wi, (hPM m o ho).fp.mi⟩
  have hgt : ∀ m, m < ops.size → i < m → L m = true → Indep (F m) (F i) := by
    intro m hm him hL
    have hom : ops[m]? = some ops[m] := Array.getElem?_eq_getElem hm
    rcases (hPM m _ hom).ind i him with h | h
    · have := anc_closed hPM hc (m + 1) m (by omega) hm hL i h
      rw [hLi] at this; simp at this
    · exact (indep_ok h).symm
  have hd : ∀ m, m < ops.size → L m ≠ Nat.blt m i → Indep (F m) (F i) := by
    intro m hm hne
    rcases Nat.lt_trichotomy m i with h | h | h
    · have hb : Nat.blt m i = true := by rw [Nat.blt_eq]; exact h
      have hL : L m = false := by
        rw [hb] at hne
        simpa using hne
      rcases (hPM i _ hi).ind m h with h' | h'
      · exfalso
        obtain ⟨e, he, hbn, hxe⟩ := (hPM i _ hi).up m h'
        have h1 := hready e he hbn
        rcases hxe with rfl | hxe
        · rw [hL] at h1; simp at h1
        · have h2 := (hPM i _ hi).back e he hbn
          have := anc_closed hPM hc (e.on + 1) e.on (by omega) (by omega) h1 m hxe
          rw [hL] at this; simp at this
      · exact indep_ok h'
    · subst h
      exfalso
      apply hne
      rw [hLi]
      have : Nat.blt m m = false := by rw [← Bool.not_eq_true, Nat.blt_eq]; omega
      exact this.symm
    · have hb : Nat.blt m i = false := by
        rw [← Bool.not_eq_true, Nat.blt_eq]; omega
      have hL : L m = true := by
        rw [hb] at hne
        simpa using hne
      exact hgt m hm h hL
  obtain ⟨a1, a2, a3⟩ := stL_agree (ops := ops) (s0 := s0) (f := F i) hF hd ops.size (Nat.le_refl _)
  have hst : stL ops E (fun j => Nat.blt j i) s0 ops.size = stL ops E (fun _ => true) s0 i := by
    rw [stL_none (i := i) ops.size (by omega) fun j h1 h2 => by
      show Nat.blt j i = false
      rw [← Bool.not_eq_true, Nat.blt_eq]; omega]
    exact stL_congr i fun j hj => ⟨rfl, by rw [Nat.blt_eq]; exact hj⟩
  rw [hst] at a1 a2 a3
  have fp := (hPM i _ hi).fp
  refine ⟨⟨fun x hx => ev_tmps hx fun t ht => a1 t (fp.rt t ht), fun x hx d hd' id hm => a2 id (fp.ri x hx d hd' id hm), fun id hid => a3 id (by rw [fp.wt]; exact hid)⟩, a1, hgt⟩

theorem fin_putE {s : AS} {dst : Option Tmp} {e : Ef} (hd : ∀ t, dst = some t → t < s.n) {Out : Type} {k : AS → Option Out} : fin s dst e.1 e.2 k = k (putE s dst e) := by
  cases dst with
  | none => rfl
  | some t =>
    have : Nat.blt t s.n = true := by rw [Nat.blt_eq]; exact hd t rfl
    simp only [fin, this, cond_true, putE]
    rfl

theorem order_ok (hG : EnvOk P G) (hPM : ∀ m o, ops[m]? = some o → PM G ops s0 E F anc m o)
    (hQ : ∀ σ φ a w, Conc n0 A O0 w0 (stL ops E (fun _ => true) s0 ops.size) σ φ a w → Q .normal a w) :
    ∀ (fuel : Nat) (listed : Array Bool) (σ : Nat → Value) (φ : Nat → List Nat) (a : Act) (w : World), listed.size = ops.size → (List.range ops.size).countP (fun j => !listed.getD j true) ≤ fuel →
      Closed ops (Lof listed) → Conc n0 A O0 w0 (stL ops E (Lof listed) s0 ops.size) σ φ a w → wpAny P .any ops Q fuel listed a w := by
  intro fuel
  have fin' : ∀ (listed : Array Bool) (σ : Nat → Value) (φ : Nat → List Nat) (a : Act) (w : World), listed.size = ops.size → Region.ready .any ops listed = [] →
      Conc n0 A O0 w0 (stL ops E (Lof listed) s0 ops.size) σ φ a w → Q .normal a w := by
    intro listed σ φ a w hsz hr h
    refine hQ σ φ a w ?_
    rw [← stL_congr (L := Lof listed) ops.size fun j hj => ⟨rfl, all_listed hPM hsz hr (j + 1) j (by omega) hj⟩]
    exact h
  induction fuel with
  | zero =>
    intro listed σ φ a w hsz hcnt hc h
    have hr : Region.ready .any ops listed = [] := by
      rw [List.eq_nil_iff_forall_not_mem]
      intro i hi
      obtain ⟨h1, h2, _⟩ := ready_iff.1 hi
      have : 0 < (List.range ops.size).countP (fun j => !listed.getD j true) := List.countP_pos_iff.2 ⟨i, List.mem_range.2 h1, by rw [h2]; rfl⟩
      omega
    exact ⟨hr, fin' listed σ φ a w hsz hr h⟩
  | succ fuel ih =>
    intro listed σ φ a w hsz hcnt hc h
    refine ⟨fun hr => fin' listed σ φ a w hsz hr h, fun i hi => ?_⟩
    obtain ⟨hin, hun, o, ho, hed⟩ := ready_iff.1 hi
    have hil : i < listed.size := by omega
    have hLi : Lof listed i = false := by
      unfold Lof
      simp [Array.getD, hil] at hun ⊢
      exact hun
    obtain ⟨hag, htm, hgt⟩ := Agr.of_stL hPM hc ho hLi hed
    have pm := hPM i o ho
    have hF : ∀ m o, ops[m]? = some o → (F m).wt = o.dst ∧ (F m).wi = (E m).2.map (·.1) ∧ (F m).mi = (E m).1.ids ++ updIds (E m).2 := fun m o ho => ⟨(hPM m o ho).fp.wt, (hPM m o ho).fp.wi, (hPM m o ho).fp.mi⟩
    have hadd := stL_add (s0 := s0) (L := Lof listed) ho hF hLi hgt ops.size hin (Nat.le_refl _)
    have hset : ∀ j, Lof (listed.setIfInBounds i true) j = (Lof listed j || Nat.beq j i) := by
      intro j
      unfold Lof
      by_cases hji : j = i
      · subst hji
        simp [Array.getD, hil]
      · have hb : Nat.beq j i = false := by rw [← Bool.not_eq_true]; intro e; exact hji (Nat.eq_of_beq_eq_true e)
        rw [hb, Bool.or_false]
        simp only [Array.getD_eq_getD_getElem?]
        rw [Array.getElem?_setIfInBounds_ne (fun e => hji e.symm)]
    have next : ∀ σ φ a w, Conc n0 A O0 w0 (putE (stL ops E (Lof listed) s0 ops.size) o.dst (E i)) σ φ a w → wpAny P .any ops Q fuel (listed.setIfInBounds i true) a w := by
      intro σ φ a w h
      have h2 := h.eqv hadd
      have h3 : stL ops E (fun j => Lof listed j || Nat.beq j i) s0 ops.size = stL ops E (Lof (listed.setIfInBounds i true)) s0 ops.size := stL_congr ops.size fun j _ => ⟨rfl, (hset j).symm⟩
      rw [h3] at h2
      refine ih (listed.setIfInBounds i true) σ φ a w (by simpa using hsz) ?_ ?_ h2
      · have hlt := count_lt (p := fun j => !listed.getD j true) (q := fun j => !(listed.setIfInBounds i true).getD j true) (i := i) ?_ (by simp only [hun, Bool.not_false]) ?_ ops.size hin
        · omega
        · intro j hj
          by_cases hji : j = i
          · subst hji; simp [hun]
          · simp only [Array.getD_eq_getD_getElem?] at hj ⊢
            rw [Array.getElem?_setIfInBounds_ne (fun e => hji e.symm)] at hj
            exact hj
        · simp [Array.getD, hil]
      · intro j oj hoj hL e he hbn
        rw [hset] at hL ⊢
        cases hLj : Lof listed j with
        | true => rw [hc j oj hoj hLj e he hbn]; rfl
        | false =>
          rw [hLj, Bool.false_or] at hL
          have := Nat.eq_of_beq_eq_true hL
          subst this
          rw [ho] at hoj
          simp only [Option.some.injEq] at hoj
          subst hoj
          have := hed e he hbn
          unfold Lof
          rw [this]; rfl
    have hdn : ∀ t, o.dst = some t → t < (stL ops E (Lof listed) s0 ops.size).n := fun t ht => by rw [stL_n]; exact pm.dst t ht
    have run : Eff G (stL ops E (fun _ => true) s0 i) o (E i) → o.wp P a w (wpAny P .any ops Q fuel (listed.setIfInBounds i true)) Q := by
      intro hE
      have hE' := hE.congr hag
      have : aop G (stL ops E (Lof listed) s0 ops.size) o some = some (putE (stL ops E (Lof listed) s0 ops.size) o.dst (E i)) := by
        unfold aop
        rw [hE']
        exact fin_putE hdn
      refine Oper.wp_mono ?_ (aop_ok hG h this)
      rintro a w ⟨s2, σ', φ', h1, h2⟩
      simp only [Option.some.injEq] at h1
      subst h1
      exact next σ' φ' a w h2
    have skp : E i = (.und, []) → wpAny P .any ops Q fuel (listed.setIfInBounds i true) (a.put o.dst undef) w := by
      intro hE
      have := skip_ok (dst := o.dst) (k := some) (out := putE (stL ops E (Lof listed) s0 ops.size) o.dst (.und, [])) h (fin_putE (e := (.und, [])) hdn)
      obtain ⟨s2, σ', φ', h1, h2⟩ := this
      simp only [Option.some.injEq] at h1
      subst h1
      rw [← hE] at h2
      exact next σ' φ' _ w h2
    have hst := pm.step
    unfold wpOp
    rw [ho]
    simp only []
    unfold GStep at hst
    cases hg : o.guard with
    | none =>
      rw [hg] at hst
      rw [if_pos (by simp [Region.wanted, hg])]
      exact .inl (run hst)
    | some g =>
      obtain ⟨j, want⟩ := g
      rw [hg] at hst
      obtain ⟨t, ht, hst⟩ := hst
      have htr : t ∈ (F i).rt := pm.fp.rg j want t hg ht
      have hlook := htm t htr
      rcases hst with ⟨β, hd, hst⟩ | ⟨hd, hst⟩
      · rw [hd] at hlook
        have hy := yielded_bool h ht hlook
        have hwd : Region.wanted o (yielded ops a.tmps) = (some β == some want) := by simp [Region.wanted, hg, hy]
        rw [hwd]
        by_cases hβ : β = want
        · subst hβ
          rw [if_pos (by simp)]
          rw [if_pos rfl] at hst
          exact .inl (run hst)
        · rw [if_neg (by simpa using hβ)]
          rw [if_neg hβ] at hst
          exact skp hst
      · rw [hd] at hlook
        have hy := yielded_und h ht hlook
        have hwd : Region.wanted o (yielded ops a.tmps) = false := by simp [Region.wanted, hg, hy]
        rw [hwd, if_neg (by simp)]
        exact skp hst
end
end KF

namespace KF
open Go

structure EqvN (s s' : AS) : Prop extends Eqv s s' where
  nw : ∀ id, s'.newOk id = s.newOk id

theorem EqvN.refl (s : AS) : EqvN s s := ⟨Eqv.refl s, fun _ => rfl⟩

theorem EqvN.agr {s s' : AS} (h : EqvN s s') (o : Oper) : Agr s s' o :=
  ⟨fun _ hx => ev_tmps hx fun t _ => h.tm t, fun _ _ _ _ id _ => h.hp id, fun id _ => h.nw id⟩
theorem EqvN.symm {s s' : AS} (h : EqvN s s') : EqvN s' s := ⟨h.toEqv.symm, fun id => (h.nw id).symm⟩
theorem EqvN.trans {s1 s2 s3 : AS} (h : EqvN s1 s2) (h' : EqvN s2 s3) : EqvN s1 s3 := ⟨h.toEqv.trans h'.toEqv, fun id => (h'.nw id).trans (h.nw id)⟩

theorem EqvN.putE {s s' : AS} (h : EqvN s s') (dst : Option Tmp) (e : Ef) : EqvN (KF.putE s dst e) (KF.putE s' dst e) := by
  refine ⟨⟨h.n, fun t => ?_, fun id => ?_⟩, fun id => ?_⟩
  · rw [putE_tm, putE_tm, h.tm t]
  · rw [putE_hp, putE_hp, h.hp id]
  · have e0 := h.nw id
    unfold AS.newOk at e0 ⊢
    simp only [AS.ment, KF.putE, List.any_append] at e0 ⊢
    revert e0
    generalize ((match dst with | some t => [(t, e.1)] | none => []).any fun x => x.2.ment id) = b1
    generalize (e.2.any fun x => (x.2.map (Blk.ment id)).getD false) = b2
    generalize (s.tm.any fun x => x.2.ment id) = c1
    generalize (s.hp.any fun x => (x.2.map (Blk.ment id)).getD false) = c2
    generalize (s'.tm.any fun x => x.2.ment id) = d1
    generalize (s'.hp.any fun x => (x.2.map (Blk.ment id)).getD false) = d2
    generalize Nat.blt id 500000 = z
    cases b1 <;> cases b2 <;> cases c1 <;> cases c2 <;> cases d1 <;> cases d2 <;> cases z <;> simp

theorem EqvN.refine {s : AS} {t : Nat} {β : Bool} (hd : aget s.tm t = some (.t .b β)) : EqvN s ⟨s.n, (t, .t .b β) :: s.tm, s.hp⟩ := by
  refine ⟨⟨rfl, fun t' => ?_, fun _ => rfl⟩, fun id => ?_⟩
  · rw [aget_cons]
    split
    · rename_i e; subst e; exact hd.symm
    · rfl
  · simp [AS.newOk, AS.ment, D.ment]

theorem idsOf_mem {s : AS} : ∀ {l : List Operand} {x : Operand} {d : D} {id : Nat}, x ∈ l → s.ev x = some d → d.ment id = true → id ∈ idsOf s l
  | [], _, _, _, h, _, _ => by simp at h
  | y :: l, x, d, id, h, hd, hm => by
    rcases List.mem_cons.1 h with e | h
    · subst e
      simp only [idsOf, hd]
      exact List.mem_append_left _ (ids_ment.1 hm)
    · have ih := idsOf_mem h hd hm
      simp only [idsOf]
      split
      · exact List.mem_append_right _ ih
      · exact ih

section
variable {P : Program} {n0 : Nat} {A : Fx} {O0 : Nat → Prop} {w0 : World} {G : Env} {ops : Array Oper} {s0 : AS} {E : Nat → Ef} {F : Nat → FP} {anc : Nat → List Nat} {Q : Exit → Act → World → Prop}
variable {Out : Type} {k : AS → Option Out} {out : Out}

theorem PM.congr {E' : Nat → Ef} {F' : Nat → FP} {anc' : Nat → List Nat} {m : Nat} {o : Oper} (h : PM G ops s0 E F anc m o) (hE : ∀ j, j ≤ m → E j = E' j ∧ F j = F' j ∧ anc j = anc' j) : PM G ops s0 E' F' anc' m o := by
  have hst : stL ops E (fun _ => true) s0 m = stL ops E' (fun _ => true) s0 m := stL_congr m fun j hj => ⟨(hE j (by omega)).1, rfl⟩
  obtain ⟨e1, e2, e3⟩ := hE m (Nat.le_refl _)
  refine ⟨by rw [← hst, ← e1]; exact h.step, by rw [← hst, ← e1, ← e2]; exact h.fp, h.dst, h.back, ?_, ?_⟩
  · intro x hx
    rw [← e3] at hx
    obtain ⟨e, he, hb, hxe⟩ := h.up x hx
    refine ⟨e, he, hb, hxe.imp id fun hxe => ?_⟩
    rw [← (hE e.on (Nat.le_of_lt (h.back e he hb))).2.2]
    exact hxe
  · intro j hj
    rw [← e3, ← e2, ← (hE j (by omega)).2.1]
    exact h.ind j hj

theorem addNew_mem : ∀ {r l : List Nat} {x : Nat}, x ∈ addNew r l → x ∈ r ∨ x ∈ l
  | [], _, _, h => .inr h
  | y :: r, l, x, h => by
    simp only [addNew] at h
    rcases addNew_mem h with h | h
    · exact .inl (List.mem_cons_of_mem _ h)
    · cases hm : memB l y with
      | true => rw [hm] at h; exact .inr h
      | false =>
        rw [hm] at h
        rcases List.mem_cons.1 h with h | h
        · exact .inl (by rw [h]; simp)
        · exact .inr h

theorem ancOf_mem {prev : List (Nat × (List Nat × FP))} : ∀ {es : List Edge} {l : List Nat} {x : Nat}, x ∈ ancOf prev es l → x ∈ l ∨ ∃ e, e ∈ es ∧ Region.binds .any e = true ∧ (x = e.on ∨ ∃ p, aget prev e.on = some p ∧ x ∈ p.1)
  | [], l, x, h => .inl h
  | e :: es, l, x, h => by
    simp only [ancOf] at h
    cases hb : Region.binds .any e with
    | false =>
      rw [hb] at h
      rcases ancOf_mem h with h | ⟨e', he', hb', hx⟩
      · exact .inl h
      · exact .inr ⟨e', List.mem_cons_of_mem _ he', hb', hx⟩
    | true =>
      rw [hb] at h
      rcases ancOf_mem h with h | ⟨e', he', hb', hx⟩
      · rcases addNew_mem h with h | h
        · refine .inr ⟨e, by simp, hb, ?_⟩
          rcases List.mem_cons.1 h with h | h
          · exact .inl h
          · split at h
            · rename_i a f hp; exact .inr ⟨_, hp, h⟩
            · simp at h
        · exact .inl h
      · exact .inr ⟨e', List.mem_cons_of_mem _ he', hb', hx⟩

theorem text_ok : ∀ (l : List Oper) (i : Nat) (prev : List (Nat × (List Nat × FP))) (s : AS) (E : Nat → Ef) (F : Nat → FP) (anc : Nat → List Nat), ops.toList.drop i = l → aopsD G ops l i prev s k = some out →
    EqvN (stL ops E (fun _ => true) s0 i) s → (∀ j, j < i → aget prev j = some (anc j, F j)) → (∀ m o, m < i → ops[m]? = some o → PM G ops s0 E F anc m o) →
    ∃ E F anc, (∀ m o, ops[m]? = some o → PM G ops s0 E F anc m o) ∧ ∃ sf, k sf = some out ∧ Eqv (stL ops E (fun _ => true) s0 ops.size) sf
  | [], i, prev, s, E, F, anc, hl, he, hs, hprev, hPM => by
    have hi : ops.size ≤ i := by
      have := congrArg List.length hl
      simp at this
      omega
    have hst : stL ops E (fun _ => true) s0 i = stL ops E (fun _ => true) s0 ops.size := by
      clear hs he hl hprev hPM
      induction i with
      | zero => have : ops.size = 0 := by omega
                rw [this]
      | succ i ih =>
        by_cases h : ops.size = i + 1
        · rw [h]
        · rw [← ih (by omega)]
          have : ops[i]? = none := Array.getElem?_eq_none (by omega)
          simp only [stL, this]
    refine ⟨E, F, anc, fun m o ho => hPM m o ?_ ho, s, he, by rw [← hst]; exact hs.toEqv⟩
    have := (Array.getElem?_eq_some_iff.1 ho).1
    omega
  | o :: l, i, prev, s, E, F, anc, hl, he, hs, hprev, hPM => by
    have hi : i < ops.size := by
      have := congrArg List.length hl
      simp at this
      omega
    have hoi : ops[i]? = some o := by
      have h1 := congrArg (·[0]?) hl
      simpa using h1
    have hl' : ops.toList.drop (i + 1) = l := by
      have h1 := congrArg (List.drop 1) hl
      simpa [List.drop_drop, Nat.add_comm] using h1
    -- one operation done: on to the next
    have next : ∀ (an : List Nat) (f : FP) (e : Ef) (sx : AS), an = ancOf prev o.after.toList [] → (∀ e, e ∈ o.after.toList → Region.binds .any e = true → e.on < i) → okPrev an f prev = true → EqvN s sx →
        GStep G ops (stL ops E (fun _ => true) s0 i) o e → FpOk ops (stL ops E (fun _ => true) s0 i) o e f → fin sx o.dst e.1 e.2 (fun s' => aopsD G ops l (i + 1) ((i, (an, f)) :: prev) s' k) = some out →
        ∃ E F anc, (∀ m o, ops[m]? = some o → PM G ops s0 E F anc m o) ∧ ∃ sf, k sf = some out ∧ Eqv (stL ops E (fun _ => true) s0 ops.size) sf := by
      intro an f e sx han hback hok hsx hstep hfp hfin
      have hdst : ∀ t, o.dst = some t → t < sx.n := by
        intro t ht
        unfold fin at hfin
        rw [ht] at hfin
        simp only at hfin
        cases hb : Nat.blt t sx.n with
        | true => rwa [Nat.blt_eq] at hb
        | false => rw [hb] at hfin; simp at hfin
      rw [fin_putE hdst] at hfin
      have hn : sx.n = s0.n := by rw [hsx.n, hs.n, stL_n]
      have hEi : ∀ j, j < i → E j = (fun j => if j = i then e else E j) j ∧ F j = (fun j => if j = i then f else F j) j ∧ anc j = (fun j => if j = i then an else anc j) j := by
        intro j hj
        have : j ≠ i := by omega
        simp [this]
      have hst : stL ops E (fun _ => true) s0 i = stL ops (fun j => if j = i then e else E j) (fun _ => true) s0 i := stL_congr i fun j hj => ⟨(hEi j hj).1, rfl⟩
      refine text_ok l (i + 1) _ _ (fun j => if j = i then e else E j) (fun j => if j = i then f else F j) (fun j => if j = i then an else anc j) hl' hfin ?_ ?_ ?_
      · have : stL ops (fun j => if j = i then e else E j) (fun _ => true) s0 (i + 1) = putE (stL ops E (fun _ => true) s0 i) o.dst e := by
          rw [hst]
          simp only [stL, hoi, cond_true, if_true]
        rw [this]
        exact (hs.trans hsx).putE _ _
      · intro j hj
        rw [aget_cons]
        by_cases hji : i = j
        · subst hji; simp
        · have hne : j ≠ i := fun e => hji e.symm
          rw [if_neg hji, hprev j (by omega)]
          simp [hne]
      · intro m om hm hom
        by_cases hmi : m = i
        · subst hmi
          rw [hoi] at hom
          simp only [Option.some.injEq] at hom
          subst hom
          refine ⟨?_, ?_, fun t ht => by rw [← hn]; exact hdst t ht, hback, ?_, ?_⟩
          · rw [← hst]; simpa using hstep
          · rw [← hst]; simpa using hfp
          · intro x hx
            simp only [if_true] at hx
            rw [han] at hx
            rcases ancOf_mem hx with hx | ⟨e', he', hb', hx⟩
            · simp at hx
            · have hlt := hback e' he' hb'
              refine ⟨e', he', hb', hx.imp id ?_⟩
              rintro ⟨p, hp, hxp⟩
              rw [hprev _ hlt] at hp
              simp only [Option.some.injEq] at hp
              subst hp
              have : e'.on ≠ m := by omega
              simpa [this] using hxp
          · intro j hj
            have hok' := hok
            unfold okPrev at hok'
            rw [List.all_eq_true] at hok'
            have hmem := aget_mem (hprev j hj)
            have h1 := hok' _ hmem
            simp only [Bool.or_eq_true] at h1
            have hjm : j ≠ m := by omega
            simp only [if_true, hjm, if_false]
            exact h1.imp memB_iff.1 id
        · exact (hPM m om (by omega) hom).congr fun j hj => hEi j (by omega)
    have hfpOk : ∀ (g : List Nat) (e : Ef), (∀ j want t, o.guard = some (j, want) → (ops[j]?).bind (·.dst) = some t → t ∈ g) → FpOk ops (stL ops E (fun _ => true) s0 i) o e (fpOf s o g e.1 e.2) := by
      intro g e hg
      refine ⟨rfl, rfl, rfl, fun t ht => List.mem_append_right _ ht, fun j want t hgu ht => List.mem_append_left _ (hg j want t hgu ht), fun x hx d hd id hm => ?_⟩
      refine idsOf_mem hx ?_ hm
      rw [← hd]
      exact ev_tmps hx fun t _ => hs.tm t
    simp only [aopsD] at he
    cases hbk : backB i o.after.toList with
    | false => rw [hbk] at he; simp at he
    | true =>
      rw [hbk] at he
      simp only [cond_true] at he
      have hback : ∀ e, e ∈ o.after.toList → Region.binds .any e = true → e.on < i := by
        intro e hem hbe
        unfold backB at hbk
        rw [List.all_eq_true] at hbk
        have := hbk e hem
        rw [hbe] at this
        simp only [Bool.not_true, Bool.false_or] at this
        rwa [Nat.blt_eq] at this
      have hEff : ∀ (sx : AS) (K : D → List (Nat × Option Blk) → Option Out), EqvN s sx → aopK G sx o K = some out → ∃ e : Ef, K e.1 e.2 = some out ∧ Eff G (stL ops E (fun _ => true) s0 i) o e := by
        intro sx K hsx hK
        obtain ⟨d, u, h1, h2⟩ := aopK_nat hK
        refine ⟨(d, u), h1, ?_⟩
        have : Eff G sx o (d, u) := h2
        exact this.congr ((hs.trans hsx).symm.agr o)
      cases hg : o.guard with
      | none =>
        rw [hg] at he
        simp only at he
        obtain ⟨e, h1, h2⟩ := hEff s _ (EqvN.refl s) he
        simp only [cond_none_some] at h1
        exact next _ _ e s rfl hback h1.1 (EqvN.refl s) (by unfold GStep; rw [hg]; exact h2) (hfpOk [] e (by intro j want t hgu; rw [hg] at hgu; simp at hgu)) h1.2
      | some g =>
        obtain ⟨j, want⟩ := g
        rw [hg] at he
        simp only at he
        split at he
        · rename_i t ht
          have hgt : ∀ j' want' t', o.guard = some (j', want') → (ops[j']?).bind (·.dst) = some t' → t' ∈ [t] := by
            intro j' want' t' hgu ht'
            rw [hg] at hgu
            simp only [Option.some.injEq, Prod.mk.injEq] at hgu
            obtain ⟨rfl, rfl⟩ := hgu
            rw [ht] at ht'
            simp only [Option.some.injEq] at ht'
            rw [ht']; simp
          split at he
          · rename_i β hd
            have hdst : aget (stL ops E (fun _ => true) s0 i).tm t = some (.t .b β) := by rw [← hs.tm]; exact hd
            have goal1 : ∀ e : Ef, (if β = want then Eff G (stL ops E (fun _ => true) s0 i) o e else e = (.und, [])) → GStep G ops (stL ops E (fun _ => true) s0 i) o e := by
              intro e h
              unfold GStep
              rw [hg]
              exact ⟨t, ht, .inl ⟨β, hdst, h⟩⟩
            cases hβ : (show Bool from β) with
            | true =>
              have hβ' : β = true := hβ
              subst hβ'
              simp only [cond_true] at he
              cases want with
              | true =>
                simp only [cond_true] at he
                obtain ⟨e, h1, h2⟩ := hEff _ _ (EqvN.refine hd) he
                simp only [cond_none_some] at h1
                exact next _ _ e _ rfl hback h1.1 (EqvN.refine hd) (goal1 e (by rw [if_pos rfl]; exact h2)) (hfpOk [t] e hgt) h1.2
              | false =>
                simp only [cond_false, cond_none_some] at he
                exact next _ _ (.und, []) _ rfl hback he.1 (EqvN.refine hd) (goal1 _ (by rw [if_neg (by simp)])) (hfpOk [t] (.und, []) hgt) he.2
            | false =>
              have hβ' : β = false := hβ
              subst hβ'
              simp only [cond_false] at he
              cases want with
              | true =>
                simp only [cond_true, cond_none_some] at he
                exact next _ _ (.und, []) _ rfl hback he.1 (EqvN.refine hd) (goal1 _ (by rw [if_neg (by simp)])) (hfpOk [t] (.und, []) hgt) he.2
              | false =>
                simp only [cond_false] at he
                obtain ⟨e, h1, h2⟩ := hEff _ _ (EqvN.refine hd) he
                simp only [cond_none_some] at h1
                exact next _ _ e _ rfl hback h1.1 (EqvN.refine hd) (goal1 e (by rw [if_pos rfl]; exact h2)) (hfpOk [t] e hgt) h1.2
          · rename_i hd
            simp only [cond_none_some] at he
            refine next _ _ (.und, []) s rfl hback he.1 (EqvN.refl s) ?_ (hfpOk [t] (.und, []) hgt) he.2
            unfold GStep
            rw [hg]
            exact ⟨t, ht, .inr ⟨by rw [← hs.tm]; exact hd, rfl⟩⟩
          · simp at he
        · simp at he

theorem lof_rep {n j : Nat} : Lof (Array.replicate n false) j = false := by
  unfold Lof
  rw [Array.getD_eq_getD_getElem?, Array.getElem?_replicate]
  split <;> rfl

theorem region_ok (hG : EnvOk P G) (hfz : G.fz = true → ∀ b, ¬ A.A b) (hm : P.follows .mixedOrders = true) {id : Nat} {draw : Bool} {s : AS} {σ : Nat → Value} {φ : Nat → List Nat} {a : Act} {w : World} (h : Conc n0 A O0 w0 s σ φ a w)
    (he : (bif draw then aopsD G ops ops.toList 0 [] s k else aops G id ops ops.toList 0 s k) = some out) (hQ : ∀ a w, Good n0 A O0 w0 k out a w → Q .normal a w) : (Code.region id ops draw).wp P Q a w := by
  cases draw with
  | false =>
    simp only [cond_false] at he
    refine wp_region ?_
    have := aops_ok (P := P) (Q := Q) hG hfz (fun s σ φ a w h1 h2 => hQ a w ⟨s, σ, φ, h1, h2⟩) ops.toList 0 s σ φ a w (by simp) he h
    simpa using this
  | true =>
    simp only [cond_true] at he
    obtain ⟨E, F, anc, hPM, sf, h1, h2⟩ := text_ok (s0 := s) ops.toList 0 [] s (fun _ => (.und, [])) (fun _ => ⟨[], [], none, [], []⟩) (fun _ => []) (by simp) he (EqvN.refl s) (by intro j hj; omega) (by intro m o hm; omega)
    refine wp_region_any hm ?_
    refine order_ok hG hPM (fun σ φ a w hc => hQ a w ⟨sf, σ, φ, h1, hc.eqv h2⟩) ops.size (Array.replicate ops.size false) σ φ a _ (by simp) ?_ ?_ ?_
    · have := List.countP_le_length (p := fun j => !(Array.replicate ops.size false).getD j true) (l := List.range ops.size)
      simpa using this
    · intro j o ho hL
      rw [lof_rep] at hL
      simp at hL
    · have : stL ops E (Lof (Array.replicate ops.size false)) s ops.size = s := by
        rw [stL_none (i := 0) ops.size (Nat.zero_le _) fun j _ _ => lof_rep]
        rfl
      rw [this]
      exact h.drew
end
end KF

namespace KF
open Go

/-! ### Templates -/
theorem instD_agg {s : AS} : ∀ {td : TD} {d : D} {x : T td.ty} {m : IdMap}, extD s td d = some (x, m) → (instD td x).isAgg = d.isAgg := by
  intro td
  cases td with
  | data τ =>
    intro d x m h
    simp only [extD] at h
    split at h
    · rename_i y hy
      simp only [Option.some.injEq, Prod.mk.injEq] at h
      obtain ⟨rfl, _⟩ := h
      have hs := (toT_view (w := default) (σ := fun _ => undef) (O := fun _ => False) (hp := fun _ => none) hy).1
      rw [hs.isAgg]
      cases τ <;> rfl
    · simp at h
  | own id e dp =>
    intro d x m h
    cases d <;> simp [extD] at h <;> rfl
  | ptr id p =>
    intro d x m h
    cases d <;> simp [extD] at h <;> rfl
  | hol id e p τ td =>
    intro d x m h
    cases d <;> simp [extD] at h <;> rfl
  | pr a b =>
    intro d x m h
    simp only [extD] at h
    cases d with
    | t τ v => cases τ <;> simp [D.fst] at h <;> rfl
    | pr u v => rfl
    | _ => simp [D.fst] at h
  | un =>
    intro d x m h
    simp only [extD] at h
    split at h
    · rename_i y hy
      have hs := (toT_view (w := default) (σ := fun _ => undef) (O := fun _ => False) (hp := fun _ => none) hy).1
      rw [hs.isAgg]
      rfl
    · simp at h

def Sub (m m' : IdMap) : Prop := ∀ p, p ∈ m → p ∈ m'

section
variable {w : World} {s : AS} {σ σ' : Nat → Value} {O O' : Nat → Prop} {hp' : Nat → Option Blk} {m : IdMap}

/-- what the new values and the new rows must be -/
structure TOk (s : AS) (σ σ' : Nat → Value) (hp' : Nat → Option Blk) (m : IdMap) : Prop where
  isS : ∀ j i, (j, some i) ∈ m → σ' j = σ i
  isN : ∀ j, (j, none) ∈ m → σ' j = .slice none 0 0
  isB : ∀ j i ρ d, (j, some i) ∈ m → hp' j = some (.box ρ d) → ∃ d', s.heap i = some (.box ρ d')

theorem extD_ok (hT : TOk s σ σ' hp' m) (hO : ∀ b, b < w.heap.size → ¬ O b → ¬ O' b) : ∀ {td : TD} {d : D} {x : T td.ty} {m0 : IdMap} {cs : List Value}, extD s td d = some (x, m0) → Sub m0 m → Rep w O s.heap σ d cs →
    Rep w O' hp' σ' (instD td x) cs := by
  intro td
  induction td with
  | data τ =>
    intro d x m0 cs h hm hr
    simp only [extD] at h
    split at h
    · rename_i y hy
      simp only [Option.some.injEq, Prod.mk.injEq] at h
      obtain ⟨rfl, _⟩ := h
      exact View.stable (fun _ _ _ => rfl) hO ((toT_view hy).2 _ hr)
    · simp at h
  | own id' e dp =>
    intro d x m0 cs h hm hr
    cases d with
    | own id =>
      simp only [extD] at h
      split at h
      · rename_i e' dp' xs hb
        split at h
        · rename_i q hq
          subst q
          simp only [cond_none_some] at h
          obtain ⟨_, h⟩ := h
          simp only [Option.some.injEq, Prod.mk.injEq] at h
          obtain ⟨rfl, rfl⟩ := h
          obtain ⟨v, hcs, h1, hv⟩ := hr
          refine ⟨v, hcs, h1, fun _ _ _ _ => ?_⟩
          rw [hT.isS id' id (hm _ (by simp))]
          exact hv _ _ hb rfl
        · simp at h
      · simp at h
    | nil =>
      simp only [extD, Option.some.injEq, Prod.mk.injEq] at h
      obtain ⟨rfl, rfl⟩ := h
      simp only [Rep] at hr
      exact ⟨_, hr, rfl, fun _ _ _ _ => (hT.isN id' (hm _ (by simp))).symm⟩
    | _ => simp [extD] at h
  | hol id' e p τ td _ =>
    intro d x m0 cs h hm hr
    cases d with
    | own id =>
      simp only [extD] at h
      split at h
      · rename_i e' xs i x1 p' τ' d' hb
        split at h
        · simp only [cond_none_some] at h
          obtain ⟨_, h⟩ := h
          split at h
          · rename_i y m1 h1
            simp only [cond_none_some] at h
            obtain ⟨_, h⟩ := h
            simp only [Option.some.injEq, Prod.mk.injEq] at h
            obtain ⟨rfl, rfl⟩ := h
            obtain ⟨v, hcs, h1, hv⟩ := hr
            refine ⟨v, hcs, h1, fun _ _ _ _ => ?_⟩
            rw [hT.isS id' id (hm _ (by simp))]
            exact hv _ _ hb rfl
          · simp at h
        · simp at h
      · simp at h
    | _ => simp [extD] at h
  | ptr id' p =>
    intro d x m0 cs h hm hr
    cases d with
    | ptr id q =>
      simp only [extD, cond_none_some] at h
      obtain ⟨hpq, h⟩ := h
      simp only [Option.some.injEq, Prod.mk.injEq] at h
      obtain ⟨_, rfl⟩ := h
      have hpq' : p = q := by simpa using hpq
      subst hpq'
      obtain ⟨v, hcs, h1, hv⟩ := hr
      refine ⟨v, hcs, h1, fun ρ d hb => ?_⟩
      obtain ⟨d', hd'⟩ := hT.isB id' id ρ d (hm _ (by simp)) hb
      rw [hT.isS id' id (hm _ (by simp))]
      exact hv ρ d' hd'
    | _ => simp [extD] at h
  | pr a b iha ihb =>
    intro d x m0 cs h hm hr
    simp only [extD] at h
    split at h
    · rename_i d1 d2 h1 h2
      split at h
      · rename_i u l v l' h3 h4
        simp only [Option.some.injEq, Prod.mk.injEq] at h
        obtain ⟨rfl, rfl⟩ := h
        have key : ∃ c1 c2, cs = c1 ++ c2 ∧ Rep w O s.heap σ d1 c1 ∧ Rep w O s.heap σ d2 c2 := by
          cases d with
          | t τ v =>
            cases τ with
            | p t1 t2 =>
              simp only [D.fst, D.snd, Option.some.injEq] at h1 h2
              subst h1; subst h2
              exact hr
            | _ => simp [D.fst] at h1
          | pr d1' d2' =>
            simp only [D.fst, D.snd, Option.some.injEq] at h1 h2
            subst h1; subst h2
            exact hr
          | _ => simp [D.fst] at h1
        obtain ⟨c1, c2, hc, r1, r2⟩ := key
        exact ⟨c1, c2, hc, iha h3 (fun p hp => hm p (List.mem_append_left _ hp)) r1, ihb h4 (fun p hp => hm p (List.mem_append_right _ hp)) r2⟩
      · simp at h
    · simp at h
  | un =>
    intro d x m0 cs h hm hr
    simp only [extD] at h
    split at h
    · rename_i y hy
      exact (toT_view hy).2 _ hr
    · simp at h

theorem extD_okU (hT : TOk s σ σ' hp' m) (hO : ∀ b, b < w.heap.size → ¬ O b → ¬ O' b) {td : TD} {d : D} {x : T td.ty} {m0 : IdMap} {v : Value} (h : extD s td d = some (x, m0)) (hm : Sub m0 m) (hr : RepU w O s.heap σ d v) :
    RepU w O' hp' σ' (instD td x) v := by
  have hne : RepV w O s.heap σ d v := by
    cases d with
    | und => cases td <;> simp [extD, toT, D.fst] at h
    | tup ds => cases td <;> simp [extD, toT, D.fst] at h
    | _ => exact hr
  refine repU_of_repV ?_
  unfold RepV at hne ⊢
  rw [instD_agg h]
  split
  · rename_i ha
    rw [if_pos ha] at hne
    obtain ⟨cs, h1, h2⟩ := hne
    exact ⟨cs, h1, extD_ok hT hO h hm h2⟩
  · rename_i ha
    rw [if_neg ha] at hne
    exact extD_ok hT hO h hm hne

/-- what an entry of the new memory is -/
def Entry (s : AS) (m : IdMap) (j : Nat) (blk : Blk) : Prop :=
  ((j, none) ∈ m ∧ ∃ e dp, blk = .row e dp ([] : List (T e))) ∨
  ∃ i, (j, some i) ∈ m ∧ ((∃ e dp dp' xs, blk = .row e dp xs ∧ s.heap i = some (.row e dp' xs) ∧ (dp' = dp ∨ e.flat = true)) ∨
    (∃ ρ d td x m0, blk = .box ρ (instD td x) ∧ s.heap i = some (.box ρ d) ∧ extD s td d = some (x, m0) ∧ Sub m0 m ∧ Shape ρ (instD td x)) ∨
    ∃ e xs k x p τ d td y m0, blk = .hol e xs k x p τ (instD td y) ∧ s.heap i = some (.hol e xs k x p τ d) ∧ extD s td d = some (y, m0) ∧ Sub m0 m ∧ Shape τ (instD td y))

theorem rowsD_entry : ∀ {td : TD} {d : D} {x : T td.ty} {m0 : IdMap}, extD s td d = some (x, m0) → Sub m0 m → ∀ p, p ∈ rowsD td x → ∃ blk, p.2 = some blk ∧ Entry s m p.1 blk := by
  intro td
  induction td with
  | own id' e dp =>
    intro d x m0 h hm p hp
    simp only [rowsD, List.mem_singleton] at hp
    subst hp
    cases d with
    | own id =>
      simp only [extD] at h
      split at h
      · rename_i e' dp' xs hb
        split at h
        · rename_i q hq
          subst q
          simp only [cond_none_some] at h
          obtain ⟨hc, h⟩ := h
          simp only [Option.some.injEq, Prod.mk.injEq] at h
          obtain ⟨rfl, rfl⟩ := h
          refine ⟨_, rfl, .inr ⟨id, hm _ (by simp), .inl ⟨_, dp, dp', _, rfl, hb, ?_⟩⟩⟩
          simpa using hc
        · simp at h
      · simp at h
    | nil =>
      simp only [extD, Option.some.injEq, Prod.mk.injEq] at h
      obtain ⟨rfl, rfl⟩ := h
      exact ⟨_, rfl, .inl ⟨hm _ (by simp), e, dp, rfl⟩⟩
    | _ => simp [extD] at h
  | hol id' e pth τ td ih =>
    intro d x m0 h hm p hp
    cases d with
    | own id =>
      simp only [extD] at h
      split at h
      · rename_i e' xs i x1 p' τ' d' hb
        split at h
        · rename_i q1 q2 hq1 hq2
          subst q1
          obtain rfl := dec_eq hq2
          simp only [cond_none_some] at h
          obtain ⟨hpp, h⟩ := h
          have hpp : pth = p' := by simpa using hpp
          subst hpp
          split at h
          · rename_i y m1 h1
            simp only [cond_none_some] at h
            obtain ⟨hsh, h⟩ := h
            simp only [Option.some.injEq, Prod.mk.injEq] at h
            obtain ⟨rfl, rfl⟩ := h
            simp only [rowsD] at hp
            rcases List.mem_cons.1 hp with rfl | hp
            · exact ⟨_, rfl, .inr ⟨id, hm _ (by simp), .inr (.inr ⟨_, _, i, _, _, _, d', td, y, m1, by simp only [Int.toNat_natCast], hb, h1, fun p hp => hm p (List.mem_cons_of_mem _ hp), shapeB_ok hsh⟩)⟩⟩
            · exact ih h1 (fun p hp => hm p (List.mem_cons_of_mem _ hp)) p hp
          · simp at h
        · simp at h
      · simp at h
    | _ => simp [extD] at h
  | pr a b iha ihb =>
    intro d x m0 h hm p hp
    simp only [extD] at h
    split at h
    · split at h
      · rename_i u l v l' h3 h4
        simp only [Option.some.injEq, Prod.mk.injEq] at h
        obtain ⟨rfl, rfl⟩ := h
        simp only [rowsD] at hp
        rcases List.mem_append.1 hp with hp | hp
        · exact iha h3 (fun p hp => hm p (List.mem_append_left _ hp)) p hp
        · exact ihb h4 (fun p hp => hm p (List.mem_append_right _ hp)) p hp
      · simp at h
    · simp at h
  | _ => intro d x m0 h hm p hp; simp [rowsD] at hp

theorem extT_ok : ∀ {l : List (Tmp × TD)} {x : T (Tpl.tyT l)} {m0 : IdMap}, extT s l = some (x, m0) → Sub m0 m →
    (∀ t d', aget (instT l x) t = some d' → ∃ td d y m1, aget s.tm t = some d ∧ extD s td d = some (y, m1) ∧ Sub m1 m ∧ d' = instD td y) ∧ (∀ p, p ∈ rowsT l x → ∃ blk, p.2 = some blk ∧ Entry s m p.1 blk)
  | [], x, m0, h, hm => ⟨by simp [instT, aget], by simp [rowsT]⟩
  | (t0, td) :: r, x, m0, h, hm => by
    simp only [extT] at h
    split at h
    · rename_i d hd
      split at h
      · rename_i y m1 z m2 h1 h2
        simp only [Option.some.injEq, Prod.mk.injEq] at h
        obtain ⟨rfl, rfl⟩ := h
        have hm1 : Sub m1 m := fun p hp => hm p (List.mem_append_left _ hp)
        obtain ⟨i1, i2⟩ := extT_ok h2 (fun p hp => hm p (List.mem_append_right _ hp))
        refine ⟨fun t d' ht => ?_, fun p hp => ?_⟩
        · simp only [instT] at ht
          rw [aget_cons] at ht
          split at ht
          · rename_i e
            subst e
            simp only [Option.some.injEq] at ht
            exact ⟨td, d, y, m1, hd, h1, hm1, ht.symm⟩
          · exact i1 t d' ht
        · simp only [rowsT] at hp
          rcases List.mem_append.1 hp with hp | hp
          · exact rowsD_entry h1 hm1 p hp
          · exact i2 p hp
      · simp at h
    · simp at h

theorem extB_ok : ∀ {l : List (Nat × Ty × TD)} {x : T (Tpl.tyB l)} {m0 m' : IdMap}, extB s l m0 = some (x, m') → Sub m' m →
    Sub m0 m ∧ ∀ p, p ∈ instB l x → ∃ blk, p.2 = some blk ∧ Entry s m p.1 blk
  | [], x, m0, m', h, hm => by
    simp only [extB, Option.some.injEq, Prod.mk.injEq] at h
    obtain ⟨_, rfl⟩ := h
    exact ⟨hm, by simp [instB]⟩
  | (id', ρ, td) :: r, x, m0, m', h, hm => by
    simp only [extB] at h
    split at h
    · rename_i id hid
      split at h
      · rename_i ρ' d hb
        split at h
        · rename_i q hq
          obtain rfl := q.down
          split at h
          · rename_i y m1 h1
            simp only [cond_none_some] at h
            obtain ⟨hsh, h⟩ := h
            split at h
            · rename_i z m2 h2
              simp only [Option.some.injEq, Prod.mk.injEq] at h
              obtain ⟨rfl, rfl⟩ := h
              obtain ⟨i1, i2⟩ := extB_ok h2 hm
              have hm0 : Sub m0 m := fun p hp => i1 p (List.mem_append_left _ hp)
              have hm1 : Sub m1 m := fun p hp => i1 p (List.mem_append_right _ hp)
              refine ⟨hm0, fun p hp => ?_⟩
              simp only [instB] at hp
              rcases List.mem_cons.1 hp with rfl | hp
              · exact ⟨_, rfl, .inr ⟨id, hm0 _ (aget_mem hid), .inr (.inl ⟨_, d, td, y, m1, rfl, hb, h1, hm1, shapeB_ok hsh⟩)⟩⟩
              · rcases List.mem_append.1 hp with hp | hp
                · exact rowsD_entry h1 hm1 p hp
                · exact i2 p hp
            · simp at h
          · simp at h
        · simp at h
      · simp at h
    · simp at h
end
end KF

namespace KF
open Go

theorem pinOk_some : ∀ {m : IdMap}, pinOk m = true → ∀ j i, (j, some i) ∈ m → (j < 500000 ∧ i < 500000) ∨ j = i
  | [], _, _, _, h => by simp at h
  | (j0, some i0) :: r, hp, j, i, h => by
    simp only [pinOk, Bool.and_eq_true, Bool.or_eq_true] at hp
    rcases List.mem_cons.1 h with e | h
    · simp only [Prod.mk.injEq, Option.some.injEq] at e
      obtain ⟨rfl, rfl⟩ := e
      rcases hp.1 with h1 | h1
      · rw [Nat.blt_eq, Nat.blt_eq] at h1; exact .inl h1
      · exact .inr (Nat.eq_of_beq_eq_true h1)
    · exact pinOk_some hp.2 j i h
  | (j0, none) :: r, hp, j, i, h => by
    simp only [pinOk, Bool.and_eq_true] at hp
    rcases List.mem_cons.1 h with e | h
    · simp at e
    · exact pinOk_some hp.2 j i h
theorem pinOk_none : ∀ {m : IdMap}, pinOk m = true → ∀ j, (j, none) ∈ m → j < 500000
  | [], _, _, h => by simp at h
  | (j0, some i0) :: r, hp, j, h => by
    simp only [pinOk, Bool.and_eq_true] at hp
    rcases List.mem_cons.1 h with e | h
    · simp at e
    · exact pinOk_none hp.2 j h
  | (j0, none) :: r, hp, j, h => by
    simp only [pinOk, Bool.and_eq_true] at hp
    rcases List.mem_cons.1 h with e | h
    · simp only [Prod.mk.injEq, and_true] at e
      subst e
      have := hp.1
      rwa [Nat.blt_eq] at this
    · exact pinOk_none hp.2 j h

theorem pair_ok {m : IdMap} (h : (m.all fun x => m.all fun y => pairOk x y) = true) {x y : Nat × Option Nat} (hx : x ∈ m) (hy : y ∈ m) : pairOk x y = true :=
  List.all_eq_true.1 (List.all_eq_true.1 h x hx) y hy
theorem pair_fun {m : IdMap} (h : (m.all fun x => m.all fun y => pairOk x y) = true) {j : Nat} {a c : Option Nat} (hx : (j, a) ∈ m) (hy : (j, c) ∈ m) : a = c := by
  have := pair_ok h hx hy
  unfold pairOk at this
  cases a with
  | none => cases c with
    | none => rfl
    | some c => simp at this
  | some a => cases c with
    | none => simp at this
    | some c => simpa [Nat.beq_eq] using this
theorem pair_inj {m : IdMap} (h : (m.all fun x => m.all fun y => pairOk x y) = true) {j j' i : Nat} (hx : (j, some i) ∈ m) (hy : (j', some i) ∈ m) : j = j' := by
  have := pair_ok h hx hy
  unfold pairOk at this
  simpa using this
theorem aget_some {α : Type} {j : Nat} {a : α} : ∀ {m : List (Nat × α)}, (j, a) ∈ m → ∃ c, aget m j = some c ∧ (j, c) ∈ m
  | [], h => by simp at h
  | (j0, a0) :: r, h => by
    rw [aget_cons]
    by_cases hj : j0 = j
    · subst hj; exact ⟨a0, by simp, by simp⟩
    · rw [if_neg hj]
      rcases List.mem_cons.1 h with e | h
      · simp only [Prod.mk.injEq] at e
        exact absurd e.1.symm hj
      · obtain ⟨c, h1, h2⟩ := aget_some h
        exact ⟨c, h1, List.mem_cons_of_mem _ h2⟩
theorem aget_pair {m : IdMap} (h : (m.all fun x => m.all fun y => pairOk x y) = true) {j : Nat} {a : Option Nat} (hx : (j, a) ∈ m) : aget m j = some a := by
  obtain ⟨c, h1, h2⟩ := aget_some hx
  rw [h1, pair_fun h hx h2]

section
variable {n0 : Nat} {A : Fx} {O0 : Nat → Prop} {w0 w : World} {s : AS} {σ : Nat → Value} {φ : Nat → List Nat} {a : Act}

theorem inst_ok (h : Conc n0 A O0 w0 s σ φ a w) {p : Tpl} {x : p.X} (he : ext p s = some x) : ∃ σ' φ', Conc n0 A O0 w0 (inst p x s.n) σ' φ' a w := by
  unfold ext at he
  split at he
  · rename_i x1 m1 h1
    split at he
    · rename_i x2 m h2
      simp only [cond_none_some] at he
      obtain ⟨hmo, he⟩ := he
      simp only [Option.some.injEq] at he
      subst he
      simp only [mapOk, Bool.and_eq_true] at hmo
      obtain ⟨hn1, hpo⟩ := hmo
      obtain ⟨hm1, hB⟩ := extB_ok h2 (fun p hp => hp)
      obtain ⟨hT1, hT2⟩ := extT_ok h1 hm1
      let σ' : Nat → Value := fun j => match aget m j with
        | some (some i) => σ i
        | some none => .slice none 0 0
        | none => σ j
      let φ' : Nat → List Nat := fun j => match aget m j with
        | some (some i) => φ i
        | _ => []
      have hσs : ∀ j i, (j, some i) ∈ m → σ' j = σ i ∧ φ' j = φ i := fun j i hj => by
        have := aget_pair hn1 hj
        simp only [σ', φ', this, and_self]
      have hσn : ∀ j, (j, none) ∈ m → σ' j = .slice none 0 0 ∧ φ' j = [] := fun j hj => by
        have := aget_pair hn1 hj
        simp only [σ', φ', this, and_self]
      have hent : ∀ j blk, (inst p (x1, x2) s.n).heap j = some blk → Entry s m j blk := by
        intro j blk hj
        have hmem := AS.heap_mem hj
        simp only [inst] at hmem
        rcases List.mem_append.1 hmem with hmem | hmem
        · obtain ⟨blk', e, hE⟩ := hT2 _ hmem
          simp only [Option.some.injEq] at e
          subst e
          exact hE
        · obtain ⟨blk', e, hE⟩ := hB _ hmem
          simp only [Option.some.injEq] at e
          subst e
          exact hE
      have hlive : ∀ j blk, (inst p (x1, x2) s.n).heap j = some blk → φ' j = [] ∨ ∃ i blk0, (j, some i) ∈ m ∧ s.heap i = some blk0 ∧ φ' j = φ i := by
        intro j blk hj
        rcases hent j blk hj with ⟨hn, _⟩ | ⟨i, hi, ⟨e, dp, dp', xs, _, hb, _⟩ | ⟨ρ, d, td, y, m0, _, hb, _⟩ | ⟨e, xs, k, x, p, τ, d, td, y, m0, _, hb, _⟩⟩
        · exact .inl (hσn j hn).2
        · exact .inr ⟨i, _, hi, hb, (hσs j i hi).2⟩
        · exact .inr ⟨i, _, hi, hb, (hσs j i hi).2⟩
        · exact .inr ⟨i, _, hi, hb, (hσs j i hi).2⟩
      have hOO : ∀ b, b < w.heap.size → ¬ OO O0 s φ b → ¬ OO O0 (inst p (x1, x2) s.n) φ' b := by
        rintro b _ hno (ho | ⟨j, blk, hj, hm⟩)
        · exact hno (.inl ho)
        · rcases hlive j blk hj with hφ | ⟨i, blk0, _, hb, hφ⟩
          · rw [hφ] at hm; simp at hm
          · rw [hφ] at hm; exact hno (.inr ⟨i, blk0, hb, hm⟩)
      have hTOk : TOk s σ σ' (inst p (x1, x2) s.n).heap m := by
        refine ⟨fun j i hj => (hσs j i hj).1, fun j hj => (hσn j hj).1, fun j i ρ d hj hb => ?_⟩
        rcases hent j _ hb with ⟨hn, e, dp, hh⟩ | ⟨i', hi', ⟨e, dp, dp', xs, hh, _⟩ | ⟨ρ', d', td, y, m0, hh, hb', _⟩ | ⟨e, xs, k, x, p, τ, d', td, y, m0, hh, _⟩⟩
        · simp at hh
        · simp at hh
        · simp only [Blk.box.injEq] at hh
          have e1 := aget_pair hn1 hj
          have e2 := aget_pair hn1 hi'
          rw [e1] at e2
          simp only [Option.some.injEq] at e2
          subst e2
          exact ⟨d', by rw [hb', hh.1]⟩
        · simp at hh
      refine ⟨σ', φ', h.sz, h.df, ?_, ?_, ?_, ?_, ?_, h.o0, h.fr, ?_⟩
      · intro t d' hd
        obtain ⟨td, d, y, m0, g1, g2, g3, g4⟩ := hT1 t d' hd
        obtain ⟨v, hv, hr⟩ := h.tm t d g1
        rw [g4]
        exact ⟨v, hv, extD_okU hTOk hOO g2 g3 hr⟩
      · intro j blk hj
        rcases hent j blk hj with ⟨hn, e, dp, rfl⟩ | ⟨i, hi, ⟨e, dp, dp', xs, rfl, hb, hd⟩ | ⟨ρ, d, td, y, m0, rfl, hb, hex, hsub, hsh⟩ | ⟨e, xs, k, x, p, τ, d, td, y, m0, rfl, hb, hex, hsub, hsh⟩⟩
        · rw [rowV_iff, (hσn j hn).1, (hσn j hn).2]
          exact ⟨by simp, .inl ⟨rfl, rfl, rfl⟩⟩
        · rw [rowV_iff, (hσs j i hi).1, (hσs j i hi).2]
          have hrow := rowV_iff.1 (h.hp i _ hb)
          have hst : ∀ dq, RowV w (OO O0 s φ) dq e xs (σ i) (φ i) → RowV w (OO O0 (inst p (x1, x2) s.n) φ') dq e xs (σ i) (φ i) := by
            rintro dq ⟨hm, g | ⟨bl, off, cap, cur, et, Fs, g1, hh, g2, g3, g4, hF, hel⟩⟩
            · exact ⟨hm, .inl g⟩
            · exact ⟨hm, .inr ⟨bl, off, cap, cur, et, Fs, g1, hh, g2, g3, g4, hF, hel.stable (fun _ _ _ => rfl) hOO (fun _ _ => rfl)⟩⟩
          rcases hd with rfl | hf
          · exact hst _ hrow
          · have hup := hrow.up
            rw [hf, Bool.or_true] at hup
            cases dp with
            | true => exact hst _ hup
            | false =>
              cases dp' with
              | false => exact hst _ hrow
              | true =>
                have hown := row_own (h.hp i _ hb) (.inl rfl)
                exact hst _ (rowV_iff.1 (own_row (O := OO O0 s φ) (hp := s.heap) hown hf))
        · rw [(hσs j i hi).2]
          obtain ⟨_, b, cur, et, g1, hh, hF, hr, hsz⟩ := h.hp i _ hb
          exact ⟨hsh, b, cur, et, by rw [(hσs j i hi).1]; exact g1, hh, hF, extD_ok hTOk hOO hex hsub hr, hsz⟩
        · rw [(hσs j i hi).2]
          obtain ⟨_, g1, g2, g3, bl, off, cap, cur, et, g4, g5, g6, g7, hr, hw⟩ := h.hp i _ hb
          refine ⟨hsh, g1, g2, g3, bl, off, cap, cur, et, by rw [(hσs j i hi).1]; exact g4, g5, g6, g7, extD_ok hTOk hOO hex hsub hr, fun w' c' h1 h2 h3 y Fy x' h4 h5 => ?_⟩
          rw [(hσs j i hi).1]
          exact hw w' c' h1 h2 h3 y Fy x' h4 h5
      · intro j blk hj
        rcases hlive j blk hj with hφ | ⟨i, blk0, _, hb, hφ⟩
        · rw [hφ]; exact List.nodup_nil
        · rw [hφ]; exact h.nodup i blk0 hb
      · intro j j' blk blk' hne hj hj' b hb hb'
        rcases hlive j blk hj with hφ | ⟨i, blk0, hi, hbi, hφ⟩
        · rw [hφ] at hb; simp at hb
        · rcases hlive j' blk' hj' with hφ' | ⟨i', blk0', hi', hbi', hφ'⟩
          · rw [hφ'] at hb'; simp at hb'
          · rw [hφ] at hb
            rw [hφ'] at hb'
            by_cases hii : i = i'
            · subst hii
              exact hne (pair_inj hn1 hi hi')
            · exact h.disj i i' blk0 blk0' hii hbi hbi' b hb hb'
      · intro j blk hj b hb
        rcases hlive j blk hj with hφ | ⟨i, blk0, _, hbi, hφ⟩
        · rw [hφ] at hb; simp at hb
        · rw [hφ] at hb; exact h.fresh i blk0 hbi b hb
      · intro j v hv
        have hlow := A.low j v hv
        show σ' j = v
        simp only [σ']
        split
        · rename_i i hg
          rcases pinOk_some hpo j i (aget_mem hg) with ⟨hj, _⟩ | rfl
          · omega
          · exact h.pin _ v hv
        · rename_i hg
          have := pinOk_none hpo j (aget_mem hg)
          omega
        · exact h.pin j v hv
    · simp at he
  · simp at he
end
end KF

namespace KF
open Go

def exOf : Ex → Exit
  | .normal => .normal
  | .exit id => .exit id
  | .ret => .ret

def Iter {X R : Type} (step : X → Option (X ⊕ R)) : Nat → X → R → Prop
  | 0, _, _ => False
  | n + 1, x, r => step x = some (.inr r) ∨ ∃ x', step x = some (.inl x') ∧ Iter step n x' r

/-- the bodies of the loops within a piece of code -/
def loopsOf : Code → List Code
  | .seq a b => loopsOf a ++ loopsOf b
  | .cond _ a b => loopsOf a ++ loopsOf b
  | .block _ c => loopsOf c
  | .loop c => c :: loopsOf c
  | _ => []

def LoopOk (G : Env) (L : List (Nat × LoopSem)) (b : Code) : Prop :=
  ∀ r ls, firstRegion b = some r → aget L r = some ls → ∀ x y, ls.F x = some y → ∃ m, Iter (round G L ls b) m x y

section
variable {P : Program} {n0 : Nat} {A : Fx} {O0 : Nat → Prop} {w0 : World} {G : Env} {L : List (Nat × LoopSem)}

theorem evC_ok (hG : EnvOk P G) (hfz : G.fz = true → ∀ b, ¬ A.A b) (hm : P.follows .mixedOrders = true) : ∀ (c : Code), (∀ b, b ∈ loopsOf c → LoopOk G L b) → ∀ {Out : Type} {k : Ex → AS → Option Out} {out : Out} {s : AS} {σ : Nat → Value} {φ : Nat → List Nat} {a : Act} {w : World} {Q : Exit → Act → World → Prop},
    evC G L c s k = some out → Conc n0 A O0 w0 s σ φ a w → (∀ e s σ φ a w, k e s = some out → Conc n0 A O0 w0 s σ φ a w → Q (exOf e) a w) → c.wp P Q a w := by
  intro c
  induction c with
  | skip =>
    intro _ Out k out s σ φ a w Q he h hQ
    simp only [evC] at he
    exact wp_skip (hQ .normal s σ φ a w he h)
  | region id ops draw =>
    intro _ Out k out s σ φ a w Q he h hQ
    simp only [evC] at he
    split at he
    · rename_i s1 h1
      obtain ⟨φ1, hc⟩ := attL_ok hfz h h1
      refine region_ok (k := fun s' => match attL G.fz G.att (1000 * id + 999) s' with
        | some s' => k .normal s'
        | none => none) hG hfz hm hc he fun a w ⟨s', σ', φ', h2, h3⟩ => ?_
      simp only at h2
      split at h2
      · rename_i s2 h4
        obtain ⟨φ2, hc2⟩ := attL_ok hfz h3 h4
        exact hQ .normal _ σ' φ2 a w h2 hc2
      · simp at h2
    · simp at he
  | seq x y ihx ihy =>
    intro hL Out k out s σ φ a w Q he h hQ
    simp only [evC] at he
    refine wp_seq (ihx (fun b hb => hL b (by simp [loopsOf, hb])) he h fun e s' σ' φ' a' w' hk h' => ?_)
    cases e with
    | normal => exact ihy (fun b hb => hL b (by simp [loopsOf, hb])) hk h' hQ
    | exit j => exact hQ (.exit j) s' σ' φ' a' w' hk h'
    | ret => exact hQ .ret s' σ' φ' a' w' hk h'
  | cond x y z ihy ihz =>
    intro hL Out k out s σ φ a w Q he h hQ
    cases x with
    | tmp t =>
      simp only [evC] at he
      split at he
      · rename_i β hd
        have hs := h.same hd
        obtain ⟨v, hv, hr⟩ := h.tm t _ hd
        rw [repU_bool] at hr
        subst hr
        have hev : a.eval (.tmp t) = .bool β := by
          simp only [Act.eval]
          rw [Array.getD_eq_getD_getElem?, hv]
          rfl
        refine wp_cond_split hev (fun hb => ?_) (fun hb => ?_)
        · subst hb
          simp only [cond_true] at he
          exact ihy (fun b hb => hL b (by simp [loopsOf, hb])) he hs hQ
        · subst hb
          simp only [cond_false] at he
          exact ihz (fun b hb => hL b (by simp [loopsOf, hb])) he hs hQ
      · simp at he
    | _ => simp [evC] at he
  | block id c ih =>
    intro hL Out k out s σ φ a w Q he h hQ
    simp only [evC] at he
    refine wp_block (ih (fun b hb => hL b (by simpa [loopsOf] using hb)) he h fun e s' σ' φ' a' w' hk h' => ?_)
    cases e with
    | normal => exact hQ .normal s' σ' φ' a' w' hk h'
    | exit j =>
      simp only [exOf, Exit.inBlock]
      cases hb : Nat.beq j id with
      | true =>
        rw [if_pos (Nat.eq_of_beq_eq_true hb)]
        simp only [hb, cond_true] at hk
        exact hQ .normal s' σ' φ' a' w' hk h'
      | false =>
        rw [if_neg (fun e => by rw [e, Nat.beq_refl] at hb; simp at hb)]
        simp only [hb, cond_false] at hk
        exact hQ (.exit j) s' σ' φ' a' w' hk h'
    | ret => exact hQ .ret s' σ' φ' a' w' hk h'
  | exit id =>
    intro _ Out k out s σ φ a w Q he h hQ
    simp only [evC] at he
    exact wp_exit (hQ (.exit id) s σ φ a w he h)
  | ret =>
    intro _ Out k out s σ φ a w Q he h hQ
    simp only [evC] at he
    exact wp_ret (hQ .ret s σ φ a w he h)
  | loop c ih =>
    intro hL Out k out s σ φ a w Q he h hQ
    simp only [evC] at he
    split at he
    · rename_i r hr
      split at he
      · rename_i ls hls
        split at he
        · rename_i x hx
          simp only [cond_none_some] at he
          obtain ⟨hn, he⟩ := he
          have hn := Nat.eq_of_beq_eq_true hn
          rw [Option.bind_eq_some_iff] at he
          obtain ⟨y, hy, he⟩ := he
          obtain ⟨m, hit⟩ := hL c (by simp [loopsOf]) r ls hr hls x y hy
          obtain ⟨σ1, φ1, h1⟩ := inst_ok h hx
          rw [hn] at h1 he
          refine wp_loop_rounds m ?_
          have key : ∀ (m : Nat) (x : ls.inT.X) (σ : Nat → Value) (φ : Nat → List Nat) (a : Act) (w : World), Iter (round G L ls c) m x y → Conc n0 A O0 w0 (inst ls.inT x ls.n) σ φ a w → Code.rounds P c Q m a w := by
            intro m
            induction m with
            | zero => intro x σ φ a w hit _; exact hit.elim
            | succ m ihm =>
              intro x σ φ a w hit h
              rw [rounds_succ]
              have body : ∀ z, round G L ls c x = some z → (z = .inr y ∨ ∃ x', z = .inl x' ∧ Iter (round G L ls c) m x' y) → c.wp P (Exit.then (Code.rounds P c Q m) Q) a w := by
                intro z hz hzy
                unfold round at hz
                refine ih (fun b hb => hL b (by simp [loopsOf, hb])) hz h fun e s' σ' φ' a' w' hk h' => ?_
                simp only [cond_none_some] at hk
                obtain ⟨hn', hk⟩ := hk
                have hn' := Nat.eq_of_beq_eq_true hn'
                cases e with
                | normal =>
                  simp only at hk
                  split at hk
                  · rename_i x' hx'
                    simp only [Option.some.injEq] at hk
                    obtain ⟨σ2, φ2, h2⟩ := inst_ok h' hx'
                    rw [hn'] at h2
                    rcases hzy with hzy | ⟨x'', hzy, hit'⟩
                    · rw [hzy] at hk; simp at hk
                    · rw [hzy] at hk
                      simp only [Sum.inl.injEq] at hk
                      subst hk
                      exact ihm x' σ2 φ2 a' w' hit' h2
                  · simp at hk
                | exit j =>
                  simp only [cond_none_some] at hk
                  obtain ⟨hj, hk⟩ := hk
                  have hj := Nat.eq_of_beq_eq_true hj
                  split at hk
                  · rename_i y' hy'
                    simp only [Option.some.injEq] at hk
                    obtain ⟨σ2, φ2, h2⟩ := inst_ok h' hy'
                    rw [hn'] at h2
                    rcases hzy with hzy | ⟨x'', hzy, _⟩
                    · rw [hzy] at hk
                      simp only [Sum.inr.injEq] at hk
                      subst hk
                      simp only [Sum.elim_inl] at he
                      show Q (.exit j) a' w'
                      rw [hj]
                      exact hQ (.exit ls.exitId) _ σ2 φ2 a' w' he h2
                    · rw [hzy] at hk; simp at hk
                  · simp at hk
                | ret =>
                  simp only at hk
                  split at hk
                  · rename_i y' hy'
                    simp only [Option.some.injEq] at hk
                    obtain ⟨σ2, φ2, h2⟩ := inst_ok h' hy'
                    rw [hn'] at h2
                    rcases hzy with hzy | ⟨x'', hzy, _⟩
                    · rw [hzy] at hk
                      simp only [Sum.inr.injEq] at hk
                      subst hk
                      simp only [Sum.elim_inr] at he
                      exact hQ .ret _ σ2 φ2 a' w' he h2
                    · rw [hzy] at hk; simp at hk
                  · simp at hk
              rcases hit with hit | ⟨x', hit, hit'⟩
              · exact body _ hit (.inl rfl)
              · exact body _ hit (.inr ⟨x', rfl, hit'⟩)
          exact key m x σ1 φ1 a w hit h1
        · simp at he
      · simp at he
    · simp at he
  | _ => intros; rename_i he _ _; simp [evC] at he
end
end KF

namespace KF
open Go

theorem RParts.mono {w : World} {O O' : Nat → Prop} (hO : ∀ b, O' b → O b) : ∀ {rt : Ty} {r : T rt} {fr : List Bool} {vs : List Value} {F : List Nat}, RParts w O rt r fr vs F → RParts w O' rt r fr vs F
  | .u, _, [], [], _, h => h
  | .p x y, r, f :: fr, v :: vs, F, h => by
    obtain ⟨cs, F1, F2, hv, hF, h1, h2⟩ := h
    refine ⟨cs, F1, F2, hv, hF, ?_, RParts.mono hO h2⟩
    cases f with
    | true => exact h1
    | false =>
      simp only [Bool.false_eq_true, if_false] at h1 ⊢
      exact ⟨h1.1.weaken hO, h1.2⟩
  | .u, _, _ :: _, _, _, h => by simp [RParts] at h
  | .u, _, [], _ :: _, _, h => by simp [RParts] at h
  | .p _ _, _, [], _, _, h => by simp [RParts] at h
  | .p _ _, _, _ :: _, [], _, h => by simp [RParts] at h
  | .i _, _, fr, vs, _, h => by simp [RParts] at h
  | .b, _, fr, vs, _, h => by simp [RParts] at h
  | .s, _, fr, vs, _, h => by simp [RParts] at h
  | .sl _, _, fr, vs, _, h => by simp [RParts] at h

section
variable {P : Program} {n0 : Nat} {A : Fx} {O0 : Nat → Prop} {w0 w : World} {s : AS} {σ : Nat → Value} {φ : Nat → List Nat} {a : Act} {G : Env} {L : List (Nat × LoopSem)}

def RU (w : World) (O : Nat → Prop) (hp : Nat → Option Blk) (σ : Nat → Value) : D → List Value → Prop
  | .pr a b, v :: vs => RepU w O hp σ a v ∧ RU w O hp σ b vs
  | .un, [] => True
  | _, _ => False

def resOne (tmps : Array Value) : ResultVar → Sem Value
  | .tmp t => pure (tmps.getD t undef)
  | .cell a t => do loadVar t (← asAddr (tmps.getD a undef))

theorem resDs_ok (hG : EnvTy P G) (h : Conc n0 A O0 w0 s σ φ a w) : ∀ {rs : List ResultVar} {d : D}, resDs G s rs = some d → ∃ vs, (rs.mapM (resOne a.tmps)).run P w = .ok vs w ∧ RU w (OO O0 s φ) s.heap σ d vs
  | [], d, he => by
    simp only [resDs, Option.some.injEq] at he
    subst he
    exact ⟨[], by simp, trivial⟩
  | .tmp t :: r, d, he => by
    simp only [resDs] at he
    split at he
    · rename_i d1 d2 h1 h2
      simp only [Option.some.injEq] at he
      subst he
      obtain ⟨vs, hvs, hr⟩ := resDs_ok hG h h2
      obtain ⟨v, hv, hru⟩ := h.tm t d1 h1
      have hg : a.tmps.getD t undef = v := by rw [Array.getD_eq_getD_getElem?, hv]; rfl
      refine ⟨v :: vs, ?_, hru, hr⟩
      rw [List.mapM_cons]
      simp only [resOne, Sem.run_bind, Sem.run_pure, Result.andThen_ok, hvs, hg]
    · simp at he
  | .cell t ty :: r, d, he => by
    simp only [resDs] at he
    split at he
    · rename_i id d2 h1 h2
      split at he
      · rename_i ρ d1 τ hb hty
        split at he
        · rename_i q hq
          obtain rfl := q.down
          simp only [Option.some.injEq] at he
          subst he
          obtain ⟨vs, hvs, hr⟩ := resDs_ok hG h h2
          obtain ⟨v, hv, hru⟩ := h.tm t _ h1
          have hg : a.tmps.getD t undef = v := by rw [Array.getD_eq_getD_getElem?, hv]; rfl
          rw [repU_ptr] at hru
          obtain ⟨b, hσ, hv'⟩ := hru.2 _ _ hb
          obtain ⟨hs, b', cur, et, hσ', hh, hF, hrep, hsz⟩ := h.hp id _ hb
          rw [hσ] at hσ'
          simp at hσ'
          subst hσ'
          have hl := run_loadVar' (P := P) (hG.ty _ _ hty) (off := 0) hh (by omega)
          have hseg : seg cur 0 ρ.size = cur.toList := by rw [← hsz]; exact seg_all cur
          rw [hseg] at hl
          refine ⟨vof ρ cur.toList :: vs, ?_, repU_vof hs hrep, hr⟩
          rw [List.mapM_cons]
          have hoff : offAt ρ [] = 0 := rfl
          rw [hoff] at hv'
          subst hv'
          simp only [resOne, Sem.run_bind, Sem.run_pure, Result.andThen_ok, hvs, hg, asAddr, hl]
        · simp at he
      · simp at he
    · simp at he

theorem resT_ok (h : Conc n0 A O0 w0 s σ φ a w) : ∀ {rt : Ty} {fr : List Bool} {d : D} {r : T rt} {l : List Nat} {vs : List Value}, resT s rt fr d = some (r, l) → RU w (OO O0 s φ) s.heap σ d vs →
    RParts w (OO O0 s φ) rt r fr vs (blocks φ l) ∧ ∀ j, j ∈ l → ∃ b, s.heap j = some b
  | .u, [], .un, r, l, vs, he, hr => by
    simp only [resT, Option.some.injEq, Prod.mk.injEq] at he
    obtain ⟨_, rfl⟩ := he
    cases vs with
    | nil => exact ⟨by simp [RParts, blocks], by simp⟩
    | cons v vs => simp [RU] at hr
  | .p x y, f :: fr, .pr d1 d2, r, l, vs, he, hr => by
    cases vs with
    | nil => simp [RU] at hr
    | cons v vs =>
      simp only [resT] at he
      split at he
      · rename_i u l1 z l2 h1 h2
        simp only [Option.some.injEq, Prod.mk.injEq] at he
        obtain ⟨rfl, rfl⟩ := he
        obtain ⟨g1, g2⟩ := resT_ok h h2 hr.2
        cases f with
        | true =>
          simp only [cond_true] at h1
          obtain ⟨hrep, hv⟩ := rep_cells (ownT_shape h1) hr.1
          obtain ⟨ho, hl⟩ := ownT_ok h h1 hrep
          refine ⟨⟨_, blocks φ l1, blocks φ l2, hv, blocks_append, ?_, g1⟩, ?_⟩
          · simpa using ho
          · intro j hj
            rcases List.mem_append.1 hj with hj | hj
            · exact hl j hj
            · exact g2 j hj
        | false =>
          simp only [cond_false] at h1
          split at h1
          · rename_i u' hu
            simp only [Option.some.injEq, Prod.mk.injEq] at h1
            obtain ⟨rfl, rfl⟩ := h1
            obtain ⟨hs, hvw⟩ := toT_view (w := w) (O := OO O0 s φ) (hp := s.heap) (σ := σ) hu
            obtain ⟨hrep, hv⟩ := rep_cells hs hr.1
            refine ⟨⟨_, [], blocks φ l2, hv, by simp [blocks], ?_, g1⟩, by simpa using g2⟩
            simpa using hvw _ hrep
          · simp at h1
      · simp at he
  | .u, _ :: _, d, _, _, _, he, _ => by cases d <;> simp [resT] at he
  | .u, [], .und, _, _, _, he, _ => by simp [resT] at he
  | .u, [], .t _ _, _, _, _, he, _ => by simp [resT] at he
  | .u, [], .nil, _, _, _, he, _ => by simp [resT] at he
  | .u, [], .own _, _, _, _, he, _ => by simp [resT] at he
  | .u, [], .ptr _ _, _, _, _, he, _ => by simp [resT] at he
  | .u, [], .eptr _ _ _, _, _, _, he, _ => by simp [resT] at he
  | .u, [], .rp _ _, _, _, _, he, _ => by simp [resT] at he
  | .u, [], .pr _ _, _, _, _, he, _ => by simp [resT] at he
  | .u, [], .tup _, _, _, _, he, _ => by simp [resT] at he
  | .p _ _, [], d, _, _, _, he, _ => by cases d <;> simp [resT] at he
  | .p _ _, _ :: _, .und, _, _, _, he, _ => by simp [resT] at he
  | .p _ _, _ :: _, .t _ _, _, _, _, he, _ => by simp [resT] at he
  | .p _ _, _ :: _, .nil, _, _, _, he, _ => by simp [resT] at he
  | .p _ _, _ :: _, .own _, _, _, _, he, _ => by simp [resT] at he
  | .p _ _, _ :: _, .ptr _ _, _, _, _, he, _ => by simp [resT] at he
  | .p _ _, _ :: _, .eptr _ _ _, _, _, _, he, _ => by simp [resT] at he
  | .p _ _, _ :: _, .rp _ _, _, _, _, he, _ => by simp [resT] at he
  | .p _ _, _ :: _, .un, _, _, _, he, _ => by simp [resT] at he
  | .p _ _, _ :: _, .tup _, _, _, _, he, _ => by simp [resT] at he
  | .i _, fr, d, _, _, _, he, _ => by cases fr <;> cases d <;> simp [resT] at he
  | .b, fr, d, _, _, _, he, _ => by cases fr <;> cases d <;> simp [resT] at he
  | .s, fr, d, _, _, _, he, _ => by cases fr <;> cases d <;> simp [resT] at he
  | .sl _, fr, d, _, _, _, he, _ => by cases fr <;> cases d <;> simp [resT] at he

theorem run_results {fn : Func} {vs : List Value} (h : (fn.results.toList.mapM (resOne a.tmps)).run P w = .ok vs w) : (results fn a.tmps).run P w = .ok (oneV vs) w := by
  unfold results
  rw [Array.mapM_eq_mapM_toList]
  simp only [map_eq_pure_bind, bind_assoc, pure_bind, Sem.run_bind, Sem.run_pure]
  show (Sem.run P (List.mapM (resOne a.tmps) fn.results.toList) w).andThen (fun vs w' => Result.ok (if h : vs.toArray.size = 1 then vs.toArray[0] else Value.tuple vs.toArray) w') = _
  rw [h]
  simp only [Result.andThen_ok]
  congr 1
  cases vs with
  | nil => rfl
  | cons v vs => cases vs <;> rfl
end
end KF

namespace KF
open Go

/-- how many parameters -/
def Ty.npar : Ty → Nat
  | .p _ y => y.npar + 1
  | _ => 0

theorem vargs_len {w : World} {O : Nat → Prop} : ∀ {pt : Ty} {x : T pt} {args : List Value}, VArgs w O pt x args → args.length = pt.npar
  | .u, _, [], _ => rfl
  | .p x y, v, a :: r, h => by simp [Ty.npar, vargs_len h.2]
  | .u, _, _ :: _, h => by simp [VArgs] at h
  | .p _ _, _, [], h => by simp [VArgs] at h
  | .i _, _, l, h => by simp [VArgs] at h
  | .b, _, l, h => by simp [VArgs] at h
  | .s, _, l, h => by simp [VArgs] at h
  | .sl _, _, l, h => by simp [VArgs] at h

theorem parsD_ok {w : World} {O : Nat → Prop} {hp : Nat → Option Blk} {σ : Nat → Value} : ∀ {pt : Ty} {x : T pt} {args : List Value} {n t : Nat} {d : D}, VArgs w O pt x args → aget (parsD pt x n) t = some d →
    ∃ j v, t = n + j ∧ args[j]? = some v ∧ RepU w O hp σ d v
  | .p x y, v, a :: r, n, t, d, h, hd => by
    simp only [parsD] at hd
    rw [aget_cons] at hd
    split at hd
    · rename_i e
      simp only [Option.some.injEq] at hd
      subst hd
      obtain ⟨⟨cs, ha, hv⟩, _⟩ := h
      refine ⟨0, a, by omega, rfl, ?_⟩
      rw [ha]
      exact repU_vof (τ := x) (by simp [Shape]) hv
    · obtain ⟨j, v', h1, h2, h3⟩ := parsD_ok (hp := hp) (σ := σ) h.2 hd
      exact ⟨j + 1, v', by omega, by simpa using h2, h3⟩
  | .p _ _, _, [], _, _, _, h, _ => by simp [VArgs] at h
  | .u, _, _, _, _, _, _, hd => by simp [parsD, aget] at hd
  | .i _, _, _, _, _, _, h, _ => by simp [VArgs] at h
  | .b, _, _, _, _, _, h, _ => by simp [VArgs] at h
  | .s, _, _, _, _, _, h, _ => by simp [VArgs] at h
  | .sl _, _, _, _, _, _, h, _ => by simp [VArgs] at h

section
variable {P : Program} {G : Env} {L : List (Nat × LoopSem)}

def noFx : Fx := ⟨fun _ => False, fun _ => none, fun _ _ h => by simp at h⟩

theorem sound_pu (hG : EnvOk P G) (hm : P.follows .mixedOrders = true) {f : FuncId} {fn : Func} {c : Code} (hf : P.funcs[f]? = some fn) (hb : fn.body = some c) (hname : (fn.name == "runtime.NumGoroutine") = false)
    (hL : ∀ b, b ∈ loopsOf c → LoopOk G L b) {pt rt : Ty} {fr : List Bool} {F : T pt → Option (T rt)} (hn : pt.npar ≤ fn.ntmps) (hF : ∀ x r, F x = some r → evF G L fn pt rt fr x = some r) : Sound P f (.pu pt rt fr F) := by
  refine ⟨⟨fn, hf, hname, by rw [hb]; rfl⟩, ?_⟩
  intro O w x r args hx hargs hO
  have he := hF x r hx
  unfold evF at he
  rw [hb] at he
  simp only at he
  refine calls_of_wp hf hb ?_
  have hlen := vargs_len hargs
  have hc : Conc w.heap.size noFx O w ⟨fn.ntmps, parsD pt x 0, []⟩ (fun _ => undef) (fun _ => []) { tmps := args.toArray ++ Array.replicate (fn.ntmps - args.toArray.size) undef, defers := [] } w := by
    have hh : ∀ id, AS.heap ⟨fn.ntmps, parsD pt x 0, []⟩ id = none := fun id => rfl
    refine ⟨?_, rfl, ?_, ?_, ?_, ?_, ?_, hO, ⟨rfl, rfl, rfl, Nat.le_refl _, fun _ _ _ => rfl⟩, ?_⟩
    · simp; omega
    · intro t d hd
      have hOO : OO O ⟨fn.ntmps, parsD pt x 0, []⟩ (fun _ => []) = O := by
        funext b
        simp [OO, hh]
      rw [hOO]
      obtain ⟨j, v, h1, h2, h3⟩ := parsD_ok hargs hd
      refine ⟨v, ?_, h3⟩
      have hj : j < args.length := (List.getElem?_eq_some_iff.1 h2).1
      have : t = j := by omega
      subst this
      rw [Array.getElem?_append_left (by simpa using hj)]
      simpa using h2
    · intro id blk hb; rw [hh] at hb; simp at hb
    · intro id blk hb; rw [hh] at hb; simp at hb
    · intro id id' blk blk' _ hb; rw [hh] at hb; simp at hb
    · intro id blk hb; rw [hh] at hb; simp at hb
    · intro id v hv; simp [noFx] at hv
  refine evC_ok hG (fun _ _ h => h) hm c hL he hc ?_
  intro e s σ φ a w' hk h
  have fin : (match resDs G s fn.results.toList with
        | some d => match resT s rt fr d with
          | some (r, l) => bif nodupB l then some r else none
          | none => none
        | none => none) = some r → a.defers = [] ∧ ∃ v, (results fn a.tmps).run P w' = .ok v w' ∧ Returns (fun v w' => ∃ vs Fr, v = oneV vs ∧ Kept w w' (fun _ => False) ∧ RParts w' (fun b => O b ∨ b ∈ Fr) rt r fr vs Fr ∧ Fr.Nodup ∧ ∀ b ∈ Fr, w.heap.size ≤ b) (.returned v) w' := by
    intro hk
    split at hk
    · rename_i d hd
      split at hk
      · rename_i r' l hr
        simp only [cond_none_some] at hk
        obtain ⟨hnd, hk⟩ := hk
        simp only [Option.some.injEq] at hk
        subst hk
        have hnd := nodupB_ok hnd
        obtain ⟨vs, hvs, hru⟩ := resDs_ok hG.toEnvTy h hd
        obtain ⟨hR, hlive⟩ := resT_ok h hr hru
        refine ⟨h.df, _, run_results hvs, vs, blocks φ l, rfl, ⟨h.fr.size, fun b hb _ => h.fr.block b hb (fun h => h), h.fr.os, h.fr.tape, h.fr.output⟩, hR.mono ?_, blocks_nodup h hnd hlive, ?_⟩
        · rintro b (hb | hb)
          · exact .inl hb
          · obtain ⟨j, hj, hm'⟩ := mem_blocks.1 hb
            obtain ⟨blk, hbj⟩ := hlive j hj
            exact .inr ⟨j, blk, hbj, hm'⟩
        · intro b hb
          obtain ⟨j, hj, hm'⟩ := mem_blocks.1 hb
          obtain ⟨blk, hbj⟩ := hlive j hj
          exact (h.fresh j blk hbj b hm').resolve_right (fun h => h)
      · simp at hk
    · simp at hk
  cases e with
  | normal => exact fin hk
  | ret => exact fin hk
  | exit j => simp at hk
end
end KF

namespace KF
open Go

/-- a function's body, its first argument handed over -/
def evFio (G : Env) (L : List (Nat × LoopSem)) (fn : Func) (τ pt rt : Ty) (fr : List Bool) (x0 : T τ) (x : T pt) : Option (T τ × T rt) :=
  match fn.body with
  | some c => match openD τ x0 500000 with
    | (d0, rows, _) => evC G L c ⟨fn.ntmps, (0, d0) :: parsD pt x 1, rows⟩ fun e s => match e with
      | .exit _ => none
      | _ => match ownT s d0 τ, resDs G s fn.results.toList with
        | some (x', l0), some d => match resT s rt fr d with
          | some (r, l) => bif nodupB (l0 ++ l) then some (x', r) else none
          | none => none
        | _, _ => none
  | none => none

theorem blocks_apart {φ : Nat → List Nat} : ∀ {L : List Nat}, (blocks φ L).Nodup → ∀ {i j b : Nat}, i ∈ L → j ∈ L → i ≠ j → b ∈ φ i → b ∉ φ j
  | [], _, _, _, _, h, _, _, _ => by simp at h
  | x :: L, hn, i, j, b, hi, hj, hne, hb => by
    intro hb'
    have hx : blocks φ (x :: L) = φ x ++ blocks φ L := by simp [blocks]
    rw [hx, List.nodup_append] at hn
    rcases List.mem_cons.1 hi with e1 | q1
    · rcases List.mem_cons.1 hj with e2 | q2
      · exact hne (e1.trans e2.symm)
      · exact hn.2.2 b (e1 ▸ hb) b (mem_blocks.2 ⟨j, q2, hb'⟩) rfl
    · rcases List.mem_cons.1 hj with e2 | q2
      · exact hn.2.2 b (e2 ▸ hb') b (mem_blocks.2 ⟨i, q1, hb⟩) rfl
      · exact blocks_apart hn.2.1 q1 q2 hne hb hb'

section
variable {P : Program} {G : Env} {L : List (Nat × LoopSem)}

theorem sound_io (hG : EnvOk P G) (hfz : G.fz = false) (hm : P.follows .mixedOrders = true) {f : FuncId} {fn : Func} {c : Code} (hf : P.funcs[f]? = some fn) (hb : fn.body = some c) (hname : (fn.name == "runtime.NumGoroutine") = false)
    (hL : ∀ b, b ∈ loopsOf c → LoopOk G L b) {τ pt rt : Ty} {fr : List Bool} {F : T τ → T pt → Option (T τ × T rt)} (hn : pt.npar + 1 ≤ fn.ntmps) (hF : ∀ x0 x r, F x0 x = some r → evFio G L fn τ pt rt fr x0 x = some r) :
    Sound P f (.io τ pt rt fr F) := by
  refine ⟨⟨fn, hf, hname, by rw [hb]; rfl⟩, ?_⟩
  intro O w x0 x r cs0 F0 args hx hown hF0 hargs hO
  have he := hF x0 x r hx
  unfold evFio at he
  rw [hb] at he
  simp only at he
  rcases hop : openD τ x0 500000 with ⟨d0, rows, m⟩
  rw [hop] at he
  simp only at he
  obtain ⟨_, hids, hsh, ψ, ν, hbl, hrows, hrep⟩ := openD_ok hop hown
  refine calls_of_wp hf hb ?_
  have hlen := vargs_len hargs
  have hmem : ∀ id blk, AS.heap ⟨fn.ntmps, (0, d0) :: parsD pt x 1, rows⟩ id = some blk → id ∈ rows.map (·.1) ∧ ∃ e xs, blk = .row e true xs ∧ Own w (.sl e) xs [ν id] (ψ id) := by
    intro id blk hb
    have hm := AS.heap_mem hb
    obtain ⟨e, xs, h1, h2⟩ := hrows _ hm
    simp only [Option.some.injEq] at h1
    exact ⟨List.mem_map_of_mem (f := (·.1)) hm, e, xs, h1, h2⟩
  have hF0' : (blocks ψ (rows.map (·.1))).Nodup := by rw [hbl]; exact hF0
  let A : Fx := ⟨(· ∈ F0), fun id => if id ∈ rows.map (·.1) then some (ν id) else none, fun id v h => by
    split at h
    · rename_i hi
      obtain ⟨p, hp, rfl⟩ := List.mem_map.1 hi
      exact (hids p hp).1
    · simp at h⟩
  have hOO : OO (fun b => O b ∨ b ∈ F0) ⟨fn.ntmps, (0, d0) :: parsD pt x 1, rows⟩ ψ = (fun b => O b ∨ b ∈ F0) := by
    funext b
    refine propext ⟨fun h => ?_, .inl⟩
    rcases h with h | ⟨id, blk, hb, hm⟩
    · exact h
    · refine .inr ?_
      rw [← hbl]
      exact mem_blocks.2 ⟨id, (hmem id blk hb).1, hm⟩
  have hc : Conc w.heap.size A (fun b => O b ∨ b ∈ F0) w ⟨fn.ntmps, (0, d0) :: parsD pt x 1, rows⟩ ν ψ { tmps := (vof τ cs0 :: args).toArray ++ Array.replicate (fn.ntmps - (vof τ cs0 :: args).toArray.size) undef, defers := [] } w := by
    refine ⟨?_, rfl, ?_, ?_, ?_, ?_, ?_, ?_, ⟨rfl, rfl, rfl, Nat.le_refl _, fun _ _ _ => rfl⟩, ?_⟩
    · simp; omega
    · intro t d hd
      rw [hOO]
      rw [aget_cons] at hd
      split at hd
      · rename_i e
        subst e
        simp only [Option.some.injEq] at hd
        subst hd
        exact ⟨vof τ cs0, by rw [Array.getElem?_append_left (by simp)]; simp, repU_vof hsh (hrep w _ _ _ fun _ _ => rfl)⟩
      · obtain ⟨j, v, h1, h2, h3⟩ := parsD_ok hargs hd
        refine ⟨v, ?_, h3⟩
        have hj : j < args.length := (List.getElem?_eq_some_iff.1 h2).1
        have : t = j + 1 := by omega
        subst this
        rw [Array.getElem?_append_left (by simpa using hj)]
        simpa using h2
    · intro id blk hb
      obtain ⟨_, e, xs, rfl, h2⟩ := hmem id blk hb
      exact h2
    · intro id blk hb
      have hi := (hmem id blk hb).1
      have : (ψ id).Sublist (blocks ψ (rows.map (·.1))) := by
        unfold blocks
        exact List.sublist_flatten_of_mem (List.mem_map_of_mem hi)
      exact this.nodup hF0'
    · intro id id' blk blk' hne hb hb' b hm
      exact blocks_apart hF0' (hmem id blk hb).1 (hmem id' blk' hb').1 hne hm
    · intro id blk hb b hm
      refine .inr ?_
      show b ∈ F0
      rw [← hbl]
      exact mem_blocks.2 ⟨id, (hmem id blk hb).1, hm⟩
    · rintro b (hb | hb)
      · exact hO b hb
      · exact hown.lt b hb
    · intro id v hv
      simp only [A] at hv
      split at hv
      · simpa using hv
      · simp at hv
  refine evC_ok hG (fun h => by rw [hfz] at h; simp at h) hm c hL he hc ?_
  intro e s σ φ a w' hk h
  have fin : (match ownT s d0 τ, resDs G s fn.results.toList with
        | some (x', l0), some d => match resT s rt fr d with
          | some (r, l) => bif nodupB (l0 ++ l) then some (x', r) else none
          | none => none
        | _, _ => none) = some r → a.defers = [] ∧ ∃ v, (results fn a.tmps).run P w' = .ok v w' ∧ Returns (fun v w' => ∃ vs F1 Fr, v = oneV vs ∧ Kept w w' (· ∈ F0) ∧ Own w' τ r.1 cs0 F1 ∧ (∀ b ∈ F1, w.heap.size ≤ b ∨ b ∈ F0) ∧
        RParts w' (fun b => O b ∨ b ∈ F0 ∨ b ∈ F1 ∨ b ∈ Fr) rt r.2 fr vs Fr ∧ (F1 ++ Fr).Nodup ∧ ∀ b ∈ Fr, w.heap.size ≤ b ∨ b ∈ F0) (.returned v) w' := by
    intro hk
    split at hk
    · rename_i x' l0 d hx' hd
      split at hk
      · rename_i r' l hr
        simp only [cond_none_some] at hk
        obtain ⟨hnd, hk⟩ := hk
        simp only [Option.some.injEq] at hk
        subst hk
        have hnd := nodupB_ok hnd
        have hr0 : Rep w' (OO (fun b => O b ∨ b ∈ F0) s φ) s.heap σ d0 cs0 := by
          refine hrep w' _ _ _ fun p hp => h.pin p.1 (ν p.1) ?_
          show (if p.1 ∈ rows.map (·.1) then some (ν p.1) else none) = _
          rw [if_pos (List.mem_map_of_mem (f := (·.1)) hp)]
        obtain ⟨ho', hlive0⟩ := ownT_ok h hx' hr0
        obtain ⟨vs, hvs, hru⟩ := resDs_ok hG.toEnvTy h hd
        obtain ⟨hR, hlive⟩ := resT_ok h hr hru
        have hall : ∀ j, j ∈ l0 ++ l → ∃ b, s.heap j = some b := by
          intro j hj
          rcases List.mem_append.1 hj with hj | hj
          · exact hlive0 j hj
          · exact hlive j hj
        have hfr : ∀ b, b ∈ blocks φ (l0 ++ l) → w.heap.size ≤ b ∨ b ∈ F0 := by
          intro b hb
          obtain ⟨j, hj, hm'⟩ := mem_blocks.1 hb
          obtain ⟨blk, hbj⟩ := hall j hj
          exact h.fresh j blk hbj b hm'
        have hinOO : ∀ b, b ∈ blocks φ (l0 ++ l) → OO (fun b => O b ∨ b ∈ F0) s φ b := by
          intro b hb
          obtain ⟨j, hj, hm'⟩ := mem_blocks.1 hb
          obtain ⟨blk, hbj⟩ := hall j hj
          exact .inr ⟨j, blk, hbj, hm'⟩
        rw [blocks_append] at hfr hinOO
        refine ⟨h.df, _, run_results hvs, vs, blocks φ l0, blocks φ l, rfl, ⟨h.fr.size, fun b hb hno => h.fr.block b hb hno, h.fr.os, h.fr.tape, h.fr.output⟩, ho', fun b hb => hfr b (List.mem_append_left _ hb), hR.mono ?_, ?_, fun b hb => hfr b (List.mem_append_right _ hb)⟩
        · rintro b (hb | hb | hb | hb)
          · exact .inl (.inl hb)
          · exact .inl (.inr hb)
          · exact hinOO b (List.mem_append_left _ hb)
          · exact hinOO b (List.mem_append_right _ hb)
        · rw [← blocks_append]
          exact blocks_nodup h hnd hall
      · simp at hk
    · simp at hk
  cases e with
  | normal => exact fin hk
  | ret => exact fin hk
  | exit j => simp at hk
end
end KF

namespace KF
open Go Go.WideShapes

/-- all numbers within their kinds, all lengths within the largest -/
def Rng : (τ : Ty) → T τ → Prop
  | .i k, n => k.has n
  | .b, _ => True
  | .s, x => List.length x ≤ maxN
  | .sl e, xs => List.length xs ≤ maxN ∧ ∀ i (h : i < List.length xs), Rng e (List.get xs ⟨i, h⟩)
  | .u, _ => True
  | .p x y, v => Rng x v.1 ∧ Rng y v.2

/-- slices have elements of at least one cell -/
def Ty.pos : Ty → Bool
  | .sl e => e.pos && Nat.blt 0 e.size
  | .p x y => x.pos && y.pos
  | _ => true

section
variable {H : Type} {enc : TypeId × Value → H} {P : Program} {w : World} {base : Nat} {spare : Nat → Bool} {held : Bool}

theorem tok_cells {τ : Ty} {t : TypeId} (h : tokB P τ t = true) : P.cellsOf t = τ.size := by
  obtain ⟨i, h1, h2, _⟩ := Tok.size h
  simp [Program.cellsOf, h1, h2]

theorem lit_has {k : IntKind} {n : Int} (h : (Lit.int k n).wf = true) : k.has n := by
  simpa [Lit.wf, IntKind.has] using h

theorem add_ne {a : Addr} {n : Nat} (h : n ≠ 0) : a.add n = ⟨a.block, a.off + n, none⟩ := by
  simp [Addr.add, h]

theorem cells_seg {a : Addr} {n : Nat} {cs : List Value} (h : w.cells? base a n = some cs) (hn : 0 < n) :
    ∃ cur et fr, a = ⟨a.block, a.off, none⟩ ∧ w.heap[a.block]? = some (.cells cur et fr) ∧ a.off + n ≤ cur.size ∧ cs = seg cur a.off n := by
  unfold World.cells? at h
  split at h
  · have hlen : cs.length = n := by simpa using mapM_some_length h
    have hget : ∀ i, i < n → w.cell? (a.add i) = cs[i]? := fun i hi => mapM_some_get h i i (by simp [hi])
    have h0 := hget 0 hn
    have ha : a.add 0 = a := by simp [Addr.add]
    rw [ha] at h0
    have hc0 : cs[0]? = some (cs[0]'(by omega)) := List.getElem?_eq_getElem (by omega)
    rw [hc0] at h0
    unfold World.cell? at h0
    split at h0
    · rename_i cur et fr hb
      have hsp : a.spot = none := by
        cases hs : a.spot with
        | none => rfl
        | some x => simp [hs] at h0
      have hcell : ∀ i, i < n → cur[a.off + i]? = cs[i]? := by
        intro i hi
        have := hget i hi
        by_cases hi0 : i = 0
        · subst hi0
          rw [ha] at this
          unfold World.cell? at this
          rw [hb] at this
          simpa [hsp] using this
        · rw [add_ne hi0] at this
          unfold World.cell? at this
          simp only at this
          rw [hb] at this
          simpa using this
      refine ⟨cur, et, fr, by cases a; simp_all, hb, ?_, ?_⟩
      · have h1 := hcell (n - 1) (by omega)
        rw [List.getElem?_eq_getElem (by omega)] at h1
        have := (Array.getElem?_eq_some_iff.1 h1).1
        omega
      · apply List.ext_getElem?
        intro i
        by_cases hi : i < n
        · rw [seg_getElem? _ _ _ _ hi, hcell i hi]
        · rw [List.getElem?_eq_none (by omega), List.getElem?_eq_none]
          simp [seg]; omega
    · simp at h0
  · simp at h

theorem fok_nil {fs : List Field} {o : Nat} (h : fokB P .u fs o = true) : fs = [] := by
  cases fs <;> simp_all [fokB]
theorem fok_cons {x y : Ty} {fs : List Field} {o : Nat} (h : fokB P (.p x y) fs o = true) : ∃ f r, fs = f :: r ∧ f.offset = o ∧ tokB P x f.type = true ∧ fokB P y r (o + x.size) = true := by
  cases fs with
  | nil => simp [fokB] at h
  | cons f r =>
    simp only [fokB, Bool.and_eq_true] at h
    exact ⟨f, r, rfl, Nat.eq_of_beq_eq_true h.1.1.1, h.1.2, h.2⟩
theorem tok_p {x y : Ty} {t : TypeId} (h : tokB P (.p x y) t = true) : ∃ fs, P.underlying t = some (.struct fs) ∧ fokB P (.p x y) fs.toList 0 = true := by
  simp only [tokB, Bool.and_eq_true] at h
  obtain ⟨_, h⟩ := h
  split at h
  · rename_i fs hfs
    refine ⟨fs, hfs, ?_⟩
    split at h
    · rename_i f r hr
      rw [hr]
      simpa [fokB] using h
    · simp at h
  · simp at h
theorem tok_u {t : TypeId} (h : tokB P .u t = true) : ∃ fs, P.underlying t = some (.struct fs) ∧ fs.size = 0 := by
  simp only [tokB, Bool.and_eq_true] at h
  obtain ⟨_, h⟩ := h
  split at h
  · rename_i fs hfs
    exact ⟨fs, hfs, Nat.eq_of_beq_eq_true h⟩
  · simp at h

mutual
theorem trod_view (hO : ∀ b, ¬ (fun _ : Nat => False) b) : ∀ (τ : Ty) (t : TypeId) (n : Nat) (cs : List Value) (x : DataW H × List MemPlace), tokB P τ t = true → τ.pos = true →
    DataW.trod enc P w base spare held n t cs = some x → ∃ y : T τ, View w (fun _ => False) τ y cs ∧ Rng τ y
  | .i k, t, n, cs, x, ht, _, h => by
    obtain ⟨m, h1, _, h2⟩ := DataW.trod_int (Tok.i ht) h
    exact ⟨m, h1, lit_has h2⟩
  | .b, t, n, cs, x, ht, _, h => by
    obtain ⟨m, h1, _⟩ := DataW.trod_bool (Tok.b ht) h
    exact ⟨m, h1, trivial⟩
  | .s, t, n, cs, x, ht, _, h => by
    obtain ⟨m, h1, _, h2⟩ := DataW.trod_string (Tok.s ht) h
    refine ⟨m.data.toList, ?_, ?_⟩
    · show cs = [.string ⟨List.toArray m.data.toList⟩]
      rw [h1]
    · show m.data.toList.length ≤ maxN
      have : m.size = m.data.toList.length := Array.length_toList.symm
      unfold maxLen at h2
      unfold maxN
      omega
  | .sl e, t, n, cs, x, ht, hp, h => by
    obtain ⟨et, hu, he⟩ := Tok.sl ht
    simp only [Ty.pos, Bool.and_eq_true] at hp
    have hpos : 0 < e.size := by simpa using hp.2
    rcases DataW.trod_slice hu h with ⟨h1, _⟩ | ⟨a, len, cap, elems, rest, m, _, h1, _, _, h2, h3, h4, h5, _, _⟩
    · exact ⟨([] : List (T e)), ⟨none, 0, h1, Nat.le_refl _, Nat.zero_le _, .inl rfl⟩, ⟨Nat.zero_le _, fun i hi => absurd hi (Nat.not_lt_zero i)⟩⟩
    · rw [tok_cells he] at h5
      have hone : ∀ i, i < len → ∃ y : T e, ∃ cs', w.cells? base (a.add (i * e.size)) e.size = some cs' ∧ View w (fun _ => False) e y cs' ∧ Rng e y := by
        intro i hi
        have := h5 i hi
        rw [List.getElem?_eq_getElem (by omega), Option.bind_eq_some_iff] at this
        obtain ⟨cs', hc, hy⟩ := this
        obtain ⟨y, hv, hr⟩ := trod_view hO e et m cs' _ he hp.1 hy
        exact ⟨y, cs', hc, hv, hr⟩
      let ys : List (T e) := List.ofFn fun i : Fin len => Classical.choose (hone i.1 i.2)
      have hlen : ys.length = len := by simp [ys]
      have hy : ∀ i (h : i < ys.length), ∃ cs', w.cells? base (a.add (i * e.size)) e.size = some cs' ∧ View w (fun _ => False) e (ys.get ⟨i, h⟩) cs' ∧ Rng e (ys.get ⟨i, h⟩) := by
        intro i hi
        have := Classical.choose_spec (hone i (by omega))
        simpa [ys] using this
      have hmax : len ≤ maxN := by unfold maxLen at h3; unfold maxN; omega
      refine ⟨ys, ⟨some a, cap, by rw [h1, hlen], by rw [hlen]; exact h2, by rw [hlen]; exact hmax, ?_⟩, by rw [hlen]; exact hmax, fun i hi => (hy i hi).choose_spec.2.2⟩
      by_cases hl0 : len = 0
      · left
        exact List.eq_nil_of_length_eq_zero (by omega)
      · right
        obtain ⟨cs0, hc0, _⟩ := hy 0 (by omega)
        have ha0 : a.add (0 * e.size) = a := by simp [Addr.add]
        rw [ha0] at hc0
        obtain ⟨cur, et', fr, ha, hb, _, _⟩ := cells_seg hc0 hpos
        have hadd : ∀ i, (a.add (i * e.size)).block = a.block ∧ (a.add (i * e.size)).off = a.off + i * e.size := by
          intro i
          unfold Addr.add
          split
          · rename_i hz; simp [hz]
          · exact ⟨rfl, rfl⟩
        refine ⟨a.block, a.off, cur, et', fr, by rw [← ha], fun h => h, hb, ?_, ?_⟩
        · obtain ⟨cs1, hc1, _⟩ := hy (len - 1) (by omega)
          obtain ⟨cur1, et1, fr1, _, hb1, hs1, _⟩ := cells_seg hc1 hpos
          rw [(hadd _).1, hb] at hb1
          simp only [Option.some.injEq, Obj.cells.injEq] at hb1
          rw [(hadd _).2, ← hb1.1] at hs1
          have : len * e.size = (len - 1) * e.size + e.size := by
            rw [← Nat.succ_mul]; congr 1; omega
          show a.off + ys.length * e.size ≤ cur.size
          rw [hlen]
          omega
        · intro i hi
          obtain ⟨cs1, hc1, hv, _⟩ := hy i hi
          obtain ⟨cur1, et1, fr1, _, hb1, _, hs1⟩ := cells_seg hc1 hpos
          rw [(hadd _).1, hb] at hb1
          simp only [Option.some.injEq, Obj.cells.injEq] at hb1
          rw [(hadd _).2, ← hb1.1] at hs1
          rw [← hs1]
          exact hv
  | .u, t, n, cs, x, ht, _, h => by
    obtain ⟨fs, hu, hz⟩ := tok_u ht
    obtain ⟨xs, m, _, _, hl, _⟩ := DataW.trod_struct hu h
    rw [tok_cells ht] at hl
    exact ⟨(), List.eq_nil_of_length_eq_zero hl, trivial⟩
  | .p a c2, t, n, cs, x, ht, hp, h => by
    obtain ⟨fs, hu, hf⟩ := tok_p ht
    obtain ⟨xs, m, _, _, hl, _, hget⟩ := DataW.trod_struct hu h
    rw [tok_cells ht] at hl
    have := fields_view hO (.p a c2) fs.toList 0 m cs hf hp (by simpa using hl) (by
      intro i f hi
      have := hget i f (by simpa using hi)
      have hlt : i < xs.length := by
        have : i < fs.toList.length := (List.getElem?_eq_some_iff.1 hi).1
        simp at this; omega
      exact ⟨_, this.trans (List.getElem?_eq_getElem hlt)⟩)
    simpa using this
termination_by τ => (sizeOf τ, 1)
theorem fields_view (hO : ∀ b, ¬ (fun _ : Nat => False) b) : ∀ (τ : Ty) (fs : List Field) (o m : Nat) (cs : List Value), fokB P τ fs o = true → τ.pos = true → cs.length = o + τ.size →
    (∀ (i : Nat) (f : Field), fs[i]? = some f → ∃ x, DataW.trod enc P w base spare held m f.type ((cs.drop f.offset).take (P.cellsOf f.type)) = some x) →
    ∃ y : T τ, View w (fun _ => False) τ y (cs.drop o) ∧ Rng τ y
  | .p a c2, fs, o, m, cs, hf, hp, hl, hx => by
    obtain ⟨f, r, rfl, ho, ht, hr⟩ := fok_cons hf
    simp only [Ty.pos, Bool.and_eq_true] at hp
    simp only [Ty.size] at hl
    obtain ⟨z, hz⟩ := hx 0 f rfl
    rw [tok_cells ht, ho] at hz
    obtain ⟨y1, hv1, hr1⟩ := trod_view hO a f.type m _ z ht hp.1 hz
    obtain ⟨y2, hv2, hr2⟩ := fields_view hO c2 r (o + a.size) m cs hr hp.2 (by omega) (fun i f' hi => hx (i + 1) f' (by simpa using hi))
    refine ⟨(y1, y2), ⟨(cs.drop o).take a.size, cs.drop (o + a.size), ?_, hv1, hv2⟩, hr1, hr2⟩
    rw [← List.drop_drop, List.take_append_drop]
  | .u, fs, o, m, cs, _, _, hl, _ => ⟨(), by simp only [View, Ty.size] at hl ⊢; exact List.drop_of_length_le (by omega), trivial⟩
  | .i _, fs, o, m, cs, hf, _, _, _ => by simp [fokB] at hf
  | .b, fs, o, m, cs, hf, _, _, _ => by simp [fokB] at hf
  | .s, fs, o, m, cs, hf, _, _, _ => by simp [fokB] at hf
  | .sl _, fs, o, m, cs, hf, _, _, _ => by simp [fokB] at hf
termination_by τ => (sizeOf τ, 0)
end
end
end KF

namespace KF
open Go Go.WideShapes Go.ChangeShapes

def parsB (P : Program) : Ty → List TypeId → Bool
  | .p x y, t :: ts => tokB P x t && x.pos && parsB P y ts
  | .u, [] => true
  | _, _ => false

section
variable {H : Type} {enc : TypeId × Value → H} {P : Program} {w : World} {base : Nat} {spare : Nat → Bool} {held : Bool}

theorem cells_vof {τ : Ty} {t : TypeId} {v : Value} {r : Reach} {b0 : Nat} (ht : tokB P τ t = true) (h : Value.okWide P w r b0 t v) : v = vof τ v.cells.toList := by
  have key : ∀ {τ : Ty}, τ.isAgg = false → v.cells = #[v] → v = vof τ v.cells.toList := by
    intro τ h1 h2
    rw [h2]; simp [vof, h1]
  cases τ with
  | i k =>
    obtain ⟨n, rfl⟩ := okWide_int (Tok.i ht) h
    exact key rfl rfl
  | b =>
    obtain ⟨n, rfl⟩ := okWide_bool (Tok.b ht) h
    exact key rfl rfl
  | s =>
    refine key rfl ?_
    have hu := Tok.s ht
    unfold Value.okWide at h
    rw [hu] at h
    cases v with
    | agg cs => simp [Cell.okWide, Cell.ok, hu] at h
    | _ => rfl
  | sl e =>
    refine key rfl ?_
    obtain ⟨et, hu, _⟩ := Tok.sl ht
    unfold Value.okWide at h
    rw [hu] at h
    cases v with
    | agg cs => simp [Cell.okWide, Cell.ok, hu] at h
    | _ => rfl
  | u =>
    obtain ⟨fs, hu, _⟩ := tok_u ht
    obtain ⟨cs, rfl, _⟩ := okWide_struct hu h
    simp [vof, Ty.isAgg, Value.cells]
  | p x y =>
    obtain ⟨fs, hu, _⟩ := tok_p ht
    obtain ⟨cs, rfl, _⟩ := okWide_struct hu h
    simp [vof, Ty.isAgg, Value.cells]

theorem trodAll_args : ∀ {pt : Ty} {ts : List TypeId} {vs : List Value} {ds : List (DataW H)} {ps : List MemPlace}, parsB P pt ts = true → DataW.TrodAll enc P w 0 spare held ts vs ds ps →
    (∀ (j : Nat) t v, ts[j]? = some t → vs[j]? = some v → Value.okWide P w .any base t v) → ∃ x : T pt, VArgs w (fun _ => False) pt x vs ∧ Rng pt x
  | .p x y, t :: ts, v :: vs, d :: ds, ps, hp, h, hv => by
    simp only [parsB, Bool.and_eq_true] at hp
    obtain ⟨p, q, ⟨n, h1⟩, h2, _⟩ := h
    obtain ⟨a, ha, hra⟩ := trod_view (fun _ h => h) x t n _ _ hp.1.1 hp.1.2 h1
    obtain ⟨b, hb, hrb⟩ := trodAll_args hp.2 h2 fun j t' v' h1 h2 => hv (j + 1) t' v' (by simpa using h1) (by simpa using h2)
    exact ⟨(a, b), ⟨⟨_, cells_vof hp.1.1 (hv 0 t v rfl rfl), ha⟩, hb⟩, hra, hrb⟩
  | .u, [], [], [], _, _, _, _ => ⟨(), trivial, trivial⟩
  | .p _ _, [], _, _, _, hp, _, _ => by simp [parsB] at hp
  | .u, _ :: _, _, _, _, hp, _, _ => by simp [parsB] at hp
  | .i _, _, _, _, _, hp, _, _ => by simp [parsB] at hp
  | .b, _, _, _, _, hp, _, _ => by simp [parsB] at hp
  | .s, _, _, _, _, hp, _, _ => by simp [parsB] at hp
  | .sl _, _, _, _, _, hp, _, _ => by simp [parsB] at hp
  | .p _ _, _ :: _, [], _, _, _, h, _ => by simp [DataW.TrodAll] at h
  | .p _ _, _ :: _, _ :: _, [], _, _, h, _ => by simp [DataW.TrodAll] at h
  | .u, [], _ :: _, _, _, _, h, _ => by simp [DataW.TrodAll] at h
  | .u, [], [], _ :: _, _, _, h, _ => by simp [DataW.TrodAll] at h

/-- types of data alone -/
def Plain (P : Program) (t : TypeId) : Prop := ∃ τ : Ty, tokB P τ t = true ∧ τ.pos = true

theorem fok_rows : ∀ {τ : Ty} {fs : List Field} {o : Nat}, fokB P τ fs o = true → τ.pos = true →
    (∀ f ∈ fs, Plain P f.type) ∧ τ.size = (fs.map fun f => P.cellsOf f.type).sum ∧ ∀ (j : Nat) f, fs[j]? = some f → f.offset = o + ((fs.take j).map fun f => P.cellsOf f.type).sum
  | .u, fs, o, h, _ => by
    rw [fok_nil h]
    simp [Ty.size]
  | .p x y, fs, o, h, hp => by
    obtain ⟨f, r, rfl, ho, ht, hr⟩ := fok_cons h
    simp only [Ty.pos, Bool.and_eq_true] at hp
    obtain ⟨h1, h2, h3⟩ := fok_rows hr hp.2
    refine ⟨?_, ?_, ?_⟩
    · intro g hg
      rcases List.mem_cons.1 hg with rfl | hg
      · exact ⟨x, ht, hp.1⟩
      · exact h1 g hg
    · simp [Ty.size, tok_cells ht, h2]
    · intro j g hj
      cases j with
      | zero => simp at hj; subst hj; simp [ho]
      | succ j =>
        have := h3 j g (by simpa using hj)
        simp [this, tok_cells ht, Nat.add_assoc]
  | .i _, fs, o, h, _ => by simp [fokB] at h
  | .b, fs, o, h, _ => by simp [fokB] at h
  | .s, fs, o, h, _ => by simp [fokB] at h
  | .sl _, fs, o, h, _ => by simp [fokB] at h

theorem plain_und {t : TypeId} {u : TypeDesc} (h : Plain P t) (hu : P.underlying t = some u) : (∃ k, u = .int k) ∨ u = .bool ∨ u = .string ∨ (∃ e, u = .slice e ∧ Plain P e ∧ 0 < P.cellsOf e) ∨ ∃ fs, u = .struct fs := by
  obtain ⟨τ, ht, hp⟩ := h
  cases τ with
  | i k => rw [Tok.i ht] at hu; exact .inl ⟨k, (Option.some.inj hu).symm⟩
  | b => rw [Tok.b ht] at hu; exact .inr (.inl (Option.some.inj hu).symm)
  | s => rw [Tok.s ht] at hu; exact .inr (.inr (.inl (Option.some.inj hu).symm))
  | sl e =>
    obtain ⟨et, h1, h2⟩ := Tok.sl ht
    rw [h1] at hu
    simp only [Ty.pos, Bool.and_eq_true] at hp
    exact .inr (.inr (.inr (.inl ⟨et, (Option.some.inj hu).symm, ⟨e, h2, hp.1⟩, by rw [tok_cells h2]; simpa using hp.2⟩)))
  | u => obtain ⟨fs, h1, _⟩ := tok_u ht; rw [h1] at hu; exact .inr (.inr (.inr (.inr ⟨fs, (Option.some.inj hu).symm⟩)))
  | p x y => obtain ⟨fs, h1, _⟩ := tok_p ht; rw [h1] at hu; exact .inr (.inr (.inr (.inr ⟨fs, (Option.some.inj hu).symm⟩)))

theorem kids_plain : Kids P (Plain P) := by
  refine ⟨?_, ?_, ?_, ?_, ?_⟩
  · intro t e ht hu
    rcases plain_und ht hu with ⟨k, h⟩ | h | h | ⟨e', h, _⟩ | ⟨fs, h⟩ <;> simp at h
  · intro t e ht hu
    rcases plain_und ht hu with ⟨k, h⟩ | h | h | ⟨e', h, h2, _⟩ | ⟨fs, h⟩ <;> simp at h
    rw [h]; exact h2
  · intro t e n ht hu
    rcases plain_und ht hu with ⟨k, h⟩ | h | h | ⟨e', h, _⟩ | ⟨fs, h⟩ <;> simp at h
  · intro t fs ht hu
    obtain ⟨τ, ht, hp⟩ := ht
    cases τ with
    | i k => rw [Tok.i ht] at hu; simp at hu
    | b => rw [Tok.b ht] at hu; simp at hu
    | s => rw [Tok.s ht] at hu; simp at hu
    | sl e => obtain ⟨et, h1, _⟩ := Tok.sl ht; rw [h1] at hu; simp at hu
    | u =>
      obtain ⟨fs', h1, h2⟩ := tok_u ht
      rw [h1] at hu
      simp only [Option.some.injEq, TypeDesc.struct.injEq] at hu
      subst hu
      have : fs'.toList = [] := by simpa using h2
      rw [tok_cells ht, this]
      simp [Ty.size]
    | p x y =>
      obtain ⟨fs', h1, h2⟩ := tok_p ht
      rw [h1] at hu
      simp only [Option.some.injEq, TypeDesc.struct.injEq] at hu
      subst hu
      obtain ⟨a, b, c⟩ := fok_rows h2 hp
      exact ⟨a, by rw [tok_cells ht, b], fun j f hj => by simpa using c j f hj⟩
  · intro t k e ht hu
    rcases plain_und ht hu with ⟨k, h⟩ | h | h | ⟨e', h, _⟩ | ⟨fs, h⟩ <;> simp at h

theorem parsB_plain : ∀ {pt : Ty} {ts : List TypeId}, parsB P pt ts = true → ∀ t ∈ ts, Plain P t
  | .p x y, t :: ts, h, t', ht => by
    simp only [parsB, Bool.and_eq_true] at h
    rcases List.mem_cons.1 ht with rfl | ht
    · exact ⟨x, h.1.1, h.1.2⟩
    · exact parsB_plain h.2 t' ht
  | .u, [], _, _, ht => by simp at ht
  | .p _ _, [], _, _, ht => by simp at ht
  | .u, _ :: _, h, _, _ => by simp [parsB] at h
  | .i _, _, h, _, _ => by simp [parsB] at h
  | .b, _, h, _, _ => by simp [parsB] at h
  | .s, _, h, _, _ => by simp [parsB] at h
  | .sl _, _, h, _, _ => by simp [parsB] at h

theorem trodAll_stays {w' : World} {sp' : Nat → Bool} : ∀ {ts : List TypeId} {vs : List Value} {ds : List (DataW H)} {ps : List MemPlace}, (∀ t ∈ ts, Plain P t) →
    DataW.TrodAll enc P w 0 (fun _ => true) true ts vs ds ps → (∀ p ∈ ps, w.sameAt w' p) → (∀ p ∈ ps, sp' p.block = true) → DataW.TrodAll enc P w' 0 sp' true ts vs ds ps
  | [], [], [], _, _, h, _, _ => h
  | t :: ts, v :: vs, d :: ds, ps, hp, h, h1, h2 => by
    obtain ⟨p, q, ⟨n, ha⟩, hb, rfl⟩ := h
    refine ⟨p, q, ⟨n, DataW.trod_stays kids_plain ?_ (fun h => by simp at h) (hp t (by simp)) ha (fun z hz => h1 z (List.mem_append_left _ hz)) (fun z hz => h2 z (List.mem_append_left _ hz))⟩,
      trodAll_stays (fun t ht => hp t (by simp [ht])) hb (fun z hz => h1 z (List.mem_append_right _ hz)) (fun z hz => h2 z (List.mem_append_right _ hz)), rfl⟩
    intro t e ht hu
    rcases plain_und ht hu with ⟨k, h⟩ | h | h | ⟨e', h, _, h2⟩ | ⟨fs, h⟩ <;> simp at h
    rw [h]; exact h2
  | [], _ :: _, _, _, _, h, _, _ => by simp [DataW.TrodAll] at h
  | [], [], _ :: _, _, _, h, _, _ => by simp [DataW.TrodAll] at h
  | _ :: _, [], _, _, _, h, _, _ => by simp [DataW.TrodAll] at h
  | _ :: _, _ :: _, [], _, _, h, _, _ => by simp [DataW.TrodAll] at h

theorem trodAll_len : ∀ {ts : List TypeId} {vs : List Value} {ds : List (DataW H)} {ps : List MemPlace}, DataW.TrodAll enc P w base spare held ts vs ds ps → ds.length = ts.length
  | [], [], [], _, _ => rfl
  | _ :: _, _ :: _, _ :: _, _, h => by
    obtain ⟨_, _, _, h, _⟩ := h
    simp [trodAll_len h]
  | [], _ :: _, _, _, h => by simp [DataW.TrodAll] at h
  | [], [], _ :: _, _, h => by simp [DataW.TrodAll] at h
  | _ :: _, [], _, _, h => by simp [DataW.TrodAll] at h
  | _ :: _, _ :: _, [], _, h => by simp [DataW.TrodAll] at h

theorem Kept.but {w w' : World} (h : Kept w w' fun _ => False) (may : MemPlace → Prop) : w.keptBut w' may := by
  refine ⟨h.os, h.output, fun i hi => ?_⟩
  rw [h.block i hi (fun h => h)]
  cases w.heap[i]? with
  | none => rfl
  | some o =>
    cases o with
    | cells c t fr => exact ⟨rfl, rfl, rfl, fun _ _ => rfl⟩
    | map es clock => exact .inr ⟨rfl, rfl⟩
    | _ => rfl

/-- a law: whatever the input, it answers true, and the input reads as it did -/
theorem law_lifted {C : Checked} {os : Os} {f : FuncId} {fn : Func} {s : ChangeSpec} {apart fresh handsOn again : Bool} {pt : Ty} {fl : Bool} {F : T pt → Option (Bool × Unit)} {tb : TypeId}
    (own : ownKnob C.prog.godebug = none) (started : os.Started) (noInit : C.prog.inits.idxOf? f = none) (hfn : C.prog.funcs[f]? = some fn)
    (witness : ∃ (w : World) (tape : Tape) (i : Input), w.os = os ∧ (w.forCall tape i).Shaped C.prog ∧ i.vars = [] ∧ Input.okWide C.prog (w.forCall tape i) .any w.heap.size f i ∧
      s.pre6 enc C.prog fn [] apart (w.forCall tape i).memory i.args ∧ ({} : Assume).holds C.prog (lone (Frame.enter C.prog f i.args .normal) [] (w.forCall tape i)))
    (hvars : s.vars = []) (hs : ∀ ds : List (DataW H), ds.length = fn.params.toList.length → s.fn H ds = { results := [.lit (.bool true)], args := ds })
    (hp : parsB C.prog pt fn.params.toList = true) (hr : fn.resultTypes = #[tb]) (htb : C.prog.underlying tb = some .bool)
    (hsound : Sound C.prog f (.pu pt (.p .b .u) [fl] F)) (hF : ∀ x, Rng pt x → F x = some (true, ())) :
    ReturnsInHanded {} C os f .any (s.pre6 enc C.prog fn [] apart) (s.post enc C.prog fn apart fresh handsOn again) := by
  refine returnsInHanded_of_change own started noInit hfn witness ?_
  intro W b0 args ds gs before hval hW _ _
  have hW0 := hW
  obtain ⟨p, q, hA, hV, hps, hfz, hnd⟩ := hW
  rw [hvars] at hV
  have hgs : gs = [] ∧ q = [] := by
    cases gs with
    | nil => exact ⟨rfl, hV⟩
    | cons _ _ => exact hV.elim
  obtain ⟨rfl, rfl⟩ := hgs
  simp only [List.append_nil] at hps
  subst hps
  obtain ⟨x, hx, hrx⟩ := trodAll_args (base := b0) hp hA fun j t v h1 h2 => hval j t v (by simpa using h1) (by simpa using h2)
  have hcall := hsound.2 (fun _ => False) W x (true, ()) args.toList (hF x hrx) hx (fun _ h => h.elim)
  refine hcall.mono fun e W' hret => ?_
  cases e with
  | returned v =>
    obtain ⟨vs, Fr, hv, hk, hR, _, _⟩ := hret
    have hvt : v = .bool true := by
      cases vs with
      | nil => simp [RParts] at hR
      | cons a r =>
        obtain ⟨cs, F1, F2, ha, _, hown, hrest⟩ := hR
        cases r with
        | cons _ _ => simp [RParts] at hrest
        | nil =>
          have hcs : cs = [.bool true] := by
            cases fl with
            | true => exact hown.1
            | false => exact hown.1
          rw [hv, oneV, ha, hcs]
          rfl
    subst hvt
    refine ⟨_, rfl, ?_⟩
    have hsp := hs ds (trodAll_len hA)
    have hlt : ∀ z ∈ before, z.block < W.heap.size := hW0.lt
    have hsame : ∀ z ∈ before, W.sameAt W' z := by
      intro z hz
      have hb := hk.block z.block (hlt z hz) (fun h => h)
      cases z with
      | cell b off =>
        show W'.cell? _ = W.cell? _
        simp only [World.cell?]
        rw [show W'.heap[b]? = W.heap[b]? from hb]
      | map b => exact hb
    have hargs : ∀ sp : Nat → Bool, (∀ z ∈ before, sp z.block = true) → DataW.TrodAll enc C.prog W' 0 sp true fn.params.toList args.toList ds before :=
      fun sp h => trodAll_stays (parsB_plain hp) hA hsame h
    have hres : ∀ (b : Nat) (sp : Nat → Bool) (hd : Bool), DataW.TrodAll enc C.prog W' b sp hd fn.resultTypes.toList ((Value.bool true).resultList fn.resultTypes.size) [.lit (.bool true)] [] := by
      intro b sp hd
      rw [hr]
      exact trodAll_mk1 (Go.RowKit.shut_bool htb true)
    have hold : ∀ z ∈ before, (fun b => decide (b < W.heap.size)) z.block = true := fun z hz => by simpa using hlt z hz
    refine ⟨ds, [], before, [], before, [], hW0, ?_, ?_, ?_, hk.but _, fun _ => ⟨?_, ds.cons (.lit (.bool true)), [], before, ⟨before, [], ?_, ?_, by simp, ?_, ?_⟩, fun z hz _ => hz⟩⟩
    · rw [List.append_nil, hsp]; exact hres _ _ _
    · rw [List.append_nil, hsp]; exact hargs _ hold
    · rw [List.append_nil, hsp, hvars]; rfl
    · intro j t r hj hv
      rw [hr] at hj hv
      match j, hj, hv with
      | 0, hj, hv =>
        simp only [List.getElem?_toArray, List.getElem?_cons_zero, Option.some.injEq] at hj
        simp [Value.resultList] at hv
        subst hj; subst hv
        exact Go.RowKit.okWide_bool_mk htb true
    · exact trodAll_append (hargs _ (fun _ _ => rfl)) (hres _ _ _)
    · rw [hvars]; rfl
    · intro b off hz
      have := hfz b off hz
      unfold World.frozen? at this ⊢
      rw [show W'.heap[b]? = W.heap[b]? from hk.block b (hlt _ hz) (fun h => h)]
      exact this
    · exact hnd
  | _ => exact hret.elim
end
end KF

namespace KF
open Go

/-- what a loop computes from its rounds -/
noncomputable def loopF {X R : Type} (step : X → Option (X ⊕ R)) (x : X) : Option R :=
  open Classical in if h : ∃ m y, Iter step m x y then some h.choose_spec.choose else none

theorem Iter.det {X R : Type} {step : X → Option (X ⊕ R)} : ∀ {m n : Nat} {x : X} {y z : R}, Iter step m x y → Iter step n x z → y = z
  | 0, _, _, _, _, h, _ => h.elim
  | _ + 1, 0, _, _, _, _, h => h.elim
  | m + 1, n + 1, x, y, z, h, h' => by
    rcases h with h | ⟨x1, h, h1⟩ <;> rcases h' with h' | ⟨x2, h', h2⟩
    · rw [h] at h'; simpa using h'
    · rw [h] at h'; simp at h'
    · rw [h] at h'; simp at h'
    · rw [h] at h'
      simp only [Option.some.injEq, Sum.inl.injEq] at h'
      subst h'
      exact Iter.det h1 h2

theorem loopF_iff {X R : Type} {step : X → Option (X ⊕ R)} {x : X} {y : R} : loopF step x = some y ↔ ∃ m, Iter step m x y := by
  unfold loopF
  constructor
  · intro h
    split at h
    · rename_i hh
      simp only [Option.some.injEq] at h
      exact ⟨_, h ▸ hh.choose_spec.choose_spec⟩
    · simp at h
  · rintro ⟨m, h⟩
    have hh : ∃ m y, Iter step m x y := ⟨m, y, h⟩
    rw [dif_pos hh]
    exact congrArg some (Iter.det hh.choose_spec.choose_spec h)

/-- one round of a loop -/
theorem loopF_step {X R : Type} {step : X → Option (X ⊕ R)} (x : X) : loopF step x = (step x).bind (Sum.elim (loopF step) some) := by
  apply Option.ext
  intro y
  rw [loopF_iff]
  constructor
  · rintro ⟨m, h⟩
    cases m with
    | zero => exact h.elim
    | succ m =>
      rcases h with h | ⟨x', h, h'⟩
      · simp [h]
      · simp [h, loopF_iff.2 ⟨m, h'⟩]
  · intro h
    rw [Option.bind_eq_some_iff] at h
    obtain ⟨z, hz, h⟩ := h
    cases z with
    | inl x' =>
      obtain ⟨m, hm⟩ := loopF_iff.1 h
      exact ⟨m + 1, .inr ⟨x', hz, hm⟩⟩
    | inr z =>
      simp only [Sum.elim_inr, Option.some.injEq] at h
      subst h
      exact ⟨1, .inl hz⟩

/-- the i-th loop of a function -/
def lp (fn : Func) (i : Nat) : Code := (loopsOf (fn.body.getD .skip)).getD i .skip

theorem loopOk_of {G : Env} {L : List (Nat × LoopSem)} {fn : Func} {i r : Nat} {ls : LoopSem} {R : ls.inT.X → Option (ls.inT.X ⊕ (ls.outT.X ⊕ ls.retT.X))}
    (h1 : firstRegion (lp fn i) = some r) (h2 : (aget L r) = some ls) (h3 : ls.F = loopF R) (h4 : ∀ x, round G L ls (lp fn i) x = R x) : LoopOk G L (lp fn i) := by
  intro r' ls' hr hl x y hy
  rw [h1] at hr
  simp only [Option.some.injEq] at hr
  subst hr
  rw [h2] at hl
  simp only [Option.some.injEq] at hl
  subst hl
  rw [h3] at hy
  obtain ⟨m, hm⟩ := loopF_iff.1 hy
  have : round G L ls (lp fn i) = R := funext h4
  rw [this]
  exact ⟨m, hm⟩

theorem loops_all {G : Env} {L : List (Nat × LoopSem)} {fn : Func} {k : Nat} (hk : Nat.beq (loopsOf (fn.body.getD .skip)).length k = true) (h : ∀ i, i < k → LoopOk G L (lp fn i)) :
    ∀ b, b ∈ loopsOf (fn.body.getD .skip) → LoopOk G L b := by
  intro b hb
  obtain ⟨i, hi, rfl⟩ := List.mem_iff_getElem.1 hb
  have := h i (by rw [← Nat.eq_of_beq_eq_true hk]; exact hi)
  unfold lp at this
  rwa [List.getD_eq_getElem?_getD, List.getElem?_eq_getElem hi] at this

theorem below_zero {p : Nat → Prop} : ∀ i, i < 0 → p i := fun i h => absurd h (Nat.not_lt_zero i)
theorem below_succ {p : Nat → Prop} {k : Nat} (h : p k) (hr : ∀ i, i < k → p i) : ∀ i, i < k + 1 → p i := by
  intro i hi
  rcases Nat.lt_or_eq_of_le (Nat.lt_succ_iff.1 hi) with hi | rfl
  · exact hr i hi
  · exact h

section
variable {P : Program}

theorem envTy_of {l : List (Nat × Ty)} {fs : List (Nat × FnSem)} {m : List (Nat × Nat)} {z : Bool} (h : (l.all fun x => tokB P x.2 x.1) = true) : EnvTy P ⟨l, fs, m, z⟩ := by
  refine ⟨fun t τ ht => ?_⟩
  have : ∀ {l : List (Nat × Ty)}, aget l t = some τ → (t, τ) ∈ l := by
    intro l
    induction l with
    | nil => simp [aget]
    | cons x r ih =>
      obtain ⟨j, a⟩ := x
      intro h
      rw [aget_cons] at h
      split at h
      · rename_i e
        simp only [Option.some.injEq] at h
        subst e; subst h
        simp
      · exact List.mem_cons_of_mem _ (ih h)
  exact List.all_eq_true.1 h (t, τ) (this ht)

theorem envOk_nil {l : List (Nat × Ty)} {m : List (Nat × Nat)} {z : Bool} (h : (l.all fun x => tokB P x.2 x.1) = true) : EnvOk P ⟨l, [], m, z⟩ :=
  { toEnvTy := envTy_of h, fn := fun f sem h => by simp [aget] at h }
theorem EnvOk.cons {l : List (Nat × Ty)} {fs : List (Nat × FnSem)} {m : List (Nat × Nat)} {z : Bool} {f : Nat} {sem : FnSem} (hs : Sound P f sem) (h : EnvOk P ⟨l, fs, m, z⟩) : EnvOk P ⟨l, (f, sem) :: fs, m, z⟩ :=
  { toEnvTy := ⟨h.ty⟩, fn := fun g s hg => by
      simp only [aget_cons] at hg
      split at hg
      · rename_i e
        simp only [Option.some.injEq] at hg
        subst e; subst hg
        exact hs
      · exact h.fn g s hg }

theorem body_some {fn : Func} (h : fn.body.isSome = true) : fn.body = some (fn.body.getD .skip) := by
  cases hb : fn.body with
  | none => rw [hb] at h; simp at h
  | some c => rfl

theorem sound_pu' {G : Env} {L : List (Nat × LoopSem)} (hG : EnvOk P G) (hm : P.follows .mixedOrders = true) {f : FuncId} {fn : Func} {k : Nat} {pt rt : Ty} {fr : List Bool} {F : T pt → Option (T rt)} (hf : P.funcs[f]? = some fn)
    (hb : (fn.body.isSome && !(fn.name == "runtime.NumGoroutine") && Nat.ble pt.npar fn.ntmps && Nat.beq (loopsOf (fn.body.getD .skip)).length k) = true)
    (hL : ∀ i, i < k → LoopOk G L (lp fn i)) (hF : ∀ x, evF G L fn pt rt fr x = F x) : Sound P f (.pu pt rt fr F) := by
  simp only [Bool.and_eq_true, Bool.not_eq_true'] at hb
  exact sound_pu hG hm hf (body_some hb.1.1.1) hb.1.1.2 (loops_all hb.2 hL) (Nat.le_of_ble_eq_true hb.1.2) fun x r h => (hF x).trans h

theorem sound_io' {G : Env} {L : List (Nat × LoopSem)} (hG : EnvOk P G) (hfz : G.fz = false) (hm : P.follows .mixedOrders = true) {f : FuncId} {fn : Func} {k : Nat} {τ pt rt : Ty} {fr : List Bool} {F : T τ → T pt → Option (T τ × T rt)} (hf : P.funcs[f]? = some fn)
    (hb : (fn.body.isSome && !(fn.name == "runtime.NumGoroutine") && Nat.ble (pt.npar + 1) fn.ntmps && Nat.beq (loopsOf (fn.body.getD .skip)).length k) = true)
    (hL : ∀ i, i < k → LoopOk G L (lp fn i)) (hF : ∀ x0 x, evFio G L fn τ pt rt fr x0 x = F x0 x) : Sound P f (.io τ pt rt fr F) := by
  simp only [Bool.and_eq_true, Bool.not_eq_true'] at hb
  exact sound_io hG hfz hm hf (body_some hb.1.1.1) hb.1.1.2 (loops_all hb.2 hL) (Nat.le_of_ble_eq_true hb.1.2) fun x0 x r h => (hF x0 x).trans h
end
end KF
