/- An evaluator of Go functions on plain data, and its soundness: second part (no condition). -/
import Derived.Test.YtoncbegnhhcgmaaGreatCa
import Derived.Deep.AppendSrc
import Derived.Deep.Upon
import Derived.Laws.CopyRow
set_option linter.unusedSimpArgs false
set_option linter.unusedVariables false
namespace KF
open Go

theorem View.one {w : World} {O : Nat → Prop} : ∀ {τ : Ty} {x : T τ} {cs : List Value}, View w O τ x cs → ∀ v ∈ cs, v.oneCell' = true
  | .i _, _, _, h, v, hv => by simp only [View] at h; subst h; simp at hv; subst hv; rfl
  | .b, _, _, h, v, hv => by simp only [View] at h; subst h; simp at hv; subst hv; rfl
  | .o, _, _, h, v, hv => by simp only [View] at h; subst h; simp at hv; subst hv; rfl
  | .s, _, _, h, v, hv => by simp only [View] at h; subst h; simp at hv; subst hv; rfl
  | .sl _, _, _, h, v, hv => by obtain ⟨a, cap, h, _⟩ := h; subst h; simp at hv; subst hv; rfl
  | .u, _, _, h, v, hv => by simp only [View] at h; subst h; simp at hv
  | .p x y, _, _, h, v, hv => by
    obtain ⟨c1, c2, h, h1, h2⟩ := h
    subst h
    rcases List.mem_append.1 hv with hv | hv
    · exact View.one h1 v hv
    · exact View.one h2 v hv

theorem Own.one {w : World} : ∀ {τ : Ty} {x : T τ} {cs : List Value} {F : List Nat}, Own w τ x cs F → ∀ v ∈ cs, v.oneCell' = true
  | .i _, _, _, _, h, v, hv => by simp only [Own] at h; rw [h.1] at hv; simp at hv; subst hv; rfl
  | .b, _, _, _, h, v, hv => by simp only [Own] at h; rw [h.1] at hv; simp at hv; subst hv; rfl
  | .o, _, _, _, h, v, hv => by simp only [Own] at h; rw [h.1] at hv; simp at hv; subst hv; rfl
  | .s, _, _, _, h, v, hv => by simp only [Own] at h; rw [h.1] at hv; simp at hv; subst hv; rfl
  | .sl _, _, _, _, h, v, hv => by
    obtain ⟨_, ⟨h, _⟩ | ⟨_, _, _, _, _, _, h, _⟩⟩ := h <;> (subst h; simp at hv; subst hv; rfl)
  | .u, _, _, _, h, v, hv => by simp only [Own] at h; rw [h.1] at hv; simp at hv
  | .p x y, _, _, _, h, v, hv => by
    obtain ⟨c1, c2, F1, F2, h, _, h1, h2⟩ := h
    subst h
    rcases List.mem_append.1 hv with hv | hv
    · exact Own.one h1 v hv
    · exact Own.one h2 v hv

theorem Rep.one {w : World} {O : Nat → Prop} {hp : Nat → Option Blk} {σ : Nat → Value} : ∀ {d : D} {cs : List Value}, Rep w O hp σ d cs → ∀ v ∈ cs, v.oneCell' = true
  | .und, _, h, _, _ => by simp [Rep] at h
  | .anyv, _, h, _, _ => by simp [Rep] at h
  | .t τ x, _, h, v, hv => View.one h v hv
  | .nil, _, h, v, hv => by simp only [Rep] at h; subst h; simp at hv; subst hv; rfl
  | .own _, _, h, v, hv => by obtain ⟨u, h, h1, _⟩ := h; subst h; simp at hv; subst hv; exact h1
  | .cut _ _ _, _, h, v, hv => by obtain ⟨u, h, h1, _⟩ := h; subst h; simp at hv; subst hv; exact h1
  | .ptr _ _, _, h, v, hv => by obtain ⟨u, h, h1, _⟩ := h; subst h; simp at hv; subst hv; exact h1
  | .eptr _ _ _, _, h, v, hv => by obtain ⟨u, h, h1, _⟩ := h; subst h; simp at hv; subst hv; exact h1
  | .rp _ _, _, h, v, hv => by obtain ⟨b, off, cur, et, fr, h, _⟩ := h; subst h; simp at hv; subst hv; rfl
  | .pr a b, _, h, v, hv => by
    obtain ⟨c1, c2, h, h1, h2⟩ := h
    subst h
    rcases List.mem_append.1 hv with hv | hv
    · exact Rep.one h1 v hv
    · exact Rep.one h2 v hv
  | .un, _, h, v, hv => by simp only [Rep] at h; subst h; simp at hv
  | .tup _, _, h, _, _ => by simp [Rep] at h

theorem splice_left {c1 c2 ce : List Value} {o : Nat} (h : o + ce.length ≤ c1.length) : splice (c1 ++ c2) o ce = splice c1 o ce ++ c2 := by
  unfold splice
  rw [List.take_append_of_le_length (by omega), List.drop_append_of_le_length h]
  simp [List.append_assoc]

theorem splice_all {cs ce : List Value} (h : ce.length = cs.length) : splice cs 0 ce = ce := by
  unfold splice
  rw [List.drop_eq_nil_of_le (by omega)]
  simp

theorem splice_seg_same {cur : Array Value} {o n o' : Nat} {ce : List Value} (h1 : o + n ≤ cur.size) (h2 : o' + ce.length ≤ n) :
    seg (splice cur.toList (o + o') ce).toArray o n = splice (seg cur o n) o' ce := by
  have hl : (seg cur o n).length = n := seg_length h1
  have hs : (splice cur.toList (o + o') ce).length = cur.size := by rw [splice_length (by simp; omega)]; simp
  apply List.ext_getElem?
  intro j
  rw [splice_get (by omega)]
  by_cases hj : j < n
  · rw [seg_getElem? _ _ _ _ hj, List.getElem?_toArray, splice_get (by simp; omega), seg_getElem? _ _ _ _ hj]
    by_cases c1 : j < o'
    · rw [if_pos (by omega), if_pos c1]; simp
    · rw [if_neg (by omega), if_neg c1]
      by_cases c2 : j < o' + ce.length
      · rw [if_pos (by omega), if_pos c2]; congr 1; omega
      · rw [if_neg (by omega), if_neg c2]; simp
  · rw [List.getElem?_eq_none (by rw [seg_length (by simpa [hs] using h1)]; omega), if_neg (by omega), if_neg (by omega), List.getElem?_eq_none (by omega)]

theorem splice_seg_other {cur : Array Value} {o p m : Nat} {ce : List Value} (h : o + ce.length ≤ cur.size) (hm : p + m ≤ cur.size) (hd : p + m ≤ o ∨ o + ce.length ≤ p) :
    seg (splice cur.toList o ce).toArray p m = seg cur p m := by
  have hs : (splice cur.toList o ce).length = cur.size := by rw [splice_length (by simpa using h)]; simp
  apply List.ext_getElem?
  intro j
  by_cases hj : j < m
  · rw [seg_getElem? _ _ _ _ hj, List.getElem?_toArray, splice_get (by simpa using h), seg_getElem? _ _ _ _ hj]
    by_cases c1 : p + j < o
    · rw [if_pos c1]; simp
    · rw [if_neg c1, if_neg (by omega)]; simp
  · rw [List.getElem?_eq_none (by rw [seg_length (by simpa [hs] using hm)]; omega), List.getElem?_eq_none (by rw [seg_length hm]; omega)]

theorem setT_view {w : World} {O : Nat → Prop} : ∀ {e : Ty} {x x' : T e} {p : List Nat} {τ : Ty} {y : T τ} {cs ce : List Value}, setT e x p τ y = some x' → tyAt e p = some τ →
    View w O e x cs → View w O τ y ce → View w O e x' (splice cs (offAt e p) ce)
  | e, x, x', [], τ, y, cs, ce, hs, ht, hx, hy => by
    unfold setT at hs
    split at hs
    · rename_i q hq
      subst q
      simp only [Option.some.injEq] at hs
      subst hs
      have l1 := View.length hx
      have l2 := View.length hy
      simp only [offAt]
      rw [splice_all (by omega)]
      exact hy
    · simp at hs
  | .p a b', x, x', 0 :: p, τ, y, cs, ce, hs, ht, hx, hy => by
    simp only [setT] at hs
    split at hs
    · rename_i u hu
      simp only [Option.some.injEq] at hs
      subst hs
      obtain ⟨c1, c2, hc, h1, h2⟩ := hx
      subst hc
      have ht' : tyAt a p = some τ := by simpa [tyAt, tyField] using ht
      have hle := off_le_at ht'
      have ih := setT_view hu ht' h1 hy
      have l1 := View.length h1
      have l2 := View.length hy
      have ho : offAt (.p a b') (0 :: p) = offAt a p := by simp [offAt, offField, tyField]
      rw [ho, splice_left (by omega)]
      exact ⟨_, _, rfl, ih, h2⟩
    · simp at hs
  | .p a b', x, x', (n + 1) :: p, τ, y, cs, ce, hs, ht, hx, hy => by
    simp only [setT] at hs
    split at hs
    · rename_i u hu
      simp only [Option.some.injEq] at hs
      subst hs
      obtain ⟨c1, c2, hc, h1, h2⟩ := hx
      subst hc
      have ht' : tyAt b' (n :: p) = some τ := by simpa [tyAt, tyField] using ht
      have ih := setT_view hu ht' h2 hy
      have l1 := View.length h1
      have ho : offAt (.p a b') ((n + 1) :: p) = c1.length + offAt b' (n :: p) := by simp [offAt, offField, tyField, l1, Nat.add_assoc]
      rw [ho, splice_append]
      exact ⟨_, _, rfl, h1, ih⟩
    · simp at hs
  | .i _, _, _, _ :: _, _, _, _, _, hs, _, _, _ => by simp [setT] at hs
  | .b, _, _, _ :: _, _, _, _, _, hs, _, _, _ => by simp [setT] at hs
  | .o, _, _, _ :: _, _, _, _, _, hs, _, _, _ => by simp [setT] at hs
  | .s, _, _, _ :: _, _, _, _, _, hs, _, _, _ => by simp [setT] at hs
  | .sl _, _, _, _ :: _, _, _, _, _, hs, _, _, _ => by simp [setT] at hs
  | .u, _, _, _ :: _, _, _, _, _, hs, _, _, _ => by simp [setT] at hs

theorem setT_own {w : World} : ∀ {e : Ty} {x x' : T e} {p : List Nat} {τ : Ty} {y : T τ} {cs ce : List Value} {F Fy : List Nat}, setT e x p τ y = some x' → tyAt e p = some τ →
    Own w e x cs F → Own w τ y ce Fy → ∃ F1 F2 F3, F = F1 ++ F2 ++ F3 ∧ Own w e x' (splice cs (offAt e p) ce) (F1 ++ Fy ++ F3)
  | e, x, x', [], τ, y, cs, ce, F, Fy, hs, ht, hx, hy => by
    unfold setT at hs
    split at hs
    · rename_i q hq
      subst q
      simp only [Option.some.injEq] at hs
      subst hs
      have l1 := Own.length hx
      have l2 := Own.length hy
      simp only [offAt]
      rw [splice_all (by omega)]
      exact ⟨[], F, [], by simp, by simpa using hy⟩
    · simp at hs
  | .p a b', x, x', 0 :: p, τ, y, cs, ce, F, Fy, hs, ht, hx, hy => by
    simp only [setT] at hs
    split at hs
    · rename_i u hu
      simp only [Option.some.injEq] at hs
      subst hs
      obtain ⟨c1, c2, Fa, Fb, hc, hF, h1, h2⟩ := hx
      subst hc
      subst hF
      have ht' : tyAt a p = some τ := by simpa [tyAt, tyField] using ht
      have hle := off_le_at ht'
      obtain ⟨F1, F2, F3, e1, ih⟩ := setT_own hu ht' h1 hy
      have l1 := Own.length h1
      have l2 := Own.length hy
      have ho : offAt (.p a b') (0 :: p) = offAt a p := by simp [offAt, offField, tyField]
      rw [ho, splice_left (by omega)]
      exact ⟨F1, F2, F3 ++ Fb, by simp [e1], _, _, F1 ++ Fy ++ F3, Fb, rfl, by simp, ih, h2⟩
    · simp at hs
  | .p a b', x, x', (n + 1) :: p, τ, y, cs, ce, F, Fy, hs, ht, hx, hy => by
    simp only [setT] at hs
    split at hs
    · rename_i u hu
      simp only [Option.some.injEq] at hs
      subst hs
      obtain ⟨c1, c2, Fa, Fb, hc, hF, h1, h2⟩ := hx
      subst hc
      subst hF
      have ht' : tyAt b' (n :: p) = some τ := by simpa [tyAt, tyField] using ht
      obtain ⟨F1, F2, F3, e1, ih⟩ := setT_own hu ht' h2 hy
      have l1 := Own.length h1
      have ho : offAt (.p a b') ((n + 1) :: p) = c1.length + offAt b' (n :: p) := by simp [offAt, offField, tyField, l1, Nat.add_assoc]
      rw [ho, splice_append]
      exact ⟨Fa ++ F1, F2, F3, by simp [e1], _, _, Fa, F1 ++ Fy ++ F3, rfl, by simp, h1, ih⟩
    · simp at hs
  | .i _, _, _, _ :: _, _, _, _, _, _, _, hs, _, _, _ => by simp [setT] at hs
  | .b, _, _, _ :: _, _, _, _, _, _, _, hs, _, _, _ => by simp [setT] at hs
  | .o, _, _, _ :: _, _, _, _, _, _, _, hs, _, _, _ => by simp [setT] at hs
  | .s, _, _, _ :: _, _, _, _, _, _, _, hs, _, _, _ => by simp [setT] at hs
  | .sl _, _, _, _ :: _, _, _, _, _, _, _, hs, _, _, _ => by simp [setT] at hs
  | .u, _, _, _ :: _, _, _, _, _, _, _, hs, _, _, _ => by simp [setT] at hs

section
variable {P : Program} {Out : Type} {n0 : Nat} {A : Fx} {O0 : Nat → Prop} {w0 w w' : World} {s : AS} {σ σ' : Nat → Value} {φ φ' : Nat → List Nat} {a : Act}
variable {o : Oper} {Q : Exit → Act → World → Prop} {k : AS → Option Out} {out : Out} {d : D} {v : Value} {upd : List (Nat × Option Blk)} {dst : Option Tmp} {G : Env}

/-- an id turns in place, and may take others along -/
theorem Conc.turn (h : Conc n0 A O0 w0 s σ φ a w) {id : Nat} {blk0 blk : Blk} (hid : s.heap id = some blk0) (hlike : blk0.like blk) (l : List Nat)
    (hlive : ∀ j, j ∈ l → ∃ b, s.heap j = some b) (_hl : id ∉ l) (F : List Nat)
    (hs : w.heap.size ≤ w'.heap.size) (hb : ∀ b, b < w.heap.size → b ∉ φ id → (∀ j, j ∈ l → b ∉ φ j) → w'.heap[b]? = w.heap[b]?)
    (hos : w'.os = w.os) (htape : w'.tape = w.tape) (hout : w'.output = w.output) (hF : F.Nodup) (hFn : ∀ b, b ∈ F → w.heap.size ≤ b ∨ b ∈ φ id ∨ ∃ j, j ∈ l ∧ b ∈ φ j)
    (hrep : ∀ (hp' : Nat → Option Blk) (O' : Nat → Prop), (∀ b, b < w.heap.size → ¬ OO O0 s φ b → ¬ O' b) → (∀ j, Cp s.heap hp' σ σ j) →
      BlkRep w' O' hp' σ id blk F) :
    Conc n0 A O0 w0 ⟨s.n, s.tm, (id, some blk) :: (drops l ++ s.hp)⟩ σ (upd1 φ id F) a w' := by
  have hOO : ∀ b, b < w.heap.size → ¬ OO O0 s φ b → ¬ OO O0 ⟨s.n, s.tm, (id, some blk) :: (drops l ++ s.hp)⟩ (upd1 φ id F) b := by
    rintro b hlt hno (ho | ⟨j, blk', hl, hm⟩)
    · exact hno (.inl ho)
    · rw [heap_absorb] at hl
      by_cases hj : j = id
      · subst hj
        rw [upd1_same] at hm
        rcases hFn b hm with hge | hm' | ⟨j', hj', hm'⟩
        · omega
        · exact hno (.inr ⟨j, blk0, hid, hm'⟩)
        · obtain ⟨b', hb'⟩ := hlive j' hj'
          exact hno (.inr ⟨j', b', hb', hm'⟩)
      · rw [if_neg hj] at hl
        split at hl
        · simp at hl
        · rw [upd1_ne _ _ hj] at hm
          exact hno (.inr ⟨j, blk', hl, hm⟩)
  have hcp : ∀ j, Cp s.heap (AS.heap ⟨s.n, s.tm, (id, some blk) :: (drops l ++ s.hp)⟩) σ σ j := by
    intro j blk' hj
    rw [heap_absorb] at hj
    by_cases hji : j = id
    · subst hji
      rw [if_pos rfl] at hj
      simp only [Option.some.injEq] at hj
      subst hj
      exact ⟨blk0, hid, hlike, rfl⟩
    · rw [if_neg hji] at hj
      split at hj
      · simp at hj
      · exact ⟨blk', hj, Blk.like_refl _, rfl⟩
  refine h.trans (fun j => j = id ∨ j ∈ l) rfl rfl ?_ ?_ hs ?_ ?_ ?_ ?_ hos htape hout (fun _ _ => .inl rfl)
  · intro j hj
    simp only [not_or] at hj
    exact ⟨by rw [heap_absorb, if_neg hj.1, if_neg hj.2], rfl, upd1_ne _ _ hj.1⟩
  · intro b hlt hno
    refine hb b hlt (fun hm => hno id blk0 (.inl rfl) hid hm) fun j hj hm => ?_
    obtain ⟨b', hb'⟩ := hlive j hj
    exact hno j b' (.inr hj) hb' hm
  · intro j blk' ht hl b hbm
    rw [heap_absorb] at hl
    by_cases hj : j = id
    · subst hj
      rw [upd1_same] at hbm
      rcases hFn b hbm with hge | hm' | ⟨j', hj', hm'⟩
      · exact .inl hge
      · exact .inr ⟨j, blk0, .inl rfl, hid, hm'⟩
      · obtain ⟨b', hb'⟩ := hlive j' hj'
        exact .inr ⟨j', b', .inr hj', hb', hm'⟩
    · rw [if_neg hj, if_pos (ht.resolve_left hj)] at hl
      simp at hl
  · intro j blk' ht hl _
    exact hcp j blk' hl
  · intro j blk' ht hl
    rw [heap_absorb] at hl
    by_cases hj : j = id
    · subst hj
      rw [if_pos rfl] at hl
      simp only [Option.some.injEq] at hl
      subst hl
      rw [upd1_same]
      exact ⟨hrep _ _ hOO hcp, hF⟩
    · rw [if_neg hj, if_pos (ht.resolve_left hj)] at hl
      simp at hl
  · intro j j' b1 b2 ht ht' hne hl hl'
    rw [heap_absorb] at hl hl'
    have e1 : j = id := by
      by_cases hj : j = id
      · exact hj
      · rw [if_neg hj, if_pos (ht.resolve_left hj)] at hl; simp at hl
    have e2 : j' = id := by
      by_cases hj : j' = id
      · exact hj
      · rw [if_neg hj, if_pos (ht'.resolve_left hj)] at hl'; simp at hl'
    exact absurd (e1.trans e2.symm) hne

/-- the flat row, owned, is a row -/
theorem own_row {id : Nat} {e : Ty} {xs : List (T e)} {O : Nat → Prop} {hp : Nat → Option Blk} {F : List Nat} (h : Own w (.sl e) xs [σ id] F) (hf : e.flat = true) :
    BlkRep w O hp σ id (.row e false xs) F := by
  obtain ⟨hm, ⟨h1, h2, h3⟩ | ⟨bl, off, cap, cur, et, Fs, h1, hh, h2, h3, h4, hF, hl, hv⟩⟩ := h
  · simp only [List.cons.injEq, and_true] at h1
    exact ⟨hm, .inl ⟨h1, h2, h3⟩⟩
  · simp only [List.cons.injEq, and_true] at h1
    have hnil : ∀ i, i < Fs.length → Fs.getD i [] = [] := fun i hi => own_flat hf (hv i (by omega))
    have hfl : Fs.flatten = [] := by
      rw [List.flatten_eq_nil_iff]
      intro l hl'
      obtain ⟨i, hi, rfl⟩ := List.mem_iff_getElem.1 hl'
      have := hnil i hi
      simpa [List.getD, hi] using this
    refine ⟨hm, .inr ⟨bl, off, cap, cur, et, h1, hh, h2, h3, h4, by rw [hF, hfl], fun i hi => ?_⟩⟩
    have := hv i hi
    rw [hnil i (by omega)] at this
    exact this.view (by simp)

theorem flatten_set {Fs : List (List Nat)} {i : Nat} (hi : i < Fs.length) (X : List Nat) :
    Fs.flatten = (Fs.take i).flatten ++ Fs.getD i [] ++ (Fs.drop (i + 1)).flatten ∧ (Fs.set i X).flatten = (Fs.take i).flatten ++ X ++ (Fs.drop (i + 1)).flatten := by
  have h1 : Fs = Fs.take i ++ Fs.getD i [] :: Fs.drop (i + 1) := by
    have : Fs.getD i [] = Fs[i] := by simp [List.getD, hi]
    rw [this, List.getElem_cons_drop hi, List.take_append_drop]
  have h2 : Fs.set i X = Fs.take i ++ X :: Fs.drop (i + 1) := by rw [List.set_eq_take_append_cons_drop]; simp [hi]
  constructor
  · conv => lhs; rw [h1]
    simp
  · rw [h2]; simp

/-- a part of an element of an owned row is laid anew -/
theorem store_own {e τ : Ty} {xs : List (T e)} {b off cap : Nat} {F Fy : List Nat} {i : Nat} {x x' : T e} {y : T τ} {p : List Nat} {ce : List Value} {cur : Array Value} {et : TypeId}
    (hx : Own w (.sl e) xs [.slice (some ⟨b, off, none⟩) (List.length xs) cap] F) (hn : (F ++ Fy).Nodup) (hi : xs[i]? = some x) (hs : setT e x p τ y = some x') (ht : tyAt e p = some τ)
    (hy : Own w τ y ce Fy) (hcur : w.heap[b]? = some (.cells cur et (0, 0))) :
    ∃ F', Own (w.setRow b (splice cur.toList (off + i * e.size + offAt e p) ce).toArray) (.sl e) (List.set xs i x') [.slice (some ⟨b, off, none⟩) (List.length xs) cap] F' ∧ F'.Nodup ∧
      (∀ c, c ∈ F' → c ∈ F ∨ c ∈ Fy) := by
  obtain ⟨hm, ⟨h1, _⟩ | ⟨bl, off', cap', cur', et', Fs, h1, hh, h2, h3, h4, hF, hl, hv⟩⟩ := hx
  · simp at h1
  · simp at h1
    obtain ⟨⟨rfl, rfl⟩, rfl⟩ := h1
    rw [hcur] at hh
    simp only [Option.some.injEq, Obj.cells.injEq] at hh
    obtain ⟨rfl, rfl, _⟩ := hh
    have hil : i < List.length xs := (List.getElem?_eq_some_iff.1 hi).1
    have hxe : List.get xs ⟨i, hil⟩ = x := by simpa [List.getElem?_eq_getElem hil] using hi
    have hle := off_le_at ht
    have hyl := Own.length hy
    have hcap := Nat.mul_le_mul_right e.size h2
    have hlt : (i + 1) * e.size ≤ List.length xs * e.size := Nat.mul_le_mul_right _ hil
    rw [Nat.add_mul, Nat.one_mul] at hlt
    have hoi := hv i hil
    rw [hxe] at hoi
    have hbF : b ∉ Fs.flatten ∧ b ∉ Fy := by
      rw [hF] at hn
      simp only [List.cons_append, List.nodup_cons, List.mem_append, not_or] at hn
      exact hn.1
    have hst : ∀ c, c ≠ b → (w.setRow b (splice cur.toList (off + i * e.size + offAt e p) ce).toArray).heap[c]? = w.heap[c]? := fun c hc => setRow_other w b c _ hc
    have hoi' := hoi.stable (w' := w.setRow b (splice cur.toList (off + i * e.size + offAt e p) ce).toArray) fun c hc => hst c fun e => hbF.1 (e ▸ mem_flatten_getD hc)
    have hy' := hy.stable (w' := w.setRow b (splice cur.toList (off + i * e.size + offAt e p) ce).toArray) fun c hc => hst c fun e => hbF.2 (e ▸ hc)
    obtain ⟨F1, F2, F3, hFi, hown⟩ := setT_own hs ht hoi' hy'
    have hiF : i < Fs.length := by omega
    obtain ⟨g1, g2⟩ := flatten_set hiF (F1 ++ Fy ++ F3)
    refine ⟨b :: (Fs.set i (F1 ++ Fy ++ F3)).flatten, ⟨by simpa using hm, .inr ⟨b, off, cap, _, et, _, by simp, setRow_heap w b cur _ et (0, 0) hcur, by simpa using h2, h3, ?_, rfl, by simpa using hl, ?_⟩⟩, ?_, ?_⟩
    · rw [List.size_toArray, splice_length (by simp; omega)]
      simpa using h4
    · intro j hj
      have hjl : j < List.length xs := by simpa using hj
      by_cases hji : j = i
      · subst hji
        have e1 : List.get (List.set xs j x') ⟨j, hj⟩ = x' := by simp
        have e2 : (Fs.set j (F1 ++ Fy ++ F3)).getD j [] = F1 ++ Fy ++ F3 := by simp [List.getD, hiF]
        rw [e1, e2, splice_seg_same (by omega) (by omega)]
        exact hown
      · have e1 : List.get (List.set xs i x') ⟨j, hj⟩ = List.get xs ⟨j, hjl⟩ := by simp [Ne.symm hji]
        have e2 : (Fs.set i (F1 ++ Fy ++ F3)).getD j [] = Fs.getD j [] := by simp [List.getD, Ne.symm hji]
        have hjle : (j + 1) * e.size ≤ List.length xs * e.size := Nat.mul_le_mul_right _ hjl
        rw [Nat.add_mul, Nat.one_mul] at hjle
        rw [e1, e2, splice_seg_other (by omega) (by omega) ?_]
        · exact (hv j hjl).stable fun c hc => hst c fun e => hbF.1 (e ▸ mem_flatten_getD hc)
        · rcases Nat.lt_or_gt_of_ne hji with hlt' | hlt'
          · left
            have := Nat.mul_le_mul_right e.size hlt'
            rw [Nat.succ_mul] at this
            omega
          · right
            have := Nat.mul_le_mul_right e.size hlt'
            rw [Nat.succ_mul] at this
            omega
    · rw [g2]
      rw [hF, g1, hFi] at hn
      refine (List.Perm.nodup_iff (l₁ := b :: ((Fs.take i).flatten ++ (F1 ++ Fy ++ F3) ++ (Fs.drop (i + 1)).flatten)) (l₂ := (b :: ((Fs.take i).flatten ++ (F1 ++ F3) ++ (Fs.drop (i + 1)).flatten)) ++ Fy) ?_).2 (List.Sublist.nodup ?_ hn)
      · rw [List.perm_iff_count]
        intro c
        simp only [List.count_append, List.count_cons]
        omega
      · refine List.Sublist.append (List.Sublist.cons_cons _ (List.Sublist.append (List.Sublist.append (List.Sublist.refl _) ?_) (List.Sublist.refl _))) (List.Sublist.refl _)
        exact List.Sublist.append (List.sublist_append_left _ _) (List.Sublist.refl _)
    · intro c hc
      rw [g2] at hc
      rw [hF, g1, hFi]
      simp only [List.mem_cons, List.mem_append] at hc ⊢
      grind
end
end KF

namespace KF
open Go

section
variable {P : Program} {Out : Type} {n0 : Nat} {A : Fx} {O0 : Nat → Prop} {w0 w w' : World} {s : AS} {σ σ' : Nat → Value} {φ φ' : Nat → List Nat} {a : Act}
variable {o : Oper} {Q : Exit → Act → World → Prop} {k : AS → Option Out} {out : Out} {d : D} {v : Value} {upd : List (Nat × Option Blk)} {dst : Option Tmp} {G : Env}

theorem op_store (hG : EnvTy P G) (h : Conc n0 A O0 w0 s σ φ a w) {t : TypeId} {x y : Operand} (ho : o.op = .store t x y)
    (he : aop G s o k = some out) : o.wp P a w (Good n0 A O0 w0 k out) Q := by
  simp only [aop, aopK, ho] at he
  split at he
  · -- a box
    rename_i τ id path dv hty hx hy
    split at he
    · rename_i ρ d hb
      split at he
      · rename_i τ' d' ht hd
        split at he
        · rename_i q hq
          obtain rfl := dec_eq hq
          cases hsb : shapeB τ' dv with
          | false => rw [hsb] at he; simp at he
          | true =>
            rw [hsb] at he
            simp only [cond_true] at he
            have hse := shapeB_ok hsb
            have hv := h.ev hx
            rw [repU_ptr] at hv
            obtain ⟨b, hσ, hv⟩ := hv.2 ρ d hb
            obtain ⟨hs, b', cur, et, hσ', hh, hF, hr, hsz⟩ := h.hp id _ hb
            rw [hσ] at hσ'
            simp at hσ'
            subst hσ'
            obtain ⟨hre, hve⟩ := rep_cells hse (h.ev hy)
            have hlen := Rep.length hse hre
            have hle := off_le_at ht
            have hl := run_storeVar' (w := w) (hG.ty _ _ hty) hh (by omega : offAt ρ path + τ'.size ≤ cur.size) hlen (Rep.one hre)
            obtain ⟨hsd, hrd⟩ := Rep.setAt (w := w) (O := OO O0 s φ) (hp := s.heap) (σ := σ) hs ht hse hd
            have hr' := hrd hr hre
            have hc : Conc n0 A O0 w0 ⟨s.n, s.tm, (id, some (.box ρ d')) :: (drops [] ++ s.hp)⟩ σ (upd1 φ id (φ id)) a (w.setRow b (splice cur.toList (offAt ρ path) (a.eval y).cells.toList).toArray) := by
              refine h.turn (blk0 := .box ρ d) (blk := .box ρ d') hb rfl [] (by simp) (by simp) (φ id) (by simp) ?_ rfl rfl rfl (h.nodup _ _ hb) (fun c hc => .inr (.inl hc)) ?_
              · intro c _ hc _
                rw [hF] at hc
                exact setRow_other w b c _ (by simpa using hc)
              · intro hp' O' hO hcp
                refine ⟨hsd, b, _, et, hσ, setRow_heap w b cur _ et (0, 0) hh, hF, ?_, ?_⟩
                · refine Rep.stable ?_ hO d' _ (fun j _ => hcp j) (by simpa using hr')
                  intro c hc _
                  refine setRow_other w b c _ fun e => hc (.inr ⟨id, _, hb, ?_⟩)
                  rw [hF, e]; simp
                · have := splice_length (cs := cur.toList) (ce := (a.eval y).cells.toList) (o := offAt ρ path) (by rw [hlen]; simp; omega)
                  simpa [this] using hsz
            refine wp_skip' (w' := w.setRow b (splice cur.toList (offAt ρ path) (a.eval y).cells.toList).toArray) ?_ (fin_good rfl hc ?_ he)
            · simp [execOp, ho, hv, Instr.storeAt, Instr.sureAddr, hl]
            · exact repU_und.2 rfl
        · simp at he
      · simp at he
    · simp at he
  · -- an element of a row
    rename_i τ id i path dv hty hx hy
    split at he
    · rename_i e dp xs hb
      split at he
      · rename_i τ' ht
        split at he
        · rename_i q hq
          obtain rfl := dec_eq hq
          have hv := h.ev hx
          rw [repU_eptr] at hv
          obtain ⟨hi, b, off, cap, hσ, hv⟩ := hv.2 _ _ _ hb rfl
          have hle := off_le_at ht
          cases hf : (dp || e.flat) with
          | true =>
            rw [hf] at he
            simp only [cond_true] at he
            split at he
            · rename_i y' l hoT
              cases hck : ((dp || l.isEmpty) && nodupB (id :: l)) with
              | false => rw [hck] at he; simp at he
              | true =>
                rw [hck] at he
                simp only [cond_true] at he
                simp only [Bool.and_eq_true] at hck
                have hnd := nodupB_ok hck.2
                cases hxi : xs[i]? with
                | none => simp [hxi] at he
                | some x0 =>
                  simp only [hxi, Option.bind_some] at he
                  split at he
                  · rename_i x' hset
                    have hse := ownT_shape hoT
                    obtain ⟨hre, hve⟩ := rep_cells hse (h.ev hy)
                    have hlen := Rep.length hse hre
                    obtain ⟨hoy, hlive⟩ := ownT_ok h hoT hre
                    have hrow := row_own (h.hp id _ hb) (by simpa using hf)
                    rw [hσ] at hrow
                    have hblk : ∃ cur et, w.heap[b]? = some (.cells cur et (0, 0)) ∧ off + cap * e.size ≤ cur.size ∧ List.length xs ≤ cap ∧ b ∈ φ id := by
                      obtain ⟨hm, ⟨h1, _⟩ | ⟨bl, off', cap', cur', et', Fs, h1, hh, h2, h3, h4, hF, hl, _⟩⟩ := hrow
                      · simp at h1
                      · simp at h1
                        obtain ⟨⟨rfl, rfl⟩, rfl⟩ := h1
                        exact ⟨cur', et', hh, h4, h2, by rw [hF]; simp⟩
                    obtain ⟨cur, et, hh, hsz, hnc, hbm⟩ := hblk
                    have hlt : (i + 1) * e.size ≤ cap * e.size := Nat.mul_le_mul_right _ (by omega)
                    rw [Nat.succ_mul] at hlt
                    have hl := run_storeVar' (w := w) (hG.ty _ _ hty) hh (by omega : off + i * e.size + offAt e path + τ'.size ≤ cur.size) hlen (Own.one hoy)
                    have hFF : (φ id ++ blocks φ l).Nodup := by
                      have := blocks_nodup h hnd (by
                        intro j hj
                        rcases List.mem_cons.1 hj with rfl | hj
                        · exact ⟨_, hb⟩
                        · exact hlive j hj)
                      simpa [blocks] using this
                    obtain ⟨F', hown', hF', hsub⟩ := store_own hrow hFF hxi hset ht hoy hh
                    have hc : Conc n0 A O0 w0 ⟨s.n, s.tm, (id, some (.row e dp (List.set xs i x'))) :: (drops l ++ s.hp)⟩ σ (upd1 φ id F') a (w.setRow b (splice cur.toList (off + i * e.size + offAt e path) (a.eval y).cells.toList).toArray) := by
                      refine h.turn (blk0 := .row e dp xs) hb (by simp [Blk.like]) l hlive (List.nodup_cons.1 hnd).1 F' (by simp) ?_ rfl rfl rfl hF' ?_ ?_
                      · intro c _ hc _
                        exact setRow_other w b c _ fun e => hc (e ▸ hbm)
                      · intro c hc
                        rcases hsub c hc with hc | hc
                        · exact .inr (.inl hc)
                        · exact .inr (.inr (mem_blocks.1 hc))
                      · intro hp' O' _ _
                        cases dp with
                        | true => simp only [BlkRep]; rw [hσ]; exact hown'
                        | false => exact own_row (by rw [hσ]; exact hown') (by simpa using hf)
                    refine wp_skip' (w' := w.setRow b (splice cur.toList (off + i * e.size + offAt e path) (a.eval y).cells.toList).toArray) ?_ (fin_good rfl hc ?_ he)
                    · simp [execOp, ho, hv, Instr.storeAt, Instr.sureAddr, hl]
                    · exact repU_und.2 rfl
                  · simp at he
            · simp at he
          | false =>
            rw [hf] at he
            simp only [cond_false] at he
            split at he
            · rename_i y' hoT
              cases hxi : xs[i]? with
              | none => simp [hxi] at he
              | some x0 =>
                simp only [hxi, Option.bind_some] at he
                split at he
                · rename_i x' hset
                  obtain ⟨hse, hvw⟩ := toT_view (w := w) (O := OO O0 s φ) (hp := s.heap) (σ := σ) hoT
                  obtain ⟨hre, hve⟩ := rep_cells hse (h.ev hy)
                  have hlen := Rep.length hse hre
                  have hvy := hvw _ hre
                  have hdp : dp = false := by
                    simp only [Bool.or_eq_false_iff] at hf
                    exact hf.1
                  subst hdp
                  have hrow := h.hp id _ hb
                  simp only [BlkRep, hσ] at hrow
                  obtain ⟨hm, ⟨h1, _⟩ | ⟨bl, off', cap', cur, et, h1, hh, h2, h3, h4, hF, hvs⟩⟩ := hrow
                  · simp at h1
                  · simp at h1
                    obtain ⟨⟨rfl, rfl⟩, rfl⟩ := h1
                    have hlt : (i + 1) * e.size ≤ List.length xs * e.size := Nat.mul_le_mul_right _ hi
                    rw [Nat.succ_mul] at hlt
                    have hcap := Nat.mul_le_mul_right e.size h2
                    have hl := run_storeVar' (w := w) (hG.ty _ _ hty) hh (by omega : off + i * e.size + offAt e path + τ'.size ≤ cur.size) hlen (View.one hvy)
                    have hxe : List.get xs ⟨i, hi⟩ = x0 := by simpa [List.getElem?_eq_getElem hi] using hxi
                    have hvi := hvs i hi
                    rw [hxe] at hvi
                    have hnew := setT_view hset ht hvi hvy
                    have hc : Conc n0 A O0 w0 ⟨s.n, s.tm, (id, some (.row e false (List.set xs i x'))) :: (drops [] ++ s.hp)⟩ σ (upd1 φ id (φ id)) a (w.setRow b (splice cur.toList (off + i * e.size + offAt e path) (a.eval y).cells.toList).toArray) := by
                      refine h.turn (blk0 := .row e false xs) hb (by simp [Blk.like]) [] (by simp) (by simp) (φ id) (by simp) ?_ rfl rfl rfl (h.nodup _ _ hb) (fun c hc => .inr (.inl hc)) ?_
                      · intro c _ hc _
                        rw [hF] at hc
                        exact setRow_other w b c _ (by simpa using hc)
                      · intro hp' O' hO _
                        have hst : ∀ {τ : Ty} {z : T τ} {cs : List Value}, View w (OO O0 s φ) τ z cs → View (w.setRow b (splice cur.toList (off + i * e.size + offAt e path) (a.eval y).cells.toList).toArray) O' τ z cs := by
                          intro τ z cs hz
                          refine View.stable ?_ hO hz
                          intro c hc _
                          refine setRow_other w b c _ fun e => hc (.inr ⟨id, _, hb, ?_⟩)
                          rw [hF, e]; simp
                        have hyl := View.length hvy
                        refine ⟨by simpa using hm, .inr ⟨b, off, cap, _, et, by simpa using hσ, setRow_heap w b cur _ et (0, 0) hh, by simpa using h2, h3, ?_, hF, ?_⟩⟩
                        · rw [List.size_toArray, splice_length (by have : cur.toList.length = cur.size := Array.length_toList; omega)]
                          simpa using h4
                        · intro j hj
                          have hjl : j < List.length xs := by simpa using hj
                          by_cases hji : j = i
                          · subst hji
                            have e1 : List.get (List.set xs j x') ⟨j, hj⟩ = x' := by simp
                            rw [e1, splice_seg_same (by omega) (by omega)]
                            exact hst hnew
                          · have e1 : List.get (List.set xs i x') ⟨j, hj⟩ = List.get xs ⟨j, hjl⟩ := by simp [Ne.symm hji]
                            have hjle : (j + 1) * e.size ≤ List.length xs * e.size := Nat.mul_le_mul_right _ hjl
                            rw [Nat.succ_mul] at hjle
                            rw [e1, splice_seg_other (by omega) (by omega) ?_]
                            · exact hst (hvs j hjl)
                            · rcases Nat.lt_or_gt_of_ne hji with hlt' | hlt'
                              · left
                                have := Nat.mul_le_mul_right e.size hlt'
                                rw [Nat.succ_mul] at this
                                omega
                              · right
                                have := Nat.mul_le_mul_right e.size hlt'
                                rw [Nat.succ_mul] at this
                                omega
                    refine wp_skip' (w' := w.setRow b (splice cur.toList (off + i * e.size + offAt e path) (a.eval y).cells.toList).toArray) ?_ (fin_good rfl hc ?_ he)
                    · simp [execOp, ho, hv, Instr.storeAt, Instr.sureAddr, hl]
                    · exact repU_und.2 rfl
                · simp at he
            · simp at he
        · simp at he
      · simp at he
    · -- a part of it is held: the new one comes to its place
      rename_i e xs i0 x0 path0 τ0 d hb
      split at he
      · rename_i τ' ht
        split at he
        · rename_i q hq
          obtain rfl := dec_eq hq
          split at he
          · rename_i y' l hoT
            cases hck : (nodupB (id :: l) && (path == path0)) with
            | false => rw [hck] at he; simp at he
            | true =>
              rw [hck] at he
              simp only [cond_true] at he
              simp only [Bool.and_eq_true, beq_iff_eq] at hck
              obtain ⟨hnd, hpp⟩ := hck
              subst hpp
              have hnd := nodupB_ok hnd
              cases hbi : Nat.beq i i0 with
              | false => rw [hbi] at he; simp at he
              | true =>
                rw [hbi] at he
                simp only [cond_true] at he
                have hii := Nat.eq_of_beq_eq_true hbi
                subst hii
                split at he
                · rename_i x' hset
                  obtain ⟨hsh, hxi, ht0, hlt, bl, off, cap, cur, et, hσ, hh, hbF, hsz, hrep, hwand⟩ := h.hp id _ hb
                  have e1 : τ0 = τ' := by rw [ht0] at ht; simpa using ht
                  subst e1
                  have hv := h.ev hx
                  rw [repU_eptr] at hv
                  obtain ⟨hi, b, off', cap', hσ', hv⟩ := hv.2 _ _ _ hb rfl
                  rw [hσ] at hσ'
                  simp at hσ'
                  obtain ⟨⟨rfl, rfl⟩, rfl⟩ := hσ'
                  have hle := off_le_at ht
                  have hse := ownT_shape hoT
                  obtain ⟨hre, hve⟩ := rep_cells hse (h.ev hy)
                  have hlen := Rep.length hse hre
                  obtain ⟨hoy, hlive⟩ := ownT_ok h hoT hre
                  have hl := run_storeVar' (w := w) (hG.ty _ _ hty) hh (by omega : off + i * e.size + offAt e path + τ0.size ≤ cur.size) hlen (Own.one hoy)
                  have hFF : (φ id ++ blocks φ l).Nodup := by
                    have := blocks_nodup h hnd (by
                      intro j hj
                      rcases List.mem_cons.1 hj with rfl | hj
                      · exact ⟨_, hb⟩
                      · exact hlive j hj)
                    simpa [blocks] using this
                  have hnot : bl ∉ blocks φ l := fun hm => (List.nodup_append.1 hFF).2.2 bl hbF bl hm rfl
                  have hst : ∀ c, c ≠ bl → (w.setRow bl (splice cur.toList (off + i * e.size + offAt e path) (a.eval y).cells.toList).toArray).heap[c]? = w.heap[c]? := fun c hc => setRow_other w bl c _ hc
                  obtain ⟨F', hperm, hown'⟩ := hwand (w.setRow bl (splice cur.toList (off + i * e.size + offAt e path) (a.eval y).cells.toList).toArray) _ hlen (fun c _ hne => hst c hne)
                    (setRow_heap w bl cur _ et (0, 0) hh) y' (blocks φ l) x' (hoy.stable fun c hc => hst c fun e => hnot (e ▸ hc)) hset
                  have hc : Conc n0 A O0 w0 ⟨s.n, s.tm, (id, some (.row e true (List.set xs i x'))) :: (drops l ++ s.hp)⟩ σ (upd1 φ id F') a (w.setRow bl (splice cur.toList (off + i * e.size + offAt e path) (a.eval y).cells.toList).toArray) := by
                    refine h.turn (blk0 := .hol e xs i x0 path τ0 d) hb (by simp [Blk.like]) l hlive (List.nodup_cons.1 hnd).1 F' (by simp) ?_ rfl rfl rfl (hperm.nodup_iff.2 hFF) ?_ ?_
                    · intro c _ hc _
                      exact hst c fun e => hc (e ▸ hbF)
                    · intro c hc
                      rcases List.mem_append.1 (hperm.mem_iff.1 hc) with hc | hc
                      · exact .inr (.inl hc)
                      · exact .inr (.inr (mem_blocks.1 hc))
                    · intro hp' O' _ _
                      exact hown'
                  refine wp_skip' (w' := w.setRow bl (splice cur.toList (off + i * e.size + offAt e path) (a.eval y).cells.toList).toArray) ?_ (fin_good rfl hc ?_ he)
                  · simp [execOp, ho, hv, Instr.storeAt, Instr.sureAddr, hl]
                  · exact repU_und.2 rfl
                · simp at he
          · simp at he
        · simp at he
      · simp at he
    · simp at he
  · simp at he

end
end KF

namespace KF
open Go

/-! ### Rows as lists of cells -/
def elt (L : List Value) (i size : Nat) : List Value := (L.drop (i * size)).take size

structure El (w : World) (O : Nat → Prop) (dq : Bool) (e : Ty) (xs : List (T e)) (L : List Value) (Fs : List (List Nat)) : Prop where
  len : L.length = List.length xs * e.size
  flen : Fs.length = List.length xs
  el : ∀ i (h : i < List.length xs), if dq then Own w e (List.get xs ⟨i, h⟩) (elt L i e.size) (Fs.getD i []) else View w O e (List.get xs ⟨i, h⟩) (elt L i e.size) ∧ Fs.getD i [] = []

def RowV (w : World) (O : Nat → Prop) (dq : Bool) (e : Ty) (xs : List (T e)) (v : Value) (F : List Nat) : Prop :=
  List.length xs ≤ maxN ∧ ((v = .slice none 0 0 ∧ xs = ([] : List (T e)) ∧ F = []) ∨
    ∃ bl off cap cur et Fs, v = .slice (some ⟨bl, off, none⟩) (List.length xs) cap ∧ w.heap[bl]? = some (.cells cur et (0, 0)) ∧
      List.length xs ≤ cap ∧ cap ≤ maxN ∧ off + cap * e.size ≤ cur.size ∧ F = bl :: List.flatten Fs ∧ El w O dq e xs (seg cur off (List.length xs * e.size)) Fs)

theorem elt_seg {cur : Array Value} {off n i size : Nat} (hi : i < n) : elt (seg cur off (n * size)) i size = seg cur (off + i * size) size := by
  unfold elt
  refine seg_seg _ _ _ _ _ ?_
  have : (i + 1) * size ≤ n * size := Nat.mul_le_mul_right _ hi
  rw [Nat.succ_mul] at this
  exact this

theorem flatten_nils {Fs : List (List Nat)} (h : ∀ i, i < Fs.length → Fs.getD i [] = []) : Fs.flatten = [] := by
  rw [List.flatten_eq_nil_iff]
  intro l hl'
  obtain ⟨i, hi, rfl⟩ := List.mem_iff_getElem.1 hl'
  have := h i hi
  simpa [List.getD, hi] using this

theorem rowV_iff {w : World} {O : Nat → Prop} {hp : Nat → Option Blk} {σ : Nat → Value} {id : Nat} {dq : Bool} {e : Ty} {xs : List (T e)} {F : List Nat} :
    BlkRep w O hp σ id (.row e dq xs) F ↔ RowV w O dq e xs (σ id) F := by
  cases dq with
  | true =>
    simp only [BlkRep, Own, RowV]
    constructor
    · rintro ⟨hm, ⟨h1, h2, h3⟩ | ⟨bl, off, cap, cur, et, Fs, h1, hh, h2, h3, h4, hF, hl, hv⟩⟩
      · simp only [List.cons.injEq, and_true] at h1
        exact ⟨hm, .inl ⟨h1, h2, h3⟩⟩
      · simp only [List.cons.injEq, and_true] at h1
        have := Nat.mul_le_mul_right e.size h2
        refine ⟨hm, .inr ⟨bl, off, cap, cur, et, Fs, h1, hh, h2, h3, h4, hF, ⟨seg_length (by omega), hl, fun i hi => ?_⟩⟩⟩
        rw [if_pos rfl, elt_seg hi]
        exact hv i hi
    · rintro ⟨hm, ⟨h1, h2, h3⟩ | ⟨bl, off, cap, cur, et, Fs, h1, hh, h2, h3, h4, hF, hel⟩⟩
      · exact ⟨hm, .inl ⟨by rw [h1], h2, h3⟩⟩
      · refine ⟨hm, .inr ⟨bl, off, cap, cur, et, Fs, by rw [h1], hh, h2, h3, h4, hF, hel.flen, fun i hi => ?_⟩⟩
        have := hel.el i hi
        rw [if_pos rfl, elt_seg hi] at this
        exact this
  | false =>
    simp only [BlkRep, RowV]
    constructor
    · rintro ⟨hm, ⟨h1, h2, h3⟩ | ⟨bl, off, cap, cur, et, h1, hh, h2, h3, h4, hF, hv⟩⟩
      · exact ⟨hm, .inl ⟨h1, h2, h3⟩⟩
      · have := Nat.mul_le_mul_right e.size h2
        refine ⟨hm, .inr ⟨bl, off, cap, cur, et, List.replicate (List.length xs) [], h1, hh, h2, h3, h4, by rw [hF]; simp, ⟨seg_length (by omega), by simp, fun i hi => ?_⟩⟩⟩
        rw [if_neg (by simp), elt_seg hi]
        exact ⟨hv i hi, by simp [List.getD, hi]⟩
    · rintro ⟨hm, ⟨h1, h2, h3⟩ | ⟨bl, off, cap, cur, et, Fs, h1, hh, h2, h3, h4, hF, hel⟩⟩
      · exact ⟨hm, .inl ⟨h1, h2, h3⟩⟩
      · refine ⟨hm, .inr ⟨bl, off, cap, cur, et, h1, hh, h2, h3, h4, ?_, fun i hi => ?_⟩⟩
        · rw [hF, flatten_nils]
          intro i hi
          have := hel.el i (by rw [← hel.flen]; exact hi)
          rw [if_neg (by simp)] at this
          exact this.2
        · have := hel.el i hi
          rw [if_neg (by simp), elt_seg hi] at this
          exact this.1

theorem El.stable {w w' : World} {O O' : Nat → Prop} {dq : Bool} {e : Ty} {xs : List (T e)} {L : List Value} {Fs : List (List Nat)} (h : El w O dq e xs L Fs)
    (hv : ∀ b, ¬ O b → b < w.heap.size → w'.heap[b]? = w.heap[b]?) (hO : ∀ b, b < w.heap.size → ¬ O b → ¬ O' b) (hF : ∀ b, b ∈ Fs.flatten → w'.heap[b]? = w.heap[b]?) :
    El w' O' dq e xs L Fs := by
  refine ⟨h.len, h.flen, fun i hi => ?_⟩
  have := h.el i hi
  cases dq with
  | true =>
    simp only [if_true] at this ⊢
    exact this.stable fun b hb => hF b (mem_flatten_getD hb)
  | false =>
    simp only [Bool.false_eq_true, if_false] at this ⊢
    exact ⟨View.stable hv hO this.1, this.2⟩

theorem elt_append_left {L L' : List Value} {i size : Nat} (h : (i + 1) * size ≤ L.length) : elt (L ++ L') i size = elt L i size := by
  rw [Nat.succ_mul] at h
  unfold elt
  rw [List.drop_append_of_le_length (by omega), List.take_append_of_le_length (by simp; omega)]

theorem elt_append_right {L L' : List Value} {n j size : Nat} (h : L.length = n * size) : elt (L ++ L') (n + j) size = elt L' j size := by
  unfold elt
  rw [Nat.add_mul, ← h, List.drop_append, List.drop_eq_nil_of_le (by omega)]
  simp

theorem El.append {w : World} {O : Nat → Prop} {dq : Bool} {e : Ty} {xs ys : List (T e)} {L L' : List Value} {Fs Gs : List (List Nat)} (h : El w O dq e xs L Fs) (h' : El w O dq e ys L' Gs) :
    El w O dq e (List.append xs ys) (L ++ L') (Fs ++ Gs) := by
  have ha : List.append xs ys = xs ++ ys := rfl
  refine ⟨by rw [ha, List.length_append, List.length_append, h.len, h'.len, Nat.add_mul], by rw [ha, List.length_append, List.length_append, h.flen, h'.flen], fun i hi => ?_⟩
  have hi' : i < List.length xs + List.length ys := by rw [ha, List.length_append] at hi; exact hi
  rcases Nat.lt_or_ge i (List.length xs) with hl | hg
  · have h1 : List.get (List.append xs ys) ⟨i, hi⟩ = List.get xs ⟨i, hl⟩ := by
      show (xs ++ ys)[i] = xs[i]
      exact List.getElem_append_left hl
    have h2 : (Fs ++ Gs).getD i [] = Fs.getD i [] := by
      have : i < Fs.length := by rw [h.flen]; exact hl
      simp [List.getD, List.getElem?_append_left this]
    rw [h1, h2, elt_append_left (by rw [h.len]; exact Nat.mul_le_mul_right _ hl)]
    exact h.el i hl
  · obtain ⟨j, rfl⟩ := Nat.exists_eq_add_of_le hg
    have hj : j < List.length ys := by omega
    have h1 : List.get (List.append xs ys) ⟨List.length xs + j, hi⟩ = List.get ys ⟨j, hj⟩ := by
      show (xs ++ ys)[List.length xs + j] = ys[j]
      rw [List.getElem_append_right (by omega)]
      congr 1; omega
    have h2 : (Fs ++ Gs).getD (List.length xs + j) [] = Gs.getD j [] := by
      rw [← h.flen]
      simp [List.getD, List.getElem?_append_right]
    rw [h1, h2, elt_append_right h.len]
    exact h'.el j hj

theorem El.nil {w : World} {O : Nat → Prop} {dq : Bool} {e : Ty} : El w O dq e ([] : List (T e)) [] [] :=
  ⟨by simp, rfl, fun i h => absurd h (by simp)⟩

section
variable {P : Program} {w : World}

theorem run_append_room' (t tx ty et : TypeId) (i : TypeInfo) (ht : P.underlying t = some (.slice et)) (hi : P.info? et = some i) {b off sLen sCap : Nat} {x : Value} {n : Nat} {news : List Value} (hs : Src P i.size tx x n news w)
    {cur : Array Value} {ct : TypeId} (hh : w.heap[b]? = some (.cells cur ct (0, 0))) (hroom : sLen + n ≤ sCap) (hfit : off + sLen * i.size + news.length ≤ cur.size) :
    (Builtin.append_ #[t, tx] ty #[.slice (some ⟨b, off, none⟩) sLen sCap, x]).run P w = .ok (.slice (some ⟨b, off, none⟩) (sLen + n) sCap) (w.setRow b (splice cur.toList (off + sLen * i.size) news).toArray) := by
  have hst := run_storeCells_at P b (off + sLen * i.size) ct news 0 cur w hh (by simpa using hfit) hs.one
  simp only [Nat.add_zero] at hst
  rcases hs.kind with ⟨e', hk⟩ | hk <;> simp [Builtin.append_, run_underlying ht, run_underlying hk, Go.sizeOf, typeInfo, hi, hs.len, hroom, hs.cells, Addr.add_lit, hst, splice]

theorem seg_splice_end {cur : Array Value} {off n : Nat} {news : List Value} (h : off + n + news.length ≤ cur.size) :
    seg (splice cur.toList (off + n) news).toArray off (n + news.length) = seg cur off n ++ news := by
  have hs : (splice cur.toList (off + n) news).length = cur.size := by rw [splice_length (by simpa using h)]; simp
  apply List.ext_getElem?
  intro j
  by_cases hj : j < n + news.length
  · rw [seg_getElem? _ _ _ _ hj, List.getElem?_toArray, splice_get (by simpa using h)]
    by_cases hn : j < n
    · rw [if_pos (by omega), List.getElem?_append_left (by rw [seg_length (by omega)]; exact hn), seg_getElem? _ _ _ _ hn]; simp
    · rw [if_neg (by omega), if_pos (by omega), List.getElem?_append_right (by rw [seg_length (by omega)]; omega), seg_length (by omega)]
      congr 1; omega
  · rw [List.getElem?_eq_none (by rw [seg_length (by simp only [List.size_toArray, hs]; omega)]; omega), List.getElem?_eq_none (by rw [List.length_append, seg_length (by omega)]; omega)]

theorem append_core {e : Ty} {t tx ty et : TypeId} (ht : P.underlying t = some (.slice et)) (hte : tokB P e et = true) {O : Nat → Prop} {dq : Bool} {xs ys : List (T e)} {v x : Value} {F : List Nat}
    (hx : RowV w O dq e xs v F) {news : List Value} {Gs : List (List Nat)} (hs : Src P e.size tx x (List.length ys) news w) (hy : El w O dq e ys news Gs) (hn : (F ++ Gs.flatten).Nodup)
    (hlim : List.length xs + List.length ys ≤ lim) (hFO : ∀ c, c ∈ F → O c) (hGO : ∀ c, c ∈ Gs.flatten → c < w.heap.size) :
    ∃ v' w' F', (Builtin.append_ #[t, tx] ty #[v, x]).run P w = .ok v' w' ∧ v'.oneCell' = true ∧ w.heap.size ≤ w'.heap.size ∧ (∀ c, c < w.heap.size → c ∉ F → w'.heap[c]? = w.heap[c]?) ∧
      w'.os = w.os ∧ w'.tape = w.tape ∧ w'.output = w.output ∧ F'.Nodup ∧ (∀ c, c ∈ F' → w.heap.size ≤ c ∨ c ∈ F ∨ c ∈ Gs.flatten) ∧
      (∀ O', (∀ b, b < w.heap.size → ¬ O b → ¬ O' b) → RowV w' O' dq e (List.append xs ys) v' F') := by
  obtain ⟨i, hi, hsz, hby, hz⟩ := Tok.size hte
  have hal : List.length (List.append xs ys) = List.length xs + List.length ys := by show (xs ++ ys).length = _; simp
  have hs' : Src P i.size tx x (List.length ys) news w := by rw [hsz]; exact hs
  have hzs : (vof e e.zc).cells.size = e.size := by
    have := zc_cells e
    rw [← Array.length_toList, this, zc_length]
  have hmaxl : maxLen = 9223372036854775807 := rfl
  have hmaxn : maxN = 9223372036854775807 := rfl
  have hlim' : List.length xs + List.length ys ≤ 1073741824 := hlim
  have hbytes : (List.length xs + List.length ys) * i.bytes ≤ 140737488355328 := by
    have := Nat.mul_le_mul hlim' hby
    omega
  -- the end of the ways that lay a new row
  have grow : ∀ (base : Option Addr) (cap : Nat) (olds : List Value) (Fs : List (List Nat)), v = .slice base (List.length xs) cap → cap < List.length xs + List.length ys →
      (Builtin.firstCells i.size (List.length xs) (.slice base (List.length xs) cap)).run P w.drew = .ok olds.toArray w.drew → El w O dq e xs olds Fs → (∀ c, c ∈ Fs.flatten → c ∈ F) → (Fs.flatten ++ Gs.flatten).Nodup →
      (∀ c, c ∈ Fs.flatten → c < w.heap.size) →
      ∃ v' w' F', (Builtin.append_ #[t, tx] ty #[v, x]).run P w = .ok v' w' ∧ v'.oneCell' = true ∧ w.heap.size ≤ w'.heap.size ∧ (∀ c, c < w.heap.size → c ∉ F → w'.heap[c]? = w.heap[c]?) ∧
      w'.os = w.os ∧ w'.tape = w.tape ∧ w'.output = w.output ∧ F'.Nodup ∧ (∀ c, c ∈ F' → w.heap.size ≤ c ∨ c ∈ F ∨ c ∈ Gs.flatten) ∧
      (∀ O', (∀ b, b < w.heap.size → ¬ O b → ¬ O' b) → RowV w' O' dq e (List.append xs ys) v' F') := by
    intro base cap olds Fs hv hg hold hel hsub hnd hlt
    have hr := run_append_grow_src (P := P) w t tx ty et i _ ht hi hz base (List.length xs) cap olds hold x (List.length ys) news hs' hg (by omega) (growslice_fits hg hbytes)
    have hge := grownCap_ge w (List.length xs + List.length ys) cap et
    have hle := grownCap_le_maxLen w (List.length xs + List.length ys) cap et (by omega)
    have hold' : ∀ b, b < w.heap.size → (w.drew.alloc (.cells ((olds ++ news).toArray ++ Builtin.zeroCells (vof e e.zc).cells (grownCap w (List.length xs + List.length ys) cap et - (List.length xs + List.length ys))) et)).heap[b]? = w.heap[b]? :=
      fun b hb => heap_alloc_lt w.drew _ b hb
    refine ⟨_, _, w.heap.size :: (Fs ++ Gs).flatten, by rw [hv]; exact hr, rfl, by simp, fun c hc _ => hold' c hc, rfl, rfl, rfl, ?_, ?_, ?_⟩
    · rw [List.nodup_cons, List.flatten_append]
      refine ⟨fun hm => ?_, hnd⟩
      rcases List.mem_append.1 hm with hm | hm
      · exact absurd (hlt _ hm) (by omega)
      · exact absurd (hGO _ hm) (by omega)
    · intro c hc
      rw [List.flatten_append] at hc
      rcases List.mem_cons.1 hc with rfl | hc
      · exact .inl (Nat.le_refl _)
      · rcases List.mem_append.1 hc with hc | hc
        · exact .inr (.inl (hsub c hc))
        · exact .inr (.inr hc)
    · intro O' hO'
      have happ := (hel.append hy).stable (w' := w.drew.alloc (.cells ((olds ++ news).toArray ++ Builtin.zeroCells (vof e e.zc).cells (grownCap w (List.length xs + List.length ys) cap et - (List.length xs + List.length ys))) et)) (O' := O')
        (fun b _ hb => hold' b hb) hO' (by
          intro b hb
          rw [List.flatten_append] at hb
          rcases List.mem_append.1 hb with hb | hb
          · exact hold' b (hlt b hb)
          · exact hold' b (hGO b hb))
      have hol : (olds ++ news).length = List.length (List.append xs ys) * e.size := (hel.append hy).len
      refine ⟨by rw [hal]; omega, .inr ⟨w.heap.size, 0, _, _, et, Fs ++ Gs, by rw [hal], heap_alloc_new w.drew _, by rw [hal]; exact hge, by omega, ?_, rfl, ?_⟩⟩
      · simp only [Array.size_append, List.size_toArray, size_zeroCells, hzs, hol, hal, ← Nat.add_mul, Nat.zero_add]
        exact Nat.mul_le_mul_right _ (by omega)
      · have : seg ((olds ++ news).toArray ++ Builtin.zeroCells (vof e e.zc).cells (grownCap w (List.length xs + List.length ys) cap et - (List.length xs + List.length ys))) 0 (List.length (List.append xs ys) * e.size) = olds ++ news := by
          simp only [seg, List.drop_zero, Array.toList_append]
          rw [← hol]
          exact List.take_left
        rw [this]
        exact happ
  obtain ⟨hm, ⟨h1, h2, h3⟩ | ⟨bl, off, cap, cur, ct, Fs, h1, hh, h2, h3, h4, hF, hel⟩⟩ := hx
  · subst h2
    by_cases hm0 : List.length ys = 0
    · have hy0 : ys = ([] : List (T e)) := List.eq_nil_of_length_eq_zero hm0
      subst hy0
      have hnews : news = [] := List.eq_nil_of_length_eq_zero (by rw [hs.newsLen]; simp)
      subst hnews
      have hr := run_append_nothing (P := P) w t tx ty et i ht hi none 0 0 (Nat.le_refl _) x hs'
      refine ⟨_, w, [], by rw [h1]; exact hr, rfl, Nat.le_refl _, fun _ _ _ => rfl, rfl, rfl, rfl, List.nodup_nil, by simp, fun O' _ => ⟨by simp, .inl ⟨rfl, rfl, rfl⟩⟩⟩
    · refine grow none 0 [] [] (by rw [h1]; rfl) (by simp; omega) ?_ El.nil (by simp) (by simpa [h3] using hn) (by simp)
      simpa using run_firstCells_none (P := P) w.drew i.size 0 0 0
  · have hcap := Nat.mul_le_mul_right e.size h2
    by_cases hroom : List.length xs + List.length ys ≤ cap
    · have hcap2 := Nat.mul_le_mul_right e.size hroom
      rw [Nat.add_mul] at hcap2
      have hnl := hs.newsLen
      have hr := run_append_room' (P := P) (w := w) (b := bl) (off := off) (sLen := List.length xs) (sCap := cap) t tx ty et i ht hi hs' hh hroom (by rw [hsz]; omega)
      rw [hsz] at hr
      have hbF : bl ∉ Fs.flatten ∧ bl ∉ Gs.flatten := by
        rw [hF] at hn
        simp only [List.cons_append, List.nodup_cons, List.mem_append, not_or] at hn
        exact hn.1
      have hblO : O bl := hFO bl (by rw [hF]; simp)
      have hoth : ∀ c, c ≠ bl → (w.setRow bl (splice cur.toList (off + List.length xs * e.size) news).toArray).heap[c]? = w.heap[c]? := fun c hc => setRow_other w bl c _ hc
      refine ⟨_, _, bl :: (Fs ++ Gs).flatten, by rw [h1]; exact hr, rfl, by simp, fun c _ hc => hoth c fun e => hc (by rw [hF, e]; simp), rfl, rfl, rfl, ?_, ?_, ?_⟩
      · rw [hF] at hn
        rw [List.flatten_append]
        simpa using hn
      · intro c hc
        rw [List.flatten_append] at hc
        rw [hF]
        simp only [List.mem_cons, List.mem_append] at hc ⊢
        grind
      · intro O' hO'
        have happ := (hel.append hy).stable (w' := w.setRow bl (splice cur.toList (off + List.length xs * e.size) news).toArray) (O' := O')
          (fun b hb _ => hoth b fun e => hb (e ▸ hblO)) hO' (by
            intro b hb
            rw [List.flatten_append] at hb
            exact hoth b fun e => by
              subst e
              rcases List.mem_append.1 hb with hb | hb
              · exact hbF.1 hb
              · exact hbF.2 hb)
        refine ⟨by rw [hal]; omega, .inr ⟨bl, off, cap, _, ct, Fs ++ Gs, by rw [hal], setRow_heap w bl cur _ ct (0, 0) hh, by rw [hal]; exact hroom, h3, ?_, rfl, ?_⟩⟩
        · have hcl : cur.toList.length = cur.size := Array.length_toList
          have hsl := splice_length (cs := cur.toList) (ce := news) (o := off + List.length xs * e.size) (by omega)
          rw [List.size_toArray, hsl, hcl]
          exact h4
        · rw [hal, Nat.add_mul, ← hnl, seg_splice_end (by omega)]
          exact happ
    · refine grow (some ⟨bl, off, none⟩) cap (seg cur off (List.length xs * e.size)) Fs h1 (by omega) ?_ hel (fun c hc => by rw [hF]; exact List.mem_cons_of_mem _ hc) ?_ ?_
      · refine run_firstCells_some (P := P) w.drew i.size (List.length xs) ⟨bl, off, none⟩ (List.length xs) cap _ (by rw [hsz]; exact seg_length (by omega)) ?_
        intro j u hu
        rw [add_mk]
        show w.cell? _ = _
        rw [cell_of_row w bl (off + j) cur ct (0, 0) hh]
        have hj : j < List.length xs * e.size := by
          have := (List.getElem?_eq_some_iff.1 hu).1
          rwa [seg_length (by omega)] at this
        rwa [seg_getElem? _ _ _ _ hj] at hu
      · rw [hF] at hn
        exact (List.nodup_cons.1 (by simpa using hn)).2
      · intro c hc
        obtain ⟨i', hi', hm'⟩ := flatten_getD_of_mem hc
        have := hel.el i' (by rw [← hel.flen]; exact hi')
        cases dq with
        | true =>
          simp only [if_true] at this
          exact this.lt c hm'
        | false =>
          simp only [Bool.false_eq_true, if_false] at this
          rw [this.2] at hm'
          simp at hm'
end
end KF

namespace KF
open Go

theorem elt_getElem? {L : List Value} {i size j : Nat} (hj : j < size) : (elt L i size)[j]? = L[i * size + j]? := by
  simp [elt, hj]

theorem El.one {w : World} {O : Nat → Prop} {dq : Bool} {e : Ty} {xs : List (T e)} {L : List Value} {Fs : List (List Nat)} (h : El w O dq e xs L Fs) : ∀ v ∈ L, v.oneCell' = true := by
  intro v hv
  obtain ⟨p, hp, hpv⟩ := List.mem_iff_getElem.1 hv
  have hlen := h.len
  rcases Nat.eq_zero_or_pos e.size with h0 | h0
  · rw [h0, Nat.mul_zero] at hlen
    omega
  · have hi : p / e.size < List.length xs := by
      rw [Nat.div_lt_iff_lt_mul h0]
      omega
    have hdm : p / e.size * e.size + p % e.size = p := Nat.div_add_mod' p e.size
    have hm : (elt L (p / e.size) e.size)[p % e.size]? = some v := by
      rw [elt_getElem? (Nat.mod_lt _ h0), hdm, List.getElem?_eq_getElem hp, hpv]
    have hmem : v ∈ elt L (p / e.size) e.size := List.mem_of_getElem? hm
    have := h.el _ hi
    cases dq with
    | true =>
      simp only [if_true] at this
      exact this.one v hmem
    | false =>
      simp only [Bool.false_eq_true, if_false] at this
      exact this.1.one v hmem

theorem RowV.up {w : World} {O : Nat → Prop} {dp : Bool} {e : Ty} {xs : List (T e)} {v : Value} {F : List Nat} (h : RowV w O dp e xs v F) : RowV w O (dp || e.flat) e xs v F := by
  cases dp with
  | true => exact h
  | false =>
    cases hf : e.flat with
    | false => exact h
    | true =>
      obtain ⟨hm, h | ⟨bl, off, cap, cur, et, Fs, h1, hh, h2, h3, h4, hF, hel⟩⟩ := h
      · exact ⟨hm, .inl h⟩
      · refine ⟨hm, .inr ⟨bl, off, cap, cur, et, Fs, h1, hh, h2, h3, h4, hF, hel.len, hel.flen, fun i hi => ?_⟩⟩
        have := hel.el i hi
        simp only [Bool.false_eq_true, if_false] at this
        simp only [Bool.false_or, if_true]
        rw [this.2]
        exact this.1.flat hf

theorem sublist_flatten {L M : List (List Nat)} (h : L.Sublist M) : L.flatten.Sublist M.flatten := by
  induction h with
  | slnil => simp
  | cons a _ ih => rw [List.flatten_cons]; exact ih.trans (List.sublist_append_right _ _)
  | cons_cons a _ ih => rw [List.flatten_cons, List.flatten_cons]; exact (List.Sublist.refl a).append ih

theorem El.nils {w : World} {O : Nat → Prop} {e : Ty} {xs : List (T e)} {L : List Value} {Fs : List (List Nat)} (h : El w O e.flat e xs L Fs) : Fs.flatten = [] :=
  flatten_nils fun i hi => by
    have := h.el i (by rw [← h.flen]; exact hi)
    split at this
    · rename_i hfl; exact own_flat hfl this
    · exact this.2

theorem El.cut {w : World} {O : Nat → Prop} {dq : Bool} {e : Ty} {xs : List (T e)} {L : List Value} {Fs : List (List Nat)} (h : El w O dq e xs L Fs) {lo hi : Nat} (hlo : lo ≤ hi) (hhi : hi ≤ List.length xs) :
    El w O dq e (cutl xs lo hi) ((L.drop (lo * e.size)).take ((hi - lo) * e.size)) ((Fs.drop lo).take (hi - lo)) := by
  have hlen : List.length (cutl xs lo hi) = hi - lo := cutl_length (xs := (xs : List (T e))) (lo := lo) hhi
  have hmul : (lo + (hi - lo)) * e.size ≤ List.length xs * e.size := Nat.mul_le_mul_right _ (by omega)
  rw [Nat.add_mul] at hmul
  refine ⟨?_, ?_, fun i hi' => ?_⟩
  · rw [List.length_take, List.length_drop, h.len, hlen]; omega
  · rw [List.length_take, List.length_drop, h.flen, hlen]; omega
  · have hi2 : i < hi - lo := by rw [← hlen]; exact hi'
    have h2 : lo + i < List.length xs := by omega
    have := h.el (lo + i) h2
    rw [cutl_get (xs := (xs : List (T e))) hi' h2]
    have hg : ((Fs.drop lo).take (hi - lo)).getD i [] = Fs.getD (lo + i) [] := by
      simp [List.getD, hi2]
    have he : elt ((L.drop (lo * e.size)).take ((hi - lo) * e.size)) i e.size = elt L (lo + i) e.size := by
      unfold elt
      have h3 : (i + 1) * e.size ≤ (hi - lo) * e.size := Nat.mul_le_mul_right _ hi2
      rw [Nat.succ_mul] at h3
      rw [List.drop_take, List.take_take, List.drop_drop, Nat.add_mul]
      congr 1
      omega
    rw [hg, he]
    exact this

theorem RowV.slice {w : World} {O : Nat → Prop} {dp : Bool} {e : Ty} {xs : List (T e)} {v : Value} {F : List Nat} (h : RowV w O dp e xs v F) : ∃ ad cap, v = .slice ad (List.length xs) cap ∧ List.length xs ≤ cap := by
  obtain ⟨hm, ⟨h1, h2, h3⟩ | ⟨bl, off, cap, cur, et, Fs, h1, hh, h2, _⟩⟩ := h
  · subst h2; exact ⟨none, 0, h1, Nat.le_refl _⟩
  · exact ⟨_, cap, h1, h2⟩

theorem RowV.addr {w : World} {O : Nat → Prop} {dp : Bool} {e : Ty} {xs : List (T e)} {v : Value} {F : List Nat} (h : RowV w O dp e xs v F) {ad : Addr} {n cap : Nat} (hv : v = .slice (some ad) n cap) : ∃ b off, ad = ⟨b, off, none⟩ := by
  obtain ⟨hm, ⟨h1, h2, h3⟩ | ⟨bl, off, cap, cur, et, Fs, h1, hh, h2, _⟩⟩ := h
  · rw [hv] at h1; simp at h1
  · rw [hv] at h1
    simp only [Value.slice.injEq, Option.some.injEq] at h1
    exact ⟨bl, off, h1.1⟩

theorem RowV.cut {w : World} {O : Nat → Prop} {dp : Bool} {e : Ty} {xs : List (T e)} {v : Value} {F : List Nat} (h : RowV w O dp e xs v F) {ad : Option Addr} {n cap lo hi j : Nat} (hv : v = .slice ad n cap) (hlo : lo ≤ hi) (hhi : hi ≤ List.length xs)
    (hj1 : j ≤ lo) (hj2 : lo < cap → j = lo) :
    ∃ F', F'.Sublist F ∧ (F.length ≤ 1 → F' = F) ∧ RowV w O dp e (cutl xs lo hi) (.slice (ad.map (·.add (j * e.size))) (hi - lo) (cap - lo)) F' := by
  have hlen : List.length (cutl xs lo hi) = hi - lo := cutl_length (xs := (xs : List (T e))) (lo := lo) hhi
  obtain ⟨hm, ⟨h1, h2, h3⟩ | ⟨bl, off, cap', cur, et, Fs, h1, hh, h2, h3, h4, hF, hel⟩⟩ := h
  · subst h2
    rw [hv] at h1
    simp only [Value.slice.injEq] at h1
    obtain ⟨rfl, rfl, rfl⟩ := h1
    simp at hhi
    obtain rfl : lo = 0 := by omega
    subst hhi
    exact ⟨[], by simp, fun _ => h3.symm, by simp [cutl], .inl ⟨by simp, by simp [cutl], rfl⟩⟩
  · rw [hv] at h1
    simp only [Value.slice.injEq] at h1
    obtain ⟨rfl, rfl, rfl⟩ := h1
    have hcap := Nat.mul_le_mul_right e.size h2
    have hjc : j * e.size ≤ cap * e.size := Nat.mul_le_mul_right _ (by omega)
    have hmul : (lo + (hi - lo)) * e.size ≤ List.length xs * e.size := Nat.mul_le_mul_right _ (by omega)
    rw [Nat.add_mul] at hmul
    have hsl : ((Fs.drop lo).take (hi - lo)).flatten.Sublist Fs.flatten := sublist_flatten ((List.take_sublist _ _).trans (List.drop_sublist _ _))
    refine ⟨bl :: ((Fs.drop lo).take (hi - lo)).flatten, ?_, ?_, by rw [hlen]; omega, .inr ⟨bl, off + j * e.size, cap - lo, cur, et, _, ?_, hh, by rw [hlen]; omega, by omega, ?_, rfl, ?_⟩⟩
    · rw [hF]
      exact hsl.cons_cons _
    · intro h1
      rw [hF] at h1 ⊢
      simp only [List.length_cons] at h1
      have h2 : Fs.flatten = [] := List.eq_nil_of_length_eq_zero (by omega)
      rw [h2] at hsl ⊢
      rw [List.eq_nil_of_sublist_nil hsl]
    · rw [hlen]; simp [add_mk]
    · have : (j + (cap - lo)) * e.size ≤ cap * e.size := Nat.mul_le_mul_right _ (by omega)
      rw [Nat.add_mul] at this
      omega
    · have hc := hel.cut hlo hhi
      rw [hlen]
      rcases Nat.lt_or_ge lo cap with hl | hl
      · obtain rfl := hj2 hl
        rw [seg_seg _ _ _ _ _ hmul] at hc
        exact hc
      · have h0 : hi - lo = 0 := by omega
        have hx0 : cutl xs lo hi = ([] : List (T e)) := List.eq_nil_of_length_eq_zero (hlen.trans h0)
        rw [h0] at hc ⊢
        simpa [seg] using hc

theorem RowV.flatup {w : World} {O : Nat → Prop} {dp : Bool} {e : Ty} {xs : List (T e)} {v : Value} {F : List Nat} (h : RowV w O dp e xs v F) (hf : e.flat = true ∨ dp = false) : RowV w O e.flat e xs v F := by
  cases hfl : e.flat with
  | true => have := h.up; rw [hfl, Bool.or_true] at this; exact this
  | false =>
    rcases hf with h1 | h1
    · rw [hfl] at h1; simp at h1
    · rw [h1] at h; exact h

theorem RowV.len1 {w : World} {O : Nat → Prop} {e : Ty} {xs : List (T e)} {v : Value} {F : List Nat} (h : RowV w O e.flat e xs v F) : F.length ≤ 1 := by
  obtain ⟨hm, ⟨_, _, h3⟩ | ⟨bl, off, cap, cur, et, Fs, h1, hh, h2, h3, h4, hF, hel⟩⟩ := h
  · rw [h3]; simp
  · have : Fs.flatten = [] := hel.nils
    rw [hF, this]; simp

theorem RowV.stable {w w' : World} {O O' : Nat → Prop} {dp : Bool} {e : Ty} {xs : List (T e)} {v : Value} {F : List Nat} (h : RowV w O dp e xs v F)
    (hv : ∀ b, ¬ O b → b < w.heap.size → w'.heap[b]? = w.heap[b]?) (hO : ∀ b, b < w.heap.size → ¬ O b → ¬ O' b) (hF : ∀ b, b ∈ F → w'.heap[b]? = w.heap[b]?) : RowV w' O' dp e xs v F := by
  obtain ⟨hm, h | ⟨bl, off, cap, cur, et, Fs, h1, hh, h2, h3, h4, hF', hel⟩⟩ := h
  · exact ⟨hm, .inl h⟩
  · subst hF'
    exact ⟨hm, .inr ⟨bl, off, cap, cur, et, Fs, h1, (hF bl (by simp)).trans hh, h2, h3, h4, rfl, hel.stable hv hO fun b hb => hF b (List.mem_cons_of_mem _ hb)⟩⟩

section
variable {P : Program} {Out : Type} {n0 : Nat} {A : Fx} {O0 : Nat → Prop} {w0 w w' : World} {s : AS} {σ σ' : Nat → Value} {φ φ' : Nat → List Nat} {a : Act}
variable {o : Oper} {Q : Exit → Act → World → Prop} {k : AS → Option Out} {out : Out} {d : D} {v : Value} {upd : List (Nat × Option Blk)} {dst : Option Tmp} {G : Env}

theorem src_nil {size : Nat} {tx : TypeId} (hk : (∃ e', P.underlying tx = some (.slice e')) ∨ P.underlying tx = some .string) (cap : Nat) : Src P size tx (.slice none 0 cap) 0 [] w :=
  ⟨hk, fun _ => rfl, run_firstCells_none w size 0 0 cap, run_firstCells_none w.drew size 0 0 cap, by simp, fun _ h => by cases h⟩

theorem src_some {size : Nat} {tx : TypeId} (hk : (∃ e', P.underlying tx = some (.slice e')) ∨ P.underlying tx = some .string) (ad : Addr) (n cap : Nat) (news : List Value) (hl : news.length = n * size)
    (hnews : ∀ j u, news[j]? = some u → w.cell? (ad.add j) = some u) (h1 : ∀ u ∈ news, u.oneCell' = true) : Src P size tx (.slice (some ad) n cap) n news w :=
  ⟨hk, fun _ => rfl, run_firstCells_some w size n ad n cap news hl hnews, run_firstCells_some w.drew size n ad n cap news hl (by simpa using hnews), hl, h1⟩

theorem seg_cells {bl off n : Nat} {cur : Array Value} {et : TypeId} {fr : Nat × Nat} (hh : w.heap[bl]? = some (.cells cur et fr)) (hs : off + n ≤ cur.size) :
    ∀ j u, (seg cur off n)[j]? = some u → w.cell? ((⟨bl, off, none⟩ : Addr).add j) = some u := by
  intro j u hu
  rw [add_mk, cell_of_row w bl (off + j) cur et fr hh]
  have hj : j < n := by
    have := (List.getElem?_eq_some_iff.1 hu).1
    rwa [seg_length hs] at this
  rwa [seg_getElem? _ _ _ _ hj] at hu

theorem src_row {e : Ty} {O : Nat → Prop} {dq : Bool} {ys : List (T e)} {F : List Nat} {tx : TypeId} (hk : (∃ e', P.underlying tx = some (.slice e')) ∨ P.underlying tx = some .string) (h : RowV w O dq e ys v F) :
    ∃ news Gs, Src P e.size tx v (List.length ys) news w ∧ El w O dq e ys news Gs ∧ Gs.flatten.Sublist F := by
  obtain ⟨hm, ⟨h1, h2, h3⟩ | ⟨bl, off, cap, cur, et, Fs, h1, hh, h2, h3, h4, hF, hel⟩⟩ := h
  · subst h2
    rw [h1]
    exact ⟨[], [], src_nil hk 0, El.nil, by simp⟩
  · have := Nat.mul_le_mul_right e.size h2
    refine ⟨_, Fs, ?_, hel, by rw [hF]; exact List.sublist_cons_self _ _⟩
    rw [h1]
    exact src_some hk _ _ _ _ hel.len (seg_cells hh (by omega)) hel.one

theorem row_heap (h : Conc n0 A O0 w0 s σ φ a w) {id : Nat} {e : Ty} {dp : Bool} {xs : List (T e)} (hb : s.heap id = some (.row e dp xs)) (hv : RepU w (OO O0 s φ) s.heap σ (.own id) v) :
    RowV w (OO O0 s φ) (dp || e.flat) e xs v (φ id) := by
  have := rowV_iff.1 (h.hp id _ hb)
  rw [repU_own] at hv
  rw [hv.2 _ _ hb rfl]
  exact this.up

theorem srcD_ok (h : Conc n0 A O0 w0 s σ φ a w) {e : Ty} {db : D} {ys : List (T e)} {dq : Bool} {m : List Nat} (hs : srcD s e db = some (ys, dq, m)) (hv : RepU w (OO O0 s φ) s.heap σ db v)
    {tx : TypeId} (hk : (∃ e', P.underlying tx = some (.slice e')) ∨ P.underlying tx = some .string) :
    ∃ news Gs, Src P e.size tx v (List.length ys) news w ∧ El w (OO O0 s φ) dq e ys news Gs ∧ Gs.flatten.Sublist (blocks φ m) ∧ ∀ j, j ∈ m → ∃ b, s.heap j = some b := by
  unfold srcD at hs
  split at hs
  · simp only [Option.some.injEq, Prod.mk.injEq] at hs
    obtain ⟨rfl, rfl, rfl⟩ := hs
    rw [repU_nil] at hv
    rw [hv]
    exact ⟨[], [], src_nil hk 0, El.nil, by simp, by simp⟩
  · rename_i e' ys'
    split at hs
    · rename_i q hq
      subst q
      simp only [Option.some.injEq, Prod.mk.injEq] at hs
      obtain ⟨rfl, rfl, rfl⟩ := hs
      rw [repU_sl] at hv
      obtain ⟨ad, cap, hv, hc, hm, hd⟩ := hv
      simp only [List.cons.injEq, and_true] at hv
      rcases hd with hd | ⟨bl, off, cur, et, fr, hd, hO, hh, hsz, hel⟩
      · subst hd
        rw [hv]
        refine ⟨[], [], ?_, El.nil, by simp, by simp⟩
        cases ad with
        | none => exact src_nil hk cap
        | some ad => exact src_some hk ad 0 cap [] (by simp) (by simp) (by simp)
      · have hEl : El w (OO O0 s φ) e'.flat e' ys' (seg cur off (List.length ys' * e'.size)) (List.replicate (List.length ys') []) := by
          refine ⟨seg_length hsz, by simp, fun i hi => ?_⟩
          have hg : (List.replicate (List.length ys') ([] : List Nat)).getD i [] = [] := by simp [List.getD, hi]
          rw [elt_seg hi, hg]
          cases hf : e'.flat with
          | true => exact (hel i hi).flat hf
          | false => simpa using hel i hi
        refine ⟨_, _, ?_, hEl, by simp, by simp⟩
        rw [hv, hd]
        exact src_some hk _ _ _ _ hEl.len (seg_cells hh hsz) hEl.one
    · simp at hs
  · rename_i y
    split at hs
    · rename_i q hq
      subst q
      simp only [Option.some.injEq, Prod.mk.injEq] at hs
      obtain ⟨rfl, rfl, rfl⟩ := hs
      rw [repU_str] at hv
      rw [hv]
      have hbl : List.length (bytesOf y) = (⟨List.toArray y⟩ : ByteArray).size := by simp [bytesOf, ByteArray.size]
      have hEl : El w (OO O0 s φ) true (.i .u8) (bytesOf y) (byteCells ⟨List.toArray y⟩) (List.replicate (List.length (bytesOf y)) []) := by
        refine ⟨by rw [byteCells_length, ← hbl]; simp [Ty.size], by simp, fun i hi => ?_⟩
        have hg : (List.replicate (List.length (bytesOf y)) ([] : List Nat)).getD i [] = [] := by simp [List.getD, hi]
        rw [hg]
        simp only [if_true, Own, and_true]
        apply List.ext_getElem?
        intro j
        cases j with
        | zero =>
          rw [elt_getElem? (by simp [Ty.size])]
          have hi' : i < y.length := by simpa [bytesOf] using hi
          simp [Ty.size, byteCells, bytesOf, hi']
        | succ j => simp [elt, Ty.size]; omega
      refine ⟨byteCells ⟨List.toArray y⟩, _, ⟨hk, fun _ => ?_, ?_, ?_, hEl.len, hEl.one⟩, hEl, by simp, by simp⟩
      · rw [hbl]; rfl
      · rw [hbl]; exact firstCells_string _ _
      · rw [hbl]; exact firstCells_string _ _
    · simp at hs
  · rename_i id
    split at hs
    · rename_i e' dp ys' hb
      split at hs
      · rename_i q hq
        subst q
        simp only [Option.some.injEq, Prod.mk.injEq] at hs
        obtain ⟨rfl, rfl, rfl⟩ := hs
        have hrow := row_heap h hb hv
        obtain ⟨news, Gs, h1, h2, h3⟩ := src_row (P := P) (tx := tx) hk hrow
        refine ⟨news, Gs, h1, h2, ?_, ?_⟩
        · cases hf : e'.flat with
          | false => simpa [blocks] using h3
          | true =>
            have : Gs.flatten = [] := flatten_nils fun i hi => by
              have := h2.el i (by rw [← h2.flen]; exact hi)
              simp only [hf, Bool.or_true, if_true] at this
              exact own_flat hf this
            rw [this]; simp
        · intro j hj
          cases hf : e'.flat with
          | true => rw [hf] at hj; simp at hj
          | false => rw [hf] at hj; simp at hj; subst hj; exact ⟨_, hb⟩
      · simp at hs
    · simp at hs
  · rename_i id lo hi
    split at hs
    · rename_i e' dp ys' hb
      split at hs
      · rename_i q hq
        subst q
        cases hf : (e'.flat || !dp) with
        | false => rw [hf] at hs; simp at hs
        | true =>
          rw [hf] at hs
          simp only [cond_true, Option.some.injEq, Prod.mk.injEq] at hs
          obtain ⟨rfl, rfl, rfl⟩ := hs
          simp only [RepU, RepV, D.isAgg, Bool.false_eq_true, if_false, Rep] at hv
          obtain ⟨u, hu', h1c, hv⟩ := hv
          simp only [List.cons.injEq, and_true] at hu'
          obtain ⟨hlo, hhi, ad, cap, j, hs0, hcap, hj1, hj2, hu2⟩ := hv _ _ _ hb rfl
          have hrow := rowV_iff.1 (h.hp id _ hb)
          obtain ⟨F', hsub, _, hrow'⟩ := hrow.cut hs0 hlo hhi hj1 hj2
          have hrow2 := hrow'.flatup (by simpa using hf)
          rw [← hu2, ← hu'] at hrow2
          obtain ⟨news, Gs, h1, h2, h3⟩ := src_row (P := P) (tx := tx) hk hrow2
          refine ⟨news, Gs, h1, h2, ?_, by simp⟩
          have : Gs.flatten = [] := h2.nils
          rw [this]; simp [blocks]
      · simp at hs
    · simp at hs
  · simp at hs

theorem dstD_ok (h : Conc n0 A O0 w0 s σ φ a w) {e : Ty} {da : D} {xs : List (T e)} {dp : Option Bool} {l : List Nat} (hs : dstD s e da = some (xs, dp, l)) (hv : RepU w (OO O0 s φ) s.heap σ da v)
    {dq : Bool} (hd : dp.getD dq = dq) : RowV w (OO O0 s φ) dq e xs v (blocks φ l) ∧ ∀ j, j ∈ l → ∃ b, s.heap j = some b := by
  unfold dstD at hs
  split at hs
  · simp only [Option.some.injEq, Prod.mk.injEq] at hs
    obtain ⟨rfl, rfl, rfl⟩ := hs
    rw [repU_nil] at hv
    exact ⟨⟨by simp, .inl ⟨hv, rfl, by simp [blocks]⟩⟩, by simp⟩
  · rename_i id
    split at hs
    · rename_i e' dp' ys' hb
      split at hs
      · rename_i q hq
        subst q
        simp only [Option.some.injEq, Prod.mk.injEq] at hs
        obtain ⟨rfl, rfl, rfl⟩ := hs
        simp only [Option.getD_some] at hd
        have hrow := row_heap h hb hv
        rw [hd] at hrow
        refine ⟨by simpa [blocks] using hrow, ?_⟩
        intro j hj
        simp at hj
        subst hj
        exact ⟨_, hb⟩
      · simp at hs
    · simp at hs
  · rename_i id lo hi
    split at hs
    · rename_i e' dp' ys' hb
      split at hs
      · rename_i q hq
        subst q
        cases hf : (e'.flat || !dp') with
        | false => rw [hf] at hs; simp at hs
        | true =>
          rw [hf] at hs
          simp only [cond_true, Option.some.injEq, Prod.mk.injEq] at hs
          obtain ⟨rfl, rfl, rfl⟩ := hs
          simp only [Option.getD_some] at hd
          simp only [RepU, RepV, D.isAgg, Bool.false_eq_true, if_false, Rep] at hv
          obtain ⟨u, hu', h1c, hv⟩ := hv
          simp only [List.cons.injEq, and_true] at hu'
          obtain ⟨hlo, hhi, ad, cap, j, hs0, hcap, hj1, hj2, hu2⟩ := hv _ _ _ hb rfl
          have hrow := rowV_iff.1 (h.hp id _ hb)
          have hrow1 := hrow.flatup (by simpa using hf)
          obtain ⟨F', hsub, hF', hrow'⟩ := hrow1.cut hs0 hlo hhi hj1 hj2
          rw [← hu2, ← hu', hF' hrow1.len1, hd] at hrow'
          refine ⟨by simpa [blocks] using hrow', ?_⟩
          intro j hj
          simp at hj
          subst hj
          exact ⟨_, hb⟩
      · simp at hs
    · simp at hs
  · simp at hs

theorem op_append (hG : EnvTy P G) (h : Conc n0 A O0 w0 s σ φ a w) {args : Array Operand} {ts : Array TypeId} (ho : o.op = .call ⟨.builtin .append, args, ts⟩)
    (he : aop G s o k = some out) : o.wp P a w (Good n0 A O0 w0 k out) Q := by
  simp only [aop, aopK, ho] at he
  split at he
  · rename_i x y t tx hargs hts
    unfold aAppendK at he
    split at he
    · rename_i tt e da db hd hty hx hy
      split at he
      · rename_i xs dp l ys dq m hdst hsrc
        cases hc : ((dp.getD dq == dq) && s.newOk tt && nodupB (l ++ m) && slOrS (aget G.ty tx)) with
        | false => rw [hc] at he; simp at he
        | true =>
          rw [hc] at he
          simp only [cond_true] at he
          simp only [Bool.and_eq_true, beq_iff_eq] at hc
          obtain ⟨⟨⟨hdq, hnew⟩, hnd⟩, hkx⟩ := hc
          have hnd := nodupB_ok hnd
          cases hlim : Nat.ble (List.length xs + List.length ys) lim with
          | false => rw [hlim] at he; simp at he
          | true =>
            rw [hlim] at he
            simp only [cond_true] at he
            have hlim := Nat.le_of_ble_eq_true hlim
            obtain ⟨et, hu, hte⟩ := Tok.sl (hG.ty _ _ hty)
            have hk : (∃ e', P.underlying tx = some (.slice e')) ∨ P.underlying tx = some .string := by
              unfold slOrS at hkx
              split at hkx
              · rename_i e' hq
                obtain ⟨et', hu', _⟩ := Tok.sl (hG.ty _ _ hq)
                exact .inl ⟨et', hu'⟩
              · rename_i hq
                exact .inr (Tok.s (hG.ty _ _ hq))
              · simp at hkx
            obtain ⟨hrow, hl1⟩ := dstD_ok h hdst (h.ev hx) hdq
            obtain ⟨news, Gs, hS, hEl, hsub, hl2⟩ := srcD_ok (P := P) h hsrc (h.ev hy) hk
            have hlive : ∀ j, j ∈ l ++ m → ∃ b, s.heap j = some b := by
              intro j hj
              rcases List.mem_append.1 hj with hj | hj
              · exact hl1 j hj
              · exact hl2 j hj
            have hbn := blocks_nodup h hnd hlive
            rw [blocks_append] at hbn
            obtain ⟨v', w', F', hr, h1, hsz, hbl, hos, htape, hout, hF', hsubF, hres⟩ := append_core (P := P) (t := t) (tx := tx) (ty := o.type) hu hte hrow hS hEl
              (List.Sublist.nodup (List.Sublist.append (List.Sublist.refl _) hsub) hbn) hlim
              (by
                intro c hc
                obtain ⟨j, hj, hm⟩ := mem_blocks.1 hc
                obtain ⟨b, hb⟩ := hl1 j hj
                exact .inr ⟨j, b, hb, hm⟩)
              (by
                intro c hc
                obtain ⟨j, hj, hm⟩ := mem_blocks.1 (hsub.subset hc)
                obtain ⟨b, hb⟩ := hl2 j hj
                exact (h.hp j b hb).lt c hm)
            have hc := h.absorb (w' := w') hnew (l ++ m) hlive (.row e dq (List.append xs ys)) v' F' hsz
              (by
                intro b hb hno
                refine hbl b hb fun hm => ?_
                obtain ⟨j, hj, hm⟩ := mem_blocks.1 hm
                exact hno j (List.mem_append_left _ hj) hm)
              hos htape hout hF'
              (by
                intro b hb
                rcases hsubF b hb with hb | hb | hb
                · exact .inl hb
                · obtain ⟨j, hj, hm⟩ := mem_blocks.1 hb
                  exact .inr ⟨j, List.mem_append_left _ hj, hm⟩
                · obtain ⟨j, hj, hm⟩ := mem_blocks.1 (hsub.subset hb)
                  exact .inr ⟨j, List.mem_append_right _ hj, hm⟩)
              (by
                intro hp' σ' O' hσ hO'
                rw [rowV_iff, hσ]
                exact hres O' hO')
            refine wp_value (w' := w') (v := v') ?_ (fin_good rfl hc ?_ he)
            · have hts' : ts = #[t, tx] := by
                apply Array.ext'
                rw [hts]
              rw [exec_builtin ho hargs, hts']
              simp [builtin, hr]
            · exact repU_own_new (e := e) (dp := dq) (xs := List.append xs ys) h1 (by rw [List.cons_append, heap_absorb, if_pos rfl])
      · simp at he
    · simp at he
  · simp at he
end

section
variable {P : Program} {Out : Type} {n0 : Nat} {A : Fx} {O0 : Nat → Prop} {w0 w w' : World} {s : AS} {σ σ' : Nat → Value} {φ φ' : Nat → List Nat} {a : Act}
variable {o : Oper} {Q : Exit → Act → World → Prop} {k : AS → Option Out} {out : Out} {d : D} {v : Value} {upd : List (Nat × Option Blk)} {dst : Option Tmp} {G : Env}

theorem op_slice (hG : EnvTy P G) (h : Conc n0 A O0 w0 s σ φ a w) {t : TypeId} {x : Operand} {lo hi : Option Operand} (ho : o.op = .slice t x lo hi none)
    (he : aop G s o k = some out) : o.wp P a w (Good n0 A O0 w0 k out) Q := by
  simp only [aop, aopK, ho] at he
  split at he
  · rename_i v hx
    split at he
    · rename_i l m hl hm ht
      cases hc : cutOk (List.length v) l m with
      | false => simp [hc] at he
      | true =>
        simp only [hc, cond_true] at he
        have hv := h.ev hx
        rw [repU_str] at hv
        have hu := Tok.s (hG.ty _ _ ht)
        have hsz : (ByteArray.mk (List.toArray v)).size = List.length v := by simp [ByteArray.size]
        have hb := run_sliceBounds (P := P) (cap := List.length v) h hl hm hc (Nat.le_refl _) false
        have hex : (ByteArray.mk (List.toArray v)).extract l.toNat m.toNat = ⟨List.toArray (cutl v l.toNat m.toNat)⟩ := by
          apply ByteArray.ext
          simp [cutl, List.drop_take]
        refine wp_value (w' := w) (v := .string ⟨List.toArray (cutl v l.toNat m.toNat)⟩) ?_ (fin_pure h (repU_str.2 rfl) he)
        have hr : (Instr.sliceAt t (.string ⟨List.toArray v⟩) (lo.map a.eval) (hi.map a.eval) none).run P w = .ok (.string ⟨List.toArray (cutl v l.toNat m.toNat)⟩) w := by
          simp [Instr.sliceAt, Instr.slice, run_underlying hu, hsz, hb, hex]
        simp [execOp, ho, hv, hr]
    · simp at he
  · rename_i e v hx
    split at he
    · rename_i l m e' hl hm ht
      split at he
      · rename_i q hq
        obtain rfl := dec_eq hq
        cases hc : cutOk (List.length v) l m with
        | false => simp [hc] at he
        | true =>
          simp only [hc, cond_true] at he
          have hv := h.ev hx
          rw [repU_sl] at hv
          obtain ⟨et, hu, hte⟩ := Tok.sl (hG.ty _ _ ht)
          obtain ⟨ad, cap, hcs, hcap, hmx, hcase⟩ := hv
          simp at hcs
          have hb := run_sliceBounds (P := P) (cap := cap) h hl hm hc hcap true
          have hc' := hc
          simp only [cutOk, Bool.and_eq_true, decide_eq_true_eq] at hc'
          have hml : m.toNat ≤ List.length v := by omega
          have hlen := cutl_length (xs := (v : List (T e))) (lo := l.toNat) hml
          have hlen' : List.length (cutl v l.toNat m.toNat) = m.toNat - l.toNat := hlen
          refine wp_value (w' := w) (v := .slice (if cap = l.toNat then ad else ad.map (·.add (l.toNat * e.size))) (m.toNat - l.toNat) (cap - l.toNat)) ?_ (fin_pure h ?_ he)
          · have hr : (Instr.sliceAt t (.slice ad (List.length v) cap) (lo.map a.eval) (hi.map a.eval) none).run P w = .ok (.slice (if cap = l.toNat then ad else ad.map (·.add (l.toNat * e.size))) (m.toNat - l.toNat) (cap - l.toNat)) w := by
              simp [Instr.sliceAt, Instr.slice, run_underlying hu, hb, Tok.sizeOf hte w]
            simp [execOp, ho, hcs, hr]
          · rw [repU_sl]
            refine ⟨_, cap - l.toNat, by rw [hlen'], by rw [hlen']; omega, by rw [hlen']; omega, ?_⟩
            rcases Nat.eq_or_lt_of_le (show l.toNat ≤ m.toNat by omega) with heq | hlt
            · left
              exact List.eq_nil_of_length_eq_zero (by rw [hlen']; omega)
            · right
              rcases hcase with hemp | ⟨bl, off, cur, et', fr, rfl, hO, hh, hs, hvv⟩
              · rw [hemp] at hml; simp at hml; omega
              · have hne : ¬ cap = l.toNat := by omega
                have hmul : (l.toNat + (m.toNat - l.toNat)) * e.size ≤ List.length v * e.size := Nat.mul_le_mul_right _ (by omega)
                rw [Nat.add_mul] at hmul
                refine ⟨bl, off + l.toNat * e.size, cur, et', fr, by rw [if_neg hne]; simp [add_mk], hO, hh, by rw [hlen']; omega, fun i hi => ?_⟩
                have hi2 : i < m.toNat - l.toNat := by rw [← hlen']; exact hi
                have h2 : l.toNat + i < List.length v := by omega
                have := hvv (l.toNat + i) h2
                rw [cutl_get (xs := (v : List (T e))) hi h2]
                rw [Nat.add_mul, ← Nat.add_assoc] at this
                exact this
      · simp at he
    · simp at he
  · rename_i id hx
    unfold aCutK at he
    split at he
    · rename_i e dp xs hb
      split at he
      · rename_i l m e' hl hm ht
        split at he
        · rename_i q hq
          obtain rfl := dec_eq hq
          cases hc : cutOk (List.length xs) l m with
          | false => simp [hc] at he
          | true =>
            simp only [hc, cond_true] at he
            obtain ⟨et, hu, hte⟩ := Tok.sl (hG.ty _ _ ht)
            have hv := h.ev hx
            rw [repU_own] at hv
            have hσ := hv.2 _ _ hb rfl
            have hrow := rowV_iff.1 (h.hp id _ hb)
            obtain ⟨ad, cap, hsl, hcap⟩ := hrow.slice
            have hb' := run_sliceBounds (P := P) (cap := cap) h hl hm hc hcap true
            have hc' := hc
            simp only [cutOk, Bool.and_eq_true, decide_eq_true_eq] at hc'
            have hlm : l.toNat ≤ m.toNat := by omega
            have hml : m.toNat ≤ List.length xs := by omega
            obtain ⟨j, hj1, hj2, hj3⟩ : ∃ j, j ≤ l.toNat ∧ (l.toNat < cap → j = l.toNat) ∧ (if cap = l.toNat then ad else ad.map (·.add (l.toNat * e.size))) = ad.map (·.add (j * e.size)) := by
              by_cases hcl : cap = l.toNat
              · refine ⟨0, by omega, by omega, ?_⟩
                rw [if_pos hcl]
                cases ad with
                | none => rfl
                | some ad =>
                  have := hrow.addr hsl
                  obtain ⟨b, off, rfl⟩ := this
                  simp [add_mk]
              · exact ⟨l.toNat, by omega, fun _ => rfl, by rw [if_neg hcl]⟩
            have hr : (execOp a.eval o).run P w = .ok (.value (.slice (ad.map (·.add (j * e.size))) (m.toNat - l.toNat) (cap - l.toNat))) w := by
              rw [← hj3]
              have hr : (Instr.sliceAt t (.slice ad (List.length xs) cap) (lo.map a.eval) (hi.map a.eval) none).run P w = .ok (.slice (if cap = l.toNat then ad else ad.map (·.add (l.toNat * e.size))) (m.toNat - l.toNat) (cap - l.toNat)) w := by
                simp [Instr.sliceAt, Instr.slice, run_underlying hu, hb', Tok.sizeOf hte w]
              simp [execOp, ho, hσ.trans hsl, hr]
            split at he
            · rename_i tt hd
              cases hmv : memB G.mv tt with
              | true =>
                rw [hmv] at he
                simp only [cond_true] at he
                cases hn : s.newOk tt with
                | false => rw [hn] at he; simp at he
                | true =>
                  rw [hn] at he
                  simp only [cond_true] at he
                  obtain ⟨F', hsub, _, hrow'⟩ := hrow.cut hsl hlm hml hj1 hj2
                  have hne : ∀ b, s.heap id = some b → F'.Nodup := fun b hbb => hsub.nodup (h.nodup id b hbb)
                  have hc2 := h.absorb (w' := w) hn [id] (fun j hj => by simp at hj; subst hj; exact ⟨_, hb⟩) (.row e dp (cutl xs l.toNat m.toNat))
                    (.slice (ad.map (·.add (j * e.size))) (m.toNat - l.toNat) (cap - l.toNat)) F' (Nat.le_refl _) (fun _ _ _ => rfl) rfl rfl rfl (hne _ hb)
                    (fun b hbm => .inr ⟨id, by simp, hsub.subset hbm⟩)
                    (by
                      intro hp' σ' O' hσ' hO'
                      rw [rowV_iff, hσ']
                      exact hrow'.stable (fun _ _ _ => rfl) hO' (fun _ _ => rfl))
                  refine wp_value (w' := w) hr ?_
                  rw [hd]
                  rw [hd] at he
                  exact fin_good rfl hc2 (repU_own_new (e := e) (dp := dp) (xs := cutl xs l.toNat m.toNat) rfl (by rw [List.cons_append]; exact heap_cons_same ⟨s.n, s.tm, (id, none) :: s.hp⟩ _ _)) he
              | false =>
                rw [hmv] at he
                simp only [cond_false] at he
                refine wp_value (w' := w) hr (fin_pure (d := .cut id l.toNat m.toNat) h ?_ he)
                simp only [RepU, RepV, D.isAgg, Bool.false_eq_true, if_false, Rep]
                refine ⟨_, rfl, rfl, fun blk' e' n' hb2 hr' => ?_⟩
                rw [hb] at hb2
                cases hb2
                simp only [Blk.rowN, Option.some.injEq, Prod.mk.injEq] at hr'
                obtain ⟨rfl, rfl⟩ := hr'
                exact ⟨hlm, hml, ad, cap, j, hsl, hcap, hj1, hj2, rfl⟩
            · simp at he
        · simp at he
      · simp at he
    · simp at he
  · rename_i hx
    split at he
    · rename_i l m e' hl hm ht
      cases hc : cutOk 0 l m with
      | false => simp [hc] at he
      | true =>
        simp only [hc, cond_true] at he
        obtain ⟨et, hu, hte⟩ := Tok.sl (hG.ty _ _ ht)
        have hv := h.ev hx
        rw [repU_nil] at hv
        have hb' := run_sliceBounds (P := P) (cap := 0) h hl hm hc (Nat.le_refl _) true
        have hc' := hc
        simp only [cutOk, Bool.and_eq_true, decide_eq_true_eq] at hc'
        have h0 : l.toNat = 0 := by omega
        have h1 : m.toNat = 0 := by omega
        rw [h0, h1] at hb'
        refine wp_value (w' := w) (v := .slice none 0 0) ?_ (fin_pure h (repU_nil.2 rfl) he)
        have hr : (Instr.sliceAt t (.slice none 0 0) (lo.map a.eval) (hi.map a.eval) none).run P w = .ok (.slice none 0 0) w := by
          simp [Instr.sliceAt, Instr.slice, run_underlying hu, hb', Tok.sizeOf hte w]
        simp [execOp, ho, hv, hr]
    · simp at he
  · rename_i id p q hx
    unfold aCut2K at he
    split at he
    · rename_i e dp xs hb
      split at he
      · rename_i l m e' hl hm ht
        split at he
        · rename_i q' hq
          obtain rfl := dec_eq hq
          cases hc : cutOk (q - p) l m with
          | false => simp [hc] at he
          | true =>
            simp only [hc, cond_true] at he
            obtain ⟨et, hu, hte⟩ := Tok.sl (hG.ty _ _ ht)
            have hv := h.ev hx
            simp only [RepU, RepV, D.isAgg, Bool.false_eq_true, if_false, Rep] at hv
            obtain ⟨u, hu', h1c, hv⟩ := hv
            simp only [List.cons.injEq, and_true] at hu'
            obtain ⟨hpq, hqn, ad, cap, j, hs0, hcap, hj1, hj2, hu2⟩ := hv _ _ _ hb rfl
            have hb' := run_sliceBounds (P := P) (cap := cap - p) h hl hm hc (by omega) true
            have hc' := hc
            simp only [cutOk, Bool.and_eq_true, decide_eq_true_eq] at hc'
            have hlm : l.toNat ≤ m.toNat := by omega
            have hml : m.toNat ≤ q - p := by omega
            refine wp_value (w' := w) (v := .slice (if cap - p = l.toNat then ad.map (·.add (j * e.size)) else (ad.map (·.add (j * e.size))).map (·.add (l.toNat * e.size))) (m.toNat - l.toNat) (cap - p - l.toNat)) ?_ (fin_pure h ?_ he)
            · have hr : (Instr.sliceAt t (.slice (ad.map (·.add (j * e.size))) (q - p) (cap - p)) (lo.map a.eval) (hi.map a.eval) none).run P w = .ok (.slice (if cap - p = l.toNat then ad.map (·.add (j * e.size)) else (ad.map (·.add (j * e.size))).map (·.add (l.toNat * e.size))) (m.toNat - l.toNat) (cap - p - l.toNat)) w := by
                simp only [Instr.sliceAt, Instr.slice, run_underlying hu, hb', Tok.sizeOf hte w, Sem.run_bind, Result.andThen_ok, Sem.run_pure]
              simp [execOp, ho, hu'.trans hu2, hr]
            · simp only [RepU, RepV, D.isAgg, Bool.false_eq_true, if_false, Rep]
              refine ⟨_, rfl, rfl, fun blk' e' n' hb2 hr' => ?_⟩
              rw [hb] at hb2
              cases hb2
              simp only [Blk.rowN, Option.some.injEq, Prod.mk.injEq] at hr'
              obtain ⟨rfl, rfl⟩ := hr'
              have e1 : m.toNat - l.toNat = p + m.toNat - (p + l.toNat) := by omega
              have e2 : cap - p - l.toNat = cap - (p + l.toNat) := by omega
              by_cases h2 : cap - p = l.toNat
              · refine ⟨by omega, by omega, ad, cap, j, hs0, hcap, by omega, by omega, ?_⟩
                rw [if_pos h2, e1, e2]
              · refine ⟨by omega, by omega, ad, cap, j + l.toNat, hs0, hcap, by omega, fun hl => by have := hj2 (by omega); omega, ?_⟩
                rw [if_neg h2, e1, e2]
                have hrow := rowV_iff.1 (h.hp id _ hb)
                cases ad with
                | none => rfl
                | some ad =>
                  obtain ⟨b, off, rfl⟩ := hrow.addr hs0
                  simp only [Option.map_some, add_mk, Nat.add_mul, Nat.add_assoc]
        · simp at he
      · simp at he
    · simp at he
  · simp at he

end
end KF

namespace KF
open Go

/-! ### What is told of a function -/
/-- arguments that are only read -/
def VArgs (w : World) (O : Nat → Prop) : (τ : Ty) → T τ → List Value → Prop
  | .p x y, v, a :: r => (∃ cs, a = vof x cs ∧ View w O x v.1 cs) ∧ VArgs w O y v.2 r
  | .u, _, [] => True
  | _, _, _ => False

/-- the results: new memory (flag true) or to be read only -/
def RParts (w : World) (O : Nat → Prop) : (τ : Ty) → T τ → List Bool → List Value → List Nat → Prop
  | .p x y, v, f :: r, a :: as, F => ∃ cs F1 F2, a = vof x cs ∧ F = F1 ++ F2 ∧ (if f then Own w x v.1 cs F1 else View w O x v.1 cs ∧ F1 = []) ∧ RParts w O y v.2 r as F2
  | .u, _, [], [], F => F = []
  | _, _, _, _, _ => False

def oneV : List Value → Value
  | [v] => v
  | vs => .tuple vs.toArray

/-- the old blocks but for F are as they were -/
structure Kept (w w' : World) (F : Nat → Prop) : Prop where
  size : w.heap.size ≤ w'.heap.size
  block : ∀ b, b < w.heap.size → ¬ F b → w'.heap[b]? = w.heap[b]?
  os : w'.os = w.os
  tape : w'.tape = w.tape
  output : w'.output = w.output

def Entered (P : Program) (f : FuncId) : Prop := ∃ fn, P.funcs[f]? = some fn ∧ (fn.name == "runtime.NumGoroutine") = false ∧ fn.body.isNone = false

def Returns (R : Value → World → Prop) : Ending → World → Prop
  | .returned v, w' => R v w'
  | _, _ => False

/-- arguments that are handed over -/
def OArgs (w : World) : (τ : Ty) → T τ → List Value → List Nat → Prop
  | .p x y, v, a :: r, F => ∃ cs F1 F2, a = vof x cs ∧ F = F1 ++ F2 ∧ Own w x v.1 cs F1 ∧ OArgs w y v.2 r F2
  | .u, _, [], F => F = []
  | _, _, _, _ => False

def Sound (P : Program) (I : Inv) (f : FuncId) : FnSem → Prop
  | .pu pt rt fr F => Entered P f ∧ ∀ (O : Nat → Prop) (w : World) (x : T pt) (r : T rt) (args : List Value), F x = some r → VArgs w O pt x args → (∀ b, O b → b < w.heap.size) → I.p w → I.base ≤ w.heap.size →
      Calls P f args.toArray w (Returns fun v w' => ∃ vs Fr, v = oneV vs ∧ Kept w w' (fun _ => False) ∧ RParts w' (fun b => O b ∨ b ∈ Fr) rt r fr vs Fr ∧ Fr.Nodup ∧ ∀ b ∈ Fr, w.heap.size ≤ b)
  | .io τ pt rt fr F => Entered P f ∧ ∀ (O : Nat → Prop) (w : World) (x0 : T τ) (x : T pt) (r : T τ × T rt) (cs0 : List Value) (F0 : List Nat) (args : List Value), F x0 x = some r →
      Own w τ x0 cs0 F0 → F0.Nodup → VArgs w (fun b => O b ∨ b ∈ F0) pt x args → (∀ b, O b → b < w.heap.size) → I.p w → I.base ≤ w.heap.size → (∀ b, b ∈ F0 → I.base ≤ b) →
      Calls P f (vof τ cs0 :: args).toArray w (Returns fun v w' => ∃ vs F1 Fr, v = oneV vs ∧ Kept w w' (· ∈ F0) ∧ Own w' τ r.1 cs0 F1 ∧ (∀ b ∈ F1, w.heap.size ≤ b ∨ b ∈ F0) ∧
        RParts w' (fun b => O b ∨ b ∈ F0 ∨ b ∈ F1 ∨ b ∈ Fr) rt r.2 fr vs Fr ∧ (F1 ++ Fr).Nodup ∧ ∀ b ∈ Fr, w.heap.size ≤ b ∨ b ∈ F0)
  | .co pt rt fr F => Entered P f ∧ ∀ (O : Nat → Prop) (w : World) (x : T pt) (r : T rt) (F0 : List Nat) (args : List Value), F x = some r →
      OArgs w pt x args F0 → F0.Nodup → (∀ b, O b → b < w.heap.size) → I.p w → I.base ≤ w.heap.size → (∀ b, b ∈ F0 → I.base ≤ b) →
      Calls P f args.toArray w (Returns fun v w' => ∃ vs Fr, v = oneV vs ∧ Kept w w' (· ∈ F0) ∧
        RParts w' (fun b => O b ∨ b ∈ F0 ∨ b ∈ Fr) rt r fr vs Fr ∧ Fr.Nodup ∧ ∀ b ∈ Fr, w.heap.size ≤ b ∨ b ∈ F0)
  | .bx vw cv τ pt rt fr F => Entered P f ∧ ∀ (O : Nat → Prop) (w : World) (x0 : T τ) (x : T pt) (r : T τ × T rt) (b : Nat) (cur : Array Value) (et : TypeId) (F0 F2 : List Nat) (args : List Value), F x0 x = some r →
      w.heap[b]? = some (.cells cur et (0, 0)) → cur.size = τ.size → (if vw then View w (fun c => O c ∨ c = b ∨ c ∈ F2) τ x0 cur.toList ∧ F0 = [] else Own w τ x0 cur.toList F0) →
      (if cv then OArgs w pt x args F2 else VArgs w (fun c => O c ∨ c = b ∨ c ∈ F0) pt x args ∧ F2 = []) → (b :: (F0 ++ F2)).Nodup → (∀ b, O b → b < w.heap.size) → I.p w → I.base ≤ w.heap.size → (∀ c, c ∈ b :: (F0 ++ F2) → I.base ≤ c) →
      Calls P f (.pointer (some ⟨b, 0, none⟩) :: args).toArray w (Returns fun v w' => ∃ vs cur' et' F1 Fr, v = oneV vs ∧ Kept w w' (· ∈ b :: (F0 ++ F2)) ∧ w'.heap[b]? = some (.cells cur' et' (0, 0)) ∧ cur'.size = τ.size ∧
        (if vw then View w' (fun c => O c ∨ c ∈ b :: (F0 ++ F2) ∨ c ∈ Fr) τ r.1 cur'.toList ∧ F1 = [] else Own w' τ r.1 cur'.toList F1) ∧
        RParts w' (fun c => O c ∨ c ∈ b :: (F0 ++ F2) ∨ c ∈ F1 ∨ c ∈ Fr) rt r.2 fr vs Fr ∧ (b :: (F1 ++ Fr)).Nodup ∧ ∀ c ∈ F1 ++ Fr, w.heap.size ≤ c ∨ c ∈ F0 ++ F2)
  | .nw pt τ F => Entered P f ∧ ∀ (O : Nat → Prop) (w : World) (x : T pt) (r : T τ) (args : List Value), F x = some r → VArgs w O pt x args → (∀ b, O b → b < w.heap.size) → I.p w → I.base ≤ w.heap.size →
      Calls P f args.toArray w (Returns fun v w' => ∃ b cur et, v = .pointer (some ⟨b, 0, none⟩) ∧ Kept w w' (fun _ => False) ∧ w.heap.size ≤ b ∧ w'.heap[b]? = some (.cells cur et (0, 0)) ∧ cur.size = τ.size ∧ View w' (fun c => O c ∨ c = b) τ r cur.toList)

structure EnvOk (P : Program) (I : Inv) (G : Env) : Prop extends EnvTy P G where
  fn : ∀ f sem, aget G.fn f = some sem → Sound P I f sem

theorem viewT_toT {s : AS} : ∀ {d : D} {τ : Ty} {x : T τ}, d.hasOwn = false → viewT s d τ = some x → toT d τ = some x := by
  intro d
  induction d with
  | pr a b iha ihb =>
    intro τ x ho he
    simp only [D.hasOwn, Bool.or_eq_false_iff] at ho
    cases τ with
    | p t1 t2 =>
      simp only [viewT] at he
      split at he
      · rename_i u v hu hv
        simp only [toT, iha ho.1 hu, ihb ho.2 hv]
        exact he
      · simp at he
    | _ => simp [viewT] at he
  | own id => intro τ x ho; simp [D.hasOwn] at ho
  | cut id lo hi => intro τ x ho; simp [D.hasOwn] at ho
  | t τ' y => intro τ x _ he; simpa [viewT, toT] using he
  | nil => intro τ x _ he; cases τ <;> simp_all [viewT, toT]
  | un => intro τ x _ he; cases τ <;> simp_all [viewT, toT]
  | _ => intro τ x _ he; cases τ <;> simp [viewT] at he

/-- repV of a value laid out -/
theorem repV_vof {w : World} {σ : Nat → Value} {O : Nat → Prop} {hp : Nat → Option Blk} {τ : Ty} {d : D} {cs : List Value} (hs : Shape τ d) (h : Rep w O hp σ d cs) : RepV w O hp σ d (vof τ cs) := by
  have ha := hs.isAgg
  have hl := Rep.length hs h
  unfold RepV vof
  rw [ha]
  cases hτ : τ.isAgg with
  | true => simp only [if_true]; exact ⟨cs.toArray, rfl, by simpa using h⟩
  | false =>
    simp only [Bool.false_eq_true, if_false]
    rw [Ty.size_one hτ] at hl
    obtain ⟨v, rfl⟩ := List.length_eq_one_iff.1 hl
    simpa using h

section
variable {P : Program} {Out : Type} {n0 : Nat} {A : Fx} {O0 : Nat → Prop} {w0 w w' : World} {s : AS} {σ σ' : Nat → Value} {φ φ' : Nat → List Nat} {a : Act}
variable {o : Oper} {Q : Exit → Act → World → Prop} {k : AS → Option Out} {out : Out} {d : D} {v : Value} {upd : List (Nat × Option Blk)} {dst : Option Tmp} {G : Env}

theorem vargs_ok (h : Conc n0 A O0 w0 s σ φ a w) {O : Nat → Prop} (hV : ∀ (d : D) (τ : Ty) (x : T τ) (cs : List Value), viewT s d τ = some x → Rep w (OO O0 s φ) s.heap σ d cs → (O = noO ∨ d.hasOwn = false) → View w O τ x cs) :
    ∀ {args : List Operand} {ds : D} {pt : Ty} {x : T pt}, evs s args = some ds → viewT s ds pt = some x → (O = noO ∨ ds.hasOwn = false) → VArgs w O pt x (args.map a.eval)
  | [], ds, pt, x, he, hv, _ => by
    simp only [evs, Option.some.injEq] at he
    subst he
    cases pt <;> simp [viewT] at hv
    trivial
  | y :: r, ds, pt, x, he, hv, ho => by
    simp only [evs] at he
    split at he
    · rename_i d1 d2 h1 h2
      simp only [Option.some.injEq] at he
      subst he
      cases pt with
      | p t1 t2 =>
        simp only [viewT] at hv
        split at hv
        · rename_i u1 u2 hu1 hu2
          simp only [Option.some.injEq] at hv
          subst hv
          have ho1 : O = noO ∨ d1.hasOwn = false := ho.imp id fun h => by simp only [D.hasOwn, Bool.or_eq_false_iff] at h; exact h.1
          have ho2 : O = noO ∨ d2.hasOwn = false := ho.imp id fun h => by simp only [D.hasOwn, Bool.or_eq_false_iff] at h; exact h.2
          obtain ⟨hr, hvv⟩ := rep_cells (viewT_shape hu1) (h.ev h1)
          exact ⟨⟨_, hvv, hV _ _ _ _ hu1 hr ho1⟩, vargs_ok h hV h2 hu2 ho2⟩
        · simp at hv
      | _ => simp [viewT] at hv
    · simp at he

/-- new rows, and old ones that have turned in place -/
theorem Conc.adopt (h : Conc n0 A O0 w0 s σ φ a w) (U : List (Nat × Option Blk)) (hU : (U.map (·.1)).Nodup)
    (hσ : ∀ id, id ∉ U.map (·.1) → σ' id = σ id ∧ φ' id = φ id)
    (hnew : ∀ p, p ∈ U → s.newOk p.1 = true ∨ (∃ blk blk', s.heap p.1 = some blk ∧ p.2 = some blk' ∧ blk.like blk' ∧ σ' p.1 = σ p.1))
    (hK : Kept w w' (fun b => ∃ p, p ∈ U ∧ ∃ blk, s.heap p.1 = some blk ∧ b ∈ φ p.1))
    (hblk : ∀ p, p ∈ U → ∃ e xs, p.2 = some (.row e true xs) ∧ Own w' (.sl e) xs [σ' p.1] (φ' p.1))
    (hnd : (blocks φ' (U.map (·.1))).Nodup)
    (hsub : ∀ b, b ∈ blocks φ' (U.map (·.1)) → w.heap.size ≤ b ∨ ∃ p, p ∈ U ∧ ∃ blk, s.heap p.1 = some blk ∧ b ∈ φ p.1) :
    Conc n0 A O0 w0 ⟨s.n, s.tm, U ++ s.hp⟩ σ' φ' a w' := by
  have hget : ∀ (U : List (Nat × Option Blk)) (id : Nat), id ∉ U.map (·.1) → aget (U ++ s.hp) id = aget s.hp id := by
    intro U id
    induction U with
    | nil => simp
    | cons p U ih =>
      intro hn
      simp only [List.map_cons, List.mem_cons, not_or] at hn
      rw [List.cons_append, aget_cons, if_neg (Ne.symm hn.1), ih hn.2]
  have hgetm : ∀ (U : List (Nat × Option Blk)), (U.map (·.1)).Nodup → ∀ p, p ∈ U → aget (U ++ s.hp) p.1 = some p.2 := by
    intro U
    induction U with
    | nil => simp
    | cons q U ih =>
      intro hn p hp
      simp only [List.map_cons, List.nodup_cons] at hn
      rw [List.cons_append, aget_cons]
      rcases List.mem_cons.1 hp with rfl | hp
      · rw [if_pos rfl]
      · rw [if_neg (fun e : q.1 = p.1 => hn.1 (by rw [e]; exact List.mem_map_of_mem hp)), ih hn.2 p hp]
  have hh1 : ∀ id, id ∉ U.map (·.1) → AS.heap ⟨s.n, s.tm, U ++ s.hp⟩ id = s.heap id := fun id hid => by simp [AS.heap, hget U id hid]
  have hh2 : ∀ p, p ∈ U → AS.heap ⟨s.n, s.tm, U ++ s.hp⟩ p.1 = p.2 := fun p hp => by simp [AS.heap, hgetm U hU p hp]
  have hmemb : ∀ id, id ∈ U.map (·.1) → ∃ p, p ∈ U ∧ p.1 = id := fun id hid => by
    obtain ⟨p, hp, he⟩ := List.mem_map.1 hid
    exact ⟨p, hp, he⟩
  refine h.trans (fun id => id ∈ U.map (·.1)) rfl rfl ?_ ?_ hK.size ?_ ?_ ?_ ?_ hK.os hK.tape hK.output ?_
  · intro id hid
    exact ⟨hh1 id hid, hσ id hid⟩
  · intro b hb hno
    refine hK.block b hb ?_
    rintro ⟨p, hp, blk, hl, hm⟩
    exact hno p.1 blk (List.mem_map_of_mem hp) hl hm
  · intro id blk' hid hl b hbm
    rcases hsub b (mem_blocks.2 ⟨id, hid, hbm⟩) with hb | ⟨p, hp, blk, hb, hm⟩
    · exact .inl hb
    · exact .inr ⟨p.1, blk, List.mem_map_of_mem hp, hb, hm⟩
  · intro id blk' hid hl hm
    obtain ⟨p, hp, rfl⟩ := hmemb id hid
    rw [hh2 p hp] at hl
    rcases hnew p hp with hn | ⟨blk, blk'', h1, h2, h3, h4⟩
    · simp only [AS.newOk, Bool.and_eq_true, Bool.not_eq_true'] at hn
      rw [hn.1] at hm; simp at hm
    · rw [h2] at hl
      simp only [Option.some.injEq] at hl
      subst hl
      exact ⟨blk, h1, h3, h4⟩
  · intro id blk' hid hl
    obtain ⟨p, hp, rfl⟩ := hmemb id hid
    rw [hh2 p hp] at hl
    obtain ⟨e, xs, he, hown⟩ := hblk p hp
    rw [he] at hl
    simp only [Option.some.injEq] at hl
    subst hl
    refine ⟨hown, ?_⟩
    have : (φ' p.1).Sublist (blocks φ' (U.map (·.1))) := by
      unfold blocks
      exact List.sublist_flatten_of_mem (List.mem_map_of_mem (List.mem_map_of_mem hp))
    exact this.nodup hnd
  · intro id id' b1 b2 hid hid' hne _ _ b hb hb'
    have : ∀ (L : List Nat), (blocks φ' L).Nodup → id ∈ L → id' ∈ L → False := by
      intro L
      induction L with
      | nil => simp
      | cons x L ih =>
        intro hn hi hi'
        have hx : blocks φ' (x :: L) = φ' x ++ blocks φ' L := by simp [blocks]
        rw [hx, List.nodup_append] at hn
        rcases List.mem_cons.1 hi with e1 | q1
        · rcases List.mem_cons.1 hi' with e2 | q2
          · exact hne (e1.trans e2.symm)
          · exact hn.2.2 b (e1 ▸ hb) b (mem_blocks.2 ⟨id', q2, hb'⟩) rfl
        · rcases List.mem_cons.1 hi' with e2 | q2
          · exact hn.2.2 b (e2 ▸ hb') b (mem_blocks.2 ⟨id, q1, hb⟩) rfl
          · exact ih hn.2.1 q1 q2
    exact this _ hnd hid hid'
  · intro id hid
    obtain ⟨p, hp, rfl⟩ := hmemb id hid
    rcases hnew p hp with hn | ⟨_, _, _, _, _, h4⟩
    · exact .inr (newOk_lt hn)
    · exact .inl h4

/-- a fresh datum's slices get ids -/
theorem openD_ok : ∀ {τ : Ty} {x : T τ} {n m : Nat} {d : D} {l : List (Nat × Option Blk)} {cs : List Value} {F : List Nat}, openD τ x n = (d, l, m) → Own w' τ x cs F →
    n ≤ m ∧ (∀ p, p ∈ l → n ≤ p.1 ∧ p.1 < m) ∧ Shape τ d ∧ ∃ (ψ : Nat → List Nat) (ν : Nat → Value), blocks ψ (l.map (·.1)) = F ∧ (∀ p, p ∈ l → ∃ e xs, p.2 = some (.row e true xs) ∧ Own w' (.sl e) xs [ν p.1] (ψ p.1)) ∧
      ∀ (w2 : World) (hp' : Nat → Option Blk) (σ' : Nat → Value) (O' : Nat → Prop), (∀ p, p ∈ l → σ' p.1 = ν p.1) → Rep w2 O' hp' σ' d cs
  | .i k, x, n, m, d, l, cs, F, he, h => by
    simp only [openD, Prod.mk.injEq] at he
    obtain ⟨rfl, rfl, rfl⟩ := he
    simp only [Own] at h
    exact ⟨Nat.le_refl _, by simp, rfl, fun _ => [], fun _ => undef, by simp [blocks, h.2], by simp, fun _ _ _ _ _ => h.1⟩
  | .b, x, n, m, d, l, cs, F, he, h => by
    simp only [openD, Prod.mk.injEq] at he
    obtain ⟨rfl, rfl, rfl⟩ := he
    simp only [Own] at h
    exact ⟨Nat.le_refl _, by simp, rfl, fun _ => [], fun _ => undef, by simp [blocks, h.2], by simp, fun _ _ _ _ _ => h.1⟩
  | .o, x, n, m, d, l, cs, F, he, h => by
    simp only [openD, Prod.mk.injEq] at he
    obtain ⟨rfl, rfl, rfl⟩ := he
    simp only [Own] at h
    exact ⟨Nat.le_refl _, by simp, rfl, fun _ => [], fun _ => undef, by simp [blocks, h.2], by simp, fun _ _ _ _ _ => h.1⟩
  | .s, x, n, m, d, l, cs, F, he, h => by
    simp only [openD, Prod.mk.injEq] at he
    obtain ⟨rfl, rfl, rfl⟩ := he
    simp only [Own] at h
    exact ⟨Nat.le_refl _, by simp, rfl, fun _ => [], fun _ => undef, by simp [blocks, h.2], by simp, fun _ _ _ _ _ => h.1⟩
  | .u, x, n, m, d, l, cs, F, he, h => by
    simp only [openD, Prod.mk.injEq] at he
    obtain ⟨rfl, rfl, rfl⟩ := he
    simp only [Own] at h
    exact ⟨Nat.le_refl _, by simp, trivial, fun _ => [], fun _ => undef, by simp [blocks, h.2], by simp, fun _ _ _ _ _ => h.1⟩
  | .sl e, x, n, m, d, l, cs, F, he, h => by
    simp only [openD, Prod.mk.injEq] at he
    obtain ⟨rfl, rfl, rfl⟩ := he
    have hlen := Own.length h
    simp only [Ty.size] at hlen
    obtain ⟨v, rfl⟩ := List.length_eq_one_iff.1 hlen
    refine ⟨by omega, by simp, trivial, fun _ => F, fun _ => v, by simp [blocks], ?_, ?_⟩
    · intro p hp
      simp only [List.mem_singleton] at hp
      subst hp
      exact ⟨e, x, rfl, h⟩
    · intro w2 hp' σ' O' hσ
      refine ⟨v, rfl, h.one v (by simp), fun _ _ _ _ => ?_⟩
      exact (hσ (n, some (.row e true x)) (by simp)).symm
  | .p t1 t2, x, n, m, d, l, cs, F, he, h => by
    obtain ⟨c1, c2, F1, F2, hc, hF, h1, h2⟩ := h
    simp only [openD] at he
    rcases ho1 : openD t1 x.1 n with ⟨d1, l1, m1⟩
    rcases ho2 : openD t2 x.2 m1 with ⟨d2, l2, m2⟩
    rw [ho1] at he
    simp only at he
    rw [ho2] at he
    simp only [Prod.mk.injEq] at he
    obtain ⟨rfl, rfl, rfl⟩ := he
    obtain ⟨a1, a2, a3, ψ1, ν1, a4, a5, a6⟩ := openD_ok ho1 h1
    obtain ⟨b1, b2, b3, ψ2, ν2, b4, b5, b6⟩ := openD_ok ho2 h2
    refine ⟨by omega, ?_, a3.mkpr b3, fun id => if id < m1 then ψ1 id else ψ2 id, fun id => if id < m1 then ν1 id else ν2 id, ?_, ?_, ?_⟩
    · intro p hp
      rcases List.mem_append.1 hp with hp | hp
      · have := a2 p hp; omega
      · have := b2 p hp; omega
    · rw [List.map_append, blocks_append, hF, ← a4, ← b4]
      congr 1
      · unfold blocks
        congr 1
        apply List.map_congr_left
        intro id hid
        obtain ⟨p, hp, rfl⟩ := List.mem_map.1 hid
        rw [if_pos (a2 p hp).2]
      · unfold blocks
        congr 1
        apply List.map_congr_left
        intro id hid
        obtain ⟨p, hp, rfl⟩ := List.mem_map.1 hid
        rw [if_neg (by have := b2 p hp; omega)]
    · intro p hp
      rcases List.mem_append.1 hp with hp | hp
      · have := (a2 p hp).2
        simp only [if_pos this]
        exact a5 p hp
      · have : ¬ p.1 < m1 := by have := b2 p hp; omega
        simp only [if_neg this]
        exact b5 p hp
    · intro w2 hp' σ' O' hσ
      rw [hc]
      refine Rep.mkpr (a6 w2 hp' σ' O' fun p hp => ?_) (b6 w2 hp' σ' O' fun p hp => ?_)
      · have h1 := hσ p (List.mem_append_left _ hp)
        simp only [if_pos (a2 p hp).2] at h1
        exact h1
      · have h1 := hσ p (List.mem_append_right _ hp)
        have h2 : ¬ p.1 < m1 := by have := b2 p hp; omega
        simp only [if_neg h2] at h1
        exact h1

theorem openR_ok {O' : Nat → Prop} : ∀ {rt : Ty} {r : T rt} {fr : List Bool} {n m : Nat} {d : D} {l : List (Nat × Option Blk)} {vs : List Value} {F : List Nat}, openR rt r fr n = some (d, l, m) → RParts w' O' rt r fr vs F →
    n ≤ m ∧ (∀ p, p ∈ l → n ≤ p.1 ∧ p.1 < m) ∧ ∃ (ψ : Nat → List Nat) (ν : Nat → Value), blocks ψ (l.map (·.1)) = F ∧ (∀ p, p ∈ l → ∃ e xs, p.2 = some (.row e true xs) ∧ Own w' (.sl e) xs [ν p.1] (ψ p.1)) ∧
      ∀ (hp' : Nat → Option Blk) (σ' : Nat → Value) (O'' : Nat → Prop), (∀ p, p ∈ l → σ' p.1 = ν p.1) → (∀ b, b < w'.heap.size → ¬ O' b → ¬ O'' b) → RepT w' O'' hp' σ' d vs
  | .u, r, [], n, m, d, l, vs, F, he, h => by
    simp only [openR, Option.some.injEq, Prod.mk.injEq] at he
    obtain ⟨rfl, rfl, rfl⟩ := he
    cases vs with
    | nil =>
      simp only [RParts] at h
      exact ⟨Nat.le_refl _, by simp, fun _ => [], fun _ => undef, by simp [blocks, h], by simp, fun _ _ _ _ _ => trivial⟩
    | cons a r => simp [RParts] at h
  | .p t1 t2, r, f :: fr, n, m, d, l, vs, F, he, h => by
    cases vs with
    | nil => simp [RParts] at h
    | cons v vs =>
      obtain ⟨cs, F1, F2, hv, hF, h1, h2⟩ := h
      simp only [openR] at he
      rcases ho1 : (bif f then openD t1 r.1 n else (.t t1 r.1, [], n)) with ⟨d1, l1, m1⟩
      rw [ho1] at he
      simp only at he
      split at he
      · rename_i d2 l2 m2 ho2
        simp only [Option.some.injEq, Prod.mk.injEq] at he
        obtain ⟨rfl, rfl, rfl⟩ := he
        obtain ⟨b1, b2, ψ2, ν2, b4, b5, b6⟩ := openR_ok ho2 h2
        have hA : n ≤ m1 ∧ (∀ p, p ∈ l1 → n ≤ p.1 ∧ p.1 < m1) ∧ Shape t1 d1 ∧ ∃ (ψ : Nat → List Nat) (ν : Nat → Value), blocks ψ (l1.map (·.1)) = F1 ∧ (∀ p, p ∈ l1 → ∃ e xs, p.2 = some (.row e true xs) ∧ Own w' (.sl e) xs [ν p.1] (ψ p.1)) ∧
            ∀ (hp' : Nat → Option Blk) (σ' : Nat → Value) (O'' : Nat → Prop), (∀ p, p ∈ l1 → σ' p.1 = ν p.1) → (∀ b, b < w'.heap.size → ¬ O' b → ¬ O'' b) → Rep w' O'' hp' σ' d1 cs := by
          cases f with
          | true =>
            simp only [cond_true] at ho1
            simp only [if_true] at h1
            obtain ⟨a1, a2, a3, ψ1, ν1, a4, a5, a6⟩ := openD_ok ho1 h1
            exact ⟨a1, a2, a3, ψ1, ν1, a4, a5, fun hp' σ' O'' hσ _ => a6 w' hp' σ' O'' hσ⟩
          | false =>
            simp only [cond_false, Prod.mk.injEq] at ho1
            obtain ⟨rfl, rfl, rfl⟩ := ho1
            simp only [Bool.false_eq_true, if_false] at h1
            exact ⟨Nat.le_refl _, by simp, by simp [Shape], fun _ => [], fun _ => undef, by simp [blocks, h1.2], by simp, fun hp' σ' O'' _ hO => View.stable (fun _ _ _ => rfl) hO h1.1⟩
        obtain ⟨a1, a2, a3, ψ1, ν1, a4, a5, a6⟩ := hA
        refine ⟨by omega, ?_, fun id => if id < m1 then ψ1 id else ψ2 id, fun id => if id < m1 then ν1 id else ν2 id, ?_, ?_, ?_⟩
        · intro p hp
          rcases List.mem_append.1 hp with hp | hp
          · have := a2 p hp; omega
          · have := b2 p hp; omega
        · rw [List.map_append, blocks_append, hF, ← a4, ← b4]
          congr 1
          · unfold blocks
            congr 1
            apply List.map_congr_left
            intro id hid
            obtain ⟨p, hp, rfl⟩ := List.mem_map.1 hid
            rw [if_pos (a2 p hp).2]
          · unfold blocks
            congr 1
            apply List.map_congr_left
            intro id hid
            obtain ⟨p, hp, rfl⟩ := List.mem_map.1 hid
            rw [if_neg (by have := b2 p hp; omega)]
        · intro p hp
          rcases List.mem_append.1 hp with hp | hp
          · have := (a2 p hp).2
            simp only [if_pos this]
            exact a5 p hp
          · have : ¬ p.1 < m1 := by have := b2 p hp; omega
            simp only [if_neg this]
            exact b5 p hp
        · intro hp' σ' O'' hσ hO
          rw [hv]
          refine ⟨repV_vof a3 (a6 hp' σ' O'' (fun p hp => ?_) hO), b6 hp' σ' O'' (fun p hp => ?_) hO⟩
          · have h1 := hσ p (List.mem_append_left _ hp)
            simp only [if_pos (a2 p hp).2] at h1
            exact h1
          · have h1 := hσ p (List.mem_append_right _ hp)
            have h2 : ¬ p.1 < m1 := by have := b2 p hp; omega
            simp only [if_neg h2] at h1
            exact h1
      · simp at he
  | .u, _, _ :: _, _, _, _, _, _, _, he, _ => by simp [openR] at he
  | .p _ _, _, [], _, _, _, _, _, _, he, _ => by simp [openR] at he
  | .i _, _, fr, _, _, _, _, _, _, he, _ => by cases fr <;> simp [openR] at he
  | .b, _, fr, _, _, _, _, _, _, he, _ => by cases fr <;> simp [openR] at he
  | .o, _, fr, _, _, _, _, _, _, he, _ => by cases fr <;> simp [openR] at he
  | .s, _, fr, _, _, _, _, _, _, he, _ => by cases fr <;> simp [openR] at he
  | .sl _, _, fr, _, _, _, _, _, _, he, _ => by cases fr <;> simp [openR] at he

theorem resD_ok {O : Nat → Prop} {hp : Nat → Option Blk} {d d' : D} {vs : List Value} (he : resD d = some d') (h : RepT w O hp σ d vs) : RepU w O hp σ d' (oneV vs) := by
  unfold resD at he
  split at he
  · rename_i a
    simp only [Option.some.injEq] at he
    subst he
    cases vs with
    | nil => simp [RepT] at h
    | cons v vs =>
      cases vs with
      | nil => exact repU_of_repV h.1
      | cons u vs => simp [RepT] at h
  · rename_i hne
    simp only [Option.some.injEq] at he
    subst he
    refine ⟨vs.toArray, ?_, by simpa using h⟩
    cases vs with
    | nil => rfl
    | cons v vs =>
      cases vs with
      | nil =>
        exfalso
        cases d with
        | pr a b =>
          have hb := h.2
          cases b with
          | un => exact hne a rfl
          | _ => simp [RepT] at hb
        | _ => simp [RepT] at h
      | cons u vs => rfl

theorem run_enter {f : FuncId} {args : Array Operand} {ts : Array TypeId} (ho : o.op = .call ⟨.value (.func f), args, ts⟩) (hf : Entered P f) :
    (execOp a.eval o).run P w = .ok (.enter f (args.toList.map a.eval).toArray) w := by
  obtain ⟨fn, h1, h2, h3⟩ := hf
  have : (args.toList.map a.eval).toArray = args.map a.eval := by rw [← Array.toList_map, Array.toArray_toList]
  have h2' : ¬ fn.name = "runtime.NumGoroutine" := by simpa using h2
  have h3' : ¬ fn.body = none := by
    intro e
    rw [e] at h3
    simp at h3
  rw [this]
  simp [execOp, ho, resolve, Deferred.ofValue, invoke, callFunc, Act.eval, run_program, h1, h2', h3']

theorem freshIds_ok {u : List (Nat × Option Blk)} (h : freshIds s u = true) : (∀ p, p ∈ u → s.newOk p.1 = true) ∧ (u.map (·.1)).Nodup := by
  simp only [freshIds, Bool.and_eq_true, List.all_eq_true] at h
  exact ⟨fun p hp => h.1 p hp, nodupB_ok h.2⟩

end
end KF

namespace KF
open Go

theorem RParts.all {w : World} {O O' : Nat → Prop} : ∀ {rt : Ty} {r : T rt} {fr : List Bool} {vs : List Value} {F : List Nat}, fr.all id = true → RParts w O rt r fr vs F → RParts w O' rt r fr vs F
  | .u, _, [], [], _, _, h => h
  | .p x y, r, f :: fr, v :: vs, F, ha, h => by
    simp only [List.all_cons, id, Bool.and_eq_true] at ha
    obtain ⟨cs, F1, F2, hv, hF, h1, h2⟩ := h
    have hf : f = true := ha.1
    subst hf
    exact ⟨cs, F1, F2, hv, hF, h1, RParts.all (O := O) ha.2 h2⟩
  | .u, _, _ :: _, _, _, _, h => by simp [RParts] at h
  | .u, _, [], _ :: _, _, _, h => by simp [RParts] at h
  | .p _ _, _, [], _, _, _, h => by simp [RParts] at h
  | .p _ _, _, _ :: _, [], _, _, h => by simp [RParts] at h
  | .i _, _, fr, vs, _, _, h => by simp [RParts] at h
  | .b, _, fr, vs, _, _, h => by simp [RParts] at h
  | .o, _, fr, vs, _, _, h => by simp [RParts] at h
  | .s, _, fr, vs, _, _, h => by simp [RParts] at h
  | .sl _, _, fr, vs, _, _, h => by simp [RParts] at h

theorem own_len {w w' : World} {e : Ty} {xs ys : List (T e)} {v : Value} {F F' : List Nat} (h : Own w (.sl e) xs [v] F) (h' : Own w' (.sl e) ys [v] F') : List.length xs = List.length ys := by
  obtain ⟨_, ⟨h1, h2, _⟩ | ⟨_, _, _, _, _, _, h1, _⟩⟩ := h <;> obtain ⟨_, ⟨g1, g2, _⟩ | ⟨_, _, _, _, _, _, g1, _⟩⟩ := h'
  · rw [h2, g2]
  · rw [h1] at g1; simp at g1
  · rw [h1] at g1; simp at g1
  · rw [h1] at g1; simp at g1; exact g1.2.1

section
variable {P : Program} {Out : Type} {n0 : Nat} {A : Fx} {O0 : Nat → Prop} {w0 w w' : World} {s : AS} {σ σ' : Nat → Value} {φ φ' : Nat → List Nat} {a : Act}
variable {o : Oper} {Q : Exit → Act → World → Prop} {k : AS → Option Out} {out : Out} {d : D} {v : Value} {upd : List (Nat × Option Blk)} {dst : Option Tmp} {G : Env}

theorem ev_ment {x : Operand} (hx : s.ev x = some d) {j : Nat} (hj : d.ment j = true) : s.ment j = true := by
  cases x with
  | tmp q => exact AS.ment_tm hx hj
  | const c =>
    exfalso
    simp only [AS.ev] at hx
    unfold constD at hx
    split at hx <;> simp at hx <;> subst hx <;> simp [D.ment] at hj
  | _ => simp [AS.ev] at hx

theorem ownT_ment : ∀ {d : D} {τ : Ty} {x : T τ} {l : List Nat}, ownT s d τ = some (x, l) → ∀ j, j ∈ l → d.ment j = true := by
  intro d
  induction d with
  | t τ' y =>
    intro τ x l he j hj
    simp only [ownT] at he
    cases hf : τ'.flat with
    | false => rw [hf] at he; simp at he
    | true =>
      rw [hf] at he
      simp only [cond_true] at he
      split at he
      · simp only [Option.some.injEq, Prod.mk.injEq] at he
        rw [← he.2] at hj
        simp at hj
      · simp at he
  | nil => intro τ x l he j hj; cases τ <;> simp [ownT] at he; rw [he.2] at hj; simp at hj
  | own id =>
    intro τ x l he j hj
    cases τ with
    | sl e =>
      simp only [ownT] at he
      split at he
      · rename_i e' dp xs hb
        cases hc : (dp || e'.flat) with
        | false => rw [hc] at he; simp at he
        | true =>
          rw [hc] at he
          simp only [cond_true] at he
          split at he
          · simp only [Option.some.injEq, Prod.mk.injEq] at he
            rw [← he.2] at hj
            simp at hj
            subst hj
            simp [D.ment]
          · simp at he
      · simp at he
    | _ => simp [ownT] at he
  | pr a b iha ihb =>
    intro τ x l he j hj
    cases τ with
    | p t1 t2 =>
      simp only [ownT] at he
      split at he
      · rename_i u l1 v l2 h1 h2
        simp only [Option.some.injEq, Prod.mk.injEq] at he
        rw [← he.2] at hj
        simp only [D.ment, Bool.or_eq_true]
        rcases List.mem_append.1 hj with hj | hj
        · exact .inl (iha h1 j hj)
        · exact .inr (ihb h2 j hj)
      · simp at he
    | _ => simp [ownT] at he
  | un => intro τ x l he j hj; cases τ <;> simp [ownT] at he; rw [he] at hj; simp at hj
  | _ => intro τ x l he; cases τ <;> simp [ownT] at he

/-- a handed-over datum's rows, as they come back -/
theorem updD_ok (h : Conc n0 A O0 w0 s σ φ a w) : ∀ {d : D} {τ : Ty} {x x' : T τ} {l : List Nat} {cs : List Value} {F : List Nat}, ownT s d τ = some (x, l) → l.Nodup → Rep w (OO O0 s φ) s.heap σ d cs → Own w' τ x' cs F →
    (updD d τ x').map (·.1) = l ∧ ∃ ψ : Nat → List Nat, blocks ψ l = F ∧ ∀ p, p ∈ updD d τ x' → ∃ e xs blk, p.2 = some (.row e true xs) ∧ Own w' (.sl e) xs [σ p.1] (ψ p.1) ∧ s.heap p.1 = some blk ∧ blk.like (.row e true xs) := by
  intro d
  induction d with
  | t τ' y =>
    intro τ x x' l cs F he hn hr ho
    simp only [ownT] at he
    cases hf : τ'.flat with
    | false => rw [hf] at he; simp at he
    | true =>
      rw [hf] at he
      simp only [cond_true] at he
      split at he
      · rename_i q hq
        subst q
        simp only [Option.some.injEq, Prod.mk.injEq] at he
        obtain ⟨rfl, rfl⟩ := he
        have hF := own_flat hf ho
        have hup : updD (.t τ' y) τ' x' = [] := by cases τ' <;> rfl
        rw [hup]
        exact ⟨rfl, fun _ => [], by simp [blocks, hF], by simp⟩
      · simp at he
  | nil =>
    intro τ x x' l cs F he hn hr ho
    cases τ with
    | sl e =>
      simp only [ownT, Option.some.injEq, Prod.mk.injEq] at he
      obtain ⟨rfl, rfl⟩ := he
      simp only [Rep] at hr
      subst hr
      refine ⟨rfl, fun _ => [], ?_, by simp [updD]⟩
      obtain ⟨_, ⟨_, _, h3⟩ | ⟨_, _, _, _, _, _, h1, _⟩⟩ := ho
      · simp [blocks, h3]
      · simp at h1
    | _ => simp [ownT] at he
  | own id =>
    intro τ x x' l cs F he hn hr ho
    cases τ with
    | sl e =>
      simp only [ownT] at he
      split at he
      · rename_i e' dp xs hb
        cases hc : (dp || e'.flat) with
        | false => rw [hc] at he; simp at he
        | true =>
          rw [hc] at he
          simp only [cond_true] at he
          split at he
          · rename_i q hq
            subst q
            simp only [Option.some.injEq, Prod.mk.injEq] at he
            obtain ⟨rfl, rfl⟩ := he
            obtain ⟨u, hcs, _, hu⟩ := hr
            have hu' := hu _ _ hb rfl
            subst hu'
            subst hcs
            have hold := row_own (h.hp id _ hb) (by simpa using hc)
            refine ⟨rfl, fun _ => F, by simp [blocks], ?_⟩
            intro p hp
            simp only [updD, List.mem_singleton] at hp
            subst hp
            exact ⟨e', x', _, rfl, ho, hb, rfl, own_len hold ho⟩
          · simp at he
      · simp at he
    | _ => simp [ownT] at he
  | pr d1 d2 iha ihb =>
    intro τ x x' l cs F he hn hr ho
    cases τ with
    | p t1 t2 =>
      simp only [ownT] at he
      split at he
      · rename_i u l1 v l2 h1 h2
        simp only [Option.some.injEq, Prod.mk.injEq] at he
        obtain ⟨rfl, rfl⟩ := he
        obtain ⟨c1, c2, hc, r1, r2⟩ := hr
        obtain ⟨e1, e2, F1, F2, hc', hF, o1, o2⟩ := ho
        have hlen : c1.length = e1.length := by
          rw [Rep.length (ownT_shape h1) r1, Own.length o1]
        rw [hc] at hc'
        obtain ⟨q1, q2⟩ := List.append_inj hc' hlen
        subst q1; subst q2
        rw [List.nodup_append] at hn
        obtain ⟨i1, ψ1, i2, i3⟩ := iha h1 hn.1 r1 o1
        obtain ⟨j1, ψ2, j2, j3⟩ := ihb h2 hn.2.1 r2 o2
        have hnot : ∀ j, j ∈ l2 → j ∉ l1 := fun j hj hj' => hn.2.2 j hj' j hj rfl
        refine ⟨by simp [updD, i1, j1], fun j => if j ∈ l1 then ψ1 j else ψ2 j, ?_, ?_⟩
        · rw [blocks_append, hF, ← i2, ← j2]
          congr 1
          · unfold blocks
            congr 1
            exact List.map_congr_left fun j hj => by rw [if_pos hj]
          · unfold blocks
            congr 1
            exact List.map_congr_left fun j hj => by rw [if_neg (hnot j hj)]
        · intro p hp
          simp only [updD] at hp
          rcases List.mem_append.1 hp with hp | hp
          · have hm : p.1 ∈ l1 := by rw [← i1]; exact List.mem_map_of_mem hp
            simp only [if_pos hm]
            exact i3 p hp
          · have hm : p.1 ∈ l2 := by rw [← j1]; exact List.mem_map_of_mem hp
            simp only [if_neg (hnot _ hm)]
            exact j3 p hp
      · simp at he
    | _ => simp [ownT] at he
  | un =>
    intro τ x x' l cs F he hn hr ho
    cases τ with
    | u =>
      simp only [ownT, Option.some.injEq, Prod.mk.injEq] at he
      obtain ⟨_, rfl⟩ := he
      simp only [Own] at ho
      exact ⟨rfl, fun _ => [], by simp [blocks, ho.2], by simp [updD]⟩
    | _ => simp [ownT] at he
  | _ => intro τ x x' l cs F he; cases τ <;> simp [ownT] at he

theorem blocks_congr {l : List Nat} (h : ∀ j, j ∈ l → φ j = φ' j) : blocks φ l = blocks φ' l := by
  unfold blocks
  congr 1
  exact List.map_congr_left h

/-- behind a call -/
theorem after_call (h : Conc n0 A O0 w0 s σ φ a w) {l : List Nat} {V : List (Nat × Option Blk)} (hV : V.map (·.1) = l) (hl : l.Nodup) (hlm : ∀ j, j ∈ l → s.ment j = true) {ψ0 : Nat → List Nat} {F1 : List Nat}
    (hb0 : blocks ψ0 l = F1) (hVp : ∀ p, p ∈ V → ∃ e xs blk, p.2 = some (.row e true xs) ∧ Own w' (.sl e) xs [σ p.1] (ψ0 p.1) ∧ s.heap p.1 = some blk ∧ blk.like (.row e true xs))
    (hK : Kept w w' (· ∈ blocks φ l)) (hF1 : ∀ b, b ∈ F1 → w.heap.size ≤ b ∨ b ∈ blocks φ l) {rt : Ty} {r : T rt} {fr : List Bool} {n m : Nat} {d d' : D} {u : List (Nat × Option Blk)} {vs : List Value} {Fr : List Nat}
    (hop : openR rt r fr n = some (d, u, m)) (hfi : freshIds s u = true) (hR : RParts w' (fun b => OO O0 s φ b ∨ b ∈ F1 ∨ b ∈ Fr) rt r fr vs Fr) (hnd : (F1 ++ Fr).Nodup) (hFr : ∀ b, b ∈ Fr → w.heap.size ≤ b ∨ b ∈ blocks φ l)
    (hres : resD d = some d') (he : fin s dst d' (u ++ V) k = some out) : Good n0 A O0 w0 k out (a.put dst (oneV vs)) w' := by
  obtain ⟨hnew, hun⟩ := freshIds_ok hfi
  obtain ⟨_, _, ψ, ν, hb1, hup, hrep⟩ := openR_ok hop hR
  have hul : ∀ j, j ∈ u.map (·.1) → j ∉ l := by
    intro j hj hj'
    obtain ⟨p, hp, rfl⟩ := List.mem_map.1 hj
    have h1 := hnew p hp
    simp only [AS.newOk, Bool.and_eq_true, Bool.not_eq_true'] at h1
    rw [hlm _ hj'] at h1
    simp at h1
  let σ' : Nat → Value := fun j => if j ∈ u.map (·.1) then ν j else σ j
  let φ' : Nat → List Nat := fun j => if j ∈ u.map (·.1) then ψ j else if j ∈ l then ψ0 j else φ j
  have hσu : ∀ p, p ∈ u → σ' p.1 = ν p.1 := fun p hp => if_pos (List.mem_map_of_mem hp)
  have hφu : ∀ j, j ∈ u.map (·.1) → φ' j = ψ j := fun j hj => if_pos hj
  have hφl : ∀ j, j ∈ l → φ' j = ψ0 j := fun j hj => by
    have : j ∉ u.map (·.1) := fun hj' => hul j hj' hj
    show (if j ∈ u.map (·.1) then ψ j else if j ∈ l then ψ0 j else φ j) = ψ0 j
    rw [if_neg this, if_pos hj]
  have hbl : blocks φ' ((u ++ V).map (·.1)) = Fr ++ F1 := by
    rw [List.map_append, blocks_append, hV, ← hb1, ← hb0, blocks_congr hφu, blocks_congr hφl]
  have hc : Conc n0 A O0 w0 ⟨s.n, s.tm, (u ++ V) ++ s.hp⟩ σ' φ' a w' := by
    refine h.adopt (u ++ V) ?_ ?_ ?_ ⟨hK.size, fun b hb hno => hK.block b hb fun hm => hno ?_, hK.os, hK.tape, hK.output⟩ ?_ ?_ ?_
    · rw [List.map_append, hV, List.nodup_append]
      exact ⟨hun, hl, fun x hx y hy e => hul x hx (e ▸ hy)⟩
    · intro j hj
      rw [List.map_append, hV, List.mem_append, not_or] at hj
      exact ⟨if_neg hj.1, (if_neg hj.1).trans (if_neg hj.2)⟩
    · intro p hp
      rcases List.mem_append.1 hp with hp | hp
      · exact .inl (hnew p hp)
      · obtain ⟨e, xs, blk, h1, h2, h3, h4⟩ := hVp p hp
        have hpl : p.1 ∈ l := by rw [← hV]; exact List.mem_map_of_mem hp
        exact .inr ⟨blk, _, h3, h1, h4, if_neg fun hj => hul _ hj hpl⟩
    · obtain ⟨j, hj, hm'⟩ := mem_blocks.1 hm
      rw [← hV] at hj
      obtain ⟨p, hp, rfl⟩ := List.mem_map.1 hj
      obtain ⟨e, xs, blk, h1, h2, h3, h4⟩ := hVp p hp
      exact ⟨p, List.mem_append_right _ hp, blk, h3, hm'⟩
    · intro p hp
      rcases List.mem_append.1 hp with hp | hp
      · obtain ⟨e, xs, h1, h2⟩ := hup p hp
        refine ⟨e, xs, h1, ?_⟩
        rw [hσu p hp, hφu _ (List.mem_map_of_mem hp)]
        exact h2
      · obtain ⟨e, xs, blk, h1, h2, h3, h4⟩ := hVp p hp
        have hpl : p.1 ∈ l := by rw [← hV]; exact List.mem_map_of_mem hp
        refine ⟨e, xs, h1, ?_⟩
        have : σ' p.1 = σ p.1 := if_neg fun hj => hul _ hj hpl
        rw [this, hφl _ hpl]
        exact h2
    · rw [hbl]
      exact (List.perm_append_comm.nodup_iff).1 hnd
    · intro b hb
      rw [hbl] at hb
      have hb2 : w.heap.size ≤ b ∨ b ∈ blocks φ l := by
        rcases List.mem_append.1 hb with hb | hb
        · exact hFr b hb
        · exact hF1 b hb
      rcases hb2 with hb | hb
      · exact .inl hb
      · obtain ⟨j, hj, hm'⟩ := mem_blocks.1 hb
        rw [← hV] at hj
        obtain ⟨p, hp, rfl⟩ := List.mem_map.1 hj
        obtain ⟨e, xs, blk, h1, h2, h3, h4⟩ := hVp p hp
        exact .inr ⟨p, List.mem_append_right _ hp, blk, h3, hm'⟩
  refine fin_good rfl hc ?_ he
  refine resD_ok hres (hrep _ _ _ hσu ?_)
  intro b hb hno hO
  apply hno
  rcases hO with hO | ⟨j, blk, hl', hm⟩
  · exact .inl (.inl hO)
  · by_cases hju : j ∈ u.map (·.1)
    · rw [hφu j hju] at hm
      exact .inr (.inr (by rw [← hb1]; exact mem_blocks.2 ⟨j, hju, hm⟩))
    · by_cases hjl : j ∈ l
      · rw [hφl j hjl] at hm
        exact .inr (.inl (by rw [← hb0]; exact mem_blocks.2 ⟨j, hjl, hm⟩))
      · have hφ : φ' j = φ j := (if_neg hju).trans (if_neg hjl)
        rw [hφ] at hm
        have hne : ∀ (U : List (Nat × Option Blk)), j ∉ U.map (·.1) → aget (U ++ s.hp) j = aget s.hp j := by
          intro U
          induction U with
          | nil => simp
          | cons p U ih =>
            intro hn
            simp only [List.map_cons, List.mem_cons, not_or] at hn
            rw [List.cons_append, aget_cons, if_neg (Ne.symm hn.1), ih hn.2]
        have hjUV : j ∉ (u ++ V).map (·.1) := by
          rw [List.map_append, hV, List.mem_append, not_or]; exact ⟨hju, hjl⟩
        have : s.heap j = some blk := by
          have h1 := hl'
          simp only [AS.heap] at h1 ⊢
          rw [hne _ hjUV] at h1
          exact h1
        exact .inl (.inr ⟨j, blk, this, hm⟩)

theorem blocks_iv (h : Conc n0 A O0 w0 s σ φ a w) {l : List Nat} (hlive : ∀ j, j ∈ l → ∃ b, s.heap j = some b) : ∀ b, b ∈ blocks φ l → A.I.base ≤ b := by
  intro b hb
  obtain ⟨j, hj, hm⟩ := mem_blocks.1 hb
  obtain ⟨blk, hbj⟩ := hlive j hj
  exact h.ivb hbj hm

theorem aget_app_ne {α : Type} {l m : List (Nat × α)} {k : Nat} (h : k ∉ l.map (·.1)) : aget (l ++ m) k = aget m k := by
  induction l with
  | nil => rfl
  | cons p l ih =>
    simp only [List.map_cons, List.mem_cons, not_or] at h
    rw [List.cons_append, aget_cons, if_neg (Ne.symm h.1), ih h.2]

theorem aget_app_mem {α : Type} {l m : List (Nat × α)} : (l.map (·.1)).Nodup → ∀ p, p ∈ l → aget (l ++ m) p.1 = some p.2 := by
  induction l with
  | nil => simp
  | cons q l ih =>
    intro hn p hp
    simp only [List.map_cons, List.nodup_cons] at hn
    rw [List.cons_append, aget_cons]
    rcases List.mem_cons.1 hp with rfl | hp
    · rw [if_pos rfl]
    · rw [if_neg (fun e : q.1 = p.1 => hn.1 (by rw [e]; exact List.mem_map_of_mem hp)), ih hn.2 p hp]

theorem blocks_two {ψ : Nat → List Nat} : ∀ {L : List Nat}, (blocks ψ L).Nodup → ∀ {i j b : Nat}, i ∈ L → j ∈ L → i ≠ j → b ∈ ψ i → b ∉ ψ j := by
  intro L
  induction L with
  | nil => simp
  | cons x L ih =>
    intro hn i j b hi hj hne hbi hbj
    have hx : blocks ψ (x :: L) = ψ x ++ blocks ψ L := by simp [blocks]
    rw [hx, List.nodup_append] at hn
    rcases List.mem_cons.1 hi with e1 | q1
    · rcases List.mem_cons.1 hj with e2 | q2
      · exact hne (e1.trans e2.symm)
      · exact hn.2.2 b (e1 ▸ hbi) b (mem_blocks.2 ⟨j, q2, hbj⟩) rfl
    · rcases List.mem_cons.1 hj with e2 | q2
      · exact hn.2.2 b (e2 ▸ hbj) b (mem_blocks.2 ⟨i, q1, hbi⟩) rfl
      · exact ih hn.2.1 q1 q2 hne hbi hbj

/-- behind a call: new rows U, variables X laid anew, rows l gone -/
theorem Conc.after (h : Conc n0 A O0 w0 s σ φ a w) {U X : List (Nat × Option Blk)} {l : List Nat} {ψ : Nat → List Nat} {ν : Nat → Value}
    (hU : (U.map (·.1)).Nodup) (hUn : ∀ p, p ∈ U → s.newOk p.1 = true) (hX : (X.map (·.1)).Nodup) (hl : ∀ j, j ∈ l → ∃ b, s.heap j = some b) (hXl : ∀ j, j ∈ X.map (·.1) → j ∉ l)
    (hK : Kept w w' (· ∈ blocks φ (X.map (·.1) ++ l))) (hUr : ∀ p, p ∈ U → ∃ e xs, p.2 = some (.row e true xs) ∧ Own w' (.sl e) xs [ν p.1] (ψ p.1))
    (hnd : (blocks ψ (U.map (·.1))).Nodup) (hsub : ∀ b, b ∈ blocks ψ (U.map (·.1)) → w.heap.size ≤ b ∨ b ∈ blocks φ l)
    (hlm : ∀ j, j ∈ X.map (·.1) ++ l → s.newOk j = false)
    (hXr : ∀ p, p ∈ X → ∃ ρ d e, p.2 = some (.box ρ e) ∧ s.heap p.1 = some (.box ρ d) ∧
      ∀ (hp' : Nat → Option Blk) (σ' : Nat → Value) (O' : Nat → Prop), σ' p.1 = σ p.1 → (∀ q, q ∈ U → σ' q.1 = ν q.1) → (∀ b, O' b → OO O0 s φ b ∨ b ∈ blocks ψ (U.map (·.1))) → BlkRep w' O' hp' σ' p.1 (.box ρ e) (φ p.1)) :
    ∃ σ' φ', Conc n0 A O0 w0 ⟨s.n, s.tm, U ++ (X ++ drops l) ++ s.hp⟩ σ' φ' a w' ∧ (∀ q, q ∈ U → σ' q.1 = ν q.1) ∧ (∀ b, OO O0 ⟨s.n, s.tm, U ++ (X ++ drops l) ++ s.hp⟩ φ' b → OO O0 s φ b ∨ b ∈ blocks ψ (U.map (·.1))) := by
  have hUX : ∀ j, j ∈ U.map (·.1) → j ∉ X.map (·.1) ++ l := by
    intro j hj hj'
    obtain ⟨p, hp, rfl⟩ := List.mem_map.1 hj
    have h1 := hlm _ hj'
    rw [hUn p hp] at h1
    simp at h1
  let σ' : Nat → Value := fun j => if j ∈ U.map (·.1) then ν j else σ j
  let φ' : Nat → List Nat := fun j => if j ∈ U.map (·.1) then ψ j else φ j
  have hσu : ∀ p, p ∈ U → σ' p.1 = ν p.1 := fun p hp => if_pos (List.mem_map_of_mem hp)
  have hφu : ∀ j, j ∈ U.map (·.1) → φ' j = ψ j := fun j hj => if_pos hj
  have hφn : ∀ j, j ∉ U.map (·.1) → φ' j = φ j := fun j hj => if_neg hj
  have hσn : ∀ j, j ∉ U.map (·.1) → σ' j = σ j := fun j hj => if_neg hj
  have hget : ∀ j, AS.heap ⟨s.n, s.tm, U ++ (X ++ drops l) ++ s.hp⟩ j = (aget (U ++ (X ++ drops l) ++ s.hp) j).join := fun _ => rfl
  have hgU : ∀ p, p ∈ U → AS.heap ⟨s.n, s.tm, U ++ (X ++ drops l) ++ s.hp⟩ p.1 = p.2 := fun p hp => by
    rw [hget, List.append_assoc, aget_app_mem hU p hp]; rfl
  have hgX : ∀ p, p ∈ X → AS.heap ⟨s.n, s.tm, U ++ (X ++ drops l) ++ s.hp⟩ p.1 = p.2 := fun p hp => by
    have h1 : p.1 ∉ U.map (·.1) := fun hc => hUX _ hc (List.mem_append_left _ (List.mem_map_of_mem hp))
    rw [hget, List.append_assoc, aget_app_ne h1, List.append_assoc, aget_app_mem hX p hp]; rfl
  have hgl : ∀ j, j ∈ l → AS.heap ⟨s.n, s.tm, U ++ (X ++ drops l) ++ s.hp⟩ j = none := fun j hj => by
    have h1 : j ∉ U.map (·.1) := fun hc => hUX _ hc (List.mem_append_right _ hj)
    have h2 : j ∉ X.map (·.1) := fun hc => hXl j hc hj
    rw [hget, List.append_assoc, aget_app_ne h1, List.append_assoc, aget_app_ne h2, aget_drops, if_pos hj]; rfl
  have hgo : ∀ j, j ∉ U.map (·.1) → j ∉ X.map (·.1) → j ∉ l → AS.heap ⟨s.n, s.tm, U ++ (X ++ drops l) ++ s.hp⟩ j = s.heap j := fun j h1 h2 h3 => by
    rw [hget, List.append_assoc, aget_app_ne h1, List.append_assoc, aget_app_ne h2, aget_drops, if_neg h3]; rfl
  have hbX : ∀ p, p ∈ X → ∃ blk, s.heap p.1 = some blk := fun p hp => by
    obtain ⟨ρ, d, e, _, h2, _⟩ := hXr p hp
    exact ⟨_, h2⟩
  have hOO : ∀ b, OO O0 ⟨s.n, s.tm, U ++ (X ++ drops l) ++ s.hp⟩ φ' b → OO O0 s φ b ∨ b ∈ blocks ψ (U.map (·.1)) := by
    rintro b (hb | ⟨j, blk, hl', hm⟩)
    · exact .inl (.inl hb)
    · by_cases hju : j ∈ U.map (·.1)
      · rw [hφu j hju] at hm
        exact .inr (mem_blocks.2 ⟨j, hju, hm⟩)
      · rw [hφn j hju] at hm
        by_cases hjx : j ∈ X.map (·.1)
        · obtain ⟨p, hp, rfl⟩ := List.mem_map.1 hjx
          obtain ⟨blk', hb'⟩ := hbX p hp
          exact .inl (.inr ⟨p.1, blk', hb', hm⟩)
        · by_cases hjl : j ∈ l
          · rw [hgl j hjl] at hl'; simp at hl'
          · rw [hgo j hju hjx hjl] at hl'
            exact .inl (.inr ⟨j, blk, hl', hm⟩)
  refine ⟨σ', φ', ?_, hσu, hOO⟩
  refine h.trans (fun j => j ∈ U.map (·.1) ∨ j ∈ X.map (·.1) ∨ j ∈ l) rfl rfl ?_ ?_ hK.size ?_ ?_ ?_ ?_ hK.os hK.tape hK.output ?_
  · intro j hj
    simp only [not_or] at hj
    exact ⟨hgo j hj.1 hj.2.1 hj.2.2, hσn j hj.1, hφn j hj.1⟩
  · intro b hb hno
    refine hK.block b hb fun hm => ?_
    obtain ⟨j, hj, hm⟩ := mem_blocks.1 hm
    rcases List.mem_append.1 hj with hj | hj
    · obtain ⟨p, hp, rfl⟩ := List.mem_map.1 hj
      obtain ⟨blk', hb'⟩ := hbX p hp
      exact hno p.1 blk' (.inr (.inl hj)) hb' hm
    · obtain ⟨blk', hb'⟩ := hl j hj
      exact hno j blk' (.inr (.inr hj)) hb' hm
  · intro j blk' hj hl' b hbm
    rcases hj with hj | hj | hj
    · rw [hφu j hj] at hbm
      rcases hsub b (mem_blocks.2 ⟨j, hj, hbm⟩) with h1 | h1
      · exact .inl h1
      · obtain ⟨i, hi, hm⟩ := mem_blocks.1 h1
        obtain ⟨blk, hb⟩ := hl i hi
        exact .inr ⟨i, blk, .inr (.inr hi), hb, hm⟩
    · have hju : j ∉ U.map (·.1) := fun hc => hUX _ hc (List.mem_append_left _ hj)
      rw [hφn j hju] at hbm
      obtain ⟨p, hp, rfl⟩ := List.mem_map.1 hj
      obtain ⟨blk, hb⟩ := hbX p hp
      exact .inr ⟨p.1, blk, .inr (.inl hj), hb, hbm⟩
    · rw [hgl j hj] at hl'; simp at hl'
  · intro j blk' hj hl' hm
    rcases hj with hj | hj | hj
    · obtain ⟨p, hp, rfl⟩ := List.mem_map.1 hj
      have hn := hUn p hp
      simp only [AS.newOk, Bool.and_eq_true, Bool.not_eq_true'] at hn
      rw [hn.1] at hm; simp at hm
    · have hju : j ∉ U.map (·.1) := fun hc => hUX _ hc (List.mem_append_left _ hj)
      obtain ⟨p, hp, rfl⟩ := List.mem_map.1 hj
      obtain ⟨ρ, d, e, h1, h2, _⟩ := hXr p hp
      rw [hgX p hp, h1] at hl'
      simp only [Option.some.injEq] at hl'
      subst hl'
      exact ⟨_, h2, by simp [Blk.like], hσn _ hju⟩
    · rw [hgl j hj] at hl'; simp at hl'
  · intro j blk' hj hl'
    rcases hj with hj | hj | hj
    · rw [hφu j hj]
      obtain ⟨p, hp, rfl⟩ := List.mem_map.1 hj
      obtain ⟨e, xs, he, ho⟩ := hUr p hp
      rw [hgU p hp, he] at hl'
      simp only [Option.some.injEq] at hl'
      subst hl'
      refine ⟨?_, ?_⟩
      · show Own w' (.sl e) xs [σ' p.1] (ψ p.1)
        rw [hσu p hp]; exact ho
      · have : (ψ p.1).Sublist (blocks ψ (U.map (·.1))) := by
          unfold blocks
          exact List.sublist_flatten_of_mem (List.mem_map_of_mem (List.mem_map_of_mem hp))
        exact this.nodup hnd
    · have hju : j ∉ U.map (·.1) := fun hc => hUX _ hc (List.mem_append_left _ hj)
      rw [hφn j hju]
      obtain ⟨p, hp, rfl⟩ := List.mem_map.1 hj
      obtain ⟨ρ, d, e, h1, h2, h3⟩ := hXr p hp
      rw [hgX p hp, h1] at hl'
      simp only [Option.some.injEq] at hl'
      subst hl'
      exact ⟨h3 _ _ _ (hσn _ hju) hσu hOO, h.nodup _ _ h2⟩
    · rw [hgl j hj] at hl'; simp at hl'
  · intro i j b1 b2 hi hj hne hl1 hl2 b hbi hbj
    have hlt : ∀ p, p ∈ X → b ∈ φ p.1 → b ∉ blocks ψ (U.map (·.1)) := by
      intro p hp hm hc
      obtain ⟨blk, hb⟩ := hbX p hp
      rcases hsub b hc with h1 | h1
      · have := (h.hp p.1 blk hb).lt b hm; omega
      · obtain ⟨q, hq, hmq⟩ := mem_blocks.1 h1
        obtain ⟨blk2, hb2⟩ := hl q hq
        exact h.disj p.1 q blk blk2 (fun e => hXl p.1 (List.mem_map_of_mem hp) (e ▸ hq)) hb hb2 b hm hmq
    rcases hi with hi | hi | hi
    · rw [hφu i hi] at hbi
      rcases hj with hj | hj | hj
      · rw [hφu j hj] at hbj
        exact blocks_two hnd hi hj hne hbi hbj
      · have hju : j ∉ U.map (·.1) := fun hc => hUX _ hc (List.mem_append_left _ hj)
        rw [hφn j hju] at hbj
        obtain ⟨p, hp, rfl⟩ := List.mem_map.1 hj
        exact hlt p hp hbj (mem_blocks.2 ⟨i, hi, hbi⟩)
      · rw [hgl j hj] at hl2; simp at hl2
    · have hiu : i ∉ U.map (·.1) := fun hc => hUX _ hc (List.mem_append_left _ hi)
      rw [hφn i hiu] at hbi
      rcases hj with hj | hj | hj
      · rw [hφu j hj] at hbj
        obtain ⟨p, hp, rfl⟩ := List.mem_map.1 hi
        exact hlt p hp hbi (mem_blocks.2 ⟨j, hj, hbj⟩)
      · have hju : j ∉ U.map (·.1) := fun hc => hUX _ hc (List.mem_append_left _ hj)
        rw [hφn j hju] at hbj
        obtain ⟨p, hp, rfl⟩ := List.mem_map.1 hi
        obtain ⟨q, hq, rfl⟩ := List.mem_map.1 hj
        obtain ⟨blk, hb⟩ := hbX p hp
        obtain ⟨blk2, hb2⟩ := hbX q hq
        exact h.disj _ _ blk blk2 hne hb hb2 b hbi hbj
      · rw [hgl j hj] at hl2; simp at hl2
    · rw [hgl i hi] at hl1; simp at hl1
  · intro j hj
    by_cases hju : j ∈ U.map (·.1)
    · obtain ⟨p, hp, rfl⟩ := List.mem_map.1 hju
      exact .inr (newOk_lt (hUn p hp))
    · exact .inl (hσn j hju)

theorem wp_enter {f : FuncId} {args : List Value} (hrun : (execOp a.eval o).run P w = .ok (.enter f args.toArray) w) {R : Value → World → Prop} (hc : Calls P f args.toArray w (Returns R))
    (hg : ∀ v w', R v w' → Good n0 A O0 w0 k out (a.put o.dst v) w') : o.wp P a w (Good n0 A O0 w0 k out) Q := by
  unfold Oper.wp
  rw [hrun, Oper.upon_enter]
  refine hc.mono fun e w' hR => ?_
  cases e with
  | returned v => exact hg v w' hR
  | panicked chain => exact hR.elim
  | outgrown => exact hR.elim

theorem oargs_ok (h : Conc n0 A O0 w0 s σ φ a w) : ∀ {args : List Operand} {ds : D} {pt : Ty} {x : T pt} {l : List Nat}, evs s args = some ds → ownT s ds pt = some (x, l) →
    OArgs w pt x (args.map a.eval) (blocks φ l) ∧ (∀ j, j ∈ l → ∃ b, s.heap j = some b) ∧ (∀ j, j ∈ l → s.ment j = true)
  | [], ds, pt, x, l, he, hv => by
    simp only [evs, Option.some.injEq] at he
    subst he
    cases pt <;> simp [ownT] at hv
    subst hv
    exact ⟨rfl, by simp, by simp⟩
  | y :: r, ds, pt, x, l, he, hv => by
    simp only [evs] at he
    split at he
    · rename_i d1 d2 h1 h2
      simp only [Option.some.injEq] at he
      subst he
      cases pt with
      | p t1 t2 =>
        simp only [ownT] at hv
        split at hv
        · rename_i u1 l1 u2 l2 hu1 hu2
          simp only [Option.some.injEq, Prod.mk.injEq] at hv
          obtain ⟨rfl, rfl⟩ := hv
          obtain ⟨hr, hvv⟩ := rep_cells (ownT_shape hu1) (h.ev h1)
          obtain ⟨ho, hlive⟩ := ownT_ok h hu1 hr
          obtain ⟨a1, a2, a3⟩ := oargs_ok h h2 hu2
          refine ⟨⟨_, blocks φ l1, blocks φ l2, hvv, blocks_append, ho, a1⟩, fun j hj => ?_, fun j hj => ?_⟩
          · rcases List.mem_append.1 hj with hj | hj
            · exact hlive j hj
            · exact a2 j hj
          · rcases List.mem_append.1 hj with hj | hj
            · exact ev_ment h1 (ownT_ment hu1 j hj)
            · exact a3 j hj
        · simp at hv
      | _ => simp [ownT] at hv
    · simp at he

theorem ment_newOk {j : Nat} (h : s.ment j = true) : s.newOk j = false := by simp [AS.newOk, h]

/-- the row is to be read only -/
theorem row_frozen {id : Nat} {e : Ty} {dp : Bool} {xs : List (T e)} {O O' : Nat → Prop} {hp : Nat → Option Blk} {F : List Nat} (h : BlkRep w O hp σ id (.row e dp xs) F) (hO : ∀ b, O' b → O b) (hF : ∀ b, b ∈ F → ¬ O' b) :
    View w O' (.sl e) xs [σ id] := by
  cases dp with
  | true => exact Own.view (show Own w (.sl e) xs [σ id] F from h) hF
  | false =>
    simp only [BlkRep] at h
    obtain ⟨hm, ⟨h1, h2, _⟩ | ⟨bl, off, cap, cur, et, h1, hh, h2, h3, h4, hF', hv⟩⟩ := h
    · subst h2; exact ⟨none, 0, by rw [h1]; rfl, Nat.le_refl _, hm, .inl rfl⟩
    · have := Nat.mul_le_mul_right e.size h2
      exact ⟨_, cap, by rw [h1], h2, hm, .inr ⟨bl, off, cur, et, _, rfl, hF bl (by rw [hF']; simp), hh, by omega, fun i hi => (hv i hi).weaken hO⟩⟩


/-- rows that are not to be used any more -/
theorem Conc.drop (h : Conc n0 A O0 w0 s σ φ a w) (l : List Nat) : Conc n0 A O0 w0 ⟨s.n, s.tm, drops l ++ s.hp⟩ σ φ a w := by
  have hn : ∀ j, j ∈ l → AS.heap ⟨s.n, s.tm, drops l ++ s.hp⟩ j = none := fun j hj => by simp only [AS.heap, aget_drops, if_pos hj]; rfl
  refine h.trans (· ∈ l) rfl rfl (fun id hid => ⟨by simp only [AS.heap, aget_drops, if_neg hid], rfl, rfl⟩) (fun _ _ _ => rfl) (Nat.le_refl _) ?_ ?_ ?_ ?_ rfl rfl rfl (fun _ _ => .inl rfl)
  · intro id blk hid hl; rw [hn id hid] at hl; simp at hl
  · intro id blk hid hl; rw [hn id hid] at hl; simp at hl
  · intro id blk hid hl; rw [hn id hid] at hl; simp at hl
  · intro id id' blk blk' hid _ _ hl; rw [hn id hid] at hl; simp at hl
theorem OO_drop {l : List Nat} {b : Nat} (hb : OO O0 ⟨s.n, s.tm, drops l ++ s.hp⟩ φ b) : O0 b ∨ ∃ j blk, j ∉ l ∧ s.heap j = some blk ∧ b ∈ φ j := by
  rcases hb with hb | ⟨j, blk, hl, hm⟩
  · exact .inl hb
  · by_cases hj : j ∈ l
    · simp only [AS.heap, aget_drops, if_pos hj] at hl; simp at hl
    · simp only [AS.heap, aget_drops, if_neg hj] at hl
      exact .inr ⟨j, blk, hj, hl, hm⟩
theorem newOk_drop {l : List Nat} {j : Nat} : AS.newOk ⟨s.n, s.tm, drops l ++ s.hp⟩ j = s.newOk j := by
  have : AS.ment ⟨s.n, s.tm, drops l ++ s.hp⟩ j = s.ment j := by
    simp only [AS.ment, List.any_append]
    have : (drops l).any (fun x => (x.2.map (Blk.ment j)).getD false) = false := by
      rw [List.any_eq_false]
      intro x hx
      obtain ⟨k, _, rfl⟩ := List.mem_map.1 hx
      simp
    rw [this, Bool.false_or]
  simp only [AS.newOk, this]
theorem freshIds_drop {l : List Nat} {u : List (Nat × Option Blk)} : freshIds ⟨s.n, s.tm, drops l ++ s.hp⟩ u = freshIds s u := by
  simp only [freshIds, newOk_drop]
theorem viewT_drop (hA : ∀ b, ¬ A.A b) (h : Conc n0 A O0 w0 s σ φ a w) {L : List Nat} : ∀ {d : D} {τ : Ty} {x : T τ} {cs : List Value}, viewT s d τ = some x → Rep w (OO O0 s φ) s.heap σ d cs → d.noCut = true → (∀ j, j ∈ d.owns → j ∈ L) →
    View w (OO O0 ⟨s.n, s.tm, drops L ++ s.hp⟩ φ) τ x cs := by
  have hO : ∀ b, OO O0 ⟨s.n, s.tm, drops L ++ s.hp⟩ φ b → OO O0 s φ b := fun b hb => by
    rcases OO_drop hb with hb | ⟨j, blk, _, hl, hm⟩
    · exact .inl hb
    · exact .inr ⟨j, blk, hl, hm⟩
  intro d
  induction d with
  | t τ' y =>
    intro τ x cs he hr _ _
    simp only [viewT] at he
    split at he
    · rename_i q hq
      obtain rfl := dec_eq hq
      simp only [Option.some.injEq] at he
      subst he
      exact View.weaken hO hr
    · simp at he
  | nil =>
    intro τ x cs he hr _ _
    cases τ with
    | sl e =>
      simp only [viewT, Option.some.injEq] at he
      subst he
      simp only [Rep] at hr
      exact ⟨none, 0, hr, Nat.le_refl _, by simp, .inl rfl⟩
    | _ => simp [viewT] at he
  | own id =>
    intro τ x cs he hr _ hL
    cases τ with
    | sl e =>
      simp only [viewT] at he
      split at he
      · rename_i e' dp xs hb
        split at he
        · rename_i q hq
          obtain rfl := dec_eq hq
          simp only [Option.some.injEq] at he
          subst he
          obtain ⟨v, hcs, _, hv⟩ := hr
          rw [hcs, hv _ _ hb rfl]
          refine row_frozen (h.hp id _ hb) hO fun b hm hb' => ?_
          have hid : id ∈ L := hL id (by simp [D.owns])
          rcases OO_drop hb' with ho | ⟨j, blk, hj, hl, hm'⟩
          · rcases h.fresh id _ hb b hm with hge | hA'
            · have := h.o0 b ho; omega
            · exact hA b hA'
          · exact h.disj id j _ blk (fun e => hj (e ▸ hid)) hb hl b hm hm'
        · simp at he
      · simp at he
    | _ => simp [viewT] at he
  | pr y z ih1 ih2 =>
    intro τ x cs he hr hc hL
    cases τ with
    | p t1 t2 =>
      simp only [viewT] at he
      split at he
      · rename_i u v hu hv
        simp only [Option.some.injEq] at he
        subst he
        simp only [D.noCut, Bool.and_eq_true] at hc
        obtain ⟨c1, c2, h0, h1, h2⟩ := hr
        exact ⟨c1, c2, h0, ih1 hu h1 hc.1 fun j hj => hL j (by simp [D.owns, hj]), ih2 hv h2 hc.2 fun j hj => hL j (by simp [D.owns, hj])⟩
      · simp at he
    | _ => simp [viewT] at he
  | un =>
    intro τ x cs he hr _ _
    cases τ with
    | u => simp only [Rep] at hr; exact hr
    | _ => simp [viewT] at he
  | cut id lo hi => intro τ x cs _ _ hc; simp [D.noCut] at hc
  | _ => intro τ x cs he; cases τ <;> simp [viewT] at he
theorem vargs_drop (hA : ∀ b, ¬ A.A b) (h : Conc n0 A O0 w0 s σ φ a w) {L : List Nat} :
    ∀ {args : List Operand} {ds : D} {pt : Ty} {x : T pt}, evs s args = some ds → viewT s ds pt = some x → ds.noCut = true → (∀ j, j ∈ ds.owns → j ∈ L) → VArgs w (OO O0 ⟨s.n, s.tm, drops L ++ s.hp⟩ φ) pt x (args.map a.eval)
  | [], ds, pt, x, he, hv, _, _ => by
    simp only [evs, Option.some.injEq] at he
    subst he
    cases pt <;> simp [viewT] at hv
    trivial
  | y :: r, ds, pt, x, he, hv, hc, hL => by
    simp only [evs] at he
    split at he
    · rename_i d1 d2 h1 h2
      simp only [Option.some.injEq] at he
      subst he
      cases pt with
      | p t1 t2 =>
        simp only [viewT] at hv
        split at hv
        · rename_i u1 u2 hu1 hu2
          simp only [Option.some.injEq] at hv
          subst hv
          simp only [D.noCut, Bool.and_eq_true] at hc
          obtain ⟨hr, hvv⟩ := rep_cells (viewT_shape hu1) (h.ev h1)
          exact ⟨⟨_, hvv, viewT_drop hA h hu1 hr hc.1 fun j hj => hL j (by simp [D.owns, hj])⟩, vargs_drop hA h h2 hu2 hc.2 fun j hj => hL j (by simp [D.owns, hj])⟩
        · simp at hv
      | _ => simp [viewT] at hv
    · simp at he

theorem op_call (hG : EnvOk P A.I G) (hfz : G.fz = true → ∀ b, ¬ A.A b) (h : Conc n0 A O0 w0 s σ φ a w) {f : FuncId} {args : Array Operand} {ts : Array TypeId} (ho : o.op = .call ⟨.value (.func f), args, ts⟩)
    (he : aop G s o k = some out) : o.wp P a w (Good n0 A O0 w0 k out) Q := by
  simp only [aop, aopK, ho] at he
  unfold aCallK at he
  split at he
  · -- read only
    rename_i pt rt fr F hfn
    obtain ⟨hE, hS⟩ := hG.fn _ _ hfn
    split at he
    · rename_i ds hds
      split at he
      · rename_i x hx
        cases hr : F x with
        | none => simp [hr] at he
        | some r =>
          simp only [hr, Option.bind_some] at he
          split at he
          · rename_i d u m hop
            split at he
            · rename_i d' hres
              cases hc : (Nat.ble m (100064 + 64 * o.dst.getD 0) && freshIds s u && ((!ds.hasOwn || fr.all id) || (G.fz && ds.noCut))) with
              | false => rw [hc] at he; simp at he
              | true =>
                rw [hc] at he
                simp only [cond_true] at he
                simp only [Bool.and_eq_true] at hc
                obtain ⟨⟨_, hfi⟩, hno⟩ := hc
                cases hno1 : (!ds.hasOwn || fr.all id) with
                | false =>
                  rw [hno1] at hno he
                  simp only [Bool.false_or, Bool.and_eq_true] at hno
                  simp only [cond_false] at he
                  have h1 := h.drop ds.owns
                  have hV := vargs_drop (hfz hno.1) h (L := ds.owns) hds hx hno.2 fun j hj => hj
                  refine wp_enter (run_enter ho hE) (hS _ w x r _ hr hV (fun b hb => h1.OO_lt hb) h.iv (Nat.le_trans h.iv0 h.fr.size)) ?_
                  rintro v w' ⟨vs, Fr, rfl, hK, hR, hFn, hFr⟩
                  have e : (fun b => OO O0 ⟨s.n, s.tm, drops ds.owns ++ s.hp⟩ φ b ∨ b ∈ ([] : List Nat) ∨ b ∈ Fr) = (fun b => OO O0 ⟨s.n, s.tm, drops ds.owns ++ s.hp⟩ φ b ∨ b ∈ Fr) := by
                    funext b; simp
                  refine after_call (s := ⟨s.n, s.tm, drops ds.owns ++ s.hp⟩) (V := []) (l := []) (ψ0 := fun _ => []) (F1 := []) h1 rfl List.nodup_nil (by simp) (by simp [blocks]) (by simp) ⟨hK.size, fun b hb _ => hK.block b hb (fun h => h), hK.os, hK.tape, hK.output⟩ (by simp)
                    hop (freshIds_drop.trans hfi) (by rw [e]; exact hR) (by simpa using hFn) (fun b hb => .inl (hFr b hb)) hres ?_
                  unfold fin at he ⊢
                  simp only [List.append_nil, ← List.append_assoc]
                  exact he
                | true =>
                rw [hno1] at he
                simp only [cond_true] at he
                simp only [Bool.or_eq_true, Bool.not_eq_true'] at hno1
                have hno := hno1
                have key : ∃ O : Nat → Prop, (∀ b, O b → b < w.heap.size) ∧ VArgs w O pt x (args.toList.map a.eval) ∧
                    ∀ (w' : World) (vs : List Value) (Fr : List Nat), RParts w' (fun b => O b ∨ b ∈ Fr) rt r fr vs Fr → RParts w' (fun b => OO O0 s φ b ∨ b ∈ ([] : List Nat) ∨ b ∈ Fr) rt r fr vs Fr := by
                  rcases hno with hno | hno
                  · refine ⟨OO O0 s φ, fun b hb => h.OO_lt hb, vargs_ok h (fun d τ x cs he hr ho => ?_) hds hx (.inr hno), fun w' vs Fr hR => ?_⟩
                    · rcases ho with ho | ho
                      · rw [ho]; exact viewT_noO h he hr
                      · exact (toT_view (viewT_toT ho he)).2 _ hr
                    · have : (fun b => OO O0 s φ b ∨ b ∈ ([] : List Nat) ∨ b ∈ Fr) = (fun b => OO O0 s φ b ∨ b ∈ Fr) := by
                        funext b; simp
                      rw [this]; exact hR
                  · exact ⟨noO, fun b hb => hb.elim, vargs_ok h (fun d τ x cs he hr _ => viewT_noO h he hr) hds hx (.inl rfl), fun w' vs Fr hR => hR.all hno⟩
                obtain ⟨O, hO1, hO2, hO3⟩ := key
                refine wp_enter (run_enter ho hE) (hS O w x r _ hr hO2 hO1 h.iv (Nat.le_trans h.iv0 h.fr.size)) ?_
                rintro v w' ⟨vs, Fr, rfl, hK, hR, hFn, hFr⟩
                exact after_call (V := []) (l := []) (ψ0 := fun _ => []) (F1 := []) h rfl List.nodup_nil (by simp) (by simp [blocks]) (by simp) ⟨hK.size, fun b hb _ => hK.block b hb (fun h => h), hK.os, hK.tape, hK.output⟩ (by simp)
                  hop hfi (hO3 _ _ _ hR) (by simpa using hFn) (fun b hb => .inl (hFr b hb)) hres (by simpa using he)
            · simp at he
          · simp at he
      · simp at he
    · simp at he
  · -- one argument is handed over
    rename_i τ pt rt fr F hfn
    obtain ⟨hE, hS⟩ := hG.fn _ _ hfn
    split at he
    · rename_i a0 args' hargs
      split at he
      · rename_i d0 ds hd0 hds
        split at he
        · rename_i x0 l x hx0 hx
          cases hr : F x0 x with
          | none => simp [hr] at he
          | some r =>
            simp only [hr, Option.bind_some] at he
            split at he
            · rename_i d u m hop
              split at he
              · rename_i d' hres
                cases hc : (Nat.ble m (100064 + 64 * o.dst.getD 0) && freshIds s u && nodupB l && !ds.hasOwn) with
                | false => rw [hc] at he; simp at he
                | true =>
                  rw [hc] at he
                  simp only [cond_true] at he
                  simp only [Bool.and_eq_true, Bool.not_eq_true'] at hc
                  obtain ⟨⟨⟨_, hfi⟩, hnd⟩, hno⟩ := hc
                  have hnd := nodupB_ok hnd
                  obtain ⟨hrep, hval⟩ := rep_cells (ownT_shape hx0) (h.ev hd0)
                  obtain ⟨hown, hlive⟩ := ownT_ok h hx0 hrep
                  have hbn := blocks_nodup h hnd hlive
                  have hva : VArgs w (OO O0 s φ) pt x (args'.map a.eval) := by
                    refine vargs_ok h (fun d τ x cs he hr ho => ?_) hds hx (.inr hno)
                    rcases ho with ho | ho
                    · rw [ho]; exact viewT_noO h he hr
                    · exact (toT_view (viewT_toT ho he)).2 _ hr
                  have hsub : ∀ b, b ∈ blocks φ l → OO O0 s φ b := by
                    intro b hb
                    obtain ⟨j, hj, hm⟩ := mem_blocks.1 hb
                    obtain ⟨blk, hbj⟩ := hlive j hj
                    exact .inr ⟨j, blk, hbj, hm⟩
                  have hOO : (fun b => OO O0 s φ b ∨ b ∈ blocks φ l) = OO O0 s φ := by
                    funext b
                    exact propext ⟨fun h => h.elim id (hsub b), .inl⟩
                  have hrun := run_enter (a := a) (w := w) ho hE
                  rw [hargs, List.map_cons, hval] at hrun
                  refine wp_enter hrun (hS (OO O0 s φ) w x0 x r _ _ _ hr hown hbn (by rw [hOO]; exact hva) (fun b hb => h.OO_lt hb) h.iv (Nat.le_trans h.iv0 h.fr.size) (blocks_iv h hlive)) ?_
                  rintro v w' ⟨vs, F1, Fr, rfl, hK, hown', hF1, hR, hFn, hFr⟩
                  obtain ⟨g1, ψ, g2, g3⟩ := updD_ok h hx0 hnd hrep hown'
                  refine after_call (V := updD d0 τ r.1) (l := l) (ψ0 := ψ) (F1 := F1) h g1 hnd (fun j hj => ev_ment hd0 (ownT_ment hx0 j hj)) g2 g3 hK hF1 hop hfi ?_ hFn hFr hres he
                  have : (fun b => OO O0 s φ b ∨ b ∈ F1 ∨ b ∈ Fr) = (fun b => OO O0 s φ b ∨ b ∈ blocks φ l ∨ b ∈ F1 ∨ b ∈ Fr) := by
                    funext b
                    refine propext ⟨fun h => h.elim .inl fun h => .inr (.inr h), fun h => h.elim .inl fun h => h.elim (fun h => .inl (hsub b h)) .inr⟩
                  rw [this]
                  exact hR
              · simp at he
            · simp at he
        · simp at he
      · simp at he
    · simp at he
  · -- all arguments are handed over
    rename_i pt rt fr F hfn
    obtain ⟨hE, hS⟩ := hG.fn _ _ hfn
    split at he
    · rename_i ds hds
      split at he
      · rename_i x l hx
        cases hr : F x with
        | none => simp [hr] at he
        | some r =>
          simp only [hr, Option.bind_some] at he
          split at he
          · rename_i d u m hop
            split at he
            · rename_i d' hres
              cases hc : (Nat.ble m (100064 + 64 * o.dst.getD 0) && freshIds s u && nodupB l) with
              | false => rw [hc] at he; simp at he
              | true =>
                rw [hc] at he
                simp only [cond_true] at he
                simp only [Bool.and_eq_true] at hc
                obtain ⟨⟨_, hfi⟩, hnd⟩ := hc
                have hnd := nodupB_ok hnd
                obtain ⟨hnew, hun⟩ := freshIds_ok hfi
                obtain ⟨hoa, hlive, hlm⟩ := oargs_ok h hds hx
                have hbn := blocks_nodup h hnd hlive
                have hsub : ∀ b, b ∈ blocks φ l → OO O0 s φ b := by
                  intro b hb
                  obtain ⟨j, hj, hm⟩ := mem_blocks.1 hb
                  obtain ⟨blk, hbj⟩ := hlive j hj
                  exact .inr ⟨j, blk, hbj, hm⟩
                refine wp_enter (run_enter ho hE) (hS (OO O0 s φ) w x r _ _ hr hoa hbn (fun b hb => h.OO_lt hb) h.iv (Nat.le_trans h.iv0 h.fr.size) (blocks_iv h hlive)) ?_
                rintro v w' ⟨vs, Fr, rfl, hK, hR, hFn, hFr⟩
                obtain ⟨_, _, ψ, ν, hb1, hup, hrep⟩ := openR_ok hop hR
                obtain ⟨σ', φ', hc', g1, g2⟩ := h.after (U := u) (X := []) (l := l) (ψ := ψ) (ν := ν) hun hnew (by simp) hlive (by simp) (by simpa using hK) hup (by rw [hb1]; exact hFn)
                  (by rw [hb1]; exact hFr) (fun j hj => ment_newOk (hlm j (by simpa using hj))) (by simp)
                refine fin_good (upd := u ++ drops l) rfl hc' ?_ he
                refine resD_ok hres (hrep _ _ _ g1 fun b _ hno hO => hno ?_)
                rcases g2 b hO with h1 | h1
                · exact .inl h1
                · exact .inr (.inr (hb1 ▸ h1))
            · simp at he
          · simp at he
      · simp at he
    · simp at he
  · -- a variable is handed over
    rename_i vw cv τ pt rt fr F hfn
    obtain ⟨hE, hS⟩ := hG.fn _ _ hfn
    split at he
    · rename_i a0 args' hargs
      split at he
      · rename_i bid ds hd0 hds
        split at he
        · rename_i τ' d0 hbx
          split at he
          · rename_i q x0 l x l2 hq hx0 hx
            obtain rfl := dec_eq hq
            cases hr : F x0 x with
            | none => simp [hr] at he
            | some r =>
              simp only [hr, Option.bind_some] at he
              split at he
              · rename_i d u m hop
                split at he
                · rename_i d' e v m' hres hev
                  cases hc : (Nat.ble m' (100064 + 64 * o.dst.getD 0) && freshIds s (u ++ v) && nodupB (bid :: (l ++ l2)) && (cv || !ds.hasOwn)) with
                  | false => rw [hc] at he; simp at he
                  | true =>
                    rw [hc] at he
                    simp only [cond_true] at he
                    simp only [Bool.and_eq_true] at hc
                    obtain ⟨⟨⟨_, hfi⟩, hnd⟩, hcv⟩ := hc
                    have hnd := nodupB_ok hnd
                    rw [List.nodup_cons] at hnd
                    obtain ⟨hnew, hun⟩ := freshIds_ok hfi
                    have hptr := h.ev hd0
                    rw [repU_ptr] at hptr
                    obtain ⟨b, hσb, hval⟩ := hptr.2 _ _ hbx
                    obtain ⟨hsh, b', cur, et, hσ', hh, hF, hrep0, hsz⟩ := h.hp bid _ hbx
                    rw [hσ'] at hσb
                    simp only [Value.pointer.injEq, Option.some.injEq, Addr.mk.injEq, and_true] at hσb
                    subst hσb
                    simp only [offAt] at hval
                    -- what is handed over
                    have hl : (∀ j, j ∈ l → ∃ blk, s.heap j = some blk) ∧ (∀ j, j ∈ l → s.ment j = true) ∧ (if vw then View w (OO O0 s φ) τ' x0 cur.toList ∧ l = [] else Own w τ' x0 cur.toList (blocks φ l)) := by
                      cases vw with
                      | true =>
                        simp only [cond_true] at hx0
                        split at hx0
                        · rename_i y hy
                          simp only [Option.some.injEq, Prod.mk.injEq] at hx0
                          obtain ⟨rfl, rfl⟩ := hx0
                          exact ⟨by simp, by simp, by simp only [if_true]; exact ⟨(toT_view hy).2 _ hrep0, trivial⟩⟩
                        · simp at hx0
                      | false =>
                        simp only [cond_false] at hx0
                        obtain ⟨g1, g2⟩ := ownT_ok h hx0 hrep0
                        refine ⟨g2, fun j hj => AS.ment_heap hbx ?_, by simpa using g1⟩
                        exact ownT_ment hx0 j hj
                    obtain ⟨hl1, hl2, hl3⟩ := hl
                    have hx' : (∀ j, j ∈ l2 → ∃ blk, s.heap j = some blk) ∧ (∀ j, j ∈ l2 → s.ment j = true) ∧ (if cv then OArgs w pt x (args'.map a.eval) (blocks φ l2) else VArgs w (OO O0 s φ) pt x (args'.map a.eval) ∧ l2 = []) := by
                      cases cv with
                      | true =>
                        simp only [cond_true] at hx
                        obtain ⟨g1, g2, g3⟩ := oargs_ok h hds hx
                        exact ⟨g2, g3, by simpa using g1⟩
                      | false =>
                        simp only [cond_false] at hx
                        split at hx
                        · rename_i y hy
                          simp only [Option.some.injEq, Prod.mk.injEq] at hx
                          obtain ⟨rfl, rfl⟩ := hx
                          have hno : ds.hasOwn = false := by simpa using hcv
                          have hva : VArgs w (OO O0 s φ) pt y (args'.map a.eval) := by
                            refine vargs_ok h (fun d τ x cs he hr ho => ?_) hds hy (.inr hno)
                            rcases ho with ho | ho
                            · rw [ho]; exact viewT_noO h he hr
                            · exact (toT_view (viewT_toT ho he)).2 _ hr
                          exact ⟨by simp, by simp, by simp only [Bool.false_eq_true, if_false]; exact ⟨hva, trivial⟩⟩
                        · simp at hx
                    obtain ⟨hx1, hx2, hx3⟩ := hx'
                    have hlive : ∀ j, j ∈ bid :: (l ++ l2) → ∃ blk, s.heap j = some blk := by
                      intro j hj
                      rcases List.mem_cons.1 hj with rfl | hj
                      · exact ⟨_, hbx⟩
                      · rcases List.mem_append.1 hj with hj | hj
                        · exact hl1 j hj
                        · exact hx1 j hj
                    have hbn := blocks_nodup h (List.nodup_cons.2 hnd) hlive
                    have hblk : blocks φ (bid :: (l ++ l2)) = b' :: (blocks φ l ++ blocks φ l2) := by
                      have : blocks φ (bid :: (l ++ l2)) = φ bid ++ blocks φ (l ++ l2) := by simp [blocks]
                      rw [this, hF, blocks_append]; rfl
                    have hsub : ∀ c, c ∈ b' :: (blocks φ l ++ blocks φ l2) → OO O0 s φ c := by
                      intro c hc
                      rw [← hblk] at hc
                      obtain ⟨j, hj, hm⟩ := mem_blocks.1 hc
                      obtain ⟨blk, hbj⟩ := hlive j hj
                      exact .inr ⟨j, blk, hbj, hm⟩
                    have hO1 : (fun c => OO O0 s φ c ∨ c = b' ∨ c ∈ blocks φ l2) = OO O0 s φ := by
                      funext c
                      refine propext ⟨fun hc => ?_, .inl⟩
                      rcases hc with hc | rfl | hc
                      · exact hc
                      · exact hsub _ List.mem_cons_self
                      · exact hsub _ (List.mem_cons_of_mem _ (List.mem_append_right _ hc))
                    have hO2 : (fun c => OO O0 s φ c ∨ c = b' ∨ c ∈ blocks φ l) = OO O0 s φ := by
                      funext c
                      refine propext ⟨fun hc => ?_, .inl⟩
                      rcases hc with hc | rfl | hc
                      · exact hc
                      · exact hsub _ List.mem_cons_self
                      · exact hsub _ (List.mem_cons_of_mem _ (List.mem_append_left _ hc))
                    have hrun := run_enter (a := a) (w := w) ho hE
                    rw [hargs, List.map_cons, hval] at hrun
                    refine wp_enter hrun (hS (OO O0 s φ) w x0 x r b' cur et (blocks φ l) (blocks φ l2) _ hr hh hsz ?_ ?_ (by rw [← hblk]; exact hbn) (fun b hb => h.OO_lt hb) h.iv (Nat.le_trans h.iv0 h.fr.size)
                      (by rw [← hblk]; exact blocks_iv h hlive)) ?_
                    · cases vw with
                      | true =>
                        simp only [if_true] at hl3 ⊢
                        rw [hO1]
                        exact ⟨hl3.1, by rw [hl3.2]; simp [blocks]⟩
                      | false => simpa using hl3
                    · cases cv with
                      | true => simpa using hx3
                      | false =>
                        simp only [Bool.false_eq_true, if_false] at hx3 ⊢
                        rw [hO2]
                        exact ⟨hx3.1, by rw [hx3.2]; simp [blocks]⟩
                    · rintro v' w' ⟨vs, cur', et', F1, Fr, rfl, hK, hh', hsz', hcont, hR, hFn, hFr⟩
                      obtain ⟨hnm, hun1, ψ1, ν1, hb1, hup1, hrep1⟩ := openR_ok hop hR
                      have hb'lt : b' < w.heap.size := (Array.getElem?_eq_some_iff.1 hh).1
                      have hSub2 : ∀ c, (OO O0 s φ c ∨ c ∈ b' :: (blocks φ l ++ blocks φ l2)) → OO O0 s φ c := fun c hc => hc.elim id (hsub c)
                      have key : ∃ (ψ : Nat → List Nat) (ν : Nat → Value), blocks ψ ((u ++ v).map (·.1)) = Fr ++ F1 ∧ (∀ p, p ∈ u ++ v → ∃ e xs, p.2 = some (.row e true xs) ∧ Own w' (.sl e) xs [ν p.1] (ψ p.1)) ∧
                          (∀ p, p ∈ u → ν p.1 = ν1 p.1) ∧ ∀ (hp' : Nat → Option Blk) (σ2 : Nat → Value) (O' : Nat → Prop), σ2 bid = σ bid → (∀ q, q ∈ u ++ v → σ2 q.1 = ν q.1) → (∀ c, O' c → OO O0 s φ c ∨ c ∈ Fr ++ F1) → BlkRep w' O' hp' σ2 bid (.box τ' e) (φ bid) := by
                        cases vw with
                        | true =>
                          simp only [cond_true, Prod.mk.injEq] at hev
                          obtain ⟨rfl, rfl, rfl⟩ := hev
                          simp only [if_true] at hcont
                          obtain ⟨hcv', rfl⟩ := hcont
                          refine ⟨ψ1, ν1, by simpa using hb1, by simpa using hup1, fun _ _ => rfl, fun hp' σ2 O' h1 _ h2 => ⟨by simp [Shape], b', cur', et', h1.trans hσ', hh', hF, ?_, hsz'⟩⟩
                          refine View.weaken (fun c hc => ?_) hcv'
                          rcases h2 c hc with h3 | h3
                          · exact .inl h3
                          · exact .inr (.inr (by simpa using h3))
                        | false =>
                          simp only [cond_false] at hev
                          simp only [Bool.false_eq_true, if_false] at hcont
                          obtain ⟨a1, a2, a3, ψ2, ν2, a4, a5, a6⟩ := openD_ok hev hcont
                          refine ⟨fun id => if id < m then ψ1 id else ψ2 id, fun id => if id < m then ν1 id else ν2 id, ?_, ?_, ?_, fun hp' σ2 O' h1 h3 h2 => ⟨a3, b', cur', et', h1.trans hσ', hh', hF, ?_, hsz'⟩⟩
                          · rw [List.map_append, blocks_append, ← hb1, ← a4]
                            congr 1
                            · exact blocks_congr fun j hj => by
                                obtain ⟨p, hp, rfl⟩ := List.mem_map.1 hj
                                rw [if_pos (hun1 p hp).2]
                            · exact blocks_congr fun j hj => by
                                obtain ⟨p, hp, rfl⟩ := List.mem_map.1 hj
                                rw [if_neg (by have := a2 p hp; omega)]
                          · intro p hp
                            rcases List.mem_append.1 hp with hp | hp
                            · simp only [if_pos (hun1 p hp).2]; exact hup1 p hp
                            · have : ¬ p.1 < m := by have := a2 p hp; omega
                              simp only [if_neg this]; exact a5 p hp
                          · intro p hp
                            simp only [if_pos (hun1 p hp).2]
                          · refine a6 w' hp' σ2 O' fun p hp => ?_
                            have h4 := h3 p (List.mem_append_right _ hp)
                            have : ¬ p.1 < m := by have := a2 p hp; omega
                            simp only [if_neg this] at h4
                            exact h4
                      obtain ⟨ψ, ν, k1, k2, k3, k4⟩ := key
                      rw [List.nodup_cons] at hFn
                      obtain ⟨σ', φ', hc', g1, g2⟩ := h.after (U := u ++ v) (X := [(bid, some (.box τ' e))]) (l := l ++ l2) (ψ := ψ) (ν := ν) hun hnew (by simp) (fun j hj => hlive j (List.mem_cons_of_mem _ hj))
                        (by intro j hj; simp at hj; subst hj; exact hnd.1) (by
                          have : blocks φ ([(bid, some (Blk.box τ' e))].map (·.1) ++ (l ++ l2)) = b' :: (blocks φ l ++ blocks φ l2) := hblk
                          rw [this]; exact hK) k2 (by rw [k1]; exact (List.perm_append_comm.nodup_iff).1 hFn.2)
                        (by
                          rw [k1, blocks_append]
                          intro c hc
                          refine hFr c ?_
                          rcases List.mem_append.1 hc with hc | hc
                          · exact List.mem_append_right _ hc
                          · exact List.mem_append_left _ hc)
                        (by
                          intro j hj
                          refine ment_newOk ?_
                          have hj : j ∈ bid :: (l ++ l2) := hj
                          rcases List.mem_cons.1 hj with rfl | hj
                          · exact ev_ment hd0 (by simp [D.ment])
                          · rcases List.mem_append.1 hj with hj | hj
                            · exact hl2 j hj
                            · exact hx2 j hj)
                        (by
                          intro p hp
                          simp only [List.mem_singleton] at hp
                          subst hp
                          exact ⟨τ', d0, e, rfl, hbx, fun hp' σ2 O' h1 h2 h3 => k4 hp' σ2 O' h1 h2 (by rw [k1] at h3; exact h3)⟩)
                      refine fin_good (upd := u ++ (v ++ ((bid, some (.box τ' e)) :: drops (l ++ l2)))) (s₁ := ⟨s.n, s.tm, u ++ v ++ ([(bid, some (.box τ' e))] ++ drops (l ++ l2)) ++ s.hp⟩) (by simp) hc' ?_ he
                      refine resD_ok hres (hrep1 _ _ _ (fun p hp => (g1 p (List.mem_append_left _ hp)).trans (k3 p hp)) fun c _ hno hO => hno ?_)
                      rcases g2 c hO with h1 | h1
                      · exact .inl h1
                      · rw [k1] at h1
                        rcases List.mem_append.1 h1 with h1 | h1
                        · exact .inr (.inr (.inr h1))
                        · exact .inr (.inr (.inl h1))
                · simp at he
              · simp at he
          · simp at he
        · simp at he
      · simp at he
    · simp at he
  · -- a new variable comes back
    rename_i pt τ F hfn
    obtain ⟨hE, hS⟩ := hG.fn _ _ hfn
    split at he
    · rename_i tt ds hd hds
      split at he
      · rename_i x hx
        cases hr : F x with
        | none => simp [hr] at he
        | some r =>
          simp only [hr, Option.bind_some] at he
          cases hc : (s.newOk tt && !ds.hasOwn) with
          | false => rw [hc] at he; simp at he
          | true =>
            rw [hc] at he
            simp only [cond_true] at he
            simp only [Bool.and_eq_true, Bool.not_eq_true'] at hc
            obtain ⟨hnew, hno⟩ := hc
            have hva : VArgs w (OO O0 s φ) pt x (args.toList.map a.eval) := by
              refine vargs_ok h (fun d τ x cs he hr ho => ?_) hds hx (.inr hno)
              rcases ho with ho | ho
              · rw [ho]; exact viewT_noO h he hr
              · exact (toT_view (viewT_toT ho he)).2 _ hr
            refine wp_enter (run_enter ho hE) (hS (OO O0 s φ) w x r _ hr hva (fun b hb => h.OO_lt hb) h.iv (Nat.le_trans h.iv0 h.fr.size)) ?_
            rintro v w' ⟨b, cur, et, rfl, hK, hb, hh, hsz, hvw⟩
            have hc := h.new1b (w' := w') hnew (.box τ (.t τ r)) (.pointer (some ⟨b, 0, none⟩)) [b] hK.size (fun c hc => hK.block c hc (fun h => h)) hK.os hK.tape hK.output (by simp) (by simpa using hb)
              (fun hp' σ' O' hσ hO => ⟨by simp [Shape], b, cur, et, hσ, hh, rfl, View.weaken (fun c hc => by
                rcases hO c hc with h1 | h1
                · exact .inl h1
                · exact .inr (by simpa using h1)) hvw, hsz⟩)
            exact fin_good rfl hc (RepU_ptr_new _ rfl (heap_cons_same _ _ _)) he
      · simp at he
    · simp at he
  · simp at he
end
end KF

namespace KF
open Go

theorem El.drop {w : World} {O : Nat → Prop} {dq : Bool} {e : Ty} {xs : List (T e)} {L : List Value} {Fs : List (List Nat)} (h : El w O dq e xs L Fs) {k : Nat} (hk : k ≤ List.length xs) :
    El w O dq e (List.drop k xs) (L.drop (k * e.size)) (Fs.drop k) := by
  have hl := h.len
  refine ⟨?_, ?_, ?_⟩
  · rw [List.length_drop, hl, List.length_drop, Nat.sub_mul]
  · rw [List.length_drop, List.length_drop, h.flen]
  · intro i hi
    have hi' : k + i < List.length xs := by
      have : i < List.length xs - k := by simpa using hi
      omega
    have := h.el (k + i) hi'
    have e1 : elt (L.drop (k * e.size)) i e.size = elt L (k + i) e.size := by
      unfold elt
      rw [List.drop_drop, Nat.add_mul]
    have e2 : List.get (List.drop k xs) ⟨i, hi⟩ = List.get xs ⟨k + i, hi'⟩ := by simp
    have e3 : (Fs.drop k).getD i [] = Fs.getD (k + i) [] := by simp [List.getD_eq_getElem?_getD]
    rw [e1, e2, e3]
    exact this

theorem El.upf {w : World} {O : Nat → Prop} {dq : Bool} {e : Ty} {xs : List (T e)} {L : List Value} {Fs : List (List Nat)} (h : El w O dq e xs L Fs) (hf : e.flat = true) : El w O true e xs L Fs := by
  refine ⟨h.len, h.flen, fun i hi => ?_⟩
  have := h.el i hi
  cases dq with
  | true => exact this
  | false =>
    simp only [Bool.false_eq_true, if_false] at this
    rw [if_pos rfl, this.2]
    exact this.1.flat hf

theorem El.flats {w : World} {O : Nat → Prop} {e : Ty} {xs : List (T e)} {L : List Value} {Fs : List (List Nat)} (h : El w O true e xs L Fs) (hf : e.flat = true) : Fs.flatten = [] :=
  flatten_nils fun i hi => by
    have := h.el i (by rw [← h.flen]; exact hi)
    rw [if_pos rfl] at this
    exact own_flat hf this

section
variable {P : Program} {Out : Type} {n0 : Nat} {A : Fx} {O0 : Nat → Prop} {w0 w w' : World} {s : AS} {σ σ' : Nat → Value} {φ φ' : Nat → List Nat} {a : Act}
variable {o : Oper} {Q : Exit → Act → World → Prop} {k : AS → Option Out} {out : Out} {d : D} {v : Value} {upd : List (Nat × Option Blk)} {dst : Option Tmp} {G : Env}

theorem seg_splice_start {cur : Array Value} {off n : Nat} {news : List Value} (h : off + n ≤ cur.size) (hn : news.length ≤ n) :
    seg (splice cur.toList off news).toArray off n = news ++ (seg cur off n).drop news.length := by
  have := splice_seg_same (cur := cur) (o := off) (n := n) (o' := 0) (ce := news) h (by omega)
  simp only [Nat.add_zero] at this
  rw [this]
  unfold splice
  simp

theorem run_copy (t tx ty et : TypeId) (i : TypeInfo) (ht : P.underlying t = some (.slice et)) (hi : P.info? et = some i) {b off n cap : Nat} {x : Value} {m : Nat} {news : List Value} (hs : Src P i.size tx x m news w)
    {cur : Array Value} {ct : TypeId} (hh : w.heap[b]? = some (.cells cur ct (0, 0))) (hm : m ≤ n) (hfit : off + news.length ≤ cur.size) :
    (Builtin.copy_ #[t, tx] ty #[.slice (some ⟨b, off, none⟩) n cap, x]).run P w = .ok (.int .i64 (m : Int)) (w.setRow b (splice cur.toList off news).toArray) := by
  have hst := run_storeCells_at P b off ct news 0 cur w hh (by simpa using hfit) hs.one
  simp only [Nat.add_zero] at hst
  have hmin : Nat.min m n = m := Nat.min_eq_left hm
  simp [Builtin.copy_, run_underlying ht, Go.sizeOf, typeInfo, hi, hs.len, hmin, hs.cells, hst, splice, goInt]

theorem op_copy (hG : EnvTy P G) (h : Conc n0 A O0 w0 s σ φ a w) {args : Array Operand} {ts : Array TypeId} (ho : o.op = .call ⟨.builtin .copy, args, ts⟩)
    (he : aop G s o k = some out) : o.wp P a w (Good n0 A O0 w0 k out) Q := by
  simp only [aop, aopK, ho] at he
  split at he
  · rename_i x y t tx hargs hts
    unfold aCopyK at he
    split at he
    · rename_i e id db hty hx hy
      split at he
      · rename_i e' dp xs hb
        split at he
        · rename_i q ys dq m hq hsrc
          obtain rfl := dec_eq hq
          cases hc : (e'.flat && slOrS (aget G.ty tx)) with
          | false => rw [hc] at he; simp at he
          | true =>
            rw [hc] at he
            simp only [cond_true] at he
            simp only [Bool.and_eq_true] at hc
            obtain ⟨hfl, hkx⟩ := hc
            cases hlim : Nat.ble (List.length ys) (List.length xs) with
            | false => rw [hlim] at he; simp at he
            | true =>
              rw [hlim] at he
              simp only [cond_true] at he
              have hlim := Nat.le_of_ble_eq_true hlim
              obtain ⟨et, hu, hte⟩ := Tok.sl (hG.ty _ _ hty)
              obtain ⟨i, hi, hsz, _, _⟩ := Tok.size hte
              have hk : (∃ e', P.underlying tx = some (.slice e')) ∨ P.underlying tx = some .string := by
                unfold slOrS at hkx
                split at hkx
                · rename_i e' hq
                  obtain ⟨et', hu', _⟩ := Tok.sl (hG.ty _ _ hq)
                  exact .inl ⟨et', hu'⟩
                · rename_i hq
                  exact .inr (Tok.s (hG.ty _ _ hq))
                · simp at hkx
              have hev := h.ev hx
              have hrow := row_heap h hb hev
              rw [hfl, Bool.or_true] at hrow
              obtain ⟨news, Gs, hS, hEl, hsub, hl2⟩ := srcD_ok (P := P) h hsrc (h.ev hy) hk
              have hEl := hEl.upf hfl
              have hnl := hS.newsLen
              have hS' : Src P i.size tx (a.eval y) (List.length ys) news w := by rw [hsz]; exact hS
              have hts' : ts = #[t, tx] := by
                apply Array.ext'
                rw [hts]
              have hal : List.length (List.append ys (List.drop (List.length ys) xs)) = List.length xs := by
                show (ys ++ List.drop ys.length xs).length = _
                rw [List.length_append, List.length_drop]; omega
              obtain ⟨hm, ⟨h1, h2, h3⟩ | ⟨bl, off, cap, cur, ct, Fs, h1, hh, h2, h3, h4, hF, hel⟩⟩ := hrow
              · subst h2
                have hy0 : ys = ([] : List (T e')) := List.eq_nil_of_length_eq_zero (by simpa using hlim)
                subst hy0
                have hc : Conc n0 A O0 w0 ⟨s.n, s.tm, (id, some (.row e' dp (List.append ([] : List (T e')) (List.drop 0 ([] : List (T e')))))) :: (drops [] ++ s.hp)⟩ σ (upd1 φ id (φ id)) a w := by
                  refine h.turn (blk0 := .row e' dp []) hb (by simp [Blk.like]) [] (by simp) (by simp) (φ id) (Nat.le_refl _) (fun _ _ _ _ => rfl) rfl rfl rfl (h.nodup _ _ hb) (fun c hc => .inr (.inl hc)) ?_
                  intro hp' O' hO hcp
                  have h0 := h.hp id _ hb
                  exact BlkRep.stable (fun _ _ _ => rfl) hO (fun _ _ => rfl) rfl (fun j _ => hcp j) h0
                refine wp_value (w' := w) (v := .int .i64 0) ?_ (fin_good rfl hc ?_ he)
                · rw [exec_builtin ho hargs, hts']
                  have := hS'.cells
                  simp only [List.length_nil] at this
                  simp [builtin, Builtin.copy_, h1, run_underlying hu, Go.sizeOf, typeInfo, hi, hS'.len, this, goInt]
                · exact repU_int.2 rfl
              · have hcap := Nat.mul_le_mul_right e'.size h2
                have hmul := Nat.mul_le_mul_right e'.size hlim
                have hr := run_copy (P := P) (w := w) (b := bl) (off := off) (n := List.length xs) (cap := cap) t tx o.type et i hu hi hS' hh hlim (by omega)
                have hF' : φ id = [bl] := by rw [hF, hel.flats hfl]
                have hoth : ∀ c, c ≠ bl → (w.setRow bl (splice cur.toList off news).toArray).heap[c]? = w.heap[c]? := fun c hc => setRow_other w bl c _ hc
                have hc : Conc n0 A O0 w0 ⟨s.n, s.tm, (id, some (.row e' dp (List.append ys (List.drop (List.length ys) xs)))) :: (drops [] ++ s.hp)⟩ σ (upd1 φ id (φ id)) a (w.setRow bl (splice cur.toList off news).toArray) := by
                  refine h.turn (blk0 := .row e' dp xs) hb (by simp only [Blk.like, true_and]; exact hal.symm) [] (by simp) (by simp) (φ id) (by simp) ?_ rfl rfl rfl (h.nodup _ _ hb) (fun c hc => .inr (.inl hc)) ?_
                  · intro c _ hc _
                    rw [hF'] at hc
                    exact hoth c (by simpa using hc)
                  · intro hp' O' hO hcp
                    have hnew : BlkRep (w.setRow bl (splice cur.toList off news).toArray) O' hp' σ id (.row e' true (List.append ys (List.drop (List.length ys) xs))) (φ id) := by
                      rw [rowV_iff]
                      have hσ : σ id = a.eval x := by
                        rw [repU_own] at hev
                        exact (hev.2 _ _ hb rfl).symm
                      rw [hσ, h1, hF']
                      have happ := hEl.append (hel.drop hlim)
                      have hcl : cur.toList.length = cur.size := Array.length_toList
                      refine ⟨by rw [hal]; exact hm, .inr ⟨bl, off, cap, _, ct, Gs ++ Fs.drop (List.length ys), by rw [hal], setRow_heap w bl cur _ ct (0, 0) hh, by rw [hal]; exact h2, h3, ?_, ?_, ?_⟩⟩
                      · rw [List.size_toArray, splice_length (by omega)]
                        omega
                      · rw [happ.flats hfl]
                      · rw [hal, seg_splice_start (by omega) (by omega), hnl]
                        refine happ.stable ?_ ?_ ?_
                        · intro b hb' _
                          refine hoth b fun e => hb' (.inr ⟨id, _, hb, ?_⟩)
                          rw [hF', e]; simp
                        · exact hO
                        · rw [happ.flats hfl]; simp
                    cases dp with
                    | true => exact hnew
                    | false => exact own_row hnew hfl
                refine wp_value (w' := w.setRow bl (splice cur.toList off news).toArray) (v := .int .i64 (List.length ys : Int)) ?_ (fin_good rfl hc ?_ he)
                · rw [exec_builtin ho hargs, hts']
                  simp [builtin, h1, hr]
                · exact repU_int.2 rfl
        · simp at he
      · simp at he
    · simp at he
  · simp at he
end
end KF

namespace KF
open Go

/-- a part of an owned datum, and what is about it -/
theorem own_at {w : World} : ∀ {e : Ty} {x : T e} {p : List Nat} {τ : Ty} {y : D} {y' : T τ} {cs : List Value} {F : List Nat}, tyAt e p = some τ → (D.t e x).at p = some y → toT y τ = some y' →
    Own w e x cs F → ∃ F1 Fy F3, F = F1 ++ Fy ++ F3 ∧ Own w τ y' ((cs.drop (offAt e p)).take τ.size) Fy ∧
      ∀ (w' : World) (c' : List Value), c'.length = τ.size → (∀ b, b ∈ F1 ++ F3 → w'.heap[b]? = w.heap[b]?) → ∀ (z : T τ) (Fz : List Nat) (x' : T e), Own w' τ z c' Fz → setT e x p τ z = some x' →
        Own w' e x' (splice cs (offAt e p) c') (F1 ++ Fz ++ F3)
  | e, x, [], τ, y, y', cs, F, ht, hy, hy', h => by
    simp only [tyAt, Option.some.injEq] at ht
    subst ht
    simp only [D.at, Option.some.injEq] at hy
    subst hy
    simp only [toT] at hy'
    split at hy'
    · simp only [Option.some.injEq] at hy'
      subst hy'
      have hl := Own.length h
      have hcs : (cs.drop (offAt e [])).take e.size = cs := by rw [← hl]; simp [offAt]
      refine ⟨[], F, [], by simp, by rw [hcs]; exact h, fun w' c' hc' _ z Fz x' hz hs => ?_⟩
      unfold setT at hs
      split at hs
      · simp only [Option.some.injEq] at hs
        subst hs
        simp only [offAt]
        rw [splice_all (by omega)]
        simpa using hz
      · simp at hs
    · simp at hy'
  | .p a b', x, 0 :: p, τ, y, y', cs, F, ht, hy, hy', h => by
    have ht' : tyAt a p = some τ := by simpa [tyAt, tyField] using ht
    have hy1 : (D.t a x.1).at p = some y := by simpa [D.at, D.field, D.fst] using hy
    obtain ⟨c1, c2, Fa, Fb, hc, hF, h1, h2⟩ := h
    obtain ⟨F1, Fy, F3, e1, e2, e3⟩ := own_at ht' hy1 hy' h1
    have hle := off_le_at ht'
    have l1 := Own.length h1
    have ho : offAt (.p a b') (0 :: p) = offAt a p := by simp [offAt, offField, tyField]
    have hcs : (cs.drop (offAt (.p a b') (0 :: p))).take τ.size = (c1.drop (offAt a p)).take τ.size := by
      rw [ho, hc, List.drop_append_of_le_length (by omega), List.take_append_of_le_length (by simp; omega)]
    rw [hcs]
    refine ⟨F1, Fy, F3 ++ Fb, by simp [hF, e1], e2, fun w' c' hc' hw z Fz x' hz hs => ?_⟩
    simp only [setT] at hs
    split at hs
    · rename_i u hu
      simp only [Option.some.injEq] at hs
      subst hs
      rw [ho, hc, splice_left (by omega)]
      refine ⟨_, c2, F1 ++ Fz ++ F3, Fb, rfl, by simp, e3 w' c' hc' (fun b hb => hw b ?_) z Fz u hz hu, h2.stable fun b hb => hw b ?_⟩
      · rcases List.mem_append.1 hb with hb | hb <;> simp [hb]
      · simp [hb]
    · simp at hs
  | .p a b', x, (n + 1) :: p, τ, y, y', cs, F, ht, hy, hy', h => by
    have ht' : tyAt b' (n :: p) = some τ := by simpa [tyAt, tyField] using ht
    have hy1 : (D.t b' x.2).at (n :: p) = some y := by simpa [D.at, D.field, D.snd] using hy
    obtain ⟨c1, c2, Fa, Fb, hc, hF, h1, h2⟩ := h
    obtain ⟨F1, Fy, F3, e1, e2, e3⟩ := own_at ht' hy1 hy' h2
    have l1 := Own.length h1
    have ho : offAt (.p a b') ((n + 1) :: p) = c1.length + offAt b' (n :: p) := by simp [offAt, offField, tyField, l1, Nat.add_assoc]
    have hcs : (cs.drop (offAt (.p a b') ((n + 1) :: p))).take τ.size = (c2.drop (offAt b' (n :: p))).take τ.size := by
      rw [ho, hc]; simp [List.drop_append, List.drop_eq_nil_of_le]
    rw [hcs]
    refine ⟨Fa ++ F1, Fy, F3, by simp [hF, e1], e2, fun w' c' hc' hw z Fz x' hz hs => ?_⟩
    simp only [setT] at hs
    split at hs
    · rename_i u hu
      simp only [Option.some.injEq] at hs
      subst hs
      rw [ho, hc, splice_append]
      refine ⟨c1, _, Fa, F1 ++ Fz ++ F3, rfl, by simp, h1.stable fun b hb => hw b ?_, e3 w' c' hc' (fun b hb => hw b ?_) z Fz u hz hu⟩
      · simp [hb]
      · rcases List.mem_append.1 hb with hb | hb <;> simp [hb]
    · simp at hs
  | .i _, _, _ :: _, _, _, _, _, _, ht, _, _, _ => by simp [tyAt, tyField] at ht
  | .b, _, _ :: _, _, _, _, _, _, ht, _, _, _ => by simp [tyAt, tyField] at ht
  | .o, _, _ :: _, _, _, _, _, _, ht, _, _, _ => by simp [tyAt, tyField] at ht
  | .s, _, _ :: _, _, _, _, _, _, ht, _, _, _ => by simp [tyAt, tyField] at ht
  | .sl _, _, _ :: _, _, _, _, _, _, ht, _, _, _ => by simp [tyAt, tyField] at ht
  | .u, _, _ :: _, _, _, _, _, _, ht, _, _, _ => by simp [tyAt, tyField] at ht

/-- a part of an element of an owned row, and what is about it -/
theorem own_focus {w : World} {e τ : Ty} {xs : List (T e)} {b off cap : Nat} {F : List Nat} {i : Nat} {x : T e} {y : D} {y' : T τ} {p : List Nat}
    (h : Own w (.sl e) xs [.slice (some ⟨b, off, none⟩) (List.length xs) cap] F) (hi : xs[i]? = some x) (ht : tyAt e p = some τ) (hy : (D.t e x).at p = some y) (hy' : toT y τ = some y') :
    ∃ cur et F1 Fy, w.heap[b]? = some (.cells cur et (0, 0)) ∧ b ∈ F1 ∧ off + i * e.size + e.size ≤ cur.size ∧ F.Perm (F1 ++ Fy) ∧ Own w τ y' (seg cur (off + i * e.size + offAt e p) τ.size) Fy ∧
      (b ∉ F1.erase b → ∀ (w' : World) (c' : List Value), c'.length = τ.size → (∀ c, c ∈ F1 → c ≠ b → w'.heap[c]? = w.heap[c]?) →
        w'.heap[b]? = some (.cells (splice cur.toList (off + i * e.size + offAt e p) c').toArray et (0, 0)) → ∀ (z : T τ) (Fz : List Nat) (x' : T e), Own w' τ z c' Fz → setT e x p τ z = some x' →
        ∃ F', F'.Perm (F1 ++ Fz) ∧ Own w' (.sl e) (List.set xs i x') [.slice (some ⟨b, off, none⟩) (List.length xs) cap] F') := by
  obtain ⟨hm, ⟨h1, _⟩ | ⟨bl, off', cap', cur, et, Fs, h1, hh, h2, h3, h4, hF, hl, hv⟩⟩ := h
  · simp at h1
  · simp at h1
    obtain ⟨⟨rfl, rfl⟩, rfl⟩ := h1
    have hil : i < List.length xs := (List.getElem?_eq_some_iff.1 hi).1
    have hxe : List.get xs ⟨i, hil⟩ = x := by simpa [List.getElem?_eq_getElem hil] using hi
    have hle := off_le_at ht
    have hcap := Nat.mul_le_mul_right e.size h2
    have hlt : (i + 1) * e.size ≤ List.length xs * e.size := Nat.mul_le_mul_right _ hil
    rw [Nat.add_mul, Nat.one_mul] at hlt
    have hoi := hv i hil
    rw [hxe] at hoi
    obtain ⟨Fa, Fy, Fc, hFi, hown, hwand⟩ := own_at ht hy hy' hoi
    have hseg := seg_seg cur (off + i * e.size) e.size (offAt e p) τ.size hle
    rw [hseg] at hown
    have hiF : i < Fs.length := by omega
    refine ⟨cur, et, b :: ((Fs.take i).flatten ++ (Fa ++ Fc) ++ (Fs.drop (i + 1)).flatten), Fy, hh, by simp, by omega, ?_, hown, fun hbn w' c' hc' hw hwb z Fz x' hz hs => ?_⟩
    · rw [hF, (flatten_set hiF []).1, hFi, List.perm_iff_count]
      intro c
      simp only [List.count_append, List.count_cons]
      omega
    · simp only [List.erase_cons_head] at hbn
      obtain ⟨_, g2⟩ := flatten_set hiF (Fa ++ Fz ++ Fc)
      refine ⟨b :: (Fs.set i (Fa ++ Fz ++ Fc)).flatten, ?_, by simpa using hm, .inr ⟨b, off, cap, _, et, _, by simp, hwb, by simpa using h2, h3, ?_, rfl, by simpa using hl, fun j hj => ?_⟩⟩
      · rw [g2, List.perm_iff_count]
        intro c
        simp only [List.count_append, List.count_cons]
        omega
      · rw [List.size_toArray, splice_length (by simp; omega)]
        simpa using h4
      · have hjl : j < List.length xs := by simpa using hj
        by_cases hji : j = i
        · subst hji
          have e1 : List.get (List.set xs j x') ⟨j, hj⟩ = x' := by simp
          have e2 : (Fs.set j (Fa ++ Fz ++ Fc)).getD j [] = Fa ++ Fz ++ Fc := by simp [List.getD, hiF]
          rw [e1, e2, splice_seg_same (by omega) (by omega)]
          refine hwand w' c' hc' (fun c hc => hw c ?_ ?_) z Fz x' hz hs
          · simp only [List.mem_cons, List.mem_append] at hc ⊢
            grind
          · rintro rfl
            apply hbn
            simp only [List.mem_append] at hc ⊢
            grind
        · have e1 : List.get (List.set xs i x') ⟨j, hj⟩ = List.get xs ⟨j, hjl⟩ := by simp [Ne.symm hji]
          have e2 : (Fs.set i (Fa ++ Fz ++ Fc)).getD j [] = Fs.getD j [] := by simp [List.getD, Ne.symm hji]
          have hjle : (j + 1) * e.size ≤ List.length xs * e.size := Nat.mul_le_mul_right _ hjl
          rw [Nat.add_mul, Nat.one_mul] at hjle
          have hjF : j < Fs.length := by omega
          have hinF : ∀ c, c ∈ Fs.getD j [] → c ∈ (Fs.take i).flatten ++ (Fa ++ Fc) ++ (Fs.drop (i + 1)).flatten := by
            intro c hc
            have hc' : c ∈ Fs[j] := by simpa [List.getD, hjF] using hc
            simp only [List.mem_append]
            rcases Nat.lt_or_gt_of_ne hji with hlt' | hlt'
            · exact .inl (.inl (List.mem_flatten.2 ⟨Fs[j], List.mem_take_iff_getElem.2 ⟨j, by omega, rfl⟩, hc'⟩))
            · exact .inr (List.mem_flatten.2 ⟨Fs[j], List.mem_drop_iff_getElem.2 ⟨j - (i + 1), by omega, by congr 1; omega⟩, hc'⟩)
          rw [e1, e2, splice_seg_other (by omega) (by omega) ?_]
          · refine (hv j hjl).stable fun c hc => hw c (List.mem_cons_of_mem _ (hinF c hc)) ?_
            rintro rfl
            exact hbn (hinF c hc)
          · rcases Nat.lt_or_gt_of_ne hji with hlt' | hlt'
            · left
              have := Nat.mul_le_mul_right e.size hlt'
              rw [Nat.succ_mul] at this
              omega
            · right
              have := Nat.mul_le_mul_right e.size hlt'
              rw [Nat.succ_mul] at this
              omega

theorem splice_same {cs : List Value} {o n : Nat} (h : o + n ≤ cs.length) : splice cs o ((cs.drop o).take n) = cs := by
  apply List.ext_getElem?
  intro j
  have hl : ((cs.drop o).take n).length = n := by simp; omega
  rw [splice_get (by omega), hl]
  split
  · rfl
  · split
    · rw [List.getElem?_take, if_pos (by omega), List.getElem?_drop]; congr 1; omega
    · rfl

section
variable {P : Program} {Out : Type} {n0 : Nat} {A : Fx} {O0 : Nat → Prop} {w0 w w' : World} {s : AS} {σ σ' : Nat → Value} {φ φ' : Nat → List Nat} {a : Act}
variable {o : Oper} {Q : Exit → Act → World → Prop} {k : AS → Option Out} {out : Out} {d : D} {v : Value} {upd : List (Nat × Option Blk)} {dst : Option Tmp} {G : Env}

/-- a part of an owned row's element is taken in hand -/
theorem Conc.focus (h : Conc n0 A O0 w0 s σ φ a w) {id : Nat} {e τ : Ty} {xs : List (T e)} {i : Nat} {x : T e} {p : List Nat} {y : D} {y' : T τ} {n m : Nat} {u : List (Nat × Option Blk)}
    (hb : s.heap id = some (.row e true xs)) (hm : s.ment id = true) (hi : xs[i]? = some x) (ht : tyAt e p = some τ) (hy : (D.t e x).at p = some y) (hy' : toT y τ = some y')
    {b off cap : Nat} (hσ : σ id = .slice (some ⟨b, off, none⟩) (List.length xs) cap) (ho : openD τ y' n = (d, u, m)) (hu : freshIds s u = true) :
    ∃ cur et σ' φ', w.heap[b]? = some (.cells cur et (0, 0)) ∧ off + i * e.size + e.size ≤ cur.size ∧
      Conc n0 A O0 w0 ⟨s.n, s.tm, ((id, some (.hol e xs i x p τ d)) :: u) ++ s.hp⟩ σ' φ' a w ∧ Shape τ d ∧
      ∀ hp' O', Rep w O' hp' σ' d (seg cur (off + i * e.size + offAt e p) τ.size) := by
  have hown := h.hp id _ hb
  simp only [BlkRep, hσ] at hown
  obtain ⟨cur, et, F1, Fy, hh, hbF, hsz, hperm, hoy, hwand⟩ := own_focus hown hi ht hy hy'
  obtain ⟨hnm, hrange, hsh, ψ, ν, hbl, hrows, hrep⟩ := openD_ok ho hoy
  obtain ⟨hnew, hnd⟩ := freshIds_ok hu
  have hnm' : ∀ q, q ∈ u → s.ment q.1 = false := fun q hq => by
    have := hnew q hq
    simp only [AS.newOk, Bool.and_eq_true, Bool.not_eq_true'] at this
    exact this.1
  have hidu : id ∉ u.map (·.1) := fun hid => by
    obtain ⟨q, hq, he⟩ := List.mem_map.1 hid
    rw [← he, hnm' q hq] at hm
    simp at hm
  have hndF : (F1 ++ Fy).Nodup := hperm.nodup_iff.1 (h.nodup id _ hb)
  let σ' : Nat → Value := fun j => if j ∈ u.map (·.1) then ν j else σ j
  let φ' : Nat → List Nat := fun j => if j = id then F1 else if j ∈ u.map (·.1) then ψ j else φ j
  have hσid : σ' id = σ id := if_neg hidu
  have hσu : ∀ q, q ∈ u → σ' q.1 = ν q.1 := fun q hq => if_pos (List.mem_map_of_mem hq)
  have hφid : φ' id = F1 := if_pos rfl
  have hφu : ∀ j, j ∈ u.map (·.1) → φ' j = ψ j := fun j hj => by
    have : j ≠ id := fun e => hidu (e ▸ hj)
    simp only [φ', if_neg this, if_pos hj]
  have hget : ∀ (U : List (Nat × Option Blk)) (j : Nat), j ∉ U.map (·.1) → aget (U ++ s.hp) j = aget s.hp j := by
    intro U j
    induction U with
    | nil => simp
    | cons q U ih =>
      intro hn
      simp only [List.map_cons, List.mem_cons, not_or] at hn
      rw [List.cons_append, aget_cons, if_neg (Ne.symm hn.1), ih hn.2]
  have hgetm : ∀ (U : List (Nat × Option Blk)), (U.map (·.1)).Nodup → ∀ q, q ∈ U → aget (U ++ s.hp) q.1 = some q.2 := by
    intro U
    induction U with
    | nil => simp
    | cons r U ih =>
      intro hn q hp
      simp only [List.map_cons, List.nodup_cons] at hn
      rw [List.cons_append, aget_cons]
      rcases List.mem_cons.1 hp with rfl | hp
      · rw [if_pos rfl]
      · rw [if_neg (fun e : r.1 = q.1 => hn.1 (by rw [e]; exact List.mem_map_of_mem hp)), ih hn.2 q hp]
  have hU : (((id, some (Blk.hol e xs i x p τ d)) :: u).map (·.1)).Nodup := by
    simp only [List.map_cons, List.nodup_cons]
    exact ⟨hidu, hnd⟩
  have hh1 : ∀ j, ¬ (j = id ∨ j ∈ u.map (·.1)) → AS.heap ⟨s.n, s.tm, ((id, some (Blk.hol e xs i x p τ d)) :: u) ++ s.hp⟩ j = s.heap j := fun j hj => by
    simp only [AS.heap]
    rw [hget _ j (by simpa using hj)]
  have hh2 : AS.heap ⟨s.n, s.tm, ((id, some (Blk.hol e xs i x p τ d)) :: u) ++ s.hp⟩ id = some (.hol e xs i x p τ d) := by
    simp only [AS.heap]
    rw [hgetm _ hU (id, some (.hol e xs i x p τ d)) (by simp)]
    rfl
  have hh3 : ∀ q, q ∈ u → AS.heap ⟨s.n, s.tm, ((id, some (Blk.hol e xs i x p τ d)) :: u) ++ s.hp⟩ q.1 = q.2 := fun q hq => by
    simp only [AS.heap]
    rw [hgetm _ hU q (by simp [hq])]
    rfl
  have hmemu : ∀ j, j ∈ u.map (·.1) → ∃ q, q ∈ u ∧ q.1 = j := fun j hj => by
    obtain ⟨q, hq, he⟩ := List.mem_map.1 hj
    exact ⟨q, hq, he⟩
  have hψ : ∀ j, j ∈ u.map (·.1) → ∀ c, c ∈ ψ j → c ∈ Fy := fun j hj c hc => by
    rw [← hbl]; exact mem_blocks.2 ⟨j, hj, hc⟩
  have hin : ∀ j, (j = id ∨ j ∈ u.map (·.1)) → ∀ c, c ∈ φ' j → c ∈ φ id := by
    intro j hj c hc
    refine hperm.mem_iff.2 ?_
    rcases hj with rfl | hj
    · rw [hφid] at hc
      exact List.mem_append_left _ hc
    · rw [hφu j hj] at hc
      exact List.mem_append_right _ (hψ j hj c hc)
  have hrep' : ∀ hp' O', Rep w O' hp' σ' d (seg cur (off + i * e.size + offAt e p) τ.size) := fun hp' O' => hrep w hp' σ' O' hσu
  refine ⟨cur, et, σ', φ', hh, hsz, ?_, hsh, hrep'⟩
  refine h.trans (fun j => j = id ∨ j ∈ u.map (·.1)) rfl rfl ?_ (fun _ _ _ => rfl) (Nat.le_refl _) ?_ ?_ ?_ ?_ rfl rfl rfl ?_
  · intro j hj
    refine ⟨hh1 j hj, ?_, ?_⟩
    · exact if_neg fun hm => hj (.inr hm)
    · simp only [not_or] at hj
      simp only [φ', if_neg hj.1, if_neg hj.2]
  · intro j blk' hj _ c hc
    exact .inr ⟨id, _, .inl rfl, hb, hin j hj c hc⟩
  · intro j blk' hj hl hmj
    rcases hj with rfl | hj
    · rw [hh2] at hl
      simp only [Option.some.injEq] at hl
      subst hl
      exact ⟨_, hb, by simp [Blk.like], hσid⟩
    · obtain ⟨q, hq, rfl⟩ := hmemu j hj
      rw [hnm' q hq] at hmj
      simp at hmj
  · intro j blk' hj hl
    rcases hj with rfl | hj
    · rw [hh2] at hl
      simp only [Option.some.injEq] at hl
      subst hl
      rw [hφid]
      have hF1 : F1.Nodup := hndF.sublist (List.sublist_append_left _ _)
      refine ⟨⟨hsh, hi, ht, fun c hc => (h.hp _ _ hb).lt c (hperm.mem_iff.2 (List.mem_append_left _ hc)), b, off, cap, cur, et, hσid.trans hσ, hh, hbF, hsz, hrep' _ _, fun w' c' hc' hw hwb z Fz x' hz hs => ?_⟩, hF1⟩
      obtain ⟨F', hp', ho'⟩ := hwand (fun hm => ((List.Nodup.mem_erase_iff hF1).1 hm).1 rfl) w' c' hc' hw hwb z Fz x' hz hs
      exact ⟨F', hp', by rw [hσid, hσ]; exact ho'⟩
    · obtain ⟨q, hq, rfl⟩ := hmemu j hj
      rw [hh3 q hq] at hl
      obtain ⟨e2, xs2, he2, hown2⟩ := hrows q hq
      rw [he2] at hl
      simp only [Option.some.injEq] at hl
      subst hl
      rw [hφu _ hj]
      refine ⟨?_, ?_⟩
      · simp only [BlkRep]
        rw [hσu q hq]
        exact hown2
      · have hs : (ψ q.1).Sublist Fy := by
          rw [← hbl]
          unfold blocks
          exact List.sublist_flatten_of_mem (List.mem_map_of_mem hj)
        exact hs.nodup (hndF.sublist (List.sublist_append_right _ _))
  · intro j j' b1 b2 hj hj' hne _ _ c hc hc'
    rw [List.nodup_append] at hndF
    rcases hj with rfl | hj
    · rcases hj' with e | hj'
      · exact hne e.symm
      · rw [hφid] at hc
        rw [hφu _ hj'] at hc'
        exact hndF.2.2 c hc c (hψ _ hj' c hc') rfl
    · rcases hj' with rfl | hj'
      · rw [hφid] at hc'
        rw [hφu _ hj] at hc
        exact hndF.2.2 c hc' c (hψ _ hj c hc) rfl
      · rw [hφu _ hj] at hc
        rw [hφu _ hj'] at hc'
        have : ∀ (L : List Nat), (blocks ψ L).Nodup → j ∈ L → j' ∈ L → False := by
          intro L
          induction L with
          | nil => simp
          | cons z L ih =>
            intro hn hi hi'
            have hx : blocks ψ (z :: L) = ψ z ++ blocks ψ L := by simp [blocks]
            rw [hx, List.nodup_append] at hn
            rcases List.mem_cons.1 hi with e1 | q1
            · rcases List.mem_cons.1 hi' with e2 | q2
              · exact hne (e1.trans e2.symm)
              · exact hn.2.2 c (e1 ▸ hc) c (mem_blocks.2 ⟨j', q2, hc'⟩) rfl
            · rcases List.mem_cons.1 hi' with e2 | q2
              · exact hn.2.2 c (e2 ▸ hc') c (mem_blocks.2 ⟨j, q1, hc⟩) rfl
              · exact ih hn.2.1 q1 q2
        exact this _ (by rw [hbl]; exact hndF.2.1) hj hj'
  · intro j hj
    rcases hj with rfl | hj
    · exact .inl hσid
    · obtain ⟨q, hq, rfl⟩ := hmemu j hj
      exact .inr (newOk_lt (hnew q hq))

theorem row_mov0 {w : World} {O : Nat → Prop} {hp : Nat → Option Blk} {σ : Nat → Value} {id : Nat} {e : Ty} {xs : List (T e)} {F : List Nat} (h : BlkRep w O hp σ id (.row e true xs) F) : BlkRep w O hp σ id (.mov e xs 0) F := by
  simp only [BlkRep, Own] at h
  obtain ⟨hm, ⟨h1, h2, h3⟩ | ⟨bl, off, cap, cur, et, Fs, h1, hh, h2, h3, h4, hF, hl, hv⟩⟩ := h
  · simp only [List.cons.injEq, and_true] at h1
    exact ⟨hm, .inl ⟨h1, h2, h3⟩⟩
  · simp only [List.cons.injEq, and_true] at h1
    exact ⟨hm, .inr ⟨bl, off, cap, cur, et, Fs, h1, hh, h2, h3, h4, hF, hl, fun i hi _ => hv i hi, fun i hi => by omega⟩⟩

/-- an element is taken out of its row -/
theorem Conc.moveout (h : Conc n0 A O0 w0 s σ φ a w) {id : Nat} {e : Ty} {xs : List (T e)} {i : Nat} {x : T e} {blk : Blk} {n m : Nat} {d : D} {u : List (Nat × Option Blk)}
    (hb : s.heap id = some blk) (hlike : blk.like (.mov e xs (i + 1))) (hmv : BlkRep w (OO O0 s φ) s.heap σ id (.mov e xs i) (φ id)) (hm : s.ment id = true) (hi : xs[i]? = some x)
    {b off cap : Nat} (hσ : σ id = .slice (some ⟨b, off, none⟩) (List.length xs) cap) (ho : openD e x n = (d, u, m)) (hu : freshIds s u = true) :
    ∃ cur et σ' φ', w.heap[b]? = some (.cells cur et (0, 0)) ∧ off + i * e.size + e.size ≤ cur.size ∧
      Conc n0 A O0 w0 ⟨s.n, s.tm, ((id, some (.mov e xs (i + 1))) :: u) ++ s.hp⟩ σ' φ' a w ∧ Shape e d ∧
      ∀ hp' O', Rep w O' hp' σ' d (seg cur (off + i * e.size) e.size) := by
  obtain ⟨hlen, ⟨h1, _⟩ | ⟨bl, off', cap', cur, et, Fs, h1, hh, h2, h3, h4, hF, hl, hv, hk⟩⟩ := hmv
  · rw [hσ] at h1; simp at h1
  rw [hσ] at h1
  simp only [Value.slice.injEq, Option.some.injEq, Addr.mk.injEq, and_true, true_and] at h1
  obtain ⟨⟨rfl, rfl⟩, rfl⟩ := h1
  have hil : i < List.length xs := (List.getElem?_eq_some_iff.1 hi).1
  have hxe : List.get xs ⟨i, hil⟩ = x := by simpa [List.getElem?_eq_getElem hil] using hi
  have hcap := Nat.mul_le_mul_right e.size h2
  have hlt : (i + 1) * e.size ≤ List.length xs * e.size := Nat.mul_le_mul_right _ hil
  rw [Nat.add_mul, Nat.one_mul] at hlt
  have hoy := hv i hil (Nat.le_refl _)
  rw [hxe] at hoy
  have hiF : i < Fs.length := by omega
  obtain ⟨F1, hF1e⟩ : ∃ F1, F1 = b :: (Fs.set i []).flatten := ⟨_, rfl⟩
  obtain ⟨Fy, hFye⟩ : ∃ Fy, Fy = Fs.getD i [] := ⟨_, rfl⟩
  rw [← hFye] at hoy
  have hsz : off + i * e.size + e.size ≤ cur.size := by omega
  have hperm : (φ id).Perm (F1 ++ Fy) := by
    obtain ⟨g1, g2⟩ := flatten_set hiF []
    rw [hF, hF1e, hFye, g2, g1, List.perm_iff_count]
    intro c
    simp only [List.count_append, List.count_cons, List.count_nil]
    omega
  obtain ⟨hnm, hrange, hsh, ψ, ν, hbl, hrows, hrep⟩ := openD_ok ho hoy
  obtain ⟨hnew, hnd⟩ := freshIds_ok hu
  have hnm' : ∀ q, q ∈ u → s.ment q.1 = false := fun q hq => by
    have := hnew q hq
    simp only [AS.newOk, Bool.and_eq_true, Bool.not_eq_true'] at this
    exact this.1
  have hidu : id ∉ u.map (·.1) := fun hid => by
    obtain ⟨q, hq, he⟩ := List.mem_map.1 hid
    rw [← he, hnm' q hq] at hm
    simp at hm
  have hndF : (F1 ++ Fy).Nodup := hperm.nodup_iff.1 (h.nodup id _ hb)
  let σ' : Nat → Value := fun j => if j ∈ u.map (·.1) then ν j else σ j
  let φ' : Nat → List Nat := fun j => if j = id then F1 else if j ∈ u.map (·.1) then ψ j else φ j
  have hσid : σ' id = σ id := if_neg hidu
  have hσu : ∀ q, q ∈ u → σ' q.1 = ν q.1 := fun q hq => if_pos (List.mem_map_of_mem hq)
  have hφid : φ' id = F1 := if_pos rfl
  have hφu : ∀ j, j ∈ u.map (·.1) → φ' j = ψ j := fun j hj => by
    have : j ≠ id := fun e => hidu (e ▸ hj)
    simp only [φ', if_neg this, if_pos hj]
  have hget : ∀ (U : List (Nat × Option Blk)) (j : Nat), j ∉ U.map (·.1) → aget (U ++ s.hp) j = aget s.hp j := by
    intro U j
    induction U with
    | nil => simp
    | cons q U ih =>
      intro hn
      simp only [List.map_cons, List.mem_cons, not_or] at hn
      rw [List.cons_append, aget_cons, if_neg (Ne.symm hn.1), ih hn.2]
  have hgetm : ∀ (U : List (Nat × Option Blk)), (U.map (·.1)).Nodup → ∀ q, q ∈ U → aget (U ++ s.hp) q.1 = some q.2 := by
    intro U
    induction U with
    | nil => simp
    | cons r U ih =>
      intro hn q hp
      simp only [List.map_cons, List.nodup_cons] at hn
      rw [List.cons_append, aget_cons]
      rcases List.mem_cons.1 hp with rfl | hp
      · rw [if_pos rfl]
      · rw [if_neg (fun e : r.1 = q.1 => hn.1 (by rw [e]; exact List.mem_map_of_mem hp)), ih hn.2 q hp]
  have hU : (((id, some (Blk.mov e xs (i + 1))) :: u).map (·.1)).Nodup := by
    simp only [List.map_cons, List.nodup_cons]
    exact ⟨hidu, hnd⟩
  have hh1 : ∀ j, ¬ (j = id ∨ j ∈ u.map (·.1)) → AS.heap ⟨s.n, s.tm, ((id, some (Blk.mov e xs (i + 1))) :: u) ++ s.hp⟩ j = s.heap j := fun j hj => by
    simp only [AS.heap]
    rw [hget _ j (by simpa using hj)]
  have hh2 : AS.heap ⟨s.n, s.tm, ((id, some (Blk.mov e xs (i + 1))) :: u) ++ s.hp⟩ id = some (.mov e xs (i + 1)) := by
    simp only [AS.heap]
    rw [hgetm _ hU (id, some (.mov e xs (i + 1))) (by simp)]
    rfl
  have hh3 : ∀ q, q ∈ u → AS.heap ⟨s.n, s.tm, ((id, some (Blk.mov e xs (i + 1))) :: u) ++ s.hp⟩ q.1 = q.2 := fun q hq => by
    simp only [AS.heap]
    rw [hgetm _ hU q (by simp [hq])]
    rfl
  have hmemu : ∀ j, j ∈ u.map (·.1) → ∃ q, q ∈ u ∧ q.1 = j := fun j hj => by
    obtain ⟨q, hq, he⟩ := List.mem_map.1 hj
    exact ⟨q, hq, he⟩
  have hψ : ∀ j, j ∈ u.map (·.1) → ∀ c, c ∈ ψ j → c ∈ Fy := fun j hj c hc => by
    rw [← hbl]; exact mem_blocks.2 ⟨j, hj, hc⟩
  have hin : ∀ j, (j = id ∨ j ∈ u.map (·.1)) → ∀ c, c ∈ φ' j → c ∈ φ id := by
    intro j hj c hc
    refine hperm.mem_iff.2 ?_
    rcases hj with rfl | hj
    · rw [hφid] at hc
      exact List.mem_append_left _ hc
    · rw [hφu j hj] at hc
      exact List.mem_append_right _ (hψ j hj c hc)
  have hrep' : ∀ hp' O', Rep w O' hp' σ' d (seg cur (off + i * e.size) e.size) := fun hp' O' => hrep w hp' σ' O' hσu
  refine ⟨cur, et, σ', φ', hh, hsz, ?_, hsh, hrep'⟩
  refine h.trans (fun j => j = id ∨ j ∈ u.map (·.1)) rfl rfl ?_ (fun _ _ _ => rfl) (Nat.le_refl _) ?_ ?_ ?_ ?_ rfl rfl rfl ?_
  · intro j hj
    refine ⟨hh1 j hj, ?_, ?_⟩
    · exact if_neg fun hm => hj (.inr hm)
    · simp only [not_or] at hj
      simp only [φ', if_neg hj.1, if_neg hj.2]
  · intro j blk' hj _ c hc
    exact .inr ⟨id, _, .inl rfl, hb, hin j hj c hc⟩
  · intro j blk' hj hl hmj
    rcases hj with rfl | hj
    · rw [hh2] at hl
      simp only [Option.some.injEq] at hl
      subst hl
      exact ⟨_, hb, hlike, hσid⟩
    · obtain ⟨q, hq, rfl⟩ := hmemu j hj
      rw [hnm' q hq] at hmj
      simp at hmj
  · intro j blk' hj hl
    rcases hj with rfl | hj
    · rw [hh2] at hl
      simp only [Option.some.injEq] at hl
      subst hl
      rw [hφid]
      have hF1 : F1.Nodup := hndF.sublist (List.sublist_append_left _ _)
      refine ⟨⟨hlen, .inr ⟨b, off, cap, cur, et, Fs.set i [], hσid.trans hσ, hh, h2, h3, h4, hF1e, by rw [List.length_set]; exact hl, fun j hj hij => ?_, fun j hj => ?_⟩⟩, hF1⟩
      · have hne : j ≠ i := by omega
        have : (Fs.set i []).getD j [] = Fs.getD j [] := by simp [List.getD, Ne.symm hne]
        rw [this]
        exact hv j hj (by omega)
      · by_cases hji : j = i
        · subst hji; simp [List.getD, hiF]
        · have : (Fs.set i []).getD j [] = Fs.getD j [] := by simp [List.getD, Ne.symm hji]
          rw [this]
          exact hk j (by omega)
    · obtain ⟨q, hq, rfl⟩ := hmemu j hj
      rw [hh3 q hq] at hl
      obtain ⟨e2, xs2, he2, hown2⟩ := hrows q hq
      rw [he2] at hl
      simp only [Option.some.injEq] at hl
      subst hl
      rw [hφu _ hj]
      refine ⟨?_, ?_⟩
      · simp only [BlkRep]
        rw [hσu q hq]
        exact hown2
      · have hs : (ψ q.1).Sublist Fy := by
          rw [← hbl]
          unfold blocks
          exact List.sublist_flatten_of_mem (List.mem_map_of_mem hj)
        exact hs.nodup (hndF.sublist (List.sublist_append_right _ _))
  · intro j j' b1 b2 hj hj' hne _ _ c hc hc'
    rw [List.nodup_append] at hndF
    rcases hj with rfl | hj
    · rcases hj' with e | hj'
      · exact hne e.symm
      · rw [hφid] at hc
        rw [hφu _ hj'] at hc'
        exact hndF.2.2 c hc c (hψ _ hj' c hc') rfl
    · rcases hj' with rfl | hj'
      · rw [hφid] at hc'
        rw [hφu _ hj] at hc
        exact hndF.2.2 c hc' c (hψ _ hj c hc) rfl
      · rw [hφu _ hj] at hc
        rw [hφu _ hj'] at hc'
        have : ∀ (L : List Nat), (blocks ψ L).Nodup → j ∈ L → j' ∈ L → False := by
          intro L
          induction L with
          | nil => simp
          | cons z L ih =>
            intro hn hi hi'
            have hx : blocks ψ (z :: L) = ψ z ++ blocks ψ L := by simp [blocks]
            rw [hx, List.nodup_append] at hn
            rcases List.mem_cons.1 hi with e1 | q1
            · rcases List.mem_cons.1 hi' with e2 | q2
              · exact hne (e1.trans e2.symm)
              · exact hn.2.2 c (e1 ▸ hc) c (mem_blocks.2 ⟨j', q2, hc'⟩) rfl
            · rcases List.mem_cons.1 hi' with e2 | q2
              · exact hn.2.2 c (e2 ▸ hc') c (mem_blocks.2 ⟨j, q1, hc⟩) rfl
              · exact ih hn.2.1 q1 q2
        exact this _ (by rw [hbl]; exact hndF.2.1) hj hj'
  · intro j hj
    rcases hj with rfl | hj
    · exact .inl hσid
    · obtain ⟨q, hq, rfl⟩ := hmemu j hj
      exact .inr (newOk_lt (hnew q hq))

theorem cond_none_some' {α : Type} {b : Bool} {x : Option α} {y : α} : (bif b then x else none) = some y ↔ b = true ∧ x = some y := by cases b <;> simp

/-- the part that is held goes back -/
theorem attach_ok (h : Conc n0 A O0 w0 s σ φ a w) {id : Nat} {s' : AS} (he : s.attach id = some s') : ∃ φ', Conc n0 A O0 w0 s' σ φ' a w := by
  unfold AS.attach at he
  split at he
  · rename_i e xs i x path τ d hb
    split at he
    · rename_i y l hy
      cases hnd : nodupB (id :: l) with
      | false => simp [hnd] at he
      | true =>
        simp only [hnd, cond_true] at he
        split at he
        · rename_i x' hx'
          simp only [Option.some.injEq] at he
          subst he
          have hnd := nodupB_ok hnd
          obtain ⟨hsh, hi, ht, hlt, bl, off, cap, cur, et, hσ, hh, hbF, hsz, hrep, hwand⟩ := h.hp id _ hb
          obtain ⟨hown, hlive⟩ := ownT_ok h hy hrep
          have hle := off_le_at ht
          have hcl : cur.toList.length = cur.size := Array.length_toList
          have hsame : splice cur.toList (off + i * e.size + offAt e path) (seg cur (off + i * e.size + offAt e path) τ.size) = cur.toList := splice_same (by omega)
          obtain ⟨F', hperm, hown'⟩ := hwand w _ (seg_length (by omega)) (fun _ _ _ => rfl) (by rw [hsame]; exact hh) y _ x' hown hx'
          have hFF : (φ id ++ blocks φ l).Nodup := by
            have := blocks_nodup h hnd (by
              intro j hj
              rcases List.mem_cons.1 hj with rfl | hj
              · exact ⟨_, hb⟩
              · exact hlive j hj)
            simpa [blocks] using this
          refine ⟨_, h.turn (blk0 := .hol e xs i x path τ d) (blk := .row e true (List.set xs i x')) hb (by simp [Blk.like]) l hlive (List.nodup_cons.1 hnd).1 F' (Nat.le_refl _) (fun _ _ _ _ => rfl) rfl rfl rfl (hperm.nodup_iff.2 hFF) ?_ ?_⟩
          · intro c hc
            rcases List.mem_append.1 (hperm.mem_iff.1 hc) with hc | hc
            · exact .inr (.inl hc)
            · exact .inr (.inr (mem_blocks.1 hc))
          · intro hp' O' _ _
            exact hown'
        · simp at he
    · simp at he
  · simp only [Option.some.injEq] at he
    subst he
    exact ⟨φ, h⟩

theorem aget_map {α β : Type} (f : α → β) : ∀ (l : List (Nat × α)) (k : Nat), aget (l.map fun p => (p.1, f p.2)) k = (aget l k).map f
  | [], k => rfl
  | (j, a) :: r, k => by
    rw [List.map_cons, aget_cons, aget_cons]
    split
    · rfl
    · exact aget_map f r k
theorem rowN_frz {id : Nat} {τ : Ty} {x : T τ} (b : Blk) : (b.frz id τ x).rowN = b.rowN := by cases b <;> rfl
theorem isAgg_frz {id : Nat} {e : Ty} {x : List (T e)} (d : D) : (d.frz id (.sl e) x).isAgg = d.isAgg := by
  cases d with
  | own j => simp only [D.frz]; cases Nat.beq j id <;> rfl
  | _ => rfl

section
variable {O O' : Nat → Prop} {hp hp' : Nat → Option Blk} {id : Nat} {e : Ty} {dp : Bool} {xs : List (T e)}

theorem Rep.frz (hb : hp id = some (.row e dp xs)) (hn : hp' id = none) (hh : ∀ j, j ≠ id → hp' j = (hp j).map (Blk.frz id (.sl e) xs)) (hO : ∀ b, O' b → O b) (hv : View w O' (.sl e) xs [σ id]) :
    ∀ (d : D) (cs : List Value), Rep w O hp σ d cs → Rep w O' hp' σ (d.frz id (.sl e) xs) cs
  | .und, cs, h => h
  | .anyv, cs, h => h
  | .t τ x, cs, h => View.weaken hO h
  | .nil, cs, h => h
  | .own j, cs, h => by
    obtain ⟨v, hcs, h1, h2⟩ := h
    simp only [D.frz]
    cases hj : Nat.beq j id with
    | true =>
      have := Nat.eq_of_beq_eq_true hj
      subst this
      rw [hcs, h2 _ _ hb rfl]
      exact hv
    | false =>
      have hne : j ≠ id := fun e => by rw [e, Nat.beq_refl] at hj; simp at hj
      refine ⟨v, hcs, h1, fun blk r hl hr => ?_⟩
      rw [hh j hne, Option.map_eq_some_iff] at hl
      obtain ⟨b0, hb0, rfl⟩ := hl
      rw [rowN_frz] at hr
      exact h2 b0 r hb0 hr
  | .cut j lo hi, cs, h => by
    obtain ⟨v, hcs, h1, h2⟩ := h
    refine ⟨v, hcs, h1, fun blk e' n hl hr => ?_⟩
    by_cases hne : j = id
    · subst hne; rw [hn] at hl; simp at hl
    rw [hh j hne, Option.map_eq_some_iff] at hl
    obtain ⟨b0, hb0, rfl⟩ := hl
    rw [rowN_frz] at hr
    exact h2 b0 e' n hb0 hr
  | .ptr j path, cs, h => by
    obtain ⟨v, hcs, h1, h2⟩ := h
    refine ⟨v, hcs, h1, fun ρ d hl => ?_⟩
    by_cases hne : j = id
    · subst hne; rw [hn] at hl; simp at hl
    rw [hh j hne, Option.map_eq_some_iff] at hl
    obtain ⟨b0, hb0, hbe⟩ := hl
    cases b0 with
    | box ρ' d' =>
      simp only [Blk.frz, Blk.box.injEq] at hbe
      rw [← hbe.1]
      exact h2 ρ' d' hb0
    | _ => simp [Blk.frz] at hbe
  | .eptr j i path, cs, h => by
    obtain ⟨v, hcs, h1, h2⟩ := h
    refine ⟨v, hcs, h1, fun blk e' n hl hr => ?_⟩
    by_cases hne : j = id
    · subst hne; rw [hn] at hl; simp at hl
    rw [hh j hne, Option.map_eq_some_iff] at hl
    obtain ⟨b0, hb0, rfl⟩ := hl
    rw [rowN_frz] at hr
    exact h2 b0 e' n hb0 hr
  | .rp τ x, cs, h => by
    obtain ⟨b, off, cur, et, fr, hcs, hb', hh', hs, hvw⟩ := h
    exact ⟨b, off, cur, et, fr, hcs, fun h => hb' (hO _ h), hh', hs, View.weaken hO hvw⟩
  | .pr a b, cs, h => by
    obtain ⟨c1, c2, h0, h1, h2⟩ := h
    exact ⟨c1, c2, h0, Rep.frz hb hn hh hO hv a c1 h1, Rep.frz hb hn hh hO hv b c2 h2⟩
  | .un, cs, h => h
  | .tup d, cs, h => h

theorem RepV.frz (hb : hp id = some (.row e dp xs)) (hn : hp' id = none) (hh : ∀ j, j ≠ id → hp' j = (hp j).map (Blk.frz id (.sl e) xs)) (hO : ∀ b, O' b → O b) (hv : View w O' (.sl e) xs [σ id])
    {d : D} {v : Value} (h : RepV w O hp σ d v) : RepV w O' hp' σ (d.frz id (.sl e) xs) v := by
  unfold RepV at *
  rw [isAgg_frz]
  split
  · rename_i ha
    rw [if_pos ha] at h
    obtain ⟨cs, h1, h2⟩ := h
    exact ⟨cs, h1, Rep.frz hb hn hh hO hv d _ h2⟩
  · rename_i ha
    rw [if_neg ha] at h
    exact Rep.frz hb hn hh hO hv d _ h

theorem RepT.frz (hb : hp id = some (.row e dp xs)) (hn : hp' id = none) (hh : ∀ j, j ≠ id → hp' j = (hp j).map (Blk.frz id (.sl e) xs)) (hO : ∀ b, O' b → O b) (hv : View w O' (.sl e) xs [σ id]) :
    ∀ (d : D) (vs : List Value), RepT w O hp σ d vs → RepT w O' hp' σ (d.frz id (.sl e) xs) vs
  | .pr a b, v :: vs, h => ⟨RepV.frz hb hn hh hO hv h.1, RepT.frz hb hn hh hO hv b vs h.2⟩
  | .un, [], _ => trivial
  | .pr _ _, [], h => h.elim
  | .un, _ :: _, h => h.elim
  | .und, _, h => by simp [RepT] at h
  | .anyv, _, h => by simp [RepT] at h
  | .t _ _, _, h => by simp [RepT] at h
  | .nil, _, h => by simp [RepT] at h
  | .own _, _, h => by simp [RepT] at h
  | .ptr _ _, _, h => by simp [RepT] at h
  | .eptr _ _ _, _, h => by simp [RepT] at h
  | .rp _ _, _, h => by simp [RepT] at h
  | .tup _, _, h => by simp [RepT] at h

theorem RepU.frz (hb : hp id = some (.row e dp xs)) (hn : hp' id = none) (hh : ∀ j, j ≠ id → hp' j = (hp j).map (Blk.frz id (.sl e) xs)) (hO : ∀ b, O' b → O b) (hv : View w O' (.sl e) xs [σ id])
    {d : D} {v : Value} (h : RepU w O hp σ d v) : RepU w O' hp' σ (d.frz id (.sl e) xs) v := by
  cases d with
  | tup ds =>
    obtain ⟨vs, h1, h2⟩ := h
    exact ⟨vs, h1, RepT.frz hb hn hh hO hv ds _ h2⟩
  | und => exact h
  | anyv => exact h
  | _ => exact repU_of_repV (RepV.frz hb hn hh hO hv h)
end

theorem freeze_ok (hA : ∀ b, ¬ A.A b) (h : Conc n0 A O0 w0 s σ φ a w) {id : Nat} {s' : AS} (he : s.freeze id = some s') : Conc n0 A O0 w0 s' σ φ a w := by
  unfold AS.freeze at he
  split at he
  · rename_i e dp xs hb
    simp only [cond_none_some'] at he
    obtain ⟨hsh, he⟩ := he
    simp only [Option.some.injEq] at he
    subst he
    have hheap : ∀ j, AS.heap ⟨s.n, s.tm.map fun p => (p.1, p.2.frz id (.sl e) xs), (id, none) :: s.hp.map fun p => (p.1, p.2.map (Blk.frz id (.sl e) xs))⟩ j = if j = id then none else (s.heap j).map (Blk.frz id (.sl e) xs) := by
      intro j
      simp only [AS.heap, aget_cons]
      by_cases hj : id = j
      · subst hj; simp
      · rw [if_neg hj, if_neg (Ne.symm hj), aget_map]
        cases aget s.hp j with
        | none => rfl
        | some o => cases o <;> rfl
    generalize hs' : (⟨s.n, s.tm.map fun p => (p.1, p.2.frz id (.sl e) xs), (id, none) :: s.hp.map fun p => (p.1, p.2.map (Blk.frz id (.sl e) xs))⟩ : AS) = s' at hheap
    have hback : ∀ j blk, s'.heap j = some blk → j ≠ id ∧ ∃ b0, s.heap j = some b0 ∧ blk = b0.frz id (.sl e) xs := by
      intro j blk hl
      rw [hheap] at hl
      split at hl
      · simp at hl
      · rename_i hne
        obtain ⟨b0, h1, h2⟩ := Option.map_eq_some_iff.1 hl
        exact ⟨hne, b0, h1, h2.symm⟩
    have hO : ∀ b, OO O0 s' φ b → OO O0 s φ b := by
      rintro b (ho | ⟨j, blk, hl, hm⟩)
      · exact .inl ho
      · obtain ⟨_, b0, h1, _⟩ := hback j blk hl
        exact .inr ⟨j, b0, h1, hm⟩
    have hF : ∀ b, b ∈ φ id → ¬ OO O0 s' φ b := by
      rintro b hm (ho | ⟨j, blk, hl, hm'⟩)
      · rcases h.fresh id _ hb b hm with hge | hA'
        · have := h.o0 b ho; omega
        · exact hA b hA'
      · obtain ⟨hne, b0, h1, _⟩ := hback j blk hl
        exact h.disj id j _ b0 (Ne.symm hne) hb h1 b hm hm'
    have hv := row_frozen (h.hp id _ hb) hO hF
    have hn' : s'.heap id = none := by rw [hheap, if_pos rfl]
    have hh' : ∀ j, j ≠ id → s'.heap j = (s.heap j).map (Blk.frz id (.sl e) xs) := fun j hj => by rw [hheap, if_neg hj]
    refine ⟨by subst hs'; exact h.sz, h.df, ?_, ?_, ?_, ?_, ?_, h.o0, h.fr, h.pin, h.iv0, h.ivw⟩
    · intro t d hd
      subst hs'
      simp only at hd
      rw [aget_map, Option.map_eq_some_iff] at hd
      obtain ⟨d0, hd0, rfl⟩ := hd
      obtain ⟨v, hv1, hr⟩ := h.tm t d0 hd0
      exact ⟨v, hv1, RepU.frz hb hn' hh' hO hv hr⟩
    · intro j blk hl
      obtain ⟨hne, b0, h1, rfl⟩ := hback j blk hl
      have hsb : (b0.frz id (.sl e) xs).shaped = true := by
        have hm := AS.heap_mem hl
        subst hs'
        simp only [List.mem_cons, Prod.mk.injEq] at hm
        rcases hm with ⟨_, hx⟩ | hm
        · simp at hx
        · have := List.all_eq_true.1 hsh _ hm
          simpa using this
      have hbr := h.hp j b0 h1
      cases b0 with
      | box ρ d =>
        obtain ⟨_, b, cur, et, g1, g2, g3, g4, g5⟩ := hbr
        exact ⟨shapeB_ok hsb, b, cur, et, g1, g2, g3, Rep.frz hb hn' hh' hO hv d _ g4, g5⟩
      | row e' dp' xs' =>
        cases dp' with
        | true => exact hbr
        | false =>
          obtain ⟨hm, g | ⟨bl, off, cap, cur, et, g1, g2, g3, g4, g5, g6, g7⟩⟩ := hbr
          · exact ⟨hm, .inl g⟩
          · exact ⟨hm, .inr ⟨bl, off, cap, cur, et, g1, g2, g3, g4, g5, g6, fun i hi => (g7 i hi).weaken hO⟩⟩
      | hol e' xs' i x p τ d =>
        obtain ⟨_, g1, g2, g3, bl, off, cap, cur, et, g4, g5, g6, g7, g8, g9⟩ := hbr
        exact ⟨shapeB_ok hsb, g1, g2, g3, bl, off, cap, cur, et, g4, g5, g6, g7, Rep.frz hb hn' hh' hO hv d _ g8, g9⟩
      | mov e' xs' k => exact hbr
    · intro j blk hl
      obtain ⟨_, b0, h1, _⟩ := hback j blk hl
      exact h.nodup j b0 h1
    · intro j j' blk blk' hne hl hl'
      obtain ⟨_, b0, h1, _⟩ := hback j blk hl
      obtain ⟨_, b1, h2, _⟩ := hback j' blk' hl'
      exact h.disj j j' b0 b1 hne h1 h2
    · intro j blk hl
      obtain ⟨_, b0, h1, _⟩ := hback j blk hl
      exact h.fresh j b0 h1
  · simp only [Option.some.injEq] at he
    subst he
    exact h

theorem attL_ok {fz : Bool} (hfz : fz = true → ∀ b, ¬ A.A b) : ∀ {l : List (Nat × Nat)} {n : Nat} {s s' : AS} {φ : Nat → List Nat}, Conc n0 A O0 w0 s σ φ a w → attL fz l n s = some s' → ∃ φ', Conc n0 A O0 w0 s' σ φ' a w
  | [], n, s, s', φ, h, he => by
    simp only [attL, Option.some.injEq] at he
    subst he
    exact ⟨φ, h⟩
  | (r, id) :: l, n, s, s', φ, h, he => by
    simp only [attL] at he
    cases hr : Nat.beq r n with
    | false => rw [hr] at he; exact attL_ok hfz h he
    | true =>
      rw [hr] at he
      simp only [cond_true] at he
      cases hq : Nat.ble 1000000000 id with
      | false =>
        rw [hq] at he
        simp only [cond_false] at he
        split at he
        · rename_i s1 h1
          obtain ⟨φ1, hc⟩ := attach_ok h h1
          exact attL_ok hfz hc he
        · simp at he
      | true =>
        rw [hq] at he
        simp only [cond_true] at he
        cases fz with
        | false => simp at he
        | true =>
          simp only [cond_true] at he
          split at he
          · rename_i s1 h1
            exact attL_ok hfz (freeze_ok (hfz rfl) h h1) he
          · simp at he

/-- a part of a datum is a datum -/
theorem t_field : ∀ {n : Nat} {e τ : Ty} {x : T e} {y : D}, tyField e n = some τ → (D.t e x).field n = some y → ∃ z : T τ, y = .t τ z
  | 0, .p a c, τ, x, y, ht, hy => by
    simp only [tyField, Option.some.injEq] at ht
    subst ht
    simp only [D.field, D.fst, Option.some.injEq] at hy
    exact ⟨x.1, hy.symm⟩
  | n + 1, .p a c, τ, x, y, ht, hy => by
    simp only [D.field, D.snd] at hy
    exact t_field (e := c) ht hy
  | n, .i _, _, _, _, ht, _ => by cases n <;> simp [tyField] at ht
  | n, .b, _, _, _, ht, _ => by cases n <;> simp [tyField] at ht
  | n, .o, _, _, _, ht, _ => by cases n <;> simp [tyField] at ht
  | n, .s, _, _, _, ht, _ => by cases n <;> simp [tyField] at ht
  | n, .sl _, _, _, _, ht, _ => by cases n <;> simp [tyField] at ht
  | n, .u, _, _, _, ht, _ => by cases n <;> simp [tyField] at ht

theorem dec_refl : ∀ τ : Ty, Ty.dec τ τ = some ⟨rfl⟩
  | .i _ => by simp [Ty.dec]
  | .b => rfl
  | .o => rfl
  | .s => rfl
  | .u => rfl
  | .sl e => by simp only [Ty.dec, dec_refl e]
  | .p x y => by simp only [Ty.dec, dec_refl x, dec_refl y]

theorem t_at : ∀ {p : List Nat} {e τ : Ty} {x : T e} {y : D}, tyAt e p = some τ → (D.t e x).at p = some y → ∃ z : T τ, y = .t τ z ∧ toT y τ = some z
  | [], e, τ, x, y, ht, hy => by
    simp only [tyAt, Option.some.injEq] at ht
    subst ht
    simp only [D.at, Option.some.injEq] at hy
    subst hy
    exact ⟨x, rfl, by simp only [toT, dec_refl e]⟩
  | f :: p, e, τ, x, y, ht, hy => by
    simp only [tyAt] at ht
    cases hf : tyField e f with
    | none => simp [hf] at ht
    | some τ' =>
      simp only [hf, Option.bind_some] at ht
      simp only [D.at] at hy
      cases hd : (D.t e x).field f with
      | none => simp [hd] at hy
      | some z =>
        simp only [hd] at hy
        obtain ⟨u, rfl⟩ := t_field hf hd
        exact t_at ht hy

theorem op_load (hG : EnvTy P G) (h : Conc n0 A O0 w0 s σ φ a w) {t : TypeId} {x : Operand} (ho : o.op = .load t x)
    (he : aop G s o k = some out) : o.wp P a w (Good n0 A O0 w0 k out) Q := by
  simp only [aop, aopK, ho] at he
  split at he
  · -- a box
    rename_i τ id path hty hx
    split at he
    · rename_i ρ d hb
      split at he
      · rename_i τ' e ht hd
        split at he
        · rename_i q hq
          obtain rfl := dec_eq hq
          have hv := h.ev hx
          rw [repU_ptr] at hv
          obtain ⟨b, hσ, hv⟩ := hv.2 ρ d hb
          obtain ⟨hs, b', cur, et, hσ', hh, hF, hr, hsz⟩ := h.hp id _ hb
          rw [hσ] at hσ'
          simp at hσ'
          subst hσ'
          obtain ⟨hse, hre⟩ := Rep.at hs ht hd hr
          have hle := off_le_at ht
          have hl := run_loadVar' (hG.ty _ _ hty) hh (by omega : offAt ρ path + τ'.size ≤ cur.size)
          refine wp_value (w' := w) (v := vof τ' (seg cur (offAt ρ path) τ'.size)) ?_ (fin_pure h ?_ he)
          · simp [execOp, ho, hv, Instr.loadAt, Instr.sureAddr, hl]
          · exact repU_vof hse hre
        · simp at he
      · simp at he
    · simp at he
  · -- memory that is only read
    rename_i τ τ' y hty hx
    split at he
    · rename_i q hq
      obtain rfl := dec_eq hq
      have hv := h.ev hx
      rw [repU_rp] at hv
      obtain ⟨b, off, cur, et, fr, hv, hO, hh, hs, hvw⟩ := hv
      have hl := run_loadVar' (hG.ty _ _ hty) hh hs
      refine wp_value (w' := w) (v := vof τ' (seg cur off τ'.size)) ?_ (fin_pure h ?_ he)
      · simp [execOp, ho, hv, Instr.loadAt, Instr.sureAddr, hl]
      · exact repU_vof (τ := τ') (by simp [Shape]) hvw
    · simp at he
  · -- an element of a row
    rename_i τ id i path hty hx
    cases hml : isMl G o.dst with
    | true =>
      rw [hml] at he
      simp only [cond_true] at he
      have key : ∀ (e : Ty) (xs : List (T e)) (kk : Nat) (blk : Blk), path = [] → s.heap id = some blk → (blk = .row e true xs ∧ kk = 0 ∨ blk = .mov e xs kk) → aMoveK s o.dst τ id i e xs kk (fun d u => fin s o.dst d u k) = some out →
          o.wp P a w (Good n0 A O0 w0 k out) Q := by
        intro e xs kk blk hp hb hbk hgo
        subst hp
        unfold aMoveK at hgo
        split at hgo
        · rename_i q hq
          obtain rfl := dec_eq hq
          cases hik : Nat.beq i kk with
          | false => rw [hik] at hgo; simp at hgo
          | true =>
            obtain rfl := Nat.eq_of_beq_eq_true hik
            rw [Nat.beq_refl] at hgo
            simp only [cond_true] at hgo
            cases hxi : xs[i]? with
            | none => simp [hxi] at hgo
            | some x0 =>
              simp only [hxi, Option.bind_some] at hgo
              rcases hop : openD e x0 (100000 + 64 * o.dst.getD 0) with ⟨d, u, m⟩
              rw [hop] at hgo
              simp only at hgo
              cases hck : (Nat.ble m (100064 + 64 * o.dst.getD 0) && freshIds s u) with
              | false => rw [hck] at hgo; simp at hgo
              | true =>
                rw [hck] at hgo
                simp only [cond_true] at hgo
                simp only [Bool.and_eq_true] at hck
                have hm : s.ment id = true := ev_ment hx (by simp [D.ment])
                have hN : blk.rowN = some (e, List.length xs) := by rcases hbk with ⟨rfl, _⟩ | rfl <;> rfl
                have hlike : blk.like (.mov e xs (i + 1)) := by rcases hbk with ⟨rfl, _⟩ | rfl <;> simp [Blk.like]
                have hv := h.ev hx
                rw [repU_eptr] at hv
                obtain ⟨hi, b, off, cap, hσ, hv⟩ := hv.2 _ _ _ hb hN
                have hmv : BlkRep w (OO O0 s φ) s.heap σ id (.mov e xs i) (φ id) := by
                  have := h.hp id _ hb
                  rcases hbk with ⟨rfl, rfl⟩ | rfl
                  · exact row_mov0 this
                  · exact this
                obtain ⟨cur, et, σ', φ', hh, hs, hc, hsh, hrep⟩ := h.moveout hb hlike hmv hm hxi hσ hop hck.2
                have hl := run_loadVar' (hG.ty _ _ hty) hh hs
                refine wp_value (w' := w) (v := vof e (seg cur (off + i * e.size) e.size)) ?_ (fin_good rfl hc (repU_vof hsh (hrep _ _)) hgo)
                simp [execOp, ho, hv, Instr.loadAt, Instr.sureAddr, offAt, hl]
        · simp at hgo
      split at he
      · rename_i e xs hb
        exact key e xs 0 _ rfl hb (.inl ⟨rfl, rfl⟩) he
      · rename_i e xs kk hb
        exact key e xs kk _ rfl hb (.inr rfl) he
      · simp at he
    | false =>
    rw [hml] at he
    simp only [cond_false] at he
    split at he
    · rename_i e dp xs hb
      cases hxi : xs[i]? with
      | none => simp [hxi] at he
      | some x0 =>
        simp only [hxi, Option.bind_some] at he
        split at he
        · rename_i τ' y ht hd
          split at he
          · rename_i q hq
            obtain rfl := dec_eq hq
            have hv := h.ev hx
            rw [repU_eptr] at hv
            obtain ⟨hi, b, off, cap, hσ, hv⟩ := hv.2 _ _ _ hb rfl
            have hle := off_le_at ht
            cases hf : ((!dp || e.flat) || τ'.flat) with
            | true =>
              simp only [hf, cond_true] at he
              have hel : ∃ cur et, w.heap[b]? = some (.cells cur et (0, 0)) ∧ off + i * e.size + e.size ≤ cur.size ∧ Shape τ' y ∧ Rep w (OO O0 s φ) s.heap σ y (seg cur (off + i * e.size + offAt e path) τ'.size) := by
                cases hf1 : (!dp || e.flat) with
                | true =>
                  obtain ⟨cur, et, hh, hs, hvw⟩ := row_elem (h.hp id _ hb) (by simpa using hf1) hxi hσ
                  have hrep : Rep w (OO O0 s φ) s.heap σ (.t e x0) (seg cur (off + i * e.size) e.size) := hvw
                  obtain ⟨hse, hre⟩ := Rep.at (τ := τ') (by simp [Shape]) ht hd hrep
                  rw [seg_seg _ _ _ _ _ hle] at hre
                  exact ⟨cur, et, hh, hs, hse, hre⟩
                | false =>
                  have hfl : τ'.flat = true := by simpa [hf1] using hf
                  have hdp : dp = true := by
                    simp only [Bool.or_eq_false_iff] at hf1
                    simpa using hf1.1
                  subst hdp
                  have hown := h.hp id _ hb
                  simp only [BlkRep, hσ] at hown
                  obtain ⟨y', hy1, hy2⟩ := t_at ht hd
                  subst hy1
                  obtain ⟨cur, et, F1, Fy, hh, _, hsz, _, hoy, _⟩ := own_focus hown hxi ht hd hy2
                  refine ⟨cur, et, hh, hsz, by simp [Shape], ?_⟩
                  have hnil := own_flat hfl hoy
                  exact hoy.view (by rw [hnil]; simp)
              obtain ⟨cur, et, hh, hs, hse, hre⟩ := hel
              have hl := run_loadVar' (hG.ty _ _ hty) hh (by omega : off + i * e.size + offAt e path + τ'.size ≤ cur.size)
              refine wp_value (w' := w) (v := vof τ' (seg cur (off + i * e.size + offAt e path) τ'.size)) ?_ (fin_pure h (repU_vof hse hre) he)
              simp [execOp, ho, hv, Instr.loadAt, Instr.sureAddr, hl]
            | false =>
              simp only [hf, cond_false] at he
              split at he
              · rename_i y' hy'
                rcases hop : openD τ' y' (100000 + 64 * o.dst.getD 0) with ⟨d, u, m⟩
                rw [hop] at he
                simp only at he
                cases hck : (Nat.ble m (100064 + 64 * o.dst.getD 0) && freshIds s u) with
                | false => rw [hck] at he; simp at he
                | true =>
                  rw [hck] at he
                  simp only [cond_true] at he
                  simp only [Bool.and_eq_true] at hck
                  have hdp : dp = true := by
                    simp only [Bool.or_eq_false_iff] at hf
                    simpa using hf.1.1
                  subst hdp
                  have hm : s.ment id = true := ev_ment hx (by simp [D.ment])
                  obtain ⟨cur, et, σ', φ', hh, hs, hc, hsh, hrep⟩ := h.focus hb hm hxi ht hd hy' hσ hop hck.2
                  have hl := run_loadVar' (hG.ty _ _ hty) hh (by omega : off + i * e.size + offAt e path + τ'.size ≤ cur.size)
                  refine wp_value (w' := w) (v := vof τ' (seg cur (off + i * e.size + offAt e path) τ'.size)) ?_ (fin_good rfl hc (repU_vof hsh (hrep _ _)) he)
                  simp [execOp, ho, hv, Instr.loadAt, Instr.sureAddr, hl]
              · simp at he
          · simp at he
        · simp at he
    · simp at he
  · simp at he

end
end KF

namespace KF
open Go

section
variable {P : Program} {Out : Type} {n0 : Nat} {A : Fx} {O0 : Nat → Prop} {w0 w w' : World} {s : AS} {σ σ' : Nat → Value} {φ φ' : Nat → List Nat} {a : Act}
variable {o : Oper} {Q : Exit → Act → World → Prop} {k : AS → Option Out} {out : Out} {d : D} {v : Value} {upd : List (Nat × Option Blk)} {dst : Option Tmp} {G : Env}

theorem aop_ok (hG : EnvOk P A.I G) (hfz : G.fz = true → ∀ b, ¬ A.A b) (h : Conc n0 A O0 w0 s σ φ a w) (he : aop G s o k = some out) : o.wp P a w (Good n0 A O0 w0 k out) Q := by
  have hT := hG.toEnvTy
  cases ho : o.op with
  | move x => exact op_move h (.inl ho) (by simp only [aop, aopK, ho] at he; cases hx : s.ev x with | none => simp [hx] at he | some d => simpa [hx] using he)
  | assign x => exact op_move h (.inr ho) (by simp only [aop, aopK, ho] at he; cases hx : s.ev x with | none => simp [hx] at he | some d => simpa [hx] using he)
  | pick c x y => exact op_pick h ho he
  | alloc t => exact op_alloc hT h ho he
  | box t x => exact op_box hT h ho he
  | build t ps => exact op_build hT h ho he
  | buildSlice t n ps => exact op_buildSlice hT h ho he
  | load t x => exact op_load hT h ho he
  | store t x y => exact op_store hT h ho he
  | nilCheck x => exact op_nilCheck h ho he
  | binOp op t x y t' => exact op_binOp' hT h ho he
  | unOp op t x => exact op_unOp h ho he
  | convert src t x => exact op_convert hT h ho he
  | slice t x lo hi max => 
    cases max with
    | none => exact op_slice hT h ho he
    | some m => simp [aop, aopK, ho] at he
  | fieldAddr t x f => exact op_fieldAddr hT h ho he
  | field t x f => exact op_field hT h ho he
  | indexAddr t x i => exact op_indexAddr hT h ho he
  | index t x i => exact op_index h hT ho he
  | makeSlice t l c => exact op_makeSlice hT h ho he
  | extract x n => exact op_extract h ho he
  | call c =>
    obtain ⟨callee, args, ts⟩ := c
    cases callee with
    | value f =>
      cases f with
      | func f => exact op_call hG hfz h ho he
      | _ => simp [aop, aopK, ho] at he
    | invoke r m => simp [aop, aopK, ho] at he
    | builtin b =>
      cases b with
      | len => exact op_len hT h ho he
      | append => exact op_append hT h ho he
      | copy => exact op_copy hT h ho he
      | max => exact op_max h ho he
      | min => exact op_min h ho he
      | _ => simp [aop, aopK, ho] at he
  | _ => simp [aop, aopK, ho] at he
end
end KF

namespace KF
open Go

/-! ### What an operation looks at -/
/-- the ids that an operation may make -/
def newIdsOf (dst : Option Tmp) (id : Nat) : Prop := dst = some id ∨ (100000 + 64 * dst.getD 0 ≤ id ∧ id < 100064 + 64 * dst.getD 0)

/-- two states that are alike to an operation -/
structure Agr (s s' : AS) (o : Oper) : Prop where
  ev : ∀ x, x ∈ opnds o.op → s'.ev x = s.ev x
  hp : isMoveB o.op = false → ∀ x, x ∈ opnds o.op → ∀ d, s.ev x = some d → ∀ id, d.ment id = true → s'.heap id = s.heap id
  nw : ∀ id, newIdsOf o.dst id → s'.newOk id = s.newOk id
  bx : isCallB o.op = true → ∀ x, x ∈ opnds o.op → ∀ bid p, s.ev x = some (.ptr bid p) → ∀ ρ d, s.heap bid = some (.box ρ d) → ∀ id, d.ment id = true → s'.heap id = s.heap id

def AgD (s s' : AS) (d : D) : Prop := ∀ id, d.ment id = true → s'.heap id = s.heap id

section
variable {s s' : AS} {G : Env} {o : Oper} {Out : Type}

theorem AgD.left {a b : D} (h : AgD s s' (.pr a b)) : AgD s s' a := fun id hi => h id (by simp [D.ment, hi])
theorem AgD.right {a b : D} (h : AgD s s' (.pr a b)) : AgD s s' b := fun id hi => h id (by simp [D.ment, hi])
theorem AgD.own {id : Nat} (h : AgD s s' (.own id)) : s'.heap id = s.heap id := h id (by simp [D.ment])
theorem AgD.cut {id lo hi : Nat} (h : AgD s s' (.cut id lo hi)) : s'.heap id = s.heap id := h id (by simp [D.ment])
theorem AgD.ptr {id : Nat} {p : List Nat} (h : AgD s s' (.ptr id p)) : s'.heap id = s.heap id := h id (by simp [D.ment])
theorem AgD.eptr {id i : Nat} {p : List Nat} (h : AgD s s' (.eptr id i p)) : s'.heap id = s.heap id := h id (by simp [D.ment])

theorem viewT_congr : ∀ {d : D} {τ : Ty}, AgD s s' d → viewT s' d τ = viewT s d τ := by
  intro d
  induction d with
  | pr a b iha ihb =>
    intro τ h
    cases τ with
    | p x y => simp only [viewT, iha h.left, ihb h.right]
    | _ => rfl
  | own id => intro τ h; cases τ <;> simp [viewT, h.own]
  | cut id lo hi => intro τ h; cases τ <;> simp [viewT, h.cut]
  | _ => intro τ h; cases τ <;> rfl

theorem ownT_congr : ∀ {d : D} {τ : Ty}, AgD s s' d → ownT s' d τ = ownT s d τ := by
  intro d
  induction d with
  | pr a b iha ihb =>
    intro τ h
    cases τ with
    | p x y => simp only [ownT, iha h.left, ihb h.right]
    | _ => rfl
  | own id => intro τ h; cases τ <;> simp [ownT, h.own]
  | _ => intro τ h; cases τ <;> rfl

theorem evs_congr : ∀ {l : List Operand}, (∀ x, x ∈ l → s'.ev x = s.ev x) → evs s' l = evs s l
  | [], _ => rfl
  | x :: r, h => by simp only [evs, h x (by simp), evs_congr fun y hy => h y (List.mem_cons_of_mem _ hy)]

theorem evs_ag : ∀ {l : List Operand} {d : D}, evs s l = some d → (∀ x, x ∈ l → ∀ d, s.ev x = some d → AgD s s' d) → AgD s s' d
  | [], d, h, _ => by
    simp only [evs, Option.some.injEq] at h
    subst h
    intro id hi; simp [D.ment] at hi
  | x :: r, d, h, ha => by
    simp only [evs] at h
    split at h
    · rename_i d1 d2 h1 h2
      simp only [Option.some.injEq] at h
      subst h
      intro id hi
      simp only [D.ment, Bool.or_eq_true] at hi
      rcases hi with hi | hi
      · exact ha x (by simp) d1 h1 id hi
      · exact evs_ag h2 (fun y hy => ha y (List.mem_cons_of_mem _ hy)) id hi
    · simp at h

theorem fills_congr {τ : Ty} : ∀ {ps : List (Nat × Operand)} {d : D}, (∀ x, x ∈ ps.map (·.2) → s'.ev x = s.ev x) → fills s' τ d ps = fills s τ d ps
  | [], _, _ => rfl
  | (i, x) :: r, d, h => by
    simp only [fills, h x (by simp)]
    split
    · rename_i e τ' _ _
      cases shapeB τ' e with
      | false => rfl
      | true =>
        simp only [cond_true]
        split
        · exact fills_congr fun y hy => h y (List.mem_cons_of_mem _ hy)
        · rfl
    · rfl

theorem lits_congr {e : Ty} : ∀ {ps : List (Nat × Operand)} {n : Nat}, (∀ x, x ∈ ps.map (·.2) → s'.ev x = s.ev x) → (∀ x, x ∈ ps.map (·.2) → ∀ d, s.ev x = some d → AgD s s' d) → lits s' e n ps = lits s e n ps
  | [], _, _, _ => rfl
  | (i, x) :: r, n, h, ha => by
    have ih := lits_congr (e := e) (ps := r) (n := n + 1) (fun y hy => h y (List.mem_cons_of_mem _ hy)) (fun y hy => ha y (List.mem_cons_of_mem _ hy))
    simp only [lits, h x (by simp)]
    cases Nat.beq i n with
    | false => rfl
    | true =>
      simp only [cond_true]
      cases hx : s.ev x with
      | none => rfl
      | some d => simp only [ownT_congr (ha x (by simp) d hx), ih]

theorem litsV_congr {e : Ty} : ∀ {ps : List (Nat × Operand)} {n : Nat}, (∀ x, x ∈ ps.map (·.2) → s'.ev x = s.ev x) → litsV s' e n ps = litsV s e n ps
  | [], _, _ => rfl
  | (i, x) :: r, n, h => by
    have ih := litsV_congr (e := e) (ps := r) (n := n + 1) (fun y hy => h y (List.mem_cons_of_mem _ hy))
    simp only [litsV, h x (by simp), ih]

theorem loD_congr {x : Option Operand} (h : ∀ y, x = some y → s'.ev y = s.ev y) : loD s' x = loD s x := by
  cases x with
  | none => rfl
  | some y => simp only [loD, h y rfl]
theorem hiD_congr {x : Option Operand} {n : Nat} (h : ∀ y, x = some y → s'.ev y = s.ev y) : hiD s' n x = hiD s n x := by
  cases x with
  | none => rfl
  | some y => simp only [hiD, h y rfl]

theorem srcD_congr {e : Ty} {d : D} (h : AgD s s' d) : srcD s' e d = srcD s e d := by
  cases d with
  | own id => simp only [srcD, h.own]
  | cut id lo hi => simp only [srcD, h.cut]
  | t τ x => cases τ <;> rfl
  | _ => rfl
theorem dstD_congr {e : Ty} {d : D} (h : AgD s s' d) : dstD s' e d = dstD s e d := by
  cases d with
  | own id => simp only [dstD, h.own]
  | cut id lo hi => simp only [dstD, h.cut]
  | _ => rfl

theorem freshIds_congr {u : List (Nat × Option Blk)} (h : ∀ p, p ∈ u → s'.newOk p.1 = s.newOk p.1) : freshIds s' u = freshIds s u := by
  unfold freshIds
  congr 1
  induction u with
  | nil => rfl
  | cons p u ih => simp only [List.all_cons, h p (by simp), ih fun q hq => h q (List.mem_cons_of_mem _ hq)]

theorem openD_ids : ∀ {τ : Ty} {x : T τ} {n m : Nat} {d : D} {l : List (Nat × Option Blk)}, openD τ x n = (d, l, m) → n ≤ m ∧ ∀ p, p ∈ l → n ≤ p.1 ∧ p.1 < m
  | .i k, x, n, m, d, l, he => by simp only [openD, Prod.mk.injEq] at he; obtain ⟨rfl, rfl, rfl⟩ := he; simp
  | .b, x, n, m, d, l, he => by simp only [openD, Prod.mk.injEq] at he; obtain ⟨rfl, rfl, rfl⟩ := he; simp
  | .o, x, n, m, d, l, he => by simp only [openD, Prod.mk.injEq] at he; obtain ⟨rfl, rfl, rfl⟩ := he; simp
  | .s, x, n, m, d, l, he => by simp only [openD, Prod.mk.injEq] at he; obtain ⟨rfl, rfl, rfl⟩ := he; simp
  | .u, x, n, m, d, l, he => by simp only [openD, Prod.mk.injEq] at he; obtain ⟨rfl, rfl, rfl⟩ := he; simp
  | .sl e, x, n, m, d, l, he => by simp only [openD, Prod.mk.injEq] at he; obtain ⟨rfl, rfl, rfl⟩ := he; simp
  | .p t1 t2, x, n, m, d, l, he => by
    simp only [openD] at he
    rcases ho1 : openD t1 x.1 n with ⟨d1, l1, m1⟩
    rcases ho2 : openD t2 x.2 m1 with ⟨d2, l2, m2⟩
    rw [ho1] at he
    simp only at he
    rw [ho2] at he
    simp only [Prod.mk.injEq] at he
    obtain ⟨rfl, rfl, rfl⟩ := he
    have a := openD_ids ho1
    have b := openD_ids ho2
    refine ⟨by omega, fun p hp => ?_⟩
    rcases List.mem_append.1 hp with hp | hp
    · have := a.2 p hp; omega
    · have := b.2 p hp; omega

theorem openR_ids : ∀ {rt : Ty} {r : T rt} {fr : List Bool} {n m : Nat} {d : D} {l : List (Nat × Option Blk)}, openR rt r fr n = some (d, l, m) → n ≤ m ∧ ∀ p, p ∈ l → n ≤ p.1 ∧ p.1 < m
  | .u, r, [], n, m, d, l, he => by simp only [openR, Option.some.injEq, Prod.mk.injEq] at he; obtain ⟨rfl, rfl, rfl⟩ := he; simp
  | .p t1 t2, r, f :: fr, n, m, d, l, he => by
    simp only [openR] at he
    rcases ho1 : (bif f then openD t1 r.1 n else (.t t1 r.1, [], n)) with ⟨d1, l1, m1⟩
    rw [ho1] at he
    simp only at he
    split at he
    · rename_i d2 l2 m2 ho2
      simp only [Option.some.injEq, Prod.mk.injEq] at he
      obtain ⟨rfl, rfl, rfl⟩ := he
      have b := openR_ids ho2
      have a : n ≤ m1 ∧ ∀ p, p ∈ l1 → n ≤ p.1 ∧ p.1 < m1 := by
        cases f with
        | true => exact openD_ids (by simpa using ho1)
        | false =>
          simp only [cond_false, Prod.mk.injEq] at ho1
          obtain ⟨rfl, rfl, rfl⟩ := ho1
          simp
      refine ⟨by omega, fun p hp => ?_⟩
      rcases List.mem_append.1 hp with hp | hp
      · have := a.2 p hp; omega
      · have := b.2 p hp; omega
    · simp at he
  | .u, _, _ :: _, _, _, _, _, he => by simp [openR] at he
  | .p _ _, _, [], _, _, _, _, he => by simp [openR] at he
  | .i _, _, fr, _, _, _, _, he => by cases fr <;> simp [openR] at he
  | .b, _, fr, _, _, _, _, he => by cases fr <;> simp [openR] at he
  | .o, _, fr, _, _, _, _, he => by cases fr <;> simp [openR] at he
  | .s, _, fr, _, _, _, _, he => by cases fr <;> simp [openR] at he
  | .sl _, _, fr, _, _, _, _, he => by cases fr <;> simp [openR] at he

theorem fresh_call {dst : Option Tmp} {u : List (Nat × Option Blk)} {rt : Ty} {r : T rt} {fr : List Bool} {m : Nat} {d : D} (hop : openR rt r fr (100000 + 64 * dst.getD 0) = some (d, u, m)) (hn : ∀ id, newIdsOf dst id → s'.newOk id = s.newOk id) :
    (Nat.ble m (100064 + 64 * dst.getD 0) && freshIds s' u) = (Nat.ble m (100064 + 64 * dst.getD 0) && freshIds s u) := by
  cases hb : Nat.ble m (100064 + 64 * dst.getD 0) with
  | false => rfl
  | true =>
    have hle := Nat.le_of_ble_eq_true hb
    rw [Bool.true_and, Bool.true_and]
    refine freshIds_congr fun p hp => hn p.1 (.inr ?_)
    have := (openR_ids hop).2 p hp
    exact ⟨this.1, by omega⟩

theorem fresh_call2 {dst : Option Tmp} {vw : Bool} {τ : Ty} {y : T τ} {u v : List (Nat × Option Blk)} {rt : Ty} {r : T rt} {fr : List Bool} {m m' : Nat} {d e : D} (hop : openR rt r fr (100000 + 64 * dst.getD 0) = some (d, u, m))
    (hev : (bif vw then (D.t τ y, [], m) else openD τ y m) = (e, v, m')) (hn : ∀ id, newIdsOf dst id → s'.newOk id = s.newOk id) :
    (Nat.ble m' (100064 + 64 * dst.getD 0) && freshIds s' (u ++ v)) = (Nat.ble m' (100064 + 64 * dst.getD 0) && freshIds s (u ++ v)) := by
  cases hb : Nat.ble m' (100064 + 64 * dst.getD 0) with
  | false => rfl
  | true =>
    have hle := Nat.le_of_ble_eq_true hb
    rw [Bool.true_and, Bool.true_and]
    refine freshIds_congr fun p hp => hn p.1 (.inr ?_)
    have h1 := openR_ids hop
    have h2 : m ≤ m' ∧ ∀ p, p ∈ v → m ≤ p.1 ∧ p.1 < m' := by
      cases vw with
      | true =>
        simp only [cond_true, Prod.mk.injEq] at hev
        obtain ⟨_, rfl, rfl⟩ := hev
        exact ⟨Nat.le_refl _, by simp⟩
      | false =>
        simp only [cond_false] at hev
        exact openD_ids hev
    rcases List.mem_append.1 hp with hp | hp
    · have := h1.2 p hp; have h3 := h2.1; exact ⟨this.1, by omega⟩
    · have h4 := h2.2 p hp; have h3 := h1.1; exact ⟨Nat.le_trans h3 h4.1, by omega⟩

theorem fresh_open {dst : Option Tmp} (hn : ∀ id, newIdsOf dst id → s'.newOk id = s.newOk id) (τ : Ty) (y : T τ) :
    (Nat.ble (openD τ y (100000 + 64 * dst.getD 0)).2.2 (100064 + 64 * dst.getD 0) && freshIds s' (openD τ y (100000 + 64 * dst.getD 0)).2.1) =
      (Nat.ble (openD τ y (100000 + 64 * dst.getD 0)).2.2 (100064 + 64 * dst.getD 0) && freshIds s (openD τ y (100000 + 64 * dst.getD 0)).2.1) := by
  cases hb : Nat.ble (openD τ y (100000 + 64 * dst.getD 0)).2.2 (100064 + 64 * dst.getD 0) with
  | false => rfl
  | true =>
    have hle := Nat.le_of_ble_eq_true hb
    rw [Bool.true_and, Bool.true_and]
    refine freshIds_congr fun p hp => hn p.1 (.inr ?_)
    have := (openD_ids (τ := τ) (x := y) rfl).2 p hp
    exact ⟨this.1, Nat.lt_of_lt_of_le this.2 hle⟩

theorem aMoveK_congr {dst : Option Tmp} {τ : Ty} {id i : Nat} {e : Ty} {xs : List (T e)} {k : Nat} {K : D → List (Nat × Option Blk) → Option Out} (hn : ∀ id, newIdsOf dst id → s'.newOk id = s.newOk id) :
    aMoveK s' dst τ id i e xs k K = aMoveK s dst τ id i e xs k K := by
  unfold aMoveK
  simp only [fresh_open hn]

theorem aCallK_congr {dst : Option Tmp} {f : FuncId} {args : List Operand} {K : D → List (Nat × Option Blk) → Option Out} (hev : ∀ x, x ∈ args → s'.ev x = s.ev x) (hag : ∀ x, x ∈ args → ∀ d, s.ev x = some d → AgD s s' d)
    (hn : ∀ id, newIdsOf dst id → s'.newOk id = s.newOk id) (hbx : ∀ x, x ∈ args → ∀ bid p, s.ev x = some (.ptr bid p) → ∀ ρ d, s.heap bid = some (.box ρ d) → AgD s s' d) : aCallK G s' dst f args K = aCallK G s dst f args K := by
  unfold aCallK
  split
  · rename_i pt rt fr F _
    rw [evs_congr hev]
    cases hds : evs s args with
    | none => rfl
    | some ds =>
      simp only []
      rw [viewT_congr (evs_ag hds hag)]
      cases viewT s ds pt with
      | none => rfl
      | some x =>
        simp only []
        congr 1
        funext r
        cases hop : openR rt r fr (100000 + 64 * dst.getD 0) with
        | none => rfl
        | some t =>
          obtain ⟨d, u, m⟩ := t
          simp only []
          cases resD d with
          | none => rfl
          | some d' => simp only [fresh_call hop hn]
  · rename_i τ pt rt fr F _
    cases args with
    | nil => rfl
    | cons a0 args =>
      simp only []
      rw [hev a0 (by simp), evs_congr fun x hx => hev x (List.mem_cons_of_mem _ hx)]
      cases h0 : s.ev a0 with
      | none => rfl
      | some d0 =>
        cases hds : evs s args with
        | none => rfl
        | some ds =>
          simp only []
          rw [ownT_congr (hag a0 (by simp) d0 h0), viewT_congr (evs_ag hds fun x hx => hag x (List.mem_cons_of_mem _ hx))]
          cases ownT s d0 τ with
          | none => rfl
          | some xl =>
            obtain ⟨x0, l⟩ := xl
            cases viewT s ds pt with
            | none => rfl
            | some x =>
              simp only []
              congr 1
              funext r
              cases hop : openR rt r.2 fr (100000 + 64 * dst.getD 0) with
              | none => rfl
              | some t =>
                obtain ⟨d, u, m⟩ := t
                simp only []
                cases resD d with
                | none => rfl
                | some d' => simp only [fresh_call hop hn]
  · rename_i pt rt fr F _
    rw [evs_congr hev]
    cases hds : evs s args with
    | none => rfl
    | some ds =>
      simp only []
      rw [ownT_congr (evs_ag hds hag)]
      cases ownT s ds pt with
      | none => rfl
      | some xl =>
        simp only []
        congr 1
        funext r
        cases hop : openR rt r fr (100000 + 64 * dst.getD 0) with
        | none => rfl
        | some t =>
          obtain ⟨d, u, m⟩ := t
          simp only []
          cases resD d with
          | none => rfl
          | some d' => simp only [fresh_call hop hn]
  · rename_i vw cv τ pt rt fr F _
    cases args with
    | nil => rfl
    | cons a0 args =>
      simp only []
      rw [hev a0 (by simp), evs_congr fun x hx => hev x (List.mem_cons_of_mem _ hx)]
      cases h0 : s.ev a0 with
      | none => rfl
      | some d0 =>
        cases hds : evs s args with
        | none =>
          cases d0 with
          | ptr bid path => cases path <;> rfl
          | _ => rfl
        | some ds =>
          cases d0 with
          | ptr bid path =>
            cases path with
            | cons _ _ => rfl
            | nil =>
              simp only []
              rw [(hag a0 (by simp) _ h0).ptr]
              cases hb : s.heap bid with
              | none => rfl
              | some blk =>
                cases blk with
                | box τ' d1 =>
                  simp only []
                  rw [ownT_congr (hbx a0 (by simp) bid [] h0 τ' d1 hb), ownT_congr (evs_ag hds fun x hx => hag x (List.mem_cons_of_mem _ hx)), viewT_congr (evs_ag hds fun x hx => hag x (List.mem_cons_of_mem _ hx))]
                  split
                  · rename_i x0 l x l2 _ _ _
                    congr 1
                    funext r
                    cases hop : openR rt r.2 fr (100000 + 64 * dst.getD 0) with
                    | none => rfl
                    | some t =>
                      obtain ⟨d, u, m⟩ := t
                      simp only []
                      cases resD d with
                      | none => rfl
                      | some d' =>
                        rcases hev2 : (bif vw then (D.t τ r.1, [], m) else openD τ r.1 m) with ⟨e, v, m'⟩
                        simp only [fresh_call2 hop hev2 hn]
                  · rfl
                | _ => rfl
          | _ => rfl
  · rename_i pt τ F _
    rw [evs_congr hev]
    cases dst with
    | none => rfl
    | some tt =>
      cases hds : evs s args with
      | none => rfl
      | some ds =>
        simp only []
        rw [viewT_congr (evs_ag hds hag), hn tt (.inl rfl)]
  · rfl

theorem aAppendK_congr {dst : Option Tmp} {t tx : TypeId} {x y : Operand} {K : D → List (Nat × Option Blk) → Option Out} (hx : s'.ev x = s.ev x) (hy : s'.ev y = s.ev y)
    (ax : ∀ d, s.ev x = some d → AgD s s' d) (ay : ∀ d, s.ev y = some d → AgD s s' d) (hn : ∀ id, newIdsOf dst id → s'.newOk id = s.newOk id) : aAppendK G s' dst t tx x y K = aAppendK G s dst t tx x y K := by
  unfold aAppendK
  rw [hx, hy]
  split
  · rename_i tt e da db _ h2 h3
    rw [dstD_congr (ax _ h2), srcD_congr (ay _ h3), hn tt (.inl rfl)]
  · rfl

theorem aCopyK_congr {t tx : TypeId} {x y : Operand} {K : D → List (Nat × Option Blk) → Option Out} (hx : s'.ev x = s.ev x) (hy : s'.ev y = s.ev y)
    (ax : ∀ d, s.ev x = some d → AgD s s' d) (ay : ∀ d, s.ev y = some d → AgD s s' d) : aCopyK G s' t tx x y K = aCopyK G s t tx x y K := by
  unfold aCopyK
  rw [hx, hy]
  split
  · rename_i e id db _ h2 h3
    rw [ax _ h2 id (by simp [D.ment])]
    split
    · rw [srcD_congr (ay _ h3)]
    · rfl
  · rfl

/-- AN OPERATION LOOKS AT NOTHING ELSE. -/
theorem aopK_congr {K : D → List (Nat × Option Blk) → Option Out} (h : Agr s s' o) : aopK G s' o K = aopK G s o K := by
  obtain ⟨hev, hag, hn, hbx⟩ := h
  cases hmv : isMoveB o.op with
  | true =>
    cases ho : o.op with
    | move x => rw [ho] at hev; simp only [aopK, ho, hev x (by simp [opnds])]
    | assign x => rw [ho] at hev; simp only [aopK, ho, hev x (by simp [opnds])]
    | _ => rw [ho] at hmv; simp [isMoveB] at hmv
  | false =>
  have hag' : ∀ x, x ∈ opnds o.op → ∀ d, s.ev x = some d → AgD s s' d := hag hmv
  cases ho : o.op with
  | move x => rw [ho] at hev; simp only [aopK, ho, hev x (by simp [opnds])]
  | assign x => rw [ho] at hev; simp only [aopK, ho, hev x (by simp [opnds])]
  | pick c x y => rw [ho] at hev; simp only [aopK, ho, hev c (by simp [opnds]), hev x (by simp [opnds]), hev y (by simp [opnds])]
  | alloc t =>
    simp only [aopK, ho]
    split
    · rename_i tt τ hd _; rw [hn tt (.inl hd)]
    · rename_i tt hd _; rw [hn tt (.inl hd)]
    · rfl
  | box t x =>
    rw [ho] at hev
    simp only [aopK, ho, hev x (by simp [opnds])]
    split
    · rename_i tt τ d hd _ _; rw [hn tt (.inl hd)]
    · rfl
  | build t ps =>
    rw [ho] at hev
    have := fun τ d => fills_congr (s := s) (s' := s') (τ := τ) (ps := ps.toList) (d := d) hev
    simp only [aopK, ho, this]
  | buildSlice t n ps =>
    rw [ho] at hev hag'
    have h1 := fun e n => lits_congr (s := s) (s' := s') (e := e) (ps := ps.toList) (n := n) hev hag'
    have h2 := fun e n => litsV_congr (s := s) (s' := s') (e := e) (ps := ps.toList) (n := n) hev
    simp only [aopK, ho, h1, h2]
    split
    · rename_i tt e hd _
      rw [hn tt (.inl hd)]
    · rfl
  | load t x =>
    rw [ho] at hev hag'
    simp only [aopK, ho, hev x (by simp [opnds])]
    split
    · rename_i hx; rw [(hag' x (by simp [opnds]) _ hx).ptr]
    · rfl
    · rename_i hx; rw [(hag' x (by simp [opnds]) _ hx).eptr]; simp only [fresh_open hn, aMoveK_congr hn]
    · rfl
  | store t x y =>
    rw [ho] at hev hag'
    simp only [aopK, ho, hev x (by simp [opnds]), hev y (by simp [opnds])]
    split
    · rename_i hx _; rw [(hag' x (by simp [opnds]) _ hx).ptr]
    · rename_i dv _ hx hy
      have := fun τ => ownT_congr (τ := τ) (hag' y (by simp [opnds]) _ hy)
      simp only [(hag' x (by simp [opnds]) _ hx).eptr, this]
    · rfl
  | nilCheck x =>
    rw [ho] at hev hag'
    simp only [aopK, ho, hev x (by simp [opnds])]
    split
    · rename_i hx; rw [(hag' x (by simp [opnds]) _ hx).ptr]
    · rfl
    · rename_i hx; rw [(hag' x (by simp [opnds]) _ hx).eptr]
    · rfl
  | binOp op t x y t' => rw [ho] at hev; simp only [aopK, ho, hev x (by simp [opnds]), hev y (by simp [opnds])]
  | unOp op t x => rw [ho] at hev; simp only [aopK, ho, hev x (by simp [opnds])]
  | convert src t x =>
    rw [ho] at hev hag'
    simp only [aopK, ho, hev x (by simp [opnds])]
    split
    · rfl
    · rfl
    · rename_i hx; rw [viewT_congr (hag' x (by simp [opnds]) _ hx)]
    · rfl
    · rfl
  | slice t x lo hi mx =>
    rw [ho] at hev hag'
    have h1 : loD s' lo = loD s lo := loD_congr fun y hy => hev y (by simp [opnds, hy])
    have h2 := fun n => hiD_congr (s := s) (s' := s') (x := hi) (n := n) fun y hy => hev y (by simp [opnds, hy])
    cases mx with
    | some m => simp only [aopK, ho]
    | none =>
      simp only [aopK, ho, hev x (by simp [opnds]), h1, h2]
      split
      · rfl
      · rfl
      · rename_i hx
        unfold aCutK
        rw [(hag' x (by simp [opnds]) _ hx).own, h1]
        simp only [h2]
        split
        · split
          · split
            · split
              · rename_i tt hd; rw [hn tt (.inl hd)]
              · rfl
            · rfl
          · rfl
        · rfl
      · simp only [h2]
      · rename_i hx
        unfold aCut2K
        rw [(hag' x (by simp [opnds]) _ hx).cut, h1]
        simp only [h2]
      · rfl
  | fieldAddr t x f =>
    rw [ho] at hev hag'
    simp only [aopK, ho, hev x (by simp [opnds])]
    split
    · rename_i hx; rw [(hag' x (by simp [opnds]) _ hx).ptr]
    · rename_i hx; rw [(hag' x (by simp [opnds]) _ hx).eptr]
    · rfl
    · rfl
  | field t x f => rw [ho] at hev; simp only [aopK, ho, hev x (by simp [opnds])]
  | indexAddr t x i =>
    rw [ho] at hev hag'
    simp only [aopK, ho, hev x (by simp [opnds]), hev i (by simp [opnds])]
    split
    · rfl
    · rename_i hx _; rw [(hag' x (by simp [opnds]) _ hx).own]
    · rename_i hx _; rw [(hag' x (by simp [opnds]) _ hx).cut]
    · rename_i hx _; rw [(hag' x (by simp [opnds]) _ hx).eptr]
    · rfl
  | index t x i => rw [ho] at hev; simp only [aopK, ho, hev x (by simp [opnds]), hev i (by simp [opnds])]
  | makeSlice t l c =>
    rw [ho] at hev
    simp only [aopK, ho, hev l (by simp [opnds]), hev c (by simp [opnds])]
    split
    · rename_i hd _ _ _; rw [hn _ (.inl hd)]
    · rfl
  | extract x n => rw [ho] at hev; simp only [aopK, ho, hev x (by simp [opnds])]
  | call c =>
    obtain ⟨callee, args, ts⟩ := c
    rw [ho] at hev hag'
    simp only [opnds] at hev hag'
    cases callee with
    | value f =>
      cases f with
      | func f => simp only [aopK, ho]; exact aCallK_congr hev hag' hn (by rw [ho] at hbx; exact hbx rfl)
      | _ => simp only [aopK, ho]
    | invoke r m => simp only [aopK, ho]
    | builtin b =>
      cases b with
      | len =>
        simp only [aopK, ho]
        split
        · rename_i x t hx _
          rw [hev x (by rw [hx]; simp)]
          split
          · rfl
          · rfl
          · rfl
          · rename_i hd; rw [(hag' x (by rw [hx]; simp) _ hd).own]
          · rename_i hd; rw [(hag' x (by rw [hx]; simp) _ hd).cut]
          · rfl
        · rfl
      | append =>
        simp only [aopK, ho]
        split
        · rename_i x y t tx hx _
          exact aAppendK_congr (hev x (by rw [hx]; simp)) (hev y (by rw [hx]; simp)) (hag' x (by rw [hx]; simp)) (hag' y (by rw [hx]; simp)) hn
        · rfl
      | copy =>
        simp only [aopK, ho]
        split
        · rename_i x y t tx hx _
          exact aCopyK_congr (hev x (by rw [hx]; simp)) (hev y (by rw [hx]; simp)) (hag' x (by rw [hx]; simp)) (hag' y (by rw [hx]; simp))
        · rfl
      | max =>
        simp only [aopK, ho]
        split
        · rename_i x y hx
          rw [hev x (by rw [hx]; simp), hev y (by rw [hx]; simp)]
        · rfl
      | min =>
        simp only [aopK, ho]
        split
        · rename_i x y hx
          rw [hev x (by rw [hx]; simp), hev y (by rw [hx]; simp)]
        · rfl
      | _ => simp only [aopK, ho]
  | _ => simp only [aopK, ho]

end
end KF

namespace KF
open Go

theorem cond_none_some {α : Type} {c : Bool} {x : Option α} {r : α} : (bif c then x else none) = some r ↔ c = true ∧ x = some r := by cases c <;> simp
theorem none_cond_some {α : Type} {c : Bool} {x : Option α} {r : α} : (bif c then none else x) = some r ↔ c = false ∧ x = some r := by cases c <;> simp

section
variable {s s' : AS} {G : Env} {o : Oper} {Out : Type} {K : D → List (Nat × Option Blk) → Option Out} {out : Out}

theorem aBinK_nat {tb : Bool} {op : BinOp} {a b : D} (he : aBinK tb op a b K = some out) : ∃ d u, K d u = some out ∧ ∀ (Out' : Type) (K' : D → List (Nat × Option Blk) → Option Out'), aBinK tb op a b K' = K' d u := by
  unfold aBinK at he ⊢
  split at he
  · split at he
    · simp only [cond_none_some] at he; exact ⟨_, _, he.2, fun _ _ => by simp [he.1]⟩
    · simp only [cond_none_some] at he; exact ⟨_, _, he.2, fun _ _ => by simp [he.1]⟩
    · simp only [cond_none_some] at he
      obtain ⟨hk, he⟩ := he
      simp only [hk, cond_true]
      split at he
      all_goals first
        | exact ⟨_, _, he, fun _ _ => rfl⟩
        | (simp only [none_cond_some] at he; exact ⟨_, _, he.2, fun _ _ => by simp [he.1]⟩)
        | simp at he
  · split at he
    · simp only [cond_none_some] at he; exact ⟨_, _, he.2, fun _ _ => by simp [he.1]⟩
    · exact ⟨_, _, he, fun _ _ => rfl⟩
    · exact ⟨_, _, he, fun _ _ => rfl⟩
    · simp at he
  · split at he
    · simp only [cond_none_some] at he; exact ⟨_, _, he.2, fun _ _ => by simp [he.1]⟩
    · simp only [cond_none_some] at he; exact ⟨_, _, he.2, fun _ _ => by simp [he.1]⟩
    · simp at he
  · simp at he

theorem aCallK_nat {dst : Option Tmp} {f : FuncId} {args : List Operand} (he : aCallK G s dst f args K = some out) : ∃ d u, K d u = some out ∧ ∀ (Out' : Type) (K' : D → List (Nat × Option Blk) → Option Out'), aCallK G s dst f args K' = K' d u := by
  unfold aCallK at he ⊢
  split at he
  · rename_i h1
    split at he
    · rename_i h2
      split at he
      · rename_i h3
        simp only [Option.bind_eq_some_iff] at he
        obtain ⟨r, h4, he⟩ := he
        split at he
        · rename_i h5
          split at he
          · rename_i h6
            simp only [cond_none_some] at he
            exact ⟨_, _, he.2, fun _ _ => by simp [h4, h5, h6, he.1]⟩
          · simp at he
        · simp at he
      · simp at he
    · simp at he
  · rename_i h1
    split at he
    · split at he
      · rename_i h2 h3
        split at he
        · rename_i h4 h5
          simp only [Option.bind_eq_some_iff] at he
          obtain ⟨r, h6, he⟩ := he
          split at he
          · rename_i h7
            split at he
            · rename_i h8
              simp only [cond_none_some] at he
              exact ⟨_, _, he.2, fun _ _ => by simp [h6, h7, h8, he.1]⟩
            · simp at he
          · simp at he
        · simp at he
      · simp at he
    · simp at he
  · rename_i h1
    split at he
    · rename_i h2
      split at he
      · rename_i h3
        simp only [Option.bind_eq_some_iff] at he
        obtain ⟨r, h4, he⟩ := he
        split at he
        · rename_i h5
          split at he
          · rename_i h6
            simp only [cond_none_some] at he
            exact ⟨_, _, he.2, fun _ _ => by simp [h4, h5, h6, he.1]⟩
          · simp at he
        · simp at he
      · simp at he
    · simp at he
  · rename_i h1
    split at he
    · split at he
      · rename_i h2 h3
        split at he
        · rename_i h4
          split at he
          · rename_i h5 h6 h7
            simp only [Option.bind_eq_some_iff] at he
            obtain ⟨r, h8, he⟩ := he
            split at he
            · rename_i h9
              split at he
              · rename_i h10 h11
                simp only [cond_none_some] at he
                exact ⟨_, _, he.2, fun _ _ => by simp only [h8, h9, h10, h11, Option.bind_some, he.1, cond_true]⟩
              · simp at he
            · simp at he
          · simp at he
        · simp at he
      · simp at he
    · simp at he
  · rename_i h1
    split at he
    · rename_i h2
      split at he
      · rename_i h3
        simp only [Option.bind_eq_some_iff, cond_none_some] at he
        obtain ⟨r, h4, h5, he⟩ := he
        exact ⟨_, _, he, fun _ _ => by simp only [h4, Option.bind_some, h5, cond_true]⟩
      · simp at he
    · simp at he
  · simp at he

theorem aAppendK_nat {dst : Option Tmp} {t tx : TypeId} {x y : Operand} (he : aAppendK G s dst t tx x y K = some out) : ∃ d u, K d u = some out ∧ ∀ (Out' : Type) (K' : D → List (Nat × Option Blk) → Option Out'), aAppendK G s dst t tx x y K' = K' d u := by
  unfold aAppendK at he ⊢
  split at he
  · rename_i h1 h2 h3
    split at he
    · rename_i h4 h5
      simp only [cond_none_some] at he
      exact ⟨_, _, he.2.2, fun _ _ => by simp [he.1, he.2.1]⟩
    · simp at he
  · simp at he

theorem aCopyK_nat {t tx : TypeId} {x y : Operand} (he : aCopyK G s t tx x y K = some out) : ∃ d u, K d u = some out ∧ ∀ (Out' : Type) (K' : D → List (Nat × Option Blk) → Option Out'), aCopyK G s t tx x y K' = K' d u := by
  unfold aCopyK at he ⊢
  split at he
  · split at he
    · rename_i h4
      split at he
      · rename_i h5 h6
        simp only [cond_none_some] at he
        exact ⟨_, _, he.2.2, fun _ _ => by simp [he.1, he.2.1]⟩
      · simp at he
    · simp at he
  · simp at he

theorem aMoveK_nat {dst : Option Tmp} {τ : Ty} {id i : Nat} {e : Ty} {xs : List (T e)} {k : Nat} (he : aMoveK s dst τ id i e xs k K = some out) :
    ∃ d u, K d u = some out ∧ ∀ (Out' : Type) (K' : D → List (Nat × Option Blk) → Option Out'), aMoveK s dst τ id i e xs k K' = K' d u := by
  unfold aMoveK at he ⊢
  split at he
  · rename_i h1
    simp only [cond_none_some, Option.bind_eq_some_iff] at he
    obtain ⟨h2, x, h3, h4, h5⟩ := he
    exact ⟨_, _, h5, fun _ _ => by simp only [h2, h3, Option.bind_some, h4, cond_true]⟩
  · simp at he

theorem aCutK_nat {dst : Option Tmp} {t : TypeId} {id : Nat} {lo hi : Option Operand} (he : aCutK G s dst t id lo hi K = some out) :
    ∃ d u, K d u = some out ∧ ∀ (Out' : Type) (K' : D → List (Nat × Option Blk) → Option Out'), aCutK G s dst t id lo hi K' = K' d u := by
  unfold aCutK at he ⊢
  split at he
  · rename_i h1
    split at he
    · rename_i h2 h3 h4
      split at he
      · rename_i h5
        simp only [cond_none_some] at he
        obtain ⟨h6, he⟩ := he
        split at he
        · rename_i tt
          cases hm : memB G.mv tt with
          | true =>
            rw [hm] at he
            simp only [cond_true, cond_none_some] at he
            exact ⟨_, _, he.2, fun _ _ => by simp only [h6, he.1, cond_true]⟩
          | false =>
            rw [hm] at he
            simp only [cond_false] at he
            exact ⟨_, _, he, fun _ _ => by simp only [h6, cond_true, cond_false]⟩
        · simp at he
      · simp at he
    · simp at he
  · simp at he

theorem aCut2K_nat {t : TypeId} {id a b : Nat} {lo hi : Option Operand} (he : aCut2K G s t id a b lo hi K = some out) :
    ∃ d u, K d u = some out ∧ ∀ (Out' : Type) (K' : D → List (Nat × Option Blk) → Option Out'), aCut2K G s t id a b lo hi K' = K' d u := by
  unfold aCut2K at he ⊢
  split at he
  · rename_i h1
    split at he
    · rename_i h2 h3 h4
      split at he
      · rename_i h5
        simp only [cond_none_some] at he
        exact ⟨_, _, he.2, fun _ _ => by simp only [he.1, cond_true]⟩
      · simp at he
    · simp at he
  · simp at he

theorem aopK_nat (he : aopK G s o K = some out) : ∃ d u, K d u = some out ∧ ∀ (Out' : Type) (K' : D → List (Nat × Option Blk) → Option Out'), aopK G s o K' = K' d u := by
  cases ho : o.op with
  | move x => simp only [aopK, ho] at he ⊢; split at he <;> first | (simp at he; done) | (rename_i h1; exact ⟨_, _, he, fun _ _ => by simp⟩)
  | assign x => simp only [aopK, ho] at he ⊢; split at he <;> first | (simp at he; done) | (rename_i h1; exact ⟨_, _, he, fun _ _ => by simp⟩)
  | pick c x y =>
    simp only [aopK, ho] at he ⊢
    split at he
    · rename_i β hc
      cases hb : (show Bool from β) with
      | true =>
        have hb' : β = true := hb
        subst hb'
        simp only [cond_true] at he
        split at he
        · rename_i h1; exact ⟨_, _, he, fun _ _ => by simp⟩
        · simp at he
      | false =>
        have hb' : β = false := hb
        subst hb'
        simp only [cond_false] at he
        split at he
        · rename_i h1; exact ⟨_, _, he, fun _ _ => by simp⟩
        · simp at he
    · simp at he
  | alloc t =>
    simp only [aopK, ho] at he ⊢
    split at he
    · rename_i h1 h2; simp only [cond_none_some] at he; exact ⟨_, _, he.2, fun _ _ => by simp [he.1]⟩
    · split at he
      · rename_i h3; simp only [cond_none_some] at he; exact ⟨_, _, he.2, fun _ _ => by simp only [he.1, cond_true]⟩
      · simp at he
    · simp at he
  | box t x =>
    simp only [aopK, ho] at he ⊢
    split at he
    · rename_i h1 h2 h3; simp only [cond_none_some] at he; exact ⟨_, _, he.2, fun _ _ => by simp [he.1]⟩
    · simp at he
  | build t ps =>
    simp only [aopK, ho] at he ⊢
    split at he
    · rename_i h1
      split at he
      · rename_i h2; simp only [cond_none_some] at he; exact ⟨_, _, he.2, fun _ _ => by simp [he.1]⟩
      · simp at he
    · simp at he
  | buildSlice t n ps =>
    simp only [aopK, ho] at he ⊢
    split at he
    · rename_i h1 h2
      split at he
      · rename_i h3; simp only [cond_none_some] at he; exact ⟨_, _, he.2, fun _ _ => by simp [he.1]⟩
      · rename_i h3
        split at he
        · rename_i h4; simp only [cond_none_some] at he; exact ⟨_, _, he.2, fun _ _ => by simp [he.1]⟩
        · simp at he
    · simp at he
  | load t x =>
    simp only [aopK, ho] at he ⊢
    split at he
    · rename_i h1 h2
      split at he
      · rename_i h3
        split at he
        · rename_i h4 h5
          split at he
          · rename_i h6; exact ⟨_, _, he, fun _ _ => by simp⟩
          · simp at he
        · simp at he
      · simp at he
    · rename_i h1 h2
      split at he
      · rename_i h3; exact ⟨_, _, he, fun _ _ => by simp⟩
      · simp at he
    · rename_i h1 h2
      cases hml : isMl G o.dst with
      | true =>
        rw [hml] at he
        simp only [cond_true] at he
        split at he
        · rename_i h3; obtain ⟨d, u, g1, g2⟩ := aMoveK_nat he; exact ⟨d, u, g1, fun _ _ => by simp only [cond_true]; exact g2 _ _⟩
        · rename_i h3; obtain ⟨d, u, g1, g2⟩ := aMoveK_nat he; exact ⟨d, u, g1, fun _ _ => by simp only [cond_true]; exact g2 _ _⟩
        · simp at he
      | false =>
      rw [hml] at he
      simp only [cond_false] at he
      split at he
      · rename_i h3
        simp only [Option.bind_eq_some_iff] at he
        obtain ⟨z, hz, he⟩ := he
        split at he
        · rename_i τ' y h4 h5
          split at he
          · rename_i h6
            cases hc : ((!_ || Ty.flat _) || Ty.flat _) with
            | true =>
              rw [hc] at he
              exact ⟨_, _, he, fun _ _ => by simp only [cond_false, hz, Option.bind_some, h4, h5, h6, hc, cond_true]⟩
            | false =>
              rw [hc] at he
              simp only [cond_false] at he
              split at he
              · rename_i h7
                simp only [cond_none_some] at he
                obtain ⟨hc2, he⟩ := he
                exact ⟨_, _, he, fun _ _ => by simp only [hz, Option.bind_some, h4, h5, h6, hc, cond_false, h7, hc2, cond_true]⟩
              · simp at he
          · simp at he
        · simp at he
      · simp at he
    · simp at he
  | store t x y =>
    simp only [aopK, ho] at he ⊢
    split at he
    · rename_i h1 h2 h3
      split at he
      · rename_i h4
        split at he
        · rename_i h5 h6
          split at he
          · rename_i h7; simp only [cond_none_some] at he; exact ⟨_, _, he.2, fun _ _ => by simp [he.1]⟩
          · simp at he
        · simp at he
      · simp at he
    · rename_i h1 h2 h3
      split at he
      · rename_i e dp xs h4
        split at he
        · rename_i h5
          split at he
          · rename_i h6
            cases hf : (dp || e.flat) with
            | true =>
              rw [hf] at he
              simp only [cond_true] at he
              split at he
              · rename_i h7
                simp only [cond_none_some, Option.bind_eq_some_iff] at he
                obtain ⟨hc, z, hz, he⟩ := he
                split at he
                · rename_i h8; exact ⟨_, _, he, fun _ _ => by simp only [hc, cond_true, hz, Option.bind_some, h8]⟩
                · simp at he
              · simp at he
            | false =>
              rw [hf] at he
              simp only [cond_false] at he
              split at he
              · rename_i h7
                simp only [Option.bind_eq_some_iff] at he
                obtain ⟨z, hz, he⟩ := he
                split at he
                · rename_i h8; exact ⟨_, _, he, fun _ _ => by simp only [cond_false, hz, Option.bind_some, h8]⟩
                · simp at he
              · simp at he
          · simp at he
        · simp at he
      · split at he
        · rename_i h5
          split at he
          · rename_i h6
            split at he
            · rename_i h7
              simp only [cond_none_some] at he
              obtain ⟨hc, hd, he⟩ := he
              split at he
              · rename_i h8; exact ⟨_, _, he, fun _ _ => by simp only [hc, hd, cond_true]⟩
              · simp at he
            · simp at he
          · simp at he
        · simp at he
      · simp at he
    · simp at he
  | nilCheck x =>
    simp only [aopK, ho] at he ⊢
    split at he
    · rename_i h1
      split at he
      · rename_i h2; exact ⟨_, _, he, fun _ _ => by simp⟩
      · simp at he
    · rename_i h1; exact ⟨_, _, he, fun _ _ => by simp⟩
    · rename_i h1
      split at he
      · exact ⟨_, _, he, fun _ _ => by simp only⟩
      · simp at he
    · simp at he
  | binOp op t x y t' =>
    simp only [aopK, ho] at he ⊢
    split at he
    · rename_i u v h1 h2
      cases ha : u.isAgg with
      | true =>
        rw [ha] at he
        simp only [cond_true] at he
        split at he
        · rename_i h3
          split at he
          · rename_i h4 h5
            simp only [cond_none_some] at he
            obtain ⟨hc, he⟩ := he
            split at he
            · exact ⟨_, _, he, fun _ _ => by simp only [cond_true, h3, hc]⟩
            · exact ⟨_, _, he, fun _ _ => by simp only [cond_true, h3, hc]⟩
            · simp at he
          · simp at he
        · simp at he
      | false =>
        rw [ha] at he
        simp only [cond_false] at he
        obtain ⟨d, u', h3, h4⟩ := aBinK_nat he
        exact ⟨d, u', h3, fun _ _ => by simp only [cond_false]; exact h4 _ _⟩
    · simp at he
  | unOp op t x =>
    simp only [aopK, ho] at he ⊢
    split at he
    · rename_i h1; exact ⟨_, _, he, fun _ _ => by simp⟩
    · rename_i h1; exact ⟨_, _, he, fun _ _ => by simp⟩
    · simp at he
  | convert src t x =>
    simp only [aopK, ho] at he ⊢
    split at he
    · rename_i h1 h2 h3; exact ⟨_, _, he, fun _ _ => by simp⟩
    · rename_i h1 h2 h3; exact ⟨_, _, he, fun _ _ => by simp⟩
    · rename_i h1 h2 h3
      split at he
      · rename_i h4; exact ⟨_, _, he, fun _ _ => by simp only⟩
      · simp at he
    · rename_i h1 h2 h3; simp only [cond_none_some] at he; exact ⟨_, _, he.2, fun _ _ => by simp [he.1]⟩
    · simp at he
  | slice t x lo hi mx =>
    cases mx with
    | some m => simp [aopK, ho] at he
    | none =>
      simp only [aopK, ho] at he ⊢
      split at he
      · rename_i h1
        split at he
        · rename_i h2 h3 h4; simp only [cond_none_some] at he; exact ⟨_, _, he.2, fun _ _ => by simp only [he.1, cond_true]⟩
        · simp at he
      · rename_i h1
        split at he
        · rename_i h2 h3 h4
          split at he
          · rename_i h5; simp only [cond_none_some] at he; exact ⟨_, _, he.2, fun _ _ => by simp only [he.1, cond_true]⟩
          · simp at he
        · simp at he
      · exact aCutK_nat he
      · split at he
        · simp only [cond_none_some] at he
          exact ⟨_, _, he.2, fun _ _ => by simp only [he.1, cond_true]⟩
        · simp at he
      · exact aCut2K_nat he
      · simp at he
  | fieldAddr t x f =>
    simp only [aopK, ho] at he ⊢
    split at he
    · rename_i h1 h2
      split at he
      · rename_i h3
        split at he
        · rename_i h4 h5
          split at he
          · rename_i h6; simp only [cond_none_some] at he; exact ⟨_, _, he.2, fun _ _ => by simp only [he.1, cond_true]⟩
          · simp at he
        · simp at he
      · simp at he
    · rename_i h1 h2
      split at he
      · rename_i h3
        split at he
        · rename_i h4 h5
          split at he
          · rename_i h6; simp only [cond_none_some] at he; exact ⟨_, _, he.2, fun _ _ => by simp only [he.1, cond_true]⟩
          · simp at he
        · simp at he
      · simp at he
    · rename_i h1 h2
      split at he
      · rename_i h3 h4 h5; simp only [cond_none_some] at he; exact ⟨_, _, he.2, fun _ _ => by simp only [he.1, cond_true]⟩
      · simp at he
    · simp at he
  | field t x f =>
    simp only [aopK, ho] at he ⊢
    split at he
    · rename_i h1 h2
      simp only [cond_none_some] at he
      obtain ⟨hc, he⟩ := he
      split at he
      · rename_i h3 h4; exact ⟨_, _, he, fun _ _ => by simp only [hc, cond_true]⟩
      · simp at he
    · simp at he
  | indexAddr t x i =>
    simp only [aopK, ho] at he ⊢
    split at he
    · rename_i h1 h2 h3
      split at he
      · rename_i h4
        simp only [Option.bind_eq_some_iff] at he
        obtain ⟨z, hz, he⟩ := he
        exact ⟨_, _, he, fun _ _ => by simp only [hz, Option.bind_some]⟩
      · simp at he
    · rename_i h1 h2 h3
      split at he
      · rename_i h4
        split at he
        · rename_i h5; simp only [cond_none_some] at he; exact ⟨_, _, he.2, fun _ _ => by simp only [he.1, cond_true]⟩
        · simp at he
      · simp at he
    · rename_i h1 h2 h3
      split at he
      · rename_i h4
        split at he
        · rename_i h5; simp only [cond_none_some] at he; exact ⟨_, _, he.2, fun _ _ => by simp only [he.1, cond_true]⟩
        · simp at he
      · simp at he
    · rename_i h1 h2 h3
      split at he
      · rename_i h4 h5
        split at he
        · rename_i h6; simp only [cond_none_some] at he; exact ⟨_, _, he.2.2, fun _ _ => by simp only [he.1, he.2.1, cond_true]⟩
        · simp at he
      · simp at he
    · simp at he
  | index t x i =>
    simp only [aopK, ho] at he ⊢
    split at he
    · rename_i h1 h2 h3
      simp only [Option.bind_eq_some_iff] at he
      obtain ⟨z, hz, he⟩ := he
      exact ⟨_, _, he, fun _ _ => by simp only [hz, Option.bind_some]⟩
    · simp at he
  | makeSlice t l c =>
    simp only [aopK, ho] at he ⊢
    split at he
    · rename_i h1 h2 h3 h4; simp only [cond_none_some] at he; exact ⟨_, _, he.2.2, fun _ _ => by simp only [he.1, he.2.1, cond_true]⟩
    · simp at he
  | extract x n =>
    simp only [aopK, ho] at he ⊢
    split at he
    · rename_i h1
      split at he
      · rename_i h2; exact ⟨_, _, he, fun _ _ => by simp⟩
      · simp at he
    · simp at he
  | call c =>
    obtain ⟨callee, args, ts⟩ := c
    cases callee with
    | value f =>
      cases f with
      | func f => simp only [aopK, ho] at he ⊢; exact aCallK_nat he
      | _ => simp [aopK, ho] at he
    | invoke r m => simp [aopK, ho] at he
    | builtin b =>
      cases b with
      | len =>
        simp only [aopK, ho] at he ⊢
        split at he
        · rename_i h1 h2
          split at he
          · rename_i h3 h4; exact ⟨_, _, he, fun _ _ => by simp only⟩
          · rename_i h3 h4; exact ⟨_, _, he, fun _ _ => by simp only⟩
          · rename_i h3 h4; exact ⟨_, _, he, fun _ _ => by simp only⟩
          · rename_i h3 h4
            split at he
            · rename_i h5; exact ⟨_, _, he, fun _ _ => by simp only⟩
            · simp at he
          · rename_i h3 h4
            split at he
            · rename_i h5; exact ⟨_, _, he, fun _ _ => by simp only⟩
            · simp at he
          · simp at he
        · simp at he
      | append =>
        simp only [aopK, ho] at he ⊢
        split at he
        · rename_i h1 h2
          exact aAppendK_nat he
        · simp at he
      | copy =>
        simp only [aopK, ho] at he ⊢
        split at he
        · exact aCopyK_nat he
        · simp at he
      | max =>
        simp only [aopK, ho] at he ⊢
        split at he
        · rename_i h1
          split at he
          · rename_i h2 h3; simp only [cond_none_some] at he; exact ⟨_, _, he.2, fun _ _ => by simp only [he.1, cond_true]⟩
          · simp at he
        · simp at he
      | min =>
        simp only [aopK, ho] at he ⊢
        split at he
        · rename_i h1
          split at he
          · rename_i h2 h3; simp only [cond_none_some] at he; exact ⟨_, _, he.2, fun _ _ => by simp only [he.1, cond_true]⟩
          · simp at he
        · simp at he
      | _ => simp [aopK, ho] at he
  | _ => simp [aopK, ho] at he

end
end KF
