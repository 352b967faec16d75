/- An evaluator of Go functions on plain data, its soundness, and plain laws on what the functions compute, part 3 (conditions: as each lemma tells). -/
import Derived.Test.YtkddlfhcedaggaaB
import Derived.LoopN
import Derived.ChangeArms
import Derived.ChangeStays
import Derived.ChangeSame
import Derived.WideShapes
import Derived.RowKit
import Derived.Handed
import Derived.JoinedOf
import Derived.Shelf.Sort.Plain
import Derived.Shelf.Slices.In.SortNone2
import Derived.IntWalk
set_option linter.unusedSimpArgs false
set_option linter.unusedVariables false
namespace KF
open Go
open List renaming length → ja, getElem?_eq_getElem → je, append → jf, mem_append → jl, mem_cons → jp, mem_cons_of_mem → jr, length_cons → jw, set → j6, length_nil → j7, length_set → j8, mem_singleton → qc, length_append → qd, getElem?_append_left → qf, getElem?_append_right → qg, getD_eq_getElem?_getD → qh, getElem_mem → qn, mem_of_mem_drop → qo, getElem_of_mem → qp, mem_map → qq, length_drop → qr, mem_cons_self → qt
open Option renaming bind_some → jb, bind → jz, map_some → qb, bind_eq_some_iff → qe
open Option.some renaming injEq → jc
open Bool renaming and_eq_true → jd, not_true → jg, true_and → jk, false_eq_true → jq, not_eq_true → j9, eq_iff_iff → qs
open Prod.mk renaming injEq → jh
open Nat renaming ble_eq_true_of_le → ji, mul_le_mul_right → jm, le_refl → jo, zero_add → js, add_assoc → jt, eq_of_beq_eq_true → ju, ble → jx, le_trans → qa, lt_of_lt_of_le → qj, pow_le_pow_right → qk, testBit_two_pow → ql, xor_lt_two_pow → qm
open Int renaming toNat_natCast → jn, eq_ofNat_of_zero_le → jv, toNat → jy
open Go.IntKind renaming wrap → j4, wrap → j5
open Sum renaming elim_inl → qi
open Result renaming andThen_ok → qu
open Sem renaming run_bind → qv
theorem YN {s : AS} : ∀ {td : TD} {d : D} {x : T td.ty} {m : Ag}, Xc s td d = some (x, m) → (Xk td x).isAgg = d.isAgg := by
 intro td
 cases td with
 | data τ =>
  intro d x m h
  simp only [Xc] at h
  split at h
  ·rename_i y hy
   simp only [jc, jh] at h
   obtain ⟨rfl, _⟩ := h
   have hs := (Se (w := default) (σ := fun _ => undef) (O := fun _ => False) (hp := fun _ => none) hy).1
   rw [hs.isAgg]
   cases τ <;> rfl
  ·simp at h
 | own id e dp =>
  intro d x m h
  cases d <;> simp [Xc] at h <;> rfl
 | ptr id p =>
  intro d x m h
  cases d <;> simp [Xc] at h <;> rfl
 | hol id e p τ td =>
  intro d x m h
  cases d <;> simp [Xc] at h <;> rfl
 | arr id e =>
  intro d x m h
  cases d <;> first | rfl | (simp [Xc] at h; done)
 | mov id e =>
  intro d x m h
  cases d <;> simp [Xc] at h <;> rfl
 | pr a b =>
  intro d x m h
  simp only [Xc] at h
  cases d with
  | t τ v => cases τ <;> simp [D.fst] at h <;> rfl
  | pr u v => rfl
  | _ => simp [D.fst] at h
 | un =>
  intro d x m h
  simp only [Xc] at h
  split at h
  ·rename_i y hy
   have hs := (Se (w := default) (σ := fun _ => undef) (O := fun _ => False) (hp := fun _ => none) hy).1
   rw [hs.isAgg]
   rfl
  ·simp at h
def Kw (m m' : Ag) : Prop := ∀ p, p ∈ m → p ∈ m'
section
variable {w : World} {s : AS} {σ σ' : Nat → Value} {O O' : Nat → Prop} {hp' : Nat → Option Ea} {m : Ag}
structure IX (s : AS) (σ σ' : Nat → Value) (hp' : Nat → Option Ea) (m : Ag) : Prop where
 isS : ∀ j i, (j, some i) ∈ m → σ' j = σ i
 isN : ∀ j, (j, none) ∈ m → σ' j = .slice none 0 0
 isB : ∀ j i ρ d, (j, some i) ∈ m → hp' j = some (.box ρ d) → ∃ d', s.heap i = some (.box ρ d')
 isR : ∀ j i Da r, (j, some i) ∈ m → hp' j = some Da → Da.rowN = some r → ∃ blk', s.heap i = some blk' ∧ blk'.rowN = some r
theorem Ny (hT : IX s σ σ' hp' m) (hO : ∀ b, b < w.heap.size → ¬ O b → ¬ O' b) : ∀ {td : TD} {d : D} {x : T td.ty} {m0 : Ag} {cs : List Value}, Xc s td d = some (x, m0) → Kw m0 m → Oa w O s.heap σ d cs →
 Oa w O' hp' σ' (Xk td x) cs := by
 intro td
 induction td with
 | data τ =>
  intro d x m0 cs h hm hr
  simp only [Xc] at h
  split at h
  ·rename_i y hy
   simp only [jc, jh] at h
   obtain ⟨rfl, _⟩ := h
   exact Ka.stable (fun _ _ _ => rfl) hO ((Se hy).2 _ hr)
  ·simp at h
 | own id' e dp =>
  intro d x m0 cs h hm hr
  cases d with
  | own id =>
   simp only [Xc] at h
   split at h
   ·rename_i e' dp' xs hb
    split at h
    ·rename_i q hq
     subst q
     simp only [Ca] at h
     obtain ⟨_, h⟩ := h
     simp only [jc, jh] at h
     obtain ⟨rfl, rfl⟩ := h
     obtain ⟨v, hcs, h1, hv⟩ := hr
     refine ⟨v, hcs, h1, fun _ _ _ _ => ?_⟩
     rw [hT.isS id' id (hm _ (by simp))]
     exact hv _ _ hb rfl
    ·simp at h
   ·simp at h
  | nil =>
   simp only [Xc, jc, jh] at h
   obtain ⟨rfl, rfl⟩ := h
   simp only [Oa] at hr
   exact ⟨_, hr, rfl, fun _ _ _ _ => (hT.isN id' (hm _ (by simp))).symm⟩
  | _ => simp [Xc] at h
 | hol id' e p τ td _ =>
  intro d x m0 cs h hm hr
  cases d with
  | own id =>
   simp only [Xc] at h
   split at h
   ·rename_i e' xs i x1 p' τ' d' hb
    split at h
    ·simp only [Ca] at h
     obtain ⟨_, h⟩ := h
     split at h
     ·rename_i y m1 h1
      simp only [Ca] at h
      obtain ⟨_, h⟩ := h
      simp only [jc, jh] at h
      obtain ⟨rfl, rfl⟩ := h
      obtain ⟨v, hcs, h1, hv⟩ := hr
      refine ⟨v, hcs, h1, fun _ _ _ _ => ?_⟩
      rw [hT.isS id' id (hm _ (by simp))]
      exact hv _ _ hb rfl
     ·simp at h
    ·simp at h
   ·simp at h
  | _ => simp [Xc] at h
 | arr id' e =>
  intro d x m0 cs h hm hr
  cases d with
  | eptr id i q =>
   cases i with
   | succ i => simp [Xc] at h
   | zero =>
    cases q with
    | cons _ _ => simp [Xc] at h
    | nil =>
     simp only [Xc] at h
     split at h
     ·rename_i e' xs hb
      split at h
      ·rename_i q hq
       subst q
       simp only [jc, jh] at h
       obtain ⟨rfl, rfl⟩ := h
       obtain ⟨v, hcs, h1, hv⟩ := hr
       refine ⟨v, hcs, h1, fun blk' e2 n2 hb' hr' => ?_⟩
       obtain ⟨blk0, hb0, hr0⟩ := hT.isR id' id blk' _ (hm _ (by simp)) hb' hr'
       rw [hT.isS id' id (hm _ (by simp))]
       exact hv _ _ _ hb0 hr0
      ·simp at h
     ·simp at h
  | _ => simp [Xc] at h
 | mov id' e =>
  intro d x m0 cs h hm hr
  cases d with
  | own id =>
   simp only [Xc] at h
   split at h
   ·rename_i e' xs hb
    split at h
    ·rename_i q hq
     subst q
     simp only [jc, jh] at h
     obtain ⟨rfl, rfl⟩ := h
     obtain ⟨v, hcs, h1, hv⟩ := hr
     refine ⟨v, hcs, h1, fun _ _ _ _ => ?_⟩
     rw [hT.isS id' id (hm _ (by simp))]
     exact hv _ _ hb rfl
    ·simp at h
   ·rename_i e' xs k hb
    split at h
    ·rename_i q hq
     subst q
     simp only [jc, jh] at h
     obtain ⟨rfl, rfl⟩ := h
     obtain ⟨v, hcs, h1, hv⟩ := hr
     refine ⟨v, hcs, h1, fun _ _ _ _ => ?_⟩
     rw [hT.isS id' id (hm _ (by simp))]
     exact hv _ _ hb rfl
    ·simp at h
   ·simp at h
  | _ => simp [Xc] at h
 | ptr id' p =>
  intro d x m0 cs h hm hr
  cases d with
  | ptr id q =>
   simp only [Xc, Ca] at h
   obtain ⟨hpq, h⟩ := h
   simp only [jc, jh] at h
   obtain ⟨_, rfl⟩ := h
   have hpq' : p = q := by simpa using hpq
   subst hpq'
   obtain ⟨v, hcs, h1, hv⟩ := hr
   refine ⟨v, hcs, h1, fun ρ d hb => ?_⟩
   obtain ⟨d', hd'⟩ := hT.isB id' id ρ d (hm _ (by simp)) hb
   rw [hT.isS id' id (hm _ (by simp))]
   exact hv ρ d' hd'
  | _ => simp [Xc] at h
 | pr a b iha ihb =>
  intro d x m0 cs h hm hr
  simp only [Xc] at h
  split at h
  ·rename_i d1 d2 h1 h2
   split at h
   ·rename_i u l v l' h3 h4
    simp only [jc, jh] at h
    obtain ⟨rfl, rfl⟩ := h
    have key : ∃ c1 c2, cs = c1 ++ c2 ∧ Oa w O s.heap σ d1 c1 ∧ Oa w O s.heap σ d2 c2 := by
     cases d with
     | t τ v =>
      cases τ with
      | p t1 t2 =>
       simp only [D.fst, D.snd, jc] at h1 h2
       subst h1; subst h2
       exact hr
      | _ => simp [D.fst] at h1
     | pr d1' d2' =>
      simp only [D.fst, D.snd, jc] at h1 h2
      subst h1; subst h2
      exact hr
     | _ => simp [D.fst] at h1
    obtain ⟨c1, c2, hc, r1, r2⟩ := key
    exact ⟨c1, c2, hc, iha h3 (fun p hp => hm p (List.mem_append_left _ hp)) r1, ihb h4 (fun p hp => hm p (List.mem_append_right _ hp)) r2⟩
   ·simp at h
  ·simp at h
 | un =>
  intro d x m0 cs h hm hr
  simp only [Xc] at h
  split at h
  ·rename_i y hy
   exact (Se hy).2 _ hr
  ·simp at h
theorem IR (hT : IX s σ σ' hp' m) (hO : ∀ b, b < w.heap.size → ¬ O b → ¬ O' b) {td : TD} {d : D} {x : T td.ty} {m0 : Ag} {v : Value} (h : Xc s td d = some (x, m0)) (hm : Kw m0 m) (hr : Ac w O s.heap σ d v) :
 Ac w O' hp' σ' (Xk td x) v := by
 have hne : Ed w O s.heap σ d v := by
  cases d with
  | und => cases td <;> simp [Xc, Zf, D.fst] at h
  | anyv => cases td <;> simp [Xc, Zf, D.fst] at h
  | tup ds => cases td <;> simp [Xc, Zf, D.fst] at h
  | _ => exact hr
 refine Np ?_
 unfold Ed at hne ⊢
 rw [YN h]
 split
 ·rename_i ha
  rw [if_pos ha] at hne
  obtain ⟨cs, h1, h2⟩ := hne
  exact ⟨cs, h1, Ny hT hO h hm h2⟩
 ·rename_i ha
  rw [if_neg ha] at hne
  exact Ny hT hO h hm hne
def CG (s : AS) (m : Ag) (j : Nat) (Da : Ea) : Prop :=
 ((j, none) ∈ m ∧ ∃ e dp, Da = .row e dp ([] : List (T e))) ∨
 ∃ i, (j, some i) ∈ m ∧ ((∃ e dp dp' xs, Da = .row e dp xs ∧ s.heap i = some (.row e dp' xs) ∧ (dp' = dp ∨ e.flat = true)) ∨
  (∃ ρ d td x m0, Da = .box ρ (Xk td x) ∧ s.heap i = some (.box ρ d) ∧ Xc s td d = some (x, m0) ∧ Kw m0 m ∧ Sa ρ (Xk td x)) ∨
  (∃ e xs k x p τ d td y m0, Da = .hol e xs k x p τ (Xk td y) ∧ s.heap i = some (.hol e xs k x p τ d) ∧ Xc s td d = some (y, m0) ∧ Kw m0 m ∧ Sa τ (Xk td y)) ∨
  ∃ e xs k, Da = .mov e xs k ∧ (s.heap i = some (.mov e xs k) ∨ (s.heap i = some (.row e true xs) ∧ k = 0)))
theorem Oz : ∀ {td : TD} {d : D} {x : T td.ty} {m0 : Ag}, Xc s td d = some (x, m0) → Kw m0 m → ∀ p, p ∈ Co td x → ∃ Da, p.2 = some Da ∧ CG s m p.1 Da := by
 intro td
 induction td with
 | own id' e dp =>
  intro d x m0 h hm p hp
  simp only [Co, qc] at hp
  subst hp
  cases d with
  | own id =>
   simp only [Xc] at h
   split at h
   ·rename_i e' dp' xs hb
    split at h
    ·rename_i q hq
     subst q
     simp only [Ca] at h
     obtain ⟨hc, h⟩ := h
     simp only [jc, jh] at h
     obtain ⟨rfl, rfl⟩ := h
     refine ⟨_, rfl, .inr ⟨id, hm _ (by simp), .inl ⟨_, dp, dp', _, rfl, hb, ?_⟩⟩⟩
     simpa using hc
    ·simp at h
   ·simp at h
  | nil =>
   simp only [Xc, jc, jh] at h
   obtain ⟨rfl, rfl⟩ := h
   exact ⟨_, rfl, .inl ⟨hm _ (by simp), e, dp, rfl⟩⟩
  | _ => simp [Xc] at h
 | hol id' e pth τ td ih =>
  intro d x m0 h hm p hp
  cases d with
  | own id =>
   simp only [Xc] at h
   split at h
   ·rename_i e' xs i x1 p' τ' d' hb
    split at h
    ·rename_i q1 q2 hq1 hq2
     subst q1
     obtain rfl := Bd hq2
     simp only [Ca] at h
     obtain ⟨hpp, h⟩ := h
     have hpp : pth = p' := by simpa using hpp
     subst hpp
     split at h
     ·rename_i y m1 h1
      simp only [Ca] at h
      obtain ⟨hsh, h⟩ := h
      simp only [jc, jh] at h
      obtain ⟨rfl, rfl⟩ := h
      simp only [Co] at hp
      rcases jp.1 hp with rfl | hp
      ·exact ⟨_, rfl, .inr ⟨id, hm _ (by simp), .inr (.inr (.inl ⟨_, _, i, _, _, _, d', td, y, m1, by simp only [jn], hb, h1, fun p hp => hm p (jr _ hp), Sh hsh⟩))⟩⟩
      ·exact ih h1 (fun p hp => hm p (jr _ hp)) p hp
     ·simp at h
    ·simp at h
   ·simp at h
  | _ => simp [Xc] at h
 | pr a b iha ihb =>
  intro d x m0 h hm p hp
  simp only [Xc] at h
  split at h
  ·split at h
   ·rename_i u l v l' h3 h4
    simp only [jc, jh] at h
    obtain ⟨rfl, rfl⟩ := h
    simp only [Co] at hp
    rcases jl.1 hp with hp | hp
    ·exact iha h3 (fun p hp => hm p (List.mem_append_left _ hp)) p hp
    ·exact ihb h4 (fun p hp => hm p (List.mem_append_right _ hp)) p hp
   ·simp at h
  ·simp at h
 | arr id' e =>
  intro d x m0 h hm p hp
  simp only [Co, qc] at hp
  subst hp
  cases d with
  | eptr id i q =>
   cases i with
   | succ i => simp [Xc] at h
   | zero =>
    cases q with
    | cons _ _ => simp [Xc] at h
    | nil =>
     simp only [Xc] at h
     split at h
     ·rename_i e' xs hb
      split at h
      ·rename_i q hq
       subst q
       simp only [jc, jh] at h
       obtain ⟨rfl, rfl⟩ := h
       exact ⟨_, rfl, .inr ⟨id, hm _ (by simp), .inl ⟨_, true, true, _, rfl, hb, .inl rfl⟩⟩⟩
      ·simp at h
     ·simp at h
  | _ => simp [Xc] at h
 | mov id' e =>
  intro d x m0 h hm p hp
  simp only [Co, qc] at hp
  subst hp
  cases d with
  | own id =>
   simp only [Xc] at h
   split at h
   ·rename_i e' xs hb
    split at h
    ·rename_i q hq
     subst q
     simp only [jc, jh] at h
     obtain ⟨rfl, rfl⟩ := h
     exact ⟨_, rfl, .inr ⟨id, hm _ (by simp), .inr (.inr (.inr ⟨_, _, 0, rfl, .inr ⟨hb, rfl⟩⟩))⟩⟩
    ·simp at h
   ·rename_i e' xs k hb
    split at h
    ·rename_i q hq
     subst q
     simp only [jc, jh] at h
     obtain ⟨rfl, rfl⟩ := h
     exact ⟨_, rfl, .inr ⟨id, hm _ (by simp), .inr (.inr (.inr ⟨_, _, k, by simp only [jn], .inl hb⟩))⟩⟩
    ·simp at h
   ·simp at h
  | _ => simp [Xc] at h
 | _ => intro d x m0 h hm p hp; simp [Co] at hp
theorem WJ : ∀ {l : List (Tmp × TD)} {x : T (On.tyT l)} {m0 : Ag}, BM s l = some (x, m0) → Kw m0 m →
 (∀ t d', Ua (GC l x) t = some d' → ∃ td d y m1, Ua s.tm t = some d ∧ Xc s td d = some (y, m1) ∧ Kw m1 m ∧ d' = Xk td y) ∧ (∀ p, p ∈ RC l x → ∃ Da, p.2 = some Da ∧ CG s m p.1 Da)
 | [], x, m0, h, hm => ⟨by simp [GC, Ua], by simp [RC]⟩
 | (t0, td) :: r, x, m0, h, hm => by
  simp only [BM] at h
  split at h
  ·rename_i d hd
   split at h
   ·rename_i y m1 z m2 h1 h2
    simp only [jc, jh] at h
    obtain ⟨rfl, rfl⟩ := h
    have hm1 : Kw m1 m := fun p hp => hm p (List.mem_append_left _ hp)
    obtain ⟨i1, i2⟩ := WJ h2 (fun p hp => hm p (List.mem_append_right _ hp))
    refine ⟨fun t d' ht => ?_, fun p hp => ?_⟩
    ·simp only [GC] at ht
     rw [Sb] at ht
     split at ht
     ·rename_i e
      subst e
      simp only [jc] at ht
      exact ⟨td, d, y, m1, hd, h1, hm1, ht.symm⟩
     ·exact i1 t d' ht
    ·simp only [RC] at hp
     rcases jl.1 hp with hp | hp
     ·exact Oz h1 hm1 p hp
     ·exact i2 p hp
   ·simp at h
  ·simp at h
theorem VJ : ∀ {l : List (Nat × Ty × TD)} {x : T (On.tyB l)} {m0 m' : Ag}, FH s l m0 = some (x, m') → Kw m' m →
 Kw m0 m ∧ ∀ p, p ∈ FC l x → ∃ Da, p.2 = some Da ∧ CG s m p.1 Da
 | [], x, m0, m', h, hm => by
  simp only [FH, jc, jh] at h
  obtain ⟨_, rfl⟩ := h
  exact ⟨hm, by simp [FC]⟩
 | (id', ρ, td) :: r, x, m0, m', h, hm => by
  simp only [FH] at h
  split at h
  ·rename_i id hid
   split at h
   ·rename_i ρ' d hb
    split at h
    ·rename_i q hq
     obtain rfl := q.down
     split at h
     ·rename_i y m1 h1
      simp only [Ca] at h
      obtain ⟨hsh, h⟩ := h
      split at h
      ·rename_i z m2 h2
       simp only [jc, jh] at h
       obtain ⟨rfl, rfl⟩ := h
       obtain ⟨i1, i2⟩ := VJ h2 hm
       have hm0 : Kw m0 m := fun p hp => i1 p (List.mem_append_left _ hp)
       have hm1 : Kw m1 m := fun p hp => i1 p (List.mem_append_right _ hp)
       refine ⟨hm0, fun p hp => ?_⟩
       simp only [FC] at hp
       rcases jp.1 hp with rfl | hp
       ·exact ⟨_, rfl, .inr ⟨id, hm0 _ (Im hid), .inr (.inl ⟨_, d, td, y, m1, rfl, hb, h1, hm1, Sh hsh⟩)⟩⟩
       ·rcases jl.1 hp with hp | hp
        ·exact Oz h1 hm1 p hp
        ·exact i2 p hp
      ·simp at h
     ·simp at h
    ·simp at h
   ·simp at h
  ·simp at h
end
theorem Zv : ∀ {m : Ag}, Zr m = true → ∀ j i, (j, some i) ∈ m → (j < 500000 ∧ i < 500000) ∨ j = i
 | [], _, _, _, h => by simp at h
 | (j0, some i0) :: r, hp, j, i, h => by
  simp only [Zr, jd, Bool.or_eq_true] at hp
  rcases jp.1 h with e | h
  ·simp only [jh, jc] at e
   obtain ⟨rfl, rfl⟩ := e
   rcases hp.1 with h1 | h1
   ·rw [Nat.blt_eq, Nat.blt_eq] at h1; exact .inl h1
   ·exact .inr (ju h1)
  ·exact Zv hp.2 j i h
 | (j0, none) :: r, hp, j, i, h => by
  simp only [Zr, jd] at hp
  rcases jp.1 h with e | h
  ·simp at e
  ·exact Zv hp.2 j i h
theorem Yv : ∀ {m : Ag}, Zr m = true → ∀ j, (j, none) ∈ m → j < 500000
 | [], _, _, h => by simp at h
 | (j0, some i0) :: r, hp, j, h => by
  simp only [Zr, jd] at hp
  rcases jp.1 h with e | h
  ·simp at e
  ·exact Yv hp.2 j h
 | (j0, none) :: r, hp, j, h => by
  simp only [Zr, jd] at hp
  rcases jp.1 h with e | h
  ·simp only [jh, and_true] at e
   subst e
   have := hp.1
   rwa [Nat.blt_eq] at this
  ·exact Yv hp.2 j h
theorem KK {m : Ag} (h : (m.all fun x => m.all fun y => Gr x y) = true) {x y : Nat × Option Nat} (hx : x ∈ m) (hy : y ∈ m) : Gr x y = true :=
 List.all_eq_true.1 (List.all_eq_true.1 h x hx) y hy
theorem GS {m : Ag} (h : (m.all fun x => m.all fun y => Gr x y) = true) {j : Nat} {a c : Option Nat} (hx : (j, a) ∈ m) (hy : (j, c) ∈ m) : a = c := by
 have := KK h hx hy
 unfold Gr at this
 cases a with
 | none => cases c with
  | none => rfl
  | some c => simp at this
 | some a => cases c with
  | none => simp at this
  | some c => simpa [Nat.beq_eq] using this
theorem HS {m : Ag} (h : (m.all fun x => m.all fun y => Gr x y) = true) {j j' i : Nat} (hx : (j, some i) ∈ m) (hy : (j', some i) ∈ m) : j = j' := by
 have := KK h hx hy
 unfold Gr at this
 simpa using this
theorem YD {α : Type} {j : Nat} {a : α} : ∀ {m : List (Nat × α)}, (j, a) ∈ m → ∃ c, Ua m j = some c ∧ (j, c) ∈ m
 | [], h => by simp at h
 | (j0, a0) :: r, h => by
  rw [Sb]
  by_cases hj : j0 = j
  ·subst hj; exact ⟨a0, by simp, by simp⟩
  ·rw [if_neg hj]
   rcases jp.1 h with e | h
   ·simp only [jh] at e
    exact absurd e.1.symm hj
   ·obtain ⟨c, h1, h2⟩ := YD h
    exact ⟨c, h1, jr _ h2⟩
theorem Jm {m : Ag} (h : (m.all fun x => m.all fun y => Gr x y) = true) {j : Nat} {a : Option Nat} (hx : (j, a) ∈ m) : Ua m j = some a := by
 obtain ⟨c, h1, h2⟩ := YD hx
 rw [h1, GS h hx h2]
section
variable {n0 : Nat} {A : Fx} {O0 : Nat → Prop} {w0 w : World} {s : AS} {σ : Nat → Value} {φ : Nat → List Nat} {a : Act}
theorem Py (h : Na n0 A O0 w0 s σ φ a w) {p : On} {x : p.X} (he : ext p s = some x) : ∃ σ' φ', Na n0 A O0 w0 (Xs p x s.n) σ' φ' a w := by
 unfold ext at he
 split at he
 ·rename_i x1 m1 h1
  split at he
  ·rename_i x2 m h2
   simp only [Ca] at he
   obtain ⟨hmo, he⟩ := he
   simp only [jc] at he
   subst he
   simp only [YT, jd] at hmo
   obtain ⟨hn1, hpo⟩ := hmo
   obtain ⟨hm1, hB⟩ := VJ h2 (fun p hp => hp)
   obtain ⟨hT1, hT2⟩ := WJ h1 hm1
   let σ' : Nat → Value := fun j => match Ua m j with
    | some (some i) => σ i
    | some none => .slice none 0 0
    | none => σ j
   let φ' : Nat → List Nat := fun j => match Ua m j with
    | some (some i) => φ i
    | _ => []
   have hσs : ∀ j i, (j, some i) ∈ m → σ' j = σ i ∧ φ' j = φ i := fun j i hj => by
    have := Jm hn1 hj
    simp only [σ', φ', this, and_self]
   have hσn : ∀ j, (j, none) ∈ m → σ' j = .slice none 0 0 ∧ φ' j = [] := fun j hj => by
    have := Jm hn1 hj
    simp only [σ', φ', this, and_self]
   have hent : ∀ j Da, (Xs p (x1, x2) s.n).heap j = some Da → CG s m j Da := by
    intro j Da hj
    have hmem := AS.heap_mem hj
    simp only [Xs] at hmem
    rcases jl.1 hmem with hmem | hmem
    ·obtain ⟨blk', e, hE⟩ := hT2 _ hmem
     simp only [jc] at e
     subst e
     exact hE
    ·obtain ⟨blk', e, hE⟩ := hB _ hmem
     simp only [jc] at e
     subst e
     exact hE
   have hlive : ∀ j Da, (Xs p (x1, x2) s.n).heap j = some Da → φ' j = [] ∨ ∃ i blk0, (j, some i) ∈ m ∧ s.heap i = some blk0 ∧ φ' j = φ i := by
    intro j Da hj
    rcases hent j Da hj with ⟨hn, _⟩ | ⟨i, hi, ⟨e, dp, dp', xs, _, hb, _⟩ | ⟨ρ, d, td, y, m0, _, hb, _⟩ | ⟨e, xs, k, x, p, τ, d, td, y, m0, _, hb, _⟩ | ⟨e, xs, k, _, hb | ⟨hb, _⟩⟩⟩
    ·exact .inl (hσn j hn).2
    ·exact .inr ⟨i, _, hi, hb, (hσs j i hi).2⟩
    ·exact .inr ⟨i, _, hi, hb, (hσs j i hi).2⟩
    ·exact .inr ⟨i, _, hi, hb, (hσs j i hi).2⟩
    ·exact .inr ⟨i, _, hi, hb, (hσs j i hi).2⟩
    ·exact .inr ⟨i, _, hi, hb, (hσs j i hi).2⟩
   have hOO : ∀ b, b < w.heap.size → ¬ OO O0 s φ b → ¬ OO O0 (Xs p (x1, x2) s.n) φ' b := by
    rintro b _ hno (ho | ⟨j, Da, hj, hm⟩)
    ·exact hno (.inl ho)
    ·rcases hlive j Da hj with hφ | ⟨i, blk0, _, hb, hφ⟩
     ·rw [hφ] at hm; simp at hm
     ·rw [hφ] at hm; exact hno (.inr ⟨i, blk0, hb, hm⟩)
   have hTOk : IX s σ σ' (Xs p (x1, x2) s.n).heap m := by
    refine ⟨fun j i hj => (hσs j i hj).1, fun j hj => (hσn j hj).1, fun j i ρ d hj hb => ?_, fun j i Da r hj hb hr => ?_⟩
    rcases hent j _ hb with ⟨hn, e, dp, hh⟩ | ⟨i', hi', ⟨e, dp, dp', xs, hh, _⟩ | ⟨ρ', d', td, y, m0, hh, hb', _⟩ | ⟨e, xs, k, x, p, τ, d', td, y, m0, hh, _⟩ | ⟨e, xs, k, hh, _⟩⟩
    ·simp at hh
    ·simp at hh
    ·simp only [Ea.box.injEq] at hh
     have e1 := Jm hn1 hj
     have e2 := Jm hn1 hi'
     rw [e1] at e2
     simp only [jc] at e2
     subst e2
     exact ⟨d', by rw [hb', hh.1]⟩
    ·simp at hh
    ·simp at hh
    ·have e1 := Jm hn1 hj
     rcases hent j _ hb with ⟨hn, _⟩ | ⟨i', hi', hx⟩
     ·have e2 := Jm hn1 hn
      rw [e1] at e2
      simp at e2
     ·have e2 := Jm hn1 hi'
      rw [e1] at e2
      simp only [jc] at e2
      subst e2
      rcases hx with ⟨e, dp, dp', xs, rfl, hb', _⟩ | ⟨ρ', d', td, y, m0, rfl, _⟩ | ⟨e, xs, k, x, p, τ, d', td, y, m0, rfl, hb', _⟩ | ⟨e, xs, k, rfl, hb' | ⟨hb', _⟩⟩
      ·exact ⟨_, hb', hr⟩
      ·simp [Ea.rowN] at hr
      ·exact ⟨_, hb', hr⟩
      ·exact ⟨_, hb', hr⟩
      ·exact ⟨_, hb', hr⟩
   refine ⟨σ', φ', h.sz, h.df, ?_, ?_, ?_, ?_, ?_, h.o0, h.fr, ?_, h.iv0, h.ivw⟩
   ·intro t d' hd
    obtain ⟨td, d, y, m0, g1, g2, g3, g4⟩ := hT1 t d' hd
    obtain ⟨v, hv, hr⟩ := h.tm t d g1
    rw [g4]
    exact ⟨v, hv, IR hTOk hOO g2 g3 hr⟩
   ·intro j Da hj
    rcases hent j Da hj with ⟨hn, e, dp, rfl⟩ | ⟨i, hi, ⟨e, dp, dp', xs, rfl, hb, hd⟩ | ⟨ρ, d, td, y, m0, rfl, hb, hex, hsub, hsh⟩ | ⟨e, xs, k, x, p, τ, d, td, y, m0, rfl, hb, hex, hsub, hsh⟩ | ⟨e, xs, k, rfl, hb⟩⟩
    ·rw [Hh, (hσn j hn).1, (hσn j hn).2]
     exact ⟨by simp, .inl ⟨rfl, rfl, rfl⟩⟩
    ·rw [Hh, (hσs j i hi).1, (hσs j i hi).2]
     have hrow := Hh.1 (h.hp i _ hb)
     have hst : ∀ dq, Of w (OO O0 s φ) dq e xs (σ i) (φ i) → Of w (OO O0 (Xs p (x1, x2) s.n) φ') dq e xs (σ i) (φ i) := by
      rintro dq ⟨hm, g | ⟨bl, off, cap, cur, et, Fs, g1, hh, g2, g3, g4, hF, hel⟩⟩
      ·exact ⟨hm, .inl g⟩
      ·exact ⟨hm, .inr ⟨bl, off, cap, cur, et, Fs, g1, hh, g2, g3, g4, hF, hel.stable (fun _ _ _ => rfl) hOO (fun _ _ => rfl)⟩⟩
     rcases hd with rfl | hf
     ·exact hst _ hrow
     ·have hup := hrow.up
      rw [hf, Bool.or_true] at hup
      cases dp with
      | true => exact hst _ hup
      | false =>
       cases dp' with
       | false => exact hst _ hrow
       | true =>
        have hown := Vy (h.hp i _ hb) (.inl rfl)
        exact hst _ (Hh.1 (MD (O := OO O0 s φ) (hp := s.heap) hown hf))
    ·rw [(hσs j i hi).2]
     obtain ⟨_, b, cur, et, g1, hh, hF, hr, hsz⟩ := h.hp i _ hb
     exact ⟨hsh, b, cur, et, by rw [(hσs j i hi).1]; exact g1, hh, hF, Ny hTOk hOO hex hsub hr, hsz⟩
    ·rw [(hσs j i hi).2]
     obtain ⟨_, g1, g2, g3, bl, off, cap, cur, et, g4, g5, g6, g7, hr, hw⟩ := h.hp i _ hb
     refine ⟨hsh, g1, g2, g3, bl, off, cap, cur, et, by rw [(hσs j i hi).1]; exact g4, g5, g6, g7, Ny hTOk hOO hex hsub hr, fun w' c' h1 h2 h3 y Fy x' h4 h5 => ?_⟩
     rw [(hσs j i hi).1]
     exact hw w' c' h1 h2 h3 y Fy x' h4 h5
    ·rw [(hσs j i hi).2]
     have hm0 : Qb w (OO O0 s φ) s.heap σ i (.mov e xs k) (φ i) := by
      rcases hb with hb | ⟨hb, rfl⟩
      ·exact h.hp i _ hb
      ·exact OI (h.hp i _ hb)
     obtain ⟨hlen, ⟨g1, g2, g3⟩ | ⟨bl, off, cap, cur, et, Fs, g1, g⟩⟩ := hm0
     ·exact ⟨hlen, .inl ⟨by rw [(hσs j i hi).1]; exact g1, g2, g3⟩⟩
     ·exact ⟨hlen, .inr ⟨bl, off, cap, cur, et, Fs, by rw [(hσs j i hi).1]; exact g1, g⟩⟩
   ·intro j Da hj
    rcases hlive j Da hj with hφ | ⟨i, blk0, _, hb, hφ⟩
    ·rw [hφ]; exact List.nodup_nil
    ·rw [hφ]; exact h.nodup i blk0 hb
   ·intro j j' Da blk' hne hj hj' b hb hb'
    rcases hlive j Da hj with hφ | ⟨i, blk0, hi, hbi, hφ⟩
    ·rw [hφ] at hb; simp at hb
    ·rcases hlive j' blk' hj' with hφ' | ⟨i', blk0', hi', hbi', hφ'⟩
     ·rw [hφ'] at hb'; simp at hb'
     ·rw [hφ] at hb
      rw [hφ'] at hb'
      by_cases hii : i = i'
      ·subst hii
       exact hne (HS hn1 hi hi')
      ·exact h.disj i i' blk0 blk0' hii hbi hbi' b hb hb'
   ·intro j Da hj b hb
    rcases hlive j Da hj with hφ | ⟨i, blk0, _, hbi, hφ⟩
    ·rw [hφ] at hb; simp at hb
    ·rw [hφ] at hb; exact h.fresh i blk0 hbi b hb
   ·intro j v hv
    have hlow := A.low j v hv
    show σ' j = v
    simp only [σ']
    split
    ·rename_i i hg
     rcases Zv hpo j i (Im hg) with ⟨hj, _⟩ | rfl
     ·omega
     ·exact h.pin _ v hv
    ·rename_i hg
     have := Yv hpo j (Im hg)
     omega
    ·exact h.pin j v hv
  ·simp at he
 ·simp at he
end
def RX : Ex → Exit
 | .normal => .normal
 | .exit id => .exit id
 | .ret => .ret
def Kr {X R : Type} (step : X → Option (X ⊕ R)) : Nat → X → R → Prop
 | 0, _, _ => False
 | n + 1, x, r => step x = some (.inr r) ∨ ∃ x', step x = some (.inl x') ∧ Kr step n x' r
def Vc : Code → List Code
 | .seq a b => Vc a ++ Vc b
 | .cond _ a b => Vc a ++ Vc b
 | .block _ c => Vc c
 | .loop c => c :: Vc c
 | _ => []
def Tb (G : Jd) (L : List (Nat × Eb)) (b : Code) : Prop :=
 ∀ r ls, Kg b = some r → Ua L r = some ls → ∀ x y, ls.F x = some y → ∃ m, Kr (Xt G L ls b) m x y
section
variable {P : Program} {n0 : Nat} {A : Fx} {O0 : Nat → Prop} {w0 : World} {G : Jd} {L : List (Nat × Eb)}
theorem EH (hG : Vg P A.I G) (hfz : G.fz = true → ∀ b, ¬ A.A b) (hm : P.follows .mixedOrders = true) : ∀ (c : Code), (∀ b, b ∈ Vc c → Tb G L b) → ∀ {Out : Type} {k : Ex → AS → Option Out} {out : Out} {s : AS} {σ : Nat → Value} {φ : Nat → List Nat} {a : Act} {w : World} {Q : Exit → Act → World → Prop},
 Xl G L c s k = some out → Na n0 A O0 w0 s σ φ a w → (∀ e s σ φ a w, k e s = some out → Na n0 A O0 w0 s σ φ a w → Q (RX e) a w) → c.wp P Q a w := by
 intro c
 induction c with
 | skip =>
  intro _ Out k out s σ φ a w Q he h hQ
  simp only [Xl] at he
  exact wp_skip (hQ .normal s σ φ a w he h)
 | region id ops draw =>
  intro _ Out k out s σ φ a w Q he h hQ
  simp only [Xl] at he
  split at he
  ·rename_i s1 h1
   obtain ⟨φ1, hc⟩ := Ds hfz h h1
   refine VP (k := fun s' => match Cu G.fz G.att (1000 * id + 999) s' with
    | some s' => k .normal s'
    | none => none) hG hfz hm hc he fun a w ⟨s', σ', φ', h2, h3⟩ => ?_
   simp only at h2
   split at h2
   ·rename_i s2 h4
    obtain ⟨φ2, hc2⟩ := Ds hfz h3 h4
    exact hQ .normal _ σ' φ2 a w h2 hc2
   ·simp at h2
  ·simp at he
 | seq x y ihx ihy =>
  intro hL Out k out s σ φ a w Q he h hQ
  simp only [Xl] at he
  refine wp_seq (ihx (fun b hb => hL b (by simp [Vc, hb])) he h fun e s' σ' φ' a' w' hk h' => ?_)
  cases e with
  | normal => exact ihy (fun b hb => hL b (by simp [Vc, hb])) hk h' hQ
  | exit j => exact hQ (.exit j) s' σ' φ' a' w' hk h'
  | ret => exact hQ .ret s' σ' φ' a' w' hk h'
 | cond x y z ihy ihz =>
  intro hL Out k out s σ φ a w Q he h hQ
  cases x with
  | tmp t =>
   simp only [Xl] at he
   split at he
   ·rename_i β hd
    have hs := h.same hd
    obtain ⟨v, hv, hr⟩ := h.tm t _ hd
    rw [Lf] at hr
    subst hr
    have hev : a.eval (.tmp t) = .bool β := by
     simp only [Act.eval]
     rw [Array.getD_eq_getD_getElem?, hv]
     rfl
    refine wp_cond_split hev (fun hb => ?_) (fun hb => ?_)
    ·subst hb
     simp only [cond_true] at he
     exact ihy (fun b hb => hL b (by simp [Vc, hb])) he hs hQ
    ·subst hb
     simp only [cond_false] at he
     exact ihz (fun b hb => hL b (by simp [Vc, hb])) he hs hQ
   ·simp at he
  | const cv =>
   cases cv with
   | bool β =>
    simp only [Xl] at he
    refine wp_cond_split (show a.eval (.const (.bool β)) = .bool β from rfl) (fun hb => ?_) (fun hb => ?_)
    ·subst hb
     simp only [cond_true] at he
     exact ihy (fun b hb => hL b (by simp [Vc, hb])) he h hQ
    ·subst hb
     simp only [cond_false] at he
     exact ihz (fun b hb => hL b (by simp [Vc, hb])) he h hQ
   | _ => simp [Xl] at he
  | _ => simp [Xl] at he
 | block id c ih =>
  intro hL Out k out s σ φ a w Q he h hQ
  simp only [Xl] at he
  refine wp_block (ih (fun b hb => hL b (by simpa [Vc] using hb)) he h fun e s' σ' φ' a' w' hk h' => ?_)
  cases e with
  | normal => exact hQ .normal s' σ' φ' a' w' hk h'
  | exit j =>
   simp only [RX, Exit.inBlock]
   cases hb : Nat.beq j id with
   | true =>
    rw [if_pos (ju hb)]
    simp only [hb, cond_true] at hk
    exact hQ .normal s' σ' φ' a' w' hk h'
   | false =>
    rw [if_neg (fun e => by rw [e, Nat.beq_refl] at hb; simp at hb)]
    simp only [hb, cond_false] at hk
    exact hQ (.exit j) s' σ' φ' a' w' hk h'
  | ret => exact hQ .ret s' σ' φ' a' w' hk h'
 | exit id =>
  intro _ Out k out s σ φ a w Q he h hQ
  simp only [Xl] at he
  exact wp_exit (hQ (.exit id) s σ φ a w he h)
 | ret =>
  intro _ Out k out s σ φ a w Q he h hQ
  simp only [Xl] at he
  exact wp_ret (hQ .ret s σ φ a w he h)
 | loop c ih =>
  intro hL Out k out s σ φ a w Q he h hQ
  simp only [Xl] at he
  split at he
  ·rename_i r hr
   split at he
   ·rename_i ls hls
    split at he
    ·rename_i x hx
     simp only [Ca] at he
     obtain ⟨hn, he⟩ := he
     have hn := ju hn
     rw [qe] at he
     obtain ⟨y, hy, he⟩ := he
     obtain ⟨m, hit⟩ := hL c (by simp [Vc]) r ls hr hls x y hy
     obtain ⟨σ1, φ1, h1⟩ := Py h hx
     rw [hn] at h1 he
     refine wp_loop_rounds m ?_
     have key : ∀ (m : Nat) (x : ls.inT.X) (σ : Nat → Value) (φ : Nat → List Nat) (a : Act) (w : World), Kr (Xt G L ls c) m x y → Na n0 A O0 w0 (Xs ls.inT x ls.n) σ φ a w → Code.rounds P c Q m a w := by
      intro m
      induction m with
      | zero => intro x σ φ a w hit _; exact hit.elim
      | succ m ihm =>
       intro x σ φ a w hit h
       rw [rounds_succ]
       have body : ∀ z, Xt G L ls c x = some z → (z = .inr y ∨ ∃ x', z = .inl x' ∧ Kr (Xt G L ls c) m x' y) → c.wp P (Exit.then (Code.rounds P c Q m) Q) a w := by
        intro z hz hzy
        unfold Xt at hz
        refine ih (fun b hb => hL b (by simp [Vc, hb])) hz h fun e s' σ' φ' a' w' hk h' => ?_
        simp only [Ca] at hk
        obtain ⟨hn', hk⟩ := hk
        have hn' := ju hn'
        cases e with
        | normal =>
         simp only at hk
         split at hk
         ·rename_i x' hx'
          simp only [jc] at hk
          obtain ⟨σ2, φ2, h2⟩ := Py h' hx'
          rw [hn'] at h2
          rcases hzy with hzy | ⟨x'', hzy, hit'⟩
          ·rw [hzy] at hk; simp at hk
          ·rw [hzy] at hk
           simp only [Sum.inl.injEq] at hk
           subst hk
           exact ihm x' σ2 φ2 a' w' hit' h2
         ·simp at hk
        | exit j =>
         simp only [Ca] at hk
         obtain ⟨hj, hk⟩ := hk
         have hj := ju hj
         split at hk
         ·rename_i y' hy'
          simp only [jc] at hk
          obtain ⟨σ2, φ2, h2⟩ := Py h' hy'
          rw [hn'] at h2
          rcases hzy with hzy | ⟨x'', hzy, _⟩
          ·rw [hzy] at hk
           simp only [Sum.inr.injEq] at hk
           subst hk
           simp only [qi] at he
           show Q (.exit j) a' w'
           rw [hj]
           exact hQ (.exit ls.exitId) _ σ2 φ2 a' w' he h2
          ·rw [hzy] at hk; simp at hk
         ·simp at hk
        | ret =>
         simp only at hk
         split at hk
         ·rename_i y' hy'
          simp only [jc] at hk
          obtain ⟨σ2, φ2, h2⟩ := Py h' hy'
          rw [hn'] at h2
          rcases hzy with hzy | ⟨x'', hzy, _⟩
          ·rw [hzy] at hk
           simp only [Sum.inr.injEq] at hk
           subst hk
           simp only [Sum.elim_inr] at he
           exact hQ .ret _ σ2 φ2 a' w' he h2
          ·rw [hzy] at hk; simp at hk
         ·simp at hk
       rcases hit with hit | ⟨x', hit, hit'⟩
       ·exact body _ hit (.inl rfl)
       ·exact body _ hit (.inr ⟨x', rfl, hit'⟩)
     exact key m x σ1 φ1 a w hit h1
    ·simp at he
   ·simp at he
  ·simp at he
 | _ => intros; rename_i he _ _; simp [Xl] at he
end
theorem Xb.mono {w : World} {O O' : Nat → Prop} (hO : ∀ b, O' b → O b) : ∀ {rt : Ty} {r : T rt} {fr : List Bool} {vs : List Value} {F : List Nat}, Xb w O rt r fr vs F → Xb w O' rt r fr vs F
 | .u, _, [], [], _, h => h
 | .p x y, r, f :: fr, v :: vs, F, h => by
  obtain ⟨cs, F1, F2, hv, hF, h1, h2⟩ := h
  refine ⟨cs, F1, F2, hv, hF, ?_, Xb.mono hO h2⟩
  cases f with
  | true => exact h1
  | false =>
   simp only [jq, if_false] at h1 ⊢
   exact ⟨h1.1.weaken hO, h1.2⟩
 | .u, _, _ :: _, _, _, h => by simp [Xb] at h
 | .u, _, [], _ :: _, _, h => by simp [Xb] at h
 | .p _ _, _, [], _, _, h => by simp [Xb] at h
 | .p _ _, _, _ :: _, [], _, h => by simp [Xb] at h
 | .i _, _, fr, vs, _, h => by simp [Xb] at h
 | .b, _, fr, vs, _, h => by simp [Xb] at h
 | .o, _, fr, vs, _, h => by simp [Xb] at h
 | .s, _, fr, vs, _, h => by simp [Xb] at h
 | .sl _, _, fr, vs, _, h => by simp [Xb] at h
section
variable {P : Program} {n0 : Nat} {A : Fx} {O0 : Nat → Prop} {w0 w : World} {s : AS} {σ : Nat → Value} {φ : Nat → List Nat} {a : Act} {G : Jd} {L : List (Nat × Eb)}
def RU (w : World) (O : Nat → Prop) (hp : Nat → Option Ea) (σ : Nat → Value) : D → List Value → Prop
 | .pr a b, v :: vs => Ac w O hp σ a v ∧ RU w O hp σ b vs
 | .un, [] => True
 | _, _ => False
def Ux (tmps : Array Value) : ResultVar → Sem Value
 | .tmp t => pure (tmps.getD t undef)
 | .cell a t => do loadVar t (← asAddr (tmps.getD a undef))
theorem Dt (hG : EnvTy P G) (h : Na n0 A O0 w0 s σ φ a w) : ∀ {rs : List ResultVar} {d : D}, Bo G s rs = some d → ∃ vs, (rs.mapM (Ux a.tmps)).run P w = .ok vs w ∧ RU w (OO O0 s φ) s.heap σ d vs
 | [], d, he => by
  simp only [Bo, jc] at he
  subst he
  exact ⟨[], by simp, trivial⟩
 | .tmp t :: r, d, he => by
  simp only [Bo] at he
  split at he
  ·rename_i d1 d2 h1 h2
   simp only [jc] at he
   subst he
   obtain ⟨vs, hvs, hr⟩ := Dt hG h h2
   obtain ⟨v, hv, hru⟩ := h.tm t d1 h1
   have hg : a.tmps.getD t undef = v := by rw [Array.getD_eq_getD_getElem?, hv]; rfl
   refine ⟨v :: vs, ?_, hru, hr⟩
   rw [List.mapM_cons]
   simp only [Ux, qv, Sem.run_pure, qu, hvs, hg]
  ·simp at he
 | .cell t ty :: r, d, he => by
  simp only [Bo] at he
  split at he
  ·rename_i id d2 h1 h2
   split at he
   ·rename_i ρ d1 τ hb hty
    split at he
    ·rename_i q hq
     obtain rfl := q.down
     simp only [jc] at he
     subst he
     obtain ⟨vs, hvs, hr⟩ := Dt hG h h2
     obtain ⟨v, hv, hru⟩ := h.tm t _ h1
     have hg : a.tmps.getD t undef = v := by rw [Array.getD_eq_getD_getElem?, hv]; rfl
     rw [Lj] at hru
     obtain ⟨b, hσ, hv'⟩ := hru.2 _ _ hb
     obtain ⟨hs, b', cur, et, hσ', hh, hF, hrep, hsz⟩ := h.hp id _ hb
     rw [hσ] at hσ'
     simp at hσ'
     subst hσ'
     have hl := Hk (P := P) (hG.ty _ _ hty) (off := 0) hh (by omega)
     have hseg : Cc cur 0 ρ.size = cur.toList := by rw [← hsz]; exact LV cur
     rw [hseg] at hl
     refine ⟨Ic ρ cur.toList :: vs, ?_, Mj hs hrep, hr⟩
     rw [List.mapM_cons]
     have hoff : Ta ρ [] = 0 := rfl
     rw [hoff] at hv'
     subst hv'
     simp only [Ux, qv, Sem.run_pure, qu, hvs, hg, asAddr, hl]
    ·simp at he
   ·simp at he
  ·simp at he
theorem QD (h : Na n0 A O0 w0 s σ φ a w) : ∀ {rt : Ty} {fr : List Bool} {d : D} {r : T rt} {l : List Nat} {vs : List Value}, Re s rt fr d = some (r, l) → RU w (OO O0 s φ) s.heap σ d vs →
 Xb w (OO O0 s φ) rt r fr vs (Ba φ l) ∧ ∀ j, j ∈ l → ∃ b, s.heap j = some b
 | .u, [], .un, r, l, vs, he, hr => by
  simp only [Re, jc, jh] at he
  obtain ⟨_, rfl⟩ := he
  cases vs with
  | nil => exact ⟨by simp [Xb, Ba], by simp⟩
  | cons v vs => simp [RU] at hr
 | .p x y, f :: fr, .pr d1 d2, r, l, vs, he, hr => by
  cases vs with
  | nil => simp [RU] at hr
  | cons v vs =>
   simp only [Re] at he
   split at he
   ·rename_i u l1 z l2 h1 h2
    simp only [jc, jh] at he
    obtain ⟨rfl, rfl⟩ := he
    obtain ⟨g1, g2⟩ := QD h h2 hr.2
    cases f with
    | true =>
     simp only [cond_true] at h1
     obtain ⟨hrep, hv⟩ := Dd (Og h1) hr.1
     obtain ⟨ho, hl⟩ := Pi h h1 hrep
     refine ⟨⟨_, Ba φ l1, Ba φ l2, hv, Nc, ?_, g1⟩, ?_⟩
     ·simpa using ho
     ·intro j hj
      rcases jl.1 hj with hj | hj
      ·exact hl j hj
      ·exact g2 j hj
    | false =>
     simp only [cond_false] at h1
     split at h1
     ·rename_i u' hu
      simp only [jc, jh] at h1
      obtain ⟨rfl, rfl⟩ := h1
      obtain ⟨hs, hvw⟩ := Se (w := w) (O := OO O0 s φ) (hp := s.heap) (σ := σ) hu
      obtain ⟨hrep, hv⟩ := Dd hs hr.1
      refine ⟨⟨_, [], Ba φ l2, hv, by simp [Ba], ?_, g1⟩, by simpa using g2⟩
      simpa using hvw _ hrep
     ·simp at h1
   ·simp at he
 | .u, _ :: _, d, _, _, _, he, _ => by cases d <;> simp [Re] at he
 | .u, [], .und, _, _, _, he, _ => by simp [Re] at he
 | .u, [], .anyv, _, _, _, he, _ => by simp [Re] at he
 | .u, [], .t _ _, _, _, _, he, _ => by simp [Re] at he
 | .u, [], .nil, _, _, _, he, _ => by simp [Re] at he
 | .u, [], .own _, _, _, _, he, _ => by simp [Re] at he
 | .u, [], .ptr _ _, _, _, _, he, _ => by simp [Re] at he
 | .u, [], .eptr _ _ _, _, _, _, he, _ => by simp [Re] at he
 | .u, [], .rp _ _, _, _, _, he, _ => by simp [Re] at he
 | .u, [], .pr _ _, _, _, _, he, _ => by simp [Re] at he
 | .u, [], .tup _, _, _, _, he, _ => by simp [Re] at he
 | .p _ _, [], d, _, _, _, he, _ => by cases d <;> simp [Re] at he
 | .p _ _, _ :: _, .und, _, _, _, he, _ => by simp [Re] at he
 | .p _ _, _ :: _, .anyv, _, _, _, he, _ => by simp [Re] at he
 | .p _ _, _ :: _, .t _ _, _, _, _, he, _ => by simp [Re] at he
 | .p _ _, _ :: _, .nil, _, _, _, he, _ => by simp [Re] at he
 | .p _ _, _ :: _, .own _, _, _, _, he, _ => by simp [Re] at he
 | .p _ _, _ :: _, .ptr _ _, _, _, _, he, _ => by simp [Re] at he
 | .p _ _, _ :: _, .eptr _ _ _, _, _, _, he, _ => by simp [Re] at he
 | .p _ _, _ :: _, .rp _ _, _, _, _, he, _ => by simp [Re] at he
 | .p _ _, _ :: _, .un, _, _, _, he, _ => by simp [Re] at he
 | .p _ _, _ :: _, .tup _, _, _, _, he, _ => by simp [Re] at he
 | .i _, fr, d, _, _, _, he, _ => by cases fr <;> cases d <;> simp [Re] at he
 | .b, fr, d, _, _, _, he, _ => by cases fr <;> cases d <;> simp [Re] at he
 | .o, fr, d, _, _, _, he, _ => by cases fr <;> cases d <;> simp [Re] at he
 | .s, fr, d, _, _, _, he, _ => by cases fr <;> cases d <;> simp [Re] at he
 | .sl _, fr, d, _, _, _, he, _ => by cases fr <;> cases d <;> simp [Re] at he
theorem Hu {fn : Func} {vs : List Value} (h : (fn.results.toList.mapM (Ux a.tmps)).run P w = .ok vs w) : (results fn a.tmps).run P w = .ok (Zs vs) w := by
 unfold results
 rw [Array.mapM_eq_mapM_toList]
 simp only [map_eq_pure_bind, bind_assoc, pure_bind, qv, Sem.run_pure]
 show (Sem.run P (List.mapM (Ux a.tmps) fn.results.toList) w).andThen (fun vs w' => Result.ok (if h : vs.toArray.size = 1 then vs.toArray[0] else Value.tuple vs.toArray) w') = _
 rw [h]
 simp only [qu]
 congr 1
 cases vs with
 | nil => rfl
 | cons v vs => cases vs <;> rfl
end
def Ty.npar : Ty → Nat
 | .p _ y => y.npar + 1
 | _ => 0
theorem Zt {w : World} {O : Nat → Prop} : ∀ {pt : Ty} {x : T pt} {args : List Value}, Ie w O pt x args → args.length = pt.npar
 | .u, _, [], _ => rfl
 | .p x y, v, a :: r, h => by simp [Ty.npar, Zt h.2]
 | .u, _, _ :: _, h => by simp [Ie] at h
 | .p _ _, _, [], h => by simp [Ie] at h
 | .i _, _, l, h => by simp [Ie] at h
 | .b, _, l, h => by simp [Ie] at h
 | .o, _, l, h => by simp [Ie] at h
 | .s, _, l, h => by simp [Ie] at h
 | .sl _, _, l, h => by simp [Ie] at h
theorem Wv {w : World} {O : Nat → Prop} {hp : Nat → Option Ea} {σ : Nat → Value} : ∀ {pt : Ty} {x : T pt} {args : List Value} {n t : Nat} {d : D}, Ie w O pt x args → Ua (Dm pt x n) t = some d →
 ∃ j v, t = n + j ∧ args[j]? = some v ∧ Ac w O hp σ d v
 | .p x y, v, a :: r, n, t, d, h, hd => by
  simp only [Dm] at hd
  rw [Sb] at hd
  split at hd
  ·rename_i e
   simp only [jc] at hd
   subst hd
   obtain ⟨⟨cs, ha, hv⟩, _⟩ := h
   refine ⟨0, a, by omega, rfl, ?_⟩
   rw [ha]
   exact Mj (τ := x) (by simp [Sa]) hv
  ·obtain ⟨j, v', h1, h2, h3⟩ := Wv (hp := hp) (σ := σ) h.2 hd
   exact ⟨j + 1, v', by omega, by simpa using h2, h3⟩
 | .p _ _, _, [], _, _, _, h, _ => by simp [Ie] at h
 | .u, _, _, _, _, _, _, hd => by simp [Dm, Ua] at hd
 | .i _, _, _, _, _, _, h, _ => by simp [Ie] at h
 | .b, _, _, _, _, _, h, _ => by simp [Ie] at h
 | .o, _, _, _, _, _, h, _ => by simp [Ie] at h
 | .s, _, _, _, _, _, h, _ => by simp [Ie] at h
 | .sl _, _, _, _, _, _, h, _ => by simp [Ie] at h
section
variable {P : Program} {G : Jd} {L : List (Nat × Eb)}
variable {I : Jg}
def KD (I : Jg) : Fx := ⟨fun _ => False, fun _ => none, fun _ _ h => by simp at h, I, fun _ h => h.elim⟩
theorem WS (hG : Vg P I G) (hm : P.follows .mixedOrders = true) {f : FuncId} {fn : Func} {c : Code} (hf : P.funcs[f]? = some fn) (hb : fn.body = some c) (hname : (fn.name == "runtime.NumGoroutine") = false)
 (hL : ∀ b, b ∈ Vc c → Tb G L b) {pt rt : Ty} {fr : List Bool} {F : T pt → Option (T rt)} (hn : pt.npar ≤ fn.ntmps) (hF : ∀ x r, F x = some r → UN G L fn pt rt fr x = some r) : Bg P I f (.pu pt rt fr F) := by
 refine ⟨⟨fn, hf, hname, by rw [hb]; rfl⟩, ?_⟩
 intro O w x r args hx hargs hO hI hB
 have he := hF x r hx
 unfold UN at he
 rw [hb] at he
 simp only at he
 refine calls_of_wp hf hb ?_
 have hlen := Zt hargs
 have hc : Na w.heap.size (KD I) O w ⟨fn.ntmps, Dm pt x 0, []⟩ (fun _ => undef) (fun _ => []) { tmps := args.toArray ++ Array.replicate (fn.ntmps - args.toArray.size) undef, defers := [] } w := by
  have hh : ∀ id, AS.heap ⟨fn.ntmps, Dm pt x 0, []⟩ id = none := fun id => rfl
  refine ⟨?_, rfl, ?_, ?_, ?_, ?_, ?_, hO, ⟨rfl, rfl, rfl, jo _, fun _ _ _ => rfl⟩, ?_, hB, hI⟩
  ·simp; omega
  ·intro t d hd
   have hOO : OO O ⟨fn.ntmps, Dm pt x 0, []⟩ (fun _ => []) = O := by
    funext b
    simp [OO, hh]
   rw [hOO]
   obtain ⟨j, v, h1, h2, h3⟩ := Wv hargs hd
   refine ⟨v, ?_, h3⟩
   have hj : j < args.length := (List.getElem?_eq_some_iff.1 h2).1
   have : t = j := by omega
   subst this
   rw [Array.getElem?_append_left (by simpa using hj)]
   simpa using h2
  ·intro id Da hb; rw [hh] at hb; simp at hb
  ·intro id Da hb; rw [hh] at hb; simp at hb
  ·intro id id' Da blk' _ hb; rw [hh] at hb; simp at hb
  ·intro id Da hb; rw [hh] at hb; simp at hb
  ·intro id v hv; simp [KD] at hv
 refine EH (A := KD I) hG (fun _ _ h => h) hm c hL he hc ?_
 intro e s σ φ a w' hk h
 have Mf : (match Bo G s fn.results.toList with
  | some d => match Re s rt fr d with
   | some (r, l) => bif Fe l then some r else none
   | none => none
  | none => none) = some r → a.defers = [] ∧ ∃ v, (results fn a.tmps).run P w' = .ok v w' ∧ Bn (fun v w' => ∃ vs Fr, v = Zs vs ∧ Vp w w' (fun _ => False) ∧ Xb w' (fun b => O b ∨ b ∈ Fr) rt r fr vs Fr ∧ Fr.Nodup ∧ ∀ b ∈ Fr, w.heap.size ≤ b) (.returned v) w' := by
  intro hk
  split at hk
  ·rename_i d hd
   split at hk
   ·rename_i r' l hr
    simp only [Ca] at hk
    obtain ⟨hnd, hk⟩ := hk
    simp only [jc] at hk
    subst hk
    have hnd := Xf hnd
    obtain ⟨vs, hvs, hru⟩ := Dt hG.toEnvTy h hd
    obtain ⟨hR, hlive⟩ := QD h hr hru
    refine ⟨h.df, _, Hu hvs, vs, Ba φ l, rfl, ⟨h.fr.size, fun b hb _ => h.fr.block b hb (fun h => h), h.fr.os, h.fr.tape, h.fr.output⟩, hR.mono ?_, Le h hnd hlive, ?_⟩
    ·rintro b (hb | hb)
     ·exact .inl hb
     ·obtain ⟨j, hj, hm'⟩ := Va.1 hb
      obtain ⟨Da, hbj⟩ := hlive j hj
      exact .inr ⟨j, Da, hbj, hm'⟩
    ·intro b hb
     obtain ⟨j, hj, hm'⟩ := Va.1 hb
     obtain ⟨Da, hbj⟩ := hlive j hj
     exact (h.fresh j Da hbj b hm').resolve_right (fun h => h)
   ·simp at hk
  ·simp at hk
 cases e with
 | normal => exact Mf hk
 | ret => exact Mf hk
 | exit j => simp at hk
end
theorem Rw {φ : Nat → List Nat} : ∀ {L : List Nat}, (Ba φ L).Nodup → ∀ {i j b : Nat}, i ∈ L → j ∈ L → i ≠ j → b ∈ φ i → b ∉ φ j
 | [], _, _, _, _, h, _, _, _ => by simp at h
 | x :: L, hn, i, j, b, hi, hj, hne, hb => by
  intro hb'
  have hx : Ba φ (x :: L) = φ x ++ Ba φ L := by simp [Ba]
  rw [hx, List.nodup_append] at hn
  rcases jp.1 hi with e1 | q1
  ·rcases jp.1 hj with e2 | q2
   ·exact hne (e1.trans e2.symm)
   ·exact hn.2.2 b (e1 ▸ hb) b (Va.2 ⟨j, q2, hb'⟩) rfl
  ·rcases jp.1 hj with e2 | q2
   ·exact hn.2.2 b (e2 ▸ hb') b (Va.2 ⟨i, q1, hb⟩) rfl
   ·exact Rw hn.2.1 q1 q2 hne hb hb'
section
variable {P : Program} {G : Jd} {L : List (Nat × Eb)} {I : Jg}
end
def Xv : (pt : Ty) → T pt → Nat → Nat → List (Nat × D) × List (Nat × Option Ea) × Nat
 | .p x y, v, t, n => match Tc x v.1 n with
  | (d, l, m) => match Xv y v.2 (t + 1) m with
   | (tm, l', m') => ((t, d) :: tm, l ++ l', m')
 | _, _, _, n => ([], [], n)
def IG (G : Jd) (L : List (Nat × Eb)) (fn : Func) (vw cv : Bool) (τ pt rt : Ty) (fr : List Bool) (x0 : T τ) (x : T pt) : Option (T τ × T rt) :=
 match fn.body with
 | some c => match (bif vw then (D.t τ x0, [], 400000) else Tc τ x0 400000) with
  | (d0, rows, m) => match (bif cv then Xv pt x 1 m else (Dm pt x 1, [], m)) with
   | (tm, rows2, m2) => bif jx m2 500000 then Xl G L c ⟨fn.ntmps, (0, .ptr 500000 []) :: tm, (500000, some (.box τ d0)) :: (rows ++ rows2)⟩ fun e s => match e with
    | .exit _ => none
    | _ => match s.heap 500000, Bo G s fn.results.toList with
     | some (.box τ' d1), some d => match Ty.dec τ' τ, (bif vw then (match Zf d1 τ with
      | some y => some (y, [])
      | none => none) else Ib s d1 τ), Re s rt fr d with
      | some _, some (x', l0), some (r, l) => bif Fe (500000 :: (l0 ++ l)) then some (x', r) else none
      | _, _, _ => none
     | _, _ => none
    else none
 | none => none
theorem WE {w : World} : ∀ {pt : Ty} {x : T pt} {args : List Value} {F : List Nat}, Rd w pt x args F → args.length = pt.npar
 | .u, _, [], _, _ => rfl
 | .p x y, v, a :: r, F, h => by
  obtain ⟨cs, F1, F2, _, _, _, h⟩ := h
  simp [Ty.npar, WE h]
 | .u, _, _ :: _, _, h => by simp [Rd] at h
 | .p _ _, _, [], _, h => by simp [Rd] at h
 | .i _, _, l, _, h => by simp [Rd] at h
 | .b, _, l, _, h => by simp [Rd] at h
 | .o, _, l, _, h => by simp [Rd] at h
 | .s, _, l, _, h => by simp [Rd] at h
 | .sl _, _, l, _, h => by simp [Rd] at h
theorem Rd.lt {w : World} : ∀ {pt : Ty} {x : T pt} {args : List Value} {F : List Nat}, Rd w pt x args F → ∀ b, b ∈ F → b < w.heap.size
 | .u, _, [], F, h, b, hb => by simp only [Rd] at h; subst h; simp at hb
 | .p x y, v, a :: r, F, h, b, hb => by
  obtain ⟨cs, F1, F2, _, rfl, ho, h⟩ := h
  rcases jl.1 hb with hb | hb
  ·exact ho.lt b hb
  ·exact Rd.lt h b hb
 | .u, _, _ :: _, _, h, _, _ => by simp [Rd] at h
 | .p _ _, _, [], _, h, _, _ => by simp [Rd] at h
 | .i _, _, l, _, h, _, _ => by simp [Rd] at h
 | .b, _, l, _, h, _, _ => by simp [Rd] at h
 | .o, _, l, _, h, _, _ => by simp [Rd] at h
 | .s, _, l, _, h, _, _ => by simp [Rd] at h
 | .sl _, _, l, _, h, _, _ => by simp [Rd] at h
theorem LI {w : World} : ∀ {pt : Ty} {x : T pt} {args : List Value} {F : List Nat} {t n m : Nat} {tm : List (Nat × D)} {l : List (Nat × Option Ea)}, Xv pt x t n = (tm, l, m) → Rd w pt x args F →
 n ≤ m ∧ (∀ p, p ∈ l → n ≤ p.1 ∧ p.1 < m) ∧ ∃ (ψ : Nat → List Nat) (ν : Nat → Value), Ba ψ (l.map (·.1)) = F ∧ (∀ p, p ∈ l → ∃ e xs, p.2 = some (.row e true xs) ∧ Bb w (.sl e) xs [ν p.1] (ψ p.1)) ∧
  ∀ (hp' : Nat → Option Ea) (σ' : Nat → Value) (O' : Nat → Prop), (∀ p, p ∈ l → σ' p.1 = ν p.1) → ∀ t' d, Ua tm t' = some d → ∃ j v, t' = t + j ∧ args[j]? = some v ∧ Ac w O' hp' σ' d v
 | .u, x, [], F, t, n, m, tm, l, he, h => by
  simp only [Xv, jh] at he
  obtain ⟨rfl, rfl, rfl⟩ := he
  simp only [Rd] at h
  exact ⟨jo _, by simp, fun _ => [], fun _ => undef, by simp [Ba, h], by simp, fun _ _ _ _ t' d hd => by simp [Ua] at hd⟩
 | .p t1 t2, x, a :: r, F, t, n, m, tm, l, he, h => by
  obtain ⟨cs, F1, F2, ha, hF, ho, hr⟩ := h
  simp only [Xv] at he
  rcases ho1 : Tc t1 x.1 n with ⟨d1, l1, m1⟩
  rcases ho2 : Xv t2 x.2 (t + 1) m1 with ⟨tm2, l2, m2⟩
  rw [ho1] at he
  simp only at he
  rw [ho2] at he
  simp only [jh] at he
  obtain ⟨rfl, rfl, rfl⟩ := he
  obtain ⟨a1, a2, a3, ψ1, ν1, a4, a5, a6⟩ := Tm ho1 ho
  obtain ⟨b1, b2, ψ2, ν2, b4, b5, b6⟩ := LI ho2 hr
  refine ⟨by omega, ?_, fun id => if id < m1 then ψ1 id else ψ2 id, fun id => if id < m1 then ν1 id else ν2 id, ?_, ?_, ?_⟩
  ·intro p hp
   rcases jl.1 hp with hp | hp
   ·have := a2 p hp; omega
   ·have := b2 p hp; omega
  ·rw [List.map_append, Nc, hF, ← a4, ← b4]
   congr 1
   ·exact Qg fun id hid => by
     obtain ⟨p, hp, rfl⟩ := qq.1 hid
     rw [if_pos (a2 p hp).2]
   ·exact Qg fun id hid => by
     obtain ⟨p, hp, rfl⟩ := qq.1 hid
     rw [if_neg (by have := b2 p hp; omega)]
  ·intro p hp
   rcases jl.1 hp with hp | hp
   ·simp only [if_pos (a2 p hp).2]; exact a5 p hp
   ·have : ¬ p.1 < m1 := by have := b2 p hp; omega
    simp only [if_neg this]; exact b5 p hp
  ·intro hp' σ' O' hσ t' d hd
   rw [Sb] at hd
   split at hd
   ·rename_i e
    simp only [jc] at hd
    subst hd
    refine ⟨0, a, by omega, rfl, ?_⟩
    rw [ha]
    refine Mj a3 (a6 w hp' σ' O' fun p hp => ?_)
    have h1 := hσ p (List.mem_append_left _ hp)
    simp only [if_pos (a2 p hp).2] at h1
    exact h1
   ·obtain ⟨j, v, h1, h2, h3⟩ := b6 hp' σ' O' (fun p hp => by
     have h1 := hσ p (List.mem_append_right _ hp)
     have h2 : ¬ p.1 < m1 := by have := b2 p hp; omega
     simp only [if_neg h2] at h1
     exact h1) t' d hd
    exact ⟨j + 1, v, by omega, by simpa using h2, h3⟩
 | .u, _, _ :: _, _, _, _, _, _, _, _, h => by simp [Rd] at h
 | .p _ _, _, [], _, _, _, _, _, _, _, h => by simp [Rd] at h
 | .i _, _, l, _, _, _, _, _, _, _, h => by simp [Rd] at h
 | .b, _, l, _, _, _, _, _, _, _, h => by simp [Rd] at h
 | .o, _, l, _, _, _, _, _, _, _, h => by simp [Rd] at h
 | .s, _, l, _, _, _, _, _, _, _, h => by simp [Rd] at h
 | .sl _, _, l, _, _, _, _, _, _, _, h => by simp [Rd] at h
section
variable {P : Program} {G : Jd} {L : List (Nat × Eb)} {I : Jg}
theorem US (hG : Vg P I G) (hfz : G.fz = false) (hm : P.follows .mixedOrders = true) {f : FuncId} {fn : Func} {c : Code} (hf : P.funcs[f]? = some fn) (hb : fn.body = some c) (hname : (fn.name == "runtime.NumGoroutine") = false)
 (hL : ∀ b, b ∈ Vc c → Tb G L b) {vw cv : Bool} {τ pt rt : Ty} {fr : List Bool} {F : T τ → T pt → Option (T τ × T rt)} (hn : pt.npar + 1 ≤ fn.ntmps) (hF : ∀ x0 x r, F x0 x = some r → IG G L fn vw cv τ pt rt fr x0 x = some r) :
 Bg P I f (.bx vw cv τ pt rt fr F) := by
 refine ⟨⟨fn, hf, hname, by rw [hb]; rfl⟩, ?_⟩
 intro O w x0 x r b cur et F0 F2 args hx hh hsz hcont hargs hnd hO hI hB hFB
 have he := hF x0 x r hx
 unfold IG at he
 rw [hb] at he
 simp only at he
 rcases hop : (bif vw then (D.t τ x0, [], 400000) else Tc τ x0 400000) with ⟨d0, rows, m⟩
 rw [hop] at he
 simp only at he
 rcases hop2 : (bif cv then Xv pt x 1 m else (Dm pt x 1, [], m)) with ⟨tm, rows2, m2⟩
 rw [hop2] at he
 simp only [Ca] at he
 obtain ⟨hm2, he⟩ := he
 have hm2 := Nat.le_of_ble_eq_true hm2
 have hlt : b < w.heap.size := (Array.getElem?_eq_some_iff.1 hh).1
 have k1 : 400000 ≤ m ∧ (∀ p, p ∈ rows → 400000 ≤ p.1 ∧ p.1 < m) ∧ Sa τ d0 ∧ (∀ c, c ∈ F0 → c < w.heap.size) ∧ ∃ (ψ : Nat → List Nat) (ν : Nat → Value), Ba ψ (rows.map (·.1)) = F0 ∧ (∀ p, p ∈ rows → ∃ e xs, p.2 = some (.row e true xs) ∧ Bb w (.sl e) xs [ν p.1] (ψ p.1)) ∧
  ∀ (hp' : Nat → Option Ea) (σ' : Nat → Value), (∀ p, p ∈ rows → σ' p.1 = ν p.1) → Oa w (fun c => O c ∨ c ∈ b :: (F0 ++ F2)) hp' σ' d0 cur.toList := by
  cases vw with
  | true =>
   simp only [cond_true, jh] at hop
   obtain ⟨rfl, rfl, rfl⟩ := hop
   simp only [if_true] at hcont
   obtain ⟨hv, rfl⟩ := hcont
   refine ⟨jo _, by simp, by simp [Sa], by simp, fun _ => [], fun _ => undef, by simp [Ba], by simp, fun hp' σ' _ => Ka.weaken (fun c hc => ?_) hv⟩
   rcases hc with hc | hc
   ·exact .inl hc
   ·rcases jp.1 hc with rfl | hc
    ·exact .inr (.inl rfl)
    ·exact .inr (.inr (by simpa using hc))
  | false =>
   simp only [cond_false] at hop
   simp only [jq, if_false] at hcont
   obtain ⟨a1, a2, a3, ψ1, ν1, a4, a5, a6⟩ := Tm hop hcont
   exact ⟨a1, a2, a3, fun c hc => hcont.lt c hc, ψ1, ν1, a4, a5, fun hp' σ' h => a6 w hp' σ' _ h⟩
 obtain ⟨hnm, hids, hsh, hF0lt, ψ1, ν1, hbl1, hrows1, hrep1⟩ := k1
 have k2 : m ≤ m2 ∧ (∀ p, p ∈ rows2 → m ≤ p.1 ∧ p.1 < m2) ∧ args.length = pt.npar ∧ (∀ c, c ∈ F2 → c < w.heap.size) ∧ ∃ (ψ : Nat → List Nat) (ν : Nat → Value), Ba ψ (rows2.map (·.1)) = F2 ∧ (∀ p, p ∈ rows2 → ∃ e xs, p.2 = some (.row e true xs) ∧ Bb w (.sl e) xs [ν p.1] (ψ p.1)) ∧
  ∀ (hp' : Nat → Option Ea) (σ' : Nat → Value), (∀ p, p ∈ rows2 → σ' p.1 = ν p.1) → ∀ t' d, Ua tm t' = some d → ∃ j v, t' = 1 + j ∧ args[j]? = some v ∧ Ac w (fun c => O c ∨ c ∈ b :: (F0 ++ F2)) hp' σ' d v := by
  cases cv with
  | true =>
   simp only [cond_true] at hop2
   simp only [if_true] at hargs
   obtain ⟨a1, a2, ψ2, ν2, a4, a5, a6⟩ := LI hop2 hargs
   exact ⟨a1, a2, WE hargs, hargs.lt, ψ2, ν2, a4, a5, fun hp' σ' h => a6 hp' σ' _ h⟩
  | false =>
   simp only [cond_false, jh] at hop2
   obtain ⟨rfl, rfl, rfl⟩ := hop2
   simp only [jq, if_false] at hargs
   obtain ⟨hv, rfl⟩ := hargs
   refine ⟨jo _, by simp, Zt hv, by simp, fun _ => [], fun _ => undef, by simp [Ba], by simp, fun hp' σ' _ t' d hd => ?_⟩
   have : (fun c => O c ∨ c ∈ b :: (F0 ++ [])) = (fun c => O c ∨ c = b ∨ c ∈ F0) := by
    funext c; simp
   rw [this]
   exact Wv hv hd
 obtain ⟨hmm, hids2, hlen, hF2lt, ψ2, ν2, hbl2, hrows2, hrep2⟩ := k2
 refine calls_of_wp hf hb ?_
 let ψ : Nat → List Nat := fun id => if id = 500000 then [b] else if id < m then ψ1 id else ψ2 id
 let ν : Nat → Value := fun id => if id = 500000 then .pointer (some ⟨b, 0, none⟩) else if id < m then ν1 id else ν2 id
 have hψ0 : ψ 500000 = [b] := if_pos rfl
 have hν0 : ν 500000 = .pointer (some ⟨b, 0, none⟩) := if_pos rfl
 have hψ1 : ∀ p, p ∈ rows → ψ p.1 = ψ1 p.1 ∧ ν p.1 = ν1 p.1 := fun p hp => by
  have h1 := hids p hp
  have h2 : ¬ p.1 = 500000 := by omega
  simp only [ψ, ν, if_neg h2, if_pos h1.2, and_self]
 have hψ2 : ∀ p, p ∈ rows2 → ψ p.1 = ψ2 p.1 ∧ ν p.1 = ν2 p.1 := fun p hp => by
  have h1 := hids2 p hp
  have h2 : ¬ p.1 = 500000 := by omega
  have h3 : ¬ p.1 < m := by omega
  simp only [ψ, ν, if_neg h2, if_neg h3, and_self]
 let s0 : AS := ⟨fn.ntmps, (0, .ptr 500000 []) :: tm, (500000, some (.box τ d0)) :: (rows ++ rows2)⟩
 have hbx : s0.heap 500000 = some (.box τ d0) := by simp [s0, AS.heap, Sb]
 have hmem : ∀ id Da, s0.heap id = some Da → (id = 500000 ∧ Da = .box τ d0) ∨ (id ≠ 500000 ∧ id ∈ (rows ++ rows2).map (·.1) ∧ ∃ e xs, Da = .row e true xs ∧ Bb w (.sl e) xs [ν id] (ψ id)) := by
  intro id Da hb
  by_cases hid : id = 500000
  ·subst hid
   rw [hbx] at hb
   simp only [jc] at hb
   exact .inl ⟨rfl, hb.symm⟩
  ·have hm := AS.heap_mem hb
   simp only [s0, jp, jh, hid, false_and, false_or] at hm
   refine .inr ⟨hid, List.mem_map_of_mem (f := (·.1)) hm, ?_⟩
   rcases jl.1 hm with hm | hm
   ·obtain ⟨e, xs, h1, h2⟩ := hrows1 _ hm
    simp only [jc] at h1
    exact ⟨e, xs, h1, by rw [(hψ1 _ hm).1, (hψ1 _ hm).2]; exact h2⟩
   ·obtain ⟨e, xs, h1, h2⟩ := hrows2 _ hm
    simp only [jc] at h1
    exact ⟨e, xs, h1, by rw [(hψ2 _ hm).1, (hψ2 _ hm).2]; exact h2⟩
 have hblr : Ba ψ ((rows ++ rows2).map (·.1)) = F0 ++ F2 := by
  rw [List.map_append, Nc, ← hbl1, ← hbl2]
  congr 1
  ·exact Qg fun id hid => by
    obtain ⟨p, hp, rfl⟩ := qq.1 hid
    exact (hψ1 p hp).1
  ·exact Qg fun id hid => by
    obtain ⟨p, hp, rfl⟩ := qq.1 hid
    exact (hψ2 p hp).1
 have hbl : Ba ψ (500000 :: (rows ++ rows2).map (·.1)) = b :: (F0 ++ F2) := by
  have : Ba ψ (500000 :: (rows ++ rows2).map (·.1)) = ψ 500000 ++ Ba ψ ((rows ++ rows2).map (·.1)) := by simp only [Ba, List.map_cons, List.flatten_cons]
  rw [this, hψ0, hblr]; rfl
 have hndB : (Ba ψ (500000 :: (rows ++ rows2).map (·.1))).Nodup := by rw [hbl]; exact hnd
 have hidin : ∀ id Da, s0.heap id = some Da → id ∈ 500000 :: (rows ++ rows2).map (·.1) := by
  intro id Da hb
  rcases hmem id Da hb with ⟨rfl, _⟩ | ⟨_, h, _⟩
  ·exact qt
  ·exact jr _ h
 let A : Fx := ⟨(· ∈ b :: (F0 ++ F2)), fun id => if id = 500000 then some (.pointer (some ⟨b, 0, none⟩)) else none, fun id v h => by
  split at h
  ·omega
  ·simp at h, I, hFB⟩
 have hOO : OO (fun c => O c ∨ c ∈ b :: (F0 ++ F2)) s0 ψ = (fun c => O c ∨ c ∈ b :: (F0 ++ F2)) := by
  funext c
  refine propext ⟨fun h => ?_, .inl⟩
  rcases h with h | ⟨id, Da, hb, hm⟩
  ·exact h
  ·refine .inr ?_
   rw [← hbl]
   exact Va.2 ⟨id, hidin id Da hb, hm⟩
 have hc : Na w.heap.size A (fun c => O c ∨ c ∈ b :: (F0 ++ F2)) w s0 ν ψ { tmps := (.pointer (some ⟨b, 0, none⟩) :: args).toArray ++ Array.replicate (fn.ntmps - (Value.pointer (some ⟨b, 0, none⟩) :: args).toArray.size) undef, defers := [] } w := by
  refine ⟨?_, rfl, ?_, ?_, ?_, ?_, ?_, ?_, ⟨rfl, rfl, rfl, jo _, fun _ _ _ => rfl⟩, ?_, hB, hI⟩
  ·simp [s0]; omega
  ·intro t d hd
   rw [hOO]
   simp only [s0] at hd
   rw [Sb] at hd
   split at hd
   ·rename_i e
    subst e
    simp only [jc] at hd
    subst hd
    refine ⟨.pointer (some ⟨b, 0, none⟩), by rw [Array.getElem?_append_left (by simp)]; simp, ?_⟩
    rw [Lj]
    exact ⟨rfl, fun ρ d _ => ⟨b, hν0, by simp [Ta]⟩⟩
   ·obtain ⟨j, v, h1, h2, h3⟩ := hrep2 s0.heap ν (fun p hp => (hψ2 p hp).2) t d hd
    refine ⟨v, ?_, h3⟩
    have hj : j < args.length := (List.getElem?_eq_some_iff.1 h2).1
    have : t = j + 1 := by omega
    subst this
    rw [Array.getElem?_append_left (by simpa using hj)]
    simpa using h2
  ·intro id Da hb
   rw [hOO]
   rcases hmem id Da hb with ⟨rfl, rfl⟩ | ⟨_, _, e, xs, rfl, h2⟩
   ·exact ⟨hsh, b, cur, et, hν0, hh, hψ0, hrep1 _ _ fun p hp => (hψ1 p hp).2, hsz⟩
   ·exact h2
  ·intro id Da hb
   have hi := hidin id Da hb
   have : (ψ id).Sublist (Ba ψ (500000 :: (rows ++ rows2).map (·.1))) := by
    unfold Ba
    exact List.sublist_flatten_of_mem (List.mem_map_of_mem hi)
   exact this.nodup hndB
  ·intro id id' Da blk' hne hb hb' c hm
   exact Rw hndB (hidin id Da hb) (hidin id' blk' hb') hne hm
  ·intro id Da hb c hm
   refine .inr ?_
   show c ∈ b :: (F0 ++ F2)
   rw [← hbl]
   exact Va.2 ⟨id, hidin id Da hb, hm⟩
  ·rintro c (hc | hc)
   ·exact hO c hc
   ·rcases jp.1 hc with rfl | hc
    ·exact hlt
    ·rcases jl.1 hc with hc | hc
     ·exact hF0lt c hc
     ·exact hF2lt c hc
  ·intro id v hv
   simp only [A] at hv
   split at hv
   ·rename_i e
    subst e
    simp only [jc] at hv
    exact hν0.trans hv
   ·simp at hv
 refine EH (A := A) hG (fun h => by rw [hfz] at h; simp at h) hm c hL he hc ?_
 intro e s σ φ a w' hk h
 have Mf : (match s.heap 500000, Bo G s fn.results.toList with
  | some (.box τ' d1), some d => match Ty.dec τ' τ, (bif vw then (match Zf d1 τ with
   | some y => some (y, [])
   | none => none) else Ib s d1 τ), Re s rt fr d with
   | some _, some (x', l0), some (r, l) => bif Fe (500000 :: (l0 ++ l)) then some (x', r) else none
   | _, _, _ => none
  | _, _ => none) = some r → a.defers = [] ∧ ∃ v, (results fn a.tmps).run P w' = .ok v w' ∧ Bn (fun v w' => ∃ vs cur' et' F1 Fr, v = Zs vs ∧ Vp w w' (· ∈ b :: (F0 ++ F2)) ∧ w'.heap[b]? = some (.cells cur' et' (0, 0)) ∧ cur'.size = τ.size ∧
  (if vw then Ka w' (fun c => O c ∨ c ∈ b :: (F0 ++ F2) ∨ c ∈ Fr) τ r.1 cur'.toList ∧ F1 = [] else Bb w' τ r.1 cur'.toList F1) ∧
  Xb w' (fun c => O c ∨ c ∈ b :: (F0 ++ F2) ∨ c ∈ F1 ∨ c ∈ Fr) rt r.2 fr vs Fr ∧ (b :: (F1 ++ Fr)).Nodup ∧ ∀ c ∈ F1 ++ Fr, w.heap.size ≤ c ∨ c ∈ F0 ++ F2) (.returned v) w' := by
  intro hk
  split at hk
  ·rename_i τ' d1 d hbx' hd
   split at hk
   ·rename_i q x' l0 r' l hq hx' hr
    obtain rfl := Bd hq
    simp only [Ca] at hk
    obtain ⟨hnd', hk⟩ := hk
    simp only [jc] at hk
    subst hk
    have hnd' := Xf hnd'
    obtain ⟨hsh', b', cur', et', hσ', hh', hF', hr0, hsz'⟩ := h.hp 500000 _ hbx'
    have hpin : σ 500000 = .pointer (some ⟨b, 0, none⟩) := h.pin 500000 _ (show (if (500000 : Nat) = 500000 then some (Value.pointer (some ⟨b, 0, none⟩)) else none) = _ from if_pos rfl)
    rw [hpin] at hσ'
    simp only [Value.pointer.injEq, jc, Addr.mk.injEq, and_true] at hσ'
    subst hσ'
    have hkl : (∀ j, j ∈ l0 → ∃ Da, s.heap j = some Da) ∧ (if vw then Ka w' (OO (fun c => O c ∨ c ∈ b :: (F0 ++ F2)) s φ) τ' x' cur'.toList ∧ l0 = [] else Bb w' τ' x' cur'.toList (Ba φ l0)) := by
     cases vw with
     | true =>
      simp only [cond_true] at hx'
      split at hx'
      ·rename_i y hy
       simp only [jc, jh] at hx'
       obtain ⟨rfl, rfl⟩ := hx'
       exact ⟨by simp, by simp only [if_true]; exact ⟨(Se hy).2 _ hr0, trivial⟩⟩
      ·simp at hx'
     | false =>
      simp only [cond_false] at hx'
      obtain ⟨g1, g2⟩ := Pi h hx' hr0
      exact ⟨g2, by simpa using g1⟩
    obtain ⟨hlive0, hx1⟩ := hkl
    obtain ⟨vs, hvs, hru⟩ := Dt hG.toEnvTy h hd
    obtain ⟨hR, hlive⟩ := QD h hr hru
    have hall : ∀ j, j ∈ 500000 :: (l0 ++ l) → ∃ Da, s.heap j = some Da := by
     intro j hj
     rcases jp.1 hj with rfl | hj
     ·exact ⟨_, hbx'⟩
     ·rcases jl.1 hj with hj | hj
      ·exact hlive0 j hj
      ·exact hlive j hj
    have hbk : Ba φ (500000 :: (l0 ++ l)) = b :: (Ba φ l0 ++ Ba φ l) := by
     have : Ba φ (500000 :: (l0 ++ l)) = φ 500000 ++ Ba φ (l0 ++ l) := by simp only [Ba, List.map_cons, List.flatten_cons]
     rw [this, hF', Nc]; rfl
    have hbn := Le h hnd' hall
    rw [hbk] at hbn
    have hinOO : ∀ c, c ∈ Ba φ l0 ++ Ba φ l → OO (fun c => O c ∨ c ∈ b :: (F0 ++ F2)) s φ c := by
     intro c hc
     rw [← Nc] at hc
     obtain ⟨j, hj, hm'⟩ := Va.1 hc
     obtain ⟨Da, hbj⟩ := hall j (jr _ hj)
     exact .inr ⟨j, Da, hbj, hm'⟩
    refine ⟨h.df, _, Hu hvs, vs, cur', et', Ba φ l0, Ba φ l, rfl, ⟨h.fr.size, fun c hc hno => h.fr.block c hc hno, h.fr.os, h.fr.tape, h.fr.output⟩, hh', hsz', ?_, hR.mono ?_, hbn, ?_⟩
    ·cases vw with
     | true =>
      simp only [if_true] at hx1 ⊢
      refine ⟨hx1.1.weaken ?_, by rw [hx1.2]; simp [Ba]⟩
      rintro c (hc | hc | hc)
      ·exact .inl (.inl hc)
      ·exact .inl (.inr hc)
      ·exact hinOO c (List.mem_append_right _ hc)
     | false => simpa using hx1
    ·rintro c (hc | hc | hc | hc)
     ·exact .inl (.inl hc)
     ·exact .inl (.inr hc)
     ·exact hinOO c (List.mem_append_left _ hc)
     ·exact hinOO c (List.mem_append_right _ hc)
    ·intro c hcm
     have hcb : c ≠ b := by
      rintro rfl
      exact (List.nodup_cons.1 hbn).1 hcm
     rw [← Nc] at hcm
     obtain ⟨j, hj, hm'⟩ := Va.1 hcm
     obtain ⟨Da, hbj⟩ := hall j (jr _ hj)
     rcases h.fresh j Da hbj c hm' with h1 | h1
     ·exact .inl h1
     ·have h1 : c ∈ b :: (F0 ++ F2) := h1
      rcases jp.1 h1 with h1 | h1
      ·exact absurd h1 hcb
      ·exact .inr h1
   ·simp at hk
  ·simp at hk
 cases e with
 | normal => exact Mf hk
 | ret => exact Mf hk
 | exit j => simp at hk
def JG (G : Jd) (L : List (Nat × Eb)) (fn : Func) (pt τ : Ty) (x : T pt) : Option (T τ) :=
 match fn.body with
 | some c => Xl G L c ⟨fn.ntmps, Dm pt x 0, []⟩ fun e s => match e with
  | .exit _ => none
  | _ => match Bo G s fn.results.toList with
   | some (.pr (.ptr id []) .un) => match s.heap id with
    | some (.box τ' d) => match Ty.dec τ' τ, Zf d τ with
     | some _, some y => some y
     | _, _ => none
    | _ => none
   | _ => none
 | none => none
theorem VS (hG : Vg P I G) (hm : P.follows .mixedOrders = true) {f : FuncId} {fn : Func} {c : Code} (hf : P.funcs[f]? = some fn) (hb : fn.body = some c) (hname : (fn.name == "runtime.NumGoroutine") = false)
 (hL : ∀ b, b ∈ Vc c → Tb G L b) {pt τ : Ty} {F : T pt → Option (T τ)} (hn : pt.npar ≤ fn.ntmps) (hF : ∀ x r, F x = some r → JG G L fn pt τ x = some r) : Bg P I f (.nw pt τ F) := by
 refine ⟨⟨fn, hf, hname, by rw [hb]; rfl⟩, ?_⟩
 intro O w x r args hx hargs hO hI hB
 have he := hF x r hx
 unfold JG at he
 rw [hb] at he
 simp only at he
 refine calls_of_wp hf hb ?_
 have hlen := Zt hargs
 have hc : Na w.heap.size (KD I) O w ⟨fn.ntmps, Dm pt x 0, []⟩ (fun _ => undef) (fun _ => []) { tmps := args.toArray ++ Array.replicate (fn.ntmps - args.toArray.size) undef, defers := [] } w := by
  have hh : ∀ id, AS.heap ⟨fn.ntmps, Dm pt x 0, []⟩ id = none := fun id => rfl
  refine ⟨?_, rfl, ?_, ?_, ?_, ?_, ?_, hO, ⟨rfl, rfl, rfl, jo _, fun _ _ _ => rfl⟩, ?_, hB, hI⟩
  ·simp; omega
  ·intro t d hd
   have hOO : OO O ⟨fn.ntmps, Dm pt x 0, []⟩ (fun _ => []) = O := by
    funext b
    simp [OO, hh]
   rw [hOO]
   obtain ⟨j, v, h1, h2, h3⟩ := Wv hargs hd
   refine ⟨v, ?_, h3⟩
   have hj : j < args.length := (List.getElem?_eq_some_iff.1 h2).1
   have : t = j := by omega
   subst this
   rw [Array.getElem?_append_left (by simpa using hj)]
   simpa using h2
  ·intro id Da hb; rw [hh] at hb; simp at hb
  ·intro id Da hb; rw [hh] at hb; simp at hb
  ·intro id id' Da blk' _ hb; rw [hh] at hb; simp at hb
  ·intro id Da hb; rw [hh] at hb; simp at hb
  ·intro id v hv; simp [KD] at hv
 refine EH (A := KD I) hG (fun _ _ h => h) hm c hL he hc ?_
 intro e s σ φ a w' hk h
 have Mf : (match Bo G s fn.results.toList with
  | some (.pr (.ptr id []) .un) => match s.heap id with
   | some (.box τ' d) => match Ty.dec τ' τ, Zf d τ with
    | some _, some y => some y
    | _, _ => none
   | _ => none
  | _ => none) = some r → a.defers = [] ∧ ∃ v, (results fn a.tmps).run P w' = .ok v w' ∧ Bn (fun v w' => ∃ b cur et, v = .pointer (some ⟨b, 0, none⟩) ∧ Vp w w' (fun _ => False) ∧ w.heap.size ≤ b ∧ w'.heap[b]? = some (.cells cur et (0, 0)) ∧ cur.size = τ.size ∧ Ka w' (fun c => O c ∨ c = b) τ r cur.toList) (.returned v) w' := by
  intro hk
  split at hk
  ·rename_i id hd
   split at hk
   ·rename_i τ' d hbx
    split at hk
    ·rename_i q y hq hy
     obtain rfl := Bd hq
     simp only [jc] at hk
     subst hk
     obtain ⟨vs, hvs, hru⟩ := Dt hG.toEnvTy h hd
     cases vs with
     | nil => simp [RU] at hru
     | cons v vs =>
      obtain ⟨h1, h2⟩ := hru
      cases vs with
      | cons _ _ => simp [RU] at h2
      | nil =>
       obtain ⟨_, b, cur, et, hσ, hh, hφ, hr0, hsz⟩ := h.hp id _ hbx
       rw [Lj] at h1
       obtain ⟨b', hσ', hv⟩ := h1.2 _ _ hbx
       rw [hσ] at hσ'
       simp only [Value.pointer.injEq, jc, Addr.mk.injEq, and_true] at hσ'
       subst hσ'
       have hmem : b ∈ φ id := by rw [hφ]; simp
       refine ⟨h.df, _, Hu hvs, b, cur, et, by simp only [Zs, hv, Ta], ⟨h.fr.size, fun b hb _ => h.fr.block b hb (fun h => h), h.fr.os, h.fr.tape, h.fr.output⟩, (h.fresh id _ hbx b hmem).resolve_right (fun h => h), hh, hsz, ?_⟩
       refine Ka.weaken ?_ ((Se hy).2 _ hr0)
       rintro c (hc | rfl)
       ·exact .inl hc
       ·exact .inr ⟨id, _, hbx, hmem⟩
    ·simp at hk
   ·simp at hk
  ·simp at hk
 cases e with
 | normal => exact Mf hk
 | ret => exact Mf hk
 | exit j => simp at hk
end
open Go Go.WideShapes
def IB : (τ : Ty) → T τ → Prop
 | .i k, n => k.has n
 | .b, _ => True
 | .o, _ => True
 | .s, x => ja x ≤ Tg
 | .sl e, xs => ja xs ≤ Tg ∧ ∀ i (h : i < ja xs), IB e (List.get xs ⟨i, h⟩)
 | .u, _ => True
 | .p x y, v => IB x v.1 ∧ IB y v.2
def Ty.pos : Ty → Bool
 | .sl e => e.pos && Nat.blt 0 e.size
 | .p x y => x.pos && y.pos
 | .o => false
 | _ => true
section
variable {H : Type} {enc : TypeId × Value → H} {P : Program} {w : World} {base : Nat} {spare : Nat → Bool} {held : Bool}
theorem Ej {τ : Ty} {t : TypeId} (h : Rc P τ t = true) : P.cellsOf t = τ.size := by
 obtain ⟨i, h1, h2, _⟩ := Tok.size h
 simp [Program.cellsOf, h1, h2]
theorem TU {k : IntKind} {n : Int} (h : (Lit.int k n).wf = true) : k.has n := by
 simpa [Lit.wf, IntKind.has] using h
theorem LX {a : Addr} {n : Nat} (h : n ≠ 0) : a.add n = ⟨a.block, a.off + n, none⟩ := by
 simp [Addr.add, h]
theorem Vw {a : Addr} {n : Nat} {cs : List Value} (h : w.cells? base a n = some cs) (hn : 0 < n) :
 ∃ cur et fr, a = ⟨a.block, a.off, none⟩ ∧ w.heap[a.block]? = some (.cells cur et fr) ∧ a.off + n ≤ cur.size ∧ cs = Cc cur a.off n := by
 unfold World.cells? at h
 split at h
 ·have hlen : cs.length = n := by simpa using mapM_some_length h
  have hget : ∀ i, i < n → w.cell? (a.add i) = cs[i]? := fun i hi => mapM_some_get h i i (by simp [hi])
  have h0 := hget 0 hn
  have ha : a.add 0 = a := by simp [Addr.add]
  rw [ha] at h0
  have hc0 : cs[0]? = some (cs[0]'(by omega)) := je (by omega)
  rw [hc0] at h0
  unfold World.cell? at h0
  split at h0
  ·rename_i cur et fr hb
   have hsp : a.spot = none := by
    cases hs : a.spot with
    | none => rfl
    | some x => simp [hs] at h0
   have hcell : ∀ i, i < n → cur[a.off + i]? = cs[i]? := by
    intro i hi
    have := hget i hi
    by_cases hi0 : i = 0
    ·subst hi0
     rw [ha] at this
     unfold World.cell? at this
     rw [hb] at this
     simpa [hsp] using this
    ·rw [LX hi0] at this
     unfold World.cell? at this
     simp only at this
     rw [hb] at this
     simpa using this
   refine ⟨cur, et, fr, by cases a; simp_all, hb, ?_, ?_⟩
   ·have h1 := hcell (n - 1) (by omega)
    rw [je (by omega)] at h1
    have := (Array.getElem?_eq_some_iff.1 h1).1
    omega
   ·apply List.ext_getElem?
    intro i
    by_cases hi : i < n
    ·rw [Zc _ _ _ _ hi, hcell i hi]
    ·rw [List.getElem?_eq_none (by omega), List.getElem?_eq_none]
     simp [Cc]; omega
  ·simp at h0
 ·simp at h
theorem LU {fs : List Field} {o : Nat} (h : Sd P .u fs o = true) : fs = [] := by
 cases fs <;> simp_all [Sd]
theorem JH {x y : Ty} {fs : List Field} {o : Nat} (h : Sd P (.p x y) fs o = true) : ∃ f r, fs = f :: r ∧ f.offset = o ∧ Rc P x f.type = true ∧ Sd P y r (o + x.size) = true := by
 cases fs with
 | nil => simp [Sd] at h
 | cons f r =>
  simp only [Sd, jd] at h
  exact ⟨f, r, rfl, ju h.1.1.1, h.1.2, h.2⟩
theorem LG {x y : Ty} {t : TypeId} (h : Rc P (.p x y) t = true) : ∃ fs, P.underlying t = some (.struct fs) ∧ Sd P (.p x y) fs.toList 0 = true := by
 simp only [Rc, jd] at h
 obtain ⟨_, h⟩ := h
 split at h
 ·rename_i fs hfs
  refine ⟨fs, hfs, ?_⟩
  split at h
  ·rename_i f r hr
   rw [hr]
   simpa [Sd] using h
  ·simp at h
 ·simp at h
theorem MG {t : TypeId} (h : Rc P .u t = true) : ∃ fs, P.underlying t = some (.struct fs) ∧ fs.size = 0 := by
 simp only [Rc, jd] at h
 obtain ⟨_, h⟩ := h
 split at h
 ·rename_i fs hfs
  exact ⟨fs, hfs, ju h⟩
 ·simp at h
mutual
theorem Zx (hO : ∀ b, ¬ (fun _ : Nat => False) b) : ∀ (τ : Ty) (t : TypeId) (n : Nat) (cs : List Value) (x : DataW H × List MemPlace), Rc P τ t = true → τ.pos = true →
 DataW.trod enc P w base spare held n t cs = some x → ∃ y : T τ, Ka w (fun _ => False) τ y cs ∧ IB τ y
 | .i k, t, n, cs, x, ht, _, h => by
  obtain ⟨m, h1, _, h2⟩ := DataW.trod_int (Tok.i ht) h
  exact ⟨m, h1, TU h2⟩
 | .b, t, n, cs, x, ht, _, h => by
  obtain ⟨m, h1, _⟩ := DataW.trod_bool (Tok.b ht) h
  exact ⟨m, h1, trivial⟩
 | .o, t, n, cs, x, ht, hp, h => by simp [Ty.pos] at hp
 | .s, t, n, cs, x, ht, _, h => by
  obtain ⟨m, h1, _, h2⟩ := DataW.trod_string (Tok.s ht) h
  refine ⟨m.data.toList, ?_, ?_⟩
  ·show cs = [.string ⟨List.toArray m.data.toList⟩]
   rw [h1]
  ·show m.data.toList.length ≤ Tg
   have : m.size = m.data.toList.length := Array.length_toList.symm
   unfold maxLen at h2
   unfold Tg
   omega
 | .sl e, t, n, cs, x, ht, hp, h => by
  obtain ⟨et, hu, he⟩ := Tok.sl ht
  simp only [Ty.pos, jd] at hp
  have hpos : 0 < e.size := by simpa using hp.2
  rcases DataW.trod_slice hu h with ⟨h1, _⟩ | ⟨a, len, cap, elems, rest, m, _, h1, _, _, h2, h3, h4, h5, _, _⟩
  ·exact ⟨([] : List (T e)), ⟨none, 0, h1, jo _, Nat.zero_le _, .inl rfl⟩, ⟨Nat.zero_le _, fun i hi => absurd hi (Nat.not_lt_zero i)⟩⟩
  ·rw [Ej he] at h5
   have hone : ∀ i, i < len → ∃ y : T e, ∃ cs', w.cells? base (a.add (i * e.size)) e.size = some cs' ∧ Ka w (fun _ => False) e y cs' ∧ IB e y := by
    intro i hi
    have := h5 i hi
    rw [je (by omega), qe] at this
    obtain ⟨cs', hc, hy⟩ := this
    obtain ⟨y, hv, hr⟩ := Zx hO e et m cs' _ he hp.1 hy
    exact ⟨y, cs', hc, hv, hr⟩
   let ys : List (T e) := List.ofFn fun i : Fin len => Classical.choose (hone i.1 i.2)
   have hlen : ys.length = len := by simp [ys]
   have hy : ∀ i (h : i < ys.length), ∃ cs', w.cells? base (a.add (i * e.size)) e.size = some cs' ∧ Ka w (fun _ => False) e (ys.get ⟨i, h⟩) cs' ∧ IB e (ys.get ⟨i, h⟩) := by
    intro i hi
    have := Classical.choose_spec (hone i (by omega))
    simpa [ys] using this
   have hmax : len ≤ Tg := by unfold maxLen at h3; unfold Tg; omega
   refine ⟨ys, ⟨some a, cap, by rw [h1, hlen], by rw [hlen]; exact h2, by rw [hlen]; exact hmax, ?_⟩, by rw [hlen]; exact hmax, fun i hi => (hy i hi).choose_spec.2.2⟩
   by_cases hl0 : len = 0
   ·left
    exact List.eq_nil_of_length_eq_zero (by omega)
   ·right
    obtain ⟨cs0, hc0, _⟩ := hy 0 (by omega)
    have ha0 : a.add (0 * e.size) = a := by simp [Addr.add]
    rw [ha0] at hc0
    obtain ⟨cur, et', fr, ha, hb, _, _⟩ := Vw hc0 hpos
    have hadd : ∀ i, (a.add (i * e.size)).block = a.block ∧ (a.add (i * e.size)).off = a.off + i * e.size := by
     intro i
     unfold Addr.add
     split
     ·rename_i hz; simp [hz]
     ·exact ⟨rfl, rfl⟩
    refine ⟨a.block, a.off, cur, et', fr, by rw [← ha], fun h => h, hb, ?_, ?_⟩
    ·obtain ⟨cs1, hc1, _⟩ := hy (len - 1) (by omega)
     obtain ⟨cur1, et1, fr1, _, hb1, hs1, _⟩ := Vw hc1 hpos
     rw [(hadd _).1, hb] at hb1
     simp only [jc, Obj.cells.injEq] at hb1
     rw [(hadd _).2, ← hb1.1] at hs1
     have : len * e.size = (len - 1) * e.size + e.size := by
      rw [← Nat.succ_mul]; congr 1; omega
     show a.off + ys.length * e.size ≤ cur.size
     rw [hlen]
     omega
    ·intro i hi
     obtain ⟨cs1, hc1, hv, _⟩ := hy i hi
     obtain ⟨cur1, et1, fr1, _, hb1, _, hs1⟩ := Vw hc1 hpos
     rw [(hadd _).1, hb] at hb1
     simp only [jc, Obj.cells.injEq] at hb1
     rw [(hadd _).2, ← hb1.1] at hs1
     rw [← hs1]
     exact hv
 | .u, t, n, cs, x, ht, _, h => by
  obtain ⟨fs, hu, hz⟩ := MG ht
  obtain ⟨xs, m, _, _, hl, _⟩ := DataW.trod_struct hu h
  rw [Ej ht] at hl
  exact ⟨(), List.eq_nil_of_length_eq_zero hl, trivial⟩
 | .p a c2, t, n, cs, x, ht, hp, h => by
  obtain ⟨fs, hu, hf⟩ := LG ht
  obtain ⟨xs, m, _, _, hl, _, hget⟩ := DataW.trod_struct hu h
  rw [Ej ht] at hl
  have := Gz hO (.p a c2) fs.toList 0 m cs hf hp (by simpa using hl) (by
   intro i f hi
   have := hget i f (by simpa using hi)
   have hlt : i < xs.length := by
    have : i < fs.toList.length := (List.getElem?_eq_some_iff.1 hi).1
    simp at this; omega
   exact ⟨_, this.trans (je hlt)⟩)
  simpa using this
termination_by τ => (sizeOf τ, 1)
theorem Gz (hO : ∀ b, ¬ (fun _ : Nat => False) b) : ∀ (τ : Ty) (fs : List Field) (o m : Nat) (cs : List Value), Sd P τ fs o = true → τ.pos = true → cs.length = o + τ.size →
 (∀ (i : Nat) (f : Field), fs[i]? = some f → ∃ x, DataW.trod enc P w base spare held m f.type ((cs.drop f.offset).take (P.cellsOf f.type)) = some x) →
 ∃ y : T τ, Ka w (fun _ => False) τ y (cs.drop o) ∧ IB τ y
 | .p a c2, fs, o, m, cs, hf, hp, hl, hx => by
  obtain ⟨f, r, rfl, ho, ht, hr⟩ := JH hf
  simp only [Ty.pos, jd] at hp
  simp only [Ty.size] at hl
  obtain ⟨z, hz⟩ := hx 0 f rfl
  rw [Ej ht, ho] at hz
  obtain ⟨y1, hv1, hr1⟩ := Zx hO a f.type m _ z ht hp.1 hz
  obtain ⟨y2, hv2, hr2⟩ := Gz hO c2 r (o + a.size) m cs hr hp.2 (by omega) (fun i f' hi => hx (i + 1) f' (by simpa using hi))
  refine ⟨(y1, y2), ⟨(cs.drop o).take a.size, cs.drop (o + a.size), ?_, hv1, hv2⟩, hr1, hr2⟩
  rw [← List.drop_drop, List.take_append_drop]
 | .u, fs, o, m, cs, _, _, hl, _ => ⟨(), by simp only [Ka, Ty.size] at hl ⊢; exact List.drop_of_length_le (by omega), trivial⟩
 | .i _, fs, o, m, cs, hf, _, _, _ => by simp [Sd] at hf
 | .b, fs, o, m, cs, hf, _, _, _ => by simp [Sd] at hf
 | .o, fs, o, m, cs, hf, _, _, _ => by simp [Sd] at hf
 | .s, fs, o, m, cs, hf, _, _, _ => by simp [Sd] at hf
 | .sl _, fs, o, m, cs, hf, _, _, _ => by simp [Sd] at hf
termination_by τ => (sizeOf τ, 0)
end
end
open Go Go.WideShapes Go.ChangeShapes
def Qh (P : Program) : Ty → List TypeId → Bool
 | .p x y, t :: ts => Rc P x t && x.pos && Qh P y ts
 | .u, [] => true
 | _, _ => false
section
variable {H : Type} {enc : TypeId × Value → H} {P : Program} {w : World} {base : Nat} {spare : Nat → Bool} {held : Bool}
theorem NN {τ : Ty} {t : TypeId} {v : Value} {r : Reach} {b0 : Nat} (ht : Rc P τ t = true) (h : Value.okWide P w r b0 t v) : v = Ic τ v.cells.toList := by
 have key : ∀ {τ : Ty}, τ.isAgg = false → v.cells = #[v] → v = Ic τ v.cells.toList := by
  intro τ h1 h2
  rw [h2]; simp [Ic, h1]
 cases τ with
 | i k =>
  obtain ⟨n, rfl⟩ := okWide_int (Tok.i ht) h
  exact key rfl rfl
 | b =>
  obtain ⟨n, rfl⟩ := okWide_bool (Tok.b ht) h
  exact key rfl rfl
 | o =>
  refine key rfl ?_
  obtain ⟨et, hu⟩ := Tok.o ht
  unfold Value.okWide at h
  rw [hu] at h
  cases v with
  | agg cs => simp [Cell.okWide, Cell.ok, hu] at h
  | _ => rfl
 | s =>
  refine key rfl ?_
  have hu := Tok.s ht
  unfold Value.okWide at h
  rw [hu] at h
  cases v with
  | agg cs => simp [Cell.okWide, Cell.ok, hu] at h
  | _ => rfl
 | sl e =>
  refine key rfl ?_
  obtain ⟨et, hu, _⟩ := Tok.sl ht
  unfold Value.okWide at h
  rw [hu] at h
  cases v with
  | agg cs => simp [Cell.okWide, Cell.ok, hu] at h
  | _ => rfl
 | u =>
  obtain ⟨fs, hu, _⟩ := MG ht
  obtain ⟨cs, rfl, _⟩ := okWide_struct hu h
  simp [Ic, Ty.isAgg, Value.cells]
 | p x y =>
  obtain ⟨fs, hu, _⟩ := LG ht
  obtain ⟨cs, rfl, _⟩ := okWide_struct hu h
  simp [Ic, Ty.isAgg, Value.cells]
theorem Yx : ∀ {pt : Ty} {ts : List TypeId} {vs : List Value} {ds : List (DataW H)} {ps : List MemPlace}, Qh P pt ts = true → DataW.TrodAll enc P w 0 spare held ts vs ds ps →
 (∀ (j : Nat) t v, ts[j]? = some t → vs[j]? = some v → Value.okWide P w .any base t v) → ∃ x : T pt, Ie w (fun _ => False) pt x vs ∧ IB pt x
 | .p x y, t :: ts, v :: vs, d :: ds, ps, hp, h, hv => by
  simp only [Qh, jd] at hp
  obtain ⟨p, q, ⟨n, h1⟩, h2, _⟩ := h
  obtain ⟨a, ha, hra⟩ := Zx (fun _ h => h) x t n _ _ hp.1.1 hp.1.2 h1
  obtain ⟨b, hb, hrb⟩ := Yx hp.2 h2 fun j t' v' h1 h2 => hv (j + 1) t' v' (by simpa using h1) (by simpa using h2)
  exact ⟨(a, b), ⟨⟨_, NN hp.1.1 (hv 0 t v rfl rfl), ha⟩, hb⟩, hra, hrb⟩
 | .u, [], [], [], _, _, _, _ => ⟨(), trivial, trivial⟩
 | .p _ _, [], _, _, _, hp, _, _ => by simp [Qh] at hp
 | .u, _ :: _, _, _, _, hp, _, _ => by simp [Qh] at hp
 | .i _, _, _, _, _, hp, _, _ => by simp [Qh] at hp
 | .b, _, _, _, _, hp, _, _ => by simp [Qh] at hp
 | .o, _, _, _, _, hp, _, _ => by simp [Qh] at hp
 | .s, _, _, _, _, hp, _, _ => by simp [Qh] at hp
 | .sl _, _, _, _, _, hp, _, _ => by simp [Qh] at hp
 | .p _ _, _ :: _, [], _, _, _, h, _ => by simp [DataW.TrodAll] at h
 | .p _ _, _ :: _, _ :: _, [], _, _, h, _ => by simp [DataW.TrodAll] at h
 | .u, [], _ :: _, _, _, _, h, _ => by simp [DataW.TrodAll] at h
 | .u, [], [], _ :: _, _, _, h, _ => by simp [DataW.TrodAll] at h
def Cy (P : Program) (t : TypeId) : Prop := ∃ τ : Ty, Rc P τ t = true ∧ τ.pos = true
theorem KH : ∀ {τ : Ty} {fs : List Field} {o : Nat}, Sd P τ fs o = true → τ.pos = true →
 (∀ f ∈ fs, Cy P f.type) ∧ τ.size = (fs.map fun f => P.cellsOf f.type).sum ∧ ∀ (j : Nat) f, fs[j]? = some f → f.offset = o + ((fs.take j).map fun f => P.cellsOf f.type).sum
 | .u, fs, o, h, _ => by
  rw [LU h]
  simp [Ty.size]
 | .p x y, fs, o, h, hp => by
  obtain ⟨f, r, rfl, ho, ht, hr⟩ := JH h
  simp only [Ty.pos, jd] at hp
  obtain ⟨h1, h2, h3⟩ := KH hr hp.2
  refine ⟨?_, ?_, ?_⟩
  ·intro g hg
   rcases jp.1 hg with rfl | hg
   ·exact ⟨x, ht, hp.1⟩
   ·exact h1 g hg
  ·simp [Ty.size, Ej ht, h2]
  ·intro j g hj
   cases j with
   | zero => simp at hj; subst hj; simp [ho]
   | succ j =>
    have := h3 j g (by simpa using hj)
    simp [this, Ej ht, jt]
 | .i _, fs, o, h, _ => by simp [Sd] at h
 | .b, fs, o, h, _ => by simp [Sd] at h
 | .o, fs, o, h, _ => by simp [Sd] at h
 | .s, fs, o, h, _ => by simp [Sd] at h
 | .sl _, fs, o, h, _ => by simp [Sd] at h
theorem Hr {t : TypeId} {u : TypeDesc} (h : Cy P t) (hu : P.underlying t = some u) : (∃ k, u = .int k) ∨ u = .bool ∨ u = .string ∨ (∃ e, u = .slice e ∧ Cy P e ∧ 0 < P.cellsOf e) ∨ ∃ fs, u = .struct fs := by
 obtain ⟨τ, ht, hp⟩ := h
 cases τ with
 | i k => rw [Tok.i ht] at hu; exact .inl ⟨k, (Option.some.inj hu).symm⟩
 | b => rw [Tok.b ht] at hu; exact .inr (.inl (Option.some.inj hu).symm)
 | o => simp [Ty.pos] at hp
 | s => rw [Tok.s ht] at hu; exact .inr (.inr (.inl (Option.some.inj hu).symm))
 | sl e =>
  obtain ⟨et, h1, h2⟩ := Tok.sl ht
  rw [h1] at hu
  simp only [Ty.pos, jd] at hp
  exact .inr (.inr (.inr (.inl ⟨et, (Option.some.inj hu).symm, ⟨e, h2, hp.1⟩, by rw [Ej h2]; simpa using hp.2⟩)))
 | u => obtain ⟨fs, h1, _⟩ := MG ht; rw [h1] at hu; exact .inr (.inr (.inr (.inr ⟨fs, (Option.some.inj hu).symm⟩)))
 | p x y => obtain ⟨fs, h1, _⟩ := LG ht; rw [h1] at hu; exact .inr (.inr (.inr (.inr ⟨fs, (Option.some.inj hu).symm⟩)))
theorem HM : Kids P (Cy P) := by
 refine ⟨?_, ?_, ?_, ?_, ?_⟩
 ·intro t e ht hu
  rcases Hr ht hu with ⟨k, h⟩ | h | h | ⟨e', h, _⟩ | ⟨fs, h⟩ <;> simp at h
 ·intro t e ht hu
  rcases Hr ht hu with ⟨k, h⟩ | h | h | ⟨e', h, h2, _⟩ | ⟨fs, h⟩ <;> simp at h
  rw [h]; exact h2
 ·intro t e n ht hu
  rcases Hr ht hu with ⟨k, h⟩ | h | h | ⟨e', h, _⟩ | ⟨fs, h⟩ <;> simp at h
 ·intro t fs ht hu
  obtain ⟨τ, ht, hp⟩ := ht
  cases τ with
  | i k => rw [Tok.i ht] at hu; simp at hu
  | b => rw [Tok.b ht] at hu; simp at hu
  | o => simp [Ty.pos] at hp
  | s => rw [Tok.s ht] at hu; simp at hu
  | sl e => obtain ⟨et, h1, _⟩ := Tok.sl ht; rw [h1] at hu; simp at hu
  | u =>
   obtain ⟨fs', h1, h2⟩ := MG ht
   rw [h1] at hu
   simp only [jc, TypeDesc.struct.injEq] at hu
   subst hu
   have : fs'.toList = [] := by simpa using h2
   rw [Ej ht, this]
   simp [Ty.size]
  | p x y =>
   obtain ⟨fs', h1, h2⟩ := LG ht
   rw [h1] at hu
   simp only [jc, TypeDesc.struct.injEq] at hu
   subst hu
   obtain ⟨a, b, c⟩ := KH h2 hp
   exact ⟨a, by rw [Ej ht, b], fun j f hj => by simpa using c j f hj⟩
 ·intro t k e ht hu
  rcases Hr ht hu with ⟨k, h⟩ | h | h | ⟨e', h, _⟩ | ⟨fs, h⟩ <;> simp at h
theorem Nz : ∀ {pt : Ty} {ts : List TypeId}, Qh P pt ts = true → ∀ t ∈ ts, Cy P t
 | .p x y, t :: ts, h, t', ht => by
  simp only [Qh, jd] at h
  rcases jp.1 ht with rfl | ht
  ·exact ⟨x, h.1.1, h.1.2⟩
  ·exact Nz h.2 t' ht
 | .u, [], _, _, ht => by simp at ht
 | .p _ _, [], _, _, ht => by simp at ht
 | .u, _ :: _, h, _, _ => by simp [Qh] at h
 | .i _, _, h, _, _ => by simp [Qh] at h
 | .b, _, h, _, _ => by simp [Qh] at h
 | .o, _, h, _, _ => by simp [Qh] at h
 | .s, _, h, _, _ => by simp [Qh] at h
 | .sl _, _, h, _, _ => by simp [Qh] at h
theorem Mw {w' : World} {sp' : Nat → Bool} : ∀ {ts : List TypeId} {vs : List Value} {ds : List (DataW H)} {ps : List MemPlace}, (∀ t ∈ ts, Cy P t) →
 DataW.TrodAll enc P w 0 (fun _ => true) true ts vs ds ps → (∀ p ∈ ps, w.sameAt w' p) → (∀ p ∈ ps, sp' p.block = true) → DataW.TrodAll enc P w' 0 sp' true ts vs ds ps
 | [], [], [], _, _, h, _, _ => h
 | t :: ts, v :: vs, d :: ds, ps, hp, h, h1, h2 => by
  obtain ⟨p, q, ⟨n, ha⟩, hb, rfl⟩ := h
  refine ⟨p, q, ⟨n, DataW.trod_stays HM ?_ (fun h => by simp at h) (hp t (by simp)) ha (fun z hz => h1 z (List.mem_append_left _ hz)) (fun z hz => h2 z (List.mem_append_left _ hz))⟩,
   Mw (fun t ht => hp t (by simp [ht])) hb (fun z hz => h1 z (List.mem_append_right _ hz)) (fun z hz => h2 z (List.mem_append_right _ hz)), rfl⟩
  intro t e ht hu
  rcases Hr ht hu with ⟨k, h⟩ | h | h | ⟨e', h, _, h2⟩ | ⟨fs, h⟩ <;> simp at h
  rw [h]; exact h2
 | [], _ :: _, _, _, _, h, _, _ => by simp [DataW.TrodAll] at h
 | [], [], _ :: _, _, _, h, _, _ => by simp [DataW.TrodAll] at h
 | _ :: _, [], _, _, _, h, _, _ => by simp [DataW.TrodAll] at h
 | _ :: _, _ :: _, [], _, _, h, _, _ => by simp [DataW.TrodAll] at h
theorem Pz : ∀ {ts : List TypeId} {vs : List Value} {ds : List (DataW H)} {ps : List MemPlace}, DataW.TrodAll enc P w base spare held ts vs ds ps → ds.length = ts.length
 | [], [], [], _, _ => rfl
 | _ :: _, _ :: _, _ :: _, _, h => by
  obtain ⟨_, _, _, h, _⟩ := h
  simp [Pz h]
 | [], _ :: _, _, _, h => by simp [DataW.TrodAll] at h
 | [], [], _ :: _, _, h => by simp [DataW.TrodAll] at h
 | _ :: _, [], _, _, h => by simp [DataW.TrodAll] at h
 | _ :: _, _ :: _, [], _, h => by simp [DataW.TrodAll] at h
theorem Vp.but {w w' : World} (h : Vp w w' fun _ => False) (may : MemPlace → Prop) : w.keptBut w' may := by
 refine ⟨h.os, h.output, fun i hi => ?_⟩
 rw [h.block i hi (fun h => h)]
 cases w.heap[i]? with
 | none => rfl
 | some o =>
  cases o with
  | cells c t fr => exact ⟨rfl, rfl, rfl, fun _ _ => rfl⟩
  | map es clock => exact .inr ⟨rfl, rfl⟩
  | _ => rfl
def DI : Jg := ⟨0, fun _ => True, fun _ _ _ h => h⟩
theorem JM {C : Checked} {os : Os} {f : FuncId} {fn : Func} {s : ChangeSpec} {apart fresh handsOn again : Bool} {pt : Ty} {fl : Bool} {F : T pt → Option (Bool × Unit)} {tb : TypeId}
 (own : ownKnob C.prog.godebug = none) (started : os.Started) (noInit : C.prog.inits.idxOf? f = none) (hfn : C.prog.funcs[f]? = some fn)
 (witness : ∃ (w : World) (tape : Tape) (i : Input), w.os = os ∧ (w.forCall tape i).Shaped C.prog ∧ i.vars = [] ∧ Input.okWide C.prog (w.forCall tape i) .any w.heap.size f i ∧
  s.pre6 enc C.prog fn [] apart (w.forCall tape i).memory i.args ∧ ({} : Assume).holds C.prog (lone (Frame.enter C.prog f i.args .normal) [] (w.forCall tape i)))
 (hvars : s.vars = []) (hs : ∀ ds : List (DataW H), ds.length = fn.params.toList.length → s.fn H ds = { results := [.lit (.bool true)], args := ds })
 (hp : Qh C.prog pt fn.params.toList = true) (hr : fn.resultTypes = #[tb]) (htb : C.prog.underlying tb = some .bool)
 (hsound : Bg C.prog DI f (.pu pt (.p .b .u) [fl] F)) (hF : ∀ x, IB pt x → F x = some (true, ())) :
 ReturnsInHanded {} C os f .any (s.pre6 enc C.prog fn [] apart) (s.post enc C.prog fn apart fresh handsOn again) := by
 refine returnsInHanded_of_change own started noInit hfn witness ?_
 intro W b0 args ds gs before hval hW _ _
 have hW0 := hW
 obtain ⟨p, q, hA, hV, hps, hfz, hnd⟩ := hW
 rw [hvars] at hV
 have hgs : gs = [] ∧ q = [] := by
  cases gs with
  | nil => exact ⟨rfl, hV⟩
  | cons _ _ => exact hV.elim
 obtain ⟨rfl, rfl⟩ := hgs
 simp only [List.append_nil] at hps
 subst hps
 obtain ⟨x, hx, hrx⟩ := Yx (base := b0) hp hA fun j t v h1 h2 => hval j t v (by simpa using h1) (by simpa using h2)
 have hcall := hsound.2 (fun _ => False) W x (true, ()) args.toList (hF x hrx) hx (fun _ h => h.elim) trivial (Nat.zero_le _)
 refine hcall.mono fun e W' hret => ?_
 cases e with
 | returned v =>
  obtain ⟨vs, Fr, hv, hk, hR, _, _⟩ := hret
  have hvt : v = .bool true := by
   cases vs with
   | nil => simp [Xb] at hR
   | cons a r =>
    obtain ⟨cs, F1, F2, ha, _, hown, hrest⟩ := hR
    cases r with
    | cons _ _ => simp [Xb] at hrest
    | nil =>
     have hcs : cs = [.bool true] := by
      cases fl with
      | true => exact hown.1
      | false => exact hown.1
     rw [hv, Zs, ha, hcs]
     rfl
  subst hvt
  refine ⟨_, rfl, ?_⟩
  have hsp := hs ds (Pz hA)
  have hlt : ∀ z ∈ before, z.block < W.heap.size := hW0.lt
  have hsame : ∀ z ∈ before, W.sameAt W' z := by
   intro z hz
   have hb := hk.block z.block (hlt z hz) (fun h => h)
   cases z with
   | cell b off =>
    show W'.cell? _ = W.cell? _
    simp only [World.cell?]
    rw [show W'.heap[b]? = W.heap[b]? from hb]
   | map b => exact hb
  have hargs : ∀ sp : Nat → Bool, (∀ z ∈ before, sp z.block = true) → DataW.TrodAll enc C.prog W' 0 sp true fn.params.toList args.toList ds before :=
   fun sp h => Mw (Nz hp) hA hsame h
  have hres : ∀ (b : Nat) (sp : Nat → Bool) (hd : Bool), DataW.TrodAll enc C.prog W' b sp hd fn.resultTypes.toList ((Value.bool true).resultList fn.resultTypes.size) [.lit (.bool true)] [] := by
   intro b sp hd
   rw [hr]
   exact trodAll_mk1 (Go.RowKit.shut_bool htb true)
  have hold : ∀ z ∈ before, (fun b => decide (b < W.heap.size)) z.block = true := fun z hz => by simpa using hlt z hz
  refine ⟨ds, [], before, [], before, [], hW0, ?_, ?_, ?_, hk.but _, fun _ => ⟨?_, ds.cons (.lit (.bool true)), [], before, ⟨before, [], ?_, ?_, by simp, ?_, ?_⟩, fun z hz _ => hz⟩⟩
  ·rw [List.append_nil, hsp]; exact hres _ _ _
  ·rw [List.append_nil, hsp]; exact hargs _ hold
  ·rw [List.append_nil, hsp, hvars]; rfl
  ·intro j t r hj hv
   rw [hr] at hj hv
   match j, hj, hv with
   | 0, hj, hv =>
    simp only [List.getElem?_toArray, List.getElem?_cons_zero, jc] at hj
    simp [Value.resultList] at hv
    subst hj; subst hv
    exact Go.RowKit.okWide_bool_mk htb true
  ·exact trodAll_append (hargs _ (fun _ _ => rfl)) (hres _ _ _)
  ·rw [hvars]; rfl
  ·intro b off hz
   have := hfz b off hz
   unfold World.frozen? at this ⊢
   rw [show W'.heap[b]? = W.heap[b]? from hk.block b (hlt _ hz) (fun h => h)]
   exact this
  ·exact hnd
 | _ => exact hret.elim
end
noncomputable def Vb {X R : Type} (step : X → Option (X ⊕ R)) (x : X) : Option R :=
 open Classical in if h : ∃ m y, Kr step m x y then some h.choose_spec.choose else none
theorem Kr.det {X R : Type} {step : X → Option (X ⊕ R)} : ∀ {m n : Nat} {x : X} {y z : R}, Kr step m x y → Kr step n x z → y = z
 | 0, _, _, _, _, h, _ => h.elim
 | _ + 1, 0, _, _, _, _, h => h.elim
 | m + 1, n + 1, x, y, z, h, h' => by
  rcases h with h | ⟨x1, h, h1⟩ <;> rcases h' with h' | ⟨x2, h', h2⟩
  ·rw [h] at h'; simpa using h'
  ·rw [h] at h'; simp at h'
  ·rw [h] at h'; simp at h'
  ·rw [h] at h'
   simp only [jc, Sum.inl.injEq] at h'
   subst h'
   exact Kr.det h1 h2
theorem Vt {X R : Type} {step : X → Option (X ⊕ R)} {x : X} {y : R} : Vb step x = some y ↔ ∃ m, Kr step m x y := by
 unfold Vb
 constructor
 ·intro h
  split at h
  ·rename_i hh
   simp only [jc] at h
   exact ⟨_, h ▸ hh.choose_spec.choose_spec⟩
  ·simp at h
 ·rintro ⟨m, h⟩
  have hh : ∃ m y, Kr step m x y := ⟨m, y, h⟩
  rw [dif_pos hh]
  exact congrArg some (Kr.det hh.choose_spec.choose_spec h)
theorem Sv {X R : Type} {step : X → Option (X ⊕ R)} (x : X) : Vb step x = (step x).bind (Sum.elim (Vb step) some) := by
 apply Option.ext
 intro y
 rw [Vt]
 constructor
 ·rintro ⟨m, h⟩
  cases m with
  | zero => exact h.elim
  | succ m =>
   rcases h with h | ⟨x', h, h'⟩
   ·simp [h]
   ·simp [h, Vt.2 ⟨m, h'⟩]
 ·intro h
  rw [qe] at h
  obtain ⟨z, hz, h⟩ := h
  cases z with
  | inl x' =>
   obtain ⟨m, hm⟩ := Vt.1 h
   exact ⟨m + 1, .inr ⟨x', hz, hm⟩⟩
  | inr z =>
   simp only [Sum.elim_inr, jc] at h
   subst h
   exact ⟨1, .inl hz⟩
def lp (fn : Func) (i : Nat) : Code := (Vc (fn.body.getD .skip)).getD i .skip
theorem SE {G : Jd} {L : List (Nat × Eb)} {fn : Func} {i r : Nat} {ls : Eb} {R : ls.inT.X → Option (ls.inT.X ⊕ (ls.outT.X ⊕ ls.retT.X))}
 (h1 : Kg (lp fn i) = some r) (h2 : (Ua L r) = some ls) (h3 : ls.F = Vb R) (h4 : ∀ x, Xt G L ls (lp fn i) x = R x) : Tb G L (lp fn i) := by
 intro r' ls' hr hl x y hy
 rw [h1] at hr
 simp only [jc] at hr
 subst hr
 rw [h2] at hl
 simp only [jc] at hl
 subst hl
 rw [h3] at hy
 obtain ⟨m, hm⟩ := Vt.1 hy
 have : Xt G L ls (lp fn i) = R := funext h4
 rw [this]
 exact ⟨m, hm⟩
theorem Nx {G : Jd} {L : List (Nat × Eb)} {fn : Func} {k : Nat} (hk : Nat.beq (Vc (fn.body.getD .skip)).length k = true) (h : ∀ i, i < k → Tb G L (lp fn i)) :
 ∀ b, b ∈ Vc (fn.body.getD .skip) → Tb G L b := by
 intro b hb
 obtain ⟨i, hi, rfl⟩ := List.mem_iff_getElem.1 hb
 have := h i (by rw [← ju hk]; exact hi)
 unfold lp at this
 rwa [qh, je hi] at this
theorem Hb {p : Nat → Prop} : ∀ i, i < 0 → p i := fun i h => absurd h (Nat.not_lt_zero i)
theorem Kb {p : Nat → Prop} {k : Nat} (h : p k) (hr : ∀ i, i < k → p i) : ∀ i, i < k + 1 → p i := by
 intro i hi
 rcases Nat.lt_or_eq_of_le (Nat.lt_succ_iff.1 hi) with hi | rfl
 ·exact hr i hi
 ·exact h
section
variable {P : Program}
theorem HR {l : List (Nat × Ty)} {fs : List (Nat × Mb)} {m : List (Nat × Nat)} {z : Bool} {ar : List (Nat × Ty × Nat)} {mv ml : List Nat}
 (h : ((l.all fun x => Rc P x.2 x.1) && (ar.all fun x => Wz P x.1 x.2.1 x.2.2)) = true) : EnvTy P ⟨l, fs, m, z, ar, mv, ml⟩ := by
 simp only [jd] at h
 exact ⟨fun t τ ht => List.all_eq_true.1 h.1 (t, τ) (Im ht), fun t e n ht => List.all_eq_true.1 h.2 (t, e, n) (Im ht)⟩
theorem IE {I : Jg} {l : List (Nat × Ty)} {m : List (Nat × Nat)} {z : Bool} {ar : List (Nat × Ty × Nat)} {mv ml : List Nat}
 (h : ((l.all fun x => Rc P x.2 x.1) && (ar.all fun x => Wz P x.1 x.2.1 x.2.2)) = true) : Vg P I ⟨l, [], m, z, ar, mv, ml⟩ :=
 { toEnvTy := HR h, fn := fun f sem h => by simp [Ua] at h }
theorem Vg.cons {I : Jg} {l : List (Nat × Ty)} {fs : List (Nat × Mb)} {m : List (Nat × Nat)} {z : Bool} {ar : List (Nat × Ty × Nat)} {mv ml : List Nat} {f : Nat} {sem : Mb} (hs : Bg P I f sem)
 (h : Vg P I ⟨l, fs, m, z, ar, mv, ml⟩) : Vg P I ⟨l, (f, sem) :: fs, m, z, ar, mv, ml⟩ :=
 { toEnvTy := ⟨h.ty, h.ar⟩, fn := fun g s hg => by
    simp only [Sb] at hg
    split at hg
    ·rename_i e
     simp only [jc] at hg
     subst e; subst hg
     exact hs
    ·exact h.fn g s hg }
theorem Tw {fn : Func} (h : fn.body.isSome = true) : fn.body = some (fn.body.getD .skip) := by
 cases hb : fn.body with
 | none => rw [hb] at h; simp at h
 | some c => rfl
variable {I : Jg} {G : Jd} {L : List (Nat × Eb)}
theorem Wx (hG : Vg P I G) (hm : P.follows .mixedOrders = true) {f : FuncId} {fn : Func} {k : Nat} {pt rt : Ty} {fr : List Bool} {F : T pt → Option (T rt)} (hf : P.funcs[f]? = some fn)
 (hb : (fn.body.isSome && !(fn.name == "runtime.NumGoroutine") && jx pt.npar fn.ntmps && Nat.beq (Vc (fn.body.getD .skip)).length k) = true)
 (hL : ∀ i, i < k → Tb G L (lp fn i)) (hF : ∀ x, UN G L fn pt rt fr x = F x) : Bg P I f (.pu pt rt fr F) := by
 simp only [jd, Bool.not_eq_true'] at hb
 exact WS hG hm hf (Tw hb.1.1.1) hb.1.1.2 (Nx hb.2 hL) (Nat.le_of_ble_eq_true hb.1.2) fun x r h => (hF x).trans h
theorem YP (hG : Vg P I G) (hfz : G.fz = false) (hm : P.follows .mixedOrders = true) {f : FuncId} {fn : Func} {k : Nat} {vw cv : Bool} {τ pt rt : Ty} {fr : List Bool} {F : T τ → T pt → Option (T τ × T rt)} (hf : P.funcs[f]? = some fn)
 (hb : (fn.body.isSome && !(fn.name == "runtime.NumGoroutine") && jx (pt.npar + 1) fn.ntmps && Nat.beq (Vc (fn.body.getD .skip)).length k) = true)
 (hL : ∀ i, i < k → Tb G L (lp fn i)) (hF : ∀ x0 x, IG G L fn vw cv τ pt rt fr x0 x = F x0 x) : Bg P I f (.bx vw cv τ pt rt fr F) := by
 simp only [jd, Bool.not_eq_true'] at hb
 exact US hG hfz hm hf (Tw hb.1.1.1) hb.1.1.2 (Nx hb.2 hL) (Nat.le_of_ble_eq_true hb.1.2) fun x0 x r h => (hF x0 x).trans h
theorem AQ (hG : Vg P I G) (hm : P.follows .mixedOrders = true) {f : FuncId} {fn : Func} {k : Nat} {pt τ : Ty} {F : T pt → Option (T τ)} (hf : P.funcs[f]? = some fn)
 (hb : (fn.body.isSome && !(fn.name == "runtime.NumGoroutine") && jx pt.npar fn.ntmps && Nat.beq (Vc (fn.body.getD .skip)).length k) = true)
 (hL : ∀ i, i < k → Tb G L (lp fn i)) (hF : ∀ x, JG G L fn pt τ x = F x) : Bg P I f (.nw pt τ F) := by
 simp only [jd, Bool.not_eq_true'] at hb
 exact VS hG hm hf (Tw hb.1.1.1) hb.1.1.2 (Nx hb.2 hL) (Nat.le_of_ble_eq_true hb.1.2) fun x r h => (hF x).trans h
end
abbrev Pd : Ty := .p (.i .i64) (.p (.sl (.i .i64)) .u)
abbrev Oc : Ty := .p (.i .i64) (.p .o .u)
def hd (h : T .o) : Value := .slice h.1 h.2.1 h.2.2
section
variable {P : Program} {w w' : World}
theorem RP {x : T Pd} {cs : List Value} {F : List Nat} (h : Bb w Pd x cs F) : ∃ h : T .o, cs = [.int .i64 x.1, hd h] ∧ Bb w (.sl (.i .i64)) x.2.1 [hd h] F := by
 obtain ⟨c1, c2, F1, F2, rfl, rfl, ⟨rfl, rfl⟩, c3, c4, F3, F4, rfl, rfl, h3, rfl, rfl⟩ := h
 have h3' := h3
 obtain ⟨_, ⟨e1, _, _⟩ | ⟨bl, off, cap, cur, et, Fs, e1, _⟩⟩ := h3
 ·subst e1
  exact ⟨(none, 0, 0), rfl, by simpa [hd] using h3'⟩
 ·subst e1
  exact ⟨(some ⟨bl, off, none⟩, ja x.2.1, cap), rfl, by simpa [hd] using h3'⟩
theorem UX {x : T Pd} {h : T .o} {F : List Nat} (ho : Bb w (.sl (.i .i64)) x.2.1 [hd h] F) : Bb w Pd x [.int .i64 x.1, hd h] F :=
 ⟨[.int .i64 x.1], [hd h], [], F, rfl, rfl, ⟨rfl, rfl⟩, [hd h], [], F, [], by simp, by simp, ho, rfl, rfl⟩
theorem XK (x : T Oc) (O : Nat → Prop) : Ka w O Oc x [.int .i64 x.1, hd x.2.1] :=
 ⟨[.int .i64 x.1], [hd x.2.1], rfl, rfl, [hd x.2.1], [], by simp, rfl, rfl⟩
theorem DD {x : T Oc} {O : Nat → Prop} {cs : List Value} (h : Ka w O Oc x cs) : cs = [.int .i64 x.1, hd x.2.1] := by
 obtain ⟨c1, c2, rfl, rfl, c3, c4, rfl, rfl, rfl⟩ := h
 rfl
abbrev JB := T Pd × T Oc × List Nat
def GL (w : World) (p : JB) : Prop := p.2.1.1 = p.1.1 ∧ Bb w (.sl (.i .i64)) p.1.2.1 [hd p.2.1.2.1] p.2.2
theorem OS {l : List (T Pd)} {cs : List Value} {F : List Nat} (h : Bb w (.sl Pd) l cs F) :
 ∃ Q : List JB, Q.map (·.1) = l ∧ Ka w (fun _ => False) (.sl Oc) (Q.map (·.2.1)) cs ∧ (∀ p ∈ Q, GL w p) ∧ (Q.map (·.2.2)).flatten.Sublist F := by
 obtain ⟨hm, ⟨rfl, rfl, rfl⟩ | ⟨bl, off, cap, cur, et, Fs, rfl, hh, h1, h2, h3, rfl, hl, hv⟩⟩ := h
 ·exact ⟨[], rfl, ⟨none, 0, rfl, jo _, hm, .inl rfl⟩, by simp, by simp⟩
 ·have key : ∀ i : Fin (ja l), ∃ h : T .o, Cc cur (off + i.val * Pd.size) Pd.size = [.int .i64 (List.get l i).1, hd h] ∧ Bb w (.sl (.i .i64)) (List.get l i).2.1 [hd h] (Fs.getD i.val []) :=
   fun i => RP (hv i.val i.isLt)
  have ⟨g, hg⟩ := Classical.axiomOfChoice key
  let Q : List JB := List.ofFn fun i : Fin (ja l) => (List.get l i, ((List.get l i).1, g i, ()), Fs.getD i.val [])
  have hQ : ∀ i (hi : i < ja l), Q[i]'(by simp [Q]; exact hi) = (List.get l ⟨i, hi⟩, ((List.get l ⟨i, hi⟩).1, g ⟨i, hi⟩, ()), Fs.getD i []) := fun i hi => by simp [Q]
  have hQl : Q.length = ja l := by simp [Q]
  refine ⟨Q, ?_, ?_, ?_, ?_⟩
  ·apply List.ext_getElem
   ·simp [hQl]
   ·intro i h1 h2
    rw [List.getElem_map, hQ i h2]; rfl
  ·have hlen : ja (Q.map (·.2.1)) = ja l := by simp [hQl]
   refine ⟨_, cap, by rw [hlen], by rw [hlen]; exact h1, by rw [hlen]; exact hm, .inr ⟨bl, off, cur, et, _, rfl, fun h => h, hh, ?_, fun i hi => ?_⟩⟩
   ·rw [hlen]
    have := jm Pd.size h1
    exact qa (Nat.add_le_add_left this _) h3
   ·have hi' : i < ja l := by rw [← hlen]; exact hi
    have e : List.get (Q.map (·.2.1)) ⟨i, hi⟩ = ((List.get l ⟨i, hi'⟩).1, g ⟨i, hi'⟩, ()) := by
     show (Q.map (·.2.1))[i] = _
     rw [List.getElem_map, hQ i hi']
    rw [e]
    have := (hg ⟨i, hi'⟩).1
    show Ka w _ Oc _ (Cc cur (off + i * Pd.size) Pd.size)
    rw [this]
    exact XK (((List.get l ⟨i, hi'⟩).1, g ⟨i, hi'⟩, ()) : T Oc) _
  ·intro p hp
   obtain ⟨i, hi, rfl⟩ := qp hp
   have hi' : i < ja l := by rw [← hQl]; exact hi
   rw [hQ i hi']
   exact ⟨rfl, (hg ⟨i, hi'⟩).2⟩
  ·have e : Q.map (·.2.2) = Fs := by
    apply List.ext_getElem
    ·simp [hQl, hl]
    ·intro i h1 h2
     have hi' : i < ja l := by rw [← hl]; exact h2
     rw [List.getElem_map, hQ i hi']
     simp [List.getD, je h2]
   rw [e]
   exact List.sublist_cons_self _ _
theorem YS {Q : List JB} {cs : List Value} {F : List Nat} (h : Bb w (.sl Oc) (Q.map (·.2.1)) cs F) (hQ : ∀ p ∈ Q, GL w p) :
 ∃ F', Bb w (.sl Pd) (Q.map (·.1)) cs F' ∧ (∀ b, b ∈ F' → b ∈ F ∨ b ∈ (Q.map (·.2.2)).flatten) ∧ ((∀ b, b ∈ F → b ∉ (Q.map (·.2.2)).flatten) → F.Nodup → (Q.map (·.2.2)).flatten.Nodup → F'.Nodup) := by
 obtain ⟨hm, ⟨rfl, hn, rfl⟩ | ⟨bl, off, cap, cur, et, Fs, rfl, hh, h1, h2, h3, rfl, hl, hv⟩⟩ := h
 ·have : Q = [] := List.map_eq_nil_iff.1 hn
  subst this
  exact ⟨[], ⟨hm, .inl ⟨rfl, rfl, rfl⟩⟩, by simp, by simp⟩
 ·have hlen : ja (Q.map (·.2.1)) = Q.length := by simp
  have hlen1 : ja (Q.map (·.1)) = Q.length := by simp
  rw [hlen] at hm h1 hl
  refine ⟨bl :: (Q.map (·.2.2)).flatten, ⟨by rw [hlen1]; exact hm, .inr ⟨bl, off, cap, cur, et, Q.map (·.2.2), by rw [hlen1]; simp, hh, by rw [hlen1]; exact h1, h2, h3, rfl, by simp, fun i hi => ?_⟩⟩, ?_, ?_⟩
  ·have hi' : i < Q.length := by rw [← hlen1]; exact hi
   have hv' := hv i (by rw [hlen]; exact hi')
   have e0 : List.get (Q.map (·.2.1)) ⟨i, by rw [hlen]; exact hi'⟩ = Q[i].2.1 := by
    show (Q.map (·.2.1))[i]'_ = _
    rw [List.getElem_map]
   have e1 : List.get (Q.map (·.1)) ⟨i, hi⟩ = Q[i].1 := by
    show (Q.map (·.1))[i]'_ = _
    rw [List.getElem_map]
   rw [e0] at hv'
   rw [e1]
   have hF0 : ∀ b, b ∈ Fs.getD i [] → False := by
    intro b hb
    obtain ⟨c1, c2, F1, F2, _, hF, ⟨_, rfl⟩, c3, c4, F3, F4, _, rfl, ⟨_, rfl⟩, _, rfl⟩ := hv'
    rw [hF] at hb; simp at hb
   have hcs := DD (Bb.view (O := fun _ => False) hv' (fun b hb h => h))
   have hok := hQ Q[i] (qn hi')
   have e2 : (Q.map (·.2.2)).getD i [] = Q[i].2.2 := by
    simp [List.getD, je hi']
   rw [e2]
   show Bb w Pd _ (Cc cur (off + i * Oc.size) Oc.size) _
   rw [hcs, hok.1]
   exact UX hok.2
  ·intro b hb
   rcases jp.1 hb with rfl | hb
   ·exact .inl (by simp)
   ·exact .inr hb
  ·intro hdj _ hnd
   exact List.nodup_cons.2 ⟨hdj bl (by simp), hnd⟩
end
def Io (same : T Pd → T Pd → Bool) : T Pd → List (T Pd) → List (T Pd)
 | _, [] => []
 | a, x :: r => cond (same a x) (Io same x r) (x :: Io same x r)
def Ss (same : T Pd → T Pd → Bool) : T Pd → List JB → List JB
 | _, [] => []
 | a, x :: r => cond (same a x.1) (Ss same x.1 r) (x :: Ss same x.1 r)
def Lv (c : T Oc → T Oc → Option Bool) : T Oc → List (T Oc) → Option (List (T Oc))
 | _, [] => some []
 | a, x :: r => jz (c a x) fun b => jz (Lv c x r) fun q => some (cond b q (x :: q))
theorem Yz (same : T Pd → T Pd → Bool) : ∀ (Q : List JB) (a : T Pd), (Ss same a Q).map (·.1) = Io same a (Q.map (·.1))
 | [], _ => rfl
 | x :: r, a => by
  simp only [Ss, Io, List.map_cons]
  cases same a x.1 with
  | true => simp only [cond_true]; exact Yz same r x.1
  | false => simp only [cond_false, List.map_cons]; rw [Yz same r x.1]
theorem Zz (same : T Pd → T Pd → Bool) : ∀ (Q : List JB) (a : T Pd), (Ss same a Q).Sublist Q
 | [], _ => .slnil
 | x :: r, a => by
  simp only [Ss]
  cases same a x.1 with
  | true => exact (Zz same r x.1).cons x
  | false => exact (Zz same r x.1).cons_cons x
theorem RJ {same : T Pd → T Pd → Bool} {c : T Oc → T Oc → Option Bool} {R : T Pd → T Oc → Prop} (hc : ∀ a ao b bo, R a ao → R b bo → c ao bo = some (same a b)) :
 ∀ (Q : List JB) (a : T Pd) (ao : T Oc), R a ao → (∀ p ∈ Q, R p.1 p.2.1) → Lv c ao (Q.map (·.2.1)) = some ((Ss same a Q).map (·.2.1))
 | [], _, _, _, _ => rfl
 | x :: r, a, ao, h, hq => by
  have hx := hq x (by simp)
  simp only [List.map_cons, Lv, Ss, hc _ _ _ _ h hx, jb]
  rw [RJ hc r x.1 x.2.1 hx (fun p hp => hq p (by simp [hp]))]
  simp only [jb]
  cases same a x.1 <;> rfl
theorem LJ {α : Type} {a b : List (List α)} (h : a.Sublist b) : a.flatten.Sublist b.flatten := by
 induction h with
 | slnil => simp
 | cons x _ ih => rw [List.flatten_cons]; exact ih.trans (List.sublist_append_right _ _)
 | cons_cons x _ ih => rw [List.flatten_cons, List.flatten_cons]; exact (List.Sublist.refl x).append ih
def Et (x : T Pd) : Bool := jx (ja x.2.1) Ob
noncomputable def UL (same : T Pd → T Pd → Bool) (a : T Pd) (l : List (T Pd)) : Option (List (T Pd) × Unit) :=
 bif jx (ja l) Ob && (Et a && l.all Et) then some (Io same a l, ()) else none
theorem PU {w : World} {O O' : Nat → Prop} {xs ys : List Int} {v : Value} (h1 : Ka w O (.sl (.i .i64)) xs [v]) (h2 : Ka w O' (.sl (.i .i64)) ys [v]) : xs = ys := by
 obtain ⟨a, cap, e1, _, _, h1⟩ := h1
 obtain ⟨a', cap', e2, _, _, h2⟩ := h2
 rw [e1] at e2
 simp only [List.cons.injEq, Value.slice.injEq, and_true] at e2
 obtain ⟨rfl, hlen, rfl⟩ := e2
 have hlen' : xs.length = ys.length := hlen
 rcases h1 with h1 | ⟨bl, off, cur, et, fr, ha, _, hh, hs, hv⟩
 ·have h1' : xs = [] := h1
  subst h1'
  exact (List.eq_nil_of_length_eq_zero (by simpa using hlen'.symm)).symm
 ·rcases h2 with h2 | ⟨bl', off', cur', et', fr', ha', _, hh', hs', hv'⟩
  ·have h2' : ys = [] := h2
   subst h2'
   exact List.eq_nil_of_length_eq_zero (by simpa using hlen')
  ·rw [ha] at ha'
   simp only [jc, Addr.mk.injEq, and_true] at ha'
   obtain ⟨rfl, rfl⟩ := ha'
   rw [hh] at hh'
   simp only [jc] at hh'
   injection hh' with e3 _ _
   subst e3
   apply List.ext_getElem hlen'
   intro i h1 h2
   have p1 := hv i h1
   have p2 := hv' i h2
   have p1' : Cc cur (off + i * 1) 1 = [Value.int .i64 xs[i]] := p1
   have p2' : Cc cur (off + i * 1) 1 = [Value.int .i64 ys[i]] := p2
   rw [p1'] at p2'
   simpa using p2'
open Classical in
noncomputable def Yw (w : World) (h : T .o) : Option (List Int) :=
 if hx : ∃ xs : List Int, Ka w (fun _ => False) (.sl (.i .i64)) xs [hd h] ∧ ja xs ≤ Ob then some hx.choose else none
theorem DE {w : World} {h : T .o} {xs : List Int} (hc : Yw w h = some xs) : Ka w (fun _ => False) (.sl (.i .i64)) xs [hd h] ∧ ja xs ≤ Ob := by
 unfold Yw at hc
 split at hc
 ·rename_i hx
  simp only [jc] at hc
  rw [← hc]; exact hx.choose_spec
 ·simp at hc
theorem SJ {w : World} {h : T .o} {xs : List Int} (hv : Ka w (fun _ => False) (.sl (.i .i64)) xs [hd h]) (hl : ja xs ≤ Ob) : Yw w h = some xs := by
 unfold Yw
 have hx : ∃ xs : List Int, Ka w (fun _ => False) (.sl (.i .i64)) xs [hd h] ∧ ja xs ≤ Ob := ⟨xs, hv, hl⟩
 rw [dif_pos hx]
 rw [PU hx.choose_spec.1 hv]
noncomputable def AH (w : World) (same : T Pd → T Pd → Bool) (a b : T Oc) : Option Bool :=
 jz (Yw w a.2.1) fun u => jz (Yw w b.2.1) fun v => some (same (a.1, u, ()) (b.1, v, ()))
@[reducible] noncomputable def UD (c : T Oc → T Oc → Option Bool) : Mb := .pu (.p Oc (.p Oc .u)) (.p .b .u) [true] (fun x => jz (c x.1 x.2.1) fun b => some (b, ()))
theorem EN {w w2 : World} (h : ∀ b, b < w.heap.size → w2.heap[b]? = w.heap[b]?) {τ : Ty} {x : T τ} {cs : List Value} {O : Nat → Prop} (hv : Ka w O τ x cs) : Ka w2 O τ x cs :=
 Ka.stable (fun b _ hb => h b hb) (fun _ _ h => h) hv
theorem ZP {P : Program} {f f2 : FuncId} {SR : T (.p Pd (.p Pd .u)) → Option (T (.p .b .u))} {same : T Pd → T Pd → Bool}
 (hSR : ∀ a b : T Pd, ja a.2.1 ≤ Ob → ja b.2.1 ≤ Ob → SR (a, b, ()) = some (same a b, ()))
 (h2 : Bg P DI f2 (.pu (.p Pd (.p Pd .u)) (.p .b .u) [true] SR))
 (h : ∀ (I : Jg) (c : T Oc → T Oc → Option Bool), Bg P I f2 (UD c) → ∃ FO, Bg P I f (.pu (.p Oc (.p (.sl Oc) .u)) (.p (.sl Oc) .u) [true] FO) ∧
  ∀ (a : T Oc) (l r : List (T Oc)), ja l ≤ Ob → Lv c a l = some r → FO (a, l, ()) = some (r, ())) :
 Bg P DI f (.co (.p Pd (.p (.sl Pd) .u)) (.p (.sl Pd) .u) [true] (fun x => UL same x.1 x.2.1)) := by
 have hE : Up P f := by
  have hS0 : Bg P DI f2 (UD fun _ _ => none) := ⟨h2.1, fun O w x r args hF => by simp at hF⟩
  obtain ⟨FO, hs, _⟩ := h DI _ hS0
  exact hs.1
 refine ⟨hE, ?_⟩
 intro O w x r F0 args hF hA hnd hO hI hbase hF0
 obtain ⟨a, l, u⟩ := x
 match args, hA with
 | [a1, a2], hA =>
 obtain ⟨cs1, F1, F2', rfl, rfl, ho1, cs2, F2, F3, rfl, rfl, ho2, hF3⟩ := hA
 have hF3' : F3 = [] := hF3
 subst hF3'
 rw [List.append_nil] at *
 simp only [UL] at hF
 cases hsm : (jx (ja l) Ob && (Et a && l.all Et)) with
 | false => rw [hsm] at hF; simp at hF
 | true =>
 rw [hsm] at hF
 simp only [cond_true, jc] at hF
 subst hF
 simp only [jd, List.all_eq_true, Et] at hsm
 have hl1 : ja l ≤ Ob := Nat.le_of_ble_eq_true hsm.1
 have hl2 : ja a.2.1 ≤ Ob := Nat.le_of_ble_eq_true hsm.2.1
 have hl3 : ∀ x ∈ l, ja x.2.1 ≤ Ob := fun x hx => Nat.le_of_ble_eq_true (hsm.2.2 x hx)
 obtain ⟨ah, rfl, hoa⟩ := RP ho1
 obtain ⟨Q, rfl, hvQ, hokQ, hsub⟩ := OS ho2
 let I : Jg := ⟨w.heap.size, fun w2 => w.heap.size ≤ w2.heap.size ∧ ∀ b, b < w.heap.size → w2.heap[b]? = w.heap[b]?, fun w1 w2 hb h1 => by
  refine ⟨?_, fun b hlt => (hb b hlt).trans (h1.2 b hlt)⟩
  rcases Nat.eq_zero_or_pos w.heap.size with h0 | h0
  ·omega
  ·have e := (hb (w.heap.size - 1) (by omega)).trans (h1.2 (w.heap.size - 1) (by omega))
   rw [Array.getElem?_eq_getElem (show w.heap.size - 1 < w.heap.size by omega)] at e
   have := (Array.getElem?_eq_some_iff.1 e).1
   omega⟩
 have hS : Bg P I f2 (UD (AH w same)) := by
  refine ⟨h2.1, ?_⟩
  intro O2 w2 x2 r2 args2 hF2 hA2 hO2 hI2 hb2
  obtain ⟨p, q, u2⟩ := x2
  match args2, hA2 with
  | [b1, b2], hA2 =>
  obtain ⟨⟨c1, rfl, hv1⟩, ⟨c2, rfl, hv2⟩, _⟩ := hA2
  simp only [AH] at hF2
  cases hu : Yw w p.2.1 with
  | none => rw [hu] at hF2; simp at hF2
  | some xu =>
   cases hv : Yw w q.2.1 with
   | none => rw [hu, hv] at hF2; simp at hF2
   | some xv =>
    rw [hu, hv] at hF2
    simp only [jb, jc] at hF2
    subst hF2
    obtain ⟨hxu, lxu⟩ := DE hu
    obtain ⟨hxv, lxv⟩ := DE hv
    have e1 := DD hv1
    have e2 := DD hv2
    subst e1; subst e2
    have mk : ∀ (p : T Oc) (xs : List Int), Ka w (fun _ => False) (.sl (.i .i64)) xs [hd p.2.1] → Ka w2 (fun _ => False) Pd (p.1, xs, ()) [.int .i64 p.1, hd p.2.1] := fun p xs hx =>
     ⟨[.int .i64 p.1], [hd p.2.1], rfl, rfl, [hd p.2.1], [], by simp, EN hI2.2 hx, rfl⟩
    have hc := h2.2 (fun _ => False) w2 ((p.1, xu, ()), (q.1, xv, ()), ()) (same (p.1, xu, ()) (q.1, xv, ()), ()) [Ic Oc [.int .i64 p.1, hd p.2.1], Ic Oc [.int .i64 q.1, hd q.2.1]]
     (hSR _ _ lxu lxv) ⟨⟨_, rfl, mk p xu hxu⟩, ⟨_, rfl, mk q xv hxv⟩, trivial⟩ (fun b h => h.elim) trivial (Nat.zero_le _)
    refine hc.mono ?_
    intro e w3 hR
    cases e with
    | returned v =>
     obtain ⟨vs, Fr, hvs, hK, hR, hn, hfr⟩ := hR
     exact ⟨vs, Fr, hvs, hK, hR.all rfl, hn, hfr⟩
    | panicked _ => exact hR
    | outgrown => exact hR
 obtain ⟨FO, hs, hFO⟩ := h I (AH w same) hS
 have hrel : ∀ a ao b bo, (fun (x : T Pd) (y : T Oc) => y.1 = x.1 ∧ Ka w (fun _ => False) (.sl (.i .i64)) x.2.1 [hd y.2.1] ∧ ja x.2.1 ≤ Ob) a ao →
  (fun (x : T Pd) (y : T Oc) => y.1 = x.1 ∧ Ka w (fun _ => False) (.sl (.i .i64)) x.2.1 [hd y.2.1] ∧ ja x.2.1 ≤ Ob) b bo → AH w same ao bo = some (same a b) := by
  rintro a ao b bo ⟨e1, v1, l1⟩ ⟨e2, v2, l2⟩
  simp only [AH, SJ v1 l1, SJ v2 l2, jb, e1, e2]
 have hch := RJ (R := fun (x : T Pd) (y : T Oc) => y.1 = x.1 ∧ Ka w (fun _ => False) (.sl (.i .i64)) x.2.1 [hd y.2.1] ∧ ja x.2.1 ≤ Ob) hrel Q a (a.1, ah, ())
  ⟨rfl, Bb.view hoa fun b _ h => h, hl2⟩ (fun p hp => ⟨(hokQ p hp).1, Bb.view (hokQ p hp).2 fun b _ h => h, hl3 p.1 (List.mem_map_of_mem hp)⟩)
 have hFO' := hFO (a.1, ah, ()) (Q.map (·.2.1)) _ (by simpa using hl1) hch
 have hc := hs.2 (fun _ => False) w ((a.1, ah, ()), Q.map (·.2.1), ()) ((Ss same a Q).map (·.2.1), ()) [Ic Oc [.int .i64 a.1, hd ah], Ic (.sl Oc) cs2] hFO'
  ⟨⟨_, rfl, XK ((a.1, ah, ()) : T Oc) _⟩, ⟨_, rfl, hvQ⟩, trivial⟩ (fun b h => h.elim) ⟨jo _, fun _ _ => rfl⟩ (jo _)
 refine hc.mono ?_
 intro e w3 hR
 cases e with
 | panicked _ => exact hR
 | outgrown => exact hR
 | returned v =>
  obtain ⟨vs, Fr, hvs, hK, hR, hn, hfr⟩ := hR
  match vs, hR with
  | [v1], hR =>
  obtain ⟨cs, G1, G2, rfl, rfl, hown, hG2⟩ := hR
  have hG2' : G2 = [] := hG2
  subst hG2'
  rw [List.append_nil] at *
  simp only [if_true] at hown
  have hlt : ∀ b, b ∈ F2 → b < w.heap.size := fun b hb => ho2.lt b hb
  have hsubQ := Zz same Q a
  have hok3 : ∀ p ∈ Ss same a Q, GL w3 p := fun p hp => by
   have h0 := hokQ p (hsubQ.mem hp)
   exact ⟨h0.1, Bb.stable h0.2 fun b hb => hK.block b (h0.2.lt b hb) (fun h => h)⟩
  obtain ⟨F', ho', hm', hnd'⟩ := YS hown hok3
  have hsub2 : ((Ss same a Q).map (·.2.2)).flatten.Sublist F2 := by
   refine List.Sublist.trans ?_ hsub
   exact LJ (hsubQ.map _)
  have hndF2 : F2.Nodup := (List.nodup_append.1 hnd).2.1
  have hnF' : F'.Nodup := hnd' (fun b hb hb2 => by
   have h3 := hfr b hb
   have h4 := hlt b (hsub2.mem hb2)
   omega) hn (hsub2.nodup hndF2)
  refine ⟨[Ic (.sl Oc) cs], F', hvs, ⟨hK.size, fun b hb _ => hK.block b hb (fun h => h), hK.os, hK.tape, hK.output⟩, ⟨cs, F', [], rfl, by simp, ?_, rfl⟩, hnF', ?_⟩
  ·simp only [if_true]
   rw [← Yz]
   exact ho'
  ·intro b hb
   rcases hm' b hb with hb | hb
   ·exact .inl (hfr b hb)
   ·exact .inr (List.mem_append_right _ (hsub2.mem hb))
noncomputable def CU (xs : List Int) : Option (List Int × Unit) := bif jx (ja xs) Ob then some (List.mergeSort xs (fun x y => decide (x ≤ y)), ()) else none
theorem MV {cur : Array Value} {k : Nat} {v : Value} (h : Cc cur k 1 = [v]) : cur[k]? = some v := by
 have := congrArg (·[0]?) h
 simp only [Zc cur k 1 0 (by omega)] at this
 simpa using this
theorem VU {cur : Array Value} {k : Nat} {v : Value} (h : cur[k]? = some v) : Cc cur k 1 = [v] := by
 apply List.ext_getElem?
 intro j
 by_cases hj : j = 0
 ·subst hj; rw [Zc cur k 1 0 (by omega)]; simpa using h
 ·have hk : k < cur.size := (Array.getElem?_eq_some_iff.1 h).1
  have hl : (Cc cur k 1).length = 1 := Gc (by omega)
  rw [List.getElem?_eq_none (by omega), List.getElem?_eq_none (by simp; omega)]
theorem ZM {P : Program} {ρ : Go.Shelf.Ren} {f : FuncId} (L : Go.Proofs.Lays.n191 P ρ) (hf : ρ.f 191 = f) : Bg P DI f (.io (.sl (.i .i64)) .u .u [] (fun x0 _ => CU x0)) := by
 subst hf
 refine ⟨⟨_, L.f191, rfl, rfl⟩, ?_⟩
 intro O w x0 x r cs0 F0 args hF ho hnd hA hO _ _ _
 match args, hA with
 | [], _ =>
 simp only [CU] at hF
 cases hl : jx (ja x0) Ob with
 | false => rw [hl] at hF; simp at hF
 | true =>
 rw [hl] at hF
 simp only [cond_true, jc] at hF
 subst hF
 have hlim : Ob = 1073741824 := rfl
 have hx : ja x0 ≤ Ob := Nat.le_of_ble_eq_true hl
 have ho0 := ho
 obtain ⟨hm, ⟨rfl, hn, rfl⟩ | ⟨bl, off, cap, cur, et, Fs, rfl, hh, h1, h2, h3, rfl, hlen, hv⟩⟩ := ho
 ·have hn' : x0 = [] := hn
  subst hn'
  refine (Go.Proofs.Any.sort_Ints_none L none 0 w).mono ?_
  rintro e w' ⟨rfl, rfl⟩
  refine ⟨[], [], [], rfl, ⟨jo _, fun _ _ _ => rfl, rfl, rfl, rfl⟩, ?_, by simp, rfl, List.nodup_nil, by simp⟩
  show Bb w' (.sl (.i .i64)) (List.mergeSort ([] : List Int) _) _ _
  simpa using ho0
 ·have hcell : ∀ i (hi : i < x0.length), cur[off + i]? = some (.int .i64 x0[i]) := by
   intro i hi
   have := (hv i hi).1
   have e : Cc cur (off + i * 1) 1 = [Value.int .i64 x0[i]] := this
   rw [Nat.mul_one] at e
   exact MV e
  have hFs : ∀ b, b ∈ Fs.flatten → False := by
   intro b hb
   obtain ⟨l, hl, hb⟩ := List.mem_flatten.1 hb
   obtain ⟨i, hi, rfl⟩ := qp hl
   have := (hv i (by rw [← hlen]; exact hi)).2
   rw [qh, je hi] at this
   simp only [Option.getD_some] at this
   rw [this] at hb; simp at hb
  have hH : Go.Sort.Holds (Value.int .i64) w bl off x0.toArray := by
   intro j hj
   have hj' : j < x0.length := by simpa using hj
   refine ⟨?_, ?_⟩
   ·unfold World.cell?
    simp only [hh]
    rw [hcell j hj']
    simp [getElem!_pos, hj']
   ·unfold World.frozen?
    simp [hh]
  have hbl : bl < w.heap.size := (Array.getElem?_eq_some_iff.1 hh).1
  refine (Go.Proofs.Any.sort_Ints L bl off cap x0 w hH hbl (by omega)).mono ?_
  rintro e w' ⟨rfl, n, os, rfl⟩
  generalize hzs : (x0.mergeSort fun x y => decide (x ≤ y)) = zs
  have hzl : zs.length = x0.length := by rw [← hzs]; exact List.length_mergeSort _
  have hheap : ∀ b, b < w.heap.size → (Go.Sort.grow (Go.Sort.putRow (Value.int .i64) (Go.Sort.ahead w n) bl off zs.toArray) os).heap[b]? = if bl = b then (w.heap[b]?).map (Go.Sort.onCells (Go.Sort.putCells (Value.int .i64) off zs.toArray)) else w.heap[b]? := by
   intro b hb
   simp only [Go.Sort.grow, Go.Sort.putRow, Go.Sort.mapBlock, Go.Sort.ahead]
   rw [Array.getElem?_append_left (by simpa using hb), Array.getElem?_modify]
  refine ⟨[], bl :: Fs.flatten, [], rfl, ⟨?_, ?_, rfl, rfl, rfl⟩, ?_, fun b hb => .inr hb, rfl, by simpa using hnd, by simp⟩
  ·simp only [Go.Sort.grow, Array.size_append, Go.Sort.size_putRow, Go.Sort.ahead]
   omega
  ·intro b hb hno
   have hne : bl ≠ b := fun e => hno (by rw [e]; simp)
   rw [hheap b hb, if_neg hne]
  ·have hcs : ([.slice (some ⟨bl, off, none⟩) (ja x0) cap] : List Value) = [.slice (some ⟨bl, off, none⟩) (ja (zs : List Int)) cap] := by rw [hzl]
   show Bb _ (.sl (.i .i64)) (zs : List Int) _ _
   rw [hcs]
   refine ⟨by show zs.length ≤ Tg; rw [hzl]; exact hm, .inr ⟨bl, off, cap, _, et, Fs, rfl, (hheap bl hbl).trans (by rw [if_pos rfl, hh]; rfl), by show zs.length ≤ cap; rw [hzl]; exact h1, h2, by simpa [Go.Sort.putCells] using h3, rfl, by show Fs.length = zs.length; rw [hzl]; exact hlen, fun i hi => ?_⟩⟩
   have hi' : i < zs.length := hi
   have hi2 : i < x0.length := by omega
   refine ⟨?_, ?_⟩
   ·show Cc _ (off + i * 1) 1 = [Value.int .i64 zs[i]]
    rw [Nat.mul_one]
    apply VU
    simp only [Go.Sort.putCells, Array.getElem?_mapIdx, hcell i hi2, qb]
    rw [if_pos ⟨by omega, by simp; omega⟩, show off + i - off = i by omega]
    simp [getElem!_pos, hi']
   ·exact (hv i hi2).2
def Pf {α S R : Type} (g : Nat → S → α → S ⊕ R) : Nat → S → List α → S ⊕ R
 | _, s, [] => .inl s
 | k, s, x :: xs => match g k s x with
  | .inl s' => Pf g (k + 1) s' xs
  | .inr r => .inr r
section
variable {X R : Type} {step : X → Option (X ⊕ R)}
theorem Eh {x : X} {z : Option (X ⊕ R)} (h : step x = z) : Vb step x = z.bind (Sum.elim (Vb step) some) := by
 rw [Sv, h]
theorem DJ {α S R' : Type} (xs : List α) (g : Nat → S → α → S ⊕ R') (I : Nat → S → X) (out : S → R) (ex : R' → R) (Jg : Nat → S → Prop)
 (h : ∀ k (hk : k < xs.length) s, Jg k s → step (I k s) = some (match g k s xs[k] with | .inl s' => .inl (I (k + 1) s') | .inr r => .inr (ex r)) ∧ ∀ s', g k s xs[k] = .inl s' → Jg (k + 1) s')
 (he : ∀ s, Jg xs.length s → step (I xs.length s) = some (.inr (out s))) (s0 : S) (h0 : Jg 0 s0) :
 Vb step (I 0 s0) = some (match Pf g 0 s0 xs with | .inl s => out s | .inr r => ex r) := by
 have key : ∀ (ys : List α) (k : Nat) (s : S), xs.drop k = ys → k ≤ xs.length → Jg k s → Vb step (I k s) = some (match Pf g k s ys with | .inl s => out s | .inr r => ex r) := by
  intro ys
  induction ys with
  | nil =>
   intro k s hd hle hi
   have : k = xs.length := by
    have := congrArg ja hd
    simp at this
    omega
   subst this
   rw [Eh (he s hi)]
   rfl
  | cons y ys ih =>
   intro k s hd hle hi
   have hk : k < xs.length := by
    have := congrArg ja hd
    simp at this
    omega
   have hy : xs[k] = y := by
    have := congrArg (·[0]?) hd
    simp [List.getElem?_drop, je hk] at this
    exact this
   obtain ⟨h1, h2⟩ := h k hk s hi
   rw [Eh h1]
   rw [hy] at h2 ⊢
   simp only [Pf]
   cases hg : g k s y with
   | inl s' =>
    simp only [jb, qi]
    refine ih (k + 1) s' ?_ hk (h2 s' hg)
    rw [← List.drop_drop, hd]
    rfl
   | inr r => rfl
 exact key xs 0 s0 rfl (Nat.zero_le _) h0
theorem MP (I : Nat → X) (n : Nat) (out : R) (h : ∀ k, k < n → step (I k) = some (.inl (I (k + 1)))) (he : step (I n) = some (.inr out)) : Vb step (I 0) = some out := by
 have key : ∀ m k, m + k = n → Vb step (I k) = some out := by
  intro m
  induction m with
  | zero =>
   intro k hk
   have : k = n := by omega
   subst this
   rw [Eh he]; rfl
  | succ m ih =>
   intro k hk
   rw [Eh (h k (by omega))]
   exact ih (k + 1) (by omega)
 exact key n 0 (by omega)
end
theorem Ae {n : Int} (h1 : -9223372036854775808 ≤ n) (h2 : n ≤ 9223372036854775807) : j5 .i64 n = n := IntWalk.i64_in n ⟨h1, h2⟩
theorem Af {k : Nat} (h : k < 9223372036854775807) : j5 .i64 ((k : Int) + 1) = ((k + 1 : Nat) : Int) := by
 rw [Ae (by omega) (by omega)]; omega
section
variable {α : Type}
theorem OU (xs : List α) (k : Nat) : Od xs (k : Int) = xs[k]? := by simp [Od]
theorem Cd {xs : List α} {k : Nat} (h : k < xs.length) : Od xs (k : Int) = some xs[k] := by rw [OU, je h]
theorem Es (n k : Nat) : Xi n (k : Int) = decide (k < n) := by
 simp [Xi]
theorem Ja {p : Prop} [Decidable p] (h : p) : decide p = true := decide_eq_true h
theorem La {p : Prop} [Decidable p] (h : ¬ p) : decide p = false := decide_eq_false h
theorem GF {xs : List α} {k : Nat} (h : k < xs.length) : xs.take (k + 1) = xs.take k ++ [xs[k]] := by
 rw [List.take_succ_eq_append_getElem h]
end
theorem Yi : Ob = 1073741824 := rfl
def Yc : (τ : Ty) → T τ → Nat
 | .i _, _ => 0
 | .b, _ => 0
 | .o, _ => 0
 | .s, x => ja x
 | .sl e, xs => ja xs + (List.map (Yc e) xs).sum
 | .u, _ => 0
 | .p a c, v => Yc a v.1 + Yc c v.2
def Ty.hasS : Ty → Bool
 | .s => true
 | .sl e => e.hasS
 | .p x y => x.hasS || y.hasS
 | _ => false
def Qa : Nat := 1048576
theorem Cs {α : Type} {f : α → Nat} {xs : List α} {k : Nat} (hk : k < xs.length) : f xs[k] ≤ (xs.map f).sum := by
 induction xs generalizing k with
 | nil => simp at hk
 | cons x xs ih =>
  cases k with
  | zero => simp
  | succ k =>
   have := ih (k := k) (by simpa using hk)
   simp only [List.getElem_cons_succ, List.map_cons, List.sum_cons]
   omega
theorem CB : ∀ {τ : Ty} (_ : (τ.flat && !τ.hasS) = true) {x : T τ}, Yc τ x = 0
 | .i _, _, _ => rfl
 | .b, _, _ => rfl
 | .o, _, _ => rfl
 | .s, h, _ => by simp [Ty.hasS] at h
 | .sl _, h, _ => by simp [Ty.flat] at h
 | .u, _, _ => rfl
 | .p a c, h, x => by
  simp only [Ty.flat, Ty.hasS, jd, Bool.not_eq_true', Bool.or_eq_false_iff] at h
  simp only [Yc]
  rw [CB (τ := a) (by simp [h.1.1, h.2.1]), CB (τ := c) (by simp [h.1.2, h.2.2])]
theorem Ew {e : Ty} (h : (e.flat && !e.hasS) = true) (xs : List (T e)) : Yc (.sl e) xs = ja xs := by
 simp only [Yc]
 have : List.map (Yc e) xs = List.replicate xs.length 0 := by
  apply List.ext_getElem
  ·simp
  ·intro i h1 h2
   simp [CB h]
 rw [this]
 simp
theorem Qo {α : Type} (b : Bool) (x y : α) : cond b (some x) (some y) = some (cond b x y) := by cases b <;> rfl
theorem Ro {α : Type} (b : Bool) (x y : α) : cond b (x, ()) (y, ()) = (cond b x y, ()) := by cases b <;> rfl
theorem Me (b x y : Bool) : (cond b x y = true) ↔ ((b = true ∧ x = true) ∨ (¬ b = true ∧ y = true)) := by cases b <;> simp
theorem GU {a b : Bool} (h : a = true ↔ b = true) : a = b := qs.2 h
theorem Zd {a b : Bool} (h : a = true ↔ b = true) : some (a, ()) = some (b, ()) := by rw [GU h]
theorem Hv (a b : Int) : ((a == b) = true) ↔ a = b := by simp
theorem Iv (a b : Int) : ((a != b) = true) ↔ ¬ a = b := by simp
def Xd {α : Type} (p : Nat → α → Bool) : Nat → List α → Bool
 | _, [] => true
 | k, x :: xs => p k x && Xd p (k + 1) xs
theorem Sg {X R : Type} {step : X → Option (X ⊕ R)} {α : Type} (xs : List α) (p : Nat → α → Bool) (I : Int → X) (yes no : R)
 (h : ∀ k (hk : k < xs.length), step (I (k : Int)) = some (cond (p k xs[k]) (.inl (I (j5 .i64 ((k : Int) + 1)))) (.inr no)))
 (he : step (I (xs.length : Int)) = some (.inr yes)) (hn : xs.length < 9223372036854775807) :
 Vb step (I 0) = some (cond (Xd p 0 xs) yes no) := by
 have key : ∀ (ys : List α) (k : Nat), xs.drop k = ys → k ≤ xs.length → Vb step (I (k : Int)) = some (cond (Xd p k ys) yes no) := by
  intro ys
  induction ys with
  | nil =>
   intro k hd hle
   have : k = xs.length := by
    have := congrArg ja hd
    simp at this
    omega
   subst this
   rw [Eh he]
   rfl
  | cons y ys ih =>
   intro k hd hle
   have hk : k < xs.length := by
    have := congrArg ja hd
    simp at this
    omega
   have hy : xs[k] = y := by
    have := congrArg (·[0]?) hd
    simp [List.getElem?_drop, je hk] at this
    exact this
   have hd' : xs.drop (k + 1) = ys := by rw [← List.drop_drop, hd]; rfl
   rw [Eh (h k hk), hy]
   simp only [Xd]
   cases hc : p k y with
   | true =>
    simp only [cond_true, jk, jb, qi]
    rw [← ih (k + 1) hd' hk, Af (by omega)]
   | false => rfl
 have := key xs 0 rfl (Nat.zero_le _)
 simpa using this
theorem Hf {α : Type} {p : Nat → α → Bool} : ∀ {xs : List α} {k : Nat}, Xd p k xs = true ↔ ∀ j (hj : j < xs.length), p (k + j) xs[j] = true
 | [], _ => by simp [Xd]
 | x :: xs, k => by
  simp only [Xd, jd, Hf (xs := xs)]
  constructor
  ·rintro ⟨h1, h2⟩ j hj
   cases j with
   | zero => exact h1
   | succ j => simpa [jt, Nat.add_comm 1 j] using h2 j (by simpa using hj)
  ·intro h
   refine ⟨h 0 (by simp), fun j hj => ?_⟩
   have := h (j + 1) (by simpa using hj)
   rw [jt, Nat.add_comm 1 j]
   exact this
theorem TN {α β γ : Type} (b : Bool) (x : α) (y : β) (f : α → γ) (g : β → γ) : Sum.elim f g (cond b (.inl x) (.inr y)) = cond b (f x) (g y) := by cases b <;> rfl
def Bc {α S : Type} (g : Nat → S → α → S) : Nat → S → List α → S
 | _, s, [] => s
 | k, s, x :: xs => Bc g (k + 1) (g k s x) xs
theorem HE {α : Type} {xs ys : List α} {y : α} {k : Nat} (hd : xs.drop k = y :: ys) : ∃ hk : k < xs.length, xs[k] = y ∧ xs.drop (k + 1) = ys := by
 have hk : k < xs.length := by
  have := congrArg ja hd
  simp at this
  omega
 refine ⟨hk, ?_, by rw [← List.drop_drop, hd]; rfl⟩
 have := congrArg (·[0]?) hd
 simp [List.getElem?_drop, je hk] at this
 exact this
theorem DH {α : Type} {xs : List α} {k : Nat} (hd : xs.drop k = []) (hk : k ≤ xs.length) : k = xs.length := by
 have := congrArg ja hd
 simp at this
 omega
theorem Ph {X R : Type} {step : X → Option (X ⊕ R)} {α S : Type} (xs : List α) (g : Nat → S → α → S) (I : S → Int → X) (out : S → R) (Jg : Nat → S → Prop)
 (h : ∀ k (hk : k < xs.length) s, Jg k s → step (I s (k : Int)) = some (.inl (I (g k s xs[k]) (j5 .i64 ((k : Int) + 1)))) ∧ Jg (k + 1) (g k s xs[k]))
 (he : ∀ s, Jg xs.length s → step (I s (xs.length : Int)) = some (.inr (out s))) (hn : xs.length < 9223372036854775807) (s0 : S) (h0 : Jg 0 s0) :
 Vb step (I s0 0) = some (out (Bc g 0 s0 xs)) ∧ Jg xs.length (Bc g 0 s0 xs) := by
 have key : ∀ (ys : List α) (k : Nat) (s : S), xs.drop k = ys → k ≤ xs.length → Jg k s → Vb step (I s (k : Int)) = some (out (Bc g k s ys)) ∧ Jg xs.length (Bc g k s ys) := by
  intro ys
  induction ys with
  | nil =>
   intro k s hd hle hi
   have := DH hd hle
   subst this
   rw [Eh (he s hi)]
   exact ⟨rfl, hi⟩
  | cons y ys ih =>
   intro k s hd hle hi
   obtain ⟨hk, hy, hd'⟩ := HE hd
   obtain ⟨h1, h2⟩ := h k hk s hi
   rw [Eh h1, hy, Af (by omega)]
   rw [hy] at h2
   exact ih (k + 1) _ hd' hk h2
 have := key xs 0 s0 rfl (Nat.zero_le _) h0
 simpa using this
theorem Du {X R : Type} {step : X → Option (X ⊕ R)} {α S R' : Type} (xs : List α) (g : Nat → S → α → S ⊕ R') (I : S → Int → X) (out : S → R) (ex : R' → R) (Jg : Nat → S → Prop)
 (h : ∀ k (hk : k < xs.length) s, Jg k s → step (I s (k : Int)) = some (match g k s xs[k] with | .inl s' => .inl (I s' (j5 .i64 ((k : Int) + 1))) | .inr r => .inr (ex r)) ∧ ∀ s', g k s xs[k] = .inl s' → Jg (k + 1) s')
 (he : ∀ s, Jg xs.length s → step (I s (xs.length : Int)) = some (.inr (out s))) (hn : xs.length < 9223372036854775807) (s0 : S) (h0 : Jg 0 s0) :
 Vb step (I s0 0) = some (match Pf g 0 s0 xs with | .inl s => out s | .inr r => ex r) := by
 have := DJ (step := step) xs g (fun k s => I s (k : Int)) out ex Jg (fun k hk s hi => by
  obtain ⟨h1, h2⟩ := h k hk s hi
  refine ⟨?_, h2⟩
  rw [h1, Af (by omega)]) he s0 h0
 simpa using this
theorem z3 : ((3 : Int) == 0) = false := rfl
theorem EE {n lo hi : Nat} (h1 : lo ≤ hi) (h2 : hi ≤ n) : Je n (lo : Int) (hi : Int) = true := by
 simp [Je]; omega
section
variable {α β : Type}
end
abbrev int : Ty := .i .i64
abbrev Ps : Ty := .i .u8
abbrev We : Ty := (.p int (.p int .u))
abbrev Nb : Type := (Int × (Int × Unit))
abbrev He : Ty := (.p int (.p (.sl int) .u))
abbrev Ga : Type := (Int × ((List Int) × Unit))
abbrev NZ : Ty := (.p int (.p int (.p .b .u)))
abbrev Nn : Type := (Int × (Int × (Bool × Unit)))
abbrev Pg : Ty := (.p int We)
abbrev Gd : Type := (Int × Nb)
abbrev Id : Type := ((List (List Int)) × ((List Int) × Unit))
abbrev Ge : Ty := (.p (.sl Ps) We)
abbrev Db : Type := ((List Int) × Nb)
abbrev Wc : Ty := (.p int Pg)
abbrev Aa : Type := (Int × Gd)
abbrev Fg : Type := (Bool × Gd)
abbrev Sp : Ty := (.p int (.p Wc .u))
abbrev Pa : Type := (Int × (Aa × Unit))
abbrev FL : Type := (Int × (Int × (Int × (Int × Ga))))
abbrev Za : Ty := (.p int (.p (.sl (.sl Wc)) .u))
abbrev Ha : Type := (Int × ((List (List Aa)) × Unit))
abbrev XD : Type := ((List Nb) × (Int × ((List Nn) × (Int × (Int × (Int × ((List Nn) × Unit)))))))
abbrev Pc : Ty := (.p Za (.p (.sl (.sl Pg)) (.p int (.p (.sl Sp) (.p int (.p .b .u))))))
abbrev Ra : Type := (Ha × ((List (List Gd)) × (Int × ((List Pa) × (Int × (Bool × Unit))))))
abbrev XS : Ty := (.p Pc (.p Pg (.p (.sl NZ) Wc)))
abbrev Uz : Type := (Ra × (Gd × ((List Nn) × Aa)))
abbrev HX : Type := (Nn × (FL × (XD × (Uz × Nb))))
noncomputable section
open Option renaming bind → ob
open Go.IntKind renaming wrap → wr
open Int renaming toNat → tn
open List renaming length → ln, append → ap, set → ls
open Sum renaming elim → se
open Nat renaming ble → bl
abbrev Mk : Type := Int × Unit
abbrev Bh : Type := Bool × Unit
abbrev Nk : Type := Unit × Unit
abbrev De : Type := List Int
abbrev Pl : Type := Ha × Unit
abbrev Ql : Type := List Pa
abbrev Wp : Type := List Ga
abbrev Xh : Type := List Aa
abbrev Ur : Type := List Nb
abbrev HT : Type := Unit × Nb
abbrev Ht : Type := Ra × Unit
abbrev HL : Type := Unit × Mk
abbrev Dy : Type := Bh × Unit
abbrev Wo : Type := Ha × Pl
abbrev IT : Type := (Mk × Unit) ⊕ Nk
abbrev IL : Type := De × Nb
abbrev It : Type := List Gd
abbrev Ey : Type := (List Xh) × (Int × (Xh × Xh))
abbrev DG : Type := Ur × Nb
abbrev KB : Type := De × Unit
abbrev JT : Type := Unit × Nk
abbrev LB : Type := Ga × Unit
abbrev PG : Type := Ga × LB
abbrev JL : Type := Unit × Gd
abbrev Jt : Type := (List Xh) × Nb
abbrev Cv : Type := Unit × HL
abbrev Vr : Type := Nk ⊕ Dy
abbrev EG : Type := Int × ((List Xh) × (Int × (Int × (Xh × Nb))))
abbrev KL : Type := Nk ⊕ (Mk × Unit)
abbrev LT : Type := Ra × Ht
abbrev FG : Type := Aa × Unit
abbrev MB : Type := Wp × Unit
abbrev MT : Type := Nb × Unit
abbrev LL : Type := De × Mk
abbrev NT : Type := (Unit × (Unit × (Int × (Int × (Xh × (Ey × Aa)))))) × (Ha × ((Int × (Ey × Unit)) × Unit))
abbrev OT : Type := Ra × (Wp × Bh)
abbrev Cn : Type := List It
abbrev Kt : Type := Db × Wo
abbrev ML : Type := (Unit × (Int × (Int × (Int × Jt)))) × Pl
abbrev TZ : Type := (MB × Unit) ⊕ Nk
abbrev PT : Type := ((Unit × (Unit × KB)) × PG) ⊕ Nk
abbrev NB : Type := Ql × Nb
abbrev Gy : Type := (Int × NB) × Unit
abbrev NL : Type := Int × HL
abbrev KT : Type := (Int × NL) × Pl
abbrev QT : Type := (Unit × (Int × (Unit × (Int × (Unit × (Int × (Xh × Mk))))))) × Kt
abbrev GG : Type := Ur × (It × Nb)
abbrev RT : Type := (JT × Wo) ⊕ Nk
abbrev ST : Type := Unit × JT
abbrev HG : Type := (De × IL) × Unit
abbrev Gm : Ra := ((0, [], ()), [], 0, [], 0, false, ())
def DF (a0 : Int) (a1 : Int) (a2 : Int) : Option Bh :=
 (cond (decide (a0 ≥ a1))
 (some ((decide (a0 ≤ a2)), ()))
 (some (false, ())))
def Gl (a0 : De) : Option KB :=
 (cond (bl (ln ([] : List Int) + ln a0) Ob)
 (some ((ap [] a0), ()))
 none)
def Ml (a0 : Int) : Option Bh :=
 (cond (decide (a0 ≥ 1))
 (some ((decide (a0 ≤ 56)), ()))
 (some (false, ())))
def Jj (a0 : Int) : Option Bh :=
 (cond (decide (a0 ≥ 1))
 (some ((decide (a0 ≤ 15)), ()))
 (some (false, ())))
def Dk (a0 : Int) : Option Bh :=
 (cond (decide (a0 ≥ 1))
 (some ((decide (a0 ≤ 3)), ()))
 (some (false, ())))
def Wf (a0 : Aa) : Option Bh :=
 (cond (a0.1 == 0)
 (cond (a0.2.1 == 0)
 (cond (a0.2.2.1 == 0)
 (some ((a0.2.2.2.1 == 0), ()))
 (some (false, ())))
 (some (false, ())))
 (cond (a0.1 == 1)
 (cond (a0.2.1 == 0)
 (cond (a0.2.2.1 == 0)
 (some ((a0.2.2.2.1 == 0), ()))
 (some (false, ())))
 (some (false, ())))
 (cond (a0.1 == 10)
 (cond (a0.2.1 == 0)
 (cond (a0.2.2.1 == 0)
 (some ((a0.2.2.2.1 == 0), ()))
 (some (false, ())))
 (some (false, ())))
 (cond (a0.1 == 2)
 (cond (a0.2.2.2.1 == 0)
 (cond (a0.2.1 == 0)
 (cond (a0.2.2.1 == 0)
 (cond (a0.2.1 != 0)
 (some (true, ()))
 (some ((a0.2.2.1 != 0), ())))
 (ob (Jj a0.2.2.1) fun r1 =>
 (cond r1.1
 (cond (a0.2.1 != 0)
 (some (true, ()))
 (some ((a0.2.2.1 != 0), ())))
 (some (false, ())))))
 (ob (Ml a0.2.1) fun r2 =>
 (cond r2.1
 (cond (a0.2.2.1 == 0)
 (cond (a0.2.1 != 0)
 (some (true, ()))
 (some ((a0.2.2.1 != 0), ())))
 (ob (Jj a0.2.2.1) fun r3 =>
 (cond r3.1
 (cond (a0.2.1 != 0)
 (some (true, ()))
 (some ((a0.2.2.1 != 0), ())))
 (some (false, ())))))
 (some (false, ())))))
 (some (false, ())))
 (cond (a0.1 == 3)
 (cond (a0.2.1 == 0)
 (cond (a0.2.2.1 == 0)
 (ob (Dk a0.2.2.2.1) fun r4 =>
 (some (r4.1, ())))
 (some (false, ())))
 (some (false, ())))
 (cond (a0.1 == 4)
 (cond (a0.2.1 == 0)
 (cond (a0.2.2.1 == 0)
 (ob (Dk a0.2.2.2.1) fun r5 =>
 (some (r5.1, ())))
 (some (false, ())))
 (some (false, ())))
 (cond (a0.1 == 5)
 (cond (a0.2.1 == 0)
 (cond (a0.2.2.1 == 0)
 (cond (decide (a0.2.2.2.1 ≥ 0))
 (some ((decide (a0.2.2.2.1 ≤ 3)), ()))
 (some (false, ())))
 (some (false, ())))
 (some (false, ())))
 (cond (a0.1 == 9)
 (cond (a0.2.1 == 0)
 (cond (a0.2.2.1 == 0)
 (cond (decide (a0.2.2.2.1 ≥ 0))
 (some ((decide (a0.2.2.2.1 ≤ 3)), ()))
 (some (false, ())))
 (some (false, ())))
 (some (false, ())))
 (cond (a0.1 == 6)
 (ob (Ml a0.2.1) fun r6 =>
 (cond r6.1
 (ob (Jj a0.2.2.1) fun r7 =>
 (cond r7.1
 (some ((a0.2.2.2.1 == 0), ()))
 (some (false, ()))))
 (some (false, ()))))
 (cond (a0.1 == 7)
 (ob (Ml a0.2.1) fun r8 =>
 (cond r8.1
 (cond (a0.2.2.1 == 0)
 (ob (Dk a0.2.2.2.1) fun r9 =>
 (some (r9.1, ())))
 (some (false, ())))
 (some (false, ()))))
 (cond (a0.1 == 8)
 (cond (a0.2.1 == 0)
 (ob (Jj a0.2.2.1) fun r10 =>
 (cond r10.1
 (some ((a0.2.2.2.1 == 0), ()))
 (some (false, ()))))
 (some (false, ())))
 (some (false, ())))))))))))))
def Ln (t1 : Unit) (t3 : Int) (t28 : (List Xh)) (t29 : Int) (t30 : Int) (t40 : Xh) (t41 : Int) (t42 : Int) (b1 : Ha) : Option (((Unit × EG) × Pl) ⊕ (((Unit × Jt) × Pl) ⊕ Dy)) :=
 (cond (decide (t42 < t41))
 (ob (Od t40 t42) fun x24 =>
 (ob (Wf x24) fun r25 =>
 (cond (!r25.1)
 (some (.inr (.inr ((false, ()), ()))))
 (cond (t3 == 0)
 (cond (x24.1 == 1)
 (some (.inr (.inr ((false, ()), ()))))
 (cond (x24.1 != 9)
 (cond (decide (x24.2.2.2.1 ≥ ((ln b1.2.1 : Nat) : Int)))
 (some (.inr (.inr ((false, ()), ()))))
 (some (.inl (((), t3, t28, t29, t30, t40, t41, (wr .i64 (t42 + 1)), ()), (b1, ())))))
 (some (.inl (((), t3, t28, t29, t30, t40, t41, (wr .i64 (t42 + 1)), ()), (b1, ()))))))
 (cond (x24.1 != 9)
 (cond (decide (x24.2.2.2.1 ≥ ((ln b1.2.1 : Nat) : Int)))
 (some (.inr (.inr ((false, ()), ()))))
 (some (.inl (((), t3, t28, t29, t30, t40, t41, (wr .i64 (t42 + 1)), ()), (b1, ())))))
 (some (.inl (((), t3, t28, t29, t30, t40, t41, (wr .i64 (t42 + 1)), ()), (b1, ())))))))))
 (some (.inr (.inl (((), t28, t29, t30, ()), (b1, ()))))))
def Kh := Vb fun x : ((Unit × EG) × Pl) => Ln x.1.1 x.1.2.1 x.1.2.2.1 x.1.2.2.2.1 x.1.2.2.2.2.1 x.1.2.2.2.2.2.1 x.1.2.2.2.2.2.2.1 x.1.2.2.2.2.2.2.2.1 x.2.1
def Kn (t1 : Unit) (t28 : (List Xh)) (t29 : Int) (t30 : Int) (b1 : Ha) : Option (((Unit × Jt) × Pl) ⊕ Vr) :=
 (cond (decide (t30 < t29))
 (ob (Od t28 t30) fun x19 =>
 (cond (((ln x19 : Nat) : Int) != b1.1)
 (some (.inr (.inr ((false, ()), ()))))
 (ob (Kh (((), t30, t28, t29, t30, x19, ((ln x19 : Nat) : Int), 0, ()), (b1, ()))) (se (fun y26 => (some (.inl (((), y26.1.2.1, y26.1.2.2.1, (wr .i64 (y26.1.2.2.2.1 + 1)), ()), (y26.2.1, ()))))) (fun z27 => (some (.inr (.inr ((z27.1.1, ()), ())))))))))
 (some (.inr (.inl ((), ())))))
def Jh := Vb fun x : ((Unit × Jt) × Pl) => Kn x.1.1 x.1.2.1 x.1.2.2.1 x.1.2.2.2.1 x.2.1
def Ni (a0 : Ha) : Option Bh :=
 (cond (decide (a0.1 < 1))
 (some (false, ()))
 (cond (decide (a0.1 > 32))
 (some (false, ()))
 (cond (decide (((ln a0.2.1 : Nat) : Int) < 1))
 (some (false, ()))
 (cond (decide (((ln a0.2.1 : Nat) : Int) > 4))
 (some (false, ()))
 (ob (Jh (((), a0.2.1, ((ln a0.2.1 : Nat) : Int), 0, ()), (a0, ()))) (se (fun y28 => (some (true, ()))) (fun z29 => (some (z29.1.1, ())))))))))
def Hq (a0 : De) : Option Bh :=
 (some ((decide (((ln a0 : Nat) : Int) > 1048576)), ()))
def Kq (t0 : De) (t3 : Int) (t4 : Int) : Option ((Db × Unit) ⊕ ((LL × Unit) ⊕ Nk)) :=
 (cond (decide (t4 < ((ln t0 : Nat) : Int)))
 (cond (decide (t4 < 4000))
 (ob (Od t0 t4) fun x3 =>
 (some (.inl ((t0, (Qk .i64 (wr .i64 ((wr .i64 ((wr .i64 (t3 * 131)) + (wr .i64 x3))) + 7)) 1073741823), (wr .i64 (t4 + 1)), ()), ()))))
 (some (.inr (.inl ((t0, t3, ()), ())))))
 (some (.inr (.inl ((t0, t3, ()), ())))))
def Mn := Vb fun x : (Db × Unit) => Kq x.1.1 x.1.2.1 x.1.2.2.1
def Bs (a0 : De) : Option Db :=
 (ob (Mn ((a0, (wr .i64 (10729 + ((ln a0 : Nat) : Int))), 0, ()), ())) (se (fun y4 => (some (y4.1.1, 0, y4.1.2.1, ()))) (fun z5 => none)))
def Vn (a0 : De) (a1 : Int) : Option Db :=
 (ob (Bs a0) fun r1 =>
 (some (r1.1, r1.2.1, (wr .i64 (r1.2.2.1 + (wr .i64 (7919 * a1)))), r1.2.2.2)))
def Th (a0 : Db) : Option (Db × Mk) :=
 (cond (decide ((0 : Int) ≤ 33))
 (cond (decide ((0 : Int) ≤ 45))
 (cond (decide (a0.2.1 < ((ln a0.1 : Nat) : Int)))
 (ob (Od a0.1 a0.2.1) fun x1 =>
 (some ((a0.1, (wr .i64 (a0.2.1 + 1)), (wr .i64 ((wr .i64 (a0.2.2.1 * 6364136223846793005)) + 1442695040888963407)), a0.2.2.2), ((Qk .i64 (wr .i64 ((Qk .i64 (Gp .i64 (Ys .i64 (wr .i64 ((wr .i64 (a0.2.2.1 * 6364136223846793005)) + 1442695040888963407)) 33) (Ys .i64 (wr .i64 ((wr .i64 (a0.2.2.1 * 6364136223846793005)) + 1442695040888963407)) 45)) 255) + (wr .i64 x1))) 255), ()))))
 (some ((a0.1, a0.2.1, (wr .i64 ((wr .i64 (a0.2.2.1 * 6364136223846793005)) + 1442695040888963407)), a0.2.2.2), ((Qk .i64 (Gp .i64 (Ys .i64 (wr .i64 ((wr .i64 (a0.2.2.1 * 6364136223846793005)) + 1442695040888963407)) 33) (Ys .i64 (wr .i64 ((wr .i64 (a0.2.2.1 * 6364136223846793005)) + 1442695040888963407)) 45)) 255), ()))))
 none)
 none)
def Wa (a0 : Db) (a1 : Int) : Option (Db × Mk) :=
 (cond (decide (a1 ≤ 0))
 (some (a0, (0, ())))
 (cond (decide (a1 ≤ 256))
 (ob (Th a0) fun r1 =>
 (cond (a1 == 0)
 none
 (some (r1.1, ((Int.tmod r1.2.1 a1), ())))))
 (ob (Th a0) fun r2 =>
 (ob (Th r2.1) fun r3 =>
 (ob (Th r3.1) fun r4 =>
 (ob (Th r4.1) fun r5 =>
 (cond (a1 == 0)
 none
 (some (r5.1, ((Int.tmod (wr .i64 ((wr .i64 ((wr .i64 ((wr .i64 (r2.2.1 * 16777216)) + (wr .i64 (r3.2.1 * 65536)))) + (wr .i64 (r4.2.1 * 256)))) + r5.2.1)) a1), ()))))))))))
def Ol (a0 : Db) (a1 : Int) : Option (Db × Bh) :=
 (ob (Wa a0 a1) fun r1 =>
 (some (r1.1, ((r1.2.1 == 0), ()))))
def Hn (a0 : Db) (a1 : De) : Option (Db × Mk) :=
 (ob (Wa a0 ((ln a1 : Nat) : Int)) fun r1 =>
 (cond (Xi (ln a1) r1.2.1)
 (ob a1[(tn r1.2.1)]? fun x2 =>
 (some (r1.1, (x2, ()))))
 none))
def Bk (a0 : Aa) : Option Bh :=
 (ob (Wf a0) fun r1 =>
 (cond r1.1
 (cond (a0.1 == 6)
 (some (true, ()))
 (some ((a0.1 == 7), ())))
 (some (false, ()))))
def Wr (a0 : Aa) : Option FG :=
 (ob (Bk a0) fun r1 =>
 (cond (!r1.1)
 (some (a0, ()))
 (some ((2, a0.2.1, 0, 0, ()), ()))))
def Gi (t2 : Unit) (t3 : Unit) (t10 : (List Xh)) (t11 : Int) (t12 : Int) (b2 : Ha) (b3 : Ha) : Option (((Unit × (Unit × Jt)) × Wo) ⊕ RT) :=
 (cond (decide (t12 < t11))
 (ob (Od t10 t12) fun x4 =>
 (cond (bl (ln ([] : List Aa) + ln x4) Ob)
 (cond (bl (ln b3.2.1 + ln ([(ap [] x4)] : List Xh)) Ob)
 (some (.inl (((), (), t10, t11, (wr .i64 (t12 + 1)), ()), (b2, (b3.1, (ap b3.2.1 ([(ap [] x4)] : List Xh)), ()), ()))))
 none)
 none))
 (some (.inr (.inl (((), (), ()), (b2, b3, ()))))))
def Hj := Vb fun x : ((Unit × (Unit × Jt)) × Wo) => Gi x.1.1 x.1.2.1 x.1.2.2.1 x.1.2.2.2.1 x.1.2.2.2.2.1 x.2.1 x.2.2.1
def Zg (a0 : Ha) : Option Pl :=
 (ob (Hj (((), (), a0.2.1, ((ln a0.2.1 : Nat) : Int), 0, ()), ((0, [], ()), (a0.1, [], ()), ()))) (se (fun y5 => (some (y5.2.2.1, ()))) (fun z6 => none)))
def Hi (t3 : Cn) (t6 : Cn) (t7 : Int) (t8 : Int) : Option (((Cn × (Cn × Nb)) × Unit) ⊕ (((Cn × Unit) × Unit) ⊕ Nk)) :=
 (cond (decide (t8 < t7))
 (ob (Od t6 t8) fun x4 =>
 (cond (bl (ln ([] : List Gd) + ln x4) Ob)
 (cond (bl (ln t3 + ln ([(ap [] x4)] : List It)) Ob)
 (some (.inl (((ap t3 ([(ap [] x4)] : List It)), t6, t7, (wr .i64 (t8 + 1)), ()), ())))
 none)
 none))
 (some (.inr (.inl ((t3, ()), ())))))
def Ij := Vb fun x : ((Cn × (Cn × Nb)) × Unit) => Hi x.1.1 x.1.2.1 x.1.2.2.1 x.1.2.2.2.1
def Vi (a0 : Cn) : Option (Cn × Unit) :=
 (ob (Ij (([], a0, ((ln a0 : Nat) : Int), 0, ()), ())) (se (fun y5 => (some (y5.1.1, ()))) (fun z6 => none)))
def Gj (a0 : Int) (a1 : Int) : Option Mk :=
 (cond (decide (0 ≤ a1))
 (some ((Qk .i64 (Ys .i64 a0 a1) 1), ()))
 none)
def Zl (t3 : Int) (t6 : Ql) (t7 : Int) (t8 : Int) : Option (Gy ⊕ Vr) :=
 (cond (decide (t8 < t7))
 (ob (Od t6 t8) fun x7 =>
 (cond (decide (x7.1 < 0))
 (some (.inr (.inr ((false, ()), ()))))
 (cond (decide (x7.1 > 31))
 (some (.inr (.inr ((false, ()), ()))))
 (ob (Gj t3 x7.1) fun r8 =>
 (cond (r8.1 == 1)
 (some (.inr (.inr ((false, ()), ()))))
 (ob (Wf x7.2.1) fun r9 =>
 (cond (!r9.1)
 (some (.inr (.inr ((false, ()), ()))))
 (cond (x7.2.1.1 == 1)
 (some (.inr (.inr ((false, ()), ()))))
 (cond (x7.2.1.1 == 6)
 (some (.inr (.inr ((false, ()), ()))))
 (cond (x7.2.1.1 == 7)
 (some (.inr (.inr ((false, ()), ()))))
 (cond (decide (0 ≤ x7.1))
 (some (.inl (((Td .i64 t3 (Be .i64 1 x7.1)), t6, t7, (wr .i64 (t8 + 1)), ()), ())))
 none)))))))))))
 (some (.inr (.inl ((), ())))))
def Nm := Vb fun x : Gy => Zl x.1.1 x.1.2.1 x.1.2.2.1 x.1.2.2.2.1
def Lg (a0 : Ql) : Option Bh :=
 (ob (Nm ((0, a0, ((ln a0 : Nat) : Int), 0, ()), ())) (se (fun y10 => (some (true, ()))) (fun z11 => (some (z11.1.1, ())))))
def Cm (t3 : Unit) (t7 : Ur) (t8 : Int) (t9 : Int) (b3 : Nb) : Option (((Unit × DG) × MT) ⊕ KL) :=
 (cond (decide (t9 < t8))
 (ob (Od t7 t9) fun x3 =>
 (cond (Ji We x3 b3)
 (some (.inr (.inr ((t9, ()), ()))))
 (some (.inl (((), t7, t8, (wr .i64 (t9 + 1)), ()), (b3, ()))))))
 (some (.inr (.inl ((), ())))))
def Sm := Vb fun x : ((Unit × DG) × MT) => Cm x.1.1 x.1.2.1 x.1.2.2.1 x.1.2.2.2.1 x.2.1
def Sn (a0 : Ur) (a1 : Nb) : Option Mk :=
 (ob (Sm (((), a0, ((ln a0 : Nat) : Int), 0, ()), (a1, ()))) (se (fun y4 => (some ((-1), ()))) (fun z5 => (some (z5.1.1, ())))))
def Ai (t3 : Ur) (t11 : It) (t12 : Int) (t13 : Int) : Option ((GG × Unit) ⊕ (((Ur × Unit) × Unit) ⊕ Dy)) :=
 (cond (decide (t13 < t12))
 (ob (Od t11 t13) fun x10 =>
 (ob (Sn t3 x10.2) fun r11 =>
 (ob (Wf (2, x10.2.1, x10.2.2.1, 0, ())) fun r12 =>
 (cond (!r12.1)
 (some (.inr (.inr ((false, ()), ()))))
 (cond (x10.1 == 0)
 (cond (decide (r11.1 ≥ 0))
 (some (.inr (.inr ((false, ()), ()))))
 (cond (x10.1 == 1)
 (cond (bl (ln t3 + ln ([x10.2] : List Nb)) Ob)
 (some (.inl (((ap t3 ([x10.2] : List Nb)), t11, t12, (wr .i64 (t13 + 1)), ()), ())))
 none)
 (some (.inl ((t3, t11, t12, (wr .i64 (t13 + 1)), ()), ())))))
 (cond (x10.1 == 1)
 (cond (decide (r11.1 ≥ 0))
 (some (.inr (.inr ((false, ()), ()))))
 (cond (x10.1 == 1)
 (cond (bl (ln t3 + ln ([x10.2] : List Nb)) Ob)
 (some (.inl (((ap t3 ([x10.2] : List Nb)), t11, t12, (wr .i64 (t13 + 1)), ()), ())))
 none)
 (some (.inl ((t3, t11, t12, (wr .i64 (t13 + 1)), ()), ())))))
 (cond (x10.1 == 2)
 (cond (decide (r11.1 < 0))
 (some (.inr (.inr ((false, ()), ()))))
 (cond (Je (ln t3) 0 r11.1)
 (cond (Je (ln t3) (wr .i64 (r11.1 + 1)) ((ln t3 : Nat) : Int))
 (cond (bl (ln (Dc t3 (tn 0) (tn r11.1)) + ln (Dc t3 (tn (wr .i64 (r11.1 + 1))) (tn ((ln t3 : Nat) : Int)))) Ob)
 (some (.inl (((ap (Dc t3 (tn 0) (tn r11.1)) (Dc t3 (tn (wr .i64 (r11.1 + 1))) (tn ((ln t3 : Nat) : Int)))), t11, t12, (wr .i64 (t13 + 1)), ()), ())))
 none)
 none)
 none))
 (some (.inr (.inr ((false, ()), ())))))))))))
 (some (.inr (.inl ((t3, ()), ())))))
def Sl := Vb fun x : (GG × Unit) => Ai x.1.1 x.1.2.1 x.1.2.2.1 x.1.2.2.2.1
def Om (a0 : It) : Option Bh :=
 (cond (decide (((ln a0 : Nat) : Int) > 8))
 (some (false, ()))
 (ob (Sl (([], a0, ((ln a0 : Nat) : Int), 0, ()), ())) (se (fun y13 => (some ((((ln y13.1.1 : Nat) : Int) == 0), ()))) (fun z14 => (some (z14.1.1, ()))))))
def Pj (t1 : Unit) (t35 : Cn) (t36 : Int) (t37 : Int) (b1 : Ra) : Option (((Unit × (Cn × Nb)) × Ht) ⊕ ((Nk × Ht) ⊕ Dy)) :=
 (cond (decide (t37 < t36))
 (ob (Od t35 t37) fun x7 =>
 (ob (Om x7) fun r8 =>
 (cond (!r8.1)
 (some (.inr (.inr ((false, ()), ()))))
 (some (.inl (((), t35, t36, (wr .i64 (t37 + 1)), ()), (b1, ())))))))
 (some (.inr (.inl (((), ()), (b1, ()))))))
def Ih := Vb fun x : ((Unit × (Cn × Nb)) × Ht) => Pj x.1.1 x.1.2.1 x.1.2.2.1 x.1.2.2.2.1 x.2.1
def Si (t1 : Unit) (t5 : Int) (t50 : Ql) (t51 : Int) (t52 : Int) (b1 : Ra) : Option (((Unit × (Int × NB)) × Ht) ⊕ ((HL × Ht) ⊕ Dy)) :=
 (cond (decide (t52 < t51))
 (ob (Od t50 t52) fun x13 =>
 (cond (decide (x13.1 ≥ b1.1.1))
 (some (.inr (.inr ((false, ()), ()))))
 (cond (x13.2.1.1 != 9)
 (cond (decide (x13.2.1.2.2.2.1 ≥ t5))
 (some (.inr (.inr ((false, ()), ()))))
 (some (.inl (((), t5, t50, t51, (wr .i64 (t52 + 1)), ()), (b1, ())))))
 (some (.inl (((), t5, t50, t51, (wr .i64 (t52 + 1)), ()), (b1, ())))))))
 (some (.inr (.inl (((), t5, ()), (b1, ()))))))
def Wg := Vb fun x : ((Unit × (Int × NB)) × Ht) => Si x.1.1 x.1.2.1 x.1.2.2.1 x.1.2.2.2.1 x.1.2.2.2.2.1 x.2.1
def Ch (a0 : Ra) : Option Bh :=
 (ob (Ni a0.1) fun r1 =>
 (cond (!r1.1)
 (some (false, ()))
 (cond (decide (((ln a0.2.1 : Nat) : Int) > 4))
 (some (false, ()))
 (ob (Lg a0.2.2.2.1) fun r2 =>
 (cond (!r2.1)
 (some (false, ()))
 (cond (decide (a0.2.2.2.2.1 < 0))
 (some (false, ()))
 (cond (decide (a0.2.2.2.2.1 > 15))
 (some (false, ()))
 (ob (Ih (((), a0.2.1, ((ln a0.2.1 : Nat) : Int), 0, ()), (a0, ()))) (se (fun y9 => (ob (Wg (((), ((ln y9.2.1.1.2.1 : Nat) : Int), y9.2.1.2.2.2.1, ((ln y9.2.1.2.2.2.1 : Nat) : Int), 0, ()), (y9.2.1, ()))) (se (fun y14 => (cond (decide (y14.2.1.2.2.1 ≥ 0))
 (cond ((2 : Int) == 0)
 none
 (cond ((Int.tmod y14.2.1.2.2.1 2) == 0)
 (cond (decide (0 ≤ y14.1.2.1))
 (some ((decide (y14.2.1.2.2.1 < (Be .i64 1 y14.1.2.1))), ()))
 none)
 (some (false, ()))))
 (some (false, ())))) (fun z15 => (some (z15.1.1, ())))))) (fun z10 => (some (z10.1.1, ()))))))))))))
def Uh (a0 : Ha) (a1 : Cn) : Option (Ra × Bh) :=
 (ob (Zg a0) fun r1 =>
 (ob (Vi a1) fun r2 =>
 (ob (Ch (r1.1, r2.1, 0, [], 0, false, ())) fun r3 =>
 (cond (!r3.1)
 (some (Gm, false, ()))
 (some ((r1.1, r2.1, 0, [], 0, false, ()), true, ()))))))
def Ui (a0 : Ra) : Option Ht :=
 (ob (Zg a0.1) fun r1 =>
 (ob (Vi a0.2.1) fun r2 =>
 (cond (bl (ln ([] : List Pa) + ln a0.2.2.2.1) Ob)
 (some ((r1.1, r2.1, a0.2.2.1, (ap [] a0.2.2.2.1), a0.2.2.2.2), ()))
 none)))
def Yl (t1 : Int) (t8 : Ql) (t9 : Int) (t10 : Int) : Option (Gy ⊕ KL) :=
 (cond (decide (t10 < t9))
 (ob (Od t8 t10) fun x3 =>
 (cond (x3.1 == t1)
 (some (.inr (.inr ((t10, ()), ()))))
 (some (.inl ((t1, t8, t9, (wr .i64 (t10 + 1)), ()), ())))))
 (some (.inr (.inl ((), ())))))
def Mm := Vb fun x : Gy => Yl x.1.1 x.1.2.1 x.1.2.2.1 x.1.2.2.2.1
def Ll (a0 : Ra) (a1 : Int) : Option Mk :=
 (ob (Mm ((a1, a0.2.2.2.1, ((ln a0.2.2.2.1 : Nat) : Int), 0, ()), ())) (se (fun y4 => (some ((-1), ()))) (fun z5 => (some (z5.1.1, ())))))
def sort_Ints (x0 : De) : Option KB := CU x0
def Bm (t1 : Int) (t7 : De) (t8 : Int) (t9 : Int) : Option (((Int × IL) × Unit) ⊕ Vr) :=
 (cond (decide (t9 < t8))
 (ob (Od t7 t9) fun x3 =>
 (cond (x3 == t1)
 (some (.inr (.inr ((true, ()), ()))))
 (some (.inl ((t1, t7, t8, (wr .i64 (t9 + 1)), ()), ())))))
 (some (.inr (.inl ((), ())))))
def Rm := Vb fun x : ((Int × IL) × Unit) => Bm x.1.1 x.1.2.1 x.1.2.2.1 x.1.2.2.2.1
def Sq (a0 : De) (a1 : Int) : Option Bh :=
 (ob (Rm ((a1, a0, ((ln a0 : Nat) : Int), 0, ()), ())) (se (fun y4 => (some (false, ()))) (fun z5 => (some (z5.1.1, ())))))
def Vk (t4 : De) (t11 : De) (t12 : Int) (t13 : Int) : Option (HG ⊕ ((KB × Unit) ⊕ Nk)) :=
 (cond (decide (t13 < t12))
 (cond (Xi (ln t11) t13)
 (ob t11[(tn t13)]? fun x9 =>
 (cond (x9 != 0)
 (ob (Sq t4 x9) fun r10 =>
 (cond (!r10.1)
 (cond (bl (ln t4 + ln ([x9] : List Int)) Ob)
 (some (.inl (((ap t4 ([x9] : List Int)), t11, t12, (wr .i64 (t13 + 1)), ()), ())))
 none)
 (some (.inl ((t4, t11, t12, (wr .i64 (t13 + 1)), ()), ())))))
 (some (.inl ((t4, t11, t12, (wr .i64 (t13 + 1)), ()), ())))))
 none)
 (some (.inr (.inl ((t4, ()), ())))))
def Tl := Vb fun x : HG => Vk x.1.1 x.1.2.1 x.1.2.2.1 x.1.2.2.2.1
def Ck (a0 : De) : Option KB :=
 (ob (Gl a0) fun r1 =>
 (ob (sort_Ints r1.1) fun r2 =>
 (ob (Tl (([], r2.1, ((ln r2.1 : Nat) : Int), 0, ()), ())) (se (fun y11 => (some (y11.1.1, ()))) (fun z12 => none)))))
def Rj (t2 : Unit) (t3 : Unit) (t4 : De) (t11 : Ql) (t12 : Int) (t13 : Int) (b2 : Ga) (b3 : Ga) : Option (((Unit × (Unit × (De × NB))) × PG) ⊕ PT) :=
 (cond (decide (t13 < t12))
 (ob (Od t11 t13) fun x5 =>
 (cond (x5.2.1.1 == 2)
 (cond (bl (ln t4 + ln ([x5.2.1.2.1] : List Int)) Ob)
 (some (.inl (((), (), (ap t4 ([x5.2.1.2.1] : List Int)), t11, t12, (wr .i64 (t13 + 1)), ()), (b2, ((Td .i64 b3.1 x5.2.1.2.2.1), b3.2.1, ()), ()))))
 none)
 (cond (x5.2.1.1 == 8)
 (cond (bl (ln t4 + ln ([x5.2.1.2.1] : List Int)) Ob)
 (some (.inl (((), (), (ap t4 ([x5.2.1.2.1] : List Int)), t11, t12, (wr .i64 (t13 + 1)), ()), (b2, ((Td .i64 b3.1 x5.2.1.2.2.1), b3.2.1, ()), ()))))
 none)
 (cond (bl (ln t4 + ln ([x5.2.1.2.1] : List Int)) Ob)
 (some (.inl (((), (), (ap t4 ([x5.2.1.2.1] : List Int)), t11, t12, (wr .i64 (t13 + 1)), ()), (b2, b3, ()))))
 none))))
 (some (.inr (.inl (((), (), t4, ()), (b2, b3, ()))))))
def Tk := Vb fun x : ((Unit × (Unit × (De × NB))) × PG) => Rj x.1.1 x.1.2.1 x.1.2.2.1 x.1.2.2.2.1 x.1.2.2.2.2.1 x.1.2.2.2.2.2.1 x.2.1 x.2.2.1
def Wb (a0 : Ql) : Option LB :=
 (ob (Lg a0) fun r1 =>
 (cond (!r1.1)
 (some ((0, [], ()), ()))
 (ob (Tk (((), (), [], a0, ((ln a0 : Nat) : Int), 0, ()), ((0, [], ()), (0, [], ()), ()))) (se (fun y6 => (ob (Ck y6.1.2.2.1) fun r8 =>
 (some ((y6.2.2.1.1, r8.1, ()), ())))) (fun z7 => none)))))
def Sj (t0 : De) (t1 : De) (t12 : Int) (t13 : Int) : Option (HG ⊕ Vr) :=
 (cond (decide (t13 < t12))
 (ob (Od t0 t13) fun x5 =>
 (ob (Od t1 t13) fun x6 =>
 (cond (x5 != x6)
 (some (.inr (.inr ((false, ()), ()))))
 (some (.inl ((t0, t1, t12, (wr .i64 (t13 + 1)), ()), ()))))))
 (some (.inr (.inl ((), ())))))
def Wk := Vb fun x : HG => Sj x.1.1 x.1.2.1 x.1.2.2.1 x.1.2.2.2.1
def Zn (a0 : De) (a1 : De) : Option Bh :=
 (cond (((ln a0 : Nat) : Int) != ((ln a1 : Nat) : Int))
 (some (false, ()))
 (ob (Wk ((a0, a1, ((ln a0 : Nat) : Int), 0, ()), ())) (se (fun y7 => (some (true, ()))) (fun z8 => (some (z8.1.1, ()))))))
def Ti (a0 : Ga) (a1 : Ga) : Option Bh :=
 (cond (a0.1 == a1.1)
 (ob (Zn a0.2.1 a1.2.1) fun r1 =>
 (some (r1.1, ())))
 (some (false, ())))
def Fo (a b : Ga) : Bool := (a.1 == b.1) && (a.2.1 == b.2.1)
def FT (c : T Oc → T Oc → Option Bool) (a b : T Oc) : Option Bh := ob (c a b) fun x => some (x, ())
def Cq (c : T Oc → T Oc → Option Bool) (t2 : Unit) (t5 : (List (Int × ((T .o) × Unit)))) (t8 : (List (Int × ((T .o) × Unit)))) (t9 : Int) (t10 : Int) (b2 : (Int × ((T .o) × Unit))) : Option (((Unit × ((List (Int × ((T .o) × Unit))) × ((List (Int × ((T .o) × Unit))) × Nb))) × ((Int × ((T .o) × Unit)) × Unit)) ⊕ ((((List (Int × ((T .o) × Unit))) × Unit) × Unit) ⊕ Nk)) :=
 (cond (decide (t10 < t9))
 (ob (Od t8 t10) fun x7 =>
 (ob (FT c b2 x7) fun r8 =>
 (cond (!r8.1)
 (cond (bl (ln t5 + ln ([x7] : List (Int × ((T .o) × Unit)))) Ob)
 (some (.inl (((), (ap t5 ([x7] : List (Int × ((T .o) × Unit)))), t8, t9, (wr .i64 (t10 + 1)), ()), (x7, ()))))
 none)
 (some (.inl (((), t5, t8, t9, (wr .i64 (t10 + 1)), ()), (x7, ())))))))
 (some (.inr (.inl ((t5, ()), ())))))
def Il (c : T Oc → T Oc → Option Bool) (x : ((Unit × ((List (Int × ((T .o) × Unit))) × ((List (Int × ((T .o) × Unit))) × Nb))) × ((Int × ((T .o) × Unit)) × Unit))) : Option ((((List (Int × ((T .o) × Unit))) × Unit) × Unit) ⊕ Nk) := Vb (fun x : ((Unit × ((List (Int × ((T .o) × Unit))) × ((List (Int × ((T .o) × Unit))) × Nb))) × ((Int × ((T .o) × Unit)) × Unit)) => Cq c x.1.1 x.1.2.1 x.1.2.2.1 x.1.2.2.2.1 x.1.2.2.2.2.1 x.2.1) x
def VL (c : T Oc → T Oc → Option Bool) (a0 : (Int × ((T .o) × Unit))) (a1 : (List (Int × ((T .o) × Unit)))) : Option ((List (Int × ((T .o) × Unit))) × Unit) :=
 (ob (Il c (((), ([] : List (Int × ((T .o) × Unit))), a1, ((ln a1 : Nat) : Int), 0, ()), (a0, ()))) (se (fun y9 => (some (y9.1.1, ()))) (fun z10 => none)))
def Qc (a0 : Ga) (a1 : List Ga) : Option MB := UL Fo a0 a1
def Fp (a0 : Ra) (a1 : Int) : Option (Ra × MB) :=
 (ob (Ui a0) fun r1 =>
 (ob (Ll a0 a1) fun r2 =>
 (cond (Je (ln r1.1.2.2.2.1) 0 r2.1)
 (cond (Je (ln r1.1.2.2.2.1) (wr .i64 (r2.1 + 1)) ((ln r1.1.2.2.2.1 : Nat) : Int))
 (cond (bl (ln (Dc r1.1.2.2.2.1 (tn 0) (tn r2.1)) + ln (Dc r1.1.2.2.2.1 (tn (wr .i64 (r2.1 + 1))) (tn ((ln r1.1.2.2.2.1 : Nat) : Int)))) Ob)
 (ob (Wb a0.2.2.2.1) fun r3 =>
 (ob (Wb (ap (Dc r1.1.2.2.2.1 (tn 0) (tn r2.1)) (Dc r1.1.2.2.2.1 (tn (wr .i64 (r2.1 + 1))) (tn ((ln r1.1.2.2.2.1 : Nat) : Int))))) fun r4 =>
 (ob (Qc r3.1 ([r4.1] : List Ga)) fun r5 =>
 (some ((r1.1.1, r1.1.2.1, r1.1.2.2.1, (ap (Dc r1.1.2.2.2.1 (tn 0) (tn r2.1)) (Dc r1.1.2.2.2.1 (tn (wr .i64 (r2.1 + 1))) (tn ((ln r1.1.2.2.2.1 : Nat) : Int)))), r1.1.2.2.2.2), r5.1, ())))))
 none)
 none)
 none)))
def Qj (t5 : Int) (t21 : Ql) (t22 : Int) (t23 : Int) : Option (Gy ⊕ IT) :=
 (cond (decide (t23 < t22))
 (ob (Od t21 t23) fun x16 =>
 (cond (x16.2.1.1 == 3)
 (cond (decide (0 ≤ x16.2.1.2.2.2.1))
 (some (.inl (((Td .i64 t5 (Be .i64 1 x16.2.1.2.2.2.1)), t21, t22, (wr .i64 (t23 + 1)), ()), ())))
 none)
 (some (.inl ((t5, t21, t22, (wr .i64 (t23 + 1)), ()), ())))))
 (some (.inr (.inl ((t5, ()), ())))))
def Qf := Vb fun x : Gy => Qj x.1.1 x.1.2.1 x.1.2.2.1 x.1.2.2.2.1
def Dh (a0 : Int) (a1 : Ql) : Option Mk :=
 (cond (decide (a0 ≥ 0))
 (cond (decide (a0 ≤ 15))
 (ob (Lg a1) fun r1 =>
 (cond (!r1.1)
 (some ((Td .i64 1 a0), ()))
 (ob (Qf (((Td .i64 1 a0), a1, ((ln a1 : Nat) : Int), 0, ()), ())) (se (fun y5 => (some (y5.1.1, ()))) (fun z6 => none)))))
 (ob (Lg a1) fun r7 =>
 (cond (!r7.1)
 (some (1, ()))
 (ob (Qf ((1, a1, ((ln a1 : Nat) : Int), 0, ()), ())) (se (fun y11 => (some (y11.1.1, ()))) (fun z12 => none))))))
 (ob (Lg a1) fun r13 =>
 (cond (!r13.1)
 (some (1, ()))
 (ob (Qf ((1, a1, ((ln a1 : Nat) : Int), 0, ()), ())) (se (fun y17 => (some (y17.1.1, ()))) (fun z18 => none))))))
def Ws (t1 : Int) (t2 : Int) (t3 : Unit) (t7 : Int) (b3 : Ha) : Option (KT ⊕ KL) :=
 (cond (decide (t7 > 0))
 (ob (Gj t1 t7) fun r7 =>
 (cond (r7.1 == 1)
 (ob (Od b3.2.1 t7) fun x8 =>
 (ob (Od x8 t2) fun x9 =>
 (cond (x9.1 != 1)
 (some (.inr (.inr ((t7, ()), ()))))
 (some (.inl ((t1, t2, (), (wr .i64 (t7 - 1)), ()), (b3, ())))))))
 (some (.inl ((t1, t2, (), (wr .i64 (t7 - 1)), ()), (b3, ()))))))
 (some (.inr (.inl ((), ())))))
def Bf := Vb fun x : KT => Ws x.1.1 x.1.2.1 x.1.2.2.1 x.1.2.2.2.1 x.2.1
def Ep (a0 : Ha) (a1 : Int) (a2 : Int) : Option Mk :=
 (ob (Bf ((a1, a2, (), (wr .i64 (((ln a0.2.1 : Nat) : Int) - 1)), ()), (a0, ()))) (se (fun y10 => (some (0, ()))) (fun z11 => (some (z11.1.1, ())))))
def Qq (a0 : Aa) : Option FG :=
 (ob (Bk a0) fun r1 =>
 (cond (!r1.1)
 (some (a0, ()))
 (cond (a0.1 == 6)
 (some ((2, 0, a0.2.2.1, 0, ()), ()))
 (some ((3, 0, 0, a0.2.2.2.1, ()), ())))))
def Am (a0 : Int) : Option Bh :=
 (cond (decide (a0 ≥ 1))
 (cond (decide (a0 ≤ 36))
 (some (true, ()))
 (cond (a0 == 39)
 (some (true, ()))
 (some ((a0 == 42), ()))))
 (cond (a0 == 39)
 (some (true, ()))
 (some ((a0 == 42), ()))))
def Kj (a0 : Ra) (a1 : Aa) : Option (Ra × FG) :=
 (cond (a1.1 == 2)
 (cond (a1.2.1 == 0)
 (some (a0, (a1, ())))
 (cond a0.2.2.2.2.2.1
 (ob (Am a1.2.1) fun r1 =>
 (cond r1.1
 (cond (decide (a1.2.1 ≤ 26))
 (cond ((Ff .i64 (Td .i64 a1.2.2.1 a0.2.2.2.2.1) 2) == 0)
 (some ((a0.1, a0.2.1, a0.2.2.1, a0.2.2.2.1, 0, r1.1, a0.2.2.2.2.2.2), ((a1.1, a1.2.1, 2, a1.2.2.2), ())))
 (some ((a0.1, a0.2.1, a0.2.2.1, a0.2.2.2.1, 0, r1.1, a0.2.2.2.2.2.2), ((a1.1, a1.2.1, (Td .i64 a1.2.2.1 a0.2.2.2.2.1), a1.2.2.2), ()))))
 (some ((a0.1, a0.2.1, a0.2.2.1, a0.2.2.2.1, 0, r1.1, a0.2.2.2.2.2.2), ((a1.1, a1.2.1, (Td .i64 a1.2.2.1 a0.2.2.2.2.1), a1.2.2.2), ()))))
 (some ((a0.1, a0.2.1, a0.2.2.1, a0.2.2.2.1, 0, r1.1, a0.2.2.2.2.2.2), ((a1.1, a1.2.1, (Td .i64 a1.2.2.1 a0.2.2.2.2.1), a1.2.2.2), ())))))
 (some ((a0.1, a0.2.1, a0.2.2.1, a0.2.2.2.1, 0, false, a0.2.2.2.2.2.2), ((a1.1, a1.2.1, (Td .i64 a1.2.2.1 a0.2.2.2.2.1), a1.2.2.2), ())))))
 (cond (a1.1 == 4)
 (cond (decide (0 ≤ a1.2.2.2.1))
 (some ((a0.1, a0.2.1, (Gp .i64 a0.2.2.1 (Be .i64 1 a1.2.2.2.1)), a0.2.2.2), (a1, ())))
 none)
 (cond (a1.1 == 5)
 (cond (decide (0 ≤ a1.2.2.2.1))
 (some ((a0.1, a0.2.1, (Ff .i64 (Be .i64 1 a1.2.2.2.1) 1), a0.2.2.2), (a1, ())))
 none)
 (cond (a1.1 == 8)
 (cond ((Qk .i64 a0.2.2.2.2.1 a1.2.2.1) == a1.2.2.1)
 (some ((a0.1, a0.2.1, a0.2.2.1, a0.2.2.2.1, (Ff .i64 a0.2.2.2.2.1 a1.2.2.1), a0.2.2.2.2.2), (a1, ())))
 (some ((a0.1, a0.2.1, a0.2.2.1, a0.2.2.2.1, (Td .i64 a0.2.2.2.2.1 a1.2.2.1), a0.2.2.2.2.2), (a1, ()))))
 (cond (a1.1 == 10)
 (some ((a0.1, a0.2.1, a0.2.2.1, a0.2.2.2.1, a0.2.2.2.2.1, (!a0.2.2.2.2.2.1), a0.2.2.2.2.2.2), (a1, ())))
 (some (a0, (a1, ()))))))))
def Wi (t4 : Unit) (t5 : Unit) (t6 : De) (t15 : Ur) (t16 : Int) (t17 : Int) (b4 : Ga) (b5 : Ga) : Option (((Unit × (Unit × (De × DG))) × PG) ⊕ PT) :=
 (cond (decide (t17 < t16))
 (ob (Od t15 t17) fun x4 =>
 (cond (bl (ln t6 + ln ([x4.1] : List Int)) Ob)
 (some (.inl (((), (), (ap t6 ([x4.1] : List Int)), t15, t16, (wr .i64 (t17 + 1)), ()), (b4, ((Td .i64 b5.1 x4.2.1), b5.2.1, ()), ()))))
 none))
 (some (.inr (.inl (((), (), t6, ()), (b4, b5, ()))))))
def Ek := Vb fun x : ((Unit × (Unit × (De × DG))) × PG) => Wi x.1.1 x.1.2.1 x.1.2.2.1 x.1.2.2.2.1 x.1.2.2.2.2.1 x.1.2.2.2.2.2.1 x.2.1 x.2.2.1
def Fd (a0 : Ga) (a1 : Ur) : Option LB :=
 (ob (Gl a0.2.1) fun r1 =>
 (ob (Ek (((), (), r1.1, a1, ((ln a1 : Nat) : Int), 0, ()), ((0, [], ()), (a0.1, [], ()), ()))) (se (fun y5 => (ob (Ck y5.1.2.2.1) fun r7 =>
 (some ((y5.2.2.1.1, r7.1, ()), ())))) (fun z6 => none))))
def Yg (t5 : Unit) (t6 : Wp) (t7 : Ur) (t22 : It) (t23 : Int) (t24 : Int) (b5 : Ga) : Option (((Unit × (Wp × GG)) × LB) ⊕ TZ) :=
 (cond (decide (t24 < t23))
 (ob (Od t22 t24) fun x25 =>
 (cond (x25.1 == 0)
 (cond (bl (ln ([] : List Nb) + ln t7) Ob)
 (cond (bl (ln (ap [] t7) + ln ([x25.2] : List Nb)) Ob)
 (ob (Fd b5 (ap (ap [] t7) ([x25.2] : List Nb))) fun r26 =>
 (cond (bl (ln t6 + ln ([r26.1] : List Ga)) Ob)
 (ob (Fd b5 t7) fun r27 =>
 (cond (bl (ln (ap t6 ([r26.1] : List Ga)) + ln ([r27.1] : List Ga)) Ob)
 (some (.inl (((), (ap (ap t6 ([r26.1] : List Ga)) ([r27.1] : List Ga)), t7, t22, t23, (wr .i64 (t24 + 1)), ()), (b5, ()))))
 none))
 none))
 none)
 none)
 (cond (x25.1 == 1)
 (cond (bl (ln t7 + ln ([x25.2] : List Nb)) Ob)
 (ob (Fd b5 (ap t7 ([x25.2] : List Nb))) fun r28 =>
 (cond (bl (ln t6 + ln ([r28.1] : List Ga)) Ob)
 (some (.inl (((), (ap t6 ([r28.1] : List Ga)), (ap t7 ([x25.2] : List Nb)), t22, t23, (wr .i64 (t24 + 1)), ()), (b5, ()))))
 none))
 none)
 (cond (x25.1 == 2)
 (ob (Sn t7 x25.2) fun r29 =>
 (cond (Je (ln t7) 0 r29.1)
 (cond (Je (ln t7) (wr .i64 (r29.1 + 1)) ((ln t7 : Nat) : Int))
 (cond (bl (ln (Dc t7 (tn 0) (tn r29.1)) + ln (Dc t7 (tn (wr .i64 (r29.1 + 1))) (tn ((ln t7 : Nat) : Int)))) Ob)
 (ob (Fd b5 (ap (Dc t7 (tn 0) (tn r29.1)) (Dc t7 (tn (wr .i64 (r29.1 + 1))) (tn ((ln t7 : Nat) : Int))))) fun r30 =>
 (cond (bl (ln t6 + ln ([r30.1] : List Ga)) Ob)
 (some (.inl (((), (ap t6 ([r30.1] : List Ga)), (ap (Dc t7 (tn 0) (tn r29.1)) (Dc t7 (tn (wr .i64 (r29.1 + 1))) (tn ((ln t7 : Nat) : Int)))), t22, t23, (wr .i64 (t24 + 1)), ()), (b5, ()))))
 none))
 none)
 none)
 none))
 (ob (Fd b5 t7) fun r31 =>
 (cond (bl (ln t6 + ln ([r31.1] : List Ga)) Ob)
 (some (.inl (((), (ap t6 ([r31.1] : List Ga)), t7, t22, t23, (wr .i64 (t24 + 1)), ()), (b5, ()))))
 none))))))
 (some (.inr (.inl ((t6, ()), ())))))
def Bi := Vb fun x : ((Unit × (Wp × GG)) × LB) => Yg x.1.1 x.1.2.1 x.1.2.2.1 x.1.2.2.2.1 x.1.2.2.2.2.1 x.1.2.2.2.2.2.1 x.2.1
def Uf (a0 : Ql) (a1 : It) : Option MB :=
 (ob (Lg a0) fun r1 =>
 (cond (!r1.1)
 (some ([], ()))
 (ob (Om a1) fun r2 =>
 (cond (!r2.1)
 (some ([], ()))
 (ob (Wb a0) fun r3 =>
 (ob (Bi (((), [], [], a1, ((ln a1 : Nat) : Int), 0, ()), (r3.1, ()))) (se (fun y32 => (some (y32.1.1, ()))) (fun z33 => none))))))))
def Xr (a0 : Ra) (a1 : Int) (a2 : Bool) : Option (Ra × MB) :=
 (ob (Ui a0) fun r1 =>
 (ob (Dh a0.2.2.1 a0.2.2.2.1) fun r2 =>
 (ob (Ep a0.1 r2.1 a1) fun r3 =>
 (ob (Od a0.1.2.1 r3.1) fun x4 =>
 (ob (Od x4 a1) fun x5 =>
 (cond a2
 (ob (Qq x5) fun r6 =>
 (ob (Kj r1.1 r6.1) fun r7 =>
 (cond (bl (ln r7.1.2.2.2.1 + ln ([(a1, r7.2.1, ())] : List Pa)) Ob)
 (cond (r7.2.1.1 == 9)
 (cond (decide (r7.2.1.2.2.2.1 < ((ln a0.2.1 : Nat) : Int)))
 (ob (Od a0.2.1 r7.2.1.2.2.2.1) fun x8 =>
 (ob (Uf (ap r7.1.2.2.2.1 ([(a1, r7.2.1, ())] : List Pa)) x8) fun r9 =>
 (ob (Wb (ap r7.1.2.2.2.1 ([(a1, r7.2.1, ())] : List Pa))) fun r10 =>
 (cond (bl (ln r9.1 + ln ([r10.1] : List Ga)) Ob)
 (ob (Wb a0.2.2.2.1) fun r11 =>
 (ob (Qc r11.1 (ap r9.1 ([r10.1] : List Ga))) fun r12 =>
 (some ((r7.1.1, r7.1.2.1, r7.1.2.2.1, (ap r7.1.2.2.2.1 ([(a1, r7.2.1, ())] : List Pa)), r7.1.2.2.2.2), r12.1, ()))))
 none))))
 (ob (Wb (ap r7.1.2.2.2.1 ([(a1, r7.2.1, ())] : List Pa))) fun r13 =>
 (cond (bl (ln ([] : List Ga) + ln ([r13.1] : List Ga)) Ob)
 (ob (Wb a0.2.2.2.1) fun r14 =>
 (ob (Qc r14.1 (ap [] ([r13.1] : List Ga))) fun r15 =>
 (some ((r7.1.1, r7.1.2.1, r7.1.2.2.1, (ap r7.1.2.2.2.1 ([(a1, r7.2.1, ())] : List Pa)), r7.1.2.2.2.2), r15.1, ()))))
 none)))
 (ob (Wb (ap r7.1.2.2.2.1 ([(a1, r7.2.1, ())] : List Pa))) fun r16 =>
 (cond (bl (ln ([] : List Ga) + ln ([r16.1] : List Ga)) Ob)
 (ob (Wb a0.2.2.2.1) fun r17 =>
 (ob (Qc r17.1 (ap [] ([r16.1] : List Ga))) fun r18 =>
 (some ((r7.1.1, r7.1.2.1, r7.1.2.2.1, (ap r7.1.2.2.2.1 ([(a1, r7.2.1, ())] : List Pa)), r7.1.2.2.2.2), r18.1, ()))))
 none)))
 none)))
 (ob (Wr x5) fun r19 =>
 (ob (Kj r1.1 r19.1) fun r20 =>
 (cond (bl (ln r20.1.2.2.2.1 + ln ([(a1, r20.2.1, ())] : List Pa)) Ob)
 (cond (r20.2.1.1 == 9)
 (cond (decide (r20.2.1.2.2.2.1 < ((ln a0.2.1 : Nat) : Int)))
 (ob (Od a0.2.1 r20.2.1.2.2.2.1) fun x21 =>
 (ob (Uf (ap r20.1.2.2.2.1 ([(a1, r20.2.1, ())] : List Pa)) x21) fun r22 =>
 (ob (Wb (ap r20.1.2.2.2.1 ([(a1, r20.2.1, ())] : List Pa))) fun r23 =>
 (cond (bl (ln r22.1 + ln ([r23.1] : List Ga)) Ob)
 (ob (Wb a0.2.2.2.1) fun r24 =>
 (ob (Qc r24.1 (ap r22.1 ([r23.1] : List Ga))) fun r25 =>
 (some ((r20.1.1, r20.1.2.1, r20.1.2.2.1, (ap r20.1.2.2.2.1 ([(a1, r20.2.1, ())] : List Pa)), r20.1.2.2.2.2), r25.1, ()))))
 none))))
 (ob (Wb (ap r20.1.2.2.2.1 ([(a1, r20.2.1, ())] : List Pa))) fun r26 =>
 (cond (bl (ln ([] : List Ga) + ln ([r26.1] : List Ga)) Ob)
 (ob (Wb a0.2.2.2.1) fun r27 =>
 (ob (Qc r27.1 (ap [] ([r26.1] : List Ga))) fun r28 =>
 (some ((r20.1.1, r20.1.2.1, r20.1.2.2.1, (ap r20.1.2.2.2.1 ([(a1, r20.2.1, ())] : List Pa)), r20.1.2.2.2.2), r28.1, ()))))
 none)))
 (ob (Wb (ap r20.1.2.2.2.1 ([(a1, r20.2.1, ())] : List Pa))) fun r29 =>
 (cond (bl (ln ([] : List Ga) + ln ([r29.1] : List Ga)) Ob)
 (ob (Wb a0.2.2.2.1) fun r30 =>
 (ob (Qc r30.1 (ap [] ([r29.1] : List Ga))) fun r31 =>
 (some ((r20.1.1, r20.1.2.1, r20.1.2.2.1, (ap r20.1.2.2.2.1 ([(a1, r20.2.1, ())] : List Pa)), r20.1.2.2.2.2), r31.1, ()))))
 none)))
 none)))))))))
def Lh (t1 : Unit) (t3 : Int) (t4 : Int) (t13 : Int) (t14 : Int) (t17 : (List Xh)) (t18 : Int) (t19 : Int) (t24 : Xh) (t25 : Int) (t26 : Int) (b1 : Ha) : Option (((Unit × (Int × (Int × (Int × EG)))) × Pl) ⊕ (ML ⊕ Nk)) :=
 (cond (decide (t26 < t25))
 (ob (Od t24 t26) fun x161 =>
 (cond (x161.1 == 3)
 (ob (Gj t3 t4) fun r162 =>
 (cond (r162.1 == 1)
 (cond (decide (0 ≤ x161.2.2.2.1))
 (some (.inl (((), (Td .i64 t3 (Be .i64 1 x161.2.2.2.1)), t4, t13, t14, t17, t18, t19, t24, t25, (wr .i64 (t26 + 1)), ()), (b1, ()))))
 none)
 (some (.inl (((), t3, t4, t13, t14, t17, t18, t19, t24, t25, (wr .i64 (t26 + 1)), ()), (b1, ()))))))
 (cond (x161.1 == 4)
 (ob (Gj t3 t4) fun r163 =>
 (cond (r163.1 == 1)
 (cond (decide (0 ≤ x161.2.2.2.1))
 (some (.inl (((), (Td .i64 t3 (Be .i64 1 x161.2.2.2.1)), t4, t13, t14, t17, t18, t19, t24, t25, (wr .i64 (t26 + 1)), ()), (b1, ()))))
 none)
 (some (.inl (((), t3, t4, t13, t14, t17, t18, t19, t24, t25, (wr .i64 (t26 + 1)), ()), (b1, ()))))))
 (cond (x161.1 == 5)
 (ob (Gj t3 t4) fun r164 =>
 (cond (r164.1 == 1)
 (cond (decide (0 ≤ x161.2.2.2.1))
 (some (.inl (((), (Td .i64 t3 (Be .i64 1 x161.2.2.2.1)), t4, t13, t14, t17, t18, t19, t24, t25, (wr .i64 (t26 + 1)), ()), (b1, ()))))
 none)
 (some (.inl (((), t3, t4, t13, t14, t17, t18, t19, t24, t25, (wr .i64 (t26 + 1)), ()), (b1, ()))))))
 (cond (x161.1 == 7)
 (ob (Gj t3 t4) fun r165 =>
 (cond (r165.1 == 1)
 (cond (decide (0 ≤ x161.2.2.2.1))
 (some (.inl (((), (Td .i64 t3 (Be .i64 1 x161.2.2.2.1)), t4, t13, t14, t17, t18, t19, t24, t25, (wr .i64 (t26 + 1)), ()), (b1, ()))))
 none)
 (some (.inl (((), t3, t4, t13, t14, t17, t18, t19, t24, t25, (wr .i64 (t26 + 1)), ()), (b1, ()))))))
 (some (.inl (((), t3, t4, t13, t14, t17, t18, t19, t24, t25, (wr .i64 (t26 + 1)), ()), (b1, ())))))))))
 (some (.inr (.inl (((), t3, t13, t14, t17, t18, t19, ()), (b1, ()))))))
def Dg := Vb fun x : ((Unit × (Int × (Int × (Int × EG)))) × Pl) => Lh x.1.1 x.1.2.1 x.1.2.2.1 x.1.2.2.2.1 x.1.2.2.2.2.1 x.1.2.2.2.2.2.1 x.1.2.2.2.2.2.2.1 x.1.2.2.2.2.2.2.2.1 x.1.2.2.2.2.2.2.2.2.1 x.1.2.2.2.2.2.2.2.2.2.1 x.1.2.2.2.2.2.2.2.2.2.2.1 x.2.1
def Fi (t1 : Unit) (t3 : Int) (t13 : Int) (t14 : Int) (t17 : (List Xh)) (t18 : Int) (t19 : Int) (b1 : Ha) : Option (ML ⊕ ((JL × Pl) ⊕ Nk)) :=
 (cond (decide (t19 < t18))
 (ob (Od t17 t19) fun x150 =>
 (ob (Dg (((), t3, t19, t13, t14, t17, t18, t19, x150, ((ln x150 : Nat) : Int), 0, ()), (b1, ()))) (se (fun y166 => (some (.inl (((), y166.1.2.1, y166.1.2.2.1, y166.1.2.2.2.1, y166.1.2.2.2.2.1, y166.1.2.2.2.2.2.1, (wr .i64 (y166.1.2.2.2.2.2.2.1 + 1)), ()), (y166.2.1, ()))))) (fun z167 => (some (.inr (.inr ((), ()))))))))
 (some (.inr (.inl (((), t3, t13, t14, ()), (b1, ()))))))
def Mg := Vb fun x : ML => Fi x.1.1 x.1.2.1 x.1.2.2.1 x.1.2.2.2.1 x.1.2.2.2.2.1 x.1.2.2.2.2.2.1 x.1.2.2.2.2.2.2.1 x.2.1
def Ei (t1 : Unit) (t3 : Int) (t13 : Int) (t14 : Int) (b1 : Ha) : Option ((JL × Pl) ⊕ IT) :=
 (cond (decide (t14 < t13))
 (ob (Mg (((), t3, t13, t14, b1.2.1, ((ln b1.2.1 : Nat) : Int), 0, ()), (b1, ()))) (se (fun y168 => (some (.inl (((), y168.1.2.1, y168.1.2.2.1, (wr .i64 (y168.1.2.2.2.1 + 1)), ()), (y168.2.1, ()))))) (fun z169 => (some (.inr (.inr ((), ())))))))
 (some (.inr (.inl ((t3, ()), ())))))
def Fj := Vb fun x : (JL × Pl) => Ei x.1.1 x.1.2.1 x.1.2.2.1 x.1.2.2.2.1 x.2.1
def Xg (a0 : Ha) : Option Mk :=
 (ob (Ni a0) fun r1 =>
 (cond (!r1.1)
 (some (0, ()))
 (ob (Fj (((), 1, ((ln a0.2.1 : Nat) : Int), 0, ()), (a0, ()))) (se (fun y170 => (some (y170.1.1, ()))) (fun z171 => none)))))
def Tq (a0 : Db) (a1 : Int) : Option (Db × FG) :=
 (ob (Wa a0 56) fun r1 =>
 (ob (Wa r1.1 15) fun r2 =>
 (ob (Ol r2.1 2) fun r3 =>
 (cond r3.2.1
 (ob (Wa r3.1 (max 1 (wr .i64 (a1 - 1)))) fun r4 =>
 (ob (Wa r4.1 16) fun r5 =>
 (cond (r5.2.1 == 0)
 (some (r5.1, ((2, (wr .i64 (1 + r1.2.1)), 2, 0, ()), ())))
 (cond (r5.2.1 == 1)
 (some (r5.1, ((2, 0, 2, 0, ()), ())))
 (cond (r5.2.1 == 2)
 (some (r5.1, ((6, (wr .i64 (1 + r1.2.1)), 2, 0, ()), ())))
 (cond (r5.2.1 == 3)
 (some (r5.1, ((6, (wr .i64 (1 + r1.2.1)), 2, 0, ()), ())))
 (cond (r5.2.1 == 4)
 (some (r5.1, ((8, 0, 2, 0, ()), ())))
 (cond (r5.2.1 == 5)
 (ob (Wa r5.1 4) fun r6 =>
 (some (r6.1, ((9, 0, 0, r6.2.1, ()), ()))))
 (cond (r5.2.1 == 6)
 (some (r5.1, ((10, 0, 0, 0, ()), ())))
 (cond (r5.2.1 == 7)
 (ob (Wa r5.1 (max 1 a1)) fun r7 =>
 (some (r7.1, ((5, 0, 0, r7.2.1, ()), ()))))
 (cond (r5.2.1 == 8)
 (cond (decide (a1 > 1))
 (ob (Wa r5.1 3) fun r8 =>
 (cond (Xi (ln ([(3, 0, 0, (wr .i64 (1 + r4.2.1)), ()), (4, 0, 0, (wr .i64 (1 + r4.2.1)), ()), (7, (wr .i64 (1 + r1.2.1)), 0, (wr .i64 (1 + r4.2.1)), ())] : List Aa)) r8.2.1)
 (ob ([(3, 0, 0, (wr .i64 (1 + r4.2.1)), ()), (4, 0, 0, (wr .i64 (1 + r4.2.1)), ()), (7, (wr .i64 (1 + r1.2.1)), 0, (wr .i64 (1 + r4.2.1)), ())] : List Aa)[(tn r8.2.1)]? fun x9 =>
 (some (r8.1, (x9, ()))))
 none))
 (some (r5.1, ((2, (wr .i64 (1 + r1.2.1)), 0, 0, ()), ()))))
 (cond (r5.2.1 == 9)
 (cond (decide (a1 > 1))
 (ob (Wa r5.1 3) fun r10 =>
 (cond (Xi (ln ([(3, 0, 0, (wr .i64 (1 + r4.2.1)), ()), (4, 0, 0, (wr .i64 (1 + r4.2.1)), ()), (7, (wr .i64 (1 + r1.2.1)), 0, (wr .i64 (1 + r4.2.1)), ())] : List Aa)) r10.2.1)
 (ob ([(3, 0, 0, (wr .i64 (1 + r4.2.1)), ()), (4, 0, 0, (wr .i64 (1 + r4.2.1)), ()), (7, (wr .i64 (1 + r1.2.1)), 0, (wr .i64 (1 + r4.2.1)), ())] : List Aa)[(tn r10.2.1)]? fun x11 =>
 (some (r10.1, (x11, ()))))
 none))
 (some (r5.1, ((2, (wr .i64 (1 + r1.2.1)), 0, 0, ()), ()))))
 (cond (r5.2.1 == 10)
 (cond (decide (a1 > 1))
 (ob (Wa r5.1 3) fun r12 =>
 (cond (Xi (ln ([(3, 0, 0, (wr .i64 (1 + r4.2.1)), ()), (4, 0, 0, (wr .i64 (1 + r4.2.1)), ()), (7, (wr .i64 (1 + r1.2.1)), 0, (wr .i64 (1 + r4.2.1)), ())] : List Aa)) r12.2.1)
 (ob ([(3, 0, 0, (wr .i64 (1 + r4.2.1)), ()), (4, 0, 0, (wr .i64 (1 + r4.2.1)), ()), (7, (wr .i64 (1 + r1.2.1)), 0, (wr .i64 (1 + r4.2.1)), ())] : List Aa)[(tn r12.2.1)]? fun x13 =>
 (some (r12.1, (x13, ()))))
 none))
 (some (r5.1, ((2, (wr .i64 (1 + r1.2.1)), 0, 0, ()), ()))))
 (some (r5.1, ((2, (wr .i64 (1 + r1.2.1)), 0, 0, ()), ()))))))))))))))))
 (ob (Wa r3.1 (max 1 (wr .i64 (a1 - 1)))) fun r14 =>
 (ob (Wa r14.1 16) fun r15 =>
 (cond (r15.2.1 == 0)
 (some (r15.1, ((2, (wr .i64 (1 + r1.2.1)), (wr .i64 (1 + r2.2.1)), 0, ()), ())))
 (cond (r15.2.1 == 1)
 (some (r15.1, ((2, 0, (wr .i64 (1 + r2.2.1)), 0, ()), ())))
 (cond (r15.2.1 == 2)
 (some (r15.1, ((6, (wr .i64 (1 + r1.2.1)), (wr .i64 (1 + r2.2.1)), 0, ()), ())))
 (cond (r15.2.1 == 3)
 (some (r15.1, ((6, (wr .i64 (1 + r1.2.1)), (wr .i64 (1 + r2.2.1)), 0, ()), ())))
 (cond (r15.2.1 == 4)
 (some (r15.1, ((8, 0, (wr .i64 (1 + r2.2.1)), 0, ()), ())))
 (cond (r15.2.1 == 5)
 (ob (Wa r15.1 4) fun r16 =>
 (some (r16.1, ((9, 0, 0, r16.2.1, ()), ()))))
 (cond (r15.2.1 == 6)
 (some (r15.1, ((10, 0, 0, 0, ()), ())))
 (cond (r15.2.1 == 7)
 (ob (Wa r15.1 (max 1 a1)) fun r17 =>
 (some (r17.1, ((5, 0, 0, r17.2.1, ()), ()))))
 (cond (r15.2.1 == 8)
 (cond (decide (a1 > 1))
 (ob (Wa r15.1 3) fun r18 =>
 (cond (Xi (ln ([(3, 0, 0, (wr .i64 (1 + r14.2.1)), ()), (4, 0, 0, (wr .i64 (1 + r14.2.1)), ()), (7, (wr .i64 (1 + r1.2.1)), 0, (wr .i64 (1 + r14.2.1)), ())] : List Aa)) r18.2.1)
 (ob ([(3, 0, 0, (wr .i64 (1 + r14.2.1)), ()), (4, 0, 0, (wr .i64 (1 + r14.2.1)), ()), (7, (wr .i64 (1 + r1.2.1)), 0, (wr .i64 (1 + r14.2.1)), ())] : List Aa)[(tn r18.2.1)]? fun x19 =>
 (some (r18.1, (x19, ()))))
 none))
 (some (r15.1, ((2, (wr .i64 (1 + r1.2.1)), 0, 0, ()), ()))))
 (cond (r15.2.1 == 9)
 (cond (decide (a1 > 1))
 (ob (Wa r15.1 3) fun r20 =>
 (cond (Xi (ln ([(3, 0, 0, (wr .i64 (1 + r14.2.1)), ()), (4, 0, 0, (wr .i64 (1 + r14.2.1)), ()), (7, (wr .i64 (1 + r1.2.1)), 0, (wr .i64 (1 + r14.2.1)), ())] : List Aa)) r20.2.1)
 (ob ([(3, 0, 0, (wr .i64 (1 + r14.2.1)), ()), (4, 0, 0, (wr .i64 (1 + r14.2.1)), ()), (7, (wr .i64 (1 + r1.2.1)), 0, (wr .i64 (1 + r14.2.1)), ())] : List Aa)[(tn r20.2.1)]? fun x21 =>
 (some (r20.1, (x21, ()))))
 none))
 (some (r15.1, ((2, (wr .i64 (1 + r1.2.1)), 0, 0, ()), ()))))
 (cond (r15.2.1 == 10)
 (cond (decide (a1 > 1))
 (ob (Wa r15.1 3) fun r22 =>
 (cond (Xi (ln ([(3, 0, 0, (wr .i64 (1 + r14.2.1)), ()), (4, 0, 0, (wr .i64 (1 + r14.2.1)), ()), (7, (wr .i64 (1 + r1.2.1)), 0, (wr .i64 (1 + r14.2.1)), ())] : List Aa)) r22.2.1)
 (ob ([(3, 0, 0, (wr .i64 (1 + r14.2.1)), ()), (4, 0, 0, (wr .i64 (1 + r14.2.1)), ()), (7, (wr .i64 (1 + r1.2.1)), 0, (wr .i64 (1 + r14.2.1)), ())] : List Aa)[(tn r22.2.1)]? fun x23 =>
 (some (r22.1, (x23, ()))))
 none))
 (some (r15.1, ((2, (wr .i64 (1 + r1.2.1)), 0, 0, ()), ()))))
 (some (r15.1, ((2, (wr .i64 (1 + r1.2.1)), 0, 0, ()), ()))))))))))))))))))))
def Rp (t0 : Unit) (t1 : Int) (t4 : Unit) (t5 : Int) (t6 : Unit) (t7 : Int) (t8 : Xh) (t9 : Int) (b500000 : Db) (b4 : Ha) (b6 : Ha) : Option (QT ⊕ (((Unit × (Int × (Unit × (Int × (Unit × (Int × (Xh × Unit))))))) × Kt) ⊕ Nk)) :=
 (cond (decide (t9 < t1))
 (ob (Tq b500000 t5) fun r30 =>
 (cond (decide (t7 > 0))
 (ob (Ol r30.1 3) fun r31 =>
 (cond r31.2.1
 (cond (bl (ln t8 + ln ([(1, 0, 0, 0, ())] : List Aa)) Ob)
 (some (.inl (((), t1, (), t5, (), t7, (ap t8 ([(1, 0, 0, 0, ())] : List Aa)), (wr .i64 (t9 + 1)), ()), (r31.1, b4, b6, ()))))
 none)
 (cond (bl (ln t8 + ln ([r30.2.1] : List Aa)) Ob)
 (some (.inl (((), t1, (), t5, (), t7, (ap t8 ([r30.2.1] : List Aa)), (wr .i64 (t9 + 1)), ()), (r31.1, b4, b6, ()))))
 none)))
 (cond (bl (ln t8 + ln ([r30.2.1] : List Aa)) Ob)
 (some (.inl (((), t1, (), t5, (), t7, (ap t8 ([r30.2.1] : List Aa)), (wr .i64 (t9 + 1)), ()), (r30.1, b4, b6, ()))))
 none)))
 (some (.inr (.inl (((), t1, (), t5, (), t7, t8, ()), (b500000, b4, b6, ()))))))
def Ym := Vb fun x : QT => Rp x.1.1 x.1.2.1 x.1.2.2.1 x.1.2.2.2.1 x.1.2.2.2.2.1 x.1.2.2.2.2.2.1 x.1.2.2.2.2.2.2.1 x.1.2.2.2.2.2.2.2.1 x.2.1 x.2.2.1 x.2.2.2.1
def Qp (t0 : Unit) (t1 : Int) (t4 : Unit) (t5 : Int) (t6 : Unit) (t7 : Int) (b500000 : Db) (b4 : Ha) (b6 : Ha) : Option (((Unit × (Int × (Unit × NL))) × Kt) ⊕ ((ST × Kt) ⊕ Nk)) :=
 (cond (decide (t7 < t5))
 (ob (Ym (((), t1, (), t5, (), t7, [], 0, ()), (b500000, b4, b6, ()))) (se (fun y32 => (cond (bl (ln y32.2.2.2.1.2.1 + ln ([y32.1.2.2.2.2.2.2.1] : List Xh)) Ob)
 (some (.inl (((), y32.1.2.1, (), y32.1.2.2.2.1, (), (wr .i64 (y32.1.2.2.2.2.2.1 + 1)), ()), (y32.2.1, y32.2.2.1, (y32.2.2.2.1.1, (ap y32.2.2.2.1.2.1 ([y32.1.2.2.2.2.2.2.1] : List Xh)), ()), ()))))
 none)) (fun z33 => (some (.inr (.inr ((), ())))))))
 (some (.inr (.inl (((), (), (), ()), (b500000, b4, b6, ()))))))
def Xm := Vb fun x : ((Unit × (Int × (Unit × NL))) × Kt) => Qp x.1.1 x.1.2.1 x.1.2.2.1 x.1.2.2.2.1 x.1.2.2.2.2.1 x.1.2.2.2.2.2.1 x.2.1 x.2.2.1 x.2.2.2.1
def Uq (a0 : Db) (a1 : Int) : Option (Db × Pl) :=
 (ob (Wa a0 4) fun r1 =>
 (ob (Xm (((), a1, (), (wr .i64 (1 + r1.2.1)), (), 0, ()), (r1.1, (0, [], ()), (a1, [], ()), ()))) (se (fun y34 => (some (y34.2.1, (y34.2.2.2.1, ())))) (fun z35 => none))))
def Mo (t0 : Unit) (t1 : Int) (t4 : Unit) (t5 : Unit) (t6 : Int) (b500000 : Db) (b4 : Ha) (b5 : Ha) : Option (((Unit × (Int × Cv)) × Kt) ⊕ ((ST × Kt) ⊕ Nk)) :=
 (cond (decide (t6 > 0))
 (ob (Wa b500000 ((ln b5.2.1 : Nat) : Int)) fun r15 =>
 (ob (Wa r15.1 t1) fun r16 =>
 (cond (decide (((ln b5.2.1 : Nat) : Int) > 1))
 (cond (Xi (ln b5.2.1) r15.2.1)
 (ob b5.2.1[(tn r15.2.1)]? fun x17 =>
 (ob (Hn r16.1 ([4, 5, 3] : List Int)) fun r18 =>
 (ob (Wa r18.1 (wr .i64 (((ln b5.2.1 : Nat) : Int) - 1))) fun r19 =>
 (cond (Xi (ln x17) r16.2.1)
 (ob x17[(tn r16.2.1)]? fun x20 =>
 (some (.inl (((), t1, (), (), (wr .i64 (t6 - 1)), ()), (r19.1, b4, (b5.1, (ls b5.2.1 (tn r15.2.1) (ls x17 (tn r16.2.1) (r18.2.1, 0, 0, (wr .i64 (1 + r19.2.1)), ()))), ()), ())))))
 none))))
 none)
 (some (.inl (((), t1, (), (), (wr .i64 (t6 - 1)), ()), (r16.1, b4, b5, ())))))))
 (some (.inr (.inl (((), (), (), ()), (b500000, b4, b5, ()))))))
def Vl := Vb fun x : ((Unit × (Int × Cv)) × Kt) => Mo x.1.1 x.1.2.1 x.1.2.2.1 x.1.2.2.2.1 x.1.2.2.2.2.1 x.2.1 x.2.2.1 x.2.2.2.1
def Pp (a0 : Db) (a1 : Int) : Option (Db × Pl) :=
 (ob (Uq a0 a1) fun r1 =>
 (ob (Wa r1.1 6) fun r2 =>
 (ob (Vl (((), a1, (), (), r2.2.1, ()), (r2.1, (0, [], ()), r1.2.1, ()))) (se (fun y21 => (some (y21.2.1, (y21.2.2.2.1, ())))) (fun z22 => none)))))
def Rf (a0 : Ra) (a1 : Int) (a2 : Bool) : Option OT :=
 (ob (Ch a0) fun r1 =>
 (cond (!r1.1)
 (some (Gm, [], false, ()))
 (cond (decide (a1 < 0))
 (some (Gm, [], false, ()))
 (cond (decide (a1 ≥ a0.1.1))
 (some (Gm, [], false, ()))
 (ob (Ll a0 a1) fun r2 =>
 (cond (decide (r2.1 ≥ 0))
 (some (Gm, [], false, ()))
 (ob (Xr a0 a1 a2) fun r3 =>
 (some (r3.1, r3.2.1, true, ())))))))))
def Uj (t0 : De) (t1 : De) (t5 : Int) : Option (((De × LL) × Unit) ⊕ Vr) :=
 (cond (decide (t5 < ((ln t0 : Nat) : Int)))
 (ob (Od t0 t5) fun x5 =>
 (ob (Od t1 t5) fun x6 =>
 (cond (x5 != x6)
 (some (.inr (.inr ((false, ()), ()))))
 (some (.inl ((t0, t1, (wr .i64 (t5 + 1)), ()), ()))))))
 (some (.inr (.inl ((), ())))))
def Zk := Vb fun x : ((De × LL) × Unit) => Uj x.1.1 x.1.2.1 x.1.2.2.1
def Ao (a0 : De) (a1 : De) : Option Bh :=
 (cond (((ln a0 : Nat) : Int) != ((ln a1 : Nat) : Int))
 (some (false, ()))
 (ob (Zk ((a0, a1, 0, ()), ())) (se (fun y7 => (some (true, ()))) (fun z8 => (some (z8.1.1, ()))))))
def Oh (t0 : Wp) (t1 : Wp) (t5 : Int) : Option (((Wp × (Wp × Mk)) × Unit) ⊕ Vr) :=
 (cond (decide (t5 < ((ln t0 : Nat) : Int)))
 (ob (Od t0 t5) fun x11 =>
 (ob (Od t1 t5) fun x12 =>
 (cond (x11.1 != x12.1)
 (some (.inr (.inr ((false, ()), ()))))
 (ob (Od t0 t5) fun x13 =>
 (ob (Od t1 t5) fun x14 =>
 (ob (Ao x13.2.1 x14.2.1) fun r15 =>
 (cond (!r15.1)
 (some (.inr (.inr ((false, ()), ()))))
 (some (.inl ((t0, t1, (wr .i64 (t5 + 1)), ()), ()))))))))))
 (some (.inr (.inl ((), ())))))
def Li := Vb fun x : ((Wp × (Wp × Mk)) × Unit) => Oh x.1.1 x.1.2.1 x.1.2.2.1
def Hg (a0 : Wp) (a1 : Wp) : Option Bh :=
 (cond (((ln a0 : Nat) : Int) != ((ln a1 : Nat) : Int))
 (some (false, ()))
 (ob (Li ((a0, a1, 0, ()), ())) (se (fun y16 => (some (true, ()))) (fun z17 => (some (z17.1.1, ()))))))
def Cj (a0 : De) (a1 : Int) (a2 : Int) : Option Mk :=
 (ob (Vn a0 a1) fun r1 =>
 (ob (Wa r1 a2) fun r2 =>
 (some (r2.2.1, ()))))
def Nh (t2 : Unit) (t3 : Unit) (t4 : Int) (t5 : Int) (t6 : Xh) (t17 : Ey) (t18 : Int) (t19 : Int) (t25 : Int) (t26 : Int) (b2 : Ha) (b3 : (Int × (Ey × Unit))) : Option (NT ⊕ (((Unit × (Unit × (Int × (Ey × Nb)))) × (Ha × ((Int × (Ey × Unit)) × Unit))) ⊕ Nk)) :=
 (cond (decide (t26 < t25))
 (ob (Gj t4 t5) fun r36 =>
 (cond (r36.1 == 0)
 (cond (Xi (ln t6) t26)
 (ob t6[(tn t26)]? fun x37 =>
 (some (.inl (((), (), t4, t5, (ls t6 (tn t26) (1, 0, 0, 0, ())), (t17.1, (((tn t17.2.1) : Nat) : Int), t17.2.2.1, (ls t6 (tn t26) (1, 0, 0, 0, ()))), t18, t19, t25, (wr .i64 (t26 + 1)), ()), (b2, (b3.1, (t17.1, (((tn t17.2.1) : Nat) : Int), t17.2.2.1, (ls t6 (tn t26) (1, 0, 0, 0, ()))), ()), ())))))
 none)
 (some (.inl (((), (), t4, t5, t6, (t17.1, (((tn t17.2.1) : Nat) : Int), t17.2.2.1, t6), t18, t19, t25, (wr .i64 (t26 + 1)), ()), (b2, (b3.1, (t17.1, (((tn t17.2.1) : Nat) : Int), t17.2.2.1, t6), ()), ()))))))
 (some (.inr (.inl (((), (), t4, (t17.1, (((tn t17.2.1) : Nat) : Int), t17.2.2.1, t6), t18, t19, ()), (b2, (b3.1, (t17.1, (((tn t17.2.1) : Nat) : Int), t17.2.2.1, t6), ()), ()))))))
def Ve := Vb fun x : NT => Nh x.1.1 x.1.2.1 x.1.2.2.1 x.1.2.2.2.1 x.1.2.2.2.2.1 x.1.2.2.2.2.2.1 x.1.2.2.2.2.2.2.1 x.1.2.2.2.2.2.2.2.1 x.1.2.2.2.2.2.2.2.2.1 x.1.2.2.2.2.2.2.2.2.2.1 x.2.1 x.2.2.1
def Mh (t2 : Unit) (t3 : Unit) (t4 : Int) (t17 : (List Xh)) (t18 : Int) (t19 : Int) (b2 : Ha) (b3 : Ha) : Option (((Unit × (Unit × (Int × Jt))) × Wo) ⊕ RT) :=
 (cond (decide (t19 < t18))
 (cond (Xi (ln t17) t19)
 (ob t17[(tn t19)]? fun x31 =>
 (ob (Ve (((), (), t4, t19, x31, (t17, (((tn t19) : Nat) : Int), x31, x31), t18, t19, ((ln x31 : Nat) : Int), 0, ()), (b2, (b3.1, (t17, (((tn t19) : Nat) : Int), x31, x31), ()), ()))) (se (fun y38 => (some (.inl (((), (), y38.1.2.2.1, (ls y38.1.2.2.2.1.1 (tn y38.1.2.2.2.1.2.1) y38.1.2.2.2.1.2.2.2), y38.1.2.2.2.2.1, (wr .i64 (y38.1.2.2.2.2.2.1 + 1)), ()), (y38.2.1, (y38.2.2.1.1, (ls y38.1.2.2.2.1.1 (tn y38.1.2.2.2.1.2.1) y38.1.2.2.2.1.2.2.2), ()), ()))))) (fun z39 => (some (.inr (.inr ((), ()))))))))
 none)
 (some (.inr (.inl (((), (), ()), (b2, (b3.1, t17, ()), ()))))))
def Ki := Vb fun x : ((Unit × (Unit × (Int × Jt))) × Wo) => Mh x.1.1 x.1.2.1 x.1.2.2.1 x.1.2.2.2.1 x.1.2.2.2.2.1 x.1.2.2.2.2.2.1 x.2.1 x.2.2.1
def Gg (a0 : Ha) : Option Pl :=
 (ob (Zg a0) fun r1 =>
 (ob (Ni a0) fun r2 =>
 (cond (!r2.1)
 (some (r1.1, ()))
 (ob (Xg a0) fun r3 =>
 (ob (Ki (((), (), r3.1, r1.1.2.1, ((ln r1.1.2.1 : Nat) : Int), 0, ()), ((0, [], ()), r1.1, ()))) (se (fun y40 => (some (y40.2.2.1, ()))) (fun z41 => none)))))))
def Bj (a0 : De) (a1 : Int) (a2 : Int) : Option Pl :=
 (ob (Vn a0 a1) fun r1 =>
 (ob (Pp r1 a2) fun r2 =>
 (some (r2.2.1, ()))))
def Bl (t2 : Unit) (t3 : Unit) (t5 : Int) (t6 : Int) (b2 : Ha) (b3 : Ha) : Option (((Unit × HT) × Wo) ⊕ ((Cv × Wo) ⊕ Dy)) :=
 (ob (Od b2.2.1 t5) fun x51 =>
 (cond (decide (t6 < ((ln x51 : Nat) : Int)))
 (ob (Od b2.2.1 t5) fun x52 =>
 (ob (Od x52 t6) fun x53 =>
 (ob (Od b3.2.1 t5) fun x54 =>
 (ob (Od x54 t6) fun x55 =>
 (cond (!(Ji Wc x53 x55))
 (some (.inr (.inr ((false, ()), ()))))
 (some (.inl (((), (), t5, (wr .i64 (t6 + 1)), ()), (b2, b3, ())))))))))
 (some (.inr (.inl (((), (), t5, ()), (b2, b3, ())))))))
def Ii := Vb fun x : ((Unit × HT) × Wo) => Bl x.1.1 x.1.2.1 x.1.2.2.1 x.1.2.2.2.1 x.2.1 x.2.2.1
def Al (t2 : Unit) (t3 : Unit) (t5 : Int) (b2 : Ha) (b3 : Ha) : Option ((Cv × Wo) ⊕ Vr) :=
 (cond (decide (t5 < ((ln b2.2.1 : Nat) : Int)))
 (ob (Od b2.2.1 t5) fun x39 =>
 (ob (Od b3.2.1 t5) fun x40 =>
 (cond (((ln x39 : Nat) : Int) != ((ln x40 : Nat) : Int))
 (some (.inr (.inr ((false, ()), ()))))
 (ob (Ii (((), (), t5, 0, ()), (b2, b3, ()))) (se (fun y56 => (some (.inl (((), (), (wr .i64 (y56.1.2.2.1 + 1)), ()), y56.2)))) (fun z57 => (some (.inr (.inr ((z57.1.1, ()), ()))))))))))
 (some (.inr (.inl ((), ())))))
def Ul := Vb fun x : (Cv × Wo) => Al x.1.1 x.1.2.1 x.1.2.2.1 x.2.1 x.2.2.1
def Ip (a0 : Ha) (a1 : Ha) : Option Bh :=
 (cond (a0.1 != a1.1)
 (some (false, ()))
 (cond (((ln a0.2.1 : Nat) : Int) != ((ln a1.2.1 : Nat) : Int))
 (some (false, ()))
 (ob (Ul (((), (), 0, ()), (a0, a1, ()))) (se (fun y58 => (some (true, ()))) (fun z59 => (some (z59.1.1, ())))))))
def Tj (t0 : Ql) (t1 : Ql) (t5 : Int) : Option (((Ql × (Ql × Mk)) × Unit) ⊕ Vr) :=
 (cond (decide (t5 < ((ln t0 : Nat) : Int)))
 (ob (Od t0 t5) fun x5 =>
 (ob (Od t1 t5) fun x6 =>
 (cond (!(Ji Sp x5 x6))
 (some (.inr (.inr ((false, ()), ()))))
 (some (.inl ((t0, t1, (wr .i64 (t5 + 1)), ()), ()))))))
 (some (.inr (.inl ((), ())))))
def Yk := Vb fun x : ((Ql × (Ql × Mk)) × Unit) => Tj x.1.1 x.1.2.1 x.1.2.2.1
def Oi (a0 : Ql) (a1 : Ql) : Option Bh :=
 (cond (((ln a0 : Nat) : Int) != ((ln a1 : Nat) : Int))
 (some (false, ()))
 (ob (Yk ((a0, a1, 0, ()), ())) (se (fun y7 => (some (true, ()))) (fun z8 => (some (z8.1.1, ()))))))
def Ci (a0 : Ra) (a1 : Int) : Option OT :=
 (ob (Ch a0) fun r1 =>
 (cond (!r1.1)
 (some (Gm, [], false, ()))
 (ob (Ll a0 a1) fun r2 =>
 (cond (decide (r2.1 < 0))
 (some (Gm, [], false, ()))
 (ob (Fp a0 a1) fun r3 =>
 (some (r3.1, r3.2.1, true, ())))))))
def Rg (t0 : De) (t5 : Int) (t6 : Unit) (t8 : Unit) (t10 : Int) (b6 : Ra) (b8 : Ra) : Option (((De × (Int × Cv)) × LT) ⊕ Vr) :=
 (cond (decide (t10 < 12))
 (ob (Cj t0 (wr .i64 (154 + t10)) 4) fun r34 =>
 (ob (Cj t0 (wr .i64 (166 + t10)) 2) fun r35 =>
 (ob (Rf b6 r34.1 (r35.1 == 0)) fun r36 =>
 (ob (Rf b8 r34.1 (r35.1 == 0)) fun r37 =>
 (cond (!r36.2.2.1)
 (ob (Ci b6 r34.1) fun r38 =>
 (ob (Ci b8 r34.1) fun r39 =>
 (cond (!r38.2.2.1)
 (some (.inr (.inr ((false, ()), ()))))
 (cond (!r39.2.2.1)
 (some (.inr (.inr ((false, ()), ()))))
 (ob (Hg r38.2.1 r39.2.1) fun r40 =>
 (cond (!r40.1)
 (some (.inr (.inr ((false, ()), ()))))
 (ob (Oi r38.1.2.2.2.1 r39.1.2.2.2.1) fun r41 =>
 (cond (!r41.1)
 (some (.inr (.inr ((false, ()), ()))))
 (cond (r38.1.2.2.1 != r39.1.2.2.1)
 (some (.inr (.inr ((false, ()), ()))))
 (ob (Dh r38.1.2.2.1 r38.1.2.2.2.1) fun r42 =>
 (cond ((Ff .i64 r42.1 t5) != 0)
 (some (.inr (.inr ((false, ()), ()))))
 (some (.inl ((t0, t5, (), (), (wr .i64 (t10 + 1)), ()), (r38.1, r39.1, ())))))))))))))))
 (cond (!r36.2.2.1)
 (some (.inr (.inr ((false, ()), ()))))
 (cond (!r37.2.2.1)
 (some (.inr (.inr ((false, ()), ()))))
 (ob (Hg r36.2.1 r37.2.1) fun r43 =>
 (cond (!r43.1)
 (some (.inr (.inr ((false, ()), ()))))
 (ob (Oi r36.1.2.2.2.1 r37.1.2.2.2.1) fun r44 =>
 (cond (!r44.1)
 (some (.inr (.inr ((false, ()), ()))))
 (cond (r36.1.2.2.1 != r37.1.2.2.1)
 (some (.inr (.inr ((false, ()), ()))))
 (ob (Dh r36.1.2.2.1 r36.1.2.2.2.1) fun r45 =>
 (cond ((Ff .i64 r45.1 t5) != 0)
 (some (.inr (.inr ((false, ()), ()))))
 (some (.inl ((t0, t5, (), (), (wr .i64 (t10 + 1)), ()), (r36.1, r37.1, ()))))))))))))))))))
 (some (.inr (.inl ((), ())))))
def Fk := Vb fun x : ((De × (Int × Cv)) × LT) => Rg x.1.1 x.1.2.1 x.1.2.2.1 x.1.2.2.2.1 x.1.2.2.2.2.1 x.2.1 x.2.2.1
def Hl (a0 : De) : Option Bh :=
 (ob (Hq a0) fun r1 =>
 (cond r1.1
 (some (true, ()))
 (ob (Bj a0 153 4) fun r2 =>
 (ob (Gg r2.1) fun r3 =>
 (ob (Xg r2.1) fun r4 =>
 (ob (Uh r2.1 []) fun r5 =>
 (ob (Uh r3.1 []) fun r6 =>
 (cond (!r5.2.1)
 (some (false, ()))
 (cond (!r6.2.1)
 (some (false, ()))
 (cond ((Qk .i64 r4.1 1) == 0)
 (some (false, ()))
 (cond (decide (0 ≤ ((ln r2.1.2.1 : Nat) : Int)))
 (cond ((Ys .i64 r4.1 ((ln r2.1.2.1 : Nat) : Int)) != 0)
 (some (false, ()))
 (ob (Xg r3.1) fun r7 =>
 (cond (r7.1 != r4.1)
 (some (false, ()))
 (ob (Gg r3.1) fun r8 =>
 (ob (Ip r8.1 r3.1) fun r9 =>
 (cond (!r9.1)
 (some (false, ()))
 (ob (Fk ((a0, r4.1, (), (), 0, ()), (r5.1, r6.1, ()))) (se (fun y46 => (some (true, ()))) (fun z47 => (some (z47.1.1, ())))))))))))
 none)))))))))))
end

def Lb (k c m n : Int) : Prop :=
 ((k = 0 ∨ k = 1 ∨ k = 10) ∧ c = 0 ∧ m = 0 ∧ n = 0) ∨
 (k = 2 ∧ n = 0 ∧ (c = 0 ∨ 1 ≤ c ∧ c ≤ 56) ∧ (m = 0 ∨ 1 ≤ m ∧ m ≤ 15) ∧ (c ≠ 0 ∨ m ≠ 0)) ∨
 ((k = 3 ∨ k = 4) ∧ c = 0 ∧ m = 0 ∧ 1 ≤ n ∧ n ≤ 3) ∨
 ((k = 5 ∨ k = 9) ∧ c = 0 ∧ m = 0 ∧ 0 ≤ n ∧ n ≤ 3) ∨
 (k = 6 ∧ 1 ≤ c ∧ c ≤ 56 ∧ 1 ≤ m ∧ m ≤ 15 ∧ n = 0) ∨
 (k = 7 ∧ 1 ≤ c ∧ c ≤ 56 ∧ m = 0 ∧ 1 ≤ n ∧ n ≤ 3) ∨
 (k = 8 ∧ c = 0 ∧ 1 ≤ m ∧ m ≤ 15 ∧ n = 0)
noncomputable def Yb (a : Aa) : Bool := open Classical in decide (Lb a.1 a.2.1 a.2.2.1 a.2.2.2.1)
theorem Jb (a : Aa) : Yb a = true ↔ Lb a.1 a.2.1 a.2.2.1 a.2.2.2.1 := by simp [Yb]
theorem GD (c : Int) : Ml c = some (decide (1 ≤ c ∧ c ≤ 56), ()) := by
 simp only [Ml, Qo, Ro]
 apply Zd; simp only [Me, decide_eq_true_eq, Hv, Iv, jq, and_false, false_and, or_false, false_or, and_true, true_and, not_true_eq_false, not_false_eq_true]; try omega
theorem HD (c : Int) : Jj c = some (decide (1 ≤ c ∧ c ≤ 15), ()) := by
 simp only [Jj, Qo, Ro]
 apply Zd; simp only [Me, decide_eq_true_eq, Hv, Iv, jq, and_false, false_and, or_false, false_or, and_true, true_and, not_true_eq_false, not_false_eq_true]; try omega
theorem CC (c : Int) : Dk c = some (decide (1 ≤ c ∧ c ≤ 3), ()) := by
 simp only [Dk, Qo, Ro]
 apply Zd; simp only [Me, decide_eq_true_eq, Hv, Iv, jq, and_false, false_and, or_false, false_or, and_true, true_and, not_true_eq_false, not_false_eq_true]; try omega
theorem SI (c a b : Int) : DF c a b = some (decide (a ≤ c ∧ c ≤ b), ()) := by
 simp only [DF, Qo, Ro]
 apply Zd; simp only [Me, decide_eq_true_eq, Hv, Iv, jq, and_false, false_and, or_false, false_or, and_true, true_and, not_true_eq_false, not_false_eq_true]; try omega
theorem Rk (a : Aa) : Wf a = some (Yb a, ()) := by
 obtain ⟨k, c, m, n, u⟩ := a
 have key : ∀ k c m n : Int, Wf (k, c, m, n, u) = some (Yb (k, c, m, n, u), ()) := by
  intro k c m n
  simp only [Wf, GD, HD, CC, SI, jb, Qo, Ro]
  by_cases h0 : k = 0
  ·subst h0; apply Zd; rw [Jb]; simp [Lb, Me]; try omega
  by_cases h1 : k = 1
  ·subst h1; apply Zd; rw [Jb]; simp [Lb, Me]; try omega
  by_cases h2 : k = 2
  ·subst h2; apply Zd; rw [Jb]; simp [Lb, Me]; intro hn; (repeat' split) <;> omega
  by_cases h3 : k = 3
  ·subst h3; apply Zd; rw [Jb]; simp [Lb, Me]; try omega
  by_cases h4 : k = 4
  ·subst h4; apply Zd; rw [Jb]; simp [Lb, Me]; try omega
  by_cases h5 : k = 5
  ·subst h5; apply Zd; rw [Jb]; simp [Lb, Me]; try omega
  by_cases h6 : k = 6
  ·subst h6; apply Zd; rw [Jb]; simp [Lb, Me]; try omega
  by_cases h7 : k = 7
  ·subst h7; apply Zd; rw [Jb]; simp [Lb, Me]; try omega
  by_cases h8 : k = 8
  ·subst h8; apply Zd; rw [Jb]; simp [Lb, Me]; try omega
  by_cases h9 : k = 9
  ·subst h9; apply Zd; rw [Jb]; simp [Lb, Me]; try omega
  by_cases h10 : k = 10
  ·subst h10; apply Zd; rw [Jb]; simp [Lb, Me]; try omega
  have g : ∀ j : Int, (k == j) = decide (k = j) := fun j => by rw [qs]; simp
  apply Zd; rw [Jb]; simp [Lb, Me, h0, h1, h2, h3, h4, h5, h6, h7, h8, h9, h10]
 exact key k c m n
noncomputable def Kc (nl : Nat) (i : Nat) (a : Aa) : Bool := Yb a && !(((i : Int) == 0) && (a.1 == 1)) && !((a.1 != 9) && decide (a.2.2.2.1 ≥ (nl : Int)))
noncomputable def Qe (keys : Int) (nl : Nat) (i : Nat) (l : List Aa) : Bool := ((ja l : Int) == keys) && Xd (fun _ a => Kc nl i a) 0 l
noncomputable def Zb (m : Ha) : Bool :=
 decide (1 ≤ m.1 ∧ m.1 ≤ 32) && decide (1 ≤ m.2.1.length ∧ m.2.1.length ≤ 4) && Xd (fun i l => Qe m.1 m.2.1.length i l) 0 m.2.1
theorem KA (m : Ha) (i : Nat) (l : List Aa) (L : List (List Aa)) (n : Int) (t : Int) (hl : l.length < 9223372036854775807) :
 Kh (((), (i : Int), L, n, t, l, (l.length : Int), (0 : Int), ()), (m, ())) =
  some (cond (Xd (fun _ a => Kc m.2.1.length i a) 0 l) (.inl (((), L, n, t, ()), (m, ()))) (.inr ((false, ()), ()))) := by
 unfold Kh
 refine Sg (step := _) l (fun _ a => Kc m.2.1.length i a) (fun j => (((), (i : Int), L, n, t, l, (l.length : Int), j, ()), (m, ()))) _ _ ?_ ?_ hl
 ·intro k hk
  simp only [Ln]
  rw [Ja (show (k : Int) < (l.length : Int) by omega), Cd hk]
  simp only [cond_true, jb, Kc, Rk]
  cases Yb l[k] <;> cases ((i : Int) == 0) <;> cases (l[k].1 == 1) <;> cases (l[k].1 != 9) <;> cases decide (l[k].2.2.2.1 ≥ (m.2.1.length : Int)) <;> rfl
 ·simp [Ln]
theorem Jo (m : Ha) (hz : Yc Za m ≤ Qa) : Ni m = some (Zb m, ()) := by
 have h20 : Qa = 1048576 := rfl
 have hz' : m.2.1.length + (List.map (Yc (.sl Wc)) m.2.1).sum ≤ Qa := by
  have : Yc Za m = Yc (.sl (.sl Wc)) m.2.1 := by simp only [Yc, Nat.add_zero, js]
  rw [this] at hz; exact hz
 have hl : ∀ k (hk : k < m.2.1.length), m.2.1[k].length ≤ Qa := by
  intro k hk
  have := Cs (f := Yc (.sl Wc)) hk
  have h2 : m.2.1[k].length ≤ Yc (.sl Wc) m.2.1[k] := Nat.le_add_right _ _
  omega
 have hloop : Jh (((), m.2.1, ((ja m.2.1 : Nat) : Int), (0 : Int), ()), (m, ())) =
  some (cond (Xd (fun i l => Qe m.1 m.2.1.length i l) 0 m.2.1) (.inl ((), ())) (.inr ((false, ()), ()))) := by
  unfold Jh
  refine Sg (step := _) m.2.1 (fun i l => Qe m.1 m.2.1.length i l) (fun j => (((), m.2.1, ((ja m.2.1 : Nat) : Int), j, ()), (m, ()))) _ _ ?_ ?_ (by omega)
  ·intro k hk
   have := hl k hk
   simp only [Kn]
   rw [Ja (show (k : Int) < (m.2.1.length : Int) by omega), Cd hk]
   simp only [cond_true, jb, Qe]
   rw [KA m k _ _ _ _ (by omega)]
   show (cond (!((m.2.1[k].length : Int) == m.1)) _ _) = _
   cases ((m.2.1[k].length : Int) == m.1) <;> cases Xd (fun _ a => Kc m.2.1.length k a) 0 m.2.1[k] <;> rfl
  ·simp [Kn]
 unfold Ni
 rw [hloop]
 simp only [jb, TN, Qo, Ro]
 apply Zd
 simp only [Me, Zb, jd, decide_eq_true_eq, jq, and_false, false_or, and_true, or_false]
 generalize Xd (fun i l => Qe m.1 m.2.1.length i l) 0 m.2.1 = b
 constructor
 ·rintro ⟨h1, h2, h3, h4, h5⟩; exact ⟨⟨by omega, by omega⟩, h5⟩
 ·rintro ⟨⟨h1, h2⟩, h5⟩; exact ⟨by omega, by omega, by omega, by omega, h5⟩
theorem OK {n : Nat} (h : n ≤ 62) : Be .i64 1 (n : Int) = ((2 ^ n : Nat) : Int) := by
 unfold Be
 have h1 : min (jy (n : Int)) (IntKind.bits .i64) = n := by
  show min (jy (n : Int)) 64 = n
  rw [jn]; omega
 rw [h1, Int.one_mul]
 have h2 : (2 : Int) ^ n = ((2 ^ n : Nat) : Int) := by simp
 have h3 : 2 ^ n ≤ 2 ^ 62 := qk (by omega) h
 rw [h2]
 clear h1 h2
 generalize 2 ^ n = z at h3
 rw [Ae (by omega) (by omega)]
structure Eg (m : Ha) : Prop where
 k1 : 1 ≤ m.1
 k2 : m.1 ≤ 32
 l1 : 1 ≤ m.2.1.length
 l2 : m.2.1.length ≤ 4
 row : ∀ i (h : i < m.2.1.length), (m.2.1[i].length : Int) = m.1
 act : ∀ i (h : i < m.2.1.length) k (hk : k < m.2.1[i].length), Kc m.2.1.length i m.2.1[i][k] = true
theorem Pe {m : Ha} (h : Zb m = true) : Eg m := by
 simp only [Zb, jd, decide_eq_true_eq] at h
 obtain ⟨⟨h1, h2⟩, h3⟩ := h
 rw [Hf] at h3
 refine ⟨h1.1, h1.2, h2.1, h2.2, fun i hi => ?_, fun i hi k hk => ?_⟩
 ·have := h3 i hi
  simp only [js, Qe, jd, beq_iff_eq] at this
  exact this.1
 ·have := h3 i hi
  simp only [js, Qe, jd, beq_iff_eq] at this
  have := Hf.1 this.2 k hk
  simpa using this
theorem Mp {nl i : Nat} {a : Aa} (h : Kc nl i a = true) : Yb a = true := by
 simp only [Kc, jd] at h
 exact h.1.1
theorem Uu {nl i : Nat} {a : Aa} (h : Kc nl i a = true) (hk : a.1 ≠ 9) : a.2.2.2.1 < (nl : Int) := by
 simp only [Kc, jd, Bool.not_eq_true', Bool.and_eq_false_iff] at h
 rcases h.2 with h | h
 ·simp at h; exact absurd h hk
 ·simpa using h
def Yd (m k : Int) : Int := Qk .i64 (Ys .i64 m k) 1
theorem Rq (m : Int) {k : Int} (h : 0 ≤ k) : Gj m k = some (Yd m k, ()) := by
 unfold Gj
 rw [Ja h]; rfl
def C6 : Aa := (0, 0, 0, 0, ())
def Cg (L : List (List Aa)) (i k : Nat) : Aa := (L.getD i []).getD k C6
theorem Dv {L : List (List Aa)} {i k : Nat} (hi : i < L.length) (hk : k < L[i].length) : Cg L i k = L[i][k] := by
 simp [Cg, qh, hi, hk]
theorem WX {α : Type} {L : List (List Aa)} {i k : Nat} (hi : i < L.length) (hk : k < L[i].length) (K : Aa → Option α) :
 (jz (Od L (i : Int)) fun x => jz (Od x (k : Int)) K) = K (Cg L i k) := by
 rw [Cd hi]
 simp only [jb]
 rw [Cd hk, Dv hi hk]
 rfl
def Md (L : List (List Aa)) (on : Int) (k : Nat) : Nat → Nat
 | 0 => 0
 | n + 1 => cond ((Yd on ((n + 1 : Nat) : Int) == 1) && ((Cg L (n + 1) k).1 != 1)) (n + 1) (Md L on k n)
theorem Jx {L : List (List Aa)} {on : Int} {k : Nat} : ∀ n, Md L on k n ≤ n
 | 0 => jo _
 | n + 1 => by
  simp only [Md]
  cases ((Yd on ((n + 1 : Nat) : Int) == 1) && ((Cg L (n + 1) k).1 != 1)) with
  | true => exact jo _
  | false => exact Nat.le_succ_of_le (Jx n)
theorem Tt {m : Ha} (hm : Eg m) (on : Int) {k : Nat} (hk : (k : Int) < m.1) : ∀ n : Nat, n < m.2.1.length →
 Bf ((on, (k : Int), (), (n : Int), ()), (m, ())) = some (cond (Md m.2.1 on k n == 0) (.inl ((), ())) (.inr ((((Md m.2.1 on k n : Nat) : Int), ()), ())))
 | 0, _ => by
  unfold Bf
  rw [Sv]
  rfl
 | n + 1, h => by
  have hrow := hm.row (n + 1) h
  unfold Bf
  rw [Sv]
  simp only [Ws]
  rw [Ja (show (((n + 1 : Nat) : Int)) > 0 by omega), Rq on (show (0 : Int) ≤ ((n + 1 : Nat) : Int) by omega)]
  simp only [cond_true, jb]
  rw [WX h (by omega), Ae (by have := hm.l2; omega) (by have := hm.l2; omega), show (((n + 1 : Nat) : Int) - 1) = (n : Int) by omega]
  have ih := Tt hm on hk n (by omega)
  unfold Bf at ih
  simp only [Md]
  cases h1 : (Yd on ((n + 1 : Nat) : Int) == 1) with
  | false =>
   simp only [Bool.false_and, cond_false, jb, qi]
   exact ih
  | true =>
   cases h2 : ((Cg m.2.1 (n + 1) k).1 != 1) with
   | true => rfl
   | false =>
    simp only [Bool.and_false, cond_true, cond_false, jb, qi]
    exact ih
theorem DC {m : Ha} (hm : Eg m) (on : Int) {k : Nat} (hk : (k : Int) < m.1) :
 Ep m on (k : Int) = some (((Md m.2.1 on k (m.2.1.length - 1) : Nat) : Int), ()) := by
 have h1 := hm.l1
 have h2 := hm.l2
 unfold Ep
 rw [Ae (by omega) (by omega), show ((m.2.1.length : Int) - 1) = ((m.2.1.length - 1 : Nat) : Int) by omega, Tt hm on hk _ (by omega)]
 cases h : (Md m.2.1 on k (m.2.1.length - 1) == 0) with
 | false => rfl
 | true =>
  have h' : Md m.2.1 on k (m.2.1.length - 1) = 0 := by simpa using h
  rw [h']; rfl
def Jf (m : Ha) (on : Int) (k : Nat) : Nat := Md m.2.1 on k (m.2.1.length - 1)
theorem Lx {m : Ha} (hm : Eg m) (on : Int) (k : Nat) : Jf m on k < m.2.1.length := by
 have := Jx (L := m.2.1) (on := on) (k := k) (m.2.1.length - 1)
 have := hm.l1
 unfold Jf
 omega
theorem Jy {nl i : Nat} {a : Aa} (h : Kc nl i a = true) (hk : a.1 = 3 ∨ a.1 = 4 ∨ a.1 = 5 ∨ a.1 = 7) : 0 ≤ a.2.2.2.1 ∧ a.2.2.2.1 < (nl : Int) ∧ a.2.2.2.1 ≤ 3 := by
 have h1 := Mp h
 rw [Jb] at h1
 have h2 := Uu h (by rcases hk with hk | hk | hk | hk <;> rw [hk] <;> decide)
 unfold Lb at h1
 omega
noncomputable def Ng (a : Aa) : Bool := Yb a && ((a.1 == 6) || (a.1 == 7))
noncomputable def Ft (a : Aa) : Aa := cond (Ng a) (2, a.2.1, 0, 0, ()) a
noncomputable def Kl (a : Aa) : Aa := cond (Ng a) (cond (a.1 == 6) (2, 0, a.2.2.1, 0, ()) (3, 0, 0, a.2.2.2.1, ())) a
theorem Sr (a : Aa) : Bk a = some (Ng a, ()) := by
 unfold Bk Ng
 rw [Rk]
 cases Yb a <;> cases (a.1 == 6) <;> rfl
theorem QF (a : Aa) : Wr a = some (Ft a, ()) := by
 unfold Wr Ft
 rw [Sr]
 cases Ng a <;> rfl
def Ug (a : Aa) : Bool := (a.1 == 3) || (a.1 == 4) || (a.1 == 5) || (a.1 == 7)
def Tr (u : Int) (a : Aa) : Int := cond (Ug a) (Td .i64 u (Be .i64 1 a.2.2.2.1)) u
def Wm (u : Int) (i : Nat) (row : List Aa) : Int := cond (Yd u (i : Int) == 1) (row.foldl Tr u) u
theorem DV : ∀ u : Fin 16, ∀ n : Fin 4, 0 ≤ Td .i64 (u.val : Int) (Be .i64 1 (n.val : Int)) ∧ Td .i64 (u.val : Int) (Be .i64 1 (n.val : Int)) < 16 ∧
 ∀ i : Fin 4, Yd (u.val : Int) (i.val : Int) = 1 → Yd (Td .i64 (u.val : Int) (Be .i64 1 (n.val : Int))) (i.val : Int) = 1 := by decide +kernel
theorem AU {u : Int} (hu : 0 ≤ u ∧ u < 16) {nl i j : Nat} (hi : i < 4) {a : Aa} (ha : Kc nl j a = true) :
 (0 ≤ Tr u a ∧ Tr u a < 16) ∧ (Yd u (i : Int) = 1 → Yd (Tr u a) (i : Int) = 1) := by
 unfold Tr
 cases ht : Ug a with
 | false => exact ⟨hu, fun h => h⟩
 | true =>
  have hn := Jy ha (by simp only [Ug, Bool.or_eq_true, beq_iff_eq] at ht; omega)
  obtain ⟨u', rfl⟩ := jv hu.1
  obtain ⟨n', hn'⟩ := jv hn.1
  have := DV ⟨u', by omega⟩ ⟨n', by omega⟩
  rw [hn']
  exact ⟨⟨this.1, this.2.1⟩, this.2.2 ⟨i, hi⟩⟩
theorem Mt {nl i j : Nat} (hi : i < 4) : ∀ (row : List Aa) (k : Nat) (u : Int), (0 ≤ u ∧ u < 16) → (∀ a ∈ row, Kc nl j a = true) →
 Bc (fun _ u a => cond (Yd u (i : Int) == 1) (Tr u a) u) k u row = Wm u i row ∧ (0 ≤ Wm u i row ∧ Wm u i row < 16)
 | [], _, u, hu, _ => by
  refine ⟨?_, ?_⟩
  ·simp only [Bc, Wm, List.foldl_nil]; cases (Yd u (i : Int) == 1) <;> rfl
  ·simp only [Wm, List.foldl_nil]; cases (Yd u (i : Int) == 1) <;> exact hu
 | a :: row, k, u, hu, h => by
  have ha := AU (i := i) hu hi (h a (by simp))
  simp only [Bc]
  cases hb : (Yd u (i : Int) == 1) with
  | true =>
   have ih := Mt hi row (k + 1) (Tr u a) ha.1 fun b hb => h b (by simp [hb])
   have hb2 : (Yd (Tr u a) (i : Int) == 1) = true := by
    have := ha.2 (by simpa using hb)
    rw [this]; rfl
   simp only [cond_true]
   rw [ih.1]
   have e : Wm (Tr u a) i row = Wm u i (a :: row) := by
    simp only [Wm, hb, hb2, cond_true, List.foldl_cons]
   rw [← e]
   exact ⟨rfl, ih.2⟩
  | false =>
   have ih := Mt hi row (k + 1) u hu fun b hb => h b (by simp [hb])
   simp only [cond_false]
   rw [ih.1]
   have e : Wm u i row = Wm u i (a :: row) := by simp only [Wm, hb, cond_false]
   rw [← e]
   exact ⟨rfl, ih.2⟩
theorem QH {nl i j : Nat} (hi : i < 4) (row : List Aa) (hrow : ∀ a ∈ row, Kc nl j a = true) (hn : row.length < 9223372036854775807) (u : Int) (hu : 0 ≤ u ∧ u < 16) (c d : Int) (L : List (List Aa)) (n t : Int) (m : Ha) :
 Dg (((), u, (i : Int), c, d, L, n, t, row, (row.length : Int), (0 : Int), ()), (m, ())) = some (.inl (((), Wm u i row, c, d, L, n, t, ()), (m, ()))) := by
 unfold Dg
 have hl := (Ph (step := fun x : ((Unit × (Int × (Int × (Int × (Int × ((List (List Aa)) × (Int × (Int × ((List Aa) × (Int × (Int × Unit))))))))))) × (Ha × Unit)) =>
  Lh x.1.1 x.1.2.1 x.1.2.2.1 x.1.2.2.2.1 x.1.2.2.2.2.1 x.1.2.2.2.2.2.1 x.1.2.2.2.2.2.2.1 x.1.2.2.2.2.2.2.2.1 x.1.2.2.2.2.2.2.2.2.1 x.1.2.2.2.2.2.2.2.2.2.1 x.1.2.2.2.2.2.2.2.2.2.2.1 x.2.1)
  row (fun _ u a => cond (Yd u (i : Int) == 1) (Tr u a) u) (fun u k => (((), u, (i : Int), c, d, L, n, t, row, (row.length : Int), k, ()), (m, ()))) (fun u => .inl (((), u, c, d, L, n, t, ()), (m, ())))
  (fun _ u => 0 ≤ u ∧ u < 16) (by
   intro k hk u hu
   have hok := hrow row[k] (qn hk)
   refine ⟨?_, ?_⟩
   ·simp only [Lh]
    rw [Ja (show (k : Int) < (row.length : Int) by omega), Cd hk, Rq u (show (0 : Int) ≤ (i : Int) by omega)]
    simp only [cond_true, jb]
    generalize row[k] = a at hok
    unfold Tr Ug
    cases h3 : (a.1 == 3) with
    | true =>
     rw [Ja (Jy hok (.inl (by simpa using h3))).1]
     cases (Yd u (i : Int) == 1) <;> rfl
    | false =>
     cases h4 : (a.1 == 4) with
     | true =>
      rw [Ja (Jy hok (.inr (.inl (by simpa using h4)))).1]
      cases (Yd u (i : Int) == 1) <;> rfl
     | false =>
      cases h5 : (a.1 == 5) with
      | true =>
       rw [Ja (Jy hok (.inr (.inr (.inl (by simpa using h5))))).1]
       cases (Yd u (i : Int) == 1) <;> rfl
      | false =>
       cases h7 : (a.1 == 7) with
       | true =>
        rw [Ja (Jy hok (.inr (.inr (.inr (by simpa using h7))))).1]
        cases (Yd u (i : Int) == 1) <;> rfl
       | false => cases (Yd u (i : Int) == 1) <;> rfl
   ·show 0 ≤ cond (Yd u (i : Int) == 1) (Tr u row[k]) u ∧ cond (Yd u (i : Int) == 1) (Tr u row[k]) u < 16
    cases (Yd u (i : Int) == 1) with
    | true => exact (AU (i := i) hu hi hok).1
    | false => exact hu) (by
   intro u _
   simp only [Lh]
   rw [La (by omega)]; rfl) hn u hu).1
 rw [(Mt hi row 0 u hu hrow).1] at hl
 exact hl
def PA (u : Int) (L : List (List Aa)) : Int := Bc (fun i u row => Wm u i row) 0 u L
theorem UF {m : Ha} (hm : Eg m) (u : Int) (hu : 0 ≤ u ∧ u < 16) (c d : Int) :
 Mg (((), u, c, d, m.2.1, (m.2.1.length : Int), (0 : Int), ()), (m, ())) = some (.inl (((), PA u m.2.1, c, d, ()), (m, ()))) ∧ (0 ≤ PA u m.2.1 ∧ PA u m.2.1 < 16) := by
 unfold Mg
 have hl2 := hm.l2
 have hk2 := hm.k2
 exact Ph (step := fun x : ((Unit × (Int × (Int × (Int × ((List (List Aa)) × (Int × (Int × Unit))))))) × (Ha × Unit)) =>
  Fi x.1.1 x.1.2.1 x.1.2.2.1 x.1.2.2.2.1 x.1.2.2.2.2.1 x.1.2.2.2.2.2.1 x.1.2.2.2.2.2.2.1 x.2.1)
  m.2.1 (fun i u row => Wm u i row) (fun u k => (((), u, c, d, m.2.1, (m.2.1.length : Int), k, ()), (m, ()))) (fun u => .inl (((), u, c, d, ()), (m, ())))
  (fun _ u => 0 ≤ u ∧ u < 16) (by
   intro k hk u hu
   have hrow := hm.row k hk
   have hall : ∀ a ∈ m.2.1[k], Kc m.2.1.length k a = true := by
    intro a ha
    obtain ⟨j, hj, rfl⟩ := List.mem_iff_getElem.1 ha
    exact hm.act k hk j hj
   refine ⟨?_, (Mt (i := k) (by omega) _ 0 u hu hall).2⟩
   simp only [Fi]
   rw [Ja (show (k : Int) < (m.2.1.length : Int) by omega), Cd hk]
   simp only [cond_true, jb]
   rw [QH (by omega) _ hall (by omega) u hu]
   rfl) (by
   intro u _
   simp only [Fi]
   rw [La (by omega)]; rfl) (by omega) u hu
def VC (m : Ha) : Int := Bc (fun _ u (_ : List Aa) => PA u m.2.1) 0 1 m.2.1
theorem Pm (m : Ha) (hz : Yc Za m ≤ Qa) : Xg m = some (cond (Zb m) (VC m) 0, ()) := by
 unfold Xg
 rw [Jo m hz]
 cases hv : Zb m with
 | false => rfl
 | true =>
  have hm := Pe hv
  have hl2 := hm.l2
  have hl := (Ph (step := fun x : ((Unit × (Int × (Int × (Int × Unit)))) × (Ha × Unit)) => Ei x.1.1 x.1.2.1 x.1.2.2.1 x.1.2.2.2.1 x.2.1)
   m.2.1 (fun _ u (_ : List Aa) => PA u m.2.1) (fun u k => (((), u, (m.2.1.length : Int), k, ()), (m, ()))) (fun u => .inl ((u, ()), ())) (fun _ u => 0 ≤ u ∧ u < 16) (by
    intro k hk u hu
    have hmid := UF hm u hu (m.2.1.length : Int) (k : Int)
    refine ⟨?_, hmid.2⟩
    simp only [Ei]
    rw [Ja (show (k : Int) < (m.2.1.length : Int) by omega), hmid.1]
    rfl) (by
    intro u _
    simp only [Ei]
    rw [La (by omega)]; rfl) (by omega) 1 (by omega)).1
  simp only [jb, jg, cond_false, cond_true]
  unfold Fj
  erw [hl]
  rfl
theorem EM {nl j : Nat} {a : Aa} (ha : Kc nl j a = true) : (((Kl a).1 == 3) || ((Kl a).1 == 4) || ((Kl a).1 == 5)) = Ug a ∧ (Ug a = true → (Kl a).2.2.2.1 = a.2.2.2.1) := by
 have h1 := Mp ha
 unfold Kl Ng Ug
 rw [h1]
 cases h6 : (a.1 == 6) with
 | true =>
  have : a.1 = 6 := by simpa using h6
  rw [this]
  exact ⟨rfl, fun h => by simp at h⟩
 | false =>
  cases h7 : (a.1 == 7) with
  | true =>
   have : a.1 = 7 := by simpa using h7
   rw [this]
   exact ⟨rfl, fun _ => rfl⟩
  | false => exact ⟨by simp, fun _ => rfl⟩
def Sc {α : Type} (p : α → Bool) : Nat → List α → Int
 | _, [] => -1
 | k, x :: xs => cond (p x) (k : Int) (Sc p (k + 1) xs)
theorem Cr {X R : Type} {s : X → Option (X ⊕ R)} (I : Nat → X → Prop) (Q : R → Prop)
 (h : ∀ n x, I n x → (∃ r, s x = some (.inr r) ∧ Q r) ∨ (∃ y m, m < n ∧ s x = some (.inl y) ∧ I m y)) : ∀ n x, I n x → ∃ r, Vb s x = some r ∧ Q r := by
 intro n
 induction n using Nat.strongRecOn with
 | _ n ih =>
  intro x hi
  rcases h n x hi with ⟨r, h1, hq⟩ | ⟨y, m, hm, h1, hi'⟩
  ·exact ⟨r, by rw [Eh h1]; rfl, hq⟩
  ·obtain ⟨r, g1, hq⟩ := ih m hm y hi'
   exact ⟨r, by rw [Eh h1]; exact g1, hq⟩
def UH {α β : Type} : α ⊕ β → Bool
 | .inl _ => true
 | .inr _ => false
noncomputable def Uo (s : Int) (x : Pa) : Bool := decide (0 ≤ x.1 ∧ x.1 ≤ 31) && (!(Yd s x.1 == 1) && (Yb x.2.1 && (!(x.2.1.1 == 1) && (!(x.2.1.1 == 6) && !(x.2.1.1 == 7)))))
noncomputable def Bp (s : Int) (x : Pa) : Int ⊕ Unit := cond (Uo s x) (.inl (Td .i64 s (Be .i64 1 x.1))) (.inr ())
noncomputable def DM (l : List Pa) : Int ⊕ Unit := Pf (fun _ s x => Bp s x) 0 0 l
noncomputable def Ud (l : List Pa) : Bool := UH (DM l)
theorem En (l : List Pa) (hn : l.length ≤ Qa) : Lg l = some (Ud l, ()) := by
 have h20 : Qa = 1048576 := rfl
 have hl := Du (step := fun x => Zl x.1.1 x.1.2.1 x.1.2.2.1 x.1.2.2.2.1) l (fun _ s x => Bp s x) (fun s i => ((s, l, ((ja l : Nat) : Int), i, ()), ()))
  (fun _ => .inl ((), ())) (fun _ => .inr ((false, ()), ())) (fun _ _ => True) (by
   intro k hk s _
   refine ⟨?_, fun _ _ => trivial⟩
   simp only [Zl]
   rw [Ja (show (k : Int) < (ja l : Int) by omega), Cd hk]
   simp only [cond_true, jb]
   generalize l[k] = x
   simp only [Bp, Uo, Rk, jb]
   by_cases h1 : 0 ≤ x.1
   ·rw [La (show ¬ x.1 < 0 by omega), Rq s h1]
    by_cases h2 : x.1 ≤ 31
    ·rw [La (show ¬ x.1 > 31 by omega), Ja (show 0 ≤ x.1 ∧ x.1 ≤ 31 from ⟨h1, h2⟩), Ja h1]
     simp only [jb, cond_false]
     cases Yd s x.1 == 1 <;> cases Yb x.2.1 <;> cases x.2.1.1 == 1 <;> cases x.2.1.1 == 6 <;> cases x.2.1.1 == 7 <;> rfl
    ·rw [Ja (show x.1 > 31 by omega), La (show ¬ (0 ≤ x.1 ∧ x.1 ≤ 31) by omega)]; rfl
   ·rw [Ja (show x.1 < 0 by omega), La (show ¬ (0 ≤ x.1 ∧ x.1 ≤ 31) by omega)]; rfl)
  (by
   intro s _
   simp only [Zl]
   rw [La (by omega)]; rfl) (by omega) 0 trivial
 unfold Lg Nm
 erw [hl]
 show jz (some _) _ = _
 simp only [jb, Ud, DM]
 cases Pf (fun x s x => Bp s x) 0 0 l <;> rfl
structure Js (x : Pa) : Prop where
 lo : 0 ≤ x.1
 hi : x.1 ≤ 31
 act : Yb x.2.1 = true
 n1 : x.2.1.1 ≠ 1
 n6 : x.2.1.1 ≠ 6
 n7 : x.2.1.1 ≠ 7
theorem OP {s : Int} {x : Pa} (h : Uo s x = true) : Js x ∧ Yd s x.1 ≠ 1 := by
 simp only [Uo, jd, decide_eq_true_eq, Bool.not_eq_true', beq_eq_false_iff_ne] at h
 exact ⟨⟨h.1.1, h.1.2, h.2.2.1, h.2.2.2.1, h.2.2.2.2.1, h.2.2.2.2.2⟩, h.2.1⟩
theorem NH : ∀ {l : List Pa} {k : Nat} {s : Int}, UH (Pf (fun _ s x => Bp s x) k s l) = true → ∀ x ∈ l, Js x
 | [], _, _, _, x, hx => by simp at hx
 | y :: l, k, s, h, x, hx => by
  simp only [Pf, Bp] at h
  cases hc : Uo s y with
  | false => rw [hc] at h; simp [UH] at h
  | true =>
   rw [hc] at h
   simp only [cond_true] at h
   rcases jp.1 hx with rfl | hx
   ·exact (OP hc).1
   ·exact NH h x hx
theorem Ix {l : List Pa} (h : Ud l = true) : ∀ x ∈ l, Js x := NH h
theorem WB {α β : Type} (p : β → Bool) (f : α → β) : ∀ (xs : List α) (k : Nat), Sc p k (xs.map f) = Sc (fun x => p (f x)) k xs
 | [], _ => rfl
 | x :: xs, k => by simp only [List.map_cons, Sc, WB p f xs]
theorem Bx {α : Type} (p : α → Bool) : ∀ (xs : List α) (k : Nat), Sc p k xs = -1 ∨ ∃ j : Nat, j < xs.length ∧ Sc p k xs = ((k + j : Nat) : Int)
 | [], _ => .inl rfl
 | x :: xs, k => by
  simp only [Sc]
  cases p x with
  | true => exact .inr ⟨0, by simp, by simp⟩
  | false =>
   rcases Bx p xs (k + 1) with h | ⟨j, h1, h2⟩
   ·exact .inl h
   ·exact .inr ⟨j + 1, by simp; omega, by simp only [cond_false]; rw [h2]; omega⟩
theorem Cx {α : Type} (p : α → Bool) : ∀ (xs : List α) (k : Nat), (Pf (fun k (_ : Unit) x => cond (p x) (.inr (k : Int)) (.inl ())) k () xs : Unit ⊕ Int) = if Sc p k xs = -1 then .inl () else .inr (Sc p k xs)
 | [], _ => rfl
 | x :: xs, k => by
  rcases Bool.eq_false_or_eq_true (p x) with hp | hp
  ·simp only [Pf, Sc, hp, cond_true]; rw [if_neg (by omega)]
  ·simp only [Pf, Sc, hp, cond_false]; exact Cx p xs (k + 1)
theorem Lz {X R α : Type} {step : X → Option (X ⊕ R)} (xs : List α) (p : α → Bool) (I : Int → X) (no : R) (yes : Int → R)
 (h : ∀ k (hk : k < xs.length), step (I (k : Int)) = some (cond (p xs[k]) (.inr (yes (k : Int))) (.inl (I (j5 .i64 ((k : Int) + 1))))))
 (he : step (I (xs.length : Int)) = some (.inr no)) (hn : xs.length < 9223372036854775807) :
 Vb step (I 0) = some (if Sc p 0 xs = -1 then no else yes (Sc p 0 xs)) := by
 have := Du (step := step) xs (fun k (_ : Unit) x => cond (p x) (.inr (k : Int)) (.inl ())) (fun _ i => I i) (fun _ => no) yes (fun _ _ => True) (fun k hk s _ => by
  refine ⟨?_, fun _ _ => trivial⟩
  rw [h k hk]
  cases p xs[k] <;> rfl) (fun _ _ => he) hn () trivial
 rw [this, Cx]
 by_cases hc : Sc p 0 xs = -1
 ·rw [if_pos hc, if_pos hc]
 ·rw [if_neg hc, if_neg hc]
def Hc (h : Pa) : Nb := (h.2.1.2.1, h.2.1.2.2.1, ())
def Tn (c m : Int) (h : Pa) : Bool := (h.2.1.2.1 == c) && (h.2.1.2.2.1 == m)
theorem Qu (l : List Nb) (c : Nb) (hn : l.length ≤ Qa) : Sn l c = some (Sc (fun x => Ji We x c) 0 l, ()) := by
 have h20 : Qa = 1048576 := rfl
 have hl := Lz (step := fun x => Cm x.1.1 x.1.2.1 x.1.2.2.1 x.1.2.2.2.1 x.2.1) l (fun x => Ji We x c) (fun i => (((), l, ((ja l : Nat) : Int), i, ()), (c, ())))
  (.inl ((), ())) (fun i => .inr ((i, ()), ())) (by
   intro k hk
   simp only [Cm]
   rw [Ja (show (k : Int) < (ja l : Int) by omega), Cd hk]
   simp only [cond_true, jb]
   cases Ji We l[k] c <;> rfl) (by
   simp only [Cm]
   rw [La (by omega)]; rfl) (by omega)
 unfold Sn Sm
 erw [hl]
 simp only [jb]
 by_cases hc : Sc (fun x => Ji We x c) 0 l = -1
 ·rw [if_pos hc, hc]; rfl
 ·rw [if_neg hc]; rfl
theorem OC (L : List Pa) (c m : Int) : Sc (fun x => Ji We x (c, m, ())) 0 (L.map Hc) = Sc (Tn c m) 0 L := by
 rw [WB]
 congr 1
 funext h
 simp only [Hc, Ji, Tn, Bool.and_true]
def Vf {α : Type} (l : List α) (r : Nat) : List α := jf (Dc l 0 r) (Dc l (r + 1) l.length)
theorem NJ {α : Type} {l : List α} {r : Nat} (h : r < l.length) : (Vf l r).length = l.length - 1 := by
 simp [Vf, Dc]; omega
theorem Qz {α β : Type} (f : α → β) (l : List α) (r : Nat) : Vf (l.map f) r = (Vf l r).map f := by
 simp [Vf, Dc, List.map_take, List.map_drop]
 rw [List.take_of_length_le (by simp)]
theorem FE {α : Type} {l : List α} {r : Nat} (h : r < l.length) : Je (ja l) 0 (r : Int) = true ∧ Je (ja l) ((r + 1 : Nat) : Int) ((ja l : Nat) : Int) = true := by
 simp only [Je, jd, decide_eq_true_eq]
 omega
noncomputable def Jn (x : Gd) (r : Int) : Bool := Yb (2, x.2.1, x.2.2.1, 0, ()) && (((x.1 == 0) && !decide (r ≥ 0)) || (((x.1 == 1) && !decide (r ≥ 0)) || ((x.1 == 2) && decide (r ≥ 0))))
def Dp (x : Gd) : Pa := (0, (2, x.2.1, x.2.2.1, 0, ()), ())
def Eu (x : Gd) (L : List Pa) (r : Int) : List Pa := cond (x.1 == 1) (jf L [Dp x]) (cond (x.1 == 2) (Vf L r.toNat) L)
noncomputable def Jp (L : List Pa) (x : Gd) : List Pa ⊕ Unit := cond (Jn x (Sc (Tn x.2.1 x.2.2.1) 0 L)) (.inl (Eu x L (Sc (Tn x.2.1 x.2.2.1) 0 L))) (.inr ())
theorem CK {L L' : List Pa} {x : Gd} (h : Jp L x = .inl L') : L'.length ≤ L.length + 1 := by
 unfold Jp at h
 cases hc : Jn x (Sc (Tn x.2.1 x.2.2.1) 0 L) with
 | false => rw [hc] at h; simp at h
 | true =>
  rw [hc] at h
  simp only [cond_true, Sum.inl.injEq] at h
  rw [← h]
  unfold Eu
  cases x.1 == 1 with
  | true => simp
  | false =>
   cases x.1 == 2 with
   | true => simp [Vf, Dc]; omega
   | false => simp
theorem SF (l : List Gd) (k : Nat) (hk : k < l.length) (L : List Pa) (hL : L.length ≤ k) (hn : l.length ≤ Qa) :
 Ai (L.map Hc) l ((ja l : Nat) : Int) (k : Int) =
  some (match Jp L l[k] with | .inl L' => .inl ((L'.map Hc, l, ((ja l : Nat) : Int), j5 .i64 ((k : Int) + 1), ()), ()) | .inr _ => .inr (.inr ((false, ()), ()))) := by
 have h20 : Qa = 1048576 := rfl
 simp only [Ai]
 rw [Ja (show (k : Int) < (ja l : Int) by omega), Cd hk]
 simp only [cond_true, jb]
 rw [Qu (L.map Hc) _ (by simp; omega), OC]
 simp only [jb, Rk, Jp, Jn, Eu, Dp]
 generalize hx : l[k] = x
 generalize hr : Sc (Tn x.2.1 x.2.2.1) 0 L = r
 have hble : jx (ja (L.map Hc) + ja ([(x.2.1, x.2.2.1, ())] : List Nb)) Ob = true := ji (by simp [Yi]; omega)
 have happ : jf (L.map Hc) ([(x.2.1, x.2.2.1, ())] : List Nb) = (jf L [((0 : Int), ((2 : Int), x.2.1, x.2.2.1, (0 : Int), ()), ())]).map Hc := by
  show _ ++ _ = List.map Hc (_ ++ _)
  rw [List.map_append]; rfl
 by_cases k0 : x.1 = 0
 ·simp only [k0]
  cases Yb ((2 : Int), x.2.1, x.2.2.1, (0 : Int), ()) <;> cases decide (r ≥ 0) <;> rfl
 by_cases k1 : x.1 = 1
 ·simp only [k1]
  rw [hble, happ]
  cases Yb ((2 : Int), x.2.1, x.2.2.1, (0 : Int), ()) <;> cases decide (r ≥ 0) <;> rfl
 by_cases k2 : x.1 = 2
 ·simp only [k2]
  rcases Bx (Tn x.2.1 x.2.2.1) L 0 with h1 | ⟨j, h1, h2⟩
  ·rw [hr] at h1
   rw [h1]
   cases Yb ((2 : Int), x.2.1, x.2.2.1, (0 : Int), ()) <;> rfl
  ·rw [hr] at h2
   have hrj : r = (j : Int) := by omega
   rw [hrj]
   have hj : j < (L.map Hc).length := by simpa using h1
   have hc := FE hj
   rw [Af (k := j) (by omega), hc.1, hc.2, La (show ¬ (j : Int) < 0 by omega), Ja (show (j : Int) ≥ 0 by omega)]
   have e1 : jx (ja (Dc (L.map Hc) (jy 0) (jy (j : Int))) + ja (Dc (L.map Hc) (jy ((j + 1 : Nat) : Int)) (jy ((ja (L.map Hc) : Nat) : Int)))) Ob = true :=
    ji (by simp [Dc]; rw [Yi]; omega)
   have e2 : jf (Dc (L.map Hc) (jy 0) (jy (j : Int))) (Dc (L.map Hc) (jy ((j + 1 : Nat) : Int)) (jy ((ja (L.map Hc) : Nat) : Int))) = (Vf L (jy (j : Int))).map Hc := by
    rw [← Qz]
    simp [Vf]
   rw [e1, e2]
   cases Yb ((2 : Int), x.2.1, x.2.2.1, (0 : Int), ()) <;> rfl
 ·have e0 : (x.1 == 0) = false := by simpa using k0
  have e1 : (x.1 == 1) = false := by simpa using k1
  have e2 : (x.1 == 2) = false := by simpa using k2
  rw [e0, e1, e2]
  cases Yb ((2 : Int), x.2.1, x.2.2.1, (0 : Int), ()) <;> rfl
noncomputable def TR (l : List Gd) : List Pa ⊕ Unit := Pf (fun _ L x => Jp L x) 0 [] l
noncomputable def Sf (l : List Gd) : Bool := decide (l.length ≤ 8) && (match TR l with | .inl L => ((L.length : Int) == 0) | .inr _ => false)
theorem Qt (l : List Gd) (hn : l.length ≤ Qa) : Om l = some (Sf l, ()) := by
 have h20 : Qa = 1048576 := rfl
 unfold Om Sf
 by_cases h : l.length ≤ 8
 ·rw [La (show ¬ ((ja l : Nat) : Int) > 8 by omega), Ja h]
  have hl := Du (step := fun x => Ai x.1.1 x.1.2.1 x.1.2.2.1 x.1.2.2.2.1) l (fun _ L x => Jp L x) (fun L i => ((L.map Hc, l, ((ja l : Nat) : Int), i, ()), ()))
   (fun L => .inl ((L.map Hc, ()), ())) (fun _ => .inr ((false, ()), ())) (fun k L => L.length ≤ k) (by
    intro k hk L hL
    refine ⟨?_, fun L' h => by have := CK h; omega⟩
    rw [SF l k hk L hL hn]
    cases Jp L l[k] <;> rfl) (by
    intro s _
    simp only [Ai]
    rw [La (by omega)]; rfl) (by omega) [] (by simp)
  unfold Sl
  erw [hl]
  simp only [TR]
  cases Pf (fun x L x => Jp L x) 0 [] l with
  | inl L =>
   show some _ = some _
   simp only [List.length_map]
   rfl
  | inr u => rfl
 ·rw [Ja (show ((ja l : Nat) : Int) > 8 by omega), La h]; rfl
noncomputable def Ak (keys : Int) (nl : Nat) (x : Pa) : Bool := !decide (x.1 ≥ keys) && !((x.2.1.1 != 9) && decide (x.2.1.2.2.2.1 ≥ (nl : Int)))
noncomputable def Br (e : Ra) : Bool :=
 Zb e.1 && (decide (e.2.1.length ≤ 4) && (Ud e.2.2.2.1 && (Xd (fun _ m => Sf m) 0 e.2.1 && (Xd (fun _ x => Ak e.1.1 e.1.2.1.length x) 0 e.2.2.2.1 &&
  (decide (0 ≤ e.2.2.1 ∧ e.2.2.1 < ((2 ^ e.1.2.1.length : Nat) : Int)) && ((Int.tmod e.2.2.1 2 == 0) && decide (0 ≤ e.2.2.2.2.1 ∧ e.2.2.2.2.1 ≤ 15)))))))
theorem Ax (e : Ra) : Yc Pc e = Yc Za e.1 + (Yc (.sl (.sl Pg)) e.2.1 + Yc (.sl Sp) e.2.2.2.1) := by
 simp only [Yc, Nat.add_zero, js]
theorem Xy (l : List Pa) : Yc (.sl Sp) l = l.length := Ew (e := Sp) rfl l
theorem TK (l : List Gd) : Yc (.sl Pg) l = l.length := Ew (e := Pg) rfl l
theorem NV {e : Ty} (l : List (T e)) : ja l ≤ Yc (.sl e) l := Nat.le_add_right _ _
theorem MZ {e : Ty} {l : List (T e)} {k : Nat} (hk : k < ja l) : Yc e (List.get l ⟨k, hk⟩) ≤ Yc (.sl e) l :=
 qa (Cs (f := Yc e) hk) (Nat.le_add_left _ _)
theorem BC (e : Ra) (hz : Yc Pc e ≤ Qa) : Ih (((), e.2.1, ((ja e.2.1 : Nat) : Int), (0 : Int), ()), (e, ())) =
 some (cond (Xd (fun _ m => Sf m) 0 e.2.1) (.inl (((), ()), (e, ()))) (.inr ((false, ()), ()))) := by
 have h20 : Qa = 1048576 := rfl
 rw [Ax] at hz
 have hl := NV (e := .sl Pg) e.2.1
 unfold Ih
 refine Sg (step := fun x => Pj x.1.1 x.1.2.1 x.1.2.2.1 x.1.2.2.2.1 x.2.1) e.2.1 (fun _ m => Sf m) (fun i => (((), e.2.1, ((ja e.2.1 : Nat) : Int), i, ()), (e, ()))) _ _ ?_ ?_ (by omega)
 ·intro k hk
  simp only [Pj]
  have hk2 : (k : Int) < ((ja e.2.1 : Nat) : Int) := by omega
  rw [Ja hk2, Cd hk]
  simp only [cond_true, jb]
  have he := MZ (e := .sl Pg) hk
  rw [TK] at he
  rw [Qt e.2.1[k] (by have : (List.get e.2.1 ⟨k, hk⟩) = e.2.1[k] := rfl; rw [this] at he; omega)]
  simp only [jb]
  cases Sf e.2.1[k] <;> rfl
 ·simp only [Pj]
  rw [La (by omega)]; rfl
theorem RF (e : Ra) (hz : Yc Pc e ≤ Qa) : Wg (((), ((ja e.1.2.1 : Nat) : Int), e.2.2.2.1, ((ja e.2.2.2.1 : Nat) : Int), (0 : Int), ()), (e, ())) =
 some (cond (Xd (fun _ x => Ak e.1.1 e.1.2.1.length x) 0 e.2.2.2.1) (.inl (((), ((ja e.1.2.1 : Nat) : Int), ()), (e, ()))) (.inr ((false, ()), ()))) := by
 have h20 : Qa = 1048576 := rfl
 rw [Ax, Xy] at hz
 unfold Wg
 refine Sg (step := fun x => Si x.1.1 x.1.2.1 x.1.2.2.1 x.1.2.2.2.1 x.1.2.2.2.2.1 x.2.1) e.2.2.2.1 (fun _ x => Ak e.1.1 e.1.2.1.length x)
  (fun i => (((), ((ja e.1.2.1 : Nat) : Int), e.2.2.2.1, ((ja e.2.2.2.1 : Nat) : Int), i, ()), (e, ()))) _ _ ?_ ?_ (by omega)
 ·intro k hk
  simp only [Si]
  have hk2 : (k : Int) < ((ja e.2.2.2.1 : Nat) : Int) := by omega
  rw [Ja hk2, Cd hk]
  simp only [cond_true, jb, Ak]
  cases decide (e.2.2.2.1[k].1 ≥ e.1.1) <;> cases (e.2.2.2.1[k].2.1.1 != 9) <;> cases decide (e.2.2.2.1[k].2.1.2.2.2.1 ≥ ((ja e.1.2.1 : Nat) : Int)) <;> rfl
 ·simp only [Si]
  rw [La (by omega)]; rfl
theorem Sk (e : Ra) (hz : Yc Pc e ≤ Qa) : Ch e = some (Br e, ()) := by
 have h20 : Qa = 1048576 := rfl
 have hz' := hz
 rw [Ax, Xy] at hz'
 unfold Ch Br
 rw [Jo e.1 (by omega)]
 cases hk : Zb e.1 with
 | false => rfl
 | true =>
  simp only [jb, jg, cond_false, jk]
  by_cases h4 : e.2.1.length ≤ 4
  ·rw [La (show ¬ ((ja e.2.1 : Nat) : Int) > 4 by omega), Ja h4, En _ (by omega)]
   simp only [jb, cond_false, jk]
   cases hh : Ud e.2.2.2.1 with
   | false => rfl
   | true =>
    simp only [jg, cond_false, jk]
    rw [BC e hz]
    have hl := (Pe hk).l2
    by_cases ho : 0 ≤ e.2.2.2.2.1 ∧ e.2.2.2.2.1 ≤ 15
    ·rw [La (show ¬ e.2.2.2.2.1 < 0 by omega), La (show ¬ e.2.2.2.2.1 > 15 by omega), Ja ho]
     simp only [cond_false, jb, Bool.and_true]
     cases Xd (fun _ m => Sf m) 0 e.2.1 with
     | false => rfl
     | true =>
      simp only [cond_true, qi, jk]
      rw [RF e hz]
      cases Xd (fun _ x => Ak e.1.1 e.1.2.1.length x) 0 e.2.2.2.1 with
      | false => rfl
      | true =>
       simp only [cond_true, jb, qi, jk]
       rw [OK (by omega), Ja (show (0 : Int) ≤ ((ja e.1.2.1 : Nat) : Int) by omega)]
       have e2 : ((2 : Int) == 0) = false := rfl
       rw [e2]
       simp only [cond_false, cond_true]
       by_cases hf : 0 ≤ e.2.2.1
       ·rw [Ja (show e.2.2.1 ≥ 0 from hf)]
        by_cases hf2 : e.2.2.1 < ((2 ^ e.1.2.1.length : Nat) : Int)
        ·rw [Ja hf2, Ja (show 0 ≤ e.2.2.1 ∧ e.2.2.1 < ((2 ^ e.1.2.1.length : Nat) : Int) from ⟨hf, hf2⟩)]
         cases Int.tmod e.2.2.1 2 == 0 <;> rfl
        ·rw [La hf2, La (show ¬ (0 ≤ e.2.2.1 ∧ e.2.2.1 < ((2 ^ e.1.2.1.length : Nat) : Int)) from fun h => hf2 h.2)]
         cases Int.tmod e.2.2.1 2 == 0 <;> rfl
       ·rw [La (show ¬ e.2.2.1 ≥ 0 from hf), La (show ¬ (0 ≤ e.2.2.1 ∧ e.2.2.1 < ((2 ^ e.1.2.1.length : Nat) : Int)) from fun h => hf h.1)]
        rfl
    ·have hr : (Xd (fun _ m => Sf m) 0 e.2.1 && (Xd (fun _ x => Ak e.1.1 e.1.2.1.length x) 0 e.2.2.2.1 && (decide (0 ≤ e.2.2.1 ∧ e.2.2.1 < ((2 ^ e.1.2.1.length : Nat) : Int)) && ((Int.tmod e.2.2.1 2 == 0) && decide (0 ≤ e.2.2.2.2.1 ∧ e.2.2.2.2.1 ≤ 15))))) = false := by
      rw [La ho]; simp
     rw [hr]
     by_cases h1 : e.2.2.2.2.1 < 0
     ·rw [Ja h1]; rfl
     ·rw [La h1, Ja (show e.2.2.2.2.1 > 15 by omega)]; rfl
  ·rw [Ja (show ((ja e.2.1 : Nat) : Int) > 4 by omega), La h4]; rfl
def SH (x : Nn) : Bool := decide (0 ≤ x.1 ∧ x.1 ≤ 1000000) && decide (0 ≤ x.2.1 ∧ x.2.1 ≤ 31)
def SX (s : Int × Int) (x : Nn) : Bool := SH x && (!decide (s.1 > x.1) && !(x.2.2.1 == (Yd s.2 x.2.1 == 1)))
def T3 (s : Int × Int) (x : Nn) : (Int × Int) ⊕ Unit := cond (SX s x) (.inl (x.1, Gp .i64 s.2 (Be .i64 1 x.2.1))) (.inr ())

def Ad {S : Type} (g : Nat → S → S) : Nat → S → S
 | 0, s => s
 | n + 1, s => g n (Ad g n s)
theorem Kz {X R S : Type} {step : X → Option (X ⊕ R)} (n : Nat) (hn : n < 9223372036854775807) (g : Nat → S → S) (s0 : S) (I : S → Int → X) (out : S → R)
 (h : ∀ k, k < n → step (I (Ad g k s0) (k : Int)) = some (.inl (I (g k (Ad g k s0)) (j5 .i64 ((k : Int) + 1))))) (he : step (I (Ad g n s0) (n : Int)) = some (.inr (out (Ad g n s0)))) :
 Vb step (I s0 0) = some (out (Ad g n s0)) := by
 have := MP (step := step) (fun k => I (Ad g k s0) (k : Int)) n (out (Ad g n s0)) (fun k hk => by
  rw [h k hk, Af (by omega)]; rfl) he
 exact this
theorem Rv {S : Type} {g : Nat → S → S} {p : Nat → S → Prop} {s0 : S} (h0 : p 0 s0) (hs : ∀ k s, p k s → p (k + 1) (g k s)) : ∀ n, p n (Ad g n s0)
 | 0 => h0
 | n + 1 => hs n _ (Rv h0 hs n)
theorem KG {e : Ty} {c : Nat} : ∀ {w : List (T e)}, (∀ x ∈ w, Yc e x ≤ c) → Yc (.sl e) w ≤ (c + 1) * w.length
 | [], _ => by simp [Yc]
 | x :: r, h => by
  have h1 := h x (by simp)
  have h2 : Yc (.sl e) r ≤ (c + 1) * r.length := KG fun y hy => h y (by simp [hy])
  have h3 : Yc (.sl e) r = ja r + (List.map (Yc e) r).sum := rfl
  have h4 : Yc (.sl e) (x :: r) = (ja r + 1) + (Yc e x + (List.map (Yc e) r).sum) := by simp [Yc]
  rw [h4, jw, Nat.mul_add]
  omega
theorem Su {n : Nat} (h : n ≤ 1073741824) : jx n Ob = true := ji h
theorem YB {α β : Type} (f : α → β) : ∀ (xs : List α) (k : Nat) (o : List β), Bc (fun _ o x => jf o [f x]) k o xs = o ++ xs.map f
 | [], _, o => by simp [Bc]
 | x :: r, k, o => by
  simp only [Bc]
  rw [YB f r]
  simp
theorem RE {X R α β : Type} {step : X → Option (X ⊕ R)} (xs : List α) (f : α → β) (I : List β → Int → X) (out : List β → R) (hn : xs.length ≤ 1073741824)
 (h : ∀ k (hk : k < xs.length) (o : List β), ja o = k → step (I o (k : Int)) = some (.inl (I (jf o [f xs[k]]) (j5 .i64 ((k : Int) + 1)))))
 (he : ∀ o : List β, step (I o (xs.length : Int)) = some (.inr (out o))) : Vb step (I [] 0) = some (out (xs.map f)) := by
 have := (Ph (step := step) xs (fun _ o x => jf o [f x]) I out (fun k o => ja o = k) (fun k hk o ho => ⟨h k hk o ho, by simp [ho]⟩) (fun o _ => he o) (by omega) [] rfl).1
 rw [this, YB]
 rfl
theorem TI (a : List Aa) : Yc (.sl Wc) a = a.length := Ew (e := Wc) rfl a
theorem Vs (l : List Int) (h : l.length ≤ Qa) : Gl l = some (l, ()) := by
 have h20 : Qa = 1048576 := rfl
 unfold Gl
 rw [Su (by simp; omega)]
 rfl

theorem JK : (2 : Nat) ^ 63 = 9223372036854775808 := rfl
theorem Yq {a : Nat} (ha : a < 2 ^ 63) : (BitVec.ofInt 64 (a : Int)).toNat = a := by
 rw [BitVec.ofInt_natCast, BitVec.toNat_ofNat, Nat.mod_eq_of_lt (by omega)]
theorem JA {a b : Nat} (ha : a < 2 ^ 63) (hb : b < 2 ^ 63) : Qk .i64 (a : Int) (b : Int) = ((a &&& b : Nat) : Int) := by
 have h : (BitVec.ofInt (IntKind.bits .i64) (a : Int) &&& BitVec.ofInt (IntKind.bits .i64) (b : Int)).toNat = a &&& b := by
  rw [BitVec.toNat_and]; erw [Yq ha, Yq hb]
 unfold Qk
 rw [h]
 have h2 : a &&& b ≤ a := Nat.and_le_left
 have h3 := JK
 exact Ae (by omega) (by omega)
theorem Qy {a b : Nat} (ha : a < 2 ^ 63) (hb : b < 2 ^ 63) : Td .i64 (a : Int) (b : Int) = ((a ||| b : Nat) : Int) := by
 have h : (BitVec.ofInt (IntKind.bits .i64) (a : Int) ||| BitVec.ofInt (IntKind.bits .i64) (b : Int)).toNat = a ||| b := by
  rw [BitVec.toNat_or]; erw [Yq ha, Yq hb]
 unfold Td
 rw [h]
 have h2 : a ||| b < 2 ^ 63 := Nat.or_lt_two_pow ha hb
 have h3 := JK
 exact Ae (by omega) (by omega)
theorem PR {a b : Nat} (ha : a < 2 ^ 63) (hb : b < 2 ^ 63) : Gp .i64 (a : Int) (b : Int) = ((a ^^^ b : Nat) : Int) := by
 have h : (BitVec.ofInt (IntKind.bits .i64) (a : Int) ^^^ BitVec.ofInt (IntKind.bits .i64) (b : Int)).toNat = a ^^^ b := by
  rw [BitVec.toNat_xor]; erw [Yq ha, Yq hb]
 unfold Gp
 rw [h]
 have h2 : a ^^^ b < 2 ^ 63 := qm ha hb
 have h3 := JK
 exact Ae (by omega) (by omega)
theorem HU {w : Nat} (x y : BitVec w) : x &&& ~~~y = x ^^^ (x &&& y) := by
 ext i hi
 simp only [BitVec.getElem_and, BitVec.getElem_not, BitVec.getElem_xor]
 cases x[i] <;> cases y[i] <;> rfl
theorem NE {a b : Nat} (ha : a < 2 ^ 63) (hb : b < 2 ^ 63) : Ff .i64 (a : Int) (b : Int) = ((a ^^^ (a &&& b) : Nat) : Int) := by
 have h : (BitVec.ofInt (IntKind.bits .i64) (a : Int) &&& ~~~ BitVec.ofInt (IntKind.bits .i64) (b : Int)).toNat = a ^^^ (a &&& b) := by
  rw [HU, BitVec.toNat_xor, BitVec.toNat_and]; erw [Yq ha, Yq hb]
 unfold Ff
 rw [h]
 have h1 : a &&& b ≤ a := Nat.and_le_left
 have h2 : a ^^^ (a &&& b) < 2 ^ 63 := qm ha (by omega)
 have h3 := JK
 exact Ae (by omega) (by omega)
theorem OA (a : Nat) {k : Nat} (hk : k ≤ 64) : Ys .i64 (a : Int) (k : Int) = ((a >>> k : Nat) : Int) := by
 unfold Ys
 have h1 : min (jy (k : Int)) (IntKind.bits .i64) = k := by
  show min (jy (k : Int)) 64 = k
  rw [jn]; omega
 rw [h1, Nat.shiftRight_eq_div_pow]
 have h2 : (2 : Int) ^ k = ((2 ^ k : Nat) : Int) := by simp
 rw [h2]
 exact (Int.fdiv_eq_ediv_of_nonneg _ (Int.natCast_nonneg _)).trans (by simp)
theorem Qv {a k : Nat} (h : a * 2 ^ k < 2 ^ 63) (hk : k ≤ 64) : Be .i64 (a : Int) (k : Int) = ((a <<< k : Nat) : Int) := by
 unfold Be
 have h1 : min (jy (k : Int)) (IntKind.bits .i64) = k := by
  show min (jy (k : Int)) 64 = k
  rw [jn]; omega
 have h2 : (2 : Int) ^ k = ((2 ^ k : Nat) : Int) := by simp
 have h4 : (a : Int) * ((2 ^ k : Nat) : Int) = ((a * 2 ^ k : Nat) : Int) := by simp
 rw [h1, Nat.shiftLeft_eq, h2, h4]
 have h3 := JK
 generalize a * 2 ^ k = z at *
 exact Ae (by omega) (by omega)
theorem Yp {a k : Nat} (ha : a < 2 ^ 63) (hk : k ≤ 64) : (Yd (a : Int) (k : Int) == 1) = a.testBit k := by
 unfold Yd
 have h1 : a >>> k ≤ a := by rw [Nat.shiftRight_eq_div_pow]; exact Nat.div_le_self _ _
 have h3 := JK
 rw [OA a hk]
 show (Qk .i64 ((a >>> k : Nat) : Int) ((1 : Nat) : Int) == 1) = _
 rw [JA (by omega) (by omega), Nat.and_one_is_mod, Nat.testBit_eq_decide_div_mod_eq, Nat.shiftRight_eq_div_pow]
 have : a / 2 ^ k % 2 = 0 ∨ a / 2 ^ k % 2 = 1 := by omega
 rcases this with h | h <;> rw [h] <;> rfl
theorem Vu {k : Nat} (hk : k ≤ 62) : (2 : Nat) ^ k < 2 ^ 63 := Nat.pow_lt_pow_right (by omega) (by omega)
def cnt : Nat → Nat → Nat
 | 0, _ => 0
 | k + 1, n => n % 2 + cnt k (n / 2)
def u1 (a : Nat) : Nat := ((a / 2) &&& 85) + (a &&& 85)
def u2 (a : Nat) : Nat := ((a / 4) &&& 51) + (a &&& 51)
def M5 : Nat := 6148914691236517205
def M3 : Nat := 3689348814741910323
def MF : Nat := 1085102592571150095
def s1 (n : Nat) : Nat := (n / 2 &&& M5) + (n &&& M5)
def s2 (n : Nat) : Nat := (n / 4 &&& M3) + (n &&& M3)
def s3 (n : Nat) : Nat := (n / 16 + n) &&& MF


def rowN (C m r : Nat) : Nat := (m >>> (r * C)) &&& (2 ^ C - 1)
def H0 (C a b m : Nat) : Nat := cond (rowN C m a &&& rowN C m b != 0) (m ||| rowN C m b <<< (a * C)) m
def g3 (C a : Nat) : Nat → Nat → Nat := fun b m => H0 C a b m
def g2 (C R : Nat) : Nat → Nat → Nat := fun a m => Ad (g3 C a) R m
def g1 (C R : Nat) : Nat → Nat → Nat := fun _ m => Ad (g2 C R) R m
structure Z6 (C R : Nat) : Prop where
 c1 : 1 ≤ C
 c2 : C ≤ 6
 r1 : 1 ≤ R
 r2 : R ≤ 4

structure Wh (c : Db) : Prop where
 lo : 0 ≤ c.2.1
 hi : c.2.1 ≤ (c.1.length : Int)
 len : c.1.length ≤ Qa
theorem JN (z : Int) : 0 ≤ Qk .i64 z 255 ∧ Qk .i64 z 255 ≤ 255 := by
 have h : (BitVec.ofInt 64 z &&& BitVec.ofInt 64 255).toNat ≤ 255 := by
  rw [BitVec.toNat_and]
  exact Nat.and_le_right
 show 0 ≤ j5 .i64 ((BitVec.ofInt 64 z &&& BitVec.ofInt 64 255).toNat : Int) ∧ j5 .i64 ((BitVec.ofInt 64 z &&& BitVec.ofInt 64 255).toNat : Int) ≤ 255
 rw [Ae (by omega) (by omega)]
 omega
theorem Ly {c : Db} (h : Wh c) : ∃ (c' : Db) (x : Int), Th c = some (c', (x, ())) ∧ Wh c' ∧ 0 ≤ x ∧ x ≤ 255 := by
 have h20 : Qa = 1048576 := rfl
 have h1 := h.lo
 have h2 := h.len
 unfold Th
 by_cases hi : c.2.1 < ((ja c.1 : Nat) : Int)
 ·obtain ⟨k, hk⟩ := jv h1
  rw [Ja hi, hk, Cd (show k < c.1.length by omega)]
  refine ⟨_, _, rfl, ⟨?_, ?_, h2⟩, JN _⟩
  ·show 0 ≤ j5 .i64 ((k : Int) + 1)
   rw [Af (by omega)]; omega
  ·show j5 .i64 ((k : Int) + 1) ≤ _
   rw [Af (by omega)]; show _ ≤ ((ja c.1 : Nat) : Int); omega
 ·rw [La hi]
  exact ⟨_, _, rfl, ⟨h1, h.hi, h2⟩, JN _⟩
theorem Pk {c : Db} (h : Wh c) (n : Int) (hn : 0 < n) : ∃ (c' : Db) (x : Int), Wa c n = some (c', (x, ())) ∧ Wh c' ∧ 0 ≤ x ∧ x < n := by
 obtain ⟨c1, x1, e1, h1, b1⟩ := Ly h
 unfold Wa
 rw [La (show ¬ n ≤ 0 by omega), e1, show (n == 0) = false by simp; omega]
 simp only [cond_false, jb]
 by_cases h256 : n ≤ 256
 ·rw [Ja h256]
  exact ⟨_, _, rfl, h1, Int.tmod_nonneg _ (by omega), Int.tmod_lt_of_pos _ hn⟩
 ·obtain ⟨c2, x2, e2, h2, b2⟩ := Ly h1
  obtain ⟨c3, x3, e3, h3, b3⟩ := Ly h2
  obtain ⟨c4, x4, e4, h4, b4⟩ := Ly h3
  rw [La h256, e2]
  simp only [cond_false, jb]
  rw [e3]
  simp only [jb]
  rw [e4]
  simp only [jb]
  rw [Ae (n := x1 * 16777216) (by omega) (by omega), Ae (n := x2 * 65536) (by omega) (by omega), Ae (n := x3 * 256) (by omega) (by omega), Ae (n := x1 * 16777216 + x2 * 65536) (by omega) (by omega), Ae (n := x1 * 16777216 + x2 * 65536 + x3 * 256) (by omega) (by omega), Ae (n := x1 * 16777216 + x2 * 65536 + x3 * 256 + x4) (by omega) (by omega)]
  exact ⟨_, _, rfl, h4, Int.tmod_nonneg _ (by omega), Int.tmod_lt_of_pos _ hn⟩
theorem GK {c : Db} (h : Wh c) (n : Int) (hn : 0 < n) : ∃ (c' : Db) (b : Bool), Ol c n = some (c', (b, ())) ∧ Wh c' := by
 obtain ⟨c1, x1, e1, h1, b1⟩ := Pk h n hn
 unfold Ol
 rw [e1]
 exact ⟨_, _, rfl, h1⟩
theorem HV {c : Db} (h : Wh c) (l : List Int) (hl : 0 < l.length) (h2 : l.length ≤ 1000) : ∃ (c' : Db) (x : Int), Hn c l = some (c', (x, ())) ∧ Wh c' ∧ x ∈ l := by
 obtain ⟨c1, x1, e1, h1, b1⟩ := Pk h ((ja l : Nat) : Int) (by omega)
 unfold Hn
 rw [e1]
 obtain ⟨k, rfl⟩ := jv b1.1
 have hk : k < l.length := by omega
 simp only [jb]
 rw [Es, Ja hk, jn, je hk]
 exact ⟨_, _, rfl, h1, qn hk⟩
theorem CZ (a : List Int) (hn : a.length ≤ Qa) : ∃ h : Int, Bs a = some (a, (0, (h, ()))) := by
 have h20 : Qa = 1048576 := rfl
 have := Cr (s := fun x : (List Int × (Int × (Int × Unit))) × Unit => Kq x.1.1 x.1.2.1 x.1.2.2.1) (fun n x => ∃ (h : Int) (k : Nat), x = ((a, h, (k : Int), ()), ()) ∧ n + k = a.length) (fun r => ∃ h : Int, r = .inl ((a, h, ()), ())) (by
  rintro n x ⟨h, k, rfl, hk⟩
  simp only [Kq]
  by_cases h1 : (k : Int) < ((ja a : Nat) : Int)
  ·rw [Ja h1]
   by_cases h2 : (k : Int) < 4000
   ·rw [Ja h2, Cd (show k < a.length by omega), Af (by omega)]
    exact .inr ⟨_, n - 1, by omega, rfl, _, k + 1, rfl, by omega⟩
   ·rw [La h2]; exact .inl ⟨_, rfl, _, rfl⟩
  ·rw [La h1]; exact .inl ⟨_, rfl, _, rfl⟩) a.length ((a, j5 .i64 (10729 + ((ja a : Nat) : Int)), ((0 : Nat) : Int), ()), ()) ⟨_, 0, rfl, rfl⟩
 obtain ⟨r, h1, h, rfl⟩ := this
 refine ⟨h, ?_⟩
 unfold Bs Mn
 erw [h1]
 rfl
theorem CI (a : List Int) (n : Int) (hn : a.length ≤ Qa) : ∃ c : Db, Vn a n = some c ∧ Wh c := by
 obtain ⟨h, e⟩ := CZ a hn
 unfold Vn
 rw [e]
 exact ⟨_, rfl, ⟨Int.le_refl _, by show (0 : Int) ≤ _; omega, hn⟩⟩
theorem VE (a : List Int) (p n : Int) (hl : a.length ≤ Qa) (hn : 0 < n) : ∃ x : Int, Cj a p n = some (x, ()) ∧ 0 ≤ x ∧ x < n := by
 obtain ⟨c, e, hc⟩ := CI a p hl
 obtain ⟨c1, x, e1, h1, b1⟩ := Pk hc n hn
 unfold Cj
 rw [e]
 simp only [jb]
 rw [e1]
 exact ⟨x, rfl, b1⟩
def Vq (n : Int) (a : Aa) : Prop := Yb a = true ∧ a.1 ≠ 1 ∧ (a.1 = 9 ∨ a.2.2.2.1 < n)
theorem Xj {n k c m x : Int} (h : Lb k c m x) (h1 : k ≠ 1) (h2 : k = 9 ∨ x < n) : Vq n (k, c, m, x, ()) := ⟨(Jb _).2 h, h1, h2⟩
def Oj (n : Int) (o : Option (Db × (Aa × Unit))) : Prop := ∃ (c : Db) (a : Aa), o = some (c, (a, ())) ∧ Wh c ∧ Vq n a
theorem Yn {n : Int} {c : Db} {a : Aa} (h : Wh c) (ha : Vq n a) : Oj n (some (c, (a, ()))) := ⟨c, a, rfl, h, ha⟩
theorem Zj {n : Int} {b : Bool} {x y : Option (Db × (Aa × Unit))} (h1 : Oj n x) (h2 : Oj n y) : Oj n (cond b x y) := by cases b <;> assumption
theorem KR {n : Int} {p : Prop} [Decidable p] {x y : Option (Db × (Aa × Unit))} (h1 : p → Oj n x) (h2 : Oj n y) : Oj n (cond (decide p) x y) := by
 by_cases h : p
 ·rw [Ja h]; exact h1 h
 ·rw [La h]; exact h2
theorem Fq {n m : Int} {c : Db} (hc : Wh c) (hm : 0 < m) {f : (Db × (Int × Unit)) → Option (Db × (Aa × Unit))}
 (h : ∀ (c' : Db) (x : Int), Wh c' → 0 ≤ x → x < m → Oj n (f (c', (x, ())))) : Oj n (jz (Wa c m) f) := by
 obtain ⟨c1, x1, e1, h1, b1⟩ := Pk hc m hm
 rw [e1]
 exact h c1 x1 h1 b1.1 b1.2
theorem NU {n m : Int} {c : Db} (hc : Wh c) (hm : 0 < m) {f : (Db × (Bool × Unit)) → Option (Db × (Aa × Unit))}
 (h : ∀ (c' : Db) (x : Bool), Wh c' → Oj n (f (c', (x, ())))) : Oj n (jz (Ol c m) f) := by
 obtain ⟨c1, x1, e1, h1⟩ := GK hc m hm
 rw [e1]
 exact h c1 x1 h1
theorem J0 {c : Db} {n x : Int} {a0 a1 a2 : Aa} (hc : Wh c) (h0 : 0 ≤ x) (h3 : x < 3) (g0 : Vq n a0) (g1 : Vq n a1) (g2 : Vq n a2) :
 Oj n (cond (Xi (ja [a0, a1, a2]) x) (jz [a0, a1, a2][(jy x)]? fun y => some (c, (y, ()))) none) := by
 have : x = 0 ∨ x = 1 ∨ x = 2 := by omega
 rcases this with rfl | rfl | rfl
 ·exact Yn hc g0
 ·exact Yn hc g1
 ·exact Yn hc g2
theorem AO {c : Db} (h : Wh c) (n : Int) (hn : 1 ≤ n) (hn4 : n ≤ 4) : Oj n (Tq c n) := by
 unfold Tq
 rw [Ae (n := n - 1) (by omega) (by omega)]
 refine Fq h (by omega) fun c1 x1 h1 l1 u1 => ?_
 refine Fq h1 (by omega) fun c2 x2 h2 l2 u2 => ?_
 refine NU h2 (by omega) fun c3 x3 h3 => ?_
 simp only
 rw [Ae (n := 1 + x1) (by omega) (by omega), Ae (n := 1 + x2) (by omega) (by omega)]
 have tail : ∀ (md : Int), 1 ≤ md → md ≤ 15 → Oj n (jz (Wa c3 (max (1 : Int) (n - 1))) fun r4 =>
  (jz (Wa r4.1 (16 : Int)) fun r5 =>
  (cond (r5.2.1 == (0 : Int)) (some (r5.1, (((2 : Int), (1 + x1), md, (0 : Int), ()), ())))
  (cond (r5.2.1 == (1 : Int)) (some (r5.1, (((2 : Int), (0 : Int), md, (0 : Int), ()), ())))
  (cond (r5.2.1 == (2 : Int)) (some (r5.1, (((6 : Int), (1 + x1), md, (0 : Int), ()), ())))
  (cond (r5.2.1 == (3 : Int)) (some (r5.1, (((6 : Int), (1 + x1), md, (0 : Int), ()), ())))
  (cond (r5.2.1 == (4 : Int)) (some (r5.1, (((8 : Int), (0 : Int), md, (0 : Int), ()), ())))
  (cond (r5.2.1 == (5 : Int)) (jz (Wa r5.1 (4 : Int)) fun r6 => (some (r6.1, (((9 : Int), (0 : Int), (0 : Int), r6.2.1, ()), ()))))
  (cond (r5.2.1 == (6 : Int)) (some (r5.1, (((10 : Int), (0 : Int), (0 : Int), (0 : Int), ()), ())))
  (cond (r5.2.1 == (7 : Int)) (jz (Wa r5.1 (max (1 : Int) n)) fun r7 => (some (r7.1, (((5 : Int), (0 : Int), (0 : Int), r7.2.1, ()), ()))))
  (cond (r5.2.1 == (8 : Int)) (cond (decide (n > (1 : Int))) (jz (Wa r5.1 (3 : Int)) fun r8 => (cond (Xi (ja ([((3 : Int), (0 : Int), (0 : Int), (j4 .i64 ((1 : Int) + r4.2.1)), ()), ((4 : Int), (0 : Int), (0 : Int), (j4 .i64 ((1 : Int) + r4.2.1)), ()), ((7 : Int), (1 + x1), (0 : Int), (j4 .i64 ((1 : Int) + r4.2.1)), ())] : List Aa)) r8.2.1) (jz ([((3 : Int), (0 : Int), (0 : Int), (j4 .i64 ((1 : Int) + r4.2.1)), ()), ((4 : Int), (0 : Int), (0 : Int), (j4 .i64 ((1 : Int) + r4.2.1)), ()), ((7 : Int), (1 + x1), (0 : Int), (j4 .i64 ((1 : Int) + r4.2.1)), ())] : List Aa)[(jy r8.2.1)]? fun x9 => (some (r8.1, (x9, ())))) none)) (some (r5.1, (((2 : Int), (1 + x1), (0 : Int), (0 : Int), ()), ()))))
  (cond (r5.2.1 == (9 : Int)) (cond (decide (n > (1 : Int))) (jz (Wa r5.1 (3 : Int)) fun r8 => (cond (Xi (ja ([((3 : Int), (0 : Int), (0 : Int), (j4 .i64 ((1 : Int) + r4.2.1)), ()), ((4 : Int), (0 : Int), (0 : Int), (j4 .i64 ((1 : Int) + r4.2.1)), ()), ((7 : Int), (1 + x1), (0 : Int), (j4 .i64 ((1 : Int) + r4.2.1)), ())] : List Aa)) r8.2.1) (jz ([((3 : Int), (0 : Int), (0 : Int), (j4 .i64 ((1 : Int) + r4.2.1)), ()), ((4 : Int), (0 : Int), (0 : Int), (j4 .i64 ((1 : Int) + r4.2.1)), ()), ((7 : Int), (1 + x1), (0 : Int), (j4 .i64 ((1 : Int) + r4.2.1)), ())] : List Aa)[(jy r8.2.1)]? fun x9 => (some (r8.1, (x9, ())))) none)) (some (r5.1, (((2 : Int), (1 + x1), (0 : Int), (0 : Int), ()), ()))))
  (cond (r5.2.1 == (10 : Int)) (cond (decide (n > (1 : Int))) (jz (Wa r5.1 (3 : Int)) fun r8 => (cond (Xi (ja ([((3 : Int), (0 : Int), (0 : Int), (j4 .i64 ((1 : Int) + r4.2.1)), ()), ((4 : Int), (0 : Int), (0 : Int), (j4 .i64 ((1 : Int) + r4.2.1)), ()), ((7 : Int), (1 + x1), (0 : Int), (j4 .i64 ((1 : Int) + r4.2.1)), ())] : List Aa)) r8.2.1) (jz ([((3 : Int), (0 : Int), (0 : Int), (j4 .i64 ((1 : Int) + r4.2.1)), ()), ((4 : Int), (0 : Int), (0 : Int), (j4 .i64 ((1 : Int) + r4.2.1)), ()), ((7 : Int), (1 + x1), (0 : Int), (j4 .i64 ((1 : Int) + r4.2.1)), ())] : List Aa)[(jy r8.2.1)]? fun x9 => (some (r8.1, (x9, ())))) none)) (some (r5.1, (((2 : Int), (1 + x1), (0 : Int), (0 : Int), ()), ()))))
  (some (r5.1, (((2 : Int), (1 + x1), (0 : Int), (0 : Int), ()), ())))))))))))))))) := by
  intro md lm um
  refine Fq h3 (by omega) fun c4 x4 h4 l4 u4 => ?_
  refine Fq h4 (by omega) fun c5 x5 h5 l5 u5 => ?_
  simp only
  rw [Ae (n := 1 + x4) (by omega) (by omega)]
  have last : Oj n (some (c5, (((2 : Int), (1 + x1), (0 : Int), (0 : Int), ()), ()))) := Yn h5 (Xj (by unfold Lb; omega) (by omega) (by omega))
  have mid : Oj n (cond (decide (n > (1 : Int))) (jz (Wa c5 (3 : Int)) fun r8 => (cond (Xi (ja ([((3 : Int), (0 : Int), (0 : Int), (1 + x4), ()), ((4 : Int), (0 : Int), (0 : Int), (1 + x4), ()), ((7 : Int), (1 + x1), (0 : Int), (1 + x4), ())] : List Aa)) r8.2.1) (jz ([((3 : Int), (0 : Int), (0 : Int), (1 + x4), ()), ((4 : Int), (0 : Int), (0 : Int), (1 + x4), ()), ((7 : Int), (1 + x1), (0 : Int), (1 + x4), ())] : List Aa)[(jy r8.2.1)]? fun x9 => (some (r8.1, (x9, ())))) none)) (some (c5, (((2 : Int), (1 + x1), (0 : Int), (0 : Int), ()), ())))) := by
   refine KR (fun hn1 => ?_) last
   have hx : 1 + x4 < n := by omega
   refine Fq h5 (by omega) fun c6 x6 h6 l6 u6 => ?_
   exact J0 h6 l6 u6 (Xj (by unfold Lb; omega) (by omega) (by omega)) (Xj (by unfold Lb; omega) (by omega) (by omega)) (Xj (by unfold Lb; omega) (by omega) (by omega))
  refine Zj (Yn h5 (Xj (by unfold Lb; omega) (by omega) (by omega))) ?_
  refine Zj (Yn h5 (Xj (by unfold Lb; omega) (by omega) (by omega))) ?_
  refine Zj (Yn h5 (Xj (by unfold Lb; omega) (by omega) (by omega))) ?_
  refine Zj (Yn h5 (Xj (by unfold Lb; omega) (by omega) (by omega))) ?_
  refine Zj (Yn h5 (Xj (by unfold Lb; omega) (by omega) (by omega))) ?_
  refine Zj (Fq h5 (by omega) fun c6 x6 h6 l6 u6 => by simp only; exact Yn h6 (Xj (by unfold Lb; omega) (by omega) (by omega))) ?_
  refine Zj (Yn h5 (Xj (by unfold Lb; omega) (by omega) (by omega))) ?_
  refine Zj (Fq h5 (by omega) fun c6 x6 h6 l6 u6 => by simp only; exact Yn h6 (Xj (by unfold Lb; omega) (by omega) (by omega))) ?_
  exact Zj mid (Zj mid (Zj mid last))
 cases x3 with
 | true => exact tail 2 (by omega) (by omega)
 | false => exact tail (1 + x2) (by omega) (by omega)
structure YK (c : XD) : Prop where
 a : c.1.length ≤ Qa
 q : c.2.2.1.length ≤ Qa
 e : c.2.2.2.2.2.2.1.length ≤ Qa
 r : ∀ x ∈ c.2.2.2.2.2.2.1, x.2.1 ≤ 9223372036854775807
structure T6 (x : Nn) : Prop where
 lo : 0 ≤ x.1
 hi : x.1 ≤ 31
 left : 0 ≤ x.2.1
structure D6 (b : HX) : Prop where
 d : b.2.1.2.2.2.2.2.1.length ≤ Qa
 c : YK b.2.2.1
 x : Yc XS b.2.2.2.1 ≤ Qa
theorem QR {m : Ha} (hz : Yc Za m ≤ Qa) : ja m.2.1 ≤ Qa ∧ ∀ k (hk : k < m.2.1.length), m.2.1[k].length ≤ Qa := by
 have h0 : Yc Za m = 0 + (Yc (.sl (.sl Wc)) m.2.1 + 0) := rfl
 have h1 : Yc (.sl (.sl Wc)) m.2.1 = ja m.2.1 + (List.map (Yc (.sl Wc)) m.2.1).sum := rfl
 refine ⟨by omega, fun k hk => ?_⟩
 have h2 := Cs (f := Yc (.sl Wc)) hk
 rw [TI] at h2
 omega
theorem Qm (m : Ha) (hz : Yc Za m ≤ Qa) : Zg m = some (m, ()) := by
 have h20 : Qa = 1048576 := rfl
 obtain ⟨h1, h2⟩ := QR hz
 have hl := RE (step := fun x : (Unit × Unit × List (List Aa) × Int × Int × Unit) × Ha × Ha × Unit => Gi x.1.1 x.1.2.1 x.1.2.2.1 x.1.2.2.2.1 x.1.2.2.2.2.1 x.2.1 x.2.2.1) m.2.1 (fun x => x)
  (fun o k => (((), (), m.2.1, (m.2.1.length : Int), k, ()), ((0, [], ()), (m.1, o, ()), ()))) (fun o => .inl (((), (), ()), ((0, [], ()), (m.1, o, ()), ()))) (by omega) (fun k hk o ho => by
   have := h2 k hk
   simp only [Gi]
   rw [Ja (by omega), Cd hk]
   simp only [cond_true, jb]
   rw [Su (by simp; omega), Su (by simp only [jw, j7]; omega)]
   rfl) (fun o => by
   simp only [Gi]
   rw [La (by omega)]
   rfl)
 unfold Zg Hj
 erw [hl]
 rw [List.map_id']
 rfl
theorem BQ {L : List (List Gd)} (hz : Yc (.sl (.sl Pg)) L ≤ Qa) : ja L ≤ Qa ∧ ∀ k (hk : k < L.length), L[k].length ≤ Qa := by
 have h1 : Yc (.sl (.sl Pg)) L = ja L + (List.map (Yc (.sl Pg)) L).sum := rfl
 refine ⟨by omega, fun k hk => ?_⟩
 have h2 := Cs (f := Yc (.sl Pg)) hk
 rw [TK] at h2
 omega
theorem Ar (L : List (List Gd)) (hz : Yc (.sl (.sl Pg)) L ≤ Qa) : Vi L = some (L, ()) := by
 have h20 : Qa = 1048576 := rfl
 obtain ⟨h1, h2⟩ := BQ hz
 have hl := RE (step := fun x => Hi x.1.1 x.1.2.1 x.1.2.2.1 x.1.2.2.2.1) L (fun x => x)
  (fun o k => ((o, L, ((ja L : Nat) : Int), k, ()), ())) (fun o => .inl ((o, ()), ())) (by omega) (fun k hk o ho => by
   have := h2 k hk
   simp only [Hi]
   rw [Ja (by omega), Cd hk]
   simp only [cond_true, jb]
   rw [Su (by simp; omega), Su (by simp only [jw, j7]; omega)]
   rfl) (fun o => by
   simp only [Hi]
   rw [La (by omega)]
   rfl)
 unfold Vi Ij
 erw [hl]
 rw [List.map_id']
 rfl
theorem Zq (e : Ra) (hz : Yc Pc e ≤ Qa) : Ui e = some (e, ()) := by
 have h20 : Qa = 1048576 := rfl
 rw [Ax, Xy] at hz
 unfold Ui
 rw [Qm _ (by omega), Ar _ (by omega), Su (by simp; omega)]
 rfl
theorem NR : ∀ (a b : List Int), a.length = b.length → Xd (fun k x => b.getD k 0 == x) 0 a = (b == a)
 | a, b, h => by
  rw [qs, Hf, beq_iff_eq]
  constructor
  ·intro hj
   apply List.ext_getElem h.symm
   intro i h1 h2
   have := hj i h2
   rw [js, beq_iff_eq, qh, je h1] at this
   exact this
  ·rintro rfl i hi
   rw [js, beq_iff_eq, qh, je hi]; rfl
theorem NA (a b : List Int) (hn : a.length ≤ Ob) : Zn a b = some (a == b, ()) := by
 have hlim := Yi
 unfold Zn
 by_cases h : a.length = b.length
 ·have hl := Sg (step := fun x => Sj x.1.1 x.1.2.1 x.1.2.2.1 x.1.2.2.2.1) a (fun k x => b.getD k 0 == x) (fun i => ((a, b, ((ja a : Nat) : Int), i, ()), ()))
   (.inl ((), ())) (.inr ((false, ()), ())) (by
    intro k hk
    simp only [Sj]
    rw [Ja (show (k : Int) < ((ja a : Nat) : Int) by omega), Cd hk, Cd (show k < b.length by omega), qh, je (show k < b.length by omega)]
    simp only [cond_true, jb, Option.getD_some, bne]
    rw [show (a[k] == b[k]) = (b[k] == a[k]) by rw [qs, beq_iff_eq, beq_iff_eq]; exact eq_comm]
    cases b[k] == a[k] <;> rfl) (by
    simp only [Sj]
    rw [La (by omega)]; rfl) (by omega)
  have e : (((ja a : Nat) : Int) != ((ja b : Nat) : Int)) = false := by simp [h]
  rw [e]
  simp only [cond_false]
  unfold Wk
  erw [hl]
  rw [NR a b h, show (b == a) = (a == b) by rw [qs, beq_iff_eq, beq_iff_eq]; exact eq_comm]
  cases a == b <;> rfl
 ·have e : (((ja a : Nat) : Int) != ((ja b : Nat) : Int)) = true := by simp; omega
  have e2 : (a == b) = false := by rw [beq_eq_false_iff_ne]; intro hh; exact h (by rw [hh])
  rw [e, e2]; rfl
theorem QS (a b : T Pd) (h1 : ja a.2.1 ≤ Ob) (_ : ja b.2.1 ≤ Ob) : (fun x : T (.p Pd (.p Pd .u)) => Ti x.1 x.2.1) (a, b, ()) = some (Fo a b, ()) := by
 show Ti a b = _
 unfold Ti
 rw [NA _ _ h1]
 simp only [jb, Fo]
 cases (show Int from a.1) == (show Int from b.1) <;> rfl
theorem RN (c : T Oc → T Oc → Option Bool) (l : List (T Oc)) (hl : ja l ≤ Ob) : ∀ (ys : List (T Oc)) (k : Nat) (out q : List (T Oc)) (a : T Oc), l.drop k = ys → k ≤ ja l → ja out + ja ys ≤ Ob →
 Lv c a ys = some q → Il c (((), out, l, ((ja l : Nat) : Int), (k : Int), ()), (a, ())) = some (.inl ((jf out q, ()), ())) := by
 have hlim := Yi
 intro ys
 induction ys with
 | nil =>
  intro k out q a hd hk _ hq
  have := DH hd hk
  subst this
  simp only [Lv, jc] at hq
  subst hq
  have hs : Cq c () out l ((ja l : Nat) : Int) ((ja l : Nat) : Int) a = some (.inr (.inl ((out, ()), ()))) := by
   unfold Cq
   rw [La (by omega)]; rfl
  unfold Il
  rw [Eh hs]
  simp
 | cons y ys ih =>
  intro k out q a hd hk hlen hq
  obtain ⟨hk', hy, hd'⟩ := HE hd
  simp only [Lv] at hq
  cases hc : c a y with
  | none => rw [hc] at hq; simp at hq
  | some b =>
   rw [hc] at hq
   simp only [jb] at hq
   cases hq2 : Lv c y ys with
   | none => rw [hq2] at hq; simp at hq
   | some q2 =>
    rw [hq2] at hq
    simp only [jb, jc] at hq
    have hlc : ja (y :: ys) = ja ys + 1 := rfl
    have hs : Cq c () out l ((ja l : Nat) : Int) (k : Int) a = some (.inl (((), cond b out (jf out [y]), l, ((ja l : Nat) : Int), ((k + 1 : Nat) : Int), ()), (y, ()))) := by
     unfold Cq FT
     rw [Ja (show (k : Int) < ((ja l : Nat) : Int) by omega), Cd hk', hy]
     simp only [cond_true, jb, hc]
     rw [Af (by omega)]
     cases b with
     | true => rfl
     | false =>
      rw [show jx (ja out + ja ([y] : List (Int × ((T .o) × Unit)))) Ob = true from ji (by simp only [jw, j7]; omega)]
      rfl
    unfold Il
    rw [Eh hs]
    simp only [jb, qi]
    have := ih (k + 1) (cond b out (jf out [y])) q2 y hd' hk' (by cases b with
     | true => simp only [cond_true]; omega
     | false => simp only [cond_false, List.append_eq, qd, jw, j7]; omega) hq2
    unfold Il at this
    rw [this, ← hq]
    cases b with
    | true => rfl
    | false => simp
theorem IU (c : T Oc → T Oc → Option Bool) : ∀ (a : T Oc) (l r : List (T Oc)), ja l ≤ Ob → Lv c a l = some r → (fun x : T (.p Oc (.p (.sl Oc) .u)) => VL c x.1 x.2.1) (a, l, ()) = some (r, ()) := by
 intro a l r hl hq
 show VL c a l = _
 unfold VL
 have := RN c l hl l 0 [] r a rfl (Nat.zero_le _) (by simpa using hl) hq
 erw [this]
 rfl
theorem FF : ∀ {a b : List Int}, a.Pairwise (· < ·) → b.Pairwise (· < ·) → (∀ x, x ∈ a ↔ x ∈ b) → a = b
 | [], [], _, _, _ => rfl
 | [], y :: b, _, _, h => by have := (h y).2 (by simp); simp at this
 | x :: a, [], _, _, h => by have := (h x).1 (by simp); simp at this
 | x :: a, y :: b, ha, hb, h => by
  rw [List.pairwise_cons] at ha hb
  have hxy : x = y := by
   rcases jp.1 ((h x).1 (by simp)) with h1 | h1
   ·exact h1
   ·rcases jp.1 ((h y).2 (by simp)) with h2 | h2
    ·exact h2.symm
    ·have := hb.1 x h1; have := ha.1 y h2; omega
  subst hxy
  congr 1
  refine FF ha.2 hb.2 fun z => ⟨fun hz => ?_, fun hz => ?_⟩
  ·rcases jp.1 ((h z).1 (by simp [hz])) with h1 | h1
   ·have := ha.1 z hz; omega
   ·exact h1
  ·rcases jp.1 ((h z).2 (by simp [hz])) with h1 | h1
   ·have := hb.1 z hz; omega
   ·exact h1
def Lw (o : List Int) (x : Int) : List Int := cond ((x != 0) && !o.any (fun y => y == x)) (jf o [x]) o
def BH (k : Nat) (o l : List Int) : List Int := Bc (fun _ o x => Lw o x) k o l
theorem SN : ∀ (l : List Int) (k : Nat) (o : List Int) (y : Int), y ∈ BH k o l ↔ y ∈ o ∨ (y ∈ l ∧ y ≠ 0)
 | [], _, o, y => by simp [BH, Bc]
 | x :: l, k, o, y => by
  have := SN l (k + 1) (Lw o x) y
  simp only [BH, Bc] at this ⊢
  rw [this]
  unfold Lw
  by_cases h0 : x = 0
  ·subst h0
   simp only [bne_self_eq_false, Bool.false_and, cond_false, jp]
   constructor
   ·rintro (h | ⟨h1, h2⟩)
    ·exact .inl h
    ·exact .inr ⟨.inr h1, h2⟩
   ·rintro (h | ⟨h1 | h1, h2⟩)
    ·exact .inl h
    ·exact absurd h1 h2
    ·exact .inr ⟨h1, h2⟩
  ·by_cases h1 : o.any (fun y => y == x) = true
   ·rw [h1]
    simp only [jg, Bool.and_false, cond_false, jp]
    have hx : x ∈ o := by
     obtain ⟨z, hz, e⟩ := List.any_eq_true.1 h1
     rw [beq_iff_eq] at e; rw [← e]; exact hz
    constructor
    ·rintro (h | ⟨h1, h2⟩)
     ·exact .inl h
     ·exact .inr ⟨.inr h1, h2⟩
    ·rintro (h | ⟨h1 | h1, h2⟩)
     ·exact .inl h
     ·exact .inl (h1 ▸ hx)
     ·exact .inr ⟨h1, h2⟩
   ·have e : ((x != 0) && !o.any (fun y => y == x)) = true := by
     simp only [j9] at h1
     rw [h1]; simp [h0]
    rw [e]
    simp only [cond_true, List.append_eq, jl, jp, List.not_mem_nil, or_false]
    constructor
    ·rintro ((h | h) | ⟨h1, h2⟩)
     ·exact .inl h
     ·exact .inr ⟨.inl h, by rw [h]; exact h0⟩
     ·exact .inr ⟨.inr h1, h2⟩
    ·rintro (h | ⟨h1 | h1, h2⟩)
     ·exact .inl (.inl h)
     ·exact .inl (.inr h1)
     ·exact .inr ⟨h1, h2⟩
theorem GE : ∀ (l : List Int) (k : Nat) (o : List Int), o.Pairwise (· < ·) → l.Pairwise (· ≤ ·) → (∀ y ∈ o, ∀ x ∈ l, y ≤ x) → (BH k o l).Pairwise (· < ·)
 | [], _, o, ho, _, _ => by simpa [BH, Bc] using ho
 | x :: l, k, o, ho, hl, h => by
  rw [List.pairwise_cons] at hl
  have key : (Lw o x).Pairwise (· < ·) ∧ ∀ y ∈ Lw o x, ∀ z ∈ l, y ≤ z := by
   unfold Lw
   cases hc : (x != 0) && !o.any (fun y => y == x) with
   | false => exact ⟨ho, fun y hy z hz => h y hy z (by simp [hz])⟩
   | true =>
    simp only [jd, Bool.not_eq_true', List.any_eq_false, beq_iff_eq] at hc
    simp only [cond_true, List.append_eq]
    refine ⟨?_, ?_⟩
    ·rw [List.pairwise_append]
     refine ⟨ho, by simp, fun y hy z hz => ?_⟩
     simp only [jp, List.not_mem_nil, or_false] at hz
     subst hz
     have h1 := h y hy z (by simp)
     have h2 := hc.2 y hy
     omega
    ·intro y hy z hz
     rcases jl.1 hy with hy | hy
     ·exact h y hy z (by simp [hz])
     ·simp only [jp, List.not_mem_nil, or_false] at hy
      subst hy
      exact hl.1 z hz
  have := GE l (k + 1) (Lw o x) key.1 hl.2 key.2
  simpa [BH, Bc] using this
def Zh (l : List Pa) : Nat → List Int
 | 0 => []
 | n + 1 => cond (l.any fun h => h.2.1.2.1 == ((n + 1 : Nat) : Int)) (Zh l n ++ [((n + 1 : Nat) : Int)]) (Zh l n)
theorem Zo (l : List Pa) : ∀ (n : Nat) (x : Int), x ∈ Zh l n ↔ (1 ≤ x ∧ x ≤ (n : Int)) ∧ ∃ h ∈ l, h.2.1.2.1 = x
 | 0, x => by simp [Zh]; intro h1 h2; omega
 | n + 1, x => by
  simp only [Zh]
  cases hc : (l.any fun h => h.2.1.2.1 == ((n + 1 : Nat) : Int)) with
  | true =>
   simp only [cond_true, jl, Zo l n x, jp, List.not_mem_nil, or_false]
   obtain ⟨h, hh, e⟩ := List.any_eq_true.1 hc
   rw [beq_iff_eq] at e
   constructor
   ·rintro (⟨h1, h2⟩ | rfl)
    ·exact ⟨by omega, h2⟩
    ·exact ⟨by omega, h, hh, e⟩
   ·rintro ⟨h1, h2⟩
    by_cases hx : x = ((n + 1 : Nat) : Int)
    ·exact .inr hx
    ·exact .inl ⟨by omega, h2⟩
  | false =>
   simp only [cond_false, Zo l n x]
   rw [List.any_eq_false] at hc
   constructor
   ·rintro ⟨h1, h2⟩; exact ⟨by omega, h2⟩
   ·rintro ⟨h1, h, hh, e⟩
    refine ⟨?_, h, hh, e⟩
    have := hc h hh
    rw [beq_iff_eq] at this
    omega
theorem Nr (l : List Pa) : ∀ n, (Zh l n).Pairwise (· < ·)
 | 0 => by simp [Zh]
 | n + 1 => by
  simp only [Zh]
  cases (l.any fun h => h.2.1.2.1 == ((n + 1 : Nat) : Int)) with
  | true =>
   simp only [cond_true]
   rw [List.pairwise_append]
   refine ⟨Nr l n, by simp, fun y hy z hz => ?_⟩
   simp only [jp, List.not_mem_nil, or_false] at hz
   have := (Zo l n y).1 hy
   omega
  | false => exact Nr l n
theorem TB (l : List Pa) : ∀ n, (Zh l n).length ≤ n
 | 0 => by simp [Zh]
 | n + 1 => by
  have := TB l n
  simp only [Zh]
  cases (l.any fun h => h.2.1.2.1 == ((n + 1 : Nat) : Int)) <;> simp <;> omega
def A0 (l : List Pa) : Int := Bc (fun _ s (h : Pa) => cond (h.2.1.1 == 2 || h.2.1.1 == 8) (Td .i64 s h.2.1.2.2.1) s) 0 0 l
def Mc (l : List Pa) : Ga := (A0 l, Zh l 56, ())
theorem Bu {a : Aa} (h : Yb a = true) : 0 ≤ a.2.1 ∧ a.2.1 ≤ 56 := by
 rw [Jb] at h
 unfold Lb at h
 omega
theorem FD (l : List Int) (x : Int) (hn : l.length ≤ Ob) : Sq l x = some (l.any (fun y => y == x), ()) := by
 have hlim := Yi
 have hl := Sg (step := fun y => Bm y.1.1 y.1.2.1 y.1.2.2.1 y.1.2.2.2.1) l (fun _ y => !(y == x)) (fun i => ((x, l, ((ja l : Nat) : Int), i, ()), ()))
  (.inl ((), ())) (.inr ((true, ()), ())) (by
   intro k hk
   simp only [Bm]
   rw [Ja (show (k : Int) < ((ja l : Nat) : Int) by omega), Cd hk]
   simp only [cond_true, jb]
   cases l[k] == x <;> rfl) (by
   simp only [Bm]
   rw [La (by omega)]; rfl) (by omega)
 unfold Sq Rm
 erw [hl]
 have : ∀ (l : List Int) (k : Nat), Xd (fun _ y => !(y == x)) k l = !l.any (fun y => y == x) := by
  intro l
  induction l with
  | nil => intro k; rfl
  | cons y l ih => intro k; simp only [Xd, List.any_cons, ih, Bool.not_or]
 rw [this]
 cases l.any (fun y => y == x) <;> rfl
theorem Rt (l : List Pa) (hn : l.length ≤ Qa) (hx : ∀ h ∈ l, 0 ≤ h.2.1.2.1 ∧ h.2.1.2.1 ≤ 56) : Ck (l.map fun h => h.2.1.2.1) = some (Zh l 56, ()) := by
 have h20 : Qa = 1048576 := rfl
 have hlim := Yi
 generalize hcs : (l.map fun h => h.2.1.2.1) = cs
 have hcl : cs.length = l.length := by rw [← hcs]; simp
 unfold Ck
 rw [Vs _ (by omega)]
 simp only [jb, sort_Ints, CU]
 rw [show jx (ja cs) Ob = true from ji (by omega)]
 simp only [cond_true, jb]
 generalize hss : (List.mergeSort cs fun x y => decide (x ≤ y)) = ss
 have hsl : ss.length = cs.length := by rw [← hss]; exact List.length_mergeSort _
 have hsm : ∀ x, x ∈ ss ↔ x ∈ cs := fun x => by rw [← hss]; exact List.mem_mergeSort
 have hsp : ss.Pairwise (· ≤ ·) := by
  rw [← hss]
  have := List.pairwise_mergeSort (le := fun x y : Int => decide (x ≤ y)) (by intro a b c; simp; omega) (by intro a b; simp; omega) cs
  exact this.imp (by intro a b h; simpa using h)
 have hl := (Ph (step := fun x => Vk x.1.1 x.1.2.1 x.1.2.2.1 x.1.2.2.2.1) ss (fun _ o x => Lw o x) (fun o i => ((o, ss, ((ja ss : Nat) : Int), i, ()), ())) (fun o => .inl ((o, ()), ())) (fun k o => o.length ≤ k) (by
  intro k hk o ho
  have hd : (Lw o ss[k]).length ≤ k + 1 := by
   unfold Lw
   cases (ss[k] != 0) && !o.any (fun y => y == ss[k]) <;> simp <;> omega
  refine ⟨?_, hd⟩
  simp only [Vk]
  rw [Ja (show (k : Int) < ((ja ss : Nat) : Int) by omega), show Xi (ja ss) (k : Int) = true by rw [Es]; exact Ja hk, jn, je hk]
  simp only [cond_true, jb]
  rw [FD _ _ (by omega), show jx (ja o + ja ([ss[k]] : List Int)) Ob = true from ji (by simp only [jw, j7]; omega)]
  simp only [jb, Lw]
  cases ss[k] != 0 <;> cases o.any (fun y => y == ss[k]) <;> rfl)
  (by
   intro o _
   simp only [Vk]
   rw [La (by omega)]; rfl) (by omega) [] (jo _)).1
 unfold Tl
 erw [hl]
 simp only [jb, qi]
 congr 2
 refine FF (GE ss 0 [] (by simp) hsp (by simp)) (Nr l 56) fun x => ?_
 rw [show Bc (fun _ o x => Lw o x) 0 [] ss = BH 0 [] ss from rfl, SN, Zo, hsm, ← hcs]
 simp only [List.not_mem_nil, false_or, qq]
 constructor
 ·rintro ⟨⟨h, hh, rfl⟩, h0⟩
  have := hx h hh
  exact ⟨by omega, h, hh, rfl⟩
 ·rintro ⟨h1, h, hh, rfl⟩
  exact ⟨⟨h, hh, rfl⟩, by omega⟩
theorem Uk (l : List Pa) (hn : l.length ≤ Qa) (hv : Ud l = true) : Wb l = some (Mc l, ()) := by
 have h20 : Qa = 1048576 := rfl
 have hlim := Yi
 have hh := Ix hv
 have hl := (Ph (step := fun x => Rj x.1.1 x.1.2.1 x.1.2.2.1 x.1.2.2.2.1 x.1.2.2.2.2.1 x.1.2.2.2.2.2.1 x.2.1 x.2.2.1) l
  (fun _ (s : Int × List Int) (h : Pa) => (cond (h.2.1.1 == 2 || h.2.1.1 == 8) (Td .i64 s.1 h.2.1.2.2.1) s.1, jf s.2 [h.2.1.2.1])) (fun s i => (((), (), s.2, l, ((ja l : Nat) : Int), i, ()), (((0 : Int), ([] : List Int), ()), (s.1, ([] : List Int), ()), ())))
  (fun s => .inl (((), (), s.2, ()), (((0 : Int), ([] : List Int), ()), (s.1, ([] : List Int), ()), ()))) (fun k s => s.2.length = k) (by
   intro k hk s hs
   refine ⟨?_, by simp [hs]⟩
   simp only [Rj]
   rw [Ja (show (k : Int) < ((ja l : Nat) : Int) by omega), Cd hk]
   simp only [cond_true, jb]
   rw [show jx (ja s.2 + ja ([l[k].2.1.2.1] : List Int)) Ob = true from ji (by simp only [jw, j7]; omega)]
   cases l[k].2.1.1 == 2 <;> cases l[k].2.1.1 == 8 <;> rfl)
  (by
   intro s _
   simp only [Rj]
   rw [La (by omega)]; rfl) (by omega) (0, []) rfl).1
 have key : ∀ (l : List Pa) (k : Nat) (s : Int × List Int), Bc (fun _ (s : Int × List Int) (h : Pa) => (cond (h.2.1.1 == 2 || h.2.1.1 == 8) (Td .i64 s.1 h.2.1.2.2.1) s.1, jf s.2 [h.2.1.2.1])) k s l =
  (Bc (fun _ s (h : Pa) => cond (h.2.1.1 == 2 || h.2.1.1 == 8) (Td .i64 s h.2.1.2.2.1) s) k s.1 l, s.2 ++ l.map fun h => h.2.1.2.1) := by
  intro l
  induction l with
  | nil => intro k s; simp [Bc]
  | cons x l ih => intro k s; simp only [Bc]; rw [ih]; simp
 unfold Wb Tk
 rw [En _ hn, hv]
 simp only [jb, jg, cond_false]
 erw [hl]
 rw [key]
 simp only [jb, qi, List.nil_append]
 rw [Rt l hn (fun h hm => Bu (hh h hm).act)]
 rfl
def Hs (c : Int) : Bool := decide (1 ≤ c ∧ c ≤ 36) || ((c == 39) || (c == 42))
theorem Hx (c : Int) : Am c = some (Hs c, ()) := by
 unfold Am Hs
 by_cases h1 : c ≥ 1
 ·by_cases h2 : c ≤ 36
  ·rw [Ja h1, Ja h2, Ja (show 1 ≤ c ∧ c ≤ 36 by omega)]; rfl
  ·rw [Ja h1, La h2, La (show ¬ (1 ≤ c ∧ c ≤ 36) by omega)]
   cases c == 39 <;> rfl
 ·rw [La h1, La (show ¬ (1 ≤ c ∧ c ≤ 36) by omega)]
  cases c == 39 <;> rfl
def Lo (f o : Int) (c : Bool) (a : Aa) : Int × Int × Bool × Aa :=
 cond (a.1 == 2) (cond (a.2.1 == 0) (f, o, c, a) (f, 0, c && Hs a.2.1, a.1, a.2.1, cond ((c && Hs a.2.1) && (decide (a.2.1 ≤ 26) && (Ff .i64 (Td .i64 a.2.2.1 o) 2 == 0))) 2 (Td .i64 a.2.2.1 o), a.2.2.2))
  (cond (a.1 == 4) (Gp .i64 f (Be .i64 1 a.2.2.2.1), o, c, a) (cond (a.1 == 5) (Ff .i64 (Be .i64 1 a.2.2.2.1) 1, o, c, a)
   (cond (a.1 == 8) (f, cond (Qk .i64 o a.2.2.1 == a.2.2.1) (Ff .i64 o a.2.2.1) (Td .i64 o a.2.2.1), c, a) (cond (a.1 == 10) (f, o, !c, a) (f, o, c, a)))))
theorem Ev {a : Aa} (h : Yb a = true) : 0 ≤ a.2.2.2.1 := by
 rw [Jb] at h
 unfold Lb at h
 omega
theorem Ru (m : Ha) (M : List (List Gd)) (f o : Int) (h : List Pa) (c : Bool) (a : Aa) (ha : Yb a = true) :
 Kj (m, M, f, h, o, c, ()) a = some ((m, M, (Lo f o c a).1, h, (Lo f o c a).2.1, (Lo f o c a).2.2.1, ()), (Lo f o c a).2.2.2, ()) := by
 have hn := Ev ha
 unfold Kj Lo
 rw [Ja hn]
 cases a.1 == 2 with
 | true =>
  cases a.2.1 == 0 with
  | true => rfl
  | false =>
   simp only [cond_true, cond_false, Hx, jb]
   cases c with
   | false => rfl
   | true =>
    cases Hs a.2.1 with
    | false => rfl
    | true => cases decide (a.2.1 ≤ 26) <;> cases Ff .i64 (Td .i64 a.2.2.1 o) 2 == 0 <;> rfl
 | false =>
  cases a.1 == 4 with
  | true => rfl
  | false =>
   cases a.1 == 5 with
   | true => rfl
   | false =>
    cases a.1 == 8 with
    | true => cases Qk .i64 o a.2.2.1 == a.2.2.1 <;> rfl
    | false => cases a.1 == 10 <;> rfl
theorem MU : ∀ f : Fin 16, ∀ n : Fin 4, ∀ l : Fin 5, 1 ≤ n.val → n.val < l.val → f.val < 2 ^ l.val → f.val % 2 = 0 →
 0 ≤ Gp .i64 (f.val : Int) (Be .i64 1 (n.val : Int)) ∧ Gp .i64 (f.val : Int) (Be .i64 1 (n.val : Int)) < ((2 ^ l.val : Nat) : Int) ∧ (Gp .i64 (f.val : Int) (Be .i64 1 (n.val : Int))).tmod 2 = 0 := by decide +kernel
theorem PV : ∀ n : Fin 4, ∀ l : Fin 5, n.val < l.val →
 0 ≤ Ff .i64 (Be .i64 1 (n.val : Int)) 1 ∧ Ff .i64 (Be .i64 1 (n.val : Int)) 1 < ((2 ^ l.val : Nat) : Int) ∧ (Ff .i64 (Be .i64 1 (n.val : Int)) 1).tmod 2 = 0 := by decide +kernel
theorem FK : ∀ o m : Fin 16, (0 ≤ Ff .i64 (o.val : Int) (m.val : Int) ∧ Ff .i64 (o.val : Int) (m.val : Int) ≤ 15) ∧ (0 ≤ Td .i64 (o.val : Int) (m.val : Int) ∧ Td .i64 (o.val : Int) (m.val : Int) ≤ 15) := by decide +kernel
structure Tz (nl : Nat) (f o : Int) : Prop where
 f0 : 0 ≤ f
 f1 : f < ((2 ^ nl : Nat) : Int)
 f2 : f.tmod 2 = 0
 o0 : 0 ≤ o
 o1 : o ≤ 15
structure Sz (nl : Nat) (a : Aa) : Prop where
 act : Yb a = true
 n1 : a.1 ≠ 1
 n6 : a.1 ≠ 6
 n7 : a.1 ≠ 7
 n : a.1 ≠ 9 → a.2.2.2.1 < (nl : Int)
theorem IZ {a b : Int} (ha : 0 ≤ a ∧ a ≤ 15) (hb : 0 ≤ b ∧ b ≤ 15) : 0 ≤ Td .i64 a b ∧ Td .i64 a b ≤ 15 := by
 obtain ⟨n, rfl⟩ := jv ha.1
 obtain ⟨m, rfl⟩ := jv hb.1
 exact (FK ⟨n, by omega⟩ ⟨m, by omega⟩).2
theorem MX {a b : Int} (ha : 0 ≤ a ∧ a ≤ 15) (hb : 0 ≤ b ∧ b ≤ 15) : 0 ≤ Ff .i64 a b ∧ Ff .i64 a b ≤ 15 := by
 obtain ⟨n, rfl⟩ := jv ha.1
 obtain ⟨m, rfl⟩ := jv hb.1
 exact (FK ⟨n, by omega⟩ ⟨m, by omega⟩).1
theorem SA {nl : Nat} (h : nl ≤ 4) : 2 ^ nl ≤ 16 := qk (n := 2) (by omega) h
theorem LZ {nl : Nat} (hnl : nl ≤ 4) {f o : Int} {c : Bool} {a : Aa} (hs : Tz nl f o) (ha : Sz nl a) :
 Tz nl (Lo f o c a).1 (Lo f o c a).2.1 ∧ Sz nl (Lo f o c a).2.2.2 := by
 have hP := ha.act
 rw [Jb] at hP
 unfold Lb at hP
 have h16 := SA hnl
 obtain ⟨k, code, mods, n, u⟩ := a
 have hn1 := ha.n1; have hn6 := ha.n6; have hn7 := ha.n7; have hnn := ha.n
 simp only at hP hn1 hn6 hn7 hnn
 have hf1 := hs.f1
 unfold Lo
 simp only
 by_cases h2 : k = 2
 ·subst h2
  by_cases h0 : code = 0
  ·subst h0; exact ⟨hs, ha⟩
  ·rw [show ((2 : Int) == 2) = true from rfl, show (code == 0) = false by simp [h0]]
   simp only [cond_true, cond_false]
   refine ⟨⟨hs.f0, hs.f1, hs.f2, by decide, by decide⟩, ?_⟩
   have hm := IZ (a := mods) (b := o) (by omega) ⟨hs.o0, hs.o1⟩
   refine ⟨?_, hn1, hn6, hn7, hnn⟩
   have hn0 : n = 0 := by omega
   have hcd : 1 ≤ code ∧ code ≤ 56 := by omega
   rw [Jb]
   cases ((c && Hs code) && (decide (code ≤ 26) && (Ff .i64 (Td .i64 mods o) 2 == 0))) with
   | true => exact .inr (.inl ⟨rfl, hn0, .inr hcd, .inr ⟨by show (1 : Int) ≤ 2; decide, by show (2 : Int) ≤ 15; decide⟩, .inl (by show code ≠ 0; omega)⟩)
   | false =>
    refine .inr (.inl ⟨rfl, hn0, .inr hcd, ?_, .inl (by show code ≠ 0; omega)⟩)
    show Td .i64 mods o = 0 ∨ 1 ≤ Td .i64 mods o ∧ Td .i64 mods o ≤ 15
    omega
 ·rw [show (k == 2) = false by simp [h2]]
  simp only [cond_false]
  by_cases h4 : k = 4
  ·subst h4
   have hr : 1 ≤ n ∧ n ≤ 3 := by omega
   have hlt := hnn (by omega)
   obtain ⟨fn, hfn⟩ := jv hs.f0
   obtain ⟨nn, hnn'⟩ := jv (show 0 ≤ n by omega)
   have hf2 := hs.f2
   rw [hfn] at hf1 hf2
   have hfl : fn < 2 ^ nl := Int.ofNat_lt.1 hf1
   have := MU ⟨fn, by omega⟩ ⟨nn, by omega⟩ ⟨nl, by omega⟩ (by show 1 ≤ nn; omega) (by show nn < nl; omega) hfl (by
    rw [Int.tmod_eq_emod_of_nonneg (by omega)] at hf2; show fn % 2 = 0; omega)
   simp only [show ((4 : Int) == 4) = true from rfl, cond_true]
   rw [hfn, hnn']
   exact ⟨⟨this.1, this.2.1, this.2.2, hs.o0, hs.o1⟩, by rw [← hnn']; exact ha⟩
  ·rw [show (k == 4) = false by simp [h4]]
   simp only [cond_false]
   by_cases h5 : k = 5
   ·subst h5
    have hr : 0 ≤ n ∧ n ≤ 3 := by omega
    have hlt := hnn (by omega)
    obtain ⟨nn, hnn'⟩ := jv (show 0 ≤ n by omega)
    have := PV ⟨nn, by omega⟩ ⟨nl, by omega⟩ (by show nn < nl; omega)
    simp only [show ((5 : Int) == 5) = true from rfl, cond_true]
    rw [hnn']
    exact ⟨⟨this.1, this.2.1, this.2.2, hs.o0, hs.o1⟩, by rw [← hnn']; exact ha⟩
   ·rw [show (k == 5) = false by simp [h5]]
    simp only [cond_false]
    by_cases h8 : k = 8
    ·subst h8
     have hm : 0 ≤ mods ∧ mods ≤ 15 := by omega
     simp only [show ((8 : Int) == 8) = true from rfl, cond_true]
     cases Qk .i64 o mods == mods with
     | true => have := MX ⟨hs.o0, hs.o1⟩ hm; exact ⟨⟨hs.f0, hs.f1, hs.f2, this.1, this.2⟩, ha⟩
     | false => have := IZ ⟨hs.o0, hs.o1⟩ hm; exact ⟨⟨hs.f0, hs.f1, hs.f2, this.1, this.2⟩, ha⟩
    ·rw [show (k == 8) = false by simp [h8]]
     simp only [cond_false]
     cases k == 10 <;> exact ⟨hs, ha⟩
theorem KP {m : Ha} (hm : Eg m) (on : Int) {k : Nat} (hk : (k : Int) < m.1) : Kc m.2.1.length (Jf m on k) (Cg m.2.1 (Jf m on k) k) = true ∧ (Cg m.2.1 (Jf m on k) k).1 ≠ 1 := by
 have hl := Lx hm on k
 have hrow := hm.row _ hl
 have hk' : k < m.2.1[Jf m on k].length := by omega
 have hact := hm.act _ hl k hk'
 rw [Dv hl hk']
 refine ⟨hact, ?_⟩
 have key : ∀ n, Md m.2.1 on k n = 0 ∨ (Cg m.2.1 (Md m.2.1 on k n) k).1 ≠ 1 := by
  intro n
  induction n with
  | zero => exact .inl rfl
  | succ n ih =>
   simp only [Md]
   cases hc : ((Yd on ((n + 1 : Nat) : Int) == 1) && ((Cg m.2.1 (n + 1) k).1 != 1)) with
   | true =>
    simp only [jd, bne_iff_ne] at hc
    exact .inr hc.2
   | false => exact ih
 rcases key (m.2.1.length - 1) with h0 | h1
 ·have h0' : Jf m on k = 0 := h0
  intro h1
  simp only [Kc, jd, Bool.not_eq_true', Bool.and_eq_false_iff, beq_eq_false_iff_ne] at hact
  rcases hact.1.2 with h2 | h2
  ·exact h2 (by rw [h0']; rfl)
  ·exact h2 h1
 ·have e : Cg m.2.1 (Md m.2.1 on k (m.2.1.length - 1)) k = m.2.1[Jf m on k][k] := Dv hl hk'
  rw [e] at h1
  exact h1
theorem OV {nl i : Nat} {a : Aa} (h : Kc nl i a = true) (h1 : a.1 ≠ 1) : Sz nl (Ft a) := by
 have ha := Mp h
 have hP := ha
 rw [Jb] at hP
 unfold Lb at hP
 unfold Ft Ng
 rw [ha]
 by_cases h67 : a.1 = 6 ∨ a.1 = 7
 ·have e : (true && ((a.1 == 6) || (a.1 == 7))) = true := by rcases h67 with h | h <;> rw [h] <;> rfl
  rw [e]
  simp only [cond_true]
  refine ⟨?_, by show (2 : Int) ≠ 1; decide, by show (2 : Int) ≠ 6; decide, by show (2 : Int) ≠ 7; decide, fun _ => ?_⟩
  ·rw [Jb]
   exact .inr (.inl ⟨rfl, rfl, .inr (by show 1 ≤ a.2.1 ∧ a.2.1 ≤ 56; omega), .inl rfl, .inl (by show a.2.1 ≠ 0; omega)⟩)
  ·show (0 : Int) < (nl : Int)
   have := Uu h (by omega)
   omega
 ·have e : (true && ((a.1 == 6) || (a.1 == 7))) = false := by
   rw [jk, Bool.or_eq_false_iff, beq_eq_false_iff_ne, beq_eq_false_iff_ne]; omega
  rw [e]
  exact ⟨ha, h1, fun h => h67 (.inl h), fun h => h67 (.inr h), fun hk => Uu h hk⟩
def DA (m : Ha) (f o : Int) (c : Bool) (h : List Pa) : Ra := (m, [], f, h, o, c, ())
theorem AM {m : Ha} (hv : Zb m = true) {f o : Int} (hs : Tz m.2.1.length f o) (c : Bool) {h : List Pa} (hh : Ud h = true) (hi : ∀ x ∈ h, Ak m.1 m.2.1.length x = true) : Br (DA m f o c h) = true := by
 have hk := Pe hv
 have e1 : Xd (fun _ x => Ak m.1 m.2.1.length x) 0 h = true := Hf.2 fun j hj => hi _ (qn hj)
 show (Zb m && (decide (([] : List (List Gd)).length ≤ 4) && (Ud h && (true && (Xd (fun _ x => Ak m.1 m.2.1.length x) 0 h &&
  (decide (0 ≤ f ∧ f < ((2 ^ m.2.1.length : Nat) : Int)) && ((Int.tmod f 2 == 0) && decide (0 ≤ o ∧ o ≤ 15)))))))) = true
 rw [hv, hh, e1, Ja (⟨hs.f0, hs.f1⟩ : 0 ≤ f ∧ f < ((2 ^ m.2.1.length : Nat) : Int)), Ja (⟨hs.o0, hs.o1⟩ : 0 ≤ o ∧ o ≤ 15), hs.f2]
 rfl
theorem S3 {nl : Nat} (h4 : nl ≤ 4) {f o : Int} (hs : Tz nl f o) : 0 ≤ f ∧ f ≤ 15 := by
 have := SA h4
 have h1 := hs.f1
 have h0 := hs.f0
 omega
theorem Dn (e : Ra) (k : Int) (hn : e.2.2.2.1.length ≤ Qa) : Ll e k = some (Sc (fun h => h.1 == k) 0 e.2.2.2.1, ()) := by
 have h20 : Qa = 1048576 := rfl
 have hl := Lz (step := fun x => Yl x.1.1 x.1.2.1 x.1.2.2.1 x.1.2.2.2.1) e.2.2.2.1 (fun h => h.1 == k) (fun i => ((k, e.2.2.2.1, ((ja e.2.2.2.1 : Nat) : Int), i, ()), ())) (.inl ((), ())) (fun i => .inr ((i, ()), ()))
  (by
   intro j hj
   simp only [Yl]
   rw [Ja (show (j : Int) < ((ja e.2.2.2.1 : Nat) : Int) by omega), Cd hj]
   simp only [cond_true, jb]
   cases e.2.2.2.1[j].1 == k <;> rfl) (by
   simp only [Yl]
   rw [La (by omega)]; rfl) (by omega)
 unfold Ll Mm
 erw [hl]
 simp only [jb]
 by_cases hc : Sc (fun h : Pa => h.1 == k) 0 e.2.2.2.1 = -1
 ·rw [if_pos hc, hc]; rfl
 ·rw [if_neg hc]; rfl
theorem Pt (a : Ga) (l : List Ga) (hn : l.length ≤ Qa) (ha : a.2.1.length ≤ Qa) (hx : ∀ x ∈ l, x.2.1.length ≤ Qa) : Qc a l = some (Io Fo a l, ()) := by
 have h20 : Qa = 1048576 := rfl
 have hlim := Yi
 unfold Qc UL
 have e : (jx (ja l) Ob && (Et a && l.all Et)) = true := by
  rw [jd, jd, List.all_eq_true]
  refine ⟨ji (by omega), ji (by show ja a.2.1 ≤ _; omega), fun x hm => ji ?_⟩
  have := hx x hm
  show ja x.2.1 ≤ _
  omega
 rw [e]; rfl
theorem Xz : ∀ (l : List Ga) (a : Ga), (Io Fo a l).length ≤ l.length
 | [], _ => by simp [Io]
 | x :: l, a => by
  have := Xz l x
  simp only [Io]
  cases Fo a x <;> simp <;> omega
theorem As (l : List Pa) : (Mc l).2.1.length ≤ 56 := TB l 56
theorem Kv : ∀ (l : List Ga) (a x : Ga), x ∈ Io Fo a l → x ∈ l
 | [], _, x, h => by simp [Io] at h
 | y :: l, a, x, h => by
  simp only [Io] at h
  cases hs : Fo a y with
  | true => rw [hs] at h; exact jr _ (Kv l y x h)
  | false =>
   rw [hs] at h
   rcases jp.1 h with h | h
   ·exact h ▸ qt ..
   ·exact jr _ (Kv l y x h)
noncomputable def P3 (m : Ha) (f : Int) (k : Nat) : Aa := Ft (Cg m.2.1 (Jf m (Td .i64 1 f) k) k)
noncomputable def S6 (m : Ha) (f o : Int) (c : Bool) (k : Nat) : Int × Int × Bool × Aa := Lo f o c (P3 m f k)
noncomputable def hK (m : Ha) (f o : Int) (c : Bool) (k : Nat) : List Pa := [((k : Int), (S6 m f o c k).2.2.2, ())]
structure SZ (m : Ha) : Prop where
 v : Zb m = true
 z : Yc Za m ≤ Qa - 10
theorem Uy (l : List Pa) : (Mc l).2.1.length ≤ Qa := by
 have h20 : Qa = 1048576 := rfl
 have := As l
 omega
theorem VZ : Ud [] = true := rfl
theorem JC {m : Ha} (hv : Zb m = true) : SZ m := by
 have hm := Pe hv
 refine ⟨hv, ?_⟩
 have h20 : Qa = 1048576 := rfl
 have h1 : Yc Za m = 0 + (Yc (.sl (.sl Wc)) m.2.1 + 0) := rfl
 have h2 : Yc (.sl (.sl Wc)) m.2.1 ≤ (32 + 1) * ja m.2.1 := KG (e := .sl Wc) (c := 32) fun x hx => by
  obtain ⟨i, hi, rfl⟩ := qp hx
  rw [TI]
  have := hm.row i hi
  have := hm.k2
  omega
 have := hm.l2
 omega
abbrev St := (Int × Int × Bool) × List Ga
structure W6 (m : Ha) (k : Nat) (s : St) : Prop where
 st : Tz m.2.1.length s.1.1 s.1.2.1
 len : s.2.length ≤ 2 * k
 rep : ∀ x ∈ s.2, x.2.1.length ≤ 56
end KF
