/- An evaluator of Go functions on plain data, its soundness, and plain laws on what the functions compute, part 3 (conditions: as each lemma tells). -/
import Derived.Test.YthpnoncibnengaaB
import Derived.LoopN
import Derived.ChangeArms
import Derived.ChangeStays
import Derived.ChangeSame
import Derived.WideShapes
import Derived.RowKit
import Derived.Handed
import Derived.JoinedOf
import Derived.Shelf.Sort.Plain
import Derived.Shelf.Slices.In.SortNone2
import Derived.IntWalk
set_option linter.unusedSimpArgs false
set_option linter.unusedVariables false
namespace KF
open Go
open List renaming length → ja, getElem?_eq_getElem → je, append → jf, mem_append → jl, mem_cons → jp, mem_cons_of_mem → jr, length_cons → jw, set → j5, length_nil → j6, length_set → j7, mem_singleton → qb, length_append → qc, getElem?_append_left → qe, getElem?_append_right → qf, getD_eq_getElem?_getD → qg, mem_map → qj, length_drop → qk, mem_cons_self → qm, length_replicate → qp
open Option renaming bind_some → jb, bind → jz, map_some → qa, bind_eq_some_iff → qd
open Option.some renaming injEq → jc
open Bool renaming and_eq_true → jd, not_true → jg, true_and → jk, false_eq_true → jq, not_eq_true → j8, eq_iff_iff → ql
open Prod.mk renaming injEq → jh
open Nat renaming ble_eq_true_of_le → ji, mul_le_mul_right → jm, le_refl → jo, zero_add → js, add_assoc → jt, eq_of_beq_eq_true → ju, ble → jx, le_trans → j9, lt_of_lt_of_le → qi
open Int renaming toNat_natCast → jn, eq_ofNat_of_zero_le → jv, toNat → jy
open Go.IntKind renaming wrap → j4
open Sum renaming elim_inl → qh
open Result renaming andThen_ok → qn
open Sem renaming run_bind → qo
theorem OG {s : AS} : ∀ {td : TD} {d : D} {x : T td.ty} {m : Ag}, Xc s td d = some (x, m) → (Ck td x).isAgg = d.isAgg := by
 intro td
 cases td with
 | data τ =>
  intro d x m h
  simp only [Xc] at h
  split at h
  ·rename_i y hy
   simp only [jc, jh] at h
   obtain ⟨rfl, _⟩ := h
   have hs := (Ve (w := default) (σ := fun _ => undef) (O := fun _ => False) (hp := fun _ => none) hy).1
   rw [hs.isAgg]
   cases τ <;> rfl
  ·simp at h
 | own id e dp =>
  intro d x m h
  cases d <;> simp [Xc] at h <;> rfl
 | ptr id p =>
  intro d x m h
  cases d <;> simp [Xc] at h <;> rfl
 | hol id e p τ td =>
  intro d x m h
  cases d <;> simp [Xc] at h <;> rfl
 | arr id e =>
  intro d x m h
  cases d <;> first | rfl | (simp [Xc] at h; done)
 | mov id e =>
  intro d x m h
  cases d <;> simp [Xc] at h <;> rfl
 | pr a b =>
  intro d x m h
  simp only [Xc] at h
  cases d with
  | t τ v => cases τ <;> simp [D.fst] at h <;> rfl
  | pr u v => rfl
  | _ => simp [D.fst] at h
 | un =>
  intro d x m h
  simp only [Xc] at h
  split at h
  ·rename_i y hy
   have hs := (Ve (w := default) (σ := fun _ => undef) (O := fun _ => False) (hp := fun _ => none) hy).1
   rw [hs.isAgg]
   rfl
  ·simp at h
def Ut (m m' : Ag) : Prop := ∀ p, p ∈ m → p ∈ m'
section
variable {w : World} {s : AS} {σ σ' : Nat → Value} {O O' : Nat → Prop} {hp' : Nat → Option Ga} {m : Ag}
structure SM (s : AS) (σ σ' : Nat → Value) (hp' : Nat → Option Ga) (m : Ag) : Prop where
 isS : ∀ j i, (j, some i) ∈ m → σ' j = σ i
 isN : ∀ j, (j, none) ∈ m → σ' j = .slice none 0 0
 isB : ∀ j i ρ d, (j, some i) ∈ m → hp' j = some (.box ρ d) → ∃ d', s.heap i = some (.box ρ d')
 isR : ∀ j i blk r, (j, some i) ∈ m → hp' j = some blk → blk.rowN = some r → ∃ blk', s.heap i = some blk' ∧ blk'.rowN = some r
theorem Pv (hT : SM s σ σ' hp' m) (hO : ∀ b, b < w.heap.size → ¬ O b → ¬ O' b) : ∀ {td : TD} {d : D} {x : T td.ty} {m0 : Ag} {cs : List Value}, Xc s td d = some (x, m0) → Ut m0 m → Pa w O s.heap σ d cs →
 Pa w O' hp' σ' (Ck td x) cs := by
 intro td
 induction td with
 | data τ =>
  intro d x m0 cs h hm hr
  simp only [Xc] at h
  split at h
  ·rename_i y hy
   simp only [jc, jh] at h
   obtain ⟨rfl, _⟩ := h
   exact Oa.stable (fun _ _ _ => rfl) hO ((Ve hy).2 _ hr)
  ·simp at h
 | own id' e dp =>
  intro d x m0 cs h hm hr
  cases d with
  | own id =>
   simp only [Xc] at h
   split at h
   ·rename_i e' dp' xs hb
    split at h
    ·rename_i q hq
     subst q
     simp only [Ea] at h
     obtain ⟨_, h⟩ := h
     simp only [jc, jh] at h
     obtain ⟨rfl, rfl⟩ := h
     obtain ⟨v, hcs, h1, hv⟩ := hr
     refine ⟨v, hcs, h1, fun _ _ _ _ => ?_⟩
     rw [hT.isS id' id (hm _ (by simp))]
     exact hv _ _ hb rfl
    ·simp at h
   ·simp at h
  | nil =>
   simp only [Xc, jc, jh] at h
   obtain ⟨rfl, rfl⟩ := h
   simp only [Pa] at hr
   exact ⟨_, hr, rfl, fun _ _ _ _ => (hT.isN id' (hm _ (by simp))).symm⟩
  | _ => simp [Xc] at h
 | hol id' e p τ td _ =>
  intro d x m0 cs h hm hr
  cases d with
  | own id =>
   simp only [Xc] at h
   split at h
   ·rename_i e' xs i x1 p' τ' d' hb
    split at h
    ·simp only [Ea] at h
     obtain ⟨_, h⟩ := h
     split at h
     ·rename_i y m1 h1
      simp only [Ea] at h
      obtain ⟨_, h⟩ := h
      simp only [jc, jh] at h
      obtain ⟨rfl, rfl⟩ := h
      obtain ⟨v, hcs, h1, hv⟩ := hr
      refine ⟨v, hcs, h1, fun _ _ _ _ => ?_⟩
      rw [hT.isS id' id (hm _ (by simp))]
      exact hv _ _ hb rfl
     ·simp at h
    ·simp at h
   ·simp at h
  | _ => simp [Xc] at h
 | arr id' e =>
  intro d x m0 cs h hm hr
  cases d with
  | eptr id i q =>
   cases i with
   | succ i => simp [Xc] at h
   | zero =>
    cases q with
    | cons _ _ => simp [Xc] at h
    | nil =>
     simp only [Xc] at h
     split at h
     ·rename_i e' xs hb
      split at h
      ·rename_i q hq
       subst q
       simp only [jc, jh] at h
       obtain ⟨rfl, rfl⟩ := h
       obtain ⟨v, hcs, h1, hv⟩ := hr
       refine ⟨v, hcs, h1, fun blk' e2 n2 hb' hr' => ?_⟩
       obtain ⟨blk0, hb0, hr0⟩ := hT.isR id' id blk' _ (hm _ (by simp)) hb' hr'
       rw [hT.isS id' id (hm _ (by simp))]
       exact hv _ _ _ hb0 hr0
      ·simp at h
     ·simp at h
  | _ => simp [Xc] at h
 | mov id' e =>
  intro d x m0 cs h hm hr
  cases d with
  | own id =>
   simp only [Xc] at h
   split at h
   ·rename_i e' xs hb
    split at h
    ·rename_i q hq
     subst q
     simp only [jc, jh] at h
     obtain ⟨rfl, rfl⟩ := h
     obtain ⟨v, hcs, h1, hv⟩ := hr
     refine ⟨v, hcs, h1, fun _ _ _ _ => ?_⟩
     rw [hT.isS id' id (hm _ (by simp))]
     exact hv _ _ hb rfl
    ·simp at h
   ·rename_i e' xs k hb
    split at h
    ·rename_i q hq
     subst q
     simp only [jc, jh] at h
     obtain ⟨rfl, rfl⟩ := h
     obtain ⟨v, hcs, h1, hv⟩ := hr
     refine ⟨v, hcs, h1, fun _ _ _ _ => ?_⟩
     rw [hT.isS id' id (hm _ (by simp))]
     exact hv _ _ hb rfl
    ·simp at h
   ·simp at h
  | _ => simp [Xc] at h
 | ptr id' p =>
  intro d x m0 cs h hm hr
  cases d with
  | ptr id q =>
   simp only [Xc, Ea] at h
   obtain ⟨hpq, h⟩ := h
   simp only [jc, jh] at h
   obtain ⟨_, rfl⟩ := h
   have hpq' : p = q := by simpa using hpq
   subst hpq'
   obtain ⟨v, hcs, h1, hv⟩ := hr
   refine ⟨v, hcs, h1, fun ρ d hb => ?_⟩
   obtain ⟨d', hd'⟩ := hT.isB id' id ρ d (hm _ (by simp)) hb
   rw [hT.isS id' id (hm _ (by simp))]
   exact hv ρ d' hd'
  | _ => simp [Xc] at h
 | pr a b iha ihb =>
  intro d x m0 cs h hm hr
  simp only [Xc] at h
  split at h
  ·rename_i d1 d2 h1 h2
   split at h
   ·rename_i u l v l' h3 h4
    simp only [jc, jh] at h
    obtain ⟨rfl, rfl⟩ := h
    have key : ∃ c1 c2, cs = c1 ++ c2 ∧ Pa w O s.heap σ d1 c1 ∧ Pa w O s.heap σ d2 c2 := by
     cases d with
     | t τ v =>
      cases τ with
      | p t1 t2 =>
       simp only [D.fst, D.snd, jc] at h1 h2
       subst h1; subst h2
       exact hr
      | _ => simp [D.fst] at h1
     | pr d1' d2' =>
      simp only [D.fst, D.snd, jc] at h1 h2
      subst h1; subst h2
      exact hr
     | _ => simp [D.fst] at h1
    obtain ⟨c1, c2, hc, r1, r2⟩ := key
    exact ⟨c1, c2, hc, iha h3 (fun p hp => hm p (List.mem_append_left _ hp)) r1, ihb h4 (fun p hp => hm p (List.mem_append_right _ hp)) r2⟩
   ·simp at h
  ·simp at h
 | un =>
  intro d x m0 cs h hm hr
  simp only [Xc] at h
  split at h
  ·rename_i y hy
   exact (Ve hy).2 _ hr
  ·simp at h
theorem NJ (hT : SM s σ σ' hp' m) (hO : ∀ b, b < w.heap.size → ¬ O b → ¬ O' b) {td : TD} {d : D} {x : T td.ty} {m0 : Ag} {v : Value} (h : Xc s td d = some (x, m0)) (hm : Ut m0 m) (hr : Xb w O s.heap σ d v) :
 Xb w O' hp' σ' (Ck td x) v := by
 have hne : Cd w O s.heap σ d v := by
  cases d with
  | und => cases td <;> simp [Xc, Zf, D.fst] at h
  | anyv => cases td <;> simp [Xc, Zf, D.fst] at h
  | tup ds => cases td <;> simp [Xc, Zf, D.fst] at h
  | _ => exact hr
 refine Rn ?_
 unfold Cd at hne ⊢
 rw [OG h]
 split
 ·rename_i ha
  rw [if_pos ha] at hne
  obtain ⟨cs, h1, h2⟩ := hne
  exact ⟨cs, h1, Pv hT hO h hm h2⟩
 ·rename_i ha
  rw [if_neg ha] at hne
  exact Pv hT hO h hm hne
def CB (s : AS) (m : Ag) (j : Nat) (blk : Ga) : Prop :=
 ((j, none) ∈ m ∧ ∃ e dp, blk = .row e dp ([] : List (T e))) ∨
 ∃ i, (j, some i) ∈ m ∧ ((∃ e dp dp' xs, blk = .row e dp xs ∧ s.heap i = some (.row e dp' xs) ∧ (dp' = dp ∨ e.flat = true)) ∨
  (∃ ρ d td x m0, blk = .box ρ (Ck td x) ∧ s.heap i = some (.box ρ d) ∧ Xc s td d = some (x, m0) ∧ Ut m0 m ∧ Sa ρ (Ck td x)) ∨
  (∃ e xs k x p τ d td y m0, blk = .hol e xs k x p τ (Ck td y) ∧ s.heap i = some (.hol e xs k x p τ d) ∧ Xc s td d = some (y, m0) ∧ Ut m0 m ∧ Sa τ (Ck td y)) ∨
  ∃ e xs k, blk = .mov e xs k ∧ (s.heap i = some (.mov e xs k) ∨ (s.heap i = some (.row e true xs) ∧ k = 0)))
theorem Fw : ∀ {td : TD} {d : D} {x : T td.ty} {m0 : Ag}, Xc s td d = some (x, m0) → Ut m0 m → ∀ p, p ∈ Um td x → ∃ blk, p.2 = some blk ∧ CB s m p.1 blk := by
 intro td
 induction td with
 | own id' e dp =>
  intro d x m0 h hm p hp
  simp only [Um, qb] at hp
  subst hp
  cases d with
  | own id =>
   simp only [Xc] at h
   split at h
   ·rename_i e' dp' xs hb
    split at h
    ·rename_i q hq
     subst q
     simp only [Ea] at h
     obtain ⟨hc, h⟩ := h
     simp only [jc, jh] at h
     obtain ⟨rfl, rfl⟩ := h
     refine ⟨_, rfl, .inr ⟨id, hm _ (by simp), .inl ⟨_, dp, dp', _, rfl, hb, ?_⟩⟩⟩
     simpa using hc
    ·simp at h
   ·simp at h
  | nil =>
   simp only [Xc, jc, jh] at h
   obtain ⟨rfl, rfl⟩ := h
   exact ⟨_, rfl, .inl ⟨hm _ (by simp), e, dp, rfl⟩⟩
  | _ => simp [Xc] at h
 | hol id' e pth τ td ih =>
  intro d x m0 h hm p hp
  cases d with
  | own id =>
   simp only [Xc] at h
   split at h
   ·rename_i e' xs i x1 p' τ' d' hb
    split at h
    ·rename_i q1 q2 hq1 hq2
     subst q1
     obtain rfl := Zc hq2
     simp only [Ea] at h
     obtain ⟨hpp, h⟩ := h
     have hpp : pth = p' := by simpa using hpp
     subst hpp
     split at h
     ·rename_i y m1 h1
      simp only [Ea] at h
      obtain ⟨hsh, h⟩ := h
      simp only [jc, jh] at h
      obtain ⟨rfl, rfl⟩ := h
      simp only [Um] at hp
      rcases jp.1 hp with rfl | hp
      ·exact ⟨_, rfl, .inr ⟨id, hm _ (by simp), .inr (.inr (.inl ⟨_, _, i, _, _, _, d', td, y, m1, by simp only [jn], hb, h1, fun p hp => hm p (jr _ hp), Uh hsh⟩))⟩⟩
      ·exact ih h1 (fun p hp => hm p (jr _ hp)) p hp
     ·simp at h
    ·simp at h
   ·simp at h
  | _ => simp [Xc] at h
 | pr a b iha ihb =>
  intro d x m0 h hm p hp
  simp only [Xc] at h
  split at h
  ·split at h
   ·rename_i u l v l' h3 h4
    simp only [jc, jh] at h
    obtain ⟨rfl, rfl⟩ := h
    simp only [Um] at hp
    rcases jl.1 hp with hp | hp
    ·exact iha h3 (fun p hp => hm p (List.mem_append_left _ hp)) p hp
    ·exact ihb h4 (fun p hp => hm p (List.mem_append_right _ hp)) p hp
   ·simp at h
  ·simp at h
 | arr id' e =>
  intro d x m0 h hm p hp
  simp only [Um, qb] at hp
  subst hp
  cases d with
  | eptr id i q =>
   cases i with
   | succ i => simp [Xc] at h
   | zero =>
    cases q with
    | cons _ _ => simp [Xc] at h
    | nil =>
     simp only [Xc] at h
     split at h
     ·rename_i e' xs hb
      split at h
      ·rename_i q hq
       subst q
       simp only [jc, jh] at h
       obtain ⟨rfl, rfl⟩ := h
       exact ⟨_, rfl, .inr ⟨id, hm _ (by simp), .inl ⟨_, true, true, _, rfl, hb, .inl rfl⟩⟩⟩
      ·simp at h
     ·simp at h
  | _ => simp [Xc] at h
 | mov id' e =>
  intro d x m0 h hm p hp
  simp only [Um, qb] at hp
  subst hp
  cases d with
  | own id =>
   simp only [Xc] at h
   split at h
   ·rename_i e' xs hb
    split at h
    ·rename_i q hq
     subst q
     simp only [jc, jh] at h
     obtain ⟨rfl, rfl⟩ := h
     exact ⟨_, rfl, .inr ⟨id, hm _ (by simp), .inr (.inr (.inr ⟨_, _, 0, rfl, .inr ⟨hb, rfl⟩⟩))⟩⟩
    ·simp at h
   ·rename_i e' xs k hb
    split at h
    ·rename_i q hq
     subst q
     simp only [jc, jh] at h
     obtain ⟨rfl, rfl⟩ := h
     exact ⟨_, rfl, .inr ⟨id, hm _ (by simp), .inr (.inr (.inr ⟨_, _, k, by simp only [jn], .inl hb⟩))⟩⟩
    ·simp at h
   ·simp at h
  | _ => simp [Xc] at h
 | _ => intro d x m0 h hm p hp; simp [Um] at hp
theorem MD : ∀ {l : List (Tmp × TD)} {x : T (Jm.tyT l)} {m0 : Ag}, AF s l = some (x, m0) → Ut m0 m →
 (∀ t d', Ua (Hy l x) t = some d' → ∃ td d y m1, Ua s.tm t = some d ∧ Xc s td d = some (y, m1) ∧ Ut m1 m ∧ d' = Ck td y) ∧ (∀ p, p ∈ Oy l x → ∃ blk, p.2 = some blk ∧ CB s m p.1 blk)
 | [], x, m0, h, hm => ⟨by simp [Hy, Ua], by simp [Oy]⟩
 | (t0, td) :: r, x, m0, h, hm => by
  simp only [AF] at h
  split at h
  ·rename_i d hd
   split at h
   ·rename_i y m1 z m2 h1 h2
    simp only [jc, jh] at h
    obtain ⟨rfl, rfl⟩ := h
    have hm1 : Ut m1 m := fun p hp => hm p (List.mem_append_left _ hp)
    obtain ⟨i1, i2⟩ := MD h2 (fun p hp => hm p (List.mem_append_right _ hp))
    refine ⟨fun t d' ht => ?_, fun p hp => ?_⟩
    ·simp only [Hy] at ht
     rw [Rb] at ht
     split at ht
     ·rename_i e
      subst e
      simp only [jc] at ht
      exact ⟨td, d, y, m1, hd, h1, hm1, ht.symm⟩
     ·exact i1 t d' ht
    ·simp only [Oy] at hp
     rcases jl.1 hp with hp | hp
     ·exact Fw h1 hm1 p hp
     ·exact i2 p hp
   ·simp at h
  ·simp at h
theorem LD : ∀ {l : List (Nat × Ty × TD)} {x : T (Jm.tyB l)} {m0 m' : Ag}, ZB s l m0 = some (x, m') → Ut m' m →
 Ut m0 m ∧ ∀ p, p ∈ Gy l x → ∃ blk, p.2 = some blk ∧ CB s m p.1 blk
 | [], x, m0, m', h, hm => by
  simp only [ZB, jc, jh] at h
  obtain ⟨_, rfl⟩ := h
  exact ⟨hm, by simp [Gy]⟩
 | (id', ρ, td) :: r, x, m0, m', h, hm => by
  simp only [ZB] at h
  split at h
  ·rename_i id hid
   split at h
   ·rename_i ρ' d hb
    split at h
    ·rename_i q hq
     obtain rfl := q.down
     split at h
     ·rename_i y m1 h1
      simp only [Ea] at h
      obtain ⟨hsh, h⟩ := h
      split at h
      ·rename_i z m2 h2
       simp only [jc, jh] at h
       obtain ⟨rfl, rfl⟩ := h
       obtain ⟨i1, i2⟩ := LD h2 hm
       have hm0 : Ut m0 m := fun p hp => i1 p (List.mem_append_left _ hp)
       have hm1 : Ut m1 m := fun p hp => i1 p (List.mem_append_right _ hp)
       refine ⟨hm0, fun p hp => ?_⟩
       simp only [Gy] at hp
       rcases jp.1 hp with rfl | hp
       ·exact ⟨_, rfl, .inr ⟨id, hm0 _ (Gl hid), .inr (.inl ⟨_, d, td, y, m1, rfl, hb, h1, hm1, Uh hsh⟩)⟩⟩
       ·rcases jl.1 hp with hp | hp
        ·exact Fw h1 hm1 p hp
        ·exact i2 p hp
      ·simp at h
     ·simp at h
    ·simp at h
   ·simp at h
  ·simp at h
end
theorem Kt : ∀ {m : Ag}, Zp m = true → ∀ j i, (j, some i) ∈ m → (j < 500000 ∧ i < 500000) ∨ j = i
 | [], _, _, _, h => by simp at h
 | (j0, some i0) :: r, hp, j, i, h => by
  simp only [Zp, jd, Bool.or_eq_true] at hp
  rcases jp.1 h with e | h
  ·simp only [jh, jc] at e
   obtain ⟨rfl, rfl⟩ := e
   rcases hp.1 with h1 | h1
   ·rw [Nat.blt_eq, Nat.blt_eq] at h1; exact .inl h1
   ·exact .inr (ju h1)
  ·exact Kt hp.2 j i h
 | (j0, none) :: r, hp, j, i, h => by
  simp only [Zp, jd] at hp
  rcases jp.1 h with e | h
  ·simp at e
  ·exact Kt hp.2 j i h
theorem Jt : ∀ {m : Ag}, Zp m = true → ∀ j, (j, none) ∈ m → j < 500000
 | [], _, _, h => by simp at h
 | (j0, some i0) :: r, hp, j, h => by
  simp only [Zp, jd] at hp
  rcases jp.1 h with e | h
  ·simp at e
  ·exact Jt hp.2 j h
 | (j0, none) :: r, hp, j, h => by
  simp only [Zp, jd] at hp
  rcases jp.1 h with e | h
  ·simp only [jh, and_true] at e
   subst e
   have := hp.1
   rwa [Nat.blt_eq] at this
  ·exact Jt hp.2 j h
theorem XD {m : Ag} (h : (m.all fun x => m.all fun y => Dp x y) = true) {x y : Nat × Option Nat} (hx : x ∈ m) (hy : y ∈ m) : Dp x y = true :=
 List.all_eq_true.1 (List.all_eq_true.1 h x hx) y hy
theorem AK {m : Ag} (h : (m.all fun x => m.all fun y => Dp x y) = true) {j : Nat} {a c : Option Nat} (hx : (j, a) ∈ m) (hy : (j, c) ∈ m) : a = c := by
 have := XD h hx hy
 unfold Dp at this
 cases a with
 | none => cases c with
  | none => rfl
  | some c => simp at this
 | some a => cases c with
  | none => simp at this
  | some c => simpa [Nat.beq_eq] using this
theorem BK {m : Ag} (h : (m.all fun x => m.all fun y => Dp x y) = true) {j j' i : Nat} (hx : (j, some i) ∈ m) (hy : (j', some i) ∈ m) : j = j' := by
 have := XD h hx hy
 unfold Dp at this
 simpa using this
theorem Wz {α : Type} {j : Nat} {a : α} : ∀ {m : List (Nat × α)}, (j, a) ∈ m → ∃ c, Ua m j = some c ∧ (j, c) ∈ m
 | [], h => by simp at h
 | (j0, a0) :: r, h => by
  rw [Rb]
  by_cases hj : j0 = j
  ·subst hj; exact ⟨a0, by simp, by simp⟩
  ·rw [if_neg hj]
   rcases jp.1 h with e | h
   ·simp only [jh] at e
    exact absurd e.1.symm hj
   ·obtain ⟨c, h1, h2⟩ := Wz h
    exact ⟨c, h1, jr _ h2⟩
theorem Hl {m : Ag} (h : (m.all fun x => m.all fun y => Dp x y) = true) {j : Nat} {a : Option Nat} (hx : (j, a) ∈ m) : Ua m j = some a := by
 obtain ⟨c, h1, h2⟩ := Wz hx
 rw [h1, AK h hx h2]
section
variable {n0 : Nat} {A : Fx} {O0 : Nat → Prop} {w0 w : World} {s : AS} {σ : Nat → Value} {φ : Nat → List Nat} {a : Act}
theorem Rv (h : Na n0 A O0 w0 s σ φ a w) {p : Jm} {x : p.X} (he : ext p s = some x) : ∃ σ' φ', Na n0 A O0 w0 (Nq p x s.n) σ' φ' a w := by
 unfold ext at he
 split at he
 ·rename_i x1 m1 h1
  split at he
  ·rename_i x2 m h2
   simp only [Ea] at he
   obtain ⟨hmo, he⟩ := he
   simp only [jc] at he
   subst he
   simp only [ZK, jd] at hmo
   obtain ⟨hn1, hpo⟩ := hmo
   obtain ⟨hm1, hB⟩ := LD h2 (fun p hp => hp)
   obtain ⟨hT1, hT2⟩ := MD h1 hm1
   let σ' : Nat → Value := fun j => match Ua m j with
    | some (some i) => σ i
    | some none => .slice none 0 0
    | none => σ j
   let φ' : Nat → List Nat := fun j => match Ua m j with
    | some (some i) => φ i
    | _ => []
   have hσs : ∀ j i, (j, some i) ∈ m → σ' j = σ i ∧ φ' j = φ i := fun j i hj => by
    have := Hl hn1 hj
    simp only [σ', φ', this, and_self]
   have hσn : ∀ j, (j, none) ∈ m → σ' j = .slice none 0 0 ∧ φ' j = [] := fun j hj => by
    have := Hl hn1 hj
    simp only [σ', φ', this, and_self]
   have hent : ∀ j blk, (Nq p (x1, x2) s.n).heap j = some blk → CB s m j blk := by
    intro j blk hj
    have hmem := AS.heap_mem hj
    simp only [Nq] at hmem
    rcases jl.1 hmem with hmem | hmem
    ·obtain ⟨blk', e, hE⟩ := hT2 _ hmem
     simp only [jc] at e
     subst e
     exact hE
    ·obtain ⟨blk', e, hE⟩ := hB _ hmem
     simp only [jc] at e
     subst e
     exact hE
   have hlive : ∀ j blk, (Nq p (x1, x2) s.n).heap j = some blk → φ' j = [] ∨ ∃ i blk0, (j, some i) ∈ m ∧ s.heap i = some blk0 ∧ φ' j = φ i := by
    intro j blk hj
    rcases hent j blk hj with ⟨hn, _⟩ | ⟨i, hi, ⟨e, dp, dp', xs, _, hb, _⟩ | ⟨ρ, d, td, y, m0, _, hb, _⟩ | ⟨e, xs, k, x, p, τ, d, td, y, m0, _, hb, _⟩ | ⟨e, xs, k, _, hb | ⟨hb, _⟩⟩⟩
    ·exact .inl (hσn j hn).2
    ·exact .inr ⟨i, _, hi, hb, (hσs j i hi).2⟩
    ·exact .inr ⟨i, _, hi, hb, (hσs j i hi).2⟩
    ·exact .inr ⟨i, _, hi, hb, (hσs j i hi).2⟩
    ·exact .inr ⟨i, _, hi, hb, (hσs j i hi).2⟩
    ·exact .inr ⟨i, _, hi, hb, (hσs j i hi).2⟩
   have hOO : ∀ b, b < w.heap.size → ¬ OO O0 s φ b → ¬ OO O0 (Nq p (x1, x2) s.n) φ' b := by
    rintro b _ hno (ho | ⟨j, blk, hj, hm⟩)
    ·exact hno (.inl ho)
    ·rcases hlive j blk hj with hφ | ⟨i, blk0, _, hb, hφ⟩
     ·rw [hφ] at hm; simp at hm
     ·rw [hφ] at hm; exact hno (.inr ⟨i, blk0, hb, hm⟩)
   have hTOk : SM s σ σ' (Nq p (x1, x2) s.n).heap m := by
    refine ⟨fun j i hj => (hσs j i hj).1, fun j hj => (hσn j hj).1, fun j i ρ d hj hb => ?_, fun j i blk r hj hb hr => ?_⟩
    rcases hent j _ hb with ⟨hn, e, dp, hh⟩ | ⟨i', hi', ⟨e, dp, dp', xs, hh, _⟩ | ⟨ρ', d', td, y, m0, hh, hb', _⟩ | ⟨e, xs, k, x, p, τ, d', td, y, m0, hh, _⟩ | ⟨e, xs, k, hh, _⟩⟩
    ·simp at hh
    ·simp at hh
    ·simp only [Ga.box.injEq] at hh
     have e1 := Hl hn1 hj
     have e2 := Hl hn1 hi'
     rw [e1] at e2
     simp only [jc] at e2
     subst e2
     exact ⟨d', by rw [hb', hh.1]⟩
    ·simp at hh
    ·simp at hh
    ·have e1 := Hl hn1 hj
     rcases hent j _ hb with ⟨hn, _⟩ | ⟨i', hi', hx⟩
     ·have e2 := Hl hn1 hn
      rw [e1] at e2
      simp at e2
     ·have e2 := Hl hn1 hi'
      rw [e1] at e2
      simp only [jc] at e2
      subst e2
      rcases hx with ⟨e, dp, dp', xs, rfl, hb', _⟩ | ⟨ρ', d', td, y, m0, rfl, _⟩ | ⟨e, xs, k, x, p, τ, d', td, y, m0, rfl, hb', _⟩ | ⟨e, xs, k, rfl, hb' | ⟨hb', _⟩⟩
      ·exact ⟨_, hb', hr⟩
      ·simp [Ga.rowN] at hr
      ·exact ⟨_, hb', hr⟩
      ·exact ⟨_, hb', hr⟩
      ·exact ⟨_, hb', hr⟩
   refine ⟨σ', φ', h.sz, h.df, ?_, ?_, ?_, ?_, ?_, h.o0, h.fr, ?_, h.iv0, h.ivw⟩
   ·intro t d' hd
    obtain ⟨td, d, y, m0, g1, g2, g3, g4⟩ := hT1 t d' hd
    obtain ⟨v, hv, hr⟩ := h.tm t d g1
    rw [g4]
    exact ⟨v, hv, NJ hTOk hOO g2 g3 hr⟩
   ·intro j blk hj
    rcases hent j blk hj with ⟨hn, e, dp, rfl⟩ | ⟨i, hi, ⟨e, dp, dp', xs, rfl, hb, hd⟩ | ⟨ρ, d, td, y, m0, rfl, hb, hex, hsub, hsh⟩ | ⟨e, xs, k, x, p, τ, d, td, y, m0, rfl, hb, hex, hsub, hsh⟩ | ⟨e, xs, k, rfl, hb⟩⟩
    ·rw [Lh, (hσn j hn).1, (hσn j hn).2]
     exact ⟨by simp, .inl ⟨rfl, rfl, rfl⟩⟩
    ·rw [Lh, (hσs j i hi).1, (hσs j i hi).2]
     have hrow := Lh.1 (h.hp i _ hb)
     have hst : ∀ dq, Qf w (OO O0 s φ) dq e xs (σ i) (φ i) → Qf w (OO O0 (Nq p (x1, x2) s.n) φ') dq e xs (σ i) (φ i) := by
      rintro dq ⟨hm, g | ⟨bl, off, cap, cur, et, Fs, g1, hh, g2, g3, g4, hF, hel⟩⟩
      ·exact ⟨hm, .inl g⟩
      ·exact ⟨hm, .inr ⟨bl, off, cap, cur, et, Fs, g1, hh, g2, g3, g4, hF, hel.stable (fun _ _ _ => rfl) hOO (fun _ _ => rfl)⟩⟩
     rcases hd with rfl | hf
     ·exact hst _ hrow
     ·have hup := hrow.up
      rw [hf, Bool.or_true] at hup
      cases dp with
      | true => exact hst _ hup
      | false =>
       cases dp' with
       | false => exact hst _ hrow
       | true =>
        have hown := Uv (h.hp i _ hb) (.inl rfl)
        exact hst _ (Lh.1 (Nz (O := OO O0 s φ) (hp := s.heap) hown hf))
    ·rw [(hσs j i hi).2]
     obtain ⟨_, b, cur, et, g1, hh, hF, hr, hsz⟩ := h.hp i _ hb
     exact ⟨hsh, b, cur, et, by rw [(hσs j i hi).1]; exact g1, hh, hF, Pv hTOk hOO hex hsub hr, hsz⟩
    ·rw [(hσs j i hi).2]
     obtain ⟨_, g1, g2, g3, bl, off, cap, cur, et, g4, g5, g6, g7, hr, hw⟩ := h.hp i _ hb
     refine ⟨hsh, g1, g2, g3, bl, off, cap, cur, et, by rw [(hσs j i hi).1]; exact g4, g5, g6, g7, Pv hTOk hOO hex hsub hr, fun w' c' h1 h2 h3 y Fy x' h4 h5 => ?_⟩
     rw [(hσs j i hi).1]
     exact hw w' c' h1 h2 h3 y Fy x' h4 h5
    ·rw [(hσs j i hi).2]
     have hm0 : Mb w (OO O0 s φ) s.heap σ i (.mov e xs k) (φ i) := by
      rcases hb with hb | ⟨hb, rfl⟩
      ·exact h.hp i _ hb
      ·exact SC (h.hp i _ hb)
     obtain ⟨hlen, ⟨g1, g2, g3⟩ | ⟨bl, off, cap, cur, et, Fs, g1, g⟩⟩ := hm0
     ·exact ⟨hlen, .inl ⟨by rw [(hσs j i hi).1]; exact g1, g2, g3⟩⟩
     ·exact ⟨hlen, .inr ⟨bl, off, cap, cur, et, Fs, by rw [(hσs j i hi).1]; exact g1, g⟩⟩
   ·intro j blk hj
    rcases hlive j blk hj with hφ | ⟨i, blk0, _, hb, hφ⟩
    ·rw [hφ]; exact List.nodup_nil
    ·rw [hφ]; exact h.nodup i blk0 hb
   ·intro j j' blk blk' hne hj hj' b hb hb'
    rcases hlive j blk hj with hφ | ⟨i, blk0, hi, hbi, hφ⟩
    ·rw [hφ] at hb; simp at hb
    ·rcases hlive j' blk' hj' with hφ' | ⟨i', blk0', hi', hbi', hφ'⟩
     ·rw [hφ'] at hb'; simp at hb'
     ·rw [hφ] at hb
      rw [hφ'] at hb'
      by_cases hii : i = i'
      ·subst hii
       exact hne (BK hn1 hi hi')
      ·exact h.disj i i' blk0 blk0' hii hbi hbi' b hb hb'
   ·intro j blk hj b hb
    rcases hlive j blk hj with hφ | ⟨i, blk0, _, hbi, hφ⟩
    ·rw [hφ] at hb; simp at hb
    ·rw [hφ] at hb; exact h.fresh i blk0 hbi b hb
   ·intro j v hv
    have hlow := A.low j v hv
    show σ' j = v
    simp only [σ']
    split
    ·rename_i i hg
     rcases Kt hpo j i (Gl hg) with ⟨hj, _⟩ | rfl
     ·omega
     ·exact h.pin _ v hv
    ·rename_i hg
     have := Jt hpo j (Gl hg)
     omega
    ·exact h.pin j v hv
  ·simp at he
 ·simp at he
end
def WM : Ex → Exit
 | .normal => .normal
 | .exit id => .exit id
 | .ret => .ret
def Hp {X R : Type} (step : X → Option (X ⊕ R)) : Nat → X → R → Prop
 | 0, _, _ => False
 | n + 1, x, r => step x = some (.inr r) ∨ ∃ x', step x = some (.inl x') ∧ Hp step n x' r
def Wc : Code → List Code
 | .seq a b => Wc a ++ Wc b
 | .cond _ a b => Wc a ++ Wc b
 | .block _ c => Wc c
 | .loop c => c :: Wc c
 | _ => []
def Bc (G : Jd) (L : List (Nat × Jb)) (b : Code) : Prop :=
 ∀ r ls, Vg b = some r → Ua L r = some ls → ∀ x y, ls.F x = some y → ∃ m, Hp (Ir G L ls b) m x y
section
variable {P : Program} {n0 : Nat} {A : Fx} {O0 : Nat → Prop} {w0 : World} {G : Jd} {L : List (Nat × Jb)}
theorem YB (hG : Fi P A.I G) (hfz : G.fz = true → ∀ b, ¬ A.A b) (hm : P.follows .mixedOrders = true) : ∀ (c : Code), (∀ b, b ∈ Wc c → Bc G L b) → ∀ {Out : Type} {k : Ex → AS → Option Out} {out : Out} {s : AS} {σ : Nat → Value} {φ : Nat → List Nat} {a : Act} {w : World} {Q : Exit → Act → World → Prop},
 Uk G L c s k = some out → Na n0 A O0 w0 s σ φ a w → (∀ e s σ φ a w, k e s = some out → Na n0 A O0 w0 s σ φ a w → Q (WM e) a w) → c.wp P Q a w := by
 intro c
 induction c with
 | skip =>
  intro _ Out k out s σ φ a w Q he h hQ
  simp only [Uk] at he
  exact wp_skip (hQ .normal s σ φ a w he h)
 | region id ops draw =>
  intro _ Out k out s σ φ a w Q he h hQ
  simp only [Uk] at he
  split at he
  ·rename_i s1 h1
   obtain ⟨φ1, hc⟩ := Dq hfz h h1
   refine YH (k := fun s' => match Rr G.fz G.att (1000 * id + 999) s' with
    | some s' => k .normal s'
    | none => none) hG hfz hm hc he fun a w ⟨s', σ', φ', h2, h3⟩ => ?_
   simp only at h2
   split at h2
   ·rename_i s2 h4
    obtain ⟨φ2, hc2⟩ := Dq hfz h3 h4
    exact hQ .normal _ σ' φ2 a w h2 hc2
   ·simp at h2
  ·simp at he
 | seq x y ihx ihy =>
  intro hL Out k out s σ φ a w Q he h hQ
  simp only [Uk] at he
  refine wp_seq (ihx (fun b hb => hL b (by simp [Wc, hb])) he h fun e s' σ' φ' a' w' hk h' => ?_)
  cases e with
  | normal => exact ihy (fun b hb => hL b (by simp [Wc, hb])) hk h' hQ
  | exit j => exact hQ (.exit j) s' σ' φ' a' w' hk h'
  | ret => exact hQ .ret s' σ' φ' a' w' hk h'
 | cond x y z ihy ihz =>
  intro hL Out k out s σ φ a w Q he h hQ
  cases x with
  | tmp t =>
   simp only [Uk] at he
   split at he
   ·rename_i β hd
    have hs := h.same hd
    obtain ⟨v, hv, hr⟩ := h.tm t _ hd
    rw [Kf] at hr
    subst hr
    have hev : a.eval (.tmp t) = .bool β := by
     simp only [Act.eval]
     rw [Array.getD_eq_getD_getElem?, hv]
     rfl
    refine wp_cond_split hev (fun hb => ?_) (fun hb => ?_)
    ·subst hb
     simp only [cond_true] at he
     exact ihy (fun b hb => hL b (by simp [Wc, hb])) he hs hQ
    ·subst hb
     simp only [cond_false] at he
     exact ihz (fun b hb => hL b (by simp [Wc, hb])) he hs hQ
   ·simp at he
  | const cv =>
   cases cv with
   | bool β =>
    simp only [Uk] at he
    refine wp_cond_split (show a.eval (.const (.bool β)) = .bool β from rfl) (fun hb => ?_) (fun hb => ?_)
    ·subst hb
     simp only [cond_true] at he
     exact ihy (fun b hb => hL b (by simp [Wc, hb])) he h hQ
    ·subst hb
     simp only [cond_false] at he
     exact ihz (fun b hb => hL b (by simp [Wc, hb])) he h hQ
   | _ => simp [Uk] at he
  | _ => simp [Uk] at he
 | block id c ih =>
  intro hL Out k out s σ φ a w Q he h hQ
  simp only [Uk] at he
  refine wp_block (ih (fun b hb => hL b (by simpa [Wc] using hb)) he h fun e s' σ' φ' a' w' hk h' => ?_)
  cases e with
  | normal => exact hQ .normal s' σ' φ' a' w' hk h'
  | exit j =>
   simp only [WM, Exit.inBlock]
   cases hb : Nat.beq j id with
   | true =>
    rw [if_pos (ju hb)]
    simp only [hb, cond_true] at hk
    exact hQ .normal s' σ' φ' a' w' hk h'
   | false =>
    rw [if_neg (fun e => by rw [e, Nat.beq_refl] at hb; simp at hb)]
    simp only [hb, cond_false] at hk
    exact hQ (.exit j) s' σ' φ' a' w' hk h'
  | ret => exact hQ .ret s' σ' φ' a' w' hk h'
 | exit id =>
  intro _ Out k out s σ φ a w Q he h hQ
  simp only [Uk] at he
  exact wp_exit (hQ (.exit id) s σ φ a w he h)
 | ret =>
  intro _ Out k out s σ φ a w Q he h hQ
  simp only [Uk] at he
  exact wp_ret (hQ .ret s σ φ a w he h)
 | loop c ih =>
  intro hL Out k out s σ φ a w Q he h hQ
  simp only [Uk] at he
  split at he
  ·rename_i r hr
   split at he
   ·rename_i ls hls
    split at he
    ·rename_i x hx
     simp only [Ea] at he
     obtain ⟨hn, he⟩ := he
     have hn := ju hn
     rw [qd] at he
     obtain ⟨y, hy, he⟩ := he
     obtain ⟨m, hit⟩ := hL c (by simp [Wc]) r ls hr hls x y hy
     obtain ⟨σ1, φ1, h1⟩ := Rv h hx
     rw [hn] at h1 he
     refine wp_loop_rounds m ?_
     have key : ∀ (m : Nat) (x : ls.inT.X) (σ : Nat → Value) (φ : Nat → List Nat) (a : Act) (w : World), Hp (Ir G L ls c) m x y → Na n0 A O0 w0 (Nq ls.inT x ls.n) σ φ a w → Code.rounds P c Q m a w := by
      intro m
      induction m with
      | zero => intro x σ φ a w hit _; exact hit.elim
      | succ m ihm =>
       intro x σ φ a w hit h
       rw [rounds_succ]
       have body : ∀ z, Ir G L ls c x = some z → (z = .inr y ∨ ∃ x', z = .inl x' ∧ Hp (Ir G L ls c) m x' y) → c.wp P (Exit.then (Code.rounds P c Q m) Q) a w := by
        intro z hz hzy
        unfold Ir at hz
        refine ih (fun b hb => hL b (by simp [Wc, hb])) hz h fun e s' σ' φ' a' w' hk h' => ?_
        simp only [Ea] at hk
        obtain ⟨hn', hk⟩ := hk
        have hn' := ju hn'
        cases e with
        | normal =>
         simp only at hk
         split at hk
         ·rename_i x' hx'
          simp only [jc] at hk
          obtain ⟨σ2, φ2, h2⟩ := Rv h' hx'
          rw [hn'] at h2
          rcases hzy with hzy | ⟨x'', hzy, hit'⟩
          ·rw [hzy] at hk; simp at hk
          ·rw [hzy] at hk
           simp only [Sum.inl.injEq] at hk
           subst hk
           exact ihm x' σ2 φ2 a' w' hit' h2
         ·simp at hk
        | exit j =>
         simp only [Ea] at hk
         obtain ⟨hj, hk⟩ := hk
         have hj := ju hj
         split at hk
         ·rename_i y' hy'
          simp only [jc] at hk
          obtain ⟨σ2, φ2, h2⟩ := Rv h' hy'
          rw [hn'] at h2
          rcases hzy with hzy | ⟨x'', hzy, _⟩
          ·rw [hzy] at hk
           simp only [Sum.inr.injEq] at hk
           subst hk
           simp only [qh] at he
           show Q (.exit j) a' w'
           rw [hj]
           exact hQ (.exit ls.exitId) _ σ2 φ2 a' w' he h2
          ·rw [hzy] at hk; simp at hk
         ·simp at hk
        | ret =>
         simp only at hk
         split at hk
         ·rename_i y' hy'
          simp only [jc] at hk
          obtain ⟨σ2, φ2, h2⟩ := Rv h' hy'
          rw [hn'] at h2
          rcases hzy with hzy | ⟨x'', hzy, _⟩
          ·rw [hzy] at hk
           simp only [Sum.inr.injEq] at hk
           subst hk
           simp only [Sum.elim_inr] at he
           exact hQ .ret _ σ2 φ2 a' w' he h2
          ·rw [hzy] at hk; simp at hk
         ·simp at hk
       rcases hit with hit | ⟨x', hit, hit'⟩
       ·exact body _ hit (.inl rfl)
       ·exact body _ hit (.inr ⟨x', rfl, hit'⟩)
     exact key m x σ1 φ1 a w hit h1
    ·simp at he
   ·simp at he
  ·simp at he
 | _ => intros; rename_i he _ _; simp [Uk] at he
end
theorem Wb.mono {w : World} {O O' : Nat → Prop} (hO : ∀ b, O' b → O b) : ∀ {rt : Ty} {r : T rt} {fr : List Bool} {vs : List Value} {F : List Nat}, Wb w O rt r fr vs F → Wb w O' rt r fr vs F
 | .u, _, [], [], _, h => h
 | .p x y, r, f :: fr, v :: vs, F, h => by
  obtain ⟨cs, F1, F2, hv, hF, h1, h2⟩ := h
  refine ⟨cs, F1, F2, hv, hF, ?_, Wb.mono hO h2⟩
  cases f with
  | true => exact h1
  | false =>
   simp only [jq, if_false] at h1 ⊢
   exact ⟨h1.1.weaken hO, h1.2⟩
 | .u, _, _ :: _, _, _, h => by simp [Wb] at h
 | .u, _, [], _ :: _, _, h => by simp [Wb] at h
 | .p _ _, _, [], _, _, h => by simp [Wb] at h
 | .p _ _, _, _ :: _, [], _, h => by simp [Wb] at h
 | .i _, _, fr, vs, _, h => by simp [Wb] at h
 | .b, _, fr, vs, _, h => by simp [Wb] at h
 | .o, _, fr, vs, _, h => by simp [Wb] at h
 | .s, _, fr, vs, _, h => by simp [Wb] at h
 | .sl _, _, fr, vs, _, h => by simp [Wb] at h
section
variable {P : Program} {n0 : Nat} {A : Fx} {O0 : Nat → Prop} {w0 w : World} {s : AS} {σ : Nat → Value} {φ : Nat → List Nat} {a : Act} {G : Jd} {L : List (Nat × Jb)}
def RU (w : World) (O : Nat → Prop) (hp : Nat → Option Ga) (σ : Nat → Value) : D → List Value → Prop
 | .pr a b, v :: vs => Xb w O hp σ a v ∧ RU w O hp σ b vs
 | .un, [] => True
 | _, _ => False
def Xu (tmps : Array Value) : ResultVar → Sem Value
 | .tmp t => pure (tmps.getD t undef)
 | .cell a t => do loadVar t (← asAddr (tmps.getD a undef))
theorem Tq (hG : EnvTy P G) (h : Na n0 A O0 w0 s σ φ a w) : ∀ {rs : List ResultVar} {d : D}, Tm G s rs = some d → ∃ vs, (rs.mapM (Xu a.tmps)).run P w = .ok vs w ∧ RU w (OO O0 s φ) s.heap σ d vs
 | [], d, he => by
  simp only [Tm, jc] at he
  subst he
  exact ⟨[], by simp, trivial⟩
 | .tmp t :: r, d, he => by
  simp only [Tm] at he
  split at he
  ·rename_i d1 d2 h1 h2
   simp only [jc] at he
   subst he
   obtain ⟨vs, hvs, hr⟩ := Tq hG h h2
   obtain ⟨v, hv, hru⟩ := h.tm t d1 h1
   have hg : a.tmps.getD t undef = v := by rw [Array.getD_eq_getD_getElem?, hv]; rfl
   refine ⟨v :: vs, ?_, hru, hr⟩
   rw [List.mapM_cons]
   simp only [Xu, qo, Sem.run_pure, qn, hvs, hg]
  ·simp at he
 | .cell t ty :: r, d, he => by
  simp only [Tm] at he
  split at he
  ·rename_i id d2 h1 h2
   split at he
   ·rename_i ρ d1 τ hb hty
    split at he
    ·rename_i q hq
     obtain rfl := q.down
     simp only [jc] at he
     subst he
     obtain ⟨vs, hvs, hr⟩ := Tq hG h h2
     obtain ⟨v, hv, hru⟩ := h.tm t _ h1
     have hg : a.tmps.getD t undef = v := by rw [Array.getD_eq_getD_getElem?, hv]; rfl
     rw [Dj] at hru
     obtain ⟨b, hσ, hv'⟩ := hru.2 _ _ hb
     obtain ⟨hs, b', cur, et, hσ', hh, hF, hrep, hsz⟩ := h.hp id _ hb
     rw [hσ] at hσ'
     simp at hσ'
     subst hσ'
     have hl := Qj (P := P) (hG.ty _ _ hty) (off := 0) hh (by omega)
     have hseg : Jc cur 0 ρ.size = cur.toList := by rw [← hsz]; exact QL cur
     rw [hseg] at hl
     refine ⟨Hc ρ cur.toList :: vs, ?_, Ej hs hrep, hr⟩
     rw [List.mapM_cons]
     have hoff : Ta ρ [] = 0 := rfl
     rw [hoff] at hv'
     subst hv'
     simp only [Xu, qo, Sem.run_pure, qn, hvs, hg, asAddr, hl]
    ·simp at he
   ·simp at he
  ·simp at he
theorem Pz (h : Na n0 A O0 w0 s σ φ a w) : ∀ {rt : Ty} {fr : List Bool} {d : D} {r : T rt} {l : List Nat} {vs : List Value}, Ue s rt fr d = some (r, l) → RU w (OO O0 s φ) s.heap σ d vs →
 Wb w (OO O0 s φ) rt r fr vs (Ba φ l) ∧ ∀ j, j ∈ l → ∃ b, s.heap j = some b
 | .u, [], .un, r, l, vs, he, hr => by
  simp only [Ue, jc, jh] at he
  obtain ⟨_, rfl⟩ := he
  cases vs with
  | nil => exact ⟨by simp [Wb, Ba], by simp⟩
  | cons v vs => simp [RU] at hr
 | .p x y, f :: fr, .pr d1 d2, r, l, vs, he, hr => by
  cases vs with
  | nil => simp [RU] at hr
  | cons v vs =>
   simp only [Ue] at he
   split at he
   ·rename_i u l1 z l2 h1 h2
    simp only [jc, jh] at he
    obtain ⟨rfl, rfl⟩ := he
    obtain ⟨g1, g2⟩ := Pz h h2 hr.2
    cases f with
    | true =>
     simp only [cond_true] at h1
     obtain ⟨hrep, hv⟩ := Ad (Xg h1) hr.1
     obtain ⟨ho, hl⟩ := Qi h h1 hrep
     refine ⟨⟨_, Ba φ l1, Ba φ l2, hv, Ic, ?_, g1⟩, ?_⟩
     ·simpa using ho
     ·intro j hj
      rcases jl.1 hj with hj | hj
      ·exact hl j hj
      ·exact g2 j hj
    | false =>
     simp only [cond_false] at h1
     split at h1
     ·rename_i u' hu
      simp only [jc, jh] at h1
      obtain ⟨rfl, rfl⟩ := h1
      obtain ⟨hs, hvw⟩ := Ve (w := w) (O := OO O0 s φ) (hp := s.heap) (σ := σ) hu
      obtain ⟨hrep, hv⟩ := Ad hs hr.1
      refine ⟨⟨_, [], Ba φ l2, hv, by simp [Ba], ?_, g1⟩, by simpa using g2⟩
      simpa using hvw _ hrep
     ·simp at h1
   ·simp at he
 | .u, _ :: _, d, _, _, _, he, _ => by cases d <;> simp [Ue] at he
 | .u, [], .und, _, _, _, he, _ => by simp [Ue] at he
 | .u, [], .anyv, _, _, _, he, _ => by simp [Ue] at he
 | .u, [], .t _ _, _, _, _, he, _ => by simp [Ue] at he
 | .u, [], .nil, _, _, _, he, _ => by simp [Ue] at he
 | .u, [], .own _, _, _, _, he, _ => by simp [Ue] at he
 | .u, [], .ptr _ _, _, _, _, he, _ => by simp [Ue] at he
 | .u, [], .eptr _ _ _, _, _, _, he, _ => by simp [Ue] at he
 | .u, [], .rp _ _, _, _, _, he, _ => by simp [Ue] at he
 | .u, [], .pr _ _, _, _, _, he, _ => by simp [Ue] at he
 | .u, [], .tup _, _, _, _, he, _ => by simp [Ue] at he
 | .p _ _, [], d, _, _, _, he, _ => by cases d <;> simp [Ue] at he
 | .p _ _, _ :: _, .und, _, _, _, he, _ => by simp [Ue] at he
 | .p _ _, _ :: _, .anyv, _, _, _, he, _ => by simp [Ue] at he
 | .p _ _, _ :: _, .t _ _, _, _, _, he, _ => by simp [Ue] at he
 | .p _ _, _ :: _, .nil, _, _, _, he, _ => by simp [Ue] at he
 | .p _ _, _ :: _, .own _, _, _, _, he, _ => by simp [Ue] at he
 | .p _ _, _ :: _, .ptr _ _, _, _, _, he, _ => by simp [Ue] at he
 | .p _ _, _ :: _, .eptr _ _ _, _, _, _, he, _ => by simp [Ue] at he
 | .p _ _, _ :: _, .rp _ _, _, _, _, he, _ => by simp [Ue] at he
 | .p _ _, _ :: _, .un, _, _, _, he, _ => by simp [Ue] at he
 | .p _ _, _ :: _, .tup _, _, _, _, he, _ => by simp [Ue] at he
 | .i _, fr, d, _, _, _, he, _ => by cases fr <;> cases d <;> simp [Ue] at he
 | .b, fr, d, _, _, _, he, _ => by cases fr <;> cases d <;> simp [Ue] at he
 | .o, fr, d, _, _, _, he, _ => by cases fr <;> cases d <;> simp [Ue] at he
 | .s, fr, d, _, _, _, he, _ => by cases fr <;> cases d <;> simp [Ue] at he
 | .sl _, fr, d, _, _, _, he, _ => by cases fr <;> cases d <;> simp [Ue] at he
theorem Xr {fn : Func} {vs : List Value} (h : (fn.results.toList.mapM (Xu a.tmps)).run P w = .ok vs w) : (results fn a.tmps).run P w = .ok (Pq vs) w := by
 unfold results
 rw [Array.mapM_eq_mapM_toList]
 simp only [map_eq_pure_bind, bind_assoc, pure_bind, qo, Sem.run_pure]
 show (Sem.run P (List.mapM (Xu a.tmps) fn.results.toList) w).andThen (fun vs w' => Result.ok (if h : vs.toArray.size = 1 then vs.toArray[0] else Value.tuple vs.toArray) w') = _
 rw [h]
 simp only [qn]
 congr 1
 cases vs with
 | nil => rfl
 | cons v vs => cases vs <;> rfl
end
def Ty.npar : Ty → Nat
 | .p _ y => y.npar + 1
 | _ => 0
theorem Pr {w : World} {O : Nat → Prop} : ∀ {pt : Ty} {x : T pt} {args : List Value}, Re w O pt x args → args.length = pt.npar
 | .u, _, [], _ => rfl
 | .p x y, v, a :: r, h => by simp [Ty.npar, Pr h.2]
 | .u, _, _ :: _, h => by simp [Re] at h
 | .p _ _, _, [], h => by simp [Re] at h
 | .i _, _, l, h => by simp [Re] at h
 | .b, _, l, h => by simp [Re] at h
 | .o, _, l, h => by simp [Re] at h
 | .s, _, l, h => by simp [Re] at h
 | .sl _, _, l, h => by simp [Re] at h
theorem Ht {w : World} {O : Nat → Prop} {hp : Nat → Option Ga} {σ : Nat → Value} : ∀ {pt : Ty} {x : T pt} {args : List Value} {n t : Nat} {d : D}, Re w O pt x args → Ua (Xk pt x n) t = some d →
 ∃ j v, t = n + j ∧ args[j]? = some v ∧ Xb w O hp σ d v
 | .p x y, v, a :: r, n, t, d, h, hd => by
  simp only [Xk] at hd
  rw [Rb] at hd
  split at hd
  ·rename_i e
   simp only [jc] at hd
   subst hd
   obtain ⟨⟨cs, ha, hv⟩, _⟩ := h
   refine ⟨0, a, by omega, rfl, ?_⟩
   rw [ha]
   exact Ej (τ := x) (by simp [Sa]) hv
  ·obtain ⟨j, v', h1, h2, h3⟩ := Ht (hp := hp) (σ := σ) h.2 hd
   exact ⟨j + 1, v', by omega, by simpa using h2, h3⟩
 | .p _ _, _, [], _, _, _, h, _ => by simp [Re] at h
 | .u, _, _, _, _, _, _, hd => by simp [Xk, Ua] at hd
 | .i _, _, _, _, _, _, h, _ => by simp [Re] at h
 | .b, _, _, _, _, _, h, _ => by simp [Re] at h
 | .o, _, _, _, _, _, h, _ => by simp [Re] at h
 | .s, _, _, _, _, _, h, _ => by simp [Re] at h
 | .sl _, _, _, _, _, _, h, _ => by simp [Re] at h
section
variable {P : Program} {G : Jd} {L : List (Nat × Jb)}
variable {I : Sh}
def Lz (I : Sh) : Fx := ⟨fun _ => False, fun _ => none, fun _ _ h => by simp at h, I, fun _ h => h.elim⟩
theorem MK (hG : Fi P I G) (hm : P.follows .mixedOrders = true) {f : FuncId} {fn : Func} {c : Code} (hf : P.funcs[f]? = some fn) (hb : fn.body = some c) (hname : (fn.name == "runtime.NumGoroutine") = false)
 (hL : ∀ b, b ∈ Wc c → Bc G L b) {pt rt : Ty} {fr : List Bool} {F : T pt → Option (T rt)} (hn : pt.npar ≤ fn.ntmps) (hF : ∀ x r, F x = some r → LG G L fn pt rt fr x = some r) : Sm P I f (.pu pt rt fr F) := by
 refine ⟨⟨fn, hf, hname, by rw [hb]; rfl⟩, ?_⟩
 intro O w x r args hx hargs hO hI hB
 have he := hF x r hx
 unfold LG at he
 rw [hb] at he
 simp only at he
 refine calls_of_wp hf hb ?_
 have hlen := Pr hargs
 have hc : Na w.heap.size (Lz I) O w ⟨fn.ntmps, Xk pt x 0, []⟩ (fun _ => undef) (fun _ => []) { tmps := args.toArray ++ Array.replicate (fn.ntmps - args.toArray.size) undef, defers := [] } w := by
  have hh : ∀ id, AS.heap ⟨fn.ntmps, Xk pt x 0, []⟩ id = none := fun id => rfl
  refine ⟨?_, rfl, ?_, ?_, ?_, ?_, ?_, hO, ⟨rfl, rfl, rfl, jo _, fun _ _ _ => rfl⟩, ?_, hB, hI⟩
  ·simp; omega
  ·intro t d hd
   have hOO : OO O ⟨fn.ntmps, Xk pt x 0, []⟩ (fun _ => []) = O := by
    funext b
    simp [OO, hh]
   rw [hOO]
   obtain ⟨j, v, h1, h2, h3⟩ := Ht hargs hd
   refine ⟨v, ?_, h3⟩
   have hj : j < args.length := (List.getElem?_eq_some_iff.1 h2).1
   have : t = j := by omega
   subst this
   rw [Array.getElem?_append_left (by simpa using hj)]
   simpa using h2
  ·intro id blk hb; rw [hh] at hb; simp at hb
  ·intro id blk hb; rw [hh] at hb; simp at hb
  ·intro id id' blk blk' _ hb; rw [hh] at hb; simp at hb
  ·intro id blk hb; rw [hh] at hb; simp at hb
  ·intro id v hv; simp [Lz] at hv
 refine YB (A := Lz I) hG (fun _ _ h => h) hm c hL he hc ?_
 intro e s σ φ a w' hk h
 have Tg : (match Tm G s fn.results.toList with
  | some d => match Ue s rt fr d with
   | some (r, l) => bif Pe l then some r else none
   | none => none
  | none => none) = some r → a.defers = [] ∧ ∃ v, (results fn a.tmps).run P w' = .ok v w' ∧ Ul (fun v w' => ∃ vs Fr, v = Pq vs ∧ Xn w w' (fun _ => False) ∧ Wb w' (fun b => O b ∨ b ∈ Fr) rt r fr vs Fr ∧ Fr.Nodup ∧ ∀ b ∈ Fr, w.heap.size ≤ b) (.returned v) w' := by
  intro hk
  split at hk
  ·rename_i d hd
   split at hk
   ·rename_i r' l hr
    simp only [Ea] at hk
    obtain ⟨hnd, hk⟩ := hk
    simp only [jc] at hk
    subst hk
    have hnd := Xf hnd
    obtain ⟨vs, hvs, hru⟩ := Tq hG.toEnvTy h hd
    obtain ⟨hR, hlive⟩ := Pz h hr hru
    refine ⟨h.df, _, Xr hvs, vs, Ba φ l, rfl, ⟨h.fr.size, fun b hb _ => h.fr.block b hb (fun h => h), h.fr.os, h.fr.tape, h.fr.output⟩, hR.mono ?_, Te h hnd hlive, ?_⟩
    ·rintro b (hb | hb)
     ·exact .inl hb
     ·obtain ⟨j, hj, hm'⟩ := Wa.1 hb
      obtain ⟨blk, hbj⟩ := hlive j hj
      exact .inr ⟨j, blk, hbj, hm'⟩
    ·intro b hb
     obtain ⟨j, hj, hm'⟩ := Wa.1 hb
     obtain ⟨blk, hbj⟩ := hlive j hj
     exact (h.fresh j blk hbj b hm').resolve_right (fun h => h)
   ·simp at hk
  ·simp at hk
 cases e with
 | normal => exact Tg hk
 | ret => exact Tg hk
 | exit j => simp at hk
end
theorem Au {φ : Nat → List Nat} : ∀ {L : List Nat}, (Ba φ L).Nodup → ∀ {i j b : Nat}, i ∈ L → j ∈ L → i ≠ j → b ∈ φ i → b ∉ φ j
 | [], _, _, _, _, h, _, _, _ => by simp at h
 | x :: L, hn, i, j, b, hi, hj, hne, hb => by
  intro hb'
  have hx : Ba φ (x :: L) = φ x ++ Ba φ L := by simp [Ba]
  rw [hx, List.nodup_append] at hn
  rcases jp.1 hi with e1 | q1
  ·rcases jp.1 hj with e2 | q2
   ·exact hne (e1.trans e2.symm)
   ·exact hn.2.2 b (e1 ▸ hb) b (Wa.2 ⟨j, q2, hb'⟩) rfl
  ·rcases jp.1 hj with e2 | q2
   ·exact hn.2.2 b (e2 ▸ hb') b (Wa.2 ⟨i, q1, hb⟩) rfl
   ·exact Au hn.2.1 q1 q2 hne hb hb'
section
variable {P : Program} {G : Jd} {L : List (Nat × Jb)} {I : Sh}
end
def It : (pt : Ty) → T pt → Nat → Nat → List (Nat × D) × List (Nat × Option Ga) × Nat
 | .p x y, v, t, n => match Oc x v.1 n with
  | (d, l, m) => match It y v.2 (t + 1) m with
   | (tm, l', m') => ((t, d) :: tm, l ++ l', m')
 | _, _, _, n => ([], [], n)
def IB (G : Jd) (L : List (Nat × Jb)) (fn : Func) (vw cv : Bool) (τ pt rt : Ty) (fr : List Bool) (x0 : T τ) (x : T pt) : Option (T τ × T rt) :=
 match fn.body with
 | some c => match (bif vw then (D.t τ x0, [], 400000) else Oc τ x0 400000) with
  | (d0, rows, m) => match (bif cv then It pt x 1 m else (Xk pt x 1, [], m)) with
   | (tm, rows2, m2) => bif jx m2 500000 then Uk G L c ⟨fn.ntmps, (0, .ptr 500000 []) :: tm, (500000, some (.box τ d0)) :: (rows ++ rows2)⟩ fun e s => match e with
    | .exit _ => none
    | _ => match s.heap 500000, Tm G s fn.results.toList with
     | some (.box τ' d1), some d => match Ty.dec τ' τ, (bif vw then (match Zf d1 τ with
      | some y => some (y, [])
      | none => none) else Cb s d1 τ), Ue s rt fr d with
      | some _, some (x', l0), some (r, l) => bif Pe (500000 :: (l0 ++ l)) then some (x', r) else none
      | _, _, _ => none
     | _, _ => none
    else none
 | none => none
theorem KA {w : World} : ∀ {pt : Ty} {x : T pt} {args : List Value} {F : List Nat}, Ud w pt x args F → args.length = pt.npar
 | .u, _, [], _, _ => rfl
 | .p x y, v, a :: r, F, h => by
  obtain ⟨cs, F1, F2, _, _, _, h⟩ := h
  simp [Ty.npar, KA h]
 | .u, _, _ :: _, _, h => by simp [Ud] at h
 | .p _ _, _, [], _, h => by simp [Ud] at h
 | .i _, _, l, _, h => by simp [Ud] at h
 | .b, _, l, _, h => by simp [Ud] at h
 | .o, _, l, _, h => by simp [Ud] at h
 | .s, _, l, _, h => by simp [Ud] at h
 | .sl _, _, l, _, h => by simp [Ud] at h
theorem Ud.lt {w : World} : ∀ {pt : Ty} {x : T pt} {args : List Value} {F : List Nat}, Ud w pt x args F → ∀ b, b ∈ F → b < w.heap.size
 | .u, _, [], F, h, b, hb => by simp only [Ud] at h; subst h; simp at hb
 | .p x y, v, a :: r, F, h, b, hb => by
  obtain ⟨cs, F1, F2, _, rfl, ho, h⟩ := h
  rcases jl.1 hb with hb | hb
  ·exact ho.lt b hb
  ·exact Ud.lt h b hb
 | .u, _, _ :: _, _, h, _, _ => by simp [Ud] at h
 | .p _ _, _, [], _, h, _, _ => by simp [Ud] at h
 | .i _, _, l, _, h, _, _ => by simp [Ud] at h
 | .b, _, l, _, h, _, _ => by simp [Ud] at h
 | .o, _, l, _, h, _, _ => by simp [Ud] at h
 | .s, _, l, _, h, _, _ => by simp [Ud] at h
 | .sl _, _, l, _, h, _, _ => by simp [Ud] at h
theorem OC {w : World} : ∀ {pt : Ty} {x : T pt} {args : List Value} {F : List Nat} {t n m : Nat} {tm : List (Nat × D)} {l : List (Nat × Option Ga)}, It pt x t n = (tm, l, m) → Ud w pt x args F →
 n ≤ m ∧ (∀ p, p ∈ l → n ≤ p.1 ∧ p.1 < m) ∧ ∃ (ψ : Nat → List Nat) (ν : Nat → Value), Ba ψ (l.map (·.1)) = F ∧ (∀ p, p ∈ l → ∃ e xs, p.2 = some (.row e true xs) ∧ Eb w (.sl e) xs [ν p.1] (ψ p.1)) ∧
  ∀ (hp' : Nat → Option Ga) (σ' : Nat → Value) (O' : Nat → Prop), (∀ p, p ∈ l → σ' p.1 = ν p.1) → ∀ t' d, Ua tm t' = some d → ∃ j v, t' = t + j ∧ args[j]? = some v ∧ Xb w O' hp' σ' d v
 | .u, x, [], F, t, n, m, tm, l, he, h => by
  simp only [It, jh] at he
  obtain ⟨rfl, rfl, rfl⟩ := he
  simp only [Ud] at h
  exact ⟨jo _, by simp, fun _ => [], fun _ => undef, by simp [Ba, h], by simp, fun _ _ _ _ t' d hd => by simp [Ua] at hd⟩
 | .p t1 t2, x, a :: r, F, t, n, m, tm, l, he, h => by
  obtain ⟨cs, F1, F2, ha, hF, ho, hr⟩ := h
  simp only [It] at he
  rcases ho1 : Oc t1 x.1 n with ⟨d1, l1, m1⟩
  rcases ho2 : It t2 x.2 (t + 1) m1 with ⟨tm2, l2, m2⟩
  rw [ho1] at he
  simp only at he
  rw [ho2] at he
  simp only [jh] at he
  obtain ⟨rfl, rfl, rfl⟩ := he
  obtain ⟨a1, a2, a3, ψ1, ν1, a4, a5, a6⟩ := Nl ho1 ho
  obtain ⟨b1, b2, ψ2, ν2, b4, b5, b6⟩ := OC ho2 hr
  refine ⟨by omega, ?_, fun id => if id < m1 then ψ1 id else ψ2 id, fun id => if id < m1 then ν1 id else ν2 id, ?_, ?_, ?_⟩
  ·intro p hp
   rcases jl.1 hp with hp | hp
   ·have := a2 p hp; omega
   ·have := b2 p hp; omega
  ·rw [List.map_append, Ic, hF, ← a4, ← b4]
   congr 1
   ·exact Ah fun id hid => by
     obtain ⟨p, hp, rfl⟩ := qj.1 hid
     rw [if_pos (a2 p hp).2]
   ·exact Ah fun id hid => by
     obtain ⟨p, hp, rfl⟩ := qj.1 hid
     rw [if_neg (by have := b2 p hp; omega)]
  ·intro p hp
   rcases jl.1 hp with hp | hp
   ·simp only [if_pos (a2 p hp).2]; exact a5 p hp
   ·have : ¬ p.1 < m1 := by have := b2 p hp; omega
    simp only [if_neg this]; exact b5 p hp
  ·intro hp' σ' O' hσ t' d hd
   rw [Rb] at hd
   split at hd
   ·rename_i e
    simp only [jc] at hd
    subst hd
    refine ⟨0, a, by omega, rfl, ?_⟩
    rw [ha]
    refine Ej a3 (a6 w hp' σ' O' fun p hp => ?_)
    have h1 := hσ p (List.mem_append_left _ hp)
    simp only [if_pos (a2 p hp).2] at h1
    exact h1
   ·obtain ⟨j, v, h1, h2, h3⟩ := b6 hp' σ' O' (fun p hp => by
     have h1 := hσ p (List.mem_append_right _ hp)
     have h2 : ¬ p.1 < m1 := by have := b2 p hp; omega
     simp only [if_neg h2] at h1
     exact h1) t' d hd
    exact ⟨j + 1, v, by omega, by simpa using h2, h3⟩
 | .u, _, _ :: _, _, _, _, _, _, _, _, h => by simp [Ud] at h
 | .p _ _, _, [], _, _, _, _, _, _, _, h => by simp [Ud] at h
 | .i _, _, l, _, _, _, _, _, _, _, h => by simp [Ud] at h
 | .b, _, l, _, _, _, _, _, _, _, h => by simp [Ud] at h
 | .o, _, l, _, _, _, _, _, _, _, h => by simp [Ud] at h
 | .s, _, l, _, _, _, _, _, _, _, h => by simp [Ud] at h
 | .sl _, _, l, _, _, _, _, _, _, _, h => by simp [Ud] at h
section
variable {P : Program} {G : Jd} {L : List (Nat × Jb)} {I : Sh}
theorem KK (hG : Fi P I G) (hfz : G.fz = false) (hm : P.follows .mixedOrders = true) {f : FuncId} {fn : Func} {c : Code} (hf : P.funcs[f]? = some fn) (hb : fn.body = some c) (hname : (fn.name == "runtime.NumGoroutine") = false)
 (hL : ∀ b, b ∈ Wc c → Bc G L b) {vw cv : Bool} {τ pt rt : Ty} {fr : List Bool} {F : T τ → T pt → Option (T τ × T rt)} (hn : pt.npar + 1 ≤ fn.ntmps) (hF : ∀ x0 x r, F x0 x = some r → IB G L fn vw cv τ pt rt fr x0 x = some r) :
 Sm P I f (.bx vw cv τ pt rt fr F) := by
 refine ⟨⟨fn, hf, hname, by rw [hb]; rfl⟩, ?_⟩
 intro O w x0 x r b cur et F0 F2 args hx hh hsz hcont hargs hnd hO hI hB hFB
 have he := hF x0 x r hx
 unfold IB at he
 rw [hb] at he
 simp only at he
 rcases hop : (bif vw then (D.t τ x0, [], 400000) else Oc τ x0 400000) with ⟨d0, rows, m⟩
 rw [hop] at he
 simp only at he
 rcases hop2 : (bif cv then It pt x 1 m else (Xk pt x 1, [], m)) with ⟨tm, rows2, m2⟩
 rw [hop2] at he
 simp only [Ea] at he
 obtain ⟨hm2, he⟩ := he
 have hm2 := Nat.le_of_ble_eq_true hm2
 have hlt : b < w.heap.size := (Array.getElem?_eq_some_iff.1 hh).1
 have k1 : 400000 ≤ m ∧ (∀ p, p ∈ rows → 400000 ≤ p.1 ∧ p.1 < m) ∧ Sa τ d0 ∧ (∀ c, c ∈ F0 → c < w.heap.size) ∧ ∃ (ψ : Nat → List Nat) (ν : Nat → Value), Ba ψ (rows.map (·.1)) = F0 ∧ (∀ p, p ∈ rows → ∃ e xs, p.2 = some (.row e true xs) ∧ Eb w (.sl e) xs [ν p.1] (ψ p.1)) ∧
  ∀ (hp' : Nat → Option Ga) (σ' : Nat → Value), (∀ p, p ∈ rows → σ' p.1 = ν p.1) → Pa w (fun c => O c ∨ c ∈ b :: (F0 ++ F2)) hp' σ' d0 cur.toList := by
  cases vw with
  | true =>
   simp only [cond_true, jh] at hop
   obtain ⟨rfl, rfl, rfl⟩ := hop
   simp only [if_true] at hcont
   obtain ⟨hv, rfl⟩ := hcont
   refine ⟨jo _, by simp, by simp [Sa], by simp, fun _ => [], fun _ => undef, by simp [Ba], by simp, fun hp' σ' _ => Oa.weaken (fun c hc => ?_) hv⟩
   rcases hc with hc | hc
   ·exact .inl hc
   ·rcases jp.1 hc with rfl | hc
    ·exact .inr (.inl rfl)
    ·exact .inr (.inr (by simpa using hc))
  | false =>
   simp only [cond_false] at hop
   simp only [jq, if_false] at hcont
   obtain ⟨a1, a2, a3, ψ1, ν1, a4, a5, a6⟩ := Nl hop hcont
   exact ⟨a1, a2, a3, fun c hc => hcont.lt c hc, ψ1, ν1, a4, a5, fun hp' σ' h => a6 w hp' σ' _ h⟩
 obtain ⟨hnm, hids, hsh, hF0lt, ψ1, ν1, hbl1, hrows1, hrep1⟩ := k1
 have k2 : m ≤ m2 ∧ (∀ p, p ∈ rows2 → m ≤ p.1 ∧ p.1 < m2) ∧ args.length = pt.npar ∧ (∀ c, c ∈ F2 → c < w.heap.size) ∧ ∃ (ψ : Nat → List Nat) (ν : Nat → Value), Ba ψ (rows2.map (·.1)) = F2 ∧ (∀ p, p ∈ rows2 → ∃ e xs, p.2 = some (.row e true xs) ∧ Eb w (.sl e) xs [ν p.1] (ψ p.1)) ∧
  ∀ (hp' : Nat → Option Ga) (σ' : Nat → Value), (∀ p, p ∈ rows2 → σ' p.1 = ν p.1) → ∀ t' d, Ua tm t' = some d → ∃ j v, t' = 1 + j ∧ args[j]? = some v ∧ Xb w (fun c => O c ∨ c ∈ b :: (F0 ++ F2)) hp' σ' d v := by
  cases cv with
  | true =>
   simp only [cond_true] at hop2
   simp only [if_true] at hargs
   obtain ⟨a1, a2, ψ2, ν2, a4, a5, a6⟩ := OC hop2 hargs
   exact ⟨a1, a2, KA hargs, hargs.lt, ψ2, ν2, a4, a5, fun hp' σ' h => a6 hp' σ' _ h⟩
  | false =>
   simp only [cond_false, jh] at hop2
   obtain ⟨rfl, rfl, rfl⟩ := hop2
   simp only [jq, if_false] at hargs
   obtain ⟨hv, rfl⟩ := hargs
   refine ⟨jo _, by simp, Pr hv, by simp, fun _ => [], fun _ => undef, by simp [Ba], by simp, fun hp' σ' _ t' d hd => ?_⟩
   have : (fun c => O c ∨ c ∈ b :: (F0 ++ [])) = (fun c => O c ∨ c = b ∨ c ∈ F0) := by
    funext c; simp
   rw [this]
   exact Ht hv hd
 obtain ⟨hmm, hids2, hlen, hF2lt, ψ2, ν2, hbl2, hrows2, hrep2⟩ := k2
 refine calls_of_wp hf hb ?_
 let ψ : Nat → List Nat := fun id => if id = 500000 then [b] else if id < m then ψ1 id else ψ2 id
 let ν : Nat → Value := fun id => if id = 500000 then .pointer (some ⟨b, 0, none⟩) else if id < m then ν1 id else ν2 id
 have hψ0 : ψ 500000 = [b] := if_pos rfl
 have hν0 : ν 500000 = .pointer (some ⟨b, 0, none⟩) := if_pos rfl
 have hψ1 : ∀ p, p ∈ rows → ψ p.1 = ψ1 p.1 ∧ ν p.1 = ν1 p.1 := fun p hp => by
  have h1 := hids p hp
  have h2 : ¬ p.1 = 500000 := by omega
  simp only [ψ, ν, if_neg h2, if_pos h1.2, and_self]
 have hψ2 : ∀ p, p ∈ rows2 → ψ p.1 = ψ2 p.1 ∧ ν p.1 = ν2 p.1 := fun p hp => by
  have h1 := hids2 p hp
  have h2 : ¬ p.1 = 500000 := by omega
  have h3 : ¬ p.1 < m := by omega
  simp only [ψ, ν, if_neg h2, if_neg h3, and_self]
 let s0 : AS := ⟨fn.ntmps, (0, .ptr 500000 []) :: tm, (500000, some (.box τ d0)) :: (rows ++ rows2)⟩
 have hbx : s0.heap 500000 = some (.box τ d0) := by simp [s0, AS.heap, Rb]
 have hmem : ∀ id blk, s0.heap id = some blk → (id = 500000 ∧ blk = .box τ d0) ∨ (id ≠ 500000 ∧ id ∈ (rows ++ rows2).map (·.1) ∧ ∃ e xs, blk = .row e true xs ∧ Eb w (.sl e) xs [ν id] (ψ id)) := by
  intro id blk hb
  by_cases hid : id = 500000
  ·subst hid
   rw [hbx] at hb
   simp only [jc] at hb
   exact .inl ⟨rfl, hb.symm⟩
  ·have hm := AS.heap_mem hb
   simp only [s0, jp, jh, hid, false_and, false_or] at hm
   refine .inr ⟨hid, List.mem_map_of_mem (f := (·.1)) hm, ?_⟩
   rcases jl.1 hm with hm | hm
   ·obtain ⟨e, xs, h1, h2⟩ := hrows1 _ hm
    simp only [jc] at h1
    exact ⟨e, xs, h1, by rw [(hψ1 _ hm).1, (hψ1 _ hm).2]; exact h2⟩
   ·obtain ⟨e, xs, h1, h2⟩ := hrows2 _ hm
    simp only [jc] at h1
    exact ⟨e, xs, h1, by rw [(hψ2 _ hm).1, (hψ2 _ hm).2]; exact h2⟩
 have hblr : Ba ψ ((rows ++ rows2).map (·.1)) = F0 ++ F2 := by
  rw [List.map_append, Ic, ← hbl1, ← hbl2]
  congr 1
  ·exact Ah fun id hid => by
    obtain ⟨p, hp, rfl⟩ := qj.1 hid
    exact (hψ1 p hp).1
  ·exact Ah fun id hid => by
    obtain ⟨p, hp, rfl⟩ := qj.1 hid
    exact (hψ2 p hp).1
 have hbl : Ba ψ (500000 :: (rows ++ rows2).map (·.1)) = b :: (F0 ++ F2) := by
  have : Ba ψ (500000 :: (rows ++ rows2).map (·.1)) = ψ 500000 ++ Ba ψ ((rows ++ rows2).map (·.1)) := by simp only [Ba, List.map_cons, List.flatten_cons]
  rw [this, hψ0, hblr]; rfl
 have hndB : (Ba ψ (500000 :: (rows ++ rows2).map (·.1))).Nodup := by rw [hbl]; exact hnd
 have hidin : ∀ id blk, s0.heap id = some blk → id ∈ 500000 :: (rows ++ rows2).map (·.1) := by
  intro id blk hb
  rcases hmem id blk hb with ⟨rfl, _⟩ | ⟨_, h, _⟩
  ·exact qm
  ·exact jr _ h
 let A : Fx := ⟨(· ∈ b :: (F0 ++ F2)), fun id => if id = 500000 then some (.pointer (some ⟨b, 0, none⟩)) else none, fun id v h => by
  split at h
  ·omega
  ·simp at h, I, hFB⟩
 have hOO : OO (fun c => O c ∨ c ∈ b :: (F0 ++ F2)) s0 ψ = (fun c => O c ∨ c ∈ b :: (F0 ++ F2)) := by
  funext c
  refine propext ⟨fun h => ?_, .inl⟩
  rcases h with h | ⟨id, blk, hb, hm⟩
  ·exact h
  ·refine .inr ?_
   rw [← hbl]
   exact Wa.2 ⟨id, hidin id blk hb, hm⟩
 have hc : Na w.heap.size A (fun c => O c ∨ c ∈ b :: (F0 ++ F2)) w s0 ν ψ { tmps := (.pointer (some ⟨b, 0, none⟩) :: args).toArray ++ Array.replicate (fn.ntmps - (Value.pointer (some ⟨b, 0, none⟩) :: args).toArray.size) undef, defers := [] } w := by
  refine ⟨?_, rfl, ?_, ?_, ?_, ?_, ?_, ?_, ⟨rfl, rfl, rfl, jo _, fun _ _ _ => rfl⟩, ?_, hB, hI⟩
  ·simp [s0]; omega
  ·intro t d hd
   rw [hOO]
   simp only [s0] at hd
   rw [Rb] at hd
   split at hd
   ·rename_i e
    subst e
    simp only [jc] at hd
    subst hd
    refine ⟨.pointer (some ⟨b, 0, none⟩), by rw [Array.getElem?_append_left (by simp)]; simp, ?_⟩
    rw [Dj]
    exact ⟨rfl, fun ρ d _ => ⟨b, hν0, by simp [Ta]⟩⟩
   ·obtain ⟨j, v, h1, h2, h3⟩ := hrep2 s0.heap ν (fun p hp => (hψ2 p hp).2) t d hd
    refine ⟨v, ?_, h3⟩
    have hj : j < args.length := (List.getElem?_eq_some_iff.1 h2).1
    have : t = j + 1 := by omega
    subst this
    rw [Array.getElem?_append_left (by simpa using hj)]
    simpa using h2
  ·intro id blk hb
   rw [hOO]
   rcases hmem id blk hb with ⟨rfl, rfl⟩ | ⟨_, _, e, xs, rfl, h2⟩
   ·exact ⟨hsh, b, cur, et, hν0, hh, hψ0, hrep1 _ _ fun p hp => (hψ1 p hp).2, hsz⟩
   ·exact h2
  ·intro id blk hb
   have hi := hidin id blk hb
   have : (ψ id).Sublist (Ba ψ (500000 :: (rows ++ rows2).map (·.1))) := by
    unfold Ba
    exact List.sublist_flatten_of_mem (List.mem_map_of_mem hi)
   exact this.nodup hndB
  ·intro id id' blk blk' hne hb hb' c hm
   exact Au hndB (hidin id blk hb) (hidin id' blk' hb') hne hm
  ·intro id blk hb c hm
   refine .inr ?_
   show c ∈ b :: (F0 ++ F2)
   rw [← hbl]
   exact Wa.2 ⟨id, hidin id blk hb, hm⟩
  ·rintro c (hc | hc)
   ·exact hO c hc
   ·rcases jp.1 hc with rfl | hc
    ·exact hlt
    ·rcases jl.1 hc with hc | hc
     ·exact hF0lt c hc
     ·exact hF2lt c hc
  ·intro id v hv
   simp only [A] at hv
   split at hv
   ·rename_i e
    subst e
    simp only [jc] at hv
    exact hν0.trans hv
   ·simp at hv
 refine YB (A := A) hG (fun h => by rw [hfz] at h; simp at h) hm c hL he hc ?_
 intro e s σ φ a w' hk h
 have Tg : (match s.heap 500000, Tm G s fn.results.toList with
  | some (.box τ' d1), some d => match Ty.dec τ' τ, (bif vw then (match Zf d1 τ with
   | some y => some (y, [])
   | none => none) else Cb s d1 τ), Ue s rt fr d with
   | some _, some (x', l0), some (r, l) => bif Pe (500000 :: (l0 ++ l)) then some (x', r) else none
   | _, _, _ => none
  | _, _ => none) = some r → a.defers = [] ∧ ∃ v, (results fn a.tmps).run P w' = .ok v w' ∧ Ul (fun v w' => ∃ vs cur' et' F1 Fr, v = Pq vs ∧ Xn w w' (· ∈ b :: (F0 ++ F2)) ∧ w'.heap[b]? = some (.cells cur' et' (0, 0)) ∧ cur'.size = τ.size ∧
  (if vw then Oa w' (fun c => O c ∨ c ∈ b :: (F0 ++ F2) ∨ c ∈ Fr) τ r.1 cur'.toList ∧ F1 = [] else Eb w' τ r.1 cur'.toList F1) ∧
  Wb w' (fun c => O c ∨ c ∈ b :: (F0 ++ F2) ∨ c ∈ F1 ∨ c ∈ Fr) rt r.2 fr vs Fr ∧ (b :: (F1 ++ Fr)).Nodup ∧ ∀ c ∈ F1 ++ Fr, w.heap.size ≤ c ∨ c ∈ F0 ++ F2) (.returned v) w' := by
  intro hk
  split at hk
  ·rename_i τ' d1 d hbx' hd
   split at hk
   ·rename_i q x' l0 r' l hq hx' hr
    obtain rfl := Zc hq
    simp only [Ea] at hk
    obtain ⟨hnd', hk⟩ := hk
    simp only [jc] at hk
    subst hk
    have hnd' := Xf hnd'
    obtain ⟨hsh', b', cur', et', hσ', hh', hF', hr0, hsz'⟩ := h.hp 500000 _ hbx'
    have hpin : σ 500000 = .pointer (some ⟨b, 0, none⟩) := h.pin 500000 _ (show (if (500000 : Nat) = 500000 then some (Value.pointer (some ⟨b, 0, none⟩)) else none) = _ from if_pos rfl)
    rw [hpin] at hσ'
    simp only [Value.pointer.injEq, jc, Addr.mk.injEq, and_true] at hσ'
    subst hσ'
    have hkl : (∀ j, j ∈ l0 → ∃ blk, s.heap j = some blk) ∧ (if vw then Oa w' (OO (fun c => O c ∨ c ∈ b :: (F0 ++ F2)) s φ) τ' x' cur'.toList ∧ l0 = [] else Eb w' τ' x' cur'.toList (Ba φ l0)) := by
     cases vw with
     | true =>
      simp only [cond_true] at hx'
      split at hx'
      ·rename_i y hy
       simp only [jc, jh] at hx'
       obtain ⟨rfl, rfl⟩ := hx'
       exact ⟨by simp, by simp only [if_true]; exact ⟨(Ve hy).2 _ hr0, trivial⟩⟩
      ·simp at hx'
     | false =>
      simp only [cond_false] at hx'
      obtain ⟨g1, g2⟩ := Qi h hx' hr0
      exact ⟨g2, by simpa using g1⟩
    obtain ⟨hlive0, hx1⟩ := hkl
    obtain ⟨vs, hvs, hru⟩ := Tq hG.toEnvTy h hd
    obtain ⟨hR, hlive⟩ := Pz h hr hru
    have hall : ∀ j, j ∈ 500000 :: (l0 ++ l) → ∃ blk, s.heap j = some blk := by
     intro j hj
     rcases jp.1 hj with rfl | hj
     ·exact ⟨_, hbx'⟩
     ·rcases jl.1 hj with hj | hj
      ·exact hlive0 j hj
      ·exact hlive j hj
    have hbk : Ba φ (500000 :: (l0 ++ l)) = b :: (Ba φ l0 ++ Ba φ l) := by
     have : Ba φ (500000 :: (l0 ++ l)) = φ 500000 ++ Ba φ (l0 ++ l) := by simp only [Ba, List.map_cons, List.flatten_cons]
     rw [this, hF', Ic]; rfl
    have hbn := Te h hnd' hall
    rw [hbk] at hbn
    have hinOO : ∀ c, c ∈ Ba φ l0 ++ Ba φ l → OO (fun c => O c ∨ c ∈ b :: (F0 ++ F2)) s φ c := by
     intro c hc
     rw [← Ic] at hc
     obtain ⟨j, hj, hm'⟩ := Wa.1 hc
     obtain ⟨blk, hbj⟩ := hall j (jr _ hj)
     exact .inr ⟨j, blk, hbj, hm'⟩
    refine ⟨h.df, _, Xr hvs, vs, cur', et', Ba φ l0, Ba φ l, rfl, ⟨h.fr.size, fun c hc hno => h.fr.block c hc hno, h.fr.os, h.fr.tape, h.fr.output⟩, hh', hsz', ?_, hR.mono ?_, hbn, ?_⟩
    ·cases vw with
     | true =>
      simp only [if_true] at hx1 ⊢
      refine ⟨hx1.1.weaken ?_, by rw [hx1.2]; simp [Ba]⟩
      rintro c (hc | hc | hc)
      ·exact .inl (.inl hc)
      ·exact .inl (.inr hc)
      ·exact hinOO c (List.mem_append_right _ hc)
     | false => simpa using hx1
    ·rintro c (hc | hc | hc | hc)
     ·exact .inl (.inl hc)
     ·exact .inl (.inr hc)
     ·exact hinOO c (List.mem_append_left _ hc)
     ·exact hinOO c (List.mem_append_right _ hc)
    ·intro c hcm
     have hcb : c ≠ b := by
      rintro rfl
      exact (List.nodup_cons.1 hbn).1 hcm
     rw [← Ic] at hcm
     obtain ⟨j, hj, hm'⟩ := Wa.1 hcm
     obtain ⟨blk, hbj⟩ := hall j (jr _ hj)
     rcases h.fresh j blk hbj c hm' with h1 | h1
     ·exact .inl h1
     ·have h1 : c ∈ b :: (F0 ++ F2) := h1
      rcases jp.1 h1 with h1 | h1
      ·exact absurd h1 hcb
      ·exact .inr h1
   ·simp at hk
  ·simp at hk
 cases e with
 | normal => exact Tg hk
 | ret => exact Tg hk
 | exit j => simp at hk
def JB (G : Jd) (L : List (Nat × Jb)) (fn : Func) (pt τ : Ty) (x : T pt) : Option (T τ) :=
 match fn.body with
 | some c => Uk G L c ⟨fn.ntmps, Xk pt x 0, []⟩ fun e s => match e with
  | .exit _ => none
  | _ => match Tm G s fn.results.toList with
   | some (.pr (.ptr id []) .un) => match s.heap id with
    | some (.box τ' d) => match Ty.dec τ' τ, Zf d τ with
     | some _, some y => some y
     | _, _ => none
    | _ => none
   | _ => none
 | none => none
theorem LK (hG : Fi P I G) (hm : P.follows .mixedOrders = true) {f : FuncId} {fn : Func} {c : Code} (hf : P.funcs[f]? = some fn) (hb : fn.body = some c) (hname : (fn.name == "runtime.NumGoroutine") = false)
 (hL : ∀ b, b ∈ Wc c → Bc G L b) {pt τ : Ty} {F : T pt → Option (T τ)} (hn : pt.npar ≤ fn.ntmps) (hF : ∀ x r, F x = some r → JB G L fn pt τ x = some r) : Sm P I f (.nw pt τ F) := by
 refine ⟨⟨fn, hf, hname, by rw [hb]; rfl⟩, ?_⟩
 intro O w x r args hx hargs hO hI hB
 have he := hF x r hx
 unfold JB at he
 rw [hb] at he
 simp only at he
 refine calls_of_wp hf hb ?_
 have hlen := Pr hargs
 have hc : Na w.heap.size (Lz I) O w ⟨fn.ntmps, Xk pt x 0, []⟩ (fun _ => undef) (fun _ => []) { tmps := args.toArray ++ Array.replicate (fn.ntmps - args.toArray.size) undef, defers := [] } w := by
  have hh : ∀ id, AS.heap ⟨fn.ntmps, Xk pt x 0, []⟩ id = none := fun id => rfl
  refine ⟨?_, rfl, ?_, ?_, ?_, ?_, ?_, hO, ⟨rfl, rfl, rfl, jo _, fun _ _ _ => rfl⟩, ?_, hB, hI⟩
  ·simp; omega
  ·intro t d hd
   have hOO : OO O ⟨fn.ntmps, Xk pt x 0, []⟩ (fun _ => []) = O := by
    funext b
    simp [OO, hh]
   rw [hOO]
   obtain ⟨j, v, h1, h2, h3⟩ := Ht hargs hd
   refine ⟨v, ?_, h3⟩
   have hj : j < args.length := (List.getElem?_eq_some_iff.1 h2).1
   have : t = j := by omega
   subst this
   rw [Array.getElem?_append_left (by simpa using hj)]
   simpa using h2
  ·intro id blk hb; rw [hh] at hb; simp at hb
  ·intro id blk hb; rw [hh] at hb; simp at hb
  ·intro id id' blk blk' _ hb; rw [hh] at hb; simp at hb
  ·intro id blk hb; rw [hh] at hb; simp at hb
  ·intro id v hv; simp [Lz] at hv
 refine YB (A := Lz I) hG (fun _ _ h => h) hm c hL he hc ?_
 intro e s σ φ a w' hk h
 have Tg : (match Tm G s fn.results.toList with
  | some (.pr (.ptr id []) .un) => match s.heap id with
   | some (.box τ' d) => match Ty.dec τ' τ, Zf d τ with
    | some _, some y => some y
    | _, _ => none
   | _ => none
  | _ => none) = some r → a.defers = [] ∧ ∃ v, (results fn a.tmps).run P w' = .ok v w' ∧ Ul (fun v w' => ∃ b cur et, v = .pointer (some ⟨b, 0, none⟩) ∧ Xn w w' (fun _ => False) ∧ w.heap.size ≤ b ∧ w'.heap[b]? = some (.cells cur et (0, 0)) ∧ cur.size = τ.size ∧ Oa w' (fun c => O c ∨ c = b) τ r cur.toList) (.returned v) w' := by
  intro hk
  split at hk
  ·rename_i id hd
   split at hk
   ·rename_i τ' d hbx
    split at hk
    ·rename_i q y hq hy
     obtain rfl := Zc hq
     simp only [jc] at hk
     subst hk
     obtain ⟨vs, hvs, hru⟩ := Tq hG.toEnvTy h hd
     cases vs with
     | nil => simp [RU] at hru
     | cons v vs =>
      obtain ⟨h1, h2⟩ := hru
      cases vs with
      | cons _ _ => simp [RU] at h2
      | nil =>
       obtain ⟨_, b, cur, et, hσ, hh, hφ, hr0, hsz⟩ := h.hp id _ hbx
       rw [Dj] at h1
       obtain ⟨b', hσ', hv⟩ := h1.2 _ _ hbx
       rw [hσ] at hσ'
       simp only [Value.pointer.injEq, jc, Addr.mk.injEq, and_true] at hσ'
       subst hσ'
       have hmem : b ∈ φ id := by rw [hφ]; simp
       refine ⟨h.df, _, Xr hvs, b, cur, et, by simp only [Pq, hv, Ta], ⟨h.fr.size, fun b hb _ => h.fr.block b hb (fun h => h), h.fr.os, h.fr.tape, h.fr.output⟩, (h.fresh id _ hbx b hmem).resolve_right (fun h => h), hh, hsz, ?_⟩
       refine Oa.weaken ?_ ((Ve hy).2 _ hr0)
       rintro c (hc | rfl)
       ·exact .inl hc
       ·exact .inr ⟨id, _, hbx, hmem⟩
    ·simp at hk
   ·simp at hk
  ·simp at hk
 cases e with
 | normal => exact Tg hk
 | ret => exact Tg hk
 | exit j => simp at hk
end
open Go Go.WideShapes
def Mx : (τ : Ty) → T τ → Prop
 | .i k, n => k.has n
 | .b, _ => True
 | .o, _ => True
 | .s, x => ja x ≤ Hh
 | .sl e, xs => ja xs ≤ Hh ∧ ∀ i (h : i < ja xs), Mx e (List.get xs ⟨i, h⟩)
 | .u, _ => True
 | .p x y, v => Mx x v.1 ∧ Mx y v.2
def Ty.pos : Ty → Bool
 | .sl e => e.pos && Nat.blt 0 e.size
 | .p x y => x.pos && y.pos
 | .o => false
 | _ => true
section
variable {H : Type} {enc : TypeId × Value → H} {P : Program} {w : World} {base : Nat} {spare : Nat → Bool} {held : Bool}
theorem Aj {τ : Ty} {t : TypeId} (h : Lc P τ t = true) : P.cellsOf t = τ.size := by
 obtain ⟨i, h1, h2, _⟩ := Tok.size h
 simp [Program.cellsOf, h1, h2]
theorem IL {k : IntKind} {n : Int} (h : (Lit.int k n).wf = true) : k.has n := by
 simpa [Lit.wf, IntKind.has] using h
theorem UM {a : Addr} {n : Nat} (h : n ≠ 0) : a.add n = ⟨a.block, a.off + n, none⟩ := by
 simp [Addr.add, h]
theorem Du {a : Addr} {n : Nat} {cs : List Value} (h : w.cells? base a n = some cs) (hn : 0 < n) :
 ∃ cur et fr, a = ⟨a.block, a.off, none⟩ ∧ w.heap[a.block]? = some (.cells cur et fr) ∧ a.off + n ≤ cur.size ∧ cs = Jc cur a.off n := by
 unfold World.cells? at h
 split at h
 ·have hlen : cs.length = n := by simpa using mapM_some_length h
  have hget : ∀ i, i < n → w.cell? (a.add i) = cs[i]? := fun i hi => mapM_some_get h i i (by simp [hi])
  have h0 := hget 0 hn
  have ha : a.add 0 = a := by simp [Addr.add]
  rw [ha] at h0
  have hc0 : cs[0]? = some (cs[0]'(by omega)) := je (by omega)
  rw [hc0] at h0
  unfold World.cell? at h0
  split at h0
  ·rename_i cur et fr hb
   have hsp : a.spot = none := by
    cases hs : a.spot with
    | none => rfl
    | some x => simp [hs] at h0
   have hcell : ∀ i, i < n → cur[a.off + i]? = cs[i]? := by
    intro i hi
    have := hget i hi
    by_cases hi0 : i = 0
    ·subst hi0
     rw [ha] at this
     unfold World.cell? at this
     rw [hb] at this
     simpa [hsp] using this
    ·rw [UM hi0] at this
     unfold World.cell? at this
     simp only at this
     rw [hb] at this
     simpa using this
   refine ⟨cur, et, fr, by cases a; simp_all, hb, ?_, ?_⟩
   ·have h1 := hcell (n - 1) (by omega)
    rw [je (by omega)] at h1
    have := (Array.getElem?_eq_some_iff.1 h1).1
    omega
   ·apply List.ext_getElem?
    intro i
    by_cases hi : i < n
    ·rw [Md _ _ _ _ hi, hcell i hi]
    ·rw [List.getElem?_eq_none (by omega), List.getElem?_eq_none]
     simp [Jc]; omega
  ·simp at h0
 ·simp at h
theorem FL {fs : List Field} {o : Nat} (h : Vd P .u fs o = true) : fs = [] := by
 cases fs <;> simp_all [Vd]
theorem CC {x y : Ty} {fs : List Field} {o : Nat} (h : Vd P (.p x y) fs o = true) : ∃ f r, fs = f :: r ∧ f.offset = o ∧ Lc P x f.type = true ∧ Vd P y r (o + x.size) = true := by
 cases fs with
 | nil => simp [Vd] at h
 | cons f r =>
  simp only [Vd, jd] at h
  exact ⟨f, r, rfl, ju h.1.1.1, h.1.2, h.2⟩
theorem KB {x y : Ty} {t : TypeId} (h : Lc P (.p x y) t = true) : ∃ fs, P.underlying t = some (.struct fs) ∧ Vd P (.p x y) fs.toList 0 = true := by
 simp only [Lc, jd] at h
 obtain ⟨_, h⟩ := h
 split at h
 ·rename_i fs hfs
  refine ⟨fs, hfs, ?_⟩
  split at h
  ·rename_i f r hr
   rw [hr]
   simpa [Vd] using h
  ·simp at h
 ·simp at h
theorem LB {t : TypeId} (h : Lc P .u t = true) : ∃ fs, P.underlying t = some (.struct fs) ∧ fs.size = 0 := by
 simp only [Lc, jd] at h
 obtain ⟨_, h⟩ := h
 split at h
 ·rename_i fs hfs
  exact ⟨fs, hfs, ju h⟩
 ·simp at h
mutual
theorem Ev (hO : ∀ b, ¬ (fun _ : Nat => False) b) : ∀ (τ : Ty) (t : TypeId) (n : Nat) (cs : List Value) (x : DataW H × List MemPlace), Lc P τ t = true → τ.pos = true →
 DataW.trod enc P w base spare held n t cs = some x → ∃ y : T τ, Oa w (fun _ => False) τ y cs ∧ Mx τ y
 | .i k, t, n, cs, x, ht, _, h => by
  obtain ⟨m, h1, _, h2⟩ := DataW.trod_int (Tok.i ht) h
  exact ⟨m, h1, IL h2⟩
 | .b, t, n, cs, x, ht, _, h => by
  obtain ⟨m, h1, _⟩ := DataW.trod_bool (Tok.b ht) h
  exact ⟨m, h1, trivial⟩
 | .o, t, n, cs, x, ht, hp, h => by simp [Ty.pos] at hp
 | .s, t, n, cs, x, ht, _, h => by
  obtain ⟨m, h1, _, h2⟩ := DataW.trod_string (Tok.s ht) h
  refine ⟨m.data.toList, ?_, ?_⟩
  ·show cs = [.string ⟨List.toArray m.data.toList⟩]
   rw [h1]
  ·show m.data.toList.length ≤ Hh
   have : m.size = m.data.toList.length := Array.length_toList.symm
   unfold maxLen at h2
   unfold Hh
   omega
 | .sl e, t, n, cs, x, ht, hp, h => by
  obtain ⟨et, hu, he⟩ := Tok.sl ht
  simp only [Ty.pos, jd] at hp
  have hpos : 0 < e.size := by simpa using hp.2
  rcases DataW.trod_slice hu h with ⟨h1, _⟩ | ⟨a, len, cap, elems, rest, m, _, h1, _, _, h2, h3, h4, h5, _, _⟩
  ·exact ⟨([] : List (T e)), ⟨none, 0, h1, jo _, Nat.zero_le _, .inl rfl⟩, ⟨Nat.zero_le _, fun i hi => absurd hi (Nat.not_lt_zero i)⟩⟩
  ·rw [Aj he] at h5
   have hone : ∀ i, i < len → ∃ y : T e, ∃ cs', w.cells? base (a.add (i * e.size)) e.size = some cs' ∧ Oa w (fun _ => False) e y cs' ∧ Mx e y := by
    intro i hi
    have := h5 i hi
    rw [je (by omega), qd] at this
    obtain ⟨cs', hc, hy⟩ := this
    obtain ⟨y, hv, hr⟩ := Ev hO e et m cs' _ he hp.1 hy
    exact ⟨y, cs', hc, hv, hr⟩
   let ys : List (T e) := List.ofFn fun i : Fin len => Classical.choose (hone i.1 i.2)
   have hlen : ys.length = len := by simp [ys]
   have hy : ∀ i (h : i < ys.length), ∃ cs', w.cells? base (a.add (i * e.size)) e.size = some cs' ∧ Oa w (fun _ => False) e (ys.get ⟨i, h⟩) cs' ∧ Mx e (ys.get ⟨i, h⟩) := by
    intro i hi
    have := Classical.choose_spec (hone i (by omega))
    simpa [ys] using this
   have hmax : len ≤ Hh := by unfold maxLen at h3; unfold Hh; omega
   refine ⟨ys, ⟨some a, cap, by rw [h1, hlen], by rw [hlen]; exact h2, by rw [hlen]; exact hmax, ?_⟩, by rw [hlen]; exact hmax, fun i hi => (hy i hi).choose_spec.2.2⟩
   by_cases hl0 : len = 0
   ·left
    exact List.eq_nil_of_length_eq_zero (by omega)
   ·right
    obtain ⟨cs0, hc0, _⟩ := hy 0 (by omega)
    have ha0 : a.add (0 * e.size) = a := by simp [Addr.add]
    rw [ha0] at hc0
    obtain ⟨cur, et', fr, ha, hb, _, _⟩ := Du hc0 hpos
    have hadd : ∀ i, (a.add (i * e.size)).block = a.block ∧ (a.add (i * e.size)).off = a.off + i * e.size := by
     intro i
     unfold Addr.add
     split
     ·rename_i hz; simp [hz]
     ·exact ⟨rfl, rfl⟩
    refine ⟨a.block, a.off, cur, et', fr, by rw [← ha], fun h => h, hb, ?_, ?_⟩
    ·obtain ⟨cs1, hc1, _⟩ := hy (len - 1) (by omega)
     obtain ⟨cur1, et1, fr1, _, hb1, hs1, _⟩ := Du hc1 hpos
     rw [(hadd _).1, hb] at hb1
     simp only [jc, Obj.cells.injEq] at hb1
     rw [(hadd _).2, ← hb1.1] at hs1
     have : len * e.size = (len - 1) * e.size + e.size := by
      rw [← Nat.succ_mul]; congr 1; omega
     show a.off + ys.length * e.size ≤ cur.size
     rw [hlen]
     omega
    ·intro i hi
     obtain ⟨cs1, hc1, hv, _⟩ := hy i hi
     obtain ⟨cur1, et1, fr1, _, hb1, _, hs1⟩ := Du hc1 hpos
     rw [(hadd _).1, hb] at hb1
     simp only [jc, Obj.cells.injEq] at hb1
     rw [(hadd _).2, ← hb1.1] at hs1
     rw [← hs1]
     exact hv
 | .u, t, n, cs, x, ht, _, h => by
  obtain ⟨fs, hu, hz⟩ := LB ht
  obtain ⟨xs, m, _, _, hl, _⟩ := DataW.trod_struct hu h
  rw [Aj ht] at hl
  exact ⟨(), List.eq_nil_of_length_eq_zero hl, trivial⟩
 | .p a c2, t, n, cs, x, ht, hp, h => by
  obtain ⟨fs, hu, hf⟩ := KB ht
  obtain ⟨xs, m, _, _, hl, _, hget⟩ := DataW.trod_struct hu h
  rw [Aj ht] at hl
  have := Xv hO (.p a c2) fs.toList 0 m cs hf hp (by simpa using hl) (by
   intro i f hi
   have := hget i f (by simpa using hi)
   have hlt : i < xs.length := by
    have : i < fs.toList.length := (List.getElem?_eq_some_iff.1 hi).1
    simp at this; omega
   exact ⟨_, this.trans (je hlt)⟩)
  simpa using this
termination_by τ => (sizeOf τ, 1)
theorem Xv (hO : ∀ b, ¬ (fun _ : Nat => False) b) : ∀ (τ : Ty) (fs : List Field) (o m : Nat) (cs : List Value), Vd P τ fs o = true → τ.pos = true → cs.length = o + τ.size →
 (∀ (i : Nat) (f : Field), fs[i]? = some f → ∃ x, DataW.trod enc P w base spare held m f.type ((cs.drop f.offset).take (P.cellsOf f.type)) = some x) →
 ∃ y : T τ, Oa w (fun _ => False) τ y (cs.drop o) ∧ Mx τ y
 | .p a c2, fs, o, m, cs, hf, hp, hl, hx => by
  obtain ⟨f, r, rfl, ho, ht, hr⟩ := CC hf
  simp only [Ty.pos, jd] at hp
  simp only [Ty.size] at hl
  obtain ⟨z, hz⟩ := hx 0 f rfl
  rw [Aj ht, ho] at hz
  obtain ⟨y1, hv1, hr1⟩ := Ev hO a f.type m _ z ht hp.1 hz
  obtain ⟨y2, hv2, hr2⟩ := Xv hO c2 r (o + a.size) m cs hr hp.2 (by omega) (fun i f' hi => hx (i + 1) f' (by simpa using hi))
  refine ⟨(y1, y2), ⟨(cs.drop o).take a.size, cs.drop (o + a.size), ?_, hv1, hv2⟩, hr1, hr2⟩
  rw [← List.drop_drop, List.take_append_drop]
 | .u, fs, o, m, cs, _, _, hl, _ => ⟨(), by simp only [Oa, Ty.size] at hl ⊢; exact List.drop_of_length_le (by omega), trivial⟩
 | .i _, fs, o, m, cs, hf, _, _, _ => by simp [Vd] at hf
 | .b, fs, o, m, cs, hf, _, _, _ => by simp [Vd] at hf
 | .o, fs, o, m, cs, hf, _, _, _ => by simp [Vd] at hf
 | .s, fs, o, m, cs, hf, _, _, _ => by simp [Vd] at hf
 | .sl _, fs, o, m, cs, hf, _, _, _ => by simp [Vd] at hf
termination_by τ => (sizeOf τ, 0)
end
end
open Go Go.WideShapes Go.ChangeShapes
def Qh (P : Program) : Ty → List TypeId → Bool
 | .p x y, t :: ts => Lc P x t && x.pos && Qh P y ts
 | .u, [] => true
 | _, _ => false
section
variable {H : Type} {enc : TypeId × Value → H} {P : Program} {w : World} {base : Nat} {spare : Nat → Bool} {held : Bool}
theorem HG {τ : Ty} {t : TypeId} {v : Value} {r : Reach} {b0 : Nat} (ht : Lc P τ t = true) (h : Value.okWide P w r b0 t v) : v = Hc τ v.cells.toList := by
 have key : ∀ {τ : Ty}, τ.isAgg = false → v.cells = #[v] → v = Hc τ v.cells.toList := by
  intro τ h1 h2
  rw [h2]; simp [Hc, h1]
 cases τ with
 | i k =>
  obtain ⟨n, rfl⟩ := okWide_int (Tok.i ht) h
  exact key rfl rfl
 | b =>
  obtain ⟨n, rfl⟩ := okWide_bool (Tok.b ht) h
  exact key rfl rfl
 | o =>
  refine key rfl ?_
  obtain ⟨et, hu⟩ := Tok.o ht
  unfold Value.okWide at h
  rw [hu] at h
  cases v with
  | agg cs => simp [Cell.okWide, Cell.ok, hu] at h
  | _ => rfl
 | s =>
  refine key rfl ?_
  have hu := Tok.s ht
  unfold Value.okWide at h
  rw [hu] at h
  cases v with
  | agg cs => simp [Cell.okWide, Cell.ok, hu] at h
  | _ => rfl
 | sl e =>
  refine key rfl ?_
  obtain ⟨et, hu, _⟩ := Tok.sl ht
  unfold Value.okWide at h
  rw [hu] at h
  cases v with
  | agg cs => simp [Cell.okWide, Cell.ok, hu] at h
  | _ => rfl
 | u =>
  obtain ⟨fs, hu, _⟩ := LB ht
  obtain ⟨cs, rfl, _⟩ := okWide_struct hu h
  simp [Hc, Ty.isAgg, Value.cells]
 | p x y =>
  obtain ⟨fs, hu, _⟩ := KB ht
  obtain ⟨cs, rfl, _⟩ := okWide_struct hu h
  simp [Hc, Ty.isAgg, Value.cells]
theorem Dv : ∀ {pt : Ty} {ts : List TypeId} {vs : List Value} {ds : List (DataW H)} {ps : List MemPlace}, Qh P pt ts = true → DataW.TrodAll enc P w 0 spare held ts vs ds ps →
 (∀ (j : Nat) t v, ts[j]? = some t → vs[j]? = some v → Value.okWide P w .any base t v) → ∃ x : T pt, Re w (fun _ => False) pt x vs ∧ Mx pt x
 | .p x y, t :: ts, v :: vs, d :: ds, ps, hp, h, hv => by
  simp only [Qh, jd] at hp
  obtain ⟨p, q, ⟨n, h1⟩, h2, _⟩ := h
  obtain ⟨a, ha, hra⟩ := Ev (fun _ h => h) x t n _ _ hp.1.1 hp.1.2 h1
  obtain ⟨b, hb, hrb⟩ := Dv hp.2 h2 fun j t' v' h1 h2 => hv (j + 1) t' v' (by simpa using h1) (by simpa using h2)
  exact ⟨(a, b), ⟨⟨_, HG hp.1.1 (hv 0 t v rfl rfl), ha⟩, hb⟩, hra, hrb⟩
 | .u, [], [], [], _, _, _, _ => ⟨(), trivial, trivial⟩
 | .p _ _, [], _, _, _, hp, _, _ => by simp [Qh] at hp
 | .u, _ :: _, _, _, _, hp, _, _ => by simp [Qh] at hp
 | .i _, _, _, _, _, hp, _, _ => by simp [Qh] at hp
 | .b, _, _, _, _, hp, _, _ => by simp [Qh] at hp
 | .o, _, _, _, _, hp, _, _ => by simp [Qh] at hp
 | .s, _, _, _, _, hp, _, _ => by simp [Qh] at hp
 | .sl _, _, _, _, _, hp, _, _ => by simp [Qh] at hp
 | .p _ _, _ :: _, [], _, _, _, h, _ => by simp [DataW.TrodAll] at h
 | .p _ _, _ :: _, _ :: _, [], _, _, h, _ => by simp [DataW.TrodAll] at h
 | .u, [], _ :: _, _, _, _, h, _ => by simp [DataW.TrodAll] at h
 | .u, [], [], _ :: _, _, _, h, _ => by simp [DataW.TrodAll] at h
def Gv (P : Program) (t : TypeId) : Prop := ∃ τ : Ty, Lc P τ t = true ∧ τ.pos = true
theorem DC : ∀ {τ : Ty} {fs : List Field} {o : Nat}, Vd P τ fs o = true → τ.pos = true →
 (∀ f ∈ fs, Gv P f.type) ∧ τ.size = (fs.map fun f => P.cellsOf f.type).sum ∧ ∀ (j : Nat) f, fs[j]? = some f → f.offset = o + ((fs.take j).map fun f => P.cellsOf f.type).sum
 | .u, fs, o, h, _ => by
  rw [FL h]
  simp [Ty.size]
 | .p x y, fs, o, h, hp => by
  obtain ⟨f, r, rfl, ho, ht, hr⟩ := CC h
  simp only [Ty.pos, jd] at hp
  obtain ⟨h1, h2, h3⟩ := DC hr hp.2
  refine ⟨?_, ?_, ?_⟩
  ·intro g hg
   rcases jp.1 hg with rfl | hg
   ·exact ⟨x, ht, hp.1⟩
   ·exact h1 g hg
  ·simp [Ty.size, Aj ht, h2]
  ·intro j g hj
   cases j with
   | zero => simp at hj; subst hj; simp [ho]
   | succ j =>
    have := h3 j g (by simpa using hj)
    simp [this, Aj ht, jt]
 | .i _, fs, o, h, _ => by simp [Vd] at h
 | .b, fs, o, h, _ => by simp [Vd] at h
 | .o, fs, o, h, _ => by simp [Vd] at h
 | .s, fs, o, h, _ => by simp [Vd] at h
 | .sl _, fs, o, h, _ => by simp [Vd] at h
theorem Ep {t : TypeId} {u : TypeDesc} (h : Gv P t) (hu : P.underlying t = some u) : (∃ k, u = .int k) ∨ u = .bool ∨ u = .string ∨ (∃ e, u = .slice e ∧ Gv P e ∧ 0 < P.cellsOf e) ∨ ∃ fs, u = .struct fs := by
 obtain ⟨τ, ht, hp⟩ := h
 cases τ with
 | i k => rw [Tok.i ht] at hu; exact .inl ⟨k, (Option.some.inj hu).symm⟩
 | b => rw [Tok.b ht] at hu; exact .inr (.inl (Option.some.inj hu).symm)
 | o => simp [Ty.pos] at hp
 | s => rw [Tok.s ht] at hu; exact .inr (.inr (.inl (Option.some.inj hu).symm))
 | sl e =>
  obtain ⟨et, h1, h2⟩ := Tok.sl ht
  rw [h1] at hu
  simp only [Ty.pos, jd] at hp
  exact .inr (.inr (.inr (.inl ⟨et, (Option.some.inj hu).symm, ⟨e, h2, hp.1⟩, by rw [Aj h2]; simpa using hp.2⟩)))
 | u => obtain ⟨fs, h1, _⟩ := LB ht; rw [h1] at hu; exact .inr (.inr (.inr (.inr ⟨fs, (Option.some.inj hu).symm⟩)))
 | p x y => obtain ⟨fs, h1, _⟩ := KB ht; rw [h1] at hu; exact .inr (.inr (.inr (.inr ⟨fs, (Option.some.inj hu).symm⟩)))
theorem DF : Kids P (Gv P) := by
 refine ⟨?_, ?_, ?_, ?_, ?_⟩
 ·intro t e ht hu
  rcases Ep ht hu with ⟨k, h⟩ | h | h | ⟨e', h, _⟩ | ⟨fs, h⟩ <;> simp at h
 ·intro t e ht hu
  rcases Ep ht hu with ⟨k, h⟩ | h | h | ⟨e', h, h2, _⟩ | ⟨fs, h⟩ <;> simp at h
  rw [h]; exact h2
 ·intro t e n ht hu
  rcases Ep ht hu with ⟨k, h⟩ | h | h | ⟨e', h, _⟩ | ⟨fs, h⟩ <;> simp at h
 ·intro t fs ht hu
  obtain ⟨τ, ht, hp⟩ := ht
  cases τ with
  | i k => rw [Tok.i ht] at hu; simp at hu
  | b => rw [Tok.b ht] at hu; simp at hu
  | o => simp [Ty.pos] at hp
  | s => rw [Tok.s ht] at hu; simp at hu
  | sl e => obtain ⟨et, h1, _⟩ := Tok.sl ht; rw [h1] at hu; simp at hu
  | u =>
   obtain ⟨fs', h1, h2⟩ := LB ht
   rw [h1] at hu
   simp only [jc, TypeDesc.struct.injEq] at hu
   subst hu
   have : fs'.toList = [] := by simpa using h2
   rw [Aj ht, this]
   simp [Ty.size]
  | p x y =>
   obtain ⟨fs', h1, h2⟩ := KB ht
   rw [h1] at hu
   simp only [jc, TypeDesc.struct.injEq] at hu
   subst hu
   obtain ⟨a, b, c⟩ := DC h2 hp
   exact ⟨a, by rw [Aj ht, b], fun j f hj => by simpa using c j f hj⟩
 ·intro t k e ht hu
  rcases Ep ht hu with ⟨k, h⟩ | h | h | ⟨e', h, _⟩ | ⟨fs, h⟩ <;> simp at h
theorem Cw : ∀ {pt : Ty} {ts : List TypeId}, Qh P pt ts = true → ∀ t ∈ ts, Gv P t
 | .p x y, t :: ts, h, t', ht => by
  simp only [Qh, jd] at h
  rcases jp.1 ht with rfl | ht
  ·exact ⟨x, h.1.1, h.1.2⟩
  ·exact Cw h.2 t' ht
 | .u, [], _, _, ht => by simp at ht
 | .p _ _, [], _, _, ht => by simp at ht
 | .u, _ :: _, h, _, _ => by simp [Qh] at h
 | .i _, _, h, _, _ => by simp [Qh] at h
 | .b, _, h, _, _ => by simp [Qh] at h
 | .o, _, h, _, _ => by simp [Qh] at h
 | .s, _, h, _, _ => by simp [Qh] at h
 | .sl _, _, h, _, _ => by simp [Qh] at h
theorem Wt {w' : World} {sp' : Nat → Bool} : ∀ {ts : List TypeId} {vs : List Value} {ds : List (DataW H)} {ps : List MemPlace}, (∀ t ∈ ts, Gv P t) →
 DataW.TrodAll enc P w 0 (fun _ => true) true ts vs ds ps → (∀ p ∈ ps, w.sameAt w' p) → (∀ p ∈ ps, sp' p.block = true) → DataW.TrodAll enc P w' 0 sp' true ts vs ds ps
 | [], [], [], _, _, h, _, _ => h
 | t :: ts, v :: vs, d :: ds, ps, hp, h, h1, h2 => by
  obtain ⟨p, q, ⟨n, ha⟩, hb, rfl⟩ := h
  refine ⟨p, q, ⟨n, DataW.trod_stays DF ?_ (fun h => by simp at h) (hp t (by simp)) ha (fun z hz => h1 z (List.mem_append_left _ hz)) (fun z hz => h2 z (List.mem_append_left _ hz))⟩,
   Wt (fun t ht => hp t (by simp [ht])) hb (fun z hz => h1 z (List.mem_append_right _ hz)) (fun z hz => h2 z (List.mem_append_right _ hz)), rfl⟩
  intro t e ht hu
  rcases Ep ht hu with ⟨k, h⟩ | h | h | ⟨e', h, _, h2⟩ | ⟨fs, h⟩ <;> simp at h
  rw [h]; exact h2
 | [], _ :: _, _, _, _, h, _, _ => by simp [DataW.TrodAll] at h
 | [], [], _ :: _, _, _, h, _, _ => by simp [DataW.TrodAll] at h
 | _ :: _, [], _, _, _, h, _, _ => by simp [DataW.TrodAll] at h
 | _ :: _, _ :: _, [], _, _, h, _, _ => by simp [DataW.TrodAll] at h
theorem Gw : ∀ {ts : List TypeId} {vs : List Value} {ds : List (DataW H)} {ps : List MemPlace}, DataW.TrodAll enc P w base spare held ts vs ds ps → ds.length = ts.length
 | [], [], [], _, _ => rfl
 | _ :: _, _ :: _, _ :: _, _, h => by
  obtain ⟨_, _, _, h, _⟩ := h
  simp [Gw h]
 | [], _ :: _, _, _, h => by simp [DataW.TrodAll] at h
 | [], [], _ :: _, _, h => by simp [DataW.TrodAll] at h
 | _ :: _, [], _, _, h => by simp [DataW.TrodAll] at h
 | _ :: _, _ :: _, [], _, h => by simp [DataW.TrodAll] at h
theorem Xn.but {w w' : World} (h : Xn w w' fun _ => False) (may : MemPlace → Prop) : w.keptBut w' may := by
 refine ⟨h.os, h.output, fun i hi => ?_⟩
 rw [h.block i hi (fun h => h)]
 cases w.heap[i]? with
 | none => rfl
 | some o =>
  cases o with
  | cells c t fr => exact ⟨rfl, rfl, rfl, fun _ _ => rfl⟩
  | map es clock => exact .inr ⟨rfl, rfl⟩
  | _ => rfl
def TO : Sh := ⟨0, fun _ => True, fun _ _ _ h => h⟩
theorem FF {C : Checked} {os : Os} {f : FuncId} {fn : Func} {s : ChangeSpec} {apart fresh handsOn again : Bool} {pt : Ty} {fl : Bool} {F : T pt → Option (Bool × Unit)} {tb : TypeId}
 (own : ownKnob C.prog.godebug = none) (started : os.Started) (noInit : C.prog.inits.idxOf? f = none) (hfn : C.prog.funcs[f]? = some fn)
 (witness : ∃ (w : World) (tape : Tape) (i : Input), w.os = os ∧ (w.forCall tape i).Shaped C.prog ∧ i.vars = [] ∧ Input.okWide C.prog (w.forCall tape i) .any w.heap.size f i ∧
  s.pre6 enc C.prog fn [] apart (w.forCall tape i).memory i.args ∧ ({} : Assume).holds C.prog (lone (Frame.enter C.prog f i.args .normal) [] (w.forCall tape i)))
 (hvars : s.vars = []) (hs : ∀ ds : List (DataW H), ds.length = fn.params.toList.length → s.fn H ds = { results := [.lit (.bool true)], args := ds })
 (hp : Qh C.prog pt fn.params.toList = true) (hr : fn.resultTypes = #[tb]) (htb : C.prog.underlying tb = some .bool)
 (hsound : Sm C.prog TO f (.pu pt (.p .b .u) [fl] F)) (hF : ∀ x, Mx pt x → F x = some (true, ())) :
 ReturnsInHanded {} C os f .any (s.pre6 enc C.prog fn [] apart) (s.post enc C.prog fn apart fresh handsOn again) := by
 refine returnsInHanded_of_change own started noInit hfn witness ?_
 intro W b0 args ds gs before hval hW _ _
 have hW0 := hW
 obtain ⟨p, q, hA, hV, hps, hfz, hnd⟩ := hW
 rw [hvars] at hV
 have hgs : gs = [] ∧ q = [] := by
  cases gs with
  | nil => exact ⟨rfl, hV⟩
  | cons _ _ => exact hV.elim
 obtain ⟨rfl, rfl⟩ := hgs
 simp only [List.append_nil] at hps
 subst hps
 obtain ⟨x, hx, hrx⟩ := Dv (base := b0) hp hA fun j t v h1 h2 => hval j t v (by simpa using h1) (by simpa using h2)
 have hcall := hsound.2 (fun _ => False) W x (true, ()) args.toList (hF x hrx) hx (fun _ h => h.elim) trivial (Nat.zero_le _)
 refine hcall.mono fun e W' hret => ?_
 cases e with
 | returned v =>
  obtain ⟨vs, Fr, hv, hk, hR, _, _⟩ := hret
  have hvt : v = .bool true := by
   cases vs with
   | nil => simp [Wb] at hR
   | cons a r =>
    obtain ⟨cs, F1, F2, ha, _, hown, hrest⟩ := hR
    cases r with
    | cons _ _ => simp [Wb] at hrest
    | nil =>
     have hcs : cs = [.bool true] := by
      cases fl with
      | true => exact hown.1
      | false => exact hown.1
     rw [hv, Pq, ha, hcs]
     rfl
  subst hvt
  refine ⟨_, rfl, ?_⟩
  have hsp := hs ds (Gw hA)
  have hlt : ∀ z ∈ before, z.block < W.heap.size := hW0.lt
  have hsame : ∀ z ∈ before, W.sameAt W' z := by
   intro z hz
   have hb := hk.block z.block (hlt z hz) (fun h => h)
   cases z with
   | cell b off =>
    show W'.cell? _ = W.cell? _
    simp only [World.cell?]
    rw [show W'.heap[b]? = W.heap[b]? from hb]
   | map b => exact hb
  have hargs : ∀ sp : Nat → Bool, (∀ z ∈ before, sp z.block = true) → DataW.TrodAll enc C.prog W' 0 sp true fn.params.toList args.toList ds before :=
   fun sp h => Wt (Cw hp) hA hsame h
  have hres : ∀ (b : Nat) (sp : Nat → Bool) (hd : Bool), DataW.TrodAll enc C.prog W' b sp hd fn.resultTypes.toList ((Value.bool true).resultList fn.resultTypes.size) [.lit (.bool true)] [] := by
   intro b sp hd
   rw [hr]
   exact trodAll_mk1 (Go.RowKit.shut_bool htb true)
  have hold : ∀ z ∈ before, (fun b => decide (b < W.heap.size)) z.block = true := fun z hz => by simpa using hlt z hz
  refine ⟨ds, [], before, [], before, [], hW0, ?_, ?_, ?_, hk.but _, fun _ => ⟨?_, ds.cons (.lit (.bool true)), [], before, ⟨before, [], ?_, ?_, by simp, ?_, ?_⟩, fun z hz _ => hz⟩⟩
  ·rw [List.append_nil, hsp]; exact hres _ _ _
  ·rw [List.append_nil, hsp]; exact hargs _ hold
  ·rw [List.append_nil, hsp, hvars]; rfl
  ·intro j t r hj hv
   rw [hr] at hj hv
   match j, hj, hv with
   | 0, hj, hv =>
    simp only [List.getElem?_toArray, List.getElem?_cons_zero, jc] at hj
    simp [Value.resultList] at hv
    subst hj; subst hv
    exact Go.RowKit.okWide_bool_mk htb true
  ·exact trodAll_append (hargs _ (fun _ _ => rfl)) (hres _ _ _)
  ·rw [hvars]; rfl
  ·intro b off hz
   have := hfz b off hz
   unfold World.frozen? at this ⊢
   rw [show W'.heap[b]? = W.heap[b]? from hk.block b (hlt _ hz) (fun h => h)]
   exact this
  ·exact hnd
 | _ => exact hret.elim
end
noncomputable def Dc {X R : Type} (step : X → Option (X ⊕ R)) (x : X) : Option R :=
 open Classical in if h : ∃ m y, Hp step m x y then some h.choose_spec.choose else none
theorem Hp.det {X R : Type} {step : X → Option (X ⊕ R)} : ∀ {m n : Nat} {x : X} {y z : R}, Hp step m x y → Hp step n x z → y = z
 | 0, _, _, _, _, h, _ => h.elim
 | _ + 1, 0, _, _, _, _, h => h.elim
 | m + 1, n + 1, x, y, z, h, h' => by
  rcases h with h | ⟨x1, h, h1⟩ <;> rcases h' with h' | ⟨x2, h', h2⟩
  ·rw [h] at h'; simpa using h'
  ·rw [h] at h'; simp at h'
  ·rw [h] at h'; simp at h'
  ·rw [h] at h'
   simp only [jc, Sum.inl.injEq] at h'
   subst h'
   exact Hp.det h1 h2
theorem Hr {X R : Type} {step : X → Option (X ⊕ R)} {x : X} {y : R} : Dc step x = some y ↔ ∃ m, Hp step m x y := by
 unfold Dc
 constructor
 ·intro h
  split at h
  ·rename_i hh
   simp only [jc] at h
   exact ⟨_, h ▸ hh.choose_spec.choose_spec⟩
  ·simp at h
 ·rintro ⟨m, h⟩
  have hh : ∃ m y, Hp step m x y := ⟨m, y, h⟩
  rw [dif_pos hh]
  exact congrArg some (Hp.det hh.choose_spec.choose_spec h)
theorem Wg {X R : Type} {step : X → Option (X ⊕ R)} (x : X) : Dc step x = (step x).bind (Sum.elim (Dc step) some) := by
 apply Option.ext
 intro y
 rw [Hr]
 constructor
 ·rintro ⟨m, h⟩
  cases m with
  | zero => exact h.elim
  | succ m =>
   rcases h with h | ⟨x', h, h'⟩
   ·simp [h]
   ·simp [h, Hr.2 ⟨m, h'⟩]
 ·intro h
  rw [qd] at h
  obtain ⟨z, hz, h⟩ := h
  cases z with
  | inl x' =>
   obtain ⟨m, hm⟩ := Hr.1 h
   exact ⟨m + 1, .inr ⟨x', hz, hm⟩⟩
  | inr z =>
   simp only [Sum.elim_inr, jc] at h
   subst h
   exact ⟨1, .inl hz⟩
def lp (fn : Func) (i : Nat) : Code := (Wc (fn.body.getD .skip)).getD i .skip
theorem RH {G : Jd} {L : List (Nat × Jb)} {fn : Func} {i r : Nat} {ls : Jb} {R : ls.inT.X → Option (ls.inT.X ⊕ (ls.outT.X ⊕ ls.retT.X))}
 (h1 : Vg (lp fn i) = some r) (h2 : (Ua L r) = some ls) (h3 : ls.F = Dc R) (h4 : ∀ x, Ir G L ls (lp fn i) x = R x) : Bc G L (lp fn i) := by
 intro r' ls' hr hl x y hy
 rw [h1] at hr
 simp only [jc] at hr
 subst hr
 rw [h2] at hl
 simp only [jc] at hl
 subst hl
 rw [h3] at hy
 obtain ⟨m, hm⟩ := Hr.1 hy
 have : Ir G L ls (lp fn i) = R := funext h4
 rw [this]
 exact ⟨m, hm⟩
theorem Qu {G : Jd} {L : List (Nat × Jb)} {fn : Func} {k : Nat} (hk : Nat.beq (Wc (fn.body.getD .skip)).length k = true) (h : ∀ i, i < k → Bc G L (lp fn i)) :
 ∀ b, b ∈ Wc (fn.body.getD .skip) → Bc G L b := by
 intro b hb
 obtain ⟨i, hi, rfl⟩ := List.mem_iff_getElem.1 hb
 have := h i (by rw [← ju hk]; exact hi)
 unfold lp at this
 rwa [qg, je hi] at this
theorem Hb {p : Nat → Prop} : ∀ i, i < 0 → p i := fun i h => absurd h (Nat.not_lt_zero i)
theorem Tb {p : Nat → Prop} {k : Nat} (h : p k) (hr : ∀ i, i < k → p i) : ∀ i, i < k + 1 → p i := by
 intro i hi
 rcases Nat.lt_or_eq_of_le (Nat.lt_succ_iff.1 hi) with hi | rfl
 ·exact hr i hi
 ·exact h
section
variable {P : Program}
theorem MJ {l : List (Nat × Ty)} {fs : List (Nat × Qb)} {m : List (Nat × Nat)} {z : Bool} {ar : List (Nat × Ty × Nat)} {mv ml : List Nat}
 (h : ((l.all fun x => Lc P x.2 x.1) && (ar.all fun x => Cz P x.1 x.2.1 x.2.2)) = true) : EnvTy P ⟨l, fs, m, z, ar, mv, ml⟩ := by
 simp only [jd] at h
 exact ⟨fun t τ ht => List.all_eq_true.1 h.1 (t, τ) (Gl ht), fun t e n ht => List.all_eq_true.1 h.2 (t, e, n) (Gl ht)⟩
theorem KG {I : Sh} {l : List (Nat × Ty)} {m : List (Nat × Nat)} {z : Bool} {ar : List (Nat × Ty × Nat)} {mv ml : List Nat}
 (h : ((l.all fun x => Lc P x.2 x.1) && (ar.all fun x => Cz P x.1 x.2.1 x.2.2)) = true) : Fi P I ⟨l, [], m, z, ar, mv, ml⟩ :=
 { toEnvTy := MJ h, fn := fun f sem h => by simp [Ua] at h }
theorem Fi.cons {I : Sh} {l : List (Nat × Ty)} {fs : List (Nat × Qb)} {m : List (Nat × Nat)} {z : Bool} {ar : List (Nat × Ty × Nat)} {mv ml : List Nat} {f : Nat} {sem : Qb} (hs : Sm P I f sem)
 (h : Fi P I ⟨l, fs, m, z, ar, mv, ml⟩) : Fi P I ⟨l, (f, sem) :: fs, m, z, ar, mv, ml⟩ :=
 { toEnvTy := ⟨h.ty, h.ar⟩, fn := fun g s hg => by
    simp only [Rb] at hg
    split at hg
    ·rename_i e
     simp only [jc] at hg
     subst e; subst hg
     exact hs
    ·exact h.fn g s hg }
theorem Cu {fn : Func} (h : fn.body.isSome = true) : fn.body = some (fn.body.getD .skip) := by
 cases hb : fn.body with
 | none => rw [hb] at h; simp at h
 | some c => rfl
variable {I : Sh} {G : Jd} {L : List (Nat × Jb)}
theorem RA (hG : Fi P I G) (hm : P.follows .mixedOrders = true) {f : FuncId} {fn : Func} {k : Nat} {pt rt : Ty} {fr : List Bool} {F : T pt → Option (T rt)} (hf : P.funcs[f]? = some fn)
 (hb : (fn.body.isSome && !(fn.name == "runtime.NumGoroutine") && jx pt.npar fn.ntmps && Nat.beq (Wc (fn.body.getD .skip)).length k) = true)
 (hL : ∀ i, i < k → Bc G L (lp fn i)) (hF : ∀ x, LG G L fn pt rt fr x = F x) : Sm P I f (.pu pt rt fr F) := by
 simp only [jd, Bool.not_eq_true'] at hb
 exact MK hG hm hf (Cu hb.1.1.1) hb.1.1.2 (Qu hb.2 hL) (Nat.le_of_ble_eq_true hb.1.2) fun x r h => (hF x).trans h
theorem BI (hG : Fi P I G) (hfz : G.fz = false) (hm : P.follows .mixedOrders = true) {f : FuncId} {fn : Func} {k : Nat} {vw cv : Bool} {τ pt rt : Ty} {fr : List Bool} {F : T τ → T pt → Option (T τ × T rt)} (hf : P.funcs[f]? = some fn)
 (hb : (fn.body.isSome && !(fn.name == "runtime.NumGoroutine") && jx (pt.npar + 1) fn.ntmps && Nat.beq (Wc (fn.body.getD .skip)).length k) = true)
 (hL : ∀ i, i < k → Bc G L (lp fn i)) (hF : ∀ x0 x, IB G L fn vw cv τ pt rt fr x0 x = F x0 x) : Sm P I f (.bx vw cv τ pt rt fr F) := by
 simp only [jd, Bool.not_eq_true'] at hb
 exact KK hG hfz hm hf (Cu hb.1.1.1) hb.1.1.2 (Qu hb.2 hL) (Nat.le_of_ble_eq_true hb.1.2) fun x0 x r h => (hF x0 x).trans h
theorem CI (hG : Fi P I G) (hm : P.follows .mixedOrders = true) {f : FuncId} {fn : Func} {k : Nat} {pt τ : Ty} {F : T pt → Option (T τ)} (hf : P.funcs[f]? = some fn)
 (hb : (fn.body.isSome && !(fn.name == "runtime.NumGoroutine") && jx pt.npar fn.ntmps && Nat.beq (Wc (fn.body.getD .skip)).length k) = true)
 (hL : ∀ i, i < k → Bc G L (lp fn i)) (hF : ∀ x, JB G L fn pt τ x = F x) : Sm P I f (.nw pt τ F) := by
 simp only [jd, Bool.not_eq_true'] at hb
 exact LK hG hm hf (Cu hb.1.1.1) hb.1.1.2 (Qu hb.2 hL) (Nat.le_of_ble_eq_true hb.1.2) fun x r h => (hF x).trans h
end
def hd (h : T .o) : Value := .slice h.1 h.2.1 h.2.2
section
variable {P : Program} {w w' : World}
end
open Classical in

def Oe {α S R : Type} (g : Nat → S → α → S ⊕ R) : Nat → S → List α → S ⊕ R
 | _, s, [] => .inl s
 | k, s, x :: xs => match g k s x with
  | .inl s' => Oe g (k + 1) s' xs
  | .inr r => .inr r
section
variable {X R : Type} {step : X → Option (X ⊕ R)}
theorem Hd {x : X} {z : Option (X ⊕ R)} (h : step x = z) : Dc step x = z.bind (Sum.elim (Dc step) some) := by
 rw [Wg, h]
theorem DD {α S R' : Type} (xs : List α) (g : Nat → S → α → S ⊕ R') (I : Nat → S → X) (out : S → R) (ex : R' → R) (Sh : Nat → S → Prop)
 (h : ∀ k (hk : k < xs.length) s, Sh k s → step (I k s) = some (match g k s xs[k] with | .inl s' => .inl (I (k + 1) s') | .inr r => .inr (ex r)) ∧ ∀ s', g k s xs[k] = .inl s' → Sh (k + 1) s')
 (he : ∀ s, Sh xs.length s → step (I xs.length s) = some (.inr (out s))) (s0 : S) (h0 : Sh 0 s0) :
 Dc step (I 0 s0) = some (match Oe g 0 s0 xs with | .inl s => out s | .inr r => ex r) := by
 have key : ∀ (ys : List α) (k : Nat) (s : S), xs.drop k = ys → k ≤ xs.length → Sh k s → Dc step (I k s) = some (match Oe g k s ys with | .inl s => out s | .inr r => ex r) := by
  intro ys
  induction ys with
  | nil =>
   intro k s hd hle hi
   have : k = xs.length := by
    have := congrArg ja hd
    simp at this
    omega
   subst this
   rw [Hd (he s hi)]
   rfl
  | cons y ys ih =>
   intro k s hd hle hi
   have hk : k < xs.length := by
    have := congrArg ja hd
    simp at this
    omega
   have hy : xs[k] = y := by
    have := congrArg (·[0]?) hd
    simp [List.getElem?_drop, je hk] at this
    exact this
   obtain ⟨h1, h2⟩ := h k hk s hi
   rw [Hd h1]
   rw [hy] at h2 ⊢
   simp only [Oe]
   cases hg : g k s y with
   | inl s' =>
    simp only [jb, qh]
    refine ih (k + 1) s' ?_ hk (h2 s' hg)
    rw [← List.drop_drop, hd]
    rfl
   | inr r => rfl
 exact key xs 0 s0 rfl (Nat.zero_le _) h0
theorem Pu (I : Nat → X) (n : Nat) (out : R) (h : ∀ k, k < n → step (I k) = some (.inl (I (k + 1)))) (he : step (I n) = some (.inr out)) : Dc step (I 0) = some out := by
 have key : ∀ m k, m + k = n → Dc step (I k) = some out := by
  intro m
  induction m with
  | zero =>
   intro k hk
   have : k = n := by omega
   subst this
   rw [Hd he]; rfl
  | succ m ih =>
   intro k hk
   rw [Hd (h k (by omega))]
   exact ih (k + 1) (by omega)
 exact key n 0 (by omega)
end
theorem Ib {n : Int} (h1 : -9223372036854775808 ≤ n) (h2 : n ≤ 9223372036854775807) : j4 .i64 n = n := IntWalk.i64_in n ⟨h1, h2⟩
theorem Nf {k : Nat} (h : k < 9223372036854775807) : j4 .i64 ((k : Int) + 1) = ((k + 1 : Nat) : Int) := by
 rw [Ib (by omega) (by omega)]; omega
section
variable {α : Type}
theorem ND (xs : List α) (k : Nat) : Kb xs (k : Int) = xs[k]? := by simp [Kb]
theorem Ij {xs : List α} {k : Nat} (h : k < xs.length) : Kb xs (k : Int) = some xs[k] := by rw [ND, je h]
theorem Co (x : α) (xs : List α) : Kb (x :: xs) 0 = some x := rfl
theorem EC {xs : List α} {i : Int} {k : Nat} (hi : i = (k : Int)) (h : k < xs.length) : Kb xs i = some xs[k] := by rw [hi, Ij h]
theorem Og (n k : Nat) : Je n (k : Int) = decide (k < n) := by
 simp [Je]
theorem Ca {p : Prop} [Decidable p] (h : p) : decide p = true := decide_eq_true h
theorem Da {p : Prop} [Decidable p] (h : ¬ p) : decide p = false := decide_eq_false h
end
theorem XN : Bh = 1073741824 := rfl
def Pd : (τ : Ty) → T τ → Nat
 | .i _, _ => 0
 | .b, _ => 0
 | .o, _ => 0
 | .s, x => ja x
 | .sl e, xs => ja xs + (List.map (Pd e) xs).sum
 | .u, _ => 0
 | .p a c, v => Pd a v.1 + Pd c v.2
def Ty.hasS : Ty → Bool
 | .s => true
 | .sl e => e.hasS
 | .p x y => x.hasS || y.hasS
 | _ => false
def Vc : Nat := 1048576
theorem Kx : ∀ {τ : Ty} (_ : (τ.flat && !τ.hasS) = true) {x : T τ}, Pd τ x = 0
 | .i _, _, _ => rfl
 | .b, _, _ => rfl
 | .o, _, _ => rfl
 | .s, h, _ => by simp [Ty.hasS] at h
 | .sl _, h, _ => by simp [Ty.flat] at h
 | .u, _, _ => rfl
 | .p a c, h, x => by
  simp only [Ty.flat, Ty.hasS, jd, Bool.not_eq_true', Bool.or_eq_false_iff] at h
  simp only [Pd]
  rw [Kx (τ := a) (by simp [h.1.1, h.2.1]), Kx (τ := c) (by simp [h.1.2, h.2.2])]
theorem Vq {e : Ty} (h : (e.flat && !e.hasS) = true) (xs : List (T e)) : Pd (.sl e) xs = ja xs := by
 simp only [Pd]
 have : List.map (Pd e) xs = List.replicate xs.length 0 := by
  apply List.ext_getElem
  ·simp
  ·intro i h1 h2
   simp [Kx h]
 rw [this]
 simp
theorem Yq {α : Type} (b : Bool) (x y : α) : cond b (some x) (some y) = some (cond b x y) := by cases b <;> rfl
theorem Zq {α : Type} (b : Bool) (x y : α) : cond b (x, ()) (y, ()) = (cond b x y, ()) := by cases b <;> rfl
theorem Ct (b x y : Bool) : (cond b x y = true) ↔ ((b = true ∧ x = true) ∨ (¬ b = true ∧ y = true)) := by cases b <;> simp
theorem DL {a b : Bool} (h : a = true ↔ b = true) : a = b := ql.2 h
theorem Kr {a b : Bool} (h : a = true ↔ b = true) : some (a, ()) = some (b, ()) := by rw [DL h]
theorem FJ (a b : Int) : ((a == b) = true) ↔ a = b := by simp
theorem HJ (a b : Int) : ((a != b) = true) ↔ ¬ a = b := by simp
def Ip {α : Type} (p : Nat → α → Bool) : Nat → List α → Bool
 | _, [] => true
 | k, x :: xs => p k x && Ip p (k + 1) xs
theorem Gr {X R : Type} {step : X → Option (X ⊕ R)} {α : Type} (xs : List α) (p : Nat → α → Bool) (I : Int → X) (yes no : R)
 (h : ∀ k (hk : k < xs.length), step (I (k : Int)) = some (cond (p k xs[k]) (.inl (I (j4 .i64 ((k : Int) + 1)))) (.inr no)))
 (he : step (I (xs.length : Int)) = some (.inr yes)) (hn : xs.length < 9223372036854775807) :
 Dc step (I 0) = some (cond (Ip p 0 xs) yes no) := by
 have key : ∀ (ys : List α) (k : Nat), xs.drop k = ys → k ≤ xs.length → Dc step (I (k : Int)) = some (cond (Ip p k ys) yes no) := by
  intro ys
  induction ys with
  | nil =>
   intro k hd hle
   have : k = xs.length := by
    have := congrArg ja hd
    simp at this
    omega
   subst this
   rw [Hd he]
   rfl
  | cons y ys ih =>
   intro k hd hle
   have hk : k < xs.length := by
    have := congrArg ja hd
    simp at this
    omega
   have hy : xs[k] = y := by
    have := congrArg (·[0]?) hd
    simp [List.getElem?_drop, je hk] at this
    exact this
   have hd' : xs.drop (k + 1) = ys := by rw [← List.drop_drop, hd]; rfl
   rw [Hd (h k hk), hy]
   simp only [Ip]
   cases hc : p k y with
   | true =>
    simp only [cond_true, jk, jb, qh]
    rw [← ih (k + 1) hd' hk, Nf (by omega)]
   | false => rfl
 have := key xs 0 rfl (Nat.zero_le _)
 simpa using this
theorem Xz {α : Type} {p : Nat → α → Bool} : ∀ {xs : List α} {k : Nat}, Ip p k xs = true ↔ ∀ j (hj : j < xs.length), p (k + j) xs[j] = true
 | [], _ => by simp [Ip]
 | x :: xs, k => by
  simp only [Ip, jd, Xz (xs := xs)]
  constructor
  ·rintro ⟨h1, h2⟩ j hj
   cases j with
   | zero => exact h1
   | succ j => simpa [jt, Nat.add_comm 1 j] using h2 j (by simpa using hj)
  ·intro h
   refine ⟨h 0 (by simp), fun j hj => ?_⟩
   have := h (j + 1) (by simpa using hj)
   rw [jt, Nat.add_comm 1 j]
   exact this
def Up {α S : Type} (g : Nat → S → α → S) : Nat → S → List α → S
 | _, s, [] => s
 | k, s, x :: xs => Up g (k + 1) (g k s x) xs
theorem JG {α : Type} {xs ys : List α} {y : α} {k : Nat} (hd : xs.drop k = y :: ys) : ∃ hk : k < xs.length, xs[k] = y ∧ xs.drop (k + 1) = ys := by
 have hk : k < xs.length := by
  have := congrArg ja hd
  simp at this
  omega
 refine ⟨hk, ?_, by rw [← List.drop_drop, hd]; rfl⟩
 have := congrArg (·[0]?) hd
 simp [List.getElem?_drop, je hk] at this
 exact this
theorem LJ {α : Type} {xs : List α} {k : Nat} (hd : xs.drop k = []) (hk : k ≤ xs.length) : k = xs.length := by
 have := congrArg ja hd
 simp at this
 omega
theorem Jy {X R : Type} {step : X → Option (X ⊕ R)} {α S : Type} (xs : List α) (g : Nat → S → α → S) (I : S → Int → X) (out : S → R) (Sh : Nat → S → Prop)
 (h : ∀ k (hk : k < xs.length) s, Sh k s → step (I s (k : Int)) = some (.inl (I (g k s xs[k]) (j4 .i64 ((k : Int) + 1)))) ∧ Sh (k + 1) (g k s xs[k]))
 (he : ∀ s, Sh xs.length s → step (I s (xs.length : Int)) = some (.inr (out s))) (hn : xs.length < 9223372036854775807) (s0 : S) (h0 : Sh 0 s0) :
 Dc step (I s0 0) = some (out (Up g 0 s0 xs)) ∧ Sh xs.length (Up g 0 s0 xs) := by
 have key : ∀ (ys : List α) (k : Nat) (s : S), xs.drop k = ys → k ≤ xs.length → Sh k s → Dc step (I s (k : Int)) = some (out (Up g k s ys)) ∧ Sh xs.length (Up g k s ys) := by
  intro ys
  induction ys with
  | nil =>
   intro k s hd hle hi
   have := LJ hd hle
   subst this
   rw [Hd (he s hi)]
   exact ⟨rfl, hi⟩
  | cons y ys ih =>
   intro k s hd hle hi
   obtain ⟨hk, hy, hd'⟩ := JG hd
   obtain ⟨h1, h2⟩ := h k hk s hi
   rw [Hd h1, hy, Nf (by omega)]
   rw [hy] at h2
   exact ih (k + 1) _ hd' hk h2
 have := key xs 0 s0 rfl (Nat.zero_le _) h0
 simpa using this
theorem To {X R : Type} {step : X → Option (X ⊕ R)} {α S R' : Type} (xs : List α) (g : Nat → S → α → S ⊕ R') (I : S → Int → X) (out : S → R) (ex : R' → R) (Sh : Nat → S → Prop)
 (h : ∀ k (hk : k < xs.length) s, Sh k s → step (I s (k : Int)) = some (match g k s xs[k] with | .inl s' => .inl (I s' (j4 .i64 ((k : Int) + 1))) | .inr r => .inr (ex r)) ∧ ∀ s', g k s xs[k] = .inl s' → Sh (k + 1) s')
 (he : ∀ s, Sh xs.length s → step (I s (xs.length : Int)) = some (.inr (out s))) (hn : xs.length < 9223372036854775807) (s0 : S) (h0 : Sh 0 s0) :
 Dc step (I s0 0) = some (match Oe g 0 s0 xs with | .inl s => out s | .inr r => ex r) := by
 have := DD (step := step) xs g (fun k s => I s (k : Int)) out ex Sh (fun k hk s hi => by
  obtain ⟨h1, h2⟩ := h k hk s hi
  refine ⟨?_, h2⟩
  rw [h1, Nf (by omega)]) he s0 h0
 simpa using this
theorem Fu {n lo hi : Nat} (h1 : lo ≤ hi) (h2 : hi ≤ n) : Sf n (lo : Int) (hi : Int) = true := by
 simp [Sf]; omega
theorem Bo {α : Type} {w : List α} {lo hi j : Nat} (h : lo + j < hi) (h2 : hi ≤ w.length) : Kb (Yc w lo hi) (j : Int) = some (w[lo + j]'(by omega)) := by
 have hl : j < (Yc w lo hi).length := by simp [Yc]; omega
 rw [Ij hl]
 simp [Yc]
section
variable {α β : Type}
end
abbrev int : Ty := .i .i64
abbrev Jp : Ty := .i .u8
abbrev Us : Ty := (.p int (.p int .u))
abbrev Im : Type := (Int × (Int × Unit))
abbrev Kc : Ty := (.p int Us)
abbrev Uc : Type := (Int × Im)
abbrev Ja : Ty := (.p (.sl (.sl int)) (.p (.sl int) .u))
abbrev Aa : Type := ((List (List Int)) × ((List Int) × Unit))
abbrev Mf : Ty := (.p (.sl Jp) Us)
abbrev Zb : Type := ((List Int) × Im)
abbrev DE : Ty := (.p int Kc)
abbrev Hv : Type := (Int × Uc)
abbrev Rd : Ty := (.p .b Kc)
abbrev Ra : Type := (Bool × Uc)
abbrev JO : Type := (Int × (Hv × Unit))
abbrev AL : Type := (Int × ((List (List Hv)) × Unit))
abbrev BL : Type := Uc
noncomputable section
open Option renaming bind → ob
open Go.IntKind renaming wrap → wr
open Int renaming toNat → tn
open List renaming length → ln, append → ap, set → ls
open Sum renaming elim → se
open Nat renaming ble → bl
abbrev Dl : Type := Int × Unit
abbrev Xj : Type := Bool × Unit
abbrev Rf : Type := List Int
abbrev Se : Type := Aa × Unit
abbrev Cm : Type := Unit × Unit
abbrev Jf : Type := List Ra
abbrev Iv : Type := Unit × Im
abbrev Wj : Type := Unit × Dl
abbrev Tk : Type := Aa × Se
abbrev ME : Type := Xj × Unit
abbrev NE : Type := (Dl × Unit) ⊕ Cm
abbrev Xs : Type := Rf × Im
abbrev OE : Type := (Int × (Int × (Unit × (Int × (Int × (Jf × Im)))))) × Se
abbrev Ys : Type := List Rf
abbrev QK : Type := Unit × Uc
abbrev RK : Type := Int × (Ys × Im)
abbrev DB : Type := (Int × (Unit × (Jf × Wj))) × Tk
abbrev EB : Type := (Unit × Cm) × Tk
abbrev Jv : Type := Unit × (Unit × Wj)
abbrev FB : Type := Int × Xj
abbrev Tp : Type := Aa × Xj
abbrev SK : Type := Cm ⊕ ME
abbrev GB : Type := Uc × Unit
abbrev TK : Type := Unit × Xs
abbrev Nx : Type := Rf × Dl
abbrev QE : Type := Rf × Unit
abbrev PE : Type := Ra × (Aa × (((Ys × (Int × (Rf × Rf))) × QE) × Unit))
abbrev Kv : Type := Zb × Tk
abbrev RE : Type := EB ⊕ ((Unit × Xj) × Se)
abbrev UK : Type := OE ⊕ (((Int × (Int × (Jf × Unit))) × Unit) ⊕ Cm)
abbrev HB : Type := Unit × (Unit × Cm)
abbrev VK : Type := (Int × (Unit × (Int × (Int × (Bool × Dl))))) × Se
def Bd (a0 : Int) (a1 : Int) (a2 : Int) : Option Xj :=
 (cond (decide (a0 ≥ a1))
 (some ((decide (a0 ≤ a2)), ()))
 (some (false, ())))
def Lk (a0 : Rf) : Option QE :=
 (cond (bl (ln ([] : List Int) + ln a0) Bh)
 (some ((ap [] a0), ()))
 none)
def Fo (a0 : Rf) : Option Xj :=
 (some ((decide (((ln a0 : Nat) : Int) > 1048576)), ()))
def Ko (t0 : Rf) (t3 : Int) (t4 : Int) : Option ((Zb × Unit) ⊕ ((Nx × Unit) ⊕ Cm)) :=
 (cond (decide (t4 < ((ln t0 : Nat) : Int)))
 (cond (decide (t4 < 4000))
 (ob (Kb t0 t4) fun x3 =>
 (some (.inl ((t0, (Ku .i64 (wr .i64 ((wr .i64 ((wr .i64 (t3 * 131)) + (wr .i64 x3))) + 7)) 1073741823), (wr .i64 (t4 + 1)), ()), ()))))
 (some (.inr (.inl ((t0, t3, ()), ())))))
 (some (.inr (.inl ((t0, t3, ()), ())))))
def Hm := Dc fun x : (Zb × Unit) => Ko x.1.1 x.1.2.1 x.1.2.2.1
def Aq (a0 : Rf) : Option Zb :=
 (ob (Hm ((a0, (wr .i64 (10729 + ((ln a0 : Nat) : Int))), 0, ()), ())) (se (fun y4 => (some (y4.1.1, 0, y4.1.2.1, ()))) (fun z5 => none)))
def Pk (a0 : Rf) (a1 : Int) : Option Zb :=
 (ob (Aq a0) fun r1 =>
 (some (r1.1, r1.2.1, (wr .i64 (r1.2.2.1 + (wr .i64 (7919 * a1)))), r1.2.2.2)))
def Vh (a0 : Zb) : Option (Zb × Dl) :=
 (cond (decide ((0 : Int) ≤ 33))
 (cond (decide ((0 : Int) ≤ 45))
 (cond (decide (a0.2.1 < ((ln a0.1 : Nat) : Int)))
 (ob (Kb a0.1 a0.2.1) fun x1 =>
 (some ((a0.1, (wr .i64 (a0.2.1 + 1)), (wr .i64 ((wr .i64 (a0.2.2.1 * 6364136223846793005)) + 1442695040888963407)), a0.2.2.2), ((Ku .i64 (wr .i64 ((Ku .i64 (CF .i64 (Kz .i64 (wr .i64 ((wr .i64 (a0.2.2.1 * 6364136223846793005)) + 1442695040888963407)) 33) (Kz .i64 (wr .i64 ((wr .i64 (a0.2.2.1 * 6364136223846793005)) + 1442695040888963407)) 45)) 255) + (wr .i64 x1))) 255), ()))))
 (some ((a0.1, a0.2.1, (wr .i64 ((wr .i64 (a0.2.2.1 * 6364136223846793005)) + 1442695040888963407)), a0.2.2.2), ((Ku .i64 (CF .i64 (Kz .i64 (wr .i64 ((wr .i64 (a0.2.2.1 * 6364136223846793005)) + 1442695040888963407)) 33) (Kz .i64 (wr .i64 ((wr .i64 (a0.2.2.1 * 6364136223846793005)) + 1442695040888963407)) 45)) 255), ()))))
 none)
 none)
def Nd (a0 : Zb) (a1 : Int) : Option (Zb × Dl) :=
 (cond (decide (a1 ≤ 0))
 (some (a0, (0, ())))
 (cond (decide (a1 ≤ 256))
 (ob (Vh a0) fun r1 =>
 (cond (a1 == 0)
 none
 (some (r1.1, ((Int.tmod r1.2.1 a1), ())))))
 (ob (Vh a0) fun r2 =>
 (ob (Vh r2.1) fun r3 =>
 (ob (Vh r3.1) fun r4 =>
 (ob (Vh r4.1) fun r5 =>
 (cond (a1 == 0)
 none
 (some (r5.1, ((Int.tmod (wr .i64 ((wr .i64 ((wr .i64 ((wr .i64 (r2.2.1 * 16777216)) + (wr .i64 (r3.2.1 * 65536)))) + (wr .i64 (r4.2.1 * 256)))) + r5.2.1)) a1), ()))))))))))
def Om (a0 : Zb) (a1 : Int) : Option (Zb × Xj) :=
 (ob (Nd a0 a1) fun r1 =>
 (some (r1.1, ((r1.2.1 == 0), ()))))
def Rg (a0 : Zb) (a1 : Rf) : Option (Zb × Dl) :=
 (ob (Nd a0 ((ln a1 : Nat) : Int)) fun r1 =>
 (cond (Je (ln a1) r1.2.1)
 (ob a1[(tn r1.2.1)]? fun x2 =>
 (some (r1.1, (x2, ()))))
 none))
def Jo (a0 : Zb) : Option (Zb × GB) :=
 (ob (Nd a0 9) fun r1 =>
 (ob (Rg r1.1 ([0, 0, 3, 6] : List Int)) fun r2 =>
 (ob (Nd r2.1 3) fun r3 =>
 (some (r3.1, (((wr .i64 (1 + r1.2.1)), r2.2.1, r3.2.1, ()), ()))))))
def Al (a0 : Rf) : Option GB :=
 (ob (Pk a0 9) fun r1 =>
 (ob (Jo r1) fun r2 =>
 (some (r2.2.1, ()))))
def Pi (a0 : Uc) : Option Xj :=
 (cond (decide (a0.1 ≥ 1))
 (cond (decide (a0.1 ≤ 1000))
 (cond (decide (a0.2.1 ≥ 0))
 (cond (decide (a0.2.1 ≤ 1000))
 (cond (decide (a0.2.2.1 ≥ 0))
 (some ((decide (a0.2.2.1 ≤ 2)), ()))
 (some (false, ())))
 (some (false, ())))
 (some (false, ())))
 (some (false, ())))
 (some (false, ())))
def Cn (t1 : Unit) (t3 : Int) (t4 : Int) (b1 : Aa) : Option ((Iv × Se) ⊕ ((Wj × Se) ⊕ ME)) :=
 (ob (Kb b1.1 t3) fun x46 =>
 (cond (decide (t4 < ((ln x46 : Nat) : Int)))
 (ob (Kb b1.1 t3) fun x47 =>
 (ob (Kb x47 t4) fun x48 =>
 (ob (Bd x48 0 65535) fun r49 =>
 (cond (!r49.1)
 (some (.inr (.inr ((false, ()), ()))))
 (some (.inl (((), t3, (wr .i64 (t4 + 1)), ()), (b1, ()))))))))
 (some (.inr (.inl (((), t3, ()), (b1, ())))))))
def Li := Dc fun x : (Iv × Se) => Cn x.1.1 x.1.2.1 x.1.2.2.1 x.2.1
def Uq (t1 : Unit) (t3 : Int) (b1 : Aa) : Option ((Wj × Se) ⊕ SK) :=
 (cond (decide (t3 < 2))
 (ob (Kb b1.1 t3) fun x35 =>
 (cond (((ln x35 : Nat) : Int) != 19)
 (some (.inr (.inr ((false, ()), ()))))
 (ob (Kb b1.2.1 t3) fun x36 =>
 (ob (Bd x36 0 1000) fun r37 =>
 (cond (!r37.1)
 (some (.inr (.inr ((false, ()), ()))))
 (ob (Li (((), t3, 0, ()), (b1, ()))) (se (fun y50 => (some (.inl (((), (wr .i64 (y50.1.2.1 + 1)), ()), (y50.2.1, ()))))) (fun z51 => (some (.inr (.inr ((z51.1.1, ()), ()))))))))))))
 (some (.inr (.inl ((), ())))))
def Ki := Dc fun x : (Wj × Se) => Uq x.1.1 x.1.2.1 x.2.1
def Ch (a0 : Aa) : Option Xj :=
 (cond (((ln a0.1 : Nat) : Int) != 2)
 (some (false, ()))
 (cond (((ln a0.2.1 : Nat) : Int) != 2)
 (some (false, ()))
 (ob (Ki (((), 0, ()), (a0, ()))) (se (fun y52 => (some (true, ()))) (fun z53 => (some (z53.1.1, ())))))))
def Ed (t1 : Unit) (t3 : Int) (t4 : Int) (b1 : Aa) : Option ((Iv × Se) ⊕ NE) :=
 (cond (decide (t4 < 2))
 (ob (Ch b1) fun r13 =>
 (cond r13.1
 (ob (Kb b1.1 t4) fun x14 =>
 (ob (Kb x14 0) fun x15 =>
 (ob (Bd x15 1 60000) fun r16 =>
 (cond r16.1
 (cond (decide (t3 < 0))
 (some (.inl (((), t4, (wr .i64 (t4 + 1)), ()), (b1, ()))))
 (ob (Kb b1.1 t3) fun x17 =>
 (ob (Kb x17 0) fun x18 =>
 (cond (decide (x15 > x18))
 (some (.inl (((), t4, (wr .i64 (t4 + 1)), ()), (b1, ()))))
 (some (.inl (((), t3, (wr .i64 (t4 + 1)), ()), (b1, ()))))))))
 (some (.inl (((), t3, (wr .i64 (t4 + 1)), ()), (b1, ()))))))))
 (some (.inr (.inl ((t3, ()), ()))))))
 (some (.inr (.inl ((t3, ()), ())))))
def Yg := Dc fun x : (Iv × Se) => Ed x.1.1 x.1.2.1 x.1.2.2.1 x.2.1
def Fh (a0 : Aa) : Option Dl :=
 (ob (Yg (((), (-1), 0, ()), (a0, ()))) (se (fun y19 => (some (y19.1.1, ()))) (fun z20 => none)))
def Ql (a0 : Int) (a1 : Int) (a2 : Int) : Option Dl :=
 (ob (Bd a0 0 3) fun r1 =>
 (cond (!r1.1)
 (some (65535, ()))
 (ob (Bd a1 0 9999) fun r2 =>
 (cond (!r2.1)
 (some (65535, ()))
 (ob (Bd a2 1 60000) fun r3 =>
 (cond (!r3.1)
 (some (65535, ()))
 (cond ((60000 : Int) == 0)
 none
 (some ((Int.tmod (wr .i64 ((wr .i64 ((wr .i64 ((wr .i64 (7 * a0)) + (wr .i64 (13 * a1)))) + (wr .i64 (31 * a2)))) + 5)) 60000), ())))))))))
def Tf (t1 : Int) (t2 : Unit) (t6 : Int) (t7 : Int) (t8 : Bool) (t9 : Int) (b2 : Aa) : Option (VK ⊕ ((FB × Unit) ⊕ Cm)) :=
 (cond (decide (t9 < 6))
 (ob (Kb b2.1 t6) fun x21 =>
 (ob (Kb x21 (wr .i64 ((wr .i64 (1 + (wr .i64 (3 * t9)))) + 1))) fun x22 =>
 (ob (Kb b2.1 t6) fun x23 =>
 (ob (Kb x23 0) fun x24 =>
 (ob (Ql t1 x22 x24) fun r25 =>
 (ob (Kb b2.1 t6) fun x26 =>
 (ob (Kb x26 (wr .i64 (1 + (wr .i64 (3 * t9))))) fun x27 =>
 (cond (x27 == t1)
 (cond (r25.1 != 65535)
 (ob (Kb b2.1 t6) fun x28 =>
 (ob (Kb x28 (wr .i64 ((wr .i64 (1 + (wr .i64 (3 * t9)))) + 2))) fun x29 =>
 (cond (x29 == r25.1)
 (some (.inl ((t1, (), t6, x22, true, (wr .i64 (t9 + 1)), ()), (b2, ()))))
 (some (.inl ((t1, (), t6, t7, t8, (wr .i64 (t9 + 1)), ()), (b2, ())))))))
 (some (.inl ((t1, (), t6, t7, t8, (wr .i64 (t9 + 1)), ()), (b2, ())))))
 (some (.inl ((t1, (), t6, t7, t8, (wr .i64 (t9 + 1)), ()), (b2, ()))))))))))))
 (some (.inr (.inl ((t7, t8, ()), ())))))
def Cg := Dc fun x : VK => Tf x.1.1 x.1.2.1 x.1.2.2.1 x.1.2.2.2.1 x.1.2.2.2.2.1 x.1.2.2.2.2.2.1 x.2.1
def Di (a0 : Aa) (a1 : Int) : Option FB :=
 (ob (Fh a0) fun r1 =>
 (cond (decide (r1.1 < 0))
 (some (0, false, ()))
 (ob (Bd a1 0 3) fun r2 =>
 (cond (!r2.1)
 (some (0, false, ()))
 (ob (Cg ((a1, (), r1.1, 0, false, 0, ()), (a0, ()))) (se (fun y30 => (some y30.1)) (fun z31 => none)))))))
def Zm (t1 : Unit) (t16 : Int) (t46 : Rf) (t47 : Int) (t48 : Int) (b1 : Aa) : Option (((Unit × (Int × Xs)) × Se) ⊕ ((Wj × Se) ⊕ ME)) :=
 (cond (decide (t48 < t47))
 (ob (Kb t46 t48) fun x25 =>
 (cond (decide (x25 < 0))
 (some (.inr (.inr ((false, ()), ()))))
 (cond (decide (x25 > 65535))
 (some (.inr (.inr ((false, ()), ()))))
 (some (.inl (((), t16, t46, t47, (wr .i64 (t48 + 1)), ()), (b1, ())))))))
 (some (.inr (.inl (((), t16, ()), (b1, ()))))))
def Hi := Dc fun x : ((Unit × (Int × Xs)) × Se) => Zm x.1.1 x.1.2.1 x.1.2.2.1 x.1.2.2.2.1 x.1.2.2.2.2.1 x.2.1
def Kq (t1 : Unit) (t16 : Int) (b1 : Aa) : Option ((Wj × Se) ⊕ SK) :=
 (cond (decide (t16 < 2))
 (ob (Kb b1.1 t16) fun x19 =>
 (cond (((ln x19 : Nat) : Int) != 19)
 (some (.inr (.inr ((false, ()), ()))))
 (ob (Kb b1.2.1 t16) fun x20 =>
 (cond (decide (x20 < 0))
 (some (.inr (.inr ((false, ()), ()))))
 (ob (Kb b1.2.1 t16) fun x21 =>
 (cond (decide (x21 > 1000))
 (some (.inr (.inr ((false, ()), ()))))
 (ob (Kb b1.1 t16) fun x22 =>
 (ob (Hi (((), t16, x22, ((ln x22 : Nat) : Int), 0, ()), (b1, ()))) (se (fun y26 => (some (.inl (((), (wr .i64 (y26.1.2.1 + 1)), ()), (y26.2.1, ()))))) (fun z27 => (some (.inr (.inr ((z27.1.1, ()), ()))))))))))))))
 (some (.inr (.inl ((), ())))))
def Gi := Dc fun x : (Wj × Se) => Kq x.1.1 x.1.2.1 x.2.1
def Jj (a0 : Aa) : Option Xj :=
 (cond (((ln a0.1 : Nat) : Int) != 2)
 (some (false, ()))
 (cond (((ln a0.2.1 : Nat) : Int) != 2)
 (some (false, ()))
 (ob (Gi (((), 0, ()), (a0, ()))) (se (fun y28 => (some (true, ()))) (fun z29 => (some (z29.1.1, ())))))))
def Sd (t1 : Unit) (t3 : Int) (t11 : Ys) (t12 : Int) (t13 : Int) (b1 : Aa) : Option (((Unit × RK) × Se) ⊕ NE) :=
 (cond (decide (t13 < t12))
 (ob (Kb t11 t13) fun x14 =>
 (ob (Kb x14 0) fun x15 =>
 (cond (decide (x15 ≥ 1))
 (ob (Kb x14 0) fun x16 =>
 (cond (decide (x16 ≤ 60000))
 (cond (decide (t3 < 0))
 (some (.inl (((), t13, t11, t12, (wr .i64 (t13 + 1)), ()), (b1, ()))))
 (ob (Kb x14 0) fun x17 =>
 (ob (Kb b1.1 t3) fun x18 =>
 (ob (Kb x18 0) fun x19 =>
 (cond (decide (x17 > x19))
 (some (.inl (((), t13, t11, t12, (wr .i64 (t13 + 1)), ()), (b1, ()))))
 (some (.inl (((), t3, t11, t12, (wr .i64 (t13 + 1)), ()), (b1, ())))))))))
 (some (.inl (((), t3, t11, t12, (wr .i64 (t13 + 1)), ()), (b1, ()))))))
 (some (.inl (((), t3, t11, t12, (wr .i64 (t13 + 1)), ()), (b1, ())))))))
 (some (.inr (.inl ((t3, ()), ())))))
def Cj := Dc fun x : ((Unit × RK) × Se) => Sd x.1.1 x.1.2.1 x.1.2.2.1 x.1.2.2.2.1 x.1.2.2.2.2.1 x.2.1
def Eh (a0 : Aa) : Option Dl :=
 (ob (Jj a0) fun r1 =>
 (cond (!r1.1)
 (some ((-1), ()))
 (ob (Cj (((), (-1), a0.1, ((ln a0.1 : Nat) : Int), 0, ()), (a0, ()))) (se (fun y20 => (some (y20.1.1, ()))) (fun z21 => none)))))
def Wh (a0 : Int) (a1 : Int) : Option Xj :=
 (cond (decide (a0 ≥ 0))
 (cond (decide (a0 < 4))
 (cond (decide (a1 ≥ 0))
 (some ((decide (a1 ≤ 9999)), ()))
 (some (false, ())))
 (some (false, ())))
 (some (false, ())))
def Ll (a0 : Int) (a1 : Int) (a2 : Int) : Option Dl :=
 (ob (Wh a0 a1) fun r1 =>
 (cond (!r1.1)
 (some (65535, ()))
 (cond (decide (a2 < 1))
 (some (65535, ()))
 (cond (decide (a2 > 60000))
 (some (65535, ()))
 (cond ((60000 : Int) == 0)
 none
 (some ((Int.tmod (wr .i64 ((wr .i64 ((wr .i64 ((wr .i64 (7 * a0)) + (wr .i64 (13 * a1)))) + (wr .i64 (31 * a2)))) + 5)) 60000), ())))))))
def Oh (t1 : Int) (t7 : Rf) (t8 : Int) : Option (((Int × Nx) × Unit) ⊕ (Cm ⊕ (FB × Unit))) :=
 (cond (decide (t8 ≥ 0))
 (cond (Sf (ln t7) (wr .i64 (1 + (wr .i64 (3 * t8)))) (wr .i64 (4 + (wr .i64 (3 * t8)))))
 (ob (Kb (Yc t7 (tn (wr .i64 (1 + (wr .i64 (3 * t8))))) (tn (wr .i64 (4 + (wr .i64 (3 * t8)))))) 0) fun x23 =>
 (ob (Kb (Yc t7 (tn (wr .i64 (1 + (wr .i64 (3 * t8))))) (tn (wr .i64 (4 + (wr .i64 (3 * t8)))))) 1) fun x24 =>
 (ob (Wh x23 x24) fun r25 =>
 (cond r25.1
 (ob (Kb (Yc t7 (tn (wr .i64 (1 + (wr .i64 (3 * t8))))) (tn (wr .i64 (4 + (wr .i64 (3 * t8)))))) 0) fun x26 =>
 (cond (x26 == t1)
 (ob (Kb (Yc t7 (tn (wr .i64 (1 + (wr .i64 (3 * t8))))) (tn (wr .i64 (4 + (wr .i64 (3 * t8)))))) 2) fun x27 =>
 (ob (Kb (Yc t7 (tn (wr .i64 (1 + (wr .i64 (3 * t8))))) (tn (wr .i64 (4 + (wr .i64 (3 * t8)))))) 0) fun x28 =>
 (ob (Kb (Yc t7 (tn (wr .i64 (1 + (wr .i64 (3 * t8))))) (tn (wr .i64 (4 + (wr .i64 (3 * t8)))))) 1) fun x29 =>
 (ob (Kb t7 0) fun x30 =>
 (ob (Ll x28 x29 x30) fun r31 =>
 (cond (x27 == r31.1)
 (ob (Kb (Yc t7 (tn (wr .i64 (1 + (wr .i64 (3 * t8))))) (tn (wr .i64 (4 + (wr .i64 (3 * t8)))))) 1) fun x32 =>
 (some (.inr (.inr ((x32, true, ()), ())))))
 (some (.inl ((t1, t7, (wr .i64 (t8 - 1)), ()), ())))))))))
 (some (.inl ((t1, t7, (wr .i64 (t8 - 1)), ()), ())))))
 (some (.inl ((t1, t7, (wr .i64 (t8 - 1)), ()), ())))))))
 none)
 (some (.inr (.inl ((), ())))))
def Be := Dc fun x : ((Int × Nx) × Unit) => Oh x.1.1 x.1.2.1 x.1.2.2.1
def Za (a0 : Aa) (a1 : Int) : Option FB :=
 (ob (Eh a0) fun r1 =>
 (cond (decide (r1.1 < 0))
 (some (0, false, ()))
 (ob (Kb a0.1 r1.1) fun x2 =>
 (ob (Be ((a1, x2, 5, ()), ())) (se (fun y33 => (some (0, false, ()))) (fun z34 => (some z34.1)))))))
def Ka (a0 : Aa) : Option GB :=
 (ob (Za a0 0) fun r1 =>
 (cond r1.2.1
 (cond (decide (r1.1 ≥ 1))
 (cond (decide (r1.1 ≤ 1000))
 (ob (Za a0 1) fun r2 =>
 (cond r2.2.1
 (cond (decide (r2.1 ≤ 1000))
 (ob (Za a0 2) fun r3 =>
 (cond r3.2.1
 (cond (decide (r3.1 ≤ 2))
 (some ((r1.1, r2.1, r3.1, ()), ()))
 (some ((r1.1, r2.1, 0, ()), ())))
 (some ((r1.1, r2.1, 0, ()), ()))))
 (ob (Za a0 2) fun r4 =>
 (cond r4.2.1
 (cond (decide (r4.1 ≤ 2))
 (some ((r1.1, 100, r4.1, ()), ()))
 (some ((r1.1, 100, 0, ()), ())))
 (some ((r1.1, 100, 0, ()), ())))))
 (ob (Za a0 2) fun r5 =>
 (cond r5.2.1
 (cond (decide (r5.1 ≤ 2))
 (some ((r1.1, 100, r5.1, ()), ()))
 (some ((r1.1, 100, 0, ()), ())))
 (some ((r1.1, 100, 0, ()), ()))))))
 (ob (Za a0 1) fun r6 =>
 (cond r6.2.1
 (cond (decide (r6.1 ≤ 1000))
 (ob (Za a0 2) fun r7 =>
 (cond r7.2.1
 (cond (decide (r7.1 ≤ 2))
 (some ((200, r6.1, r7.1, ()), ()))
 (some ((200, r6.1, 0, ()), ())))
 (some ((200, r6.1, 0, ()), ()))))
 (ob (Za a0 2) fun r8 =>
 (cond r8.2.1
 (cond (decide (r8.1 ≤ 2))
 (some ((200, 100, r8.1, ()), ()))
 (some ((200, 100, 0, ()), ())))
 (some ((200, 100, 0, ()), ())))))
 (ob (Za a0 2) fun r9 =>
 (cond r9.2.1
 (cond (decide (r9.1 ≤ 2))
 (some ((200, 100, r9.1, ()), ()))
 (some ((200, 100, 0, ()), ())))
 (some ((200, 100, 0, ()), ())))))))
 (ob (Za a0 1) fun r10 =>
 (cond r10.2.1
 (cond (decide (r10.1 ≤ 1000))
 (ob (Za a0 2) fun r11 =>
 (cond r11.2.1
 (cond (decide (r11.1 ≤ 2))
 (some ((200, r10.1, r11.1, ()), ()))
 (some ((200, r10.1, 0, ()), ())))
 (some ((200, r10.1, 0, ()), ()))))
 (ob (Za a0 2) fun r12 =>
 (cond r12.2.1
 (cond (decide (r12.1 ≤ 2))
 (some ((200, 100, r12.1, ()), ()))
 (some ((200, 100, 0, ()), ())))
 (some ((200, 100, 0, ()), ())))))
 (ob (Za a0 2) fun r13 =>
 (cond r13.2.1
 (cond (decide (r13.1 ≤ 2))
 (some ((200, 100, r13.1, ()), ()))
 (some ((200, 100, 0, ()), ())))
 (some ((200, 100, 0, ()), ())))))))
 (ob (Za a0 1) fun r14 =>
 (cond r14.2.1
 (cond (decide (r14.1 ≤ 1000))
 (ob (Za a0 2) fun r15 =>
 (cond r15.2.1
 (cond (decide (r15.1 ≤ 2))
 (some ((200, r14.1, r15.1, ()), ()))
 (some ((200, r14.1, 0, ()), ())))
 (some ((200, r14.1, 0, ()), ()))))
 (ob (Za a0 2) fun r16 =>
 (cond r16.2.1
 (cond (decide (r16.1 ≤ 2))
 (some ((200, 100, r16.1, ()), ()))
 (some ((200, 100, 0, ()), ())))
 (some ((200, 100, 0, ()), ())))))
 (ob (Za a0 2) fun r17 =>
 (cond r17.2.1
 (cond (decide (r17.1 ≤ 2))
 (some ((200, 100, r17.1, ()), ()))
 (some ((200, 100, 0, ()), ())))
 (some ((200, 100, 0, ()), ()))))))))
def Zk (a0 : Rf) (a1 : Int) (a2 : Int) : Option Dl :=
 (ob (Pk a0 a1) fun r1 =>
 (ob (Nd r1 a2) fun r2 =>
 (some (r2.2.1, ()))))
def Wm (a0 : Uc) : Option Xj :=
 (ob (Bd a0.1 1 1000) fun r1 =>
 (cond r1.1
 (ob (Bd a0.2.1 0 1000) fun r2 =>
 (cond r2.1
 (ob (Bd a0.2.2.1 0 2) fun r3 =>
 (some (r3.1, ())))
 (some (false, ()))))
 (some (false, ()))))
def Gj (t0 : Unit) (t1 : Unit) (t2 : Int) (b0 : Aa) (b1 : Aa) : Option (((Unit × Wj) × Tk) ⊕ (EB ⊕ Cm)) :=
 (cond (decide (t2 < 19))
 (cond (Je (ln b1.1) 0)
 (ob b1.1[(tn 0)]? fun x5 =>
 (cond (bl (ln x5 + ln ([65535] : List Int)) Bh)
 (cond (Je (ln b1.1) 0)
 (cond (Nat.beq (tn 0) (tn 0))
 (cond (Je (ln (ls b1.1 (tn 0) (ap x5 ([65535] : List Int)))) 1)
 (ob (ls b1.1 (tn 0) (ap x5 ([65535] : List Int)))[(tn 1)]? fun x6 =>
 (cond (bl (ln x6 + ln ([65535] : List Int)) Bh)
 (cond (Je (ln (ls b1.1 (tn 0) (ap x5 ([65535] : List Int)))) 1)
 (cond (Nat.beq (tn 1) (tn 1))
 (some (.inl (((), (), (wr .i64 (t2 + 1)), ()), (b0, ((ls (ls b1.1 (tn 0) (ap x5 ([65535] : List Int))) (tn 1) (ap x6 ([65535] : List Int))), b1.2.1, ()), ()))))
 none)
 none)
 none))
 none)
 none)
 none)
 none))
 none)
 (some (.inr (.inl (((), (), ()), (b0, b1, ()))))))
def Hk := Dc fun x : ((Unit × Wj) × Tk) => Gj x.1.1 x.1.2.1 x.1.2.2.1 x.2.1 x.2.2.1
def Xm : Option Se :=
 (ob (Hk (((), (), 0, ()), (([], [], ()), (([[], []] : List Rf), ([0, 0] : List Int), ()), ()))) (se (fun y7 => (cond (Je (ln y7.2.2.1.1) 0)
 (ob y7.2.2.1.1[(tn 0)]? fun x9 =>
 (cond (Je (ln x9) 0)
 (ob x9[(tn 0)]? fun x10 =>
 (some (((ls y7.2.2.1.1 (tn 0) (ls x9 (tn 0) 1)), y7.2.2.1.2.1, ()), ())))
 none))
 none)) (fun z8 => none)))
def Lg (t1 : Int) (t2 : Unit) (t5 : Int) (t6 : Int) (t7 : Int) (b2 : Aa) : Option (((Int × QK) × Se) ⊕ (((Int × Wj) × Se) ⊕ (Dl × Unit))) :=
 (cond (decide (t7 ≤ 3))
 (ob (Kb b2.1 t1) fun x23 =>
 (ob (Kb x23 (wr .i64 ((wr .i64 (3 * t6)) + t7))) fun x24 =>
 (cond (x24 != 65535)
 (some (.inr (.inr ((t5, ()), ()))))
 (some (.inl ((t1, (), t5, t6, (wr .i64 (t7 + 1)), ()), (b2, ())))))))
 (some (.inr (.inl ((t1, (), t6, ()), (b2, ()))))))
def Zg := Dc fun x : ((Int × QK) × Se) => Lg x.1.1 x.1.2.1 x.1.2.2.1 x.1.2.2.2.1 x.1.2.2.2.2.1 x.2.1
def Kg (t1 : Int) (t2 : Unit) (t5 : Int) (t6 : Int) (b2 : Aa) : Option (((Int × Iv) × Se) ⊕ ((Dl × Unit) ⊕ (Dl × Unit))) :=
 (cond (decide (t6 ≥ 0))
 (ob (Zg ((t1, (), t5, t6, 1, ()), (b2, ()))) (se (fun y25 => (some (.inl ((y25.1.1, (), y25.1.2.2.1, (wr .i64 (y25.1.2.2.1 - 1)), ()), (y25.2.1, ()))))) (fun z26 => (some (.inr (.inr ((z26.1.1, ()), ())))))))
 (some (.inr (.inl ((t5, ()), ())))))
def Ie := Dc fun x : ((Int × Iv) × Se) => Kg x.1.1 x.1.2.1 x.1.2.2.1 x.1.2.2.2.1 x.2.1
def Yk (a0 : Aa) (a1 : Int) : Option Dl :=
 (ob (Ch a0) fun r1 =>
 (cond (!r1.1)
 (some ((-1), ()))
 (ob (Bd a1 0 1) fun r2 =>
 (cond (!r2.1)
 (some ((-1), ()))
 (ob (Ie ((a1, (), 6, 5, ()), (a0, ()))) (se (fun y27 => (some (y27.1.1, ()))) (fun z28 => (some (z28.1.1, ())))))))))
def Lf (a0 : Int) (a1 : Int) (a2 : Int) (a3 : Int) (a4 : Int) : Option (Jf × Unit) :=
 (ob (Ql a2 a3 a4) fun r1 =>
 (cond (bl (ln ([(false, a0, (wr .i64 (1 + (wr .i64 (3 * a1)))), a2, ()), (false, a0, (wr .i64 (2 + (wr .i64 (3 * a1)))), a3, ())] : List Ra) + ln ([(false, a0, (wr .i64 (3 + (wr .i64 (3 * a1)))), r1.1, ())] : List Ra)) Bh)
 (some ((ap ([(false, a0, (wr .i64 (1 + (wr .i64 (3 * a1)))), a2, ()), (false, a0, (wr .i64 (2 + (wr .i64 (3 * a1)))), a3, ())] : List Ra) ([(false, a0, (wr .i64 (3 + (wr .i64 (3 * a1)))), r1.1, ())] : List Ra)), ()))
 none))
def Rh (t1 : Int) (t2 : Int) (t3 : Unit) (t8 : Int) (t10 : Int) (t11 : Jf) (t12 : Int) (t13 : Int) (b3 : Aa) : Option UK :=
 (cond (decide (t13 < 4))
 (ob (Di b3 t13) fun r19 =>
 (cond (t13 == t1)
 (cond r19.2.1
 (ob (Lf (wr .i64 (1 - t8)) t12 t13 t2 (wr .i64 (t10 + 1))) fun r20 =>
 (cond (bl (ln t11 + ln r20.1) Bh)
 (some (.inl ((t1, t2, (), t8, t10, (ap t11 r20.1), (wr .i64 (t12 + 1)), (wr .i64 (t13 + 1)), ()), (b3, ()))))
 none))
 (cond (t13 == t1)
 (ob (Lf (wr .i64 (1 - t8)) t12 t13 t2 (wr .i64 (t10 + 1))) fun r21 =>
 (cond (bl (ln t11 + ln r21.1) Bh)
 (some (.inl ((t1, t2, (), t8, t10, (ap t11 r21.1), (wr .i64 (t12 + 1)), (wr .i64 (t13 + 1)), ()), (b3, ()))))
 none))
 (some (.inl ((t1, t2, (), t8, t10, t11, t12, (wr .i64 (t13 + 1)), ()), (b3, ()))))))
 (cond r19.2.1
 (ob (Lf (wr .i64 (1 - t8)) t12 t13 r19.1 (wr .i64 (t10 + 1))) fun r22 =>
 (cond (bl (ln t11 + ln r22.1) Bh)
 (some (.inl ((t1, t2, (), t8, t10, (ap t11 r22.1), (wr .i64 (t12 + 1)), (wr .i64 (t13 + 1)), ()), (b3, ()))))
 none))
 (cond (t13 == t1)
 (ob (Lf (wr .i64 (1 - t8)) t12 t13 r19.1 (wr .i64 (t10 + 1))) fun r23 =>
 (cond (bl (ln t11 + ln r23.1) Bh)
 (some (.inl ((t1, t2, (), t8, t10, (ap t11 r23.1), (wr .i64 (t12 + 1)), (wr .i64 (t13 + 1)), ()), (b3, ()))))
 none))
 (some (.inl ((t1, t2, (), t8, t10, t11, t12, (wr .i64 (t13 + 1)), ()), (b3, ()))))))))
 (some (.inr (.inl ((t8, t10, t11, ()), ())))))
def Ze := Dc fun x : OE => Rh x.1.1 x.1.2.1 x.1.2.2.1 x.1.2.2.2.1 x.1.2.2.2.2.1 x.1.2.2.2.2.2.1 x.1.2.2.2.2.2.2.1 x.1.2.2.2.2.2.2.2.1 x.2.1
def Qe (a0 : Aa) (a1 : Int) (a2 : Int) : Option (Jf × Xj) :=
 (ob (Fh a0) fun r1 =>
 (cond (decide (r1.1 < 0))
 (some ([], false, ()))
 (ob (Bd a1 0 3) fun r2 =>
 (cond (!r2.1)
 (some ([], false, ()))
 (ob (Bd a2 0 9999) fun r3 =>
 (cond (!r3.1)
 (some ([], false, ()))
 (ob (Yk a0 r1.1) fun r4 =>
 (ob (Kb a0.1 r1.1) fun x5 =>
 (ob (Kb x5 0) fun x6 =>
 (cond (decide (r4.1 < 6))
 (ob (Lf r1.1 r4.1 a1 a2 x6) fun r7 =>
 (some (r7.1, true, ())))
 (cond (x6 == 60000)
 (some ([], false, ()))
 (ob (Kb a0.2.1 (wr .i64 (1 - r1.1))) fun x8 =>
 (cond (x8 == 1000)
 (some ([], false, ()))
 (ob (Ze ((a1, a2, (), r1.1, x6, ([(true, (wr .i64 (1 - r1.1)), 0, 0, ())] : List Ra), 0, 0, ()), (a0, ()))) (se (fun y24 => (cond (bl (ln y24.1.2.2.1 + ln ([(false, (wr .i64 (1 - y24.1.1)), 0, (wr .i64 (y24.1.2.1 + 1)), ())] : List Ra)) Bh)
 (some ((ap y24.1.2.2.1 ([(false, (wr .i64 (1 - y24.1.1)), 0, (wr .i64 (y24.1.2.1 + 1)), ())] : List Ra)), true, ()))
 none)) (fun z25 => none))))))))))))))))
def Jk (t1 : Unit) (t2 : Unit) (t3 : Unit) (t4 : Int) (b1 : Aa) (b2 : Aa) (b3 : Aa) : Option ((Jv × (Aa × Tk)) ⊕ (EB ⊕ Cm)) :=
 (cond (decide (t4 < ((ln b1.1 : Nat) : Int)))
 (ob (Kb b1.1 t4) fun x4 =>
 (cond (bl (ln ([] : List Int) + ln x4) Bh)
 (cond (bl (ln b3.1 + ln ([(ap [] x4)] : List Rf)) Bh)
 (some (.inl (((), (), (), (wr .i64 (t4 + 1)), ()), (b1, b2, ((ap b3.1 ([(ap [] x4)] : List Rf)), b3.2.1, ()), ()))))
 none)
 none))
 (some (.inr (.inl (((), (), ()), (b2, b3, ()))))))
def Rk := Dc fun x : (Jv × (Aa × Tk)) => Jk x.1.1 x.1.2.1 x.1.2.2.1 x.1.2.2.2.1 x.2.1 x.2.2.1 x.2.2.2.1
def Rj (a0 : Aa) : Option Se :=
 (cond (bl (ln ([] : List Int) + ln a0.2.1) Bh)
 (ob (Rk (((), (), (), 0, ()), (a0, ([], [], ()), ([], (ap [] a0.2.1), ()), ()))) (se (fun y5 => (some (y5.2.2.1, ()))) (fun z6 => none)))
 none)
def Gk (t3 : Unit) (t4 : Unit) (t6 : Unit) (t7 : Int) (b3 : Ra) (b4 : Aa) (b6 : Aa) : Option ((Jv × (Ra × Tk)) ⊕ ((HB × (Ra × Tk)) ⊕ Cm)) :=
 (cond (decide (t7 < 19))
 (cond (Je (ln b6.1) b3.2.1)
 (ob b6.1[(tn b3.2.1)]? fun x8 =>
 (cond (Je (ln x8) t7)
 (ob x8[(tn t7)]? fun x9 =>
 (some (.inl (((), (), (), (wr .i64 (t7 + 1)), ()), (b3, b4, ((ls b6.1 (tn b3.2.1) (ls x8 (tn t7) 65535)), b6.2.1, ()), ())))))
 none))
 none)
 (some (.inr (.inl (((), (), (), ()), (b3, b4, b6, ()))))))
def Jg := Dc fun x : (Jv × (Ra × Tk)) => Gk x.1.1 x.1.2.1 x.1.2.2.1 x.1.2.2.2.1 x.2.1 x.2.2.1 x.2.2.2.1
def Ci (a0 : Aa) (a1 : Ra) : Option Tp :=
 (ob (Ch a0) fun r1 =>
 (cond (!r1.1)
 (some (([], [], ()), false, ()))
 (ob (Bd a1.2.1 0 1) fun r2 =>
 (cond (!r2.1)
 (some (([], [], ()), false, ()))
 (ob (Rj a0) fun r3 =>
 (cond a1.1
 (ob (Jg (((), (), (), 0, ()), (a1, ([], [], ()), r3.1, ()))) (se (fun y10 => (cond (Je (ln y10.2.2.2.1.2.1) y10.2.1.2.1)
 (ob y10.2.2.2.1.2.1[(tn y10.2.1.2.1)]? fun x12 =>
 (cond (Je (ln y10.2.2.2.1.2.1) y10.2.1.2.1)
 (ob y10.2.2.2.1.2.1[(tn y10.2.1.2.1)]? fun x13 =>
 (cond (y10.2.1.2.2.1 != 0)
 (some (([], [], ()), false, ()))
 (cond (y10.2.1.2.2.2.1 != 0)
 (some (([], [], ()), false, ()))
 (ob (Ch (y10.2.2.2.1.1, (ls y10.2.2.2.1.2.1 (tn y10.2.1.2.1) (wr .i64 (x12 + 1))), ())) fun r14 =>
 (cond (!r14.1)
 (some (([], [], ()), false, ()))
 (some ((y10.2.2.2.1.1, (ls y10.2.2.2.1.2.1 (tn y10.2.1.2.1) (wr .i64 (x12 + 1))), ()), true, ())))))))
 none))
 none)) (fun z11 => none)))
 (ob (Bd a1.2.2.1 0 18) fun r15 =>
 (cond (!r15.1)
 (some (([], [], ()), false, ()))
 (ob (Bd a1.2.2.2.1 0 65534) fun r16 =>
 (cond (!r16.1)
 (some (([], [], ()), false, ()))
 (ob (Kb a0.1 a1.2.1) fun x17 =>
 (ob (Kb x17 a1.2.2.1) fun x18 =>
 (cond (x18 != 65535)
 (some (([], [], ()), false, ()))
 (cond (Je (ln r3.1.1) a1.2.1)
 (ob r3.1.1[(tn a1.2.1)]? fun x19 =>
 (cond (Je (ln x19) a1.2.2.1)
 (ob x19[(tn a1.2.2.1)]? fun x20 =>
 (some (((ls r3.1.1 (tn a1.2.1) (ls x19 (tn a1.2.2.1) a1.2.2.2.1)), r3.1.2), true, ())))
 none))
 none))))))))))))))
def Ji (t3 : Int) (t8 : Unit) (t10 : Jf) (t12 : Unit) (t13 : Int) (b8 : Aa) (b12 : Aa) : Option (DB ⊕ RE) :=
 (cond (decide (t13 < t3))
 (cond (Je (ln t10) t13)
 (ob t10[(tn t13)]? fun x8 =>
 (ob (Ci b12 x8) fun r9 =>
 (cond (!r9.2.1)
 (some (.inr (.inr (((), false, ()), (([], [], ()), ())))))
 (some (.inl ((t3, (), t10, (), (wr .i64 (t13 + 1)), ()), (b8, r9.1, ())))))))
 none)
 (some (.inr (.inl (((), (), ()), (b8, b12, ()))))))
def He := Dc fun x : DB => Ji x.1.1 x.1.2.1 x.1.2.2.1 x.1.2.2.2.1 x.1.2.2.2.2.1 x.2.1 x.2.2.1
def Zd (a0 : Aa) (a1 : Int) (a2 : Int) (a3 : Int) : Option Tp :=
 (ob (Qe a0 a1 a2) fun r1 =>
 (cond (!r1.2.1)
 (some (([], [], ()), false, ()))
 (ob (Bd a3 0 ((ln r1.1 : Nat) : Int)) fun r2 =>
 (cond (!r2.1)
 (some (([], [], ()), false, ()))
 (ob (Rj a0) fun r3 =>
 (ob (He ((a3, (), r1.1, (), 0, ()), (([], [], ()), r3.1, ()))) (se (fun y10 => (some (y10.2.2.1, true, ()))) (fun z11 => (some (z11.2.1, z11.1.2.1, ()))))))))))
def Ei (t0 : Unit) (t1 : Bool) (t4 : Unit) (t5 : Unit) (t6 : Int) (b500000 : Zb) (b4 : Aa) (b5 : Aa) : Option (((Unit × (Bool × (Unit × Wj))) × Kv) ⊕ ((HB × Kv) ⊕ Cm)) :=
 (cond (decide (t6 > 0))
 (ob (Nd b500000 4) fun r19 =>
 (ob (Nd r19.1 10000) fun r20 =>
 (ob (Qe b5 r19.2.1 r20.2.1) fun r21 =>
 (cond t1
 (ob (Om r20.1 4) fun r22 =>
 (cond r22.2.1
 (ob (Nd r22.1 (wr .i64 (((ln r21.1 : Nat) : Int) + 1))) fun r23 =>
 (ob (Zd b5 r19.2.1 r20.2.1 r23.2.1) fun r24 =>
 (cond r24.2.1
 (some (.inl (((), t1, (), (), (wr .i64 (t6 - 1)), ()), (r23.1, b4, r24.1, ()))))
 (some (.inl (((), t1, (), (), (wr .i64 (t6 - 1)), ()), (r23.1, b4, b5, ())))))))
 (ob (Zd b5 r19.2.1 r20.2.1 ((ln r21.1 : Nat) : Int)) fun r25 =>
 (cond r25.2.1
 (some (.inl (((), t1, (), (), (wr .i64 (t6 - 1)), ()), (r22.1, b4, r25.1, ()))))
 (some (.inl (((), t1, (), (), (wr .i64 (t6 - 1)), ()), (r22.1, b4, b5, ()))))))))
 (ob (Zd b5 r19.2.1 r20.2.1 ((ln r21.1 : Nat) : Int)) fun r26 =>
 (cond r26.2.1
 (some (.inl (((), t1, (), (), (wr .i64 (t6 - 1)), ()), (r20.1, b4, r26.1, ()))))
 (some (.inl (((), t1, (), (), (wr .i64 (t6 - 1)), ()), (r20.1, b4, b5, ()))))))))))
 (some (.inr (.inl (((), (), (), ()), (b500000, b4, b5, ()))))))
def Ng := Dc fun x : ((Unit × (Bool × (Unit × Wj))) × Kv) => Ei x.1.1 x.1.2.1 x.1.2.2.1 x.1.2.2.2.1 x.1.2.2.2.2.1 x.2.1 x.2.2.1 x.2.2.2.1
def Un (a0 : Zb) (a1 : Bool) : Option (Zb × Se) :=
 (ob Xm fun r1 =>
 (ob (Nd a0 14) fun r2 =>
 (ob (Ng (((), a1, (), (), r2.2.1, ()), (r2.1, ([], [], ()), r1.1, ()))) (se (fun y27 => (some (y27.2.1, (y27.2.2.2.1, ())))) (fun z28 => none)))))
def Am (a0 : Zb) : Option (Zb × GB) :=
 (ob (Rg a0 ([1, 150, 200, 1000] : List Int)) fun r1 =>
 (ob (Rg r1.1 ([0, 100, 120, 1000] : List Int)) fun r2 =>
 (ob (Nd r2.1 3) fun r3 =>
 (ob (Om r3.1 10) fun r4 =>
 (cond r4.2.1
 (ob (Rg r4.1 ([(-1), 3] : List Int)) fun r5 =>
 (some (r5.1, ((r1.2.1, r2.2.1, r5.2.1, ()), ()))))
 (some (r4.1, ((r1.2.1, r2.2.1, r3.2.1, ()), ()))))))))
def Mh (a0 : Aa) (a1 : Int) (a2 : Int) : Option Tp :=
 (ob (Qe a0 a1 a2) fun r1 =>
 (ob (Zd a0 a1 a2 ((ln r1.1 : Nat) : Int)) fun r2 =>
 (some r2)))
def Ik (t6 : Jf) (t7 : Unit) (t8 : Rf) (t9 : Int) (b7 : Aa) : Option (((Jf × (Unit × Nx)) × Se) ⊕ (((Jf × Unit) × Unit) ⊕ ((Jf × Xj) × Unit))) :=
 (cond (decide (t9 < ((ln t8 : Nat) : Int)))
 (ob (Di b7 t9) fun r33 =>
 (cond r33.2.1
 (cond (Je (ln t8) t9)
 (ob t8[(tn t9)]? fun x34 =>
 (cond (r33.1 == x34)
 (some (.inl ((t6, (), t8, (wr .i64 (t9 + 1)), ()), (b7, ()))))
 (cond (Je (ln t8) t9)
 (ob t8[(tn t9)]? fun x35 =>
 (ob (Qe b7 t9 x35) fun r36 =>
 (cond (Je (ln t8) t9)
 (ob t8[(tn t9)]? fun x37 =>
 (ob (Mh b7 t9 x37) fun r38 =>
 (cond (!r36.2.1)
 (some (.inr (.inr (([], false, ()), ()))))
 (cond (!r38.2.1)
 (some (.inr (.inr (([], false, ()), ()))))
 (cond (bl (ln t6 + ln r36.1) Bh)
 (some (.inl (((ap t6 r36.1), (), t8, (wr .i64 (t9 + 1)), ()), (r38.1, ()))))
 none)))))
 none)))
 none)))
 none)
 (cond (Je (ln t8) t9)
 (ob t8[(tn t9)]? fun x39 =>
 (ob (Qe b7 t9 x39) fun r40 =>
 (cond (Je (ln t8) t9)
 (ob t8[(tn t9)]? fun x41 =>
 (ob (Mh b7 t9 x41) fun r42 =>
 (cond (!r40.2.1)
 (some (.inr (.inr (([], false, ()), ()))))
 (cond (!r42.2.1)
 (some (.inr (.inr (([], false, ()), ()))))
 (cond (bl (ln t6 + ln r40.1) Bh)
 (some (.inl (((ap t6 r40.1), (), t8, (wr .i64 (t9 + 1)), ()), (r42.1, ()))))
 none)))))
 none)))
 none)))
 (some (.inr (.inl ((t6, ()), ())))))
def Mg := Dc fun x : ((Jf × (Unit × Nx)) × Se) => Ik x.1.1 x.1.2.1 x.1.2.2.1 x.1.2.2.2.1 x.2.1
def Rl (a0 : Aa) (a1 : Uc) : Option (Jf × Xj) :=
 (ob (Wm a1) fun r1 =>
 (cond (!r1.1)
 (some ([], false, ()))
 (ob (Fh a0) fun r2 =>
 (cond (decide (r2.1 < 0))
 (some ([], false, ()))
 (ob (Mg (([], (), ([a1.1, a1.2.1, a1.2.2.1] : List Int), 0, ()), (a0, ()))) (se (fun y43 => (some (y43.1.1, true, ()))) (fun z44 => (some z44.1))))))))
def Fk (t2 : Int) (t6 : Unit) (t8 : Jf) (t10 : Unit) (t11 : Int) (b6 : Aa) (b10 : Aa) : Option (DB ⊕ RE) :=
 (cond (decide (t11 < t2))
 (cond (Je (ln t8) t11)
 (ob t8[(tn t11)]? fun x8 =>
 (ob (Ci b10 x8) fun r9 =>
 (cond (!r9.2.1)
 (some (.inr (.inr (((), false, ()), (([], [], ()), ())))))
 (some (.inl ((t2, (), t8, (), (wr .i64 (t11 + 1)), ()), (b6, r9.1, ())))))))
 none)
 (some (.inr (.inl (((), (), ()), (b6, b10, ()))))))
def Ig := Dc fun x : DB => Fk x.1.1 x.1.2.1 x.1.2.2.1 x.1.2.2.2.1 x.1.2.2.2.2.1 x.2.1 x.2.2.1
def Sn (a0 : Aa) (a1 : Uc) (a2 : Int) : Option Tp :=
 (ob (Rl a0 a1) fun r1 =>
 (cond (!r1.2.1)
 (some (([], [], ()), false, ()))
 (ob (Bd a2 0 ((ln r1.1 : Nat) : Int)) fun r2 =>
 (cond (!r2.1)
 (some (([], [], ()), false, ()))
 (ob (Rj a0) fun r3 =>
 (ob (Ig ((a2, (), r1.1, (), 0, ()), (([], [], ()), r3.1, ()))) (se (fun y10 => (some (y10.2.2.1, true, ()))) (fun z11 => (some (z11.2.1, z11.1.2.1, ()))))))))))
def Xi (a0 : Aa) (a1 : Uc) : Option Tp :=
 (ob (Rl a0 a1) fun r1 =>
 (ob (Sn a0 a1 ((ln r1.1 : Nat) : Int)) fun r2 =>
 (some r2)))
def Nh (t0 : Unit) (t2 : Unit) (t3 : Unit) (t4 : Int) (b500000 : Zb) (b2 : Aa) (b3 : Aa) : Option ((Jv × Kv) ⊕ ((HB × Kv) ⊕ Cm)) :=
 (cond (decide (t4 > 0))
 (ob (Am b500000) fun r7 =>
 (ob (Xi b3 r7.2.1) fun r8 =>
 (cond r8.2.1
 (some (.inl (((), (), (), (wr .i64 (t4 - 1)), ()), (r7.1, b2, r8.1, ()))))
 (some (.inl (((), (), (), (wr .i64 (t4 - 1)), ()), (r7.1, b2, b3, ())))))))
 (some (.inr (.inl (((), (), (), ()), (b500000, b2, b3, ()))))))
def Uf := Dc fun x : (Jv × Kv) => Nh x.1.1 x.1.2.1 x.1.2.2.1 x.1.2.2.2.1 x.2.1 x.2.2.1 x.2.2.2.1
def Pp (a0 : Zb) : Option (Zb × Se) :=
 (ob (Un a0 true) fun r1 =>
 (ob (Nd r1.1 4) fun r2 =>
 (ob (Uf (((), (), (), r2.2.1, ()), (r2.1, ([], [], ()), r1.2.1, ()))) (se (fun y9 => (some (y9.2.1, (y9.2.2.2.1, ())))) (fun z10 => none)))))
def Zl (a0 : Rf) : Option Se :=
 (ob (Pk a0 18) fun r1 =>
 (ob (Pp r1) fun r2 =>
 (some (r2.2.1, ()))))
def Fg (t1 : Int) (t2 : Unit) (t5 : Int) (b2 : Aa) : Option (((Int × Wj) × Se) ⊕ NE) :=
 (cond (decide (t5 > 0))
 (ob (Kb b2.1 t1) fun x10 =>
 (cond (Sf (ln x10) (wr .i64 ((wr .i64 (3 * t5)) - 2)) (wr .i64 ((wr .i64 (3 * t5)) + 1)))
 (ob (Kb (Yc x10 (tn (wr .i64 ((wr .i64 (3 * t5)) - 2))) (tn (wr .i64 ((wr .i64 (3 * t5)) + 1)))) 0) fun x11 =>
 (cond (x11 != 65535)
 (some (.inr (.inl ((t5, ()), ()))))
 (ob (Kb (Yc x10 (tn (wr .i64 ((wr .i64 (3 * t5)) - 2))) (tn (wr .i64 ((wr .i64 (3 * t5)) + 1)))) 1) fun x12 =>
 (cond (x12 != 65535)
 (some (.inr (.inl ((t5, ()), ()))))
 (ob (Kb (Yc x10 (tn (wr .i64 ((wr .i64 (3 * t5)) - 2))) (tn (wr .i64 ((wr .i64 (3 * t5)) + 1)))) 2) fun x13 =>
 (cond (x13 != 65535)
 (some (.inr (.inl ((t5, ()), ()))))
 (some (.inl ((t1, (), (wr .i64 (t5 - 1)), ()), (b2, ()))))))))))
 none))
 (some (.inr (.inl ((t5, ()), ())))))
def Ge := Dc fun x : ((Int × Wj) × Se) => Fg x.1.1 x.1.2.1 x.1.2.2.1 x.2.1
def Vk (a0 : Aa) (a1 : Int) : Option Dl :=
 (ob (Jj a0) fun r1 =>
 (cond (!r1.1)
 (some ((-1), ()))
 (cond (decide (a1 < 0))
 (some ((-1), ()))
 (cond (decide (a1 > 1))
 (some ((-1), ()))
 (ob (Ge ((a1, (), 6, ()), (a0, ()))) (se (fun y14 => (some (y14.1.1, ()))) (fun z15 => none)))))))
def Ti (t0 : Int) (t1 : Int) (t11 : Jf) (t20 : Rf) (t21 : Int) (t22 : Int) : Option (((Int × (Int × (Jf × Xs))) × Unit) ⊕ (((Jf × Unit) × Unit) ⊕ Cm)) :=
 (cond (decide (t22 < t21))
 (cond (Je (ln t20) t22)
 (ob t20[(tn t22)]? fun x5 =>
 (cond (bl (ln t11 + ln ([(false, t0, (wr .i64 ((wr .i64 (1 + (wr .i64 (3 * t1)))) + t22)), x5, ())] : List Ra)) Bh)
 (some (.inl ((t0, t1, (ap t11 ([(false, t0, (wr .i64 ((wr .i64 (1 + (wr .i64 (3 * t1)))) + t22)), x5, ())] : List Ra)), t20, t21, (wr .i64 (t22 + 1)), ()), ())))
 none))
 none)
 (some (.inr (.inl ((t11, ()), ())))))
def Mj := Dc fun x : ((Int × (Int × (Jf × Xs))) × Unit) => Ti x.1.1 x.1.2.1 x.1.2.2.1 x.1.2.2.2.1 x.1.2.2.2.2.1 x.1.2.2.2.2.2.1
def Xh (a0 : Int) (a1 : Int) (a2 : Int) (a3 : Int) (a4 : Int) : Option (Jf × Unit) :=
 (ob (Ll a2 a3 a4) fun r1 =>
 (ob (Mj ((a0, a1, [], ([a2, a3, r1.1] : List Int), ((ln ([a2, a3, r1.1] : List Int) : Nat) : Int), 0, ()), ())) (se (fun y6 => (some (y6.1.1, ()))) (fun z7 => none))))
def Ph (t1 : Int) (t2 : Int) (t3 : Unit) (t9 : Int) (t11 : Int) (t12 : Jf) (t13 : Int) (t60 : Int) (b3 : Aa) : Option UK :=
 (cond (decide (t60 < 4))
 (ob (Za b3 t60) fun r14 =>
 (cond (t60 == t1)
 (ob (Xh t11 t13 t60 t2 (wr .i64 (t9 + 1))) fun r15 =>
 (cond (bl (ln t12 + ln r15.1) Bh)
 (some (.inl ((t1, t2, (), t9, t11, (ap t12 r15.1), (wr .i64 (t13 + 1)), (wr .i64 (t60 + 1)), ()), (b3, ()))))
 none))
 (cond r14.2.1
 (ob (Xh t11 t13 t60 r14.1 (wr .i64 (t9 + 1))) fun r16 =>
 (cond (bl (ln t12 + ln r16.1) Bh)
 (some (.inl ((t1, t2, (), t9, t11, (ap t12 r16.1), (wr .i64 (t13 + 1)), (wr .i64 (t60 + 1)), ()), (b3, ()))))
 none))
 (some (.inl ((t1, t2, (), t9, t11, t12, t13, (wr .i64 (t60 + 1)), ()), (b3, ())))))))
 (some (.inr (.inl ((t9, t11, t12, ()), ())))))
def Ye := Dc fun x : OE => Ph x.1.1 x.1.2.1 x.1.2.2.1 x.1.2.2.2.1 x.1.2.2.2.2.1 x.1.2.2.2.2.2.1 x.1.2.2.2.2.2.2.1 x.1.2.2.2.2.2.2.2.1 x.2.1
def Ri (a0 : Aa) (a1 : Int) (a2 : Int) : Option (Jf × Xj) :=
 (ob (Eh a0) fun r1 =>
 (cond (decide (r1.1 < 0))
 (some ([], false, ()))
 (ob (Wh a1 a2) fun r2 =>
 (cond (!r2.1)
 (some ([], false, ()))
 (ob (Kb a0.1 r1.1) fun x3 =>
 (ob (Kb x3 0) fun x4 =>
 (ob (Vk a0 r1.1) fun r5 =>
 (cond (decide (r5.1 < 6))
 (ob (Xh r1.1 r5.1 a1 a2 x4) fun r6 =>
 (some (r6.1, true, ())))
 (cond (decide (x4 ≥ 60000))
 (some ([], false, ()))
 (ob (Kb a0.2.1 (wr .i64 (1 - r1.1))) fun x7 =>
 (cond (decide (x7 ≥ 1000))
 (some ([], false, ()))
 (ob (Ye ((a1, a2, (), x4, (wr .i64 (1 - r1.1)), ([(true, (wr .i64 (1 - r1.1)), 0, 0, ())] : List Ra), 0, 0, ()), (a0, ()))) (se (fun y17 => (cond (bl (ln y17.1.2.2.1 + ln ([(false, y17.1.2.1, 0, (wr .i64 (y17.1.1 + 1)), ())] : List Ra)) Bh)
 (some ((ap y17.1.2.2.1 ([(false, y17.1.2.1, 0, (wr .i64 (y17.1.1 + 1)), ())] : List Ra)), true, ()))
 none)) (fun z18 => none))))))))))))))
def Si (t2 : Unit) (t3 : Unit) (t11 : Ys) (t12 : Int) (t13 : Int) (b2 : Aa) (b3 : Aa) : Option (((Unit × (Unit × (Ys × Im))) × Tk) ⊕ (EB ⊕ Cm)) :=
 (cond (decide (t13 < t12))
 (ob (Kb t11 t13) fun x8 =>
 (ob (Lk x8) fun r9 =>
 (cond (bl (ln b3.1 + ln ([r9.1] : List Rf)) Bh)
 (some (.inl (((), (), t11, t12, (wr .i64 (t13 + 1)), ()), (b2, ((ap b3.1 ([r9.1] : List Rf)), b3.2.1, ()), ()))))
 none)))
 (some (.inr (.inl (((), (), ()), (b2, b3, ()))))))
def Lj := Dc fun x : ((Unit × (Unit × (Ys × Im))) × Tk) => Si x.1.1 x.1.2.1 x.1.2.2.1 x.1.2.2.2.1 x.1.2.2.2.2.1 x.2.1 x.2.2.1
def Kj (a0 : Aa) : Option Se :=
 (ob (Lk a0.2.1) fun r1 =>
 (ob (Lj (((), (), a0.1, ((ln a0.1 : Nat) : Int), 0, ()), (([], [], ()), ([], r1.1, ()), ()))) (se (fun y10 => (some (y10.2.2.1, ()))) (fun z11 => none))))
def Zj (t3 : Unit) (t4 : Unit) (t6 : Unit) (t7 : Rf) (t58 : Int) (t59 : Int) (b3 : Ra) (b4 : Aa) (b6 : ((Ys × (Int × (Rf × Rf))) × QE)) : Option (((Unit × (Unit × TK)) × PE) ⊕ ((HB × PE) ⊕ Cm)) :=
 (cond (decide (t59 < t58))
 (cond (Je (ln t7) t59)
 (ob t7[(tn t59)]? fun x16 =>
 (some (.inl (((), (), (), (ls t7 (tn t59) 65535), t58, (wr .i64 (t59 + 1)), ()), (b3, b4, ((b6.1.1, (((tn b6.1.2.1) : Nat) : Int), b6.1.2.2.1, (ls t7 (tn t59) 65535)), b6.2.1, ()), ())))))
 none)
 (some (.inr (.inl (((), (), (), ()), (b3, b4, ((b6.1.1, (((tn b6.1.2.1) : Nat) : Int), b6.1.2.2.1, t7), b6.2.1, ()), ()))))))
def Df := Dc fun x : ((Unit × (Unit × TK)) × PE) => Zj x.1.1 x.1.2.1 x.1.2.2.1 x.1.2.2.2.1 x.1.2.2.2.2.1 x.1.2.2.2.2.2.1 x.2.1 x.2.2.1 x.2.2.2.1
def Ml (a0 : Aa) (a1 : Ra) : Option Tp :=
 (ob (Jj a0) fun r1 =>
 (cond (!r1.1)
 (some (([], [], ()), false, ()))
 (cond (decide (a1.2.1 < 0))
 (some (([], [], ()), false, ()))
 (cond (decide (a1.2.1 > 1))
 (some (([], [], ()), false, ()))
 (ob (Kj a0) fun r2 =>
 (cond (Je (ln r2.1.1) a1.2.1)
 (ob r2.1.1[(tn a1.2.1)]? fun x3 =>
 (cond a1.1
 (cond (a1.2.2.1 != 0)
 (some (([], [], ()), false, ()))
 (cond (a1.2.2.2.1 != 0)
 (some (([], [], ()), false, ()))
 (cond (Je (ln r2.1.2.1) a1.2.1)
 (ob r2.1.2.1[(tn a1.2.1)]? fun x4 =>
 (cond (decide (x4 ≥ 1000))
 (some (([], [], ()), false, ()))
 (cond a1.1
 (ob (Df (((), (), (), x3, ((ln x3 : Nat) : Int), 0, ()), (a1, ([], [], ()), ((r2.1.1, (((tn a1.2.1) : Nat) : Int), x3, x3), r2.1.2), ()))) (se (fun y8 => (cond (Je (ln y8.2.2.2.1.2.1) y8.2.1.2.1)
 (ob y8.2.2.2.1.2.1[(tn y8.2.1.2.1)]? fun x10 =>
 (cond (Je (ln y8.2.2.2.1.2.1) y8.2.1.2.1)
 (ob y8.2.2.2.1.2.1[(tn y8.2.1.2.1)]? fun x11 =>
 (some (((ls y8.2.2.2.1.1.1 (tn y8.2.2.2.1.1.2.1) y8.2.2.2.1.1.2.2.2), (ls y8.2.2.2.1.2.1 (tn y8.2.1.2.1) (wr .i64 (x10 + 1))), ()), true, ())))
 none))
 none)) (fun z9 => none)))
 (cond (decide (a1.2.2.1 < 0))
 (some (([], [], ()), false, ()))
 (cond (decide (a1.2.2.1 ≥ 19))
 (some (([], [], ()), false, ()))
 (cond (decide (a1.2.2.2.1 < 0))
 (some (([], [], ()), false, ()))
 (cond (decide (a1.2.2.2.1 ≥ 65535))
 (some (([], [], ()), false, ()))
 (cond (Je (ln x3) a1.2.2.1)
 (ob x3[(tn a1.2.2.1)]? fun x12 =>
 (cond (x12 != 65535)
 (some (([], [], ()), false, ()))
 (cond (Je (ln x3) a1.2.2.1)
 (ob x3[(tn a1.2.2.1)]? fun x13 =>
 (some (((ls r2.1.1 (tn a1.2.1) (ls x3 (tn a1.2.2.1) a1.2.2.2.1)), r2.1.2), true, ())))
 none)))
 none))))))))
 none)))
 (cond a1.1
 (ob (Df (((), (), (), x3, ((ln x3 : Nat) : Int), 0, ()), (a1, ([], [], ()), ((r2.1.1, (((tn a1.2.1) : Nat) : Int), x3, x3), r2.1.2), ()))) (se (fun y17 => (cond (Je (ln y17.2.2.2.1.2.1) y17.2.1.2.1)
 (ob y17.2.2.2.1.2.1[(tn y17.2.1.2.1)]? fun x19 =>
 (cond (Je (ln y17.2.2.2.1.2.1) y17.2.1.2.1)
 (ob y17.2.2.2.1.2.1[(tn y17.2.1.2.1)]? fun x20 =>
 (some (((ls y17.2.2.2.1.1.1 (tn y17.2.2.2.1.1.2.1) y17.2.2.2.1.1.2.2.2), (ls y17.2.2.2.1.2.1 (tn y17.2.1.2.1) (wr .i64 (x19 + 1))), ()), true, ())))
 none))
 none)) (fun z18 => none)))
 (cond (decide (a1.2.2.1 < 0))
 (some (([], [], ()), false, ()))
 (cond (decide (a1.2.2.1 ≥ 19))
 (some (([], [], ()), false, ()))
 (cond (decide (a1.2.2.2.1 < 0))
 (some (([], [], ()), false, ()))
 (cond (decide (a1.2.2.2.1 ≥ 65535))
 (some (([], [], ()), false, ()))
 (cond (Je (ln x3) a1.2.2.1)
 (ob x3[(tn a1.2.2.1)]? fun x21 =>
 (cond (x21 != 65535)
 (some (([], [], ()), false, ()))
 (cond (Je (ln x3) a1.2.2.1)
 (ob x3[(tn a1.2.2.1)]? fun x22 =>
 (some (((ls r2.1.1 (tn a1.2.1) (ls x3 (tn a1.2.2.1) a1.2.2.2.1)), r2.1.2), true, ())))
 none)))
 none))))))))
 none))))))
def Vl (t4 : Unit) (t6 : Unit) (t13 : Jf) (t14 : Int) (t15 : Int) (b4 : Aa) (b6 : Aa) : Option (((Unit × (Unit × (Jf × Im))) × Tk) ⊕ RE) :=
 (cond (decide (t15 < t14))
 (ob (Kb t13 t15) fun x6 =>
 (ob (Ml b6 x6) fun r7 =>
 (cond (!r7.2.1)
 (some (.inr (.inr (((), false, ()), (([], [], ()), ())))))
 (some (.inl (((), (), t13, t14, (wr .i64 (t15 + 1)), ()), (b4, r7.1, ())))))))
 (some (.inr (.inl (((), (), ()), (b4, b6, ()))))))
def Dm := Dc fun x : ((Unit × (Unit × (Jf × Im))) × Tk) => Vl x.1.1 x.1.2.1 x.1.2.2.1 x.1.2.2.2.1 x.1.2.2.2.2.1 x.2.1 x.2.2.1
def Bk (a0 : Aa) (a1 : Jf) : Option Tp :=
 (ob (Kj a0) fun r1 =>
 (ob (Dm (((), (), a1, ((ln a1 : Nat) : Int), 0, ()), (([], [], ()), r1.1, ()))) (se (fun y8 => (some (y8.2.2.1, true, ()))) (fun z9 => (some (z9.2.1, z9.1.2.1, ()))))))
def Ak (t2 : Unit) (t6 : Jf) (t27 : Rf) (t28 : Int) (t29 : Int) (b2 : Aa) : Option (((Unit × (Jf × Xs)) × Se) ⊕ (((Jf × Unit) × Unit) ⊕ ((Jf × Xj) × Unit))) :=
 (cond (decide (t29 < t28))
 (cond (Je (ln t27) t29)
 (ob t27[(tn t29)]? fun x21 =>
 (ob (Za b2 t29) fun r22 =>
 (cond r22.2.1
 (cond (r22.1 == x21)
 (some (.inl (((), t6, t27, t28, (wr .i64 (t29 + 1)), ()), (b2, ()))))
 (ob (Ri b2 t29 x21) fun r23 =>
 (cond (!r23.2.1)
 (some (.inr (.inr (([], false, ()), ()))))
 (cond (bl (ln t6 + ln r23.1) Bh)
 (ob (Bk b2 r23.1) fun r24 =>
 (some (.inl (((), (ap t6 r23.1), t27, t28, (wr .i64 (t29 + 1)), ()), (r24.1, ())))))
 none))))
 (ob (Ri b2 t29 x21) fun r25 =>
 (cond (!r25.2.1)
 (some (.inr (.inr (([], false, ()), ()))))
 (cond (bl (ln t6 + ln r25.1) Bh)
 (ob (Bk b2 r25.1) fun r26 =>
 (some (.inl (((), (ap t6 r25.1), t27, t28, (wr .i64 (t29 + 1)), ()), (r26.1, ())))))
 none))))))
 none)
 (some (.inr (.inl ((t6, ()), ())))))
def Hg := Dc fun x : ((Unit × (Jf × Xs)) × Se) => Ak x.1.1 x.1.2.1 x.1.2.2.1 x.1.2.2.2.1 x.1.2.2.2.2.1 x.2.1
def Va (a0 : Aa) (a1 : Uc) : Option (Jf × Xj) :=
 (ob (Pi a1) fun r1 =>
 (cond (!r1.1)
 (some ([], false, ()))
 (ob (Eh a0) fun r2 =>
 (cond (decide (r2.1 < 0))
 (some ([], false, ()))
 (ob (Hg (((), [], ([a1.1, a1.2.1, a1.2.2.1] : List Int), ((ln ([a1.1, a1.2.1, a1.2.2.1] : List Int) : Nat) : Int), 0, ()), (a0, ()))) (se (fun y27 => (some (y27.1.1, true, ()))) (fun z28 => (some z28.1))))))))
def Nn (a0 : Aa) (a1 : Uc) (a2 : Int) : Option Tp :=
 (ob (Va a0 a1) fun r1 =>
 (cond (!r1.2.1)
 (some (([], [], ()), false, ()))
 (cond (decide (a2 < 0))
 (some (([], [], ()), false, ()))
 (cond (decide (a2 > ((ln r1.1 : Nat) : Int)))
 (some (([], [], ()), false, ()))
 (cond (Sf (ln r1.1) 0 a2)
 (ob (Bk a0 (Yc r1.1 (tn 0) (tn a2))) fun r2 =>
 (some r2))
 none)))))
def Qa (a0 : Aa) (a1 : Uc) : Option Tp :=
 (ob (Va a0 a1) fun r1 =>
 (cond (!r1.2.1)
 (some (([], [], ()), false, ()))
 (ob (Bk a0 r1.1) fun r2 =>
 (some r2))))
def Pn (a0 : Rf) : Option Xj :=
 (ob (Fo a0) fun r1 =>
 (cond r1.1
 (some (true, ()))
 (ob (Zl a0) fun r2 =>
 (ob (Al a0) fun r3 =>
 (ob (Va r2.1 r3.1) fun r4 =>
 (cond (!r4.2.1)
 (some (false, ()))
 (ob (Zk a0 200 (wr .i64 (((ln r4.1 : Nat) : Int) + 1))) fun r5 =>
 (ob (Nn r2.1 r3.1 r5.1) fun r6 =>
 (ob (Qa r2.1 r3.1) fun r7 =>
 (ob (Ka r2.1) fun r8 =>
 (ob (Ka r6.1) fun r9 =>
 (cond (!r6.2.1)
 (some (false, ()))
 (cond (!r7.2.1)
 (some (false, ()))
 (ob (Pi r8.1) fun r10 =>
 (cond (!r10.1)
 (some (false, ()))
 (ob (Pi r9.1) fun r11 =>
 (cond (!r11.1)
 (some (false, ()))
 (ob (Ka r7.1) fun r12 =>
 (cond (!(De Kc r12.1 r3.1))
 (some (false, ()))
 (cond (r9.1.1 != r8.1.1)
 (cond (r9.1.1 != r3.1.1)
 (some (false, ()))
 (cond (r9.1.2.1 != r8.1.2.1)
 (cond (r9.1.2.1 != r3.1.2.1)
 (some (false, ()))
 (cond (r9.1.2.2.1 != r8.1.2.2.1)
 (cond (r9.1.2.2.1 != r3.1.2.2.1)
 (some (false, ()))
 (cond (r9.1.2.1 != r8.1.2.1)
 (cond (r9.1.1 != r3.1.1)
 (some (false, ()))
 (cond (r9.1.2.2.1 != r8.1.2.2.1)
 (cond (r9.1.1 != r3.1.1)
 (some (false, ()))
 (cond (r9.1.2.1 != r3.1.2.1)
 (some (false, ()))
 (ob (Qa r6.1 r3.1) fun r13 =>
 (ob (Va r7.1 r3.1) fun r14 =>
 (cond r13.2.1
 (ob (Ka r13.1) fun r15 =>
 (cond (De Kc r15.1 r3.1)
 (cond r14.2.1
 (some ((((ln r14.1 : Nat) : Int) == 0), ()))
 (some (false, ())))
 (some (false, ()))))
 (some (false, ())))))))
 (ob (Qa r6.1 r3.1) fun r16 =>
 (ob (Va r7.1 r3.1) fun r17 =>
 (cond r16.2.1
 (ob (Ka r16.1) fun r18 =>
 (cond (De Kc r18.1 r3.1)
 (cond r17.2.1
 (some ((((ln r17.1 : Nat) : Int) == 0), ()))
 (some (false, ())))
 (some (false, ()))))
 (some (false, ())))))))
 (cond (r9.1.2.2.1 != r8.1.2.2.1)
 (cond (r9.1.1 != r3.1.1)
 (some (false, ()))
 (cond (r9.1.2.1 != r3.1.2.1)
 (some (false, ()))
 (ob (Qa r6.1 r3.1) fun r19 =>
 (ob (Va r7.1 r3.1) fun r20 =>
 (cond r19.2.1
 (ob (Ka r19.1) fun r21 =>
 (cond (De Kc r21.1 r3.1)
 (cond r20.2.1
 (some ((((ln r20.1 : Nat) : Int) == 0), ()))
 (some (false, ())))
 (some (false, ()))))
 (some (false, ())))))))
 (ob (Qa r6.1 r3.1) fun r22 =>
 (ob (Va r7.1 r3.1) fun r23 =>
 (cond r22.2.1
 (ob (Ka r22.1) fun r24 =>
 (cond (De Kc r24.1 r3.1)
 (cond r23.2.1
 (some ((((ln r23.1 : Nat) : Int) == 0), ()))
 (some (false, ())))
 (some (false, ()))))
 (some (false, ()))))))))
 (cond (r9.1.2.1 != r8.1.2.1)
 (cond (r9.1.1 != r3.1.1)
 (some (false, ()))
 (cond (r9.1.2.2.1 != r8.1.2.2.1)
 (cond (r9.1.1 != r3.1.1)
 (some (false, ()))
 (cond (r9.1.2.1 != r3.1.2.1)
 (some (false, ()))
 (ob (Qa r6.1 r3.1) fun r25 =>
 (ob (Va r7.1 r3.1) fun r26 =>
 (cond r25.2.1
 (ob (Ka r25.1) fun r27 =>
 (cond (De Kc r27.1 r3.1)
 (cond r26.2.1
 (some ((((ln r26.1 : Nat) : Int) == 0), ()))
 (some (false, ())))
 (some (false, ()))))
 (some (false, ())))))))
 (ob (Qa r6.1 r3.1) fun r28 =>
 (ob (Va r7.1 r3.1) fun r29 =>
 (cond r28.2.1
 (ob (Ka r28.1) fun r30 =>
 (cond (De Kc r30.1 r3.1)
 (cond r29.2.1
 (some ((((ln r29.1 : Nat) : Int) == 0), ()))
 (some (false, ())))
 (some (false, ()))))
 (some (false, ())))))))
 (cond (r9.1.2.2.1 != r8.1.2.2.1)
 (cond (r9.1.1 != r3.1.1)
 (some (false, ()))
 (cond (r9.1.2.1 != r3.1.2.1)
 (some (false, ()))
 (ob (Qa r6.1 r3.1) fun r31 =>
 (ob (Va r7.1 r3.1) fun r32 =>
 (cond r31.2.1
 (ob (Ka r31.1) fun r33 =>
 (cond (De Kc r33.1 r3.1)
 (cond r32.2.1
 (some ((((ln r32.1 : Nat) : Int) == 0), ()))
 (some (false, ())))
 (some (false, ()))))
 (some (false, ())))))))
 (ob (Qa r6.1 r3.1) fun r34 =>
 (ob (Va r7.1 r3.1) fun r35 =>
 (cond r34.2.1
 (ob (Ka r34.1) fun r36 =>
 (cond (De Kc r36.1 r3.1)
 (cond r35.2.1
 (some ((((ln r35.1 : Nat) : Int) == 0), ()))
 (some (false, ())))
 (some (false, ()))))
 (some (false, ())))))))))
 (cond (r9.1.2.2.1 != r8.1.2.2.1)
 (cond (r9.1.2.2.1 != r3.1.2.2.1)
 (some (false, ()))
 (cond (r9.1.2.1 != r8.1.2.1)
 (cond (r9.1.1 != r3.1.1)
 (some (false, ()))
 (cond (r9.1.2.2.1 != r8.1.2.2.1)
 (cond (r9.1.1 != r3.1.1)
 (some (false, ()))
 (cond (r9.1.2.1 != r3.1.2.1)
 (some (false, ()))
 (ob (Qa r6.1 r3.1) fun r37 =>
 (ob (Va r7.1 r3.1) fun r38 =>
 (cond r37.2.1
 (ob (Ka r37.1) fun r39 =>
 (cond (De Kc r39.1 r3.1)
 (cond r38.2.1
 (some ((((ln r38.1 : Nat) : Int) == 0), ()))
 (some (false, ())))
 (some (false, ()))))
 (some (false, ())))))))
 (ob (Qa r6.1 r3.1) fun r40 =>
 (ob (Va r7.1 r3.1) fun r41 =>
 (cond r40.2.1
 (ob (Ka r40.1) fun r42 =>
 (cond (De Kc r42.1 r3.1)
 (cond r41.2.1
 (some ((((ln r41.1 : Nat) : Int) == 0), ()))
 (some (false, ())))
 (some (false, ()))))
 (some (false, ())))))))
 (cond (r9.1.2.2.1 != r8.1.2.2.1)
 (cond (r9.1.1 != r3.1.1)
 (some (false, ()))
 (cond (r9.1.2.1 != r3.1.2.1)
 (some (false, ()))
 (ob (Qa r6.1 r3.1) fun r43 =>
 (ob (Va r7.1 r3.1) fun r44 =>
 (cond r43.2.1
 (ob (Ka r43.1) fun r45 =>
 (cond (De Kc r45.1 r3.1)
 (cond r44.2.1
 (some ((((ln r44.1 : Nat) : Int) == 0), ()))
 (some (false, ())))
 (some (false, ()))))
 (some (false, ())))))))
 (ob (Qa r6.1 r3.1) fun r46 =>
 (ob (Va r7.1 r3.1) fun r47 =>
 (cond r46.2.1
 (ob (Ka r46.1) fun r48 =>
 (cond (De Kc r48.1 r3.1)
 (cond r47.2.1
 (some ((((ln r47.1 : Nat) : Int) == 0), ()))
 (some (false, ())))
 (some (false, ()))))
 (some (false, ()))))))))
 (cond (r9.1.2.1 != r8.1.2.1)
 (cond (r9.1.1 != r3.1.1)
 (some (false, ()))
 (cond (r9.1.2.2.1 != r8.1.2.2.1)
 (cond (r9.1.1 != r3.1.1)
 (some (false, ()))
 (cond (r9.1.2.1 != r3.1.2.1)
 (some (false, ()))
 (ob (Qa r6.1 r3.1) fun r49 =>
 (ob (Va r7.1 r3.1) fun r50 =>
 (cond r49.2.1
 (ob (Ka r49.1) fun r51 =>
 (cond (De Kc r51.1 r3.1)
 (cond r50.2.1
 (some ((((ln r50.1 : Nat) : Int) == 0), ()))
 (some (false, ())))
 (some (false, ()))))
 (some (false, ())))))))
 (ob (Qa r6.1 r3.1) fun r52 =>
 (ob (Va r7.1 r3.1) fun r53 =>
 (cond r52.2.1
 (ob (Ka r52.1) fun r54 =>
 (cond (De Kc r54.1 r3.1)
 (cond r53.2.1
 (some ((((ln r53.1 : Nat) : Int) == 0), ()))
 (some (false, ())))
 (some (false, ()))))
 (some (false, ())))))))
 (cond (r9.1.2.2.1 != r8.1.2.2.1)
 (cond (r9.1.1 != r3.1.1)
 (some (false, ()))
 (cond (r9.1.2.1 != r3.1.2.1)
 (some (false, ()))
 (ob (Qa r6.1 r3.1) fun r55 =>
 (ob (Va r7.1 r3.1) fun r56 =>
 (cond r55.2.1
 (ob (Ka r55.1) fun r57 =>
 (cond (De Kc r57.1 r3.1)
 (cond r56.2.1
 (some ((((ln r56.1 : Nat) : Int) == 0), ()))
 (some (false, ())))
 (some (false, ()))))
 (some (false, ())))))))
 (ob (Qa r6.1 r3.1) fun r58 =>
 (ob (Va r7.1 r3.1) fun r59 =>
 (cond r58.2.1
 (ob (Ka r58.1) fun r60 =>
 (cond (De Kc r60.1 r3.1)
 (cond r59.2.1
 (some ((((ln r59.1 : Nat) : Int) == 0), ()))
 (some (false, ())))
 (some (false, ()))))
 (some (false, ()))))))))))
 (cond (r9.1.2.1 != r8.1.2.1)
 (cond (r9.1.2.1 != r3.1.2.1)
 (some (false, ()))
 (cond (r9.1.2.2.1 != r8.1.2.2.1)
 (cond (r9.1.2.2.1 != r3.1.2.2.1)
 (some (false, ()))
 (cond (r9.1.2.1 != r8.1.2.1)
 (cond (r9.1.1 != r3.1.1)
 (some (false, ()))
 (cond (r9.1.2.2.1 != r8.1.2.2.1)
 (cond (r9.1.1 != r3.1.1)
 (some (false, ()))
 (cond (r9.1.2.1 != r3.1.2.1)
 (some (false, ()))
 (ob (Qa r6.1 r3.1) fun r61 =>
 (ob (Va r7.1 r3.1) fun r62 =>
 (cond r61.2.1
 (ob (Ka r61.1) fun r63 =>
 (cond (De Kc r63.1 r3.1)
 (cond r62.2.1
 (some ((((ln r62.1 : Nat) : Int) == 0), ()))
 (some (false, ())))
 (some (false, ()))))
 (some (false, ())))))))
 (ob (Qa r6.1 r3.1) fun r64 =>
 (ob (Va r7.1 r3.1) fun r65 =>
 (cond r64.2.1
 (ob (Ka r64.1) fun r66 =>
 (cond (De Kc r66.1 r3.1)
 (cond r65.2.1
 (some ((((ln r65.1 : Nat) : Int) == 0), ()))
 (some (false, ())))
 (some (false, ()))))
 (some (false, ())))))))
 (cond (r9.1.2.2.1 != r8.1.2.2.1)
 (cond (r9.1.1 != r3.1.1)
 (some (false, ()))
 (cond (r9.1.2.1 != r3.1.2.1)
 (some (false, ()))
 (ob (Qa r6.1 r3.1) fun r67 =>
 (ob (Va r7.1 r3.1) fun r68 =>
 (cond r67.2.1
 (ob (Ka r67.1) fun r69 =>
 (cond (De Kc r69.1 r3.1)
 (cond r68.2.1
 (some ((((ln r68.1 : Nat) : Int) == 0), ()))
 (some (false, ())))
 (some (false, ()))))
 (some (false, ())))))))
 (ob (Qa r6.1 r3.1) fun r70 =>
 (ob (Va r7.1 r3.1) fun r71 =>
 (cond r70.2.1
 (ob (Ka r70.1) fun r72 =>
 (cond (De Kc r72.1 r3.1)
 (cond r71.2.1
 (some ((((ln r71.1 : Nat) : Int) == 0), ()))
 (some (false, ())))
 (some (false, ()))))
 (some (false, ()))))))))
 (cond (r9.1.2.1 != r8.1.2.1)
 (cond (r9.1.1 != r3.1.1)
 (some (false, ()))
 (cond (r9.1.2.2.1 != r8.1.2.2.1)
 (cond (r9.1.1 != r3.1.1)
 (some (false, ()))
 (cond (r9.1.2.1 != r3.1.2.1)
 (some (false, ()))
 (ob (Qa r6.1 r3.1) fun r73 =>
 (ob (Va r7.1 r3.1) fun r74 =>
 (cond r73.2.1
 (ob (Ka r73.1) fun r75 =>
 (cond (De Kc r75.1 r3.1)
 (cond r74.2.1
 (some ((((ln r74.1 : Nat) : Int) == 0), ()))
 (some (false, ())))
 (some (false, ()))))
 (some (false, ())))))))
 (ob (Qa r6.1 r3.1) fun r76 =>
 (ob (Va r7.1 r3.1) fun r77 =>
 (cond r76.2.1
 (ob (Ka r76.1) fun r78 =>
 (cond (De Kc r78.1 r3.1)
 (cond r77.2.1
 (some ((((ln r77.1 : Nat) : Int) == 0), ()))
 (some (false, ())))
 (some (false, ()))))
 (some (false, ())))))))
 (cond (r9.1.2.2.1 != r8.1.2.2.1)
 (cond (r9.1.1 != r3.1.1)
 (some (false, ()))
 (cond (r9.1.2.1 != r3.1.2.1)
 (some (false, ()))
 (ob (Qa r6.1 r3.1) fun r79 =>
 (ob (Va r7.1 r3.1) fun r80 =>
 (cond r79.2.1
 (ob (Ka r79.1) fun r81 =>
 (cond (De Kc r81.1 r3.1)
 (cond r80.2.1
 (some ((((ln r80.1 : Nat) : Int) == 0), ()))
 (some (false, ())))
 (some (false, ()))))
 (some (false, ())))))))
 (ob (Qa r6.1 r3.1) fun r82 =>
 (ob (Va r7.1 r3.1) fun r83 =>
 (cond r82.2.1
 (ob (Ka r82.1) fun r84 =>
 (cond (De Kc r84.1 r3.1)
 (cond r83.2.1
 (some ((((ln r83.1 : Nat) : Int) == 0), ()))
 (some (false, ())))
 (some (false, ()))))
 (some (false, ())))))))))
 (cond (r9.1.2.2.1 != r8.1.2.2.1)
 (cond (r9.1.2.2.1 != r3.1.2.2.1)
 (some (false, ()))
 (cond (r9.1.2.1 != r8.1.2.1)
 (cond (r9.1.1 != r3.1.1)
 (some (false, ()))
 (cond (r9.1.2.2.1 != r8.1.2.2.1)
 (cond (r9.1.1 != r3.1.1)
 (some (false, ()))
 (cond (r9.1.2.1 != r3.1.2.1)
 (some (false, ()))
 (ob (Qa r6.1 r3.1) fun r85 =>
 (ob (Va r7.1 r3.1) fun r86 =>
 (cond r85.2.1
 (ob (Ka r85.1) fun r87 =>
 (cond (De Kc r87.1 r3.1)
 (cond r86.2.1
 (some ((((ln r86.1 : Nat) : Int) == 0), ()))
 (some (false, ())))
 (some (false, ()))))
 (some (false, ())))))))
 (ob (Qa r6.1 r3.1) fun r88 =>
 (ob (Va r7.1 r3.1) fun r89 =>
 (cond r88.2.1
 (ob (Ka r88.1) fun r90 =>
 (cond (De Kc r90.1 r3.1)
 (cond r89.2.1
 (some ((((ln r89.1 : Nat) : Int) == 0), ()))
 (some (false, ())))
 (some (false, ()))))
 (some (false, ())))))))
 (cond (r9.1.2.2.1 != r8.1.2.2.1)
 (cond (r9.1.1 != r3.1.1)
 (some (false, ()))
 (cond (r9.1.2.1 != r3.1.2.1)
 (some (false, ()))
 (ob (Qa r6.1 r3.1) fun r91 =>
 (ob (Va r7.1 r3.1) fun r92 =>
 (cond r91.2.1
 (ob (Ka r91.1) fun r93 =>
 (cond (De Kc r93.1 r3.1)
 (cond r92.2.1
 (some ((((ln r92.1 : Nat) : Int) == 0), ()))
 (some (false, ())))
 (some (false, ()))))
 (some (false, ())))))))
 (ob (Qa r6.1 r3.1) fun r94 =>
 (ob (Va r7.1 r3.1) fun r95 =>
 (cond r94.2.1
 (ob (Ka r94.1) fun r96 =>
 (cond (De Kc r96.1 r3.1)
 (cond r95.2.1
 (some ((((ln r95.1 : Nat) : Int) == 0), ()))
 (some (false, ())))
 (some (false, ()))))
 (some (false, ()))))))))
 (cond (r9.1.2.1 != r8.1.2.1)
 (cond (r9.1.1 != r3.1.1)
 (some (false, ()))
 (cond (r9.1.2.2.1 != r8.1.2.2.1)
 (cond (r9.1.1 != r3.1.1)
 (some (false, ()))
 (cond (r9.1.2.1 != r3.1.2.1)
 (some (false, ()))
 (ob (Qa r6.1 r3.1) fun r97 =>
 (ob (Va r7.1 r3.1) fun r98 =>
 (cond r97.2.1
 (ob (Ka r97.1) fun r99 =>
 (cond (De Kc r99.1 r3.1)
 (cond r98.2.1
 (some ((((ln r98.1 : Nat) : Int) == 0), ()))
 (some (false, ())))
 (some (false, ()))))
 (some (false, ())))))))
 (ob (Qa r6.1 r3.1) fun r100 =>
 (ob (Va r7.1 r3.1) fun r101 =>
 (cond r100.2.1
 (ob (Ka r100.1) fun r102 =>
 (cond (De Kc r102.1 r3.1)
 (cond r101.2.1
 (some ((((ln r101.1 : Nat) : Int) == 0), ()))
 (some (false, ())))
 (some (false, ()))))
 (some (false, ())))))))
 (cond (r9.1.2.2.1 != r8.1.2.2.1)
 (cond (r9.1.1 != r3.1.1)
 (some (false, ()))
 (cond (r9.1.2.1 != r3.1.2.1)
 (some (false, ()))
 (ob (Qa r6.1 r3.1) fun r103 =>
 (ob (Va r7.1 r3.1) fun r104 =>
 (cond r103.2.1
 (ob (Ka r103.1) fun r105 =>
 (cond (De Kc r105.1 r3.1)
 (cond r104.2.1
 (some ((((ln r104.1 : Nat) : Int) == 0), ()))
 (some (false, ())))
 (some (false, ()))))
 (some (false, ())))))))
 (ob (Qa r6.1 r3.1) fun r106 =>
 (ob (Va r7.1 r3.1) fun r107 =>
 (cond r106.2.1
 (ob (Ka r106.1) fun r108 =>
 (cond (De Kc r108.1 r3.1)
 (cond r107.2.1
 (some ((((ln r107.1 : Nat) : Int) == 0), ()))
 (some (false, ())))
 (some (false, ()))))
 (some (false, ())))))))))))))))))))))))))))))
end

def AG (k c m n : Int) : Prop :=
 ((k = 0 ∨ k = 1 ∨ k = 10) ∧ c = 0 ∧ m = 0 ∧ n = 0) ∨
 (k = 2 ∧ n = 0 ∧ (c = 0 ∨ 1 ≤ c ∧ c ≤ 56) ∧ (m = 0 ∨ 1 ≤ m ∧ m ≤ 15) ∧ (c ≠ 0 ∨ m ≠ 0)) ∨
 ((k = 3 ∨ k = 4) ∧ c = 0 ∧ m = 0 ∧ 1 ≤ n ∧ n ≤ 3) ∨
 ((k = 5 ∨ k = 9) ∧ c = 0 ∧ m = 0 ∧ 0 ≤ n ∧ n ≤ 3) ∨
 (k = 6 ∧ 1 ≤ c ∧ c ≤ 56 ∧ 1 ≤ m ∧ m ≤ 15 ∧ n = 0) ∨
 (k = 7 ∧ 1 ≤ c ∧ c ≤ 56 ∧ m = 0 ∧ 1 ≤ n ∧ n ≤ 3) ∨
 (k = 8 ∧ c = 0 ∧ 1 ≤ m ∧ m ≤ 15 ∧ n = 0)
noncomputable def DA (a : Hv) : Bool := open Classical in decide (AG a.1 a.2.1 a.2.2.1 a.2.2.2.1)
theorem Od (c a b : Int) : Bd c a b = some (decide (a ≤ c ∧ c ≤ b), ()) := by
 simp only [Bd, Yq, Zq]
 apply Kr; simp only [Ct, decide_eq_true_eq, FJ, HJ, jq, and_false, false_and, or_false, false_or, and_true, true_and, not_true_eq_false, not_false_eq_true]; try omega
noncomputable def AO (nl : Nat) (i : Nat) (a : Hv) : Bool := DA a && !(((i : Int) == 0) && (a.1 == 1)) && !((a.1 != 9) && decide (a.2.2.2.1 ≥ (nl : Int)))
def Tj (p : List Int) : Bool := Ip (fun _ w => decide (0 ≤ w ∧ w ≤ 65535)) 0 p
def Ui (p : List Int) (e : Int) : Bool := ((p.length : Int) == 19) && decide (0 ≤ e ∧ e ≤ 1000) && Tj p
def Sc (f : Aa) : Bool := match f.1, f.2.1 with
 | [p, q], [d, e] => Ui p d && Ui q e
 | _, _ => false
theorem Cy (t : Int) (p : List Int) (f : Aa) (hp : p.length < 9223372036854775807) :
 Hi (((), t, p, (p.length : Int), (0 : Int), ()), (f, ())) = some (cond (Tj p) (.inl (((), t, ()), (f, ()))) (.inr ((false, ()), ()))) := by
 unfold Hi Tj
 refine Gr (step := _) p (fun _ w => decide (0 ≤ w ∧ w ≤ 65535)) (fun j => (((), t, p, (p.length : Int), j, ()), (f, ()))) _ _ ?_ ?_ hp
 ·intro k hk
  simp only [Zm]
  rw [Ca (show (k : Int) < (p.length : Int) by omega), Ij hk]
  simp only [cond_true, jb]
  by_cases h1 : p[k] < 0
  ·rw [Ca h1, Da (show ¬ (0 ≤ p[k] ∧ p[k] ≤ 65535) by omega)]; rfl
  ·rw [Da h1]
   by_cases h2 : p[k] > 65535
   ·rw [Ca h2, Da (show ¬ (0 ≤ p[k] ∧ p[k] ≤ 65535) by omega)]; rfl
   ·rw [Da h2, Ca (show (0 ≤ p[k] ∧ p[k] ≤ 65535) by omega)]; rfl
 ·simp [Zm]
theorem Ry (i : Nat) (f : Aa) (hi : i < f.1.length) (hp : f.1[i].length < 9223372036854775807) :
 Li (((), (i : Int), (0 : Int), ()), (f, ())) = some (cond (Tj f.1[i]) (.inl (((), (i : Int), ()), (f, ()))) (.inr ((false, ()), ()))) := by
 unfold Li Tj
 refine Gr (step := _) f.1[i] (fun _ w => decide (0 ≤ w ∧ w ≤ 65535)) (fun j => (((), (i : Int), j, ()), (f, ()))) _ _ ?_ ?_ hp
 ·intro k hk
  simp only [Cn]
  rw [Ij hi]
  simp only [jb]
  rw [Ca (show (k : Int) < (f.1[i].length : Int) by omega), Ij hk]
  simp only [cond_true, jb, Od]
  cases decide (0 ≤ f.1[i][k] ∧ f.1[i][k] ≤ 65535) <;> rfl
 ·simp [Cn, Ij hi]
theorem GF {α : Type} {l : List α} (h : (l.length : Int) = 2) : ∃ a b, l = [a, b] := by
 match l, h with
 | [a, b], _ => exact ⟨a, b, rfl⟩
 | [], h => simp at h
 | [_], h => simp at h
 | _ :: _ :: _ :: _, h => simp at h; omega
theorem On (f : Aa) (hz : Pd Ja f ≤ Vc) : Jj f = some (Sc f, ()) := by
 have h20 : Vc = 1048576 := rfl
 obtain ⟨P, E, u⟩ := f
 unfold Jj
 by_cases h1 : (P.length : Int) = 2
 case neg =>
  have : ((P.length : Int) != 2) = true := by simpa using h1
  rw [this]
  unfold Sc
  split
  ·rename_i h _; simp only at h; rw [h] at h1; simp at h1
  ·rfl
 by_cases h2 : (E.length : Int) = 2
 case neg =>
  have h1' : ((P.length : Int) != 2) = false := by simpa using h1
  have h2' : ((E.length : Int) != 2) = true := by simpa using h2
  rw [h1', h2']
  unfold Sc
  split
  ·rename_i h; simp only at h; rw [h] at h2; simp at h2
  ·rfl
 obtain ⟨p, q, rfl⟩ := GF h1
 obtain ⟨d, e, rfl⟩ := GF h2
 have hzz : 2 + (p.length + (q.length + 0)) ≤ Vc := by
  have h3 : Pd Ja ([p, q], [d, e], u) = 2 + (Pd (.sl int) p + (Pd (.sl int) q + 0)) + (Pd (.sl int) [d, e] + 0) := rfl
  rw [Vq (e := int) rfl p, Vq (e := int) rfl q] at h3
  omega
 have hl : Gi (((), (0 : Int), ()), (([p, q], [d, e], u), ())) = some (cond (Ip (fun _ (x : List Int × Int) => Ui x.1 x.2) 0 [(p, d), (q, e)]) (.inl ((), ())) (.inr ((false, ()), ()))) := by
  unfold Gi
  refine Gr (step := _) [(p, d), (q, e)] (fun _ (x : List Int × Int) => Ui x.1 x.2) (fun j => (((), j, ()), (([p, q], [d, e], u), ()))) _ _ ?_ ?_ (by simp)
  ·intro k hk
   have e1 : Kb [p, q] (k : Int) = some ([(p, d), (q, e)][k]).1 := by
    match k, hk with
    | 0, _ => rfl
    | 1, _ => rfl
   have e2 : Kb [d, e] (k : Int) = some ([(p, d), (q, e)][k]).2 := by
    match k, hk with
    | 0, _ => rfl
    | 1, _ => rfl
   have e3 : ([(p, d), (q, e)][k]).1.length < 9223372036854775807 := by
    match k, hk with
    | 0, _ => show p.length < _; omega
    | 1, _ => show q.length < _; omega
   have hk2 : k < 2 := hk
   simp only [Kq]
   rw [Ca (show (k : Int) < 2 by omega), e1, e2]
   generalize [(p, d), (q, e)][k] = x at e3
   obtain ⟨y, z⟩ := x
   simp only [jb, cond_true, Cy _ y _ e3, Ui]
   cases hy : ((y.length : Int) == 19) with
   | false => rw [show ((y.length : Int) != 19) = true by simpa using hy]; rfl
   | true =>
    rw [show ((y.length : Int) != 19) = false by simpa using hy]
    by_cases h1 : z < 0
    ·rw [Ca h1, Da (show ¬ (0 ≤ z ∧ z ≤ 1000) by omega)]; rfl
    ·rw [Da h1]
     by_cases h2 : z > 1000
     ·rw [Ca h2, Da (show ¬ (0 ≤ z ∧ z ≤ 1000) by omega)]; rfl
     ·rw [Da h2, Ca (show (0 ≤ z ∧ z ≤ 1000) by omega)]
      cases Tj y <;> rfl
  ·rfl
 rw [hl]
 simp only [Ip, Sc, Bool.and_true]
 cases Ui p d <;> cases Ui q e <;> rfl
theorem Wi (f : Aa) (hz : Pd Ja f ≤ Vc) : Ch f = some (Sc f, ()) := by
 have h20 : Vc = 1048576 := rfl
 obtain ⟨P, E, u⟩ := f
 unfold Ch
 by_cases h1 : (P.length : Int) = 2
 case neg =>
  have : ((P.length : Int) != 2) = true := by simpa using h1
  rw [this]
  unfold Sc
  split
  ·rename_i h _; simp only at h; rw [h] at h1; simp at h1
  ·rfl
 by_cases h2 : (E.length : Int) = 2
 case neg =>
  have h1' : ((P.length : Int) != 2) = false := by simpa using h1
  have h2' : ((E.length : Int) != 2) = true := by simpa using h2
  rw [h1', h2']
  unfold Sc
  split
  ·rename_i h; simp only at h; rw [h] at h2; simp at h2
  ·rfl
 obtain ⟨p, q, rfl⟩ := GF h1
 obtain ⟨d, e, rfl⟩ := GF h2
 have hzz : 2 + (p.length + (q.length + 0)) ≤ Vc := by
  have h3 : Pd Ja ([p, q], [d, e], u) = 2 + (Pd (.sl int) p + (Pd (.sl int) q + 0)) + (Pd (.sl int) [d, e] + 0) := rfl
  rw [Vq (e := int) rfl p, Vq (e := int) rfl q] at h3
  omega
 have hl : Ki (((), (0 : Int), ()), (([p, q], [d, e], u), ())) = some (cond (Ip (fun _ (x : List Int × Int) => Ui x.1 x.2) 0 [(p, d), (q, e)]) (.inl ((), ())) (.inr ((false, ()), ()))) := by
  unfold Ki
  refine Gr (step := _) [(p, d), (q, e)] (fun _ (x : List Int × Int) => Ui x.1 x.2) (fun j => (((), j, ()), (([p, q], [d, e], u), ()))) _ _ ?_ ?_ (by simp)
  ·intro k hk
   have hk2 : k < 2 := hk
   have e1 : [p, q][k]'hk2 = ([(p, d), (q, e)][k]).1 := by
    match k, hk with
    | 0, _ => rfl
    | 1, _ => rfl
   have e2 : Kb [d, e] (k : Int) = some ([(p, d), (q, e)][k]).2 := by
    match k, hk with
    | 0, _ => rfl
    | 1, _ => rfl
   have e3 : ([p, q][k]'hk2).length < 9223372036854775807 := by
    match k, hk with
    | 0, _ => show p.length < _; omega
    | 1, _ => show q.length < _; omega
   have hin := Ry k ([p, q], [d, e], u) hk2 e3
   simp only [Uq]
   rw [Ca (show (k : Int) < 2 by omega), Ij (xs := [p, q]) hk2, e2]
   simp only [cond_true, jb, Od]
   rw [hin]
   simp only at e1 ⊢
   rw [e1]
   generalize [(p, d), (q, e)][k] = x
   obtain ⟨y, z⟩ := x
   simp only [jb, Ui]
   cases hy : ((y.length : Int) == 19) with
   | false => rw [show ((y.length : Int) != 19) = true by simpa using hy]; rfl
   | true =>
    rw [show ((y.length : Int) != 19) = false by simpa using hy]
    cases decide (0 ≤ z ∧ z ≤ 1000) <;> cases Tj y <;> rfl
  ·rfl
 rw [hl]
 simp only [Ip, Sc, Bool.and_true]
 cases Ui p d <;> cases Ui q e <;> rfl
def Gd (h : Int) : Bool := decide (1 ≤ h ∧ h ≤ 60000)
def Cq (h0 h1 : Int) : Int := cond (Gd h1) (cond (Gd h0) (cond (decide (h1 > h0)) 1 0) 1) (cond (Gd h0) 0 (-1))
def Ha (f : Aa) : Int := cond (Sc f) (match f.1 with
 | [h0 :: _, h1 :: _] => Cq h0 h1
 | _ => -1) (-1)
theorem Po {f : Aa} (h : Sc f = true) : ∃ p q d e, f = ([p, q], [d, e], ()) ∧ p.length = 19 ∧ q.length = 19 ∧ Tj p = true ∧ Tj q = true := by
 obtain ⟨P, E, u⟩ := f
 unfold Sc at h
 split at h
 ·rename_i p q d e h1 h2
  simp only at h1 h2
  subst h1; subst h2
  simp only [Ui, jd, beq_iff_eq] at h
  exact ⟨p, q, d, e, rfl, by omega, by omega, h.1.2, h.2.2⟩
 ·simp at h
theorem Th {α : Type} {l : List α} {n : Nat} (h : l.length = n + 1) : ∃ a r, l = a :: r ∧ r.length = n := by
 cases l with
 | nil => simp at h
 | cons a r => exact ⟨a, r, rfl, by simpa using h⟩
theorem Kl (f : Aa) (hz : Pd Ja f ≤ Vc) : Eh f = some (Ha f, ()) := by
 unfold Eh Ha
 rw [On f hz]
 cases hf : Sc f with
 | false => rfl
 | true =>
  obtain ⟨p, q, d, e, rfl, hp, hq, _, _⟩ := Po hf
  obtain ⟨h0, p, rfl, _⟩ := Th hp
  obtain ⟨h1, q, rfl, _⟩ := Th hq
  simp only [jb, jg, cond_false, cond_true]
  unfold Cj
  have hd : ∀ x : Int, Gd x = (decide (x ≥ 1) && decide (x ≤ 60000)) := by
   intro x; unfold Gd; rw [ql]; simp
  have w1 : j4 .i64 ((0 : Int) + 1) = 1 := rfl
  have w2 : j4 .i64 ((1 : Int) + 1) = 2 := rfl
  have i0 : ∀ (t : Int), Sd () t [h0 :: p, h1 :: q] 2 0 ([h0 :: p, h1 :: q], [d, e], ()) = some (.inl (((), cond (Gd h0) 0 t, [h0 :: p, h1 :: q], 2, 1, ()), (([h0 :: p, h1 :: q], [d, e], ()), ()))) ∨ 0 ≤ t := by
   intro t
   by_cases ht : t < 0
   ·left
    simp only [Sd, show Kb [h0 :: p, h1 :: q] (0 : Int) = some (h0 :: p) from rfl, Co, jb, hd, w1, Ca ht, show decide ((0 : Int) < 2) = true from rfl]
    cases decide (h0 ≥ 1) <;> cases decide (h0 ≤ 60000) <;> rfl
   ·exact .inr (by omega)
  have i1 : ∀ (t : Int), t = 0 ∨ t = -1 → Sd () t [h0 :: p, h1 :: q] 2 1 ([h0 :: p, h1 :: q], [d, e], ()) = some (.inl (((), cond (Gd h1) (cond (decide (t < 0)) 1 (cond (decide (h1 > h0)) 1 t)) t, [h0 :: p, h1 :: q], 2, 2, ()), (([h0 :: p, h1 :: q], [d, e], ()), ()))) := by
   intro t ht
   rcases ht with rfl | rfl
   ·simp only [Sd, show Kb [h0 :: p, h1 :: q] (1 : Int) = some (h1 :: q) from rfl, show Kb [h0 :: p, h1 :: q] (0 : Int) = some (h0 :: p) from rfl, Co, jb, hd, w2, show decide ((1 : Int) < 2) = true from rfl, show decide ((0 : Int) < 0) = false from rfl]
    cases decide (h1 ≥ 1) <;> cases decide (h1 ≤ 60000) <;> cases decide (h1 > h0) <;> rfl
   ·simp only [Sd, show Kb [h0 :: p, h1 :: q] (1 : Int) = some (h1 :: q) from rfl, Co, jb, hd, w2, show decide ((1 : Int) < 2) = true from rfl, show decide ((-1 : Int) < 0) = true from rfl]
    cases decide (h1 ≥ 1) <;> cases decide (h1 ≤ 60000) <;> rfl
  rw [Wg]
  show jz (jz (Sd () (-1) [h0 :: p, h1 :: q] 2 0 ([h0 :: p, h1 :: q], [d, e], ())) _) _ = _
  rw [(i0 (-1)).resolve_right (by omega)]
  simp only [jb, qh]
  rw [Wg]
  show jz (jz (Sd () (cond (Gd h0) 0 (-1)) [h0 :: p, h1 :: q] 2 1 ([h0 :: p, h1 :: q], [d, e], ())) _) _ = _
  rw [i1 _ (by cases Gd h0 <;> simp)]
  simp only [jb, qh]
  rw [Wg]
  cases h0B : Gd h0 <;> cases h1B : Gd h1 <;> simp only [cond_true, cond_false, Cq, h0B, h1B] <;> rfl
theorem Pl (f : Aa) (hz : Pd Ja f ≤ Vc) : Fh f = some (Ha f, ()) := by
 unfold Fh Ha
 cases hf : Sc f with
 | false =>
  unfold Yg
  rw [Wg]
  simp only [Ed, Wi f hz, hf]
  rfl
 | true =>
  have hfl := Wi f hz
  rw [hf] at hfl
  obtain ⟨p, q, d, e, rfl, hp, hq, _, _⟩ := Po hf
  obtain ⟨h0, p, rfl, _⟩ := Th hp
  obtain ⟨h1, q, rfl, _⟩ := Th hq
  unfold Yg
  have w1 : j4 .i64 ((0 : Int) + 1) = 1 := rfl
  have w2 : j4 .i64 ((1 : Int) + 1) = 2 := rfl
  have i0 : Ed () (-1) 0 ([h0 :: p, h1 :: q], [d, e], ()) = some (.inl (((), cond (Gd h0) 0 (-1), 1, ()), (([h0 :: p, h1 :: q], [d, e], ()), ()))) := by
   simp only [Ed, hfl, show Kb [h0 :: p, h1 :: q] (0 : Int) = some (h0 :: p) from rfl, Co, jb, w1, Od, show decide ((0 : Int) < 2) = true from rfl, show decide ((-1 : Int) < 0) = true from rfl, Gd]
   cases decide (1 ≤ h0 ∧ h0 ≤ 60000) <;> rfl
  have i1 : ∀ (t : Int), t = 0 ∨ t = -1 → Ed () t 1 ([h0 :: p, h1 :: q], [d, e], ()) = some (.inl (((), cond (Gd h1) (cond (decide (t < 0)) 1 (cond (decide (h1 > h0)) 1 t)) t, 2, ()), (([h0 :: p, h1 :: q], [d, e], ()), ()))) := by
   intro t ht
   rcases ht with rfl | rfl
   ·simp only [Ed, hfl, show Kb [h0 :: p, h1 :: q] (1 : Int) = some (h1 :: q) from rfl, show Kb [h0 :: p, h1 :: q] (0 : Int) = some (h0 :: p) from rfl, Co, jb, w2, Od, show decide ((1 : Int) < 2) = true from rfl, show decide ((0 : Int) < 0) = false from rfl, Gd]
    cases decide (1 ≤ h1 ∧ h1 ≤ 60000) <;> cases decide (h1 > h0) <;> rfl
   ·simp only [Ed, hfl, show Kb [h0 :: p, h1 :: q] (1 : Int) = some (h1 :: q) from rfl, Co, jb, w2, Od, show decide ((1 : Int) < 2) = true from rfl, show decide ((-1 : Int) < 0) = true from rfl, Gd]
    cases decide (1 ≤ h1 ∧ h1 ≤ 60000) <;> rfl
  rw [Wg]
  show jz (jz (Ed () (-1) 0 ([h0 :: p, h1 :: q], [d, e], ())) _) _ = _
  rw [i0]
  simp only [jb, qh]
  rw [Wg]
  show jz (jz (Ed () (cond (Gd h0) 0 (-1)) 1 ([h0 :: p, h1 :: q], [d, e], ())) _) _ = _
  rw [i1 _ (by cases Gd h0 <;> simp)]
  simp only [jb, qh]
  rw [Wg]
  cases h0B : Gd h0 <;> cases h1B : Gd h1 <;> simp only [cond_true, cond_false, Cq, h0B, h1B] <;> rfl
def Ma (s v : Int) : Bool := decide (0 ≤ s ∧ s ≤ 3 ∧ 0 ≤ v ∧ v ≤ 9999)
def Me (s v h : Int) : Int := cond (Ma s v && Gd h) ((7 * s + 13 * v + 31 * h + 5).tmod 60000) 65535
theorem Em (s v : Int) : Wh s v = some (Ma s v, ()) := by
 unfold Wh Ma
 simp only [Yq, Zq]
 apply Kr
 simp only [Ct, decide_eq_true_eq, jq, and_false, or_false]
 omega
theorem Sx {s v h : Int} (hs : Ma s v = true) (hh : Gd h = true) :
 j4 .i64 (j4 .i64 (j4 .i64 (j4 .i64 (7 * s) + j4 .i64 (13 * v)) + j4 .i64 (31 * h)) + 5) = 7 * s + 13 * v + 31 * h + 5 := by
 simp only [Ma, Gd, decide_eq_true_eq] at hs hh
 rw [Ib (n := 7 * s) (by omega) (by omega), Ib (n := 13 * v) (by omega) (by omega), Ib (n := 31 * h) (by omega) (by omega), Ib (n := 7 * s + 13 * v) (by omega) (by omega),
  Ib (n := 7 * s + 13 * v + 31 * h) (by omega) (by omega), Ib (by omega) (by omega)]
theorem Br (s v h : Int) : Ll s v h = some (Me s v h, ()) := by
 unfold Ll Me
 rw [Em]
 cases hs : Ma s v with
 | false => rfl
 | true =>
  simp only [jb, jg, cond_false, jk]
  by_cases h1 : h < 1
  ·rw [Ca h1, show Gd h = false by simp [Gd]; omega]; rfl
  ·rw [Da h1]
   by_cases h2 : h > 60000
   ·rw [Ca h2, show Gd h = false by simp [Gd]; omega]; rfl
   ·have hh : Gd h = true := by simp [Gd]; omega
    rw [Da h2, hh, Sx hs hh]; rfl
theorem Lr (s v h : Int) : Ql s v h = some (Me s v h, ()) := by
 unfold Ql Me
 simp only [Od, jb]
 by_cases h1 : 0 ≤ s ∧ s ≤ 3
 case neg => rw [Da h1, show Ma s v = false by simp [Ma]; omega]; rfl
 by_cases h2 : 0 ≤ v ∧ v ≤ 9999
 case neg => rw [Ca h1, Da h2, show Ma s v = false by simp [Ma]; omega]; rfl
 have hs : Ma s v = true := by simp [Ma]; omega
 rw [Ca h1, Ca h2, hs]
 simp only [jg, cond_false, jk]
 cases hh : Gd h with
 | false => rw [show decide (1 ≤ h ∧ h ≤ 60000) = false from hh]; rfl
 | true => rw [show decide (1 ≤ h ∧ h ≤ 60000) = true from hh, Sx hs hh]; rfl
def wd (w : List Int) (n : Nat) : Int := w.getD n 0
theorem Ks {w : List Int} {n : Nat} (h : n < w.length) : Kb w (n : Int) = some (wd w n) := by
 rw [Ij h]; simp [wd, qg, h]
theorem Gz {w : List Int} {i : Int} {n : Nat} (hi : i = (n : Int)) (h : n < w.length) : Kb w i = some (wd w n) := by rw [hi, Ks h]
def Mk (s : Int) (w : List Int) (i : Nat) : Bool :=
 Ma (wd w (1 + 3 * i)) (wd w (2 + 3 * i)) && (wd w (1 + 3 * i) == s) && (wd w (3 + 3 * i) == Me (wd w (1 + 3 * i)) (wd w (2 + 3 * i)) (wd w 0))
def Wd (s : Int) (w : List Int) : Nat → Option Int
 | 0 => none
 | n + 1 => cond (Mk s w n) (some (wd w (2 + 3 * n))) (Wd s w n)
def Nb (f : Aa) (s : Int) : Option Int := cond (decide (Ha f < 0)) none (Wd s ((f.1.getD (Ha f).toNat [])) 6)
def Le (o : Option Int) : Int × Bool := match o with
 | some v => (v, true)
 | none => (0, false)
theorem QC {i : Nat} (h : i < 6) : j4 .i64 (1 + j4 .i64 (3 * (i : Int))) = ((1 + 3 * i : Nat) : Int) := by
 rw [Ib (n := 3 * (i : Int)) (by omega) (by omega), Ib (by omega) (by omega)]; omega
theorem XH {i : Nat} (h : i < 6) : j4 .i64 (4 + j4 .i64 (3 * (i : Int))) = ((4 + 3 * i : Nat) : Int) := by
 rw [Ib (n := 3 * (i : Int)) (by omega) (by omega), Ib (by omega) (by omega)]; omega
theorem Iz {s : Int} {w : List Int} (hw : w.length = 19) {i : Nat} (hi : i < 6) :
 Oh s w (i : Int) = some (cond (Mk s w i) (.inr (.inr ((wd w (2 + 3 * i), true, ()), ()))) (.inl ((s, w, (i : Int) - 1, ()), ()))) := by
 simp only [Oh, QC hi, XH hi, jn]
 have c0 : Kb (Yc w (1 + 3 * i) (4 + 3 * i)) (0 : Int) = some (wd w (1 + 3 * i)) := by
  have := Bo (w := w) (lo := 1 + 3 * i) (hi := 4 + 3 * i) (j := 0) (by omega) (by omega)
  rw [show ((0 : Nat) : Int) = 0 from rfl] at this
  rw [this]; simp [wd, qg, show 1 + 3 * i < w.length by omega]
 have c1 : Kb (Yc w (1 + 3 * i) (4 + 3 * i)) (1 : Int) = some (wd w (2 + 3 * i)) := by
  have := Bo (w := w) (lo := 1 + 3 * i) (hi := 4 + 3 * i) (j := 1) (by omega) (by omega)
  rw [show ((1 : Nat) : Int) = 1 from rfl] at this
  rw [this]; simp [wd, qg, show 2 + 3 * i < w.length by omega, show 1 + 3 * i + 1 = 2 + 3 * i by omega]
 have c2 : Kb (Yc w (1 + 3 * i) (4 + 3 * i)) (2 : Int) = some (wd w (3 + 3 * i)) := by
  have := Bo (w := w) (lo := 1 + 3 * i) (hi := 4 + 3 * i) (j := 2) (by omega) (by omega)
  rw [show ((2 : Nat) : Int) = 2 from rfl] at this
  rw [this]; simp [wd, qg, show 3 + 3 * i < w.length by omega, show 1 + 3 * i + 2 = 3 + 3 * i by omega]
 have c3 : Kb w (0 : Int) = some (wd w 0) := Gz (n := 0) rfl (by omega)
 rw [Ca (show (i : Int) ≥ 0 by omega), Fu (by omega) (by omega), c0, c1, c2, c3]
 simp only [jb, cond_true, Em, Br, Mk]
 rw [Ib (n := (i : Int) - 1) (by omega) (by omega)]
 cases Ma (wd w (1 + 3 * i)) (wd w (2 + 3 * i)) <;> cases (wd w (1 + 3 * i) == s) <;> cases (wd w (3 + 3 * i) == Me (wd w (1 + 3 * i)) (wd w (2 + 3 * i)) (wd w 0)) <;> rfl
theorem Ms {s : Int} {w : List Int} (hw : w.length = 19) : ∀ n : Nat, n ≤ 6 → Be ((s, w, (n : Int) - 1, ()), ()) =
 some (match Wd s w n with | some v => .inr ((v, true, ()), ()) | none => .inl ((), ()))
 | 0, _ => by
  unfold Be
  rw [Wg]
  simp only [Oh]
  rfl
 | n + 1, h => by
  unfold Be
  rw [Wg]
  simp only
  rw [show (((n + 1 : Nat) : Int) - 1) = (n : Int) by omega, Iz hw (by omega)]
  have ih := Ms (s := s) hw n (by omega)
  unfold Be at ih
  simp only [Wd]
  cases Mk s w n with
  | true => rfl
  | false => simp only [cond_false, jb, qh]; exact ih
theorem Ug {f : Aa} (h : ¬ Ha f < 0) : ∃ w, Kb f.1 (Ha f) = some w ∧ f.1.getD (Ha f).toNat [] = w ∧ w.length = 19 ∧ Gd (wd w 0) = true ∧ Sc f = true := by
 unfold Ha at h ⊢
 cases hf : Sc f with
 | false => rw [hf] at h; simp at h
 | true =>
  rw [hf] at h
  obtain ⟨p, q, d, e, rfl, hp, hq, _, _⟩ := Po hf
  obtain ⟨h0, p, rfl, hp'⟩ := Th hp
  obtain ⟨h1, q, rfl, hq'⟩ := Th hq
  simp only [cond_true] at h ⊢
  cases h0B : Gd h0 <;> cases h1B : Gd h1 <;> simp only [Cq, h0B, h1B, cond_true, cond_false] at h ⊢
  ·simp at h
  ·exact ⟨h1 :: q, rfl, rfl, hq, h1B, trivial⟩
  ·exact ⟨h0 :: p, rfl, rfl, hp, h0B, trivial⟩
  ·cases decide (h1 > h0)
   ·exact ⟨h0 :: p, rfl, rfl, hp, h0B, trivial⟩
   ·exact ⟨h1 :: q, rfl, rfl, hq, h1B, trivial⟩
theorem Gg (f : Aa) (s : Int) (hz : Pd Ja f ≤ Vc) : Za f s = some ((Le (Nb f s)).1, (Le (Nb f s)).2, ()) := by
 unfold Za Nb
 rw [Kl f hz]
 simp only [jb]
 by_cases ha : Ha f < 0
 ·rw [Ca ha]; rfl
 ·rw [Da ha]
  obtain ⟨w, h1, h2, h3, _⟩ := Ug ha
  rw [h1, h2]
  have hl := Ms (s := s) h3 6 (by omega)
  rw [show (((6 : Nat) : Int) - 1) = 5 from rfl] at hl
  simp only [cond_false, jb, hl]
  cases Wd s w 6 <;> rfl
theorem IJ {s v h : Int} : (Me s v h != 65535) = (Ma s v && Gd h) := by
 unfold Me
 cases hs : Ma s v with
 | false => rfl
 | true =>
  cases hh : Gd h with
  | false => rfl
  | true =>
   simp only [Ma, Gd, decide_eq_true_eq] at hs hh
   simp only [jk, cond_true, bne_iff_ne, ne_eq]
   have h0 : 0 ≤ 7 * s + 13 * v + 31 * h + 5 := by omega
   rw [Int.tmod_eq_emod_of_nonneg h0]
   omega
theorem Tz {s : Int} {f : Aa} {a : Int} {w : List Int} (hidx : Kb f.1 a = some w) (hw : w.length = 19) (hh : Gd (wd w 0) = true) {i : Nat} (hi : i < 6) (v : Int) (b : Bool) :
 Tf s () a v b (i : Int) f = some (.inl ((s, (), a, cond (Mk s w i) (wd w (2 + 3 * i)) v, cond (Mk s w i) true b, ((i + 1 : Nat) : Int), ()), (f, ()))) := by
 have e1 : j4 .i64 (((1 + 3 * i : Nat) : Int) + 1) = ((2 + 3 * i : Nat) : Int) := by rw [Ib (by omega) (by omega)]; omega
 have e2 : j4 .i64 (((1 + 3 * i : Nat) : Int) + 2) = ((3 + 3 * i : Nat) : Int) := by rw [Ib (by omega) (by omega)]; omega
 have c3 : Kb w (0 : Int) = some (wd w 0) := Gz (n := 0) rfl (by omega)
 simp only [Tf, QC hi, e1, e2, hidx, jb]
 rw [Ca (show (i : Int) < 6 by omega), Ks (show 1 + 3 * i < w.length by omega), Ks (show 2 + 3 * i < w.length by omega), Ks (show 3 + 3 * i < w.length by omega), c3, Nf (by omega)]
 simp only [jb, cond_true, Lr, Mk, IJ, hh, Bool.and_true]
 cases hq : (wd w (1 + 3 * i) == s) with
 | false =>
  simp only [Bool.and_false, Bool.false_and, cond_false]
 | true =>
  have hq' : wd w (1 + 3 * i) = s := by simpa using hq
  rw [hq']
  simp only [Bool.and_true, cond_true]
  cases Ma s (wd w (2 + 3 * i)) <;> cases (wd w (3 + 3 * i) == Me s (wd w (2 + 3 * i)) (wd w 0)) <;> rfl
theorem Sz {s : Int} {f : Aa} {a : Int} {w : List Int} (hidx : Kb f.1 a = some w) (hw : w.length = 19) (hh : Gd (wd w 0) = true) :
 Cg ((s, (), a, 0, false, 0, ()), (f, ())) = some (.inl (((Le (Wd s w 6)).1, (Le (Wd s w 6)).2, ()), ())) := by
 unfold Cg
 have := Pu (step := fun x : ((Int × (Unit × (Int × (Int × (Bool × (Int × Unit)))))) × (Aa × Unit)) => Tf x.1.1 x.1.2.1 x.1.2.2.1 x.1.2.2.2.1 x.1.2.2.2.2.1 x.1.2.2.2.2.2.1 x.2.1)
  (fun k => ((s, (), a, (Le (Wd s w k)).1, (Le (Wd s w k)).2, (k : Int), ()), (f, ()))) 6 (.inl (((Le (Wd s w 6)).1, (Le (Wd s w 6)).2, ()), ())) (by
   intro k hk
   simp only [Tz hidx hw hh hk, Wd]
   cases Mk s w k <;> rfl) (by
   simp only [Tf]
   rfl)
 exact this
theorem Wn (f : Aa) (s : Int) (hz : Pd Ja f ≤ Vc) : Di f s = some ((Le (Nb f s)).1, (Le (Nb f s)).2, ()) := by
 unfold Di Nb
 rw [Pl f hz]
 simp only [jb, Od]
 by_cases ha : Ha f < 0
 ·rw [Ca ha]; rfl
 ·rw [Da ha]
  obtain ⟨w, h1, h2, h3, h4, _⟩ := Ug ha
  rw [h2]
  by_cases hs : 0 ≤ s ∧ s ≤ 3
  ·rw [Ca hs]
   simp only [cond_false, jg, Sz h1 h3 h4, jb]
   rfl
  ·rw [Da hs]
   have : ∀ n, Wd s w n = none := by
    intro n
    induction n with
    | zero => rfl
    | succ n ih =>
     simp only [Wd, ih]
     have : Mk s w n = false := by
      unfold Mk
      cases hq : (wd w (1 + 3 * n) == s) with
      | false => simp
      | true =>
       have hq' : wd w (1 + 3 * n) = s := by simpa using hq
       rw [hq', show Ma s (wd w (2 + 3 * n)) = false by simp [Ma]; omega]
       rfl
     rw [this]; rfl
   rw [this]; rfl
theorem Ew {s : Int} {w : List Int} : ∀ {n : Nat} {v : Int}, Wd s w n = some v → 0 ≤ v ∧ v ≤ 9999
 | 0, v, h => by simp [Wd] at h
 | n + 1, v, h => by
  simp only [Wd] at h
  cases hm : Mk s w n with
  | true =>
   rw [hm] at h
   simp only [cond_true, jc] at h
   subst h
   simp only [Mk, jd, Ma, decide_eq_true_eq] at hm
   omega
  | false =>
   rw [hm] at h
   exact Ew h
theorem Ww {f : Aa} {s v : Int} (h : Nb f s = some v) : 0 ≤ v ∧ v ≤ 9999 := by
 unfold Nb at h
 cases hd : decide (Ha f < 0) with
 | true => rw [hd] at h; simp at h
 | false => rw [hd] at h; exact Ew h
def Yp (o : Option Int) (lo hi d : Int) : Int := match o with
 | some v => cond (decide (lo ≤ v ∧ v ≤ hi)) v d
 | none => d
def Nk (f : Aa) : BL := (Yp (Nb f 0) 1 1000 200, Yp (Nb f 1) 0 1000 100, Yp (Nb f 2) 0 2 0, ())
theorem Ii (f : Aa) (hz : Pd Ja f ≤ Vc) : Ka f = some (Nk f, ()) := by
 unfold Nk
 have b1 : ∀ v, Nb f 1 = some v → 0 ≤ v := fun v h => (Ww h).1
 have b2 : ∀ v, Nb f 2 = some v → 0 ≤ v := fun v h => (Ww h).1
 have key : ∀ (v0 v1 v2 : Int) (b0 b1 b2 : Bool), (b1 = true → 0 ≤ v1) → (b2 = true → 0 ≤ v2) → Za f 0 = some (v0, b0, ()) → Za f 1 = some (v1, b1, ()) → Za f 2 = some (v2, b2, ()) →
  Ka f = some ((cond (b0 && decide (1 ≤ v0 ∧ v0 ≤ 1000)) v0 200, cond (b1 && decide (0 ≤ v1 ∧ v1 ≤ 1000)) v1 100, cond (b2 && decide (0 ≤ v2 ∧ v2 ≤ 2)) v2 0, ()), ()) := by
  intro v0 v1 v2 b0 b1 b2 h1 h2 e0 e1 e2
  unfold Ka
  rw [e0]
  simp only [jb]
  have q0 : decide (1 ≤ v0 ∧ v0 ≤ 1000) = (decide (v0 ≥ 1) && decide (v0 ≤ 1000)) := by rw [ql]; simp
  rw [q0, e1]
  simp only [jb]
  rw [e2]
  simp only [jb]
  have q1 : (b1 && decide (0 ≤ v1 ∧ v1 ≤ 1000)) = (b1 && decide (v1 ≤ 1000)) := by
   cases b1 with
   | false => rfl
   | true => rw [ql]; simp; intro _; exact h1 rfl
  have q2 : (b2 && decide (0 ≤ v2 ∧ v2 ≤ 2)) = (b2 && decide (v2 ≤ 2)) := by
   cases b2 with
   | false => rfl
   | true => rw [ql]; simp; intro _; exact h2 rfl
  rw [q1, q2]
  by_cases c1 : v0 ≥ 1 <;> by_cases c2 : v0 ≤ 1000 <;> by_cases c3 : v1 ≤ 1000 <;> by_cases c4 : v2 ≤ 2 <;> simp only [c1, c2, c3, c4, decide_true, decide_false] <;> cases b0 <;> cases b1 <;> cases b2 <;> rfl
 have hk := key (Le (Nb f 0)).1 (Le (Nb f 1)).1 (Le (Nb f 2)).1 (Le (Nb f 0)).2 (Le (Nb f 1)).2 (Le (Nb f 2)).2
  (by intro h; cases ho : Nb f 1 with | none => rw [ho] at h; simp [Le] at h | some v => exact b1 v ho)
  (by intro h; cases ho : Nb f 2 with | none => rw [ho] at h; simp [Le] at h | some v => exact b2 v ho)
  (Gg f _ hz) (Gg f _ hz) (Gg f _ hz)
 rw [hk]
 cases Nb f 0 <;> cases Nb f 1 <;> cases Nb f 2 <;> rfl

def Ce {S : Type} (g : Nat → S → S) : Nat → S → S
 | 0, s => s
 | n + 1, s => g n (Ce g n s)
theorem So {X R S : Type} {step : X → Option (X ⊕ R)} (n : Nat) (hn : n < 9223372036854775807) (g : Nat → S → S) (s0 : S) (I : S → Int → X) (out : S → R)
 (h : ∀ k, k < n → step (I (Ce g k s0) (k : Int)) = some (.inl (I (g k (Ce g k s0)) (j4 .i64 ((k : Int) + 1))))) (he : step (I (Ce g n s0) (n : Int)) = some (.inr (out (Ce g n s0)))) :
 Dc step (I s0 0) = some (out (Ce g n s0)) := by
 have := Pu (step := step) (fun k => I (Ce g k s0) (k : Int)) n (out (Ce g n s0)) (fun k hk => by
  rw [h k hk, Nf (by omega)]; rfl) he
 exact this
theorem Qw {S : Type} {g : Nat → S → S} {p : Nat → S → Prop} {s0 : S} (h0 : p 0 s0) (hs : ∀ k s, p k s → p (k + 1) (g k s)) : ∀ n, p n (Ce g n s0)
 | 0 => h0
 | n + 1 => hs n _ (Qw h0 hs n)
theorem TF {e : Ty} {c : Nat} : ∀ {w : List (T e)}, (∀ x ∈ w, Pd e x ≤ c) → Pd (.sl e) w ≤ (c + 1) * w.length
 | [], _ => by simp [Pd]
 | x :: r, h => by
  have h1 := h x (by simp)
  have h2 : Pd (.sl e) r ≤ (c + 1) * r.length := TF fun y hy => h y (by simp [hy])
  have h3 : Pd (.sl e) r = ja r + (List.map (Pd e) r).sum := rfl
  have h4 : Pd (.sl e) (x :: r) = (ja r + 1) + (Pd e x + (List.map (Pd e) r).sum) := by simp [Pd]
  rw [h4, jw, Nat.mul_add]
  omega
theorem Bi {n : Nat} (h : n ≤ 1073741824) : jx n Bh = true := ji h
theorem Xx {α β : Type} (f : α → β) : ∀ (xs : List α) (k : Nat) (o : List β), Up (fun _ o x => jf o [f x]) k o xs = o ++ xs.map f
 | [], _, o => by simp [Up]
 | x :: r, k, o => by
  simp only [Up]
  rw [Xx f r]
  simp
theorem FA {X R α β : Type} {step : X → Option (X ⊕ R)} (xs : List α) (f : α → β) (I : List β → Int → X) (out : List β → R) (hn : xs.length ≤ 1073741824)
 (h : ∀ k (hk : k < xs.length) (o : List β), ja o = k → step (I o (k : Int)) = some (.inl (I (jf o [f xs[k]]) (j4 .i64 ((k : Int) + 1)))))
 (he : ∀ o : List β, step (I o (xs.length : Int)) = some (.inr (out o))) : Dc step (I [] 0) = some (out (xs.map f)) := by
 have := (Jy (step := step) xs (fun _ o x => jf o [f x]) I out (fun k o => ja o = k) (fun k hk o ho => ⟨h k hk o ho, by simp [ho]⟩) (fun o _ => he o) (by omega) [] rfl).1
 rw [this, Xx]
 rfl
theorem Xy (a : List Int) : Pd (.sl int) a = a.length := Vq (e := int) rfl a
theorem Mq (l : List Int) (h : l.length ≤ Vc) : Lk l = some (l, ()) := by
 have h20 : Vc = 1048576 := rfl
 unfold Lk
 rw [Bi (by simp; omega)]
 rfl
structure Db (f : Aa) : Prop where
 l1 : f.1.length = 2
 l2 : f.2.1.length = 2
 pg : ∀ i (h1 : i < f.1.length) (h2 : i < f.2.1.length), f.1[i].length = 19 ∧ 0 ≤ f.2.1[i] ∧ f.2.1[i] ≤ 1000 ∧ Tj f.1[i] = true
theorem Vu {p : List Int} {e : Int} : Ui p e = true ↔ p.length = 19 ∧ 0 ≤ e ∧ e ≤ 1000 ∧ Tj p = true := by
 simp only [Ui, jd, beq_iff_eq, decide_eq_true_eq]
 constructor
 ·rintro ⟨⟨h1, h2, h3⟩, h4⟩
  exact ⟨by omega, h2, h3, h4⟩
 ·rintro ⟨h1, h2, h3, h4⟩
  exact ⟨⟨by omega, h2, h3⟩, h4⟩
theorem Qc {f : Aa} : Sc f = true ↔ Db f := by
 obtain ⟨P, E, u⟩ := f
 constructor
 ·intro h
  unfold Sc at h
  split at h
  ·rename_i p q d e h1 h2
   simp only at h1 h2
   subst h1; subst h2
   simp only [jd, Vu] at h
   refine ⟨rfl, rfl, fun i h1 h2 => ?_⟩
   have : i = 0 ∨ i = 1 := by simp at h1; omega
   rcases this with rfl | rfl
   ·exact h.1
   ·exact h.2
  ·simp at h
 ·rintro ⟨l1, l2, pg⟩
  match P, E, l1, l2, pg with
  | [p, q], [d, e], _, _, pg =>
   show (Ui p d && Ui q e) = true
   rw [jd, Vu, Vu]
   exact ⟨pg 0 (by simp) (by simp), pg 1 (by simp) (by simp)⟩
def zF : Aa := ([], [], ())
def Gb (o : Ra) : Nat := o.2.1.toNat
def Dg (f : Aa) (o : Ra) : Bool :=
 Sc f && (decide (0 ≤ o.2.1 ∧ o.2.1 ≤ 1) && cond o.1 (decide (o.2.2.1 = 0 ∧ o.2.2.2.1 = 0 ∧ f.2.1.getD (Gb o) 0 < 1000))
  (decide (0 ≤ o.2.2.1 ∧ o.2.2.1 ≤ 18 ∧ 0 ≤ o.2.2.2.1 ∧ o.2.2.2.1 ≤ 65534 ∧ (f.1.getD (Gb o) []).getD o.2.2.1.toNat 0 = 65535)))
def Eg (f : Aa) (o : Ra) : Aa :=
 cond o.1 (f.1.set (Gb o) (List.replicate 19 65535), f.2.1.set (Gb o) (f.2.1.getD (Gb o) 0 + 1), ())
  (f.1.set (Gb o) ((f.1.getD (Gb o) []).set o.2.2.1.toNat o.2.2.2.1), f.2.1, ())
theorem PJ {f : Aa} (h : Db f) : Pd Ja f ≤ 100 := by
 have h0 : Pd Ja f = (ja f.1 + (List.map (Pd (.sl int)) f.1).sum) + (Pd (.sl int) f.2.1 + 0) := rfl
 have h1 : ∀ x ∈ f.1, Pd (.sl int) x ≤ 19 := fun x hx => by
  obtain ⟨i, hi, rfl⟩ := List.mem_iff_getElem.1 hx
  rw [Xy, (h.pg i hi (by rw [h.l2, ← h.l1]; exact hi)).1]
  exact jo _
 have h2 := TF (e := .sl int) h1
 have h3 : Pd (.sl (.sl int)) f.1 = ja f.1 + (List.map (Pd (.sl int)) f.1).sum := rfl
 rw [h.l1] at h2
 have h4 := Xy f.2.1
 have h5 := h.l2
 omega
theorem EA (v : Int) : ∀ (n : Nat) (row : List Int), n ≤ row.length → Ce (fun k r => j5 r k v) n row = List.replicate n v ++ row.drop n
 | 0, row, _ => by simp [Ce]
 | n + 1, row, h => by
  simp only [Ce]
  rw [EA v n row (by omega), List.set_append_right _ _ (by simp), qp, Nat.sub_self, List.drop_eq_getElem_cons (show n < row.length by omega), List.set_cons_zero, List.replicate_succ']
  simp
theorem Vt (v : Int) (row : List Int) : Ce (fun k r => j5 r k v) row.length row = List.replicate row.length v := by
 rw [EA v _ row (jo _), List.drop_length, List.append_nil]
theorem Nu (v : Int) (row : List Int) : ∀ n, (Ce (fun k r => j5 r k v) n row).length = row.length :=
 Qw (p := fun _ (r : List Int) => r.length = row.length) rfl (fun k s hs => by simpa using hs)
theorem Sp {f : Aa} (h : Db f) : Kj f = some (f, ()) := by
 have hb : ∀ i (hi : i < f.1.length), f.1[i].length = 19 := fun i hi => (h.pg i hi (by rw [h.l2, ← h.l1]; exact hi)).1
 have h20 : Vc = 1048576 := rfl
 have hl1 := h.l1
 have hl := FA (step := fun x : (Unit × Unit × List (List Int) × Int × Int × Unit) × Aa × Aa × Unit => Si x.1.1 x.1.2.1 x.1.2.2.1 x.1.2.2.2.1 x.1.2.2.2.2.1 x.2.1 x.2.2.1) f.1 (fun x => x)
  (fun o k => (((), (), f.1, (f.1.length : Int), k, ()), (zF, (o, f.2.1, ()), ()))) (fun o => .inl (((), (), ()), (zF, (o, f.2.1, ()), ()))) (by omega) (fun k hk o ho => by
   have := hb k hk
   simp only [Si]
   rw [Ca (by omega), Ij hk]
   simp only [cond_true, jb]
   rw [Mq _ (by omega)]
   simp only [jb]
   rw [Bi (by simp only [jw, j6]; omega)]
   rfl) (fun o => by
   simp only [Si]
   rw [Da (by omega)]
   rfl)
 unfold Kj Lj
 rw [Mq _ (by have := h.l2; omega)]
 simp only [jb]
 erw [hl]
 rw [List.map_id']
 rfl
theorem Bl {f : Aa} (h : Db f) : Rj f = some (f, ()) := by
 have hb : ∀ i (hi : i < f.1.length), f.1[i].length = 19 := fun i hi => (h.pg i hi (by rw [h.l2, ← h.l1]; exact hi)).1
 have hl1 := h.l1
 have hl2 := h.l2
 have hl := FA (step := fun x : (Unit × Unit × Unit × Int × Unit) × Aa × Aa × Aa × Unit => Jk x.1.1 x.1.2.1 x.1.2.2.1 x.1.2.2.2.1 x.2.1 x.2.2.1 x.2.2.2.1) f.1 (fun x => x)
  (fun o k => (((), (), (), k, ()), (f, zF, (o, f.2.1, ()), ()))) (fun o => .inl (((), (), ()), (zF, (o, f.2.1, ()), ()))) (by omega) (fun k hk o ho => by
   have := hb k hk
   simp only [Jk]
   rw [Ca (by omega), Ij hk]
   simp only [cond_true, jb]
   rw [Bi (by simp; omega), Bi (by simp only [jw, j6]; omega)]
   rfl) (fun o => by
   simp only [Jk]
   rw [Da (by omega)]
   rfl)
 unfold Rj Rk
 rw [Bi (by simp; omega)]
 simp only [cond_true]
 erw [hl]
 rw [List.map_id']
 rfl
theorem Vw {f : Aa} (h : Db f) {o : Ra} (hp : 0 ≤ o.2.1 ∧ o.2.1 ≤ 1) : Gb o < f.1.length ∧ Gb o < f.2.1.length ∧ o.2.1 = ((Gb o : Nat) : Int) := by
 have := h.l1
 have := h.l2
 unfold Gb
 omega
theorem Dy (o : Ra) (P : List (List Int)) (E : List Int) (i : Nat) (row : List Int) (hr : row.length = 19) :
 Df (((), (), (), row, (row.length : Int), 0, ()), (o, zF, ((P, (i : Int), row, row), E, ()), ())) =
  some (.inl (((), (), (), ()), (o, zF, ((P, (i : Int), row, List.replicate 19 65535), E, ()), ()))) := by
 unfold Df
 have := So (step := fun x : (Unit × Unit × Unit × List Int × Int × Int × Unit) × Ra × Aa × ((List (List Int) × Int × List Int × List Int) × List Int × Unit) × Unit =>
  Zj x.1.1 x.1.2.1 x.1.2.2.1 x.1.2.2.2.1 x.1.2.2.2.2.1 x.1.2.2.2.2.2.1 x.2.1 x.2.2.1 x.2.2.2.1) row.length (by omega) (fun k r => j5 r k 65535) row
  (fun r k => (((), (), (), r, (row.length : Int), k, ()), (o, zF, ((P, (i : Int), row, r), E, ()), ()))) (fun r => .inl (((), (), (), ()), (o, zF, ((P, (i : Int), row, r), E, ()), ()))) (fun k hk => by
   have hl := Nu 65535 row k
   generalize Ce (fun k r => j5 r k (65535 : Int)) k row = r at *
   simp only [Zj]
   rw [Ca (by omega), Og, Ca (by omega)]
   simp only [cond_true, jn, je (show k < r.length by omega), jb]) (by
   simp only [Zj]
   rw [Da (by omega)]
   rfl)
 rw [Vt, hr] at this
 rw [hr]
 exact this
theorem Sy (o : Ra) (P : List (List Int)) (E : List Int) (hp : o.2.1 = ((Gb o : Nat) : Int)) (hi : Gb o < P.length) (hr : P[Gb o].length = 19) :
 Jg (((), (), (), 0, ()), (o, zF, (P, E, ()), ())) = some (.inl (((), (), (), ()), (o, zF, (j5 P (Gb o) (List.replicate 19 65535), E, ()), ()))) := by
 unfold Jg
 have := So (step := fun x : (Unit × Unit × Unit × Int × Unit) × Ra × Aa × Aa × Unit =>
  Gk x.1.1 x.1.2.1 x.1.2.2.1 x.1.2.2.2.1 x.2.1 x.2.2.1 x.2.2.2.1) P[Gb o].length (by omega) (fun k r => j5 r k 65535) P[Gb o]
  (fun r k => (((), (), (), k, ()), (o, zF, (j5 P (Gb o) r, E, ()), ()))) (fun r => .inl (((), (), (), ()), (o, zF, (j5 P (Gb o) r, E, ()), ()))) (fun k hk => by
   have hl := Nu 65535 P[Gb o] k
   generalize Ce (fun k r => j5 r k (65535 : Int)) k P[Gb o] = r at *
   simp only [Gk]
   rw [Ca (by omega), hp, Og, Ca (by rw [j7]; exact hi)]
   simp only [cond_true, jn]
   rw [List.getElem?_set_self hi]
   simp only [jb]
   rw [Og, Ca (by omega)]
   simp only [cond_true, je (show k < r.length by omega), jb, List.set_set]) (by
   simp only [Gk]
   rw [Da (by omega)]
   rfl)
 rw [Vt, List.set_getElem_self, hr] at this
 exact this
theorem Zy {p : List Int} : Tj p = true ↔ ∀ j (hj : j < p.length), 0 ≤ p[j] ∧ p[j] ≤ 65535 := by
 unfold Tj
 rw [Xz]
 simp
theorem Wf {α : Type} {L : List α} {i : Nat} {z : α} (h : i < L.length) : L.getD i z = L[i] := by
 rw [qg, je h]; rfl
theorem UB {f : Aa} {o : Ra} (hf : Sc f = true) (hp : 0 ≤ o.2.1 ∧ o.2.1 ≤ 1) (g1 : Gb o < f.1.length) (g2 : Gb o < f.2.1.length) :
 Dg f o = cond o.1 (decide (o.2.2.1 = 0 ∧ o.2.2.2.1 = 0 ∧ f.2.1[Gb o] < 1000)) (decide (0 ≤ o.2.2.1 ∧ o.2.2.1 ≤ 18 ∧ 0 ≤ o.2.2.2.1 ∧ o.2.2.2.1 ≤ 65534 ∧ f.1[Gb o].getD o.2.2.1.toNat 0 = 65535)) := by
 unfold Dg
 rw [hf, Ca hp, Wf g2, Wf g1]
 rfl
theorem VB {f : Aa} {o : Ra} (g1 : Gb o < f.1.length) (g2 : Gb o < f.2.1.length) :
 Eg f o = cond o.1 (f.1.set (Gb o) (List.replicate 19 65535), f.2.1.set (Gb o) (f.2.1[Gb o] + 1), ()) (f.1.set (Gb o) (f.1[Gb o].set o.2.2.1.toNat o.2.2.2.1), f.2.1, ()) := by
 unfold Eg
 rw [Wf g2, Wf g1]
theorem AA {f : Aa} {i : Nat} (hF : Db f) (g2 : i < f.2.1.length) (h : f.2.1[i] < 1000) : Db (f.1.set i (List.replicate 19 65535), f.2.1.set i (f.2.1[i] + 1), ()) := by
 refine ⟨by simpa using hF.l1, by simpa using hF.l2, fun j h1 h2 => ?_⟩
 simp only [j7] at h1 h2
 simp only [List.getElem_set]
 by_cases e : i = j
 ·subst e
  rw [if_pos rfl, if_pos rfl]
  have := hF.pg i h1 h2
  refine ⟨by simp, by omega, by omega, ?_⟩
  rw [Zy]
  intro j hj
  rw [List.getElem_replicate]
  omega
 ·rw [if_neg e, if_neg e]
  exact hF.pg j h1 h2
theorem YF {f : Aa} {i k : Nat} {v : Int} (hF : Db f) (g1 : i < f.1.length) (hv : 0 ≤ v ∧ v ≤ 65535) : Db (f.1.set i (f.1[i].set k v), f.2.1, ()) := by
 refine ⟨by simpa using hF.l1, hF.l2, fun j h1 h2 => ?_⟩
 simp only [j7] at h1
 simp only [List.getElem_set]
 by_cases e : i = j
 ·subst e
  rw [if_pos rfl]
  obtain ⟨e1, e2, e3, e4⟩ := hF.pg i h1 h2
  refine ⟨by rw [j7]; exact e1, e2, e3, ?_⟩
  rw [Zy] at e4 ⊢
  intro j hj
  rw [List.getElem_set]
  split
  ·exact hv
  ·exact e4 j (by simpa using hj)
 ·rw [if_neg e]
  exact hF.pg j h1 h2
theorem Gu {f : Aa} {o : Ra} (h : Dg f o = true) : Db (Eg f o) := by
 have h0 := h
 simp only [Dg, jd, decide_eq_true_eq] at h
 obtain ⟨hf, hp, _⟩ := h
 have hF := Qc.1 hf
 obtain ⟨g1, g2, g3⟩ := Vw hF hp
 rw [UB hf hp g1 g2] at h0
 rw [VB g1 g2]
 cases ho : o.1 with
 | true =>
  rw [ho] at h0
  simp only [cond_true, decide_eq_true_eq] at h0 ⊢
  exact AA hF g2 h0.2.2
 | false =>
  rw [ho] at h0
  simp only [cond_false, decide_eq_true_eq] at h0 ⊢
  exact YF hF g1 (by omega)
def Mt (f : Aa) (o : Ra) : Option (Aa × Bool × Unit) := some (cond (Dg f o) (Eg f o) zF, Dg f o, ())
theorem Ay (f : Aa) (o : Ra) (hz : Pd Ja f ≤ Vc) : Ml f o = Mt f o := by
 unfold Ml Mt
 rw [On f hz]
 cases hf : Sc f with
 | false =>
  have : Dg f o = false := by unfold Dg; rw [hf]; rfl
  rw [this]; rfl
 | true =>
  have hF := Qc.1 hf
  simp only [jb, jg, cond_false]
  by_cases hp : 0 ≤ o.2.1 ∧ o.2.1 ≤ 1
  case neg =>
   have : Dg f o = false := by unfold Dg; rw [hf, Da hp]; rfl
   rw [this]
   by_cases h0 : o.2.1 < 0
   ·rw [Ca h0]; rfl
   ·rw [Da h0, Ca (by omega)]; rfl
  rw [Da (show ¬ o.2.1 < 0 by omega), Da (show ¬ o.2.1 > 1 by omega), Sp hF]
  obtain ⟨g1, g2, g3⟩ := Vw hF hp
  obtain ⟨e1, e2, e3, e4⟩ := hF.pg (Gb o) g1 g2
  have i1 : Je (ja f.1) o.2.1 = true := by rw [g3, Og]; exact Ca g1
  have i2 : Je (ja f.2.1) o.2.1 = true := by rw [g3, Og]; exact Ca g2
  have i3 : f.1[jy o.2.1]? = some f.1[Gb o] := je g1
  have i4 : f.2.1[jy o.2.1]? = some f.2.1[Gb o] := je g2
  rw [UB hf hp g1 g2, VB g1 g2]
  simp only [cond_false, jb, i1, i3, cond_true]
  cases ho : o.1 with
  | true =>
   simp only [cond_true]
   by_cases h1 : o.2.2.1 = 0
   case neg =>
    rw [Da (by omega), show (o.2.2.1 != 0) = true by rw [bne_iff_ne]; exact h1]; rfl
   by_cases h2 : o.2.2.2.1 = 0
   case neg =>
    rw [Da (by omega), show (o.2.2.1 != 0) = false by rw [h1]; rfl, show (o.2.2.2.1 != 0) = true by rw [bne_iff_ne]; exact h2]; rfl
   rw [show (o.2.2.1 != 0) = false by rw [h1]; rfl, show (o.2.2.2.1 != 0) = false by rw [h2]; rfl]
   simp only [cond_false, i2, i4, cond_true, jb]
   by_cases h3 : f.2.1[Gb o] ≥ 1000
   ·rw [Ca h3, Da (by omega)]; rfl
   rw [Da h3, Ca (by omega)]
   simp only [cond_false, cond_true]
   have hl := Dy o f.1 f.2.1 (Gb o) f.1[Gb o] e1
   rw [show Df (((), (), (), f.1[Gb o], (f.1[Gb o].length : Int), 0, ()), (o, ([], [], ()), ((f.1, (((jy o.2.1) : Nat) : Int), f.1[Gb o], f.1[Gb o]), f.2), ())) = _ from hl]
   simp only [jb, qh, i2, i4, cond_true]
   rw [Ib (by omega) (by omega)]
   rfl
  | false =>
   simp only [cond_false]
   by_cases h1 : o.2.2.1 < 0
   ·rw [Da (show ¬ (0 ≤ o.2.2.1 ∧ o.2.2.1 ≤ 18 ∧ 0 ≤ o.2.2.2.1 ∧ o.2.2.2.1 ≤ 65534 ∧ f.1[Gb o].getD o.2.2.1.toNat 0 = 65535) by omega), Ca h1]; rfl
   by_cases h2 : o.2.2.1 ≥ 19
   ·rw [Da (show ¬ (0 ≤ o.2.2.1 ∧ o.2.2.1 ≤ 18 ∧ 0 ≤ o.2.2.2.1 ∧ o.2.2.2.1 ≤ 65534 ∧ f.1[Gb o].getD o.2.2.1.toNat 0 = 65535) by omega), Da h1, Ca h2]; rfl
   by_cases h3 : o.2.2.2.1 < 0
   ·rw [Da (show ¬ (0 ≤ o.2.2.1 ∧ o.2.2.1 ≤ 18 ∧ 0 ≤ o.2.2.2.1 ∧ o.2.2.2.1 ≤ 65534 ∧ f.1[Gb o].getD o.2.2.1.toNat 0 = 65535) by omega), Da h1, Da h2, Ca h3]; rfl
   by_cases h4 : o.2.2.2.1 ≥ 65535
   ·rw [Da (show ¬ (0 ≤ o.2.2.1 ∧ o.2.2.1 ≤ 18 ∧ 0 ≤ o.2.2.2.1 ∧ o.2.2.2.1 ≤ 65534 ∧ f.1[Gb o].getD o.2.2.1.toNat 0 = 65535) by omega), Da h1, Da h2, Da h3, Ca h4]; rfl
   rw [Da h1, Da h2, Da h3, Da h4]
   have hat : o.2.2.1.toNat < f.1[Gb o].length := by omega
   have i5 : Je (ja f.1[Gb o]) o.2.2.1 = true := by rw [show o.2.2.1 = ((o.2.2.1.toNat : Nat) : Int) by omega, Og]; exact Ca hat
   simp only [cond_false, i5, cond_true, je hat, jb]
   rw [Wf hat]
   by_cases h5 : f.1[Gb o][o.2.2.1.toNat] = 65535
   ·rw [show (f.1[Gb o][o.2.2.1.toNat] != 65535) = false by rw [h5]; rfl, Ca (by omega)]; rfl
   ·rw [show (f.1[Gb o][o.2.2.1.toNat] != 65535) = true by rw [bne_iff_ne]; exact h5, Da (by omega)]; rfl
theorem FO {f : Aa} {i : Nat} {row : List Int} {e : Int} (hF : Db f) (hr : row.length = 19) : Pd Ja (f.1.set i row, f.2.1.set i e, ()) ≤ Vc := by
 have h20 : Vc = 1048576 := rfl
 have h0 : Pd Ja (f.1.set i row, f.2.1.set i e, ()) = (ja (f.1.set i row) + (List.map (Pd (.sl int)) (f.1.set i row)).sum) + (Pd (.sl int) (f.2.1.set i e) + 0) := rfl
 have h1 : ∀ x ∈ f.1.set i row, Pd (.sl int) x ≤ 19 := fun x hx => by
  rw [Xy]
  rcases List.mem_or_eq_of_mem_set hx with hx | rfl
  ·obtain ⟨j, hj, rfl⟩ := List.mem_iff_getElem.1 hx
   rw [(hF.pg j hj (by rw [hF.l2, ← hF.l1]; exact hj)).1]
   exact jo _
  ·omega
 have h2 := TF (e := .sl int) h1
 have h3 : Pd (.sl (.sl int)) (f.1.set i row) = ja (f.1.set i row) + (List.map (Pd (.sl int)) (f.1.set i row)).sum := rfl
 rw [j7, hF.l1] at h2
 have h4 := Xy (f.2.1.set i e)
 rw [j7, hF.l2] at h4
 omega
theorem Mr (f : Aa) (o : Ra) (hz : Pd Ja f ≤ Vc) : Ci f o = Mt f o := by
 unfold Ci Mt
 rw [Wi f hz]
 cases hf : Sc f with
 | false =>
  have : Dg f o = false := by unfold Dg; rw [hf]; rfl
  rw [this]; rfl
 | true =>
  have hF := Qc.1 hf
  simp only [jb, jg, cond_false, Od]
  by_cases hp : 0 ≤ o.2.1 ∧ o.2.1 ≤ 1
  case neg =>
   have : Dg f o = false := by unfold Dg; rw [hf, Da hp]; rfl
   rw [this, Da hp]
   rfl
  rw [Ca hp, Bl hF]
  obtain ⟨g1, g2, g3⟩ := Vw hF hp
  obtain ⟨e1, e2, e3, e4⟩ := hF.pg (Gb o) g1 g2
  have i1 : Je (ja f.1) o.2.1 = true := by rw [g3, Og]; exact Ca g1
  have i2 : Je (ja f.2.1) o.2.1 = true := by rw [g3, Og]; exact Ca g2
  have i3 : f.1[jy o.2.1]? = some f.1[Gb o] := je g1
  have i4 : f.2.1[jy o.2.1]? = some f.2.1[Gb o] := je g2
  rw [UB hf hp g1 g2, VB g1 g2]
  simp only [cond_false, jb, jg]
  cases ho : o.1 with
  | true =>
   simp only [cond_true]
   have hl := Sy o f.1 f.2.1 g3 g1 e1
   rw [show Jg (((), (), (), 0, ()), (o, ([], [], ()), f, ())) = _ from hl]
   simp only [jb, qh, i2, i4, cond_true]
   by_cases h1 : o.2.2.1 = 0
   case neg =>
    rw [Da (by omega), show (o.2.2.1 != 0) = true by rw [bne_iff_ne]; exact h1]; rfl
   by_cases h2 : o.2.2.2.1 = 0
   case neg =>
    rw [Da (by omega), show (o.2.2.1 != 0) = false by rw [h1]; rfl, show (o.2.2.2.1 != 0) = true by rw [bne_iff_ne]; exact h2]; rfl
   rw [show (o.2.2.1 != 0) = false by rw [h1]; rfl, show (o.2.2.2.1 != 0) = false by rw [h2]; rfl, Ib (by omega) (by omega)]
   simp only [cond_false]
   rw [show Ch (j5 f.1 (Gb o) (List.replicate 19 65535), j5 f.2.1 (jy o.2.1) (f.2.1[Gb o] + 1), ()) = _ from Wi _ (FO hF (by simp))]
   by_cases h3 : f.2.1[Gb o] < 1000
   ·have := Qc.2 (AA hF g2 h3)
    rw [show Sc (j5 f.1 (Gb o) (List.replicate 19 65535), j5 f.2.1 (jy o.2.1) (f.2.1[Gb o] + 1), ()) = _ from this, Ca ⟨h1, h2, h3⟩]
    rfl
   ·have : Sc (j5 f.1 (Gb o) (List.replicate 19 65535), j5 f.2.1 (Gb o) (f.2.1[Gb o] + 1), ()) = false := by
     cases hb : Sc (j5 f.1 (Gb o) (List.replicate 19 65535), j5 f.2.1 (Gb o) (f.2.1[Gb o] + 1), ()) with
     | false => rfl
     | true =>
      have := (Qc.1 hb).pg (Gb o) (by simpa using g1) (by simpa using g2)
      simp only [List.getElem_set_self] at this
      omega
    rw [show Sc (j5 f.1 (Gb o) (List.replicate 19 65535), j5 f.2.1 (jy o.2.1) (f.2.1[Gb o] + 1), ()) = _ from this, Da (by omega)]
    rfl
  | false =>
   simp only [cond_false]
   by_cases h1 : 0 ≤ o.2.2.1 ∧ o.2.2.1 ≤ 18
   case neg => rw [Da (show ¬ (0 ≤ o.2.2.1 ∧ o.2.2.1 ≤ 18 ∧ 0 ≤ o.2.2.2.1 ∧ o.2.2.2.1 ≤ 65534 ∧ f.1[Gb o].getD o.2.2.1.toNat 0 = 65535) by omega), Da h1]; rfl
   by_cases h2 : 0 ≤ o.2.2.2.1 ∧ o.2.2.2.1 ≤ 65534
   case neg => rw [Da (show ¬ (0 ≤ o.2.2.1 ∧ o.2.2.1 ≤ 18 ∧ 0 ≤ o.2.2.2.1 ∧ o.2.2.2.1 ≤ 65534 ∧ f.1[Gb o].getD o.2.2.1.toNat 0 = 65535) by omega), Ca h1, Da h2]; rfl
   rw [Ca h1, Ca h2]
   have hat : o.2.2.1.toNat < f.1[Gb o].length := by omega
   have i5 : Je (ja f.1[Gb o]) o.2.2.1 = true := by rw [show o.2.2.1 = ((o.2.2.1.toNat : Nat) : Int) by omega, Og]; exact Ca hat
   have i6 : Kb f.1 o.2.1 = some f.1[Gb o] := EC g3 g1
   have i7 : Kb f.1[Gb o] o.2.2.1 = some f.1[Gb o][o.2.2.1.toNat] := EC (by omega) hat
   simp only [jg, cond_false, i6, jb, i7, i1, i3, cond_true, i5, je hat]
   rw [Wf hat]
   by_cases h5 : f.1[Gb o][o.2.2.1.toNat] = 65535
   ·rw [show (f.1[Gb o][o.2.2.1.toNat] != 65535) = false by rw [h5]; rfl, Ca (by omega)]; rfl
   ·rw [show (f.1[Gb o][o.2.2.1.toNat] != 65535) = true by rw [bne_iff_ne]; exact h5, Da (by omega)]; rfl
def Pc (f : Aa) (ops : List Ra) : Aa ⊕ Unit := Oe (fun _ s o => cond (Dg s o) (.inl (Eg s o)) (.inr ())) 0 f ops
def Tu (r : Aa ⊕ Unit) : Aa × Bool × Unit := r.elim (fun g => (g, true, ())) (fun _ => (zF, false, ()))
theorem Zv {α S R : Type} {g : Nat → S → α → S ⊕ R} (hg : ∀ j k s x, g j s x = g k s x) : ∀ (xs : List α) (j k : Nat) (s : S), Oe g j s xs = Oe g k s xs
 | [], _, _, _ => rfl
 | x :: r, j, k, s => by
  simp only [Oe, hg j k s x]
  cases g k s x with
  | inl s' => exact Zv hg r (j + 1) (k + 1) s'
  | inr r => rfl
theorem Ke (f : Aa) (o : Ra) (r : List Ra) : Pc f (o :: r) = cond (Dg f o) (Pc (Eg f o) r) (.inr ()) := by
 simp only [Pc, Oe]
 cases Dg f o with
 | false => rfl
 | true =>
  simp only [cond_true]
  exact Zv (fun _ _ _ _ => rfl) r (0 + 1) 0 _
theorem Of : ∀ (a : List Ra) (f : Aa) (r : List Ra), Pc f (a ++ r) = (Pc f a).elim (fun g => Pc g r) (fun _ => .inr ())
 | [], f, r => rfl
 | o :: a, f, r => by
  rw [List.cons_append, Ke, Ke]
  cases Dg f o with
  | false => rfl
  | true => exact Of a (Eg f o) r
theorem Kd {f : Aa} (h : Db f) : Pd Ja f ≤ Vc := by
 have := PJ h
 have h20 : Vc = 1048576 := rfl
 omega
theorem Np {f : Aa} (h : Db f) (ops : List Ra) (hn : ops.length ≤ 1000) : Bk f ops = some (Tu (Pc f ops)) := by
 unfold Bk Dm
 rw [Sp h]
 simp only [jb]
 have hl := To (step := fun x : (Unit × Unit × List Ra × Int × Int × Unit) × Aa × Aa × Unit => Vl x.1.1 x.1.2.1 x.1.2.2.1 x.1.2.2.2.1 x.1.2.2.2.2.1 x.2.1 x.2.2.1) ops
  (fun _ s o => cond (Dg s o) (.inl (Eg s o)) (.inr ())) (fun s k => (((), (), ops, (ops.length : Int), k, ()), (zF, s, ()))) (fun s => .inl (((), (), ()), (zF, s, ()))) (fun _ => .inr (((), false, ()), (zF, ())))
  (fun _ s => Db s) (fun k hk s hs => by
   refine ⟨?_, fun s' h' => ?_⟩
   ·simp only [Vl]
    rw [Ca (by omega), Ij hk]
    simp only [cond_true, jb]
    rw [show Ml (s.1, s.2.1, ()) ops[k] = _ from Ay s ops[k] (Kd hs)]
    unfold Mt
    cases Dg s ops[k] <;> rfl
   ·cases hd : Dg s ops[k] with
    | false => rw [hd] at h'; simp at h'
    | true =>
     rw [hd] at h'
     simp only [cond_true, Sum.inl.injEq] at h'
     subst h'
     exact Gu hd) (fun s _ => by
   simp only [Vl]
   rw [Da (by omega)]
   rfl) (by omega) f h
 erw [hl]
 unfold Pc
 cases Oe (fun _ (s : Aa) (o : Ra) => cond (Dg s o) (Sum.inl (Eg s o)) (Sum.inr ())) 0 f ops <;> rfl
def Qg (page : Int) (at' : Nat) (s v h : Int) : List Ra :=
 [(false, page, ((1 + 3 * at' : Nat) : Int), s, ()), (false, page, ((2 + 3 * at' : Nat) : Int), v, ()), (false, page, ((3 + 3 * at' : Nat) : Int), Me s v h, ())]
theorem Gm (page : Int) {at' : Nat} (ha : at' ≤ 6) (s v h : Int) : Lf page (at' : Int) s v h = some (Qg page at' s v h, ()) := by
 unfold Lf
 rw [Lr]
 simp only [jb]
 rw [Bi (by simp)]
 simp only [cond_true, List.append_eq, List.cons_append, List.nil_append]
 rw [Ib (n := 3 * (at' : Int)) (by omega) (by omega), Ib (by omega) (by omega), Ib (by omega) (by omega), Ib (by omega) (by omega)]
 unfold Qg
 congr 1
theorem Fm (page : Int) {at' : Nat} (ha : at' ≤ 6) (s v h : Int) : Xh page (at' : Int) s v h = some (Qg page at' s v h, ()) := by
 unfold Xh Mj
 rw [Br]
 simp only [jb]
 have hl := (Jy (step := fun x : (Int × Int × List Ra × List Int × Int × Int × Unit) × Unit => Ti x.1.1 x.1.2.1 x.1.2.2.1 x.1.2.2.2.1 x.1.2.2.2.2.1 x.1.2.2.2.2.2.1) [s, v, Me s v h]
  (fun k o x => jf o [(false, page, ((1 + 3 * at' + k : Nat) : Int), x, ())]) (fun o k => ((page, (at' : Int), o, [s, v, Me s v h], 3, k, ()), ())) (fun o => .inl ((o, ()), ())) (fun k o => o.length = k) (fun k hk o ho => by
   refine ⟨?_, by simp [ho]⟩
   have hk3 : k < 3 := hk
   simp only [Ti]
   rw [Ca (by omega), Og, Ca hk]
   simp only [cond_true, jn, je hk, jb]
   rw [Bi (by simp only [jw, j6]; omega)]
   simp only [cond_true]
   rw [Ib (n := 3 * (at' : Int)) (by omega) (by omega), Ib (n := 1 + 3 * (at' : Int)) (by omega) (by omega), Ib (n := 1 + 3 * (at' : Int) + (k : Int)) (by omega) (by omega)]
   rw [show (1 + 3 * (at' : Int) + (k : Int)) = ((1 + 3 * at' + k : Nat) : Int) by omega]) (fun o _ => by
   simp only [Ti]
   rfl) (by simp) [] rfl).1
 erw [hl]
 unfold Qg
 simp only [Up, jb, qh, List.append_eq, List.nil_append, List.cons_append, Nat.add_zero]
 rw [show 1 + 3 * at' + (0 + 1) = 2 + 3 * at' by omega, show 1 + 3 * at' + (0 + 1 + 1) = 3 + 3 * at' by omega]
theorem IC {X R : Type} {step : X → Option (X ⊕ R)} (ops : List Ra) (n : Nat) (hn : n ≤ ops.length) (hl : ops.length ≤ 1000) (I : Aa → Int → X) (out : Aa → R) (ex : R) {f : Aa} (hf : Db f)
 (h : ∀ k (hk : k < ops.length) (s : Aa), k < n → Db s → step (I s (k : Int)) = some (cond (Dg s ops[k]) (.inl (I (Eg s ops[k]) (j4 .i64 ((k : Int) + 1)))) (.inr ex)))
 (he : ∀ s, step (I s (n : Int)) = some (.inr (out s))) : Dc step (I f 0) = some ((Pc f (ops.take n)).elim out (fun _ => ex)) := by
 have hlen : (ops.take n).length = n := by simp; omega
 have := To (step := step) (ops.take n) (fun _ s o => cond (Dg s o) (.inl (Eg s o)) (.inr ())) I out (fun (_ : Unit) => ex) (fun _ s => Db s) (fun k hk s hs => by
  have hk' : k < ops.length := by omega
  have e : (ops.take n)[k] = ops[k] := List.getElem_take
  refine ⟨?_, fun s' h' => ?_⟩
  ·rw [h k hk' s (by omega) hs, e]
   cases Dg s ops[k] <;> rfl
  ·cases hd : Dg s (ops.take n)[k] with
   | false => rw [hd] at h'; simp at h'
   | true =>
    rw [hd] at h'
    simp only [cond_true, Sum.inl.injEq] at h'
    subst h'
    exact Gu hd) (fun s _ => by rw [hlen]; exact he s) (by omega) f hf
 rw [this]
 unfold Pc
 cases Oe (fun _ (s : Aa) (o : Ra) => cond (Dg s o) (Sum.inl (Eg s o)) (Sum.inr ())) 0 f (ops.take n) <;> rfl
theorem Tn {f : Aa} (hf : Db f) (ops : List Ra) (n : Nat) (hn : n ≤ ops.length) (hl : ops.length ≤ 1000) :
 He (((n : Int), (), ops, (), 0, ()), (zF, f, ())) = some ((Pc f (ops.take n)).elim (fun g => .inl (((), (), ()), (zF, g, ()))) (fun _ => .inr (((), false, ()), (zF, ())))) := by
 unfold He
 exact IC (step := fun x : (Int × Unit × List Ra × Unit × Int × Unit) × Aa × Aa × Unit => Ji x.1.1 x.1.2.1 x.1.2.2.1 x.1.2.2.2.1 x.1.2.2.2.2.1 x.2.1 x.2.2.1) ops n hn hl
  (fun s k => (((n : Int), (), ops, (), k, ()), (zF, s, ()))) (fun g => .inl (((), (), ()), (zF, g, ()))) (.inr (((), false, ()), (zF, ()))) hf (fun k hk s hkn hs => by
   simp only [Ji]
   rw [Ca (by omega), Og, Ca hk]
   simp only [cond_true, jn, je hk, jb]
   rw [show Ci (s.1, s.2.1, ()) ops[k] = _ from Mr s ops[k] (Kd hs)]
   unfold Mt
   cases Dg s ops[k] <;> rfl) (fun s => by
   simp only [Ji]
   rw [Da (by omega)]
   rfl)
theorem Wv {f : Aa} (hf : Db f) (ops : List Ra) (n : Nat) (hn : n ≤ ops.length) (hl : ops.length ≤ 1000) :
 Ig (((n : Int), (), ops, (), 0, ()), (zF, f, ())) = some ((Pc f (ops.take n)).elim (fun g => .inl (((), (), ()), (zF, g, ()))) (fun _ => .inr (((), false, ()), (zF, ())))) := by
 unfold Ig
 exact IC (step := fun x : (Int × Unit × List Ra × Unit × Int × Unit) × Aa × Aa × Unit => Fk x.1.1 x.1.2.1 x.1.2.2.1 x.1.2.2.2.1 x.1.2.2.2.2.1 x.2.1 x.2.2.1) ops n hn hl
  (fun s k => (((n : Int), (), ops, (), k, ()), (zF, s, ()))) (fun g => .inl (((), (), ()), (zF, g, ()))) (.inr (((), false, ()), (zF, ()))) hf (fun k hk s hkn hs => by
   simp only [Fk]
   rw [Ca (by omega), Og, Ca hk]
   simp only [cond_true, jn, je hk, jb]
   rw [show Ci (s.1, s.2.1, ()) ops[k] = _ from Mr s ops[k] (Kd hs)]
   unfold Mt
   cases Dg s ops[k] <;> rfl) (fun s => by
   simp only [Fk]
   rw [Da (by omega)]
   rfl)
def Dh (w : List Int) (n : Nat) : Bool := (wd w (3 * n + 1) == 65535) && ((wd w (3 * n + 2) == 65535) && (wd w (3 * n + 3) == 65535))
def Rc (w : List Int) : Nat → Nat
 | 0 => 0
 | n + 1 => cond (Dh w n) (Rc w n) (n + 1)
theorem Ro (w : List Int) : ∀ n, Rc w n ≤ n
 | 0 => jo _
 | n + 1 => by
  simp only [Rc]
  cases Dh w n with
  | true => exact Nat.le_succ_of_le (Ro w n)
  | false => exact jo _
theorem Mn {w : List Int} : ∀ {n i : Nat}, Rc w n ≤ i → i < n → Dh w i = true
 | 0, i, _, h => by omega
 | n + 1, i, h1, h2 => by
  simp only [Rc] at h1
  cases he : Dh w n with
  | true =>
   rw [he] at h1
   simp only [cond_true] at h1
   by_cases hi : i = n
   ·subst hi; exact he
   ·exact Mn h1 (by omega)
  | false =>
   rw [he] at h1
   simp only [cond_false] at h1
   omega
theorem VF {w : List Int} {n : Nat} (h : n < w.length) : w[n] = wd w n := by
 unfold wd; rw [Wf h]
theorem Hz {f : Aa} {a : Int} {w : List Int} (hi : Kb f.1 a = some w) (hw : w.length = 19) : ∀ n : Nat, n ≤ 6 →
 Ge ((a, (), (n : Int), ()), (f, ())) = some (.inl ((((Rc w n : Nat) : Int), ()), ())) := by
 intro n
 induction n with
 | zero =>
  intro _
  have : Fg a () ((0 : Nat) : Int) f = some (.inr (.inl ((((0 : Nat) : Int), ()), ()))) := by
   simp only [Fg]
   rw [Da (by omega)]
   rfl
  unfold Ge
  rw [Hd this]
  rfl
 | succ n ih =>
  intro hn
  have w1 : j4 .i64 (3 * ((n + 1 : Nat) : Int)) = 3 * ((n + 1 : Nat) : Int) := Ib (by omega) (by omega)
  have w2 : j4 .i64 (3 * ((n + 1 : Nat) : Int) - 2) = ((3 * n + 1 : Nat) : Int) := by rw [Ib (by omega) (by omega)]; omega
  have w3 : j4 .i64 (3 * ((n + 1 : Nat) : Int) + 1) = ((3 * n + 4 : Nat) : Int) := by rw [Ib (by omega) (by omega)]; omega
  have w4 : j4 .i64 (((n + 1 : Nat) : Int) - 1) = ((n : Nat) : Int) := by rw [Ib (by omega) (by omega)]; omega
  have i0 : Kb (Yc w (3 * n + 1) (3 * n + 4)) (0 : Int) = some (wd w (3 * n + 1)) := by
   have := Bo (w := w) (lo := 3 * n + 1) (hi := 3 * n + 4) (j := 0) (by omega) (by omega)
   rw [VF] at this
   exact this
  have i1 : Kb (Yc w (3 * n + 1) (3 * n + 4)) (1 : Int) = some (wd w (3 * n + 2)) := by
   have := Bo (w := w) (lo := 3 * n + 1) (hi := 3 * n + 4) (j := 1) (by omega) (by omega)
   rw [VF] at this
   exact this
  have i2 : Kb (Yc w (3 * n + 1) (3 * n + 4)) (2 : Int) = some (wd w (3 * n + 3)) := by
   have := Bo (w := w) (lo := 3 * n + 1) (hi := 3 * n + 4) (j := 2) (by omega) (by omega)
   rw [VF] at this
   exact this
  have hR : Fg a () ((n + 1 : Nat) : Int) f = some (cond (Dh w n) (.inl ((a, (), (n : Int), ()), (f, ()))) (.inr (.inl ((((n + 1 : Nat) : Int), ()), ())))) := by
   simp only [Fg]
   rw [Ca (by omega), hi]
   simp only [cond_true, jb, w1, w2, w3, w4, jn]
   rw [show Sf (ja w) ((3 * n + 1 : Nat) : Int) ((3 * n + 4 : Nat) : Int) = true from Fu (by omega) (by omega)]
   simp only [cond_true, i0, i1, i2, jb]
   unfold Dh
   simp only [bne]
   cases (wd w (3 * n + 1) == 65535) <;> cases (wd w (3 * n + 2) == 65535) <;> cases (wd w (3 * n + 3) == 65535) <;> rfl
  unfold Ge
  rw [Hd hR]
  simp only [Rc]
  cases Dh w n with
  | true => exact ih (by omega)
  | false => rfl
theorem UC {f : Aa} {a : Int} {w : List Int} (hi : Kb f.1 a = some w) (hw : w.length = 19) (free : Int) {n : Nat} (hn : n < 6) :
 Zg ((a, (), free, (n : Int), 1, ()), (f, ())) = some (cond (Dh w n) (.inl ((a, (), (n : Int), ()), (f, ()))) (.inr ((free, ()), ()))) := by
 have w1 : j4 .i64 (3 * (n : Int)) = 3 * (n : Int) := Ib (by omega) (by omega)
 have step : ∀ k : Nat, 1 ≤ k → k ≤ 3 → Lg a () free (n : Int) (k : Int) f = some (cond (wd w (3 * n + k) == 65535) (.inl ((a, (), free, (n : Int), ((k + 1 : Nat) : Int), ()), (f, ()))) (.inr (.inr ((free, ()), ())))) := by
  intro k h1 h3
  simp only [Lg]
  rw [Ca (by omega), hi]
  simp only [cond_true, jb, w1]
  rw [Ib (by omega) (by omega), Gz (n := 3 * n + k) (by omega) (by omega)]
  simp only [jb, bne]
  rw [Ib (by omega) (by omega)]
  cases (wd w (3 * n + k) == 65535) <;> rfl
 have last : Lg a () free (n : Int) ((4 : Nat) : Int) f = some (.inr (.inl ((a, (), (n : Int), ()), (f, ())))) := by
  simp only [Lg]
  rw [Da (by omega)]
  rfl
 unfold Zg Dh
 have s1 := step 1 (by omega) (by omega)
 have s2 := step 2 (by omega) (by omega)
 have s3 := step 3 (by omega) (by omega)
 rw [Hd s1]
 cases (wd w (3 * n + 1) == 65535) with
 | false => rfl
 | true =>
  simp only [cond_true, jb, qh, jk]
  rw [Hd s2]
  cases (wd w (3 * n + 2) == 65535) with
  | false => rfl
  | true =>
   simp only [cond_true, jb, qh, jk]
   rw [Hd s3]
   cases (wd w (3 * n + 3) == 65535) with
   | false => rfl
   | true =>
    simp only [cond_true, jb, qh]
    rw [Hd last]
    rfl
theorem Rz {f : Aa} {a : Int} {w : List Int} (hi : Kb f.1 a = some w) (hw : w.length = 19) : ∀ n : Nat, n ≤ 6 →
 ∃ r, Ie ((a, (), (n : Int), (n : Int) - 1, ()), (f, ())) = some r ∧ r.elim (fun y => y.1.1) (fun z => z.1.1) = ((Rc w n : Nat) : Int) := by
 intro n
 induction n with
 | zero =>
  intro _
  have : Kg a () ((0 : Nat) : Int) (((0 : Nat) : Int) - 1) f = some (.inr (.inl ((((0 : Nat) : Int), ()), ()))) := by
   simp only [Kg]
   rw [Da (by omega)]
   rfl
  unfold Ie
  rw [Hd this]
  exact ⟨_, rfl, rfl⟩
 | succ n ih =>
  intro hn
  have hin := UC hi hw ((n + 1 : Nat) : Int) (n := n) (by omega)
  have e1 : ((n + 1 : Nat) : Int) - 1 = (n : Int) := by omega
  have hR : Kg a () ((n + 1 : Nat) : Int) (((n + 1 : Nat) : Int) - 1) f = some (cond (Dh w n) (.inl ((a, (), (n : Int), (n : Int) - 1, ()), (f, ()))) (.inr (.inr ((((n + 1 : Nat) : Int), ()), ())))) := by
   rw [e1]
   simp only [Kg]
   rw [Ca (by omega), hin]
   cases Dh w n with
   | true =>
    simp only [cond_true, jb, qh]
    rw [Ib (by omega) (by omega)]
   | false => rfl
  unfold Ie
  rw [Hd hR]
  simp only [Rc]
  cases Dh w n with
  | true => exact ih (by omega)
  | false => exact ⟨_, rfl, rfl⟩
theorem Xp {f : Aa} (hF : Db f) (h : ¬ Ha f < 0) : ∃ w, Kb f.1 (Ha f) = some w ∧ w.length = 19 ∧ Gd (wd w 0) = true ∧ f.1.getD (Ha f).toNat [] = w ∧ Ha f ≤ 1 := by
 obtain ⟨w, h1, h2, h3, h4, _⟩ := Ug h
 refine ⟨w, h1, h3, h4, h2, ?_⟩
 have : (Ha f).toNat < f.1.length := by
  have e : Ha f = (((Ha f).toNat : Nat) : Int) := by omega
  rw [e, ND] at h1
  exact (List.getElem?_eq_some_iff.1 h1).1
 rw [hF.l1] at this
 omega
theorem Lu {f : Aa} (hF : Db f) {a : Int} {w : List Int} (ha : 0 ≤ a ∧ a ≤ 1) (hi : Kb f.1 a = some w) (hw : w.length = 19) : Vk f a = some (((Rc w 6 : Nat) : Int), ()) := by
 unfold Vk
 rw [On f (Kd hF), Qc.2 hF]
 simp only [jb, jg, cond_false]
 rw [Da (show ¬ a < 0 by omega), Da (show ¬ a > 1 by omega)]
 simp only [cond_false]
 rw [show Ge ((a, (), 6, ()), (f, ())) = _ from Hz hi hw 6 (by omega)]
 rfl
theorem Av {f : Aa} (hF : Db f) {a : Int} {w : List Int} (ha : 0 ≤ a ∧ a ≤ 1) (hi : Kb f.1 a = some w) (hw : w.length = 19) : Yk f a = some (((Rc w 6 : Nat) : Int), ()) := by
 unfold Yk
 rw [Wi f (Kd hF), Qc.2 hF]
 simp only [jb, jg, cond_false, Od]
 rw [Ca ha]
 simp only [jg, cond_false]
 obtain ⟨r, h1, h2⟩ := Rz hi hw 6 (by omega)
 rw [show Ie ((a, (), 6, 5, ()), (f, ())) = _ from h1, ← h2]
 cases r <;> rfl
def Bs (f : Aa) (s v : Int) (k : Nat) : Option Int := cond ((k : Int) == s) (some v) (Nb f (k : Int))
def Jh (f : Aa) (s v page h : Int) (k : Nat) (st : List Ra × Nat) : List Ra × Nat := match Bs f s v k with
 | some x => (jf st.1 (Qg page st.2 (k : Int) x h), st.2 + 1)
 | none => st
def Vb (page : Int) : Ra := (true, page, 0, 0, ())
def Oj (f : Aa) (s v page h : Int) : List Ra × Nat := Ce (Jh f s v page h) 4 ([Vb page], 0)
theorem Ho {f : Aa} {s v page h : Int} : ∀ k, (Ce (Jh f s v page h) k ([Vb page], 0)).2 ≤ k ∧ (Ce (Jh f s v page h) k ([Vb page], 0)).1.length = 1 + 3 * (Ce (Jh f s v page h) k ([Vb page], 0)).2 :=
 Qw (p := fun k (st : List Ra × Nat) => st.2 ≤ k ∧ st.1.length = 1 + 3 * st.2) ⟨by simp, by simp⟩ fun k st hs => by
  unfold Jh
  cases Bs f s v k with
  | none => exact ⟨Nat.le_succ_of_le hs.1, hs.2⟩
  | some x =>
   refine ⟨by have := hs.1; simp only; omega, ?_⟩
   simp only [List.append_eq, qc, hs.2, Qg, jw, j6]
   omega
def Vp (page h : Int) : Ra := (false, page, 0, h, ())
def Dw (f : Aa) : List Int := f.1.getD (Ha f).toNat []
def Mc (f : Aa) (s v : Int) : List Ra × Bool :=
 cond (decide (Ha f < 0)) ([], false) (cond (!Ma s v) ([], false)
  (cond (decide (Rc (Dw f) 6 < 6)) (Qg (Ha f) (Rc (Dw f) 6) s v (wd (Dw f) 0), true)
   (cond (decide (wd (Dw f) 0 ≥ 60000)) ([], false) (cond (decide (f.2.1.getD (1 - Ha f).toNat 0 ≥ 1000)) ([], false)
    (jf (Oj f s v (1 - Ha f) (wd (Dw f) 0 + 1)).1 [Vp (1 - Ha f) (wd (Dw f) 0 + 1)], true)))))
theorem LA (x : Int) : Le (some x) = (x, true) := rfl
theorem WA {f : Aa} (hF : Db f) (s v h page : Int) (hh : 0 ≤ h ∧ h < 60000) :
 Ye ((s, v, (), h, page, [Vb page], 0, 0, ()), (f, ())) = some (.inl ((h, page, (Oj f s v page (h + 1)).1, ()), ())) := by
 unfold Ye Oj
 have := So (step := fun x : (Int × Int × Unit × Int × Int × List Ra × Int × Int × Unit) × Aa × Unit => Ph x.1.1 x.1.2.1 x.1.2.2.1 x.1.2.2.2.1 x.1.2.2.2.2.1 x.1.2.2.2.2.2.1 x.1.2.2.2.2.2.2.1 x.1.2.2.2.2.2.2.2.1 x.2.1) 4 (by omega)
  (Jh f s v page (h + 1)) ([Vb page], 0) (fun st k => ((s, v, (), h, page, st.1, (st.2 : Int), k, ()), (f, ()))) (fun st => .inl ((h, page, st.1, ()), ())) (fun k hk => by
   have hI := Ho (f := f) (s := s) (v := v) (page := page) (h := h + 1) k
   generalize Ce (Jh f s v page (h + 1)) k ([Vb page], 0) = st at *
   obtain ⟨o, n⟩ := st
   simp only at hI
   simp only [Ph]
   rw [Ca (by omega), Gg f (k : Int) (Kd hF)]
   simp only [cond_true, jb]
   rw [Ib (n := h + 1) (by omega) (by omega)]
   unfold Jh Bs
   cases hks : ((k : Int) == s) with
   | true =>
    simp only [cond_true]
    rw [Fm page (by omega)]
    simp only [jb]
    rw [Bi (by simp only [Qg, jw, j6]; omega), Nf (by omega)]
    rfl
   | false =>
    simp only [cond_false]
    cases Nb f (k : Int) with
    | none => rfl
    | some x =>
     rw [LA]
     simp only [cond_true]
     rw [Fm page (by omega)]
     simp only [jb]
     rw [Bi (by simp only [Qg, jw, j6]; omega), Nf (by omega)]
     rfl) (by
   simp only [Ph]
   rfl)
 exact this
theorem AB {f : Aa} (hF : Db f) (s v h a : Int) (hh : 0 ≤ h ∧ h < 60000) (ha : 0 ≤ a ∧ a ≤ 1) :
 Ze ((s, v, (), a, h, [Vb (1 - a)], 0, 0, ()), (f, ())) = some (.inl ((a, h, (Oj f s v (1 - a) (h + 1)).1, ()), ())) := by
 unfold Ze Oj
 have := So (step := fun x : (Int × Int × Unit × Int × Int × List Ra × Int × Int × Unit) × Aa × Unit => Rh x.1.1 x.1.2.1 x.1.2.2.1 x.1.2.2.2.1 x.1.2.2.2.2.1 x.1.2.2.2.2.2.1 x.1.2.2.2.2.2.2.1 x.1.2.2.2.2.2.2.2.1 x.2.1) 4 (by omega)
  (Jh f s v (1 - a) (h + 1)) ([Vb (1 - a)], 0) (fun st k => ((s, v, (), a, h, st.1, (st.2 : Int), k, ()), (f, ()))) (fun st => .inl ((a, h, st.1, ()), ())) (fun k hk => by
   have hI := Ho (f := f) (s := s) (v := v) (page := 1 - a) (h := h + 1) k
   generalize Ce (Jh f s v (1 - a) (h + 1)) k ([Vb (1 - a)], 0) = st at *
   obtain ⟨o, n⟩ := st
   simp only at hI
   simp only [Rh]
   rw [Ca (by omega), Wn f (k : Int) (Kd hF)]
   simp only [cond_true, jb]
   rw [Ib (n := h + 1) (by omega) (by omega), Ib (n := 1 - a) (by omega) (by omega)]
   unfold Jh Bs
   cases hks : ((k : Int) == s) with
   | true =>
    simp only [cond_true]
    rw [Gm (1 - a) (show n ≤ 6 by omega)]
    simp only [jb]
    rw [Bi (by simp only [Qg, jw, j6]; omega), Nf (show n < 9223372036854775807 by omega)]
    cases (Le (Nb f (k : Int))).2 <;> rfl
   | false =>
    simp only [cond_false]
    cases Nb f (k : Int) with
    | none => rfl
    | some x =>
     rw [LA]
     simp only [cond_true]
     rw [Gm (1 - a) (show n ≤ 6 by omega)]
     simp only [jb]
     rw [Bi (by simp only [Qg, jw, j6]; omega), Nf (show n < 9223372036854775807 by omega)]
     rfl) (by
   simp only [Rh]
   rfl)
 exact this
theorem My {f : Aa} (hF : Db f) (h : ¬ Ha f < 0) : ∃ e, Kb f.2.1 (1 - Ha f) = some e ∧ f.2.1.getD (1 - Ha f).toNat 0 = e ∧ 0 ≤ e ∧ e ≤ 1000 := by
 obtain ⟨w, _, _, _, _, h1⟩ := Xp hF h
 have hlt : (1 - Ha f).toNat < f.2.1.length := by rw [hF.l2]; omega
 have hlt1 : (1 - Ha f).toNat < f.1.length := by rw [hF.l1]; omega
 obtain ⟨_, g2, g3, _⟩ := hF.pg _ hlt1 hlt
 exact ⟨_, EC (by omega) hlt, Wf hlt, g2, g3⟩
theorem Vr (f : Aa) (s v page h : Int) : (Oj f s v page h).1.length ≤ 13 := by
 have := Ho (f := f) (s := s) (v := v) (page := page) (h := h) 4
 unfold Oj
 omega
theorem Mu {f : Aa} (hz : Pd Ja f ≤ Vc) (s v : Int) : Ri f s v = some ((Mc f s v).1, (Mc f s v).2, ()) := by
 unfold Ri Mc
 rw [Kl f hz, Em]
 simp only [jb]
 by_cases ha : Ha f < 0
 ·rw [Ca ha]; rfl
 rw [Da ha]
 cases hs : Ma s v with
 | false => rfl
 | true =>
  obtain ⟨w, _, _, _, _, hfl⟩ := Ug ha
  have hF := Qc.1 hfl
  obtain ⟨w, h1, h2, h3, h4, h5⟩ := Xp hF ha
  obtain ⟨e, g1, g2, g3, g4⟩ := My hF ha
  have hwd := h3
  simp only [Gd, decide_eq_true_eq] at hwd
  simp only [cond_false, jg, h1, jb]
  rw [show Kb w (0 : Int) = some (wd w 0) from Ks (n := 0) (by omega), Lu hF ⟨by omega, h5⟩ h1 h2, g2]
  simp only [jb]
  have hpg : Dw f = w := h4
  rw [hpg]
  have hfr := Ro w 6
  by_cases hf6 : Rc w 6 < 6
  ·rw [Ca hf6, Ca (show ((Rc w 6 : Nat) : Int) < 6 by omega), Fm _ (by omega)]
   rfl
  rw [Da hf6, Da (show ¬ ((Rc w 6 : Nat) : Int) < 6 by omega)]
  simp only [cond_false]
  by_cases h60 : wd w 0 ≥ 60000
  ·rw [Ca h60]; rfl
  rw [Da h60, Ib (n := 1 - Ha f) (by omega) (by omega), g1]
  simp only [cond_false, jb]
  by_cases he : e ≥ 1000
  ·rw [Ca he]; rfl
  rw [Da he]
  simp only [cond_false]
  rw [show Ye ((s, v, (), wd w 0, 1 - Ha f, [(true, 1 - Ha f, (0 : Int), (0 : Int), ())], 0, 0, ()), (f, ())) = _ from WA hF s v (wd w 0) (1 - Ha f) (by omega)]
  simp only [jb, qh]
  have hml := Vr f s v (1 - Ha f) (wd w 0 + 1)
  rw [Bi (by simp only [jw, j6]; omega), Ib (by omega) (by omega)]
  rfl
theorem Yi {f : Aa} (hz : Pd Ja f ≤ Vc) (s v : Int) : Qe f s v = some ((Mc f s v).1, (Mc f s v).2, ()) := by
 unfold Qe Mc
 rw [Pl f hz]
 simp only [jb, Od]
 by_cases ha : Ha f < 0
 ·rw [Ca ha]; rfl
 rw [Da ha]
 by_cases hs1 : 0 ≤ s ∧ s ≤ 3
 case neg =>
  have : Ma s v = false := by unfold Ma; exact Da (by omega)
  rw [Da hs1, this]; rfl
 by_cases hs2 : 0 ≤ v ∧ v ≤ 9999
 case neg =>
  have : Ma s v = false := by unfold Ma; exact Da (by omega)
  rw [Ca hs1, Da hs2, this]; rfl
 have hs : Ma s v = true := by unfold Ma; exact Ca (by omega)
 rw [Ca hs1, Ca hs2, hs]
 obtain ⟨w, _, _, _, _, hfl⟩ := Ug ha
 have hF := Qc.1 hfl
 obtain ⟨w, h1, h2, h3, h4, h5⟩ := Xp hF ha
 obtain ⟨e, g1, g2, g3, g4⟩ := My hF ha
 have hwd := h3
 simp only [Gd, decide_eq_true_eq] at hwd
 simp only [cond_false, jg]
 rw [Av hF ⟨by omega, h5⟩ h1 h2, h1, g2]
 simp only [jb]
 rw [show Kb w (0 : Int) = some (wd w 0) from Ks (n := 0) (by omega)]
 simp only [jb]
 have hpg : Dw f = w := h4
 rw [hpg]
 have hfr := Ro w 6
 by_cases hf6 : Rc w 6 < 6
 ·rw [Ca hf6, Ca (show ((Rc w 6 : Nat) : Int) < 6 by omega), Gm _ (by omega)]
  rfl
 rw [Da hf6, Da (show ¬ ((Rc w 6 : Nat) : Int) < 6 by omega)]
 simp only [cond_false]
 by_cases h60 : wd w 0 ≥ 60000
 ·have : wd w 0 = 60000 := by omega
  rw [Ca h60, this]; rfl
 rw [Da h60, show (wd w 0 == 60000) = false by rw [beq_eq_false_iff_ne]; omega, Ib (n := 1 - Ha f) (by omega) (by omega), g1]
 simp only [cond_false, jb]
 by_cases he : e ≥ 1000
 ·have : e = 1000 := by omega
  rw [Ca he, this]; rfl
 rw [Da he, show (e == 1000) = false by rw [beq_eq_false_iff_ne]; omega]
 simp only [cond_false]
 rw [show Ze ((s, v, (), Ha f, wd w 0, [(true, 1 - Ha f, (0 : Int), (0 : Int), ())], 0, 0, ()), (f, ())) = _ from AB hF s v (wd w 0) (Ha f) (by omega) ⟨by omega, h5⟩]
 simp only [jb, qh]
 have hml := Vr f s v (1 - Ha f) (wd w 0 + 1)
 rw [Bi (by simp only [jw, j6]; omega), Ib (n := wd w 0 + 1) (by omega) (by omega), Ib (n := 1 - Ha f) (by omega) (by omega)]
 rfl
def Sb (f : Aa) (P : Int) : List Int := f.1.getD P.toNat []
theorem Ub {w : List Int} {k j : Nat} {x : Int} (h : j ≠ k) : wd (w.set k x) j = wd w j := by
 unfold wd
 rw [qg, qg, List.getElem?_set_ne (Ne.symm h)]
theorem Bn {f : Aa} (hF : Db f) {P : Int} (hP : 0 ≤ P ∧ P ≤ 1) : P.toNat < f.1.length ∧ P.toNat < f.2.1.length ∧ (Sb f P).length = 19 := by
 have h1 : P.toNat < f.1.length := by rw [hF.l1]; omega
 have h2 : P.toNat < f.2.1.length := by rw [hF.l2]; omega
 refine ⟨h1, h2, ?_⟩
 unfold Sb
 rw [Wf h1]
 exact (hF.pg _ h1 h2).1
theorem Tl {f : Aa} (hF : Db f) {P : Int} (hP : 0 ≤ P ∧ P ≤ 1) {k : Nat} (hk : k ≤ 18) {x : Int} (hx : 0 ≤ x ∧ x ≤ 65534) (he : wd (Sb f P) k = 65535) :
 Dg f (false, P, (k : Int), x, ()) = true ∧ Db (Eg f (false, P, (k : Int), x, ())) ∧ Sb (Eg f (false, P, (k : Int), x, ())) P = (Sb f P).set k x := by
 obtain ⟨g1, g2, g3⟩ := Bn hF hP
 have hb : Dg f (false, P, (k : Int), x, ()) = true := by
  unfold Dg
  rw [Qc.2 hF, Ca hP]
  simp only [jk, cond_false]
  refine Ca ⟨by omega, by omega, hx.1, hx.2, ?_⟩
  exact he
 refine ⟨hb, Gu hb, ?_⟩
 unfold Eg Sb Gb
 simp only [cond_false, jn]
 rw [Wf (by rw [j7]; exact g1), List.getElem_set_self]
theorem Jw {s v h : Int} (hs : Ma s v = true) (hh : Gd h = true) : 0 ≤ Me s v h ∧ Me s v h ≤ 65534 := by
 unfold Me
 rw [hs, hh]
 simp only [Ma, decide_eq_true_eq] at hs
 simp only [Gd, decide_eq_true_eq] at hh
 simp only [Bool.and_self, cond_true]
 have h1 := Int.tmod_nonneg 60000 (show 0 ≤ 7 * s + 13 * v + 31 * h + 5 by omega)
 have h2 := Int.tmod_lt_of_pos (7 * s + 13 * v + 31 * h + 5) (show (0 : Int) < 60000 by omega)
 omega
theorem WH {f : Aa} (hF : Db f) {P : Int} (hP : 0 ≤ P ∧ P ≤ 1) {n : Nat} (hn : n ≤ 5) {s v h : Int} (hs : Ma s v = true) (hh : Gd h = true)
 (e1 : wd (Sb f P) (3 * n + 1) = 65535) (e2 : wd (Sb f P) (3 * n + 2) = 65535) (e3 : wd (Sb f P) (3 * n + 3) = 65535) :
 ∃ g, Pc f (Qg P n s v h) = .inl g ∧ Db g ∧ ∀ j, (j < 3 * n + 1 ∨ 3 * n + 3 < j) → wd (Sb g P) j = wd (Sb f P) j := by
 have hsv := hs
 simp only [Ma, decide_eq_true_eq] at hsv
 have hc := Jw hs hh
 obtain ⟨a1, a2, a3⟩ := Tl hF hP (k := 1 + 3 * n) (by omega) (x := s) (by omega) (by rw [Nat.add_comm 1]; exact e1)
 obtain ⟨b1, b2, b3⟩ := Tl a2 hP (k := 2 + 3 * n) (by omega) (x := v) (by omega) (by rw [a3, Ub (by omega), Nat.add_comm 2]; exact e2)
 obtain ⟨c1, c2, c3⟩ := Tl b2 hP (k := 3 + 3 * n) (by omega) (x := Me s v h) hc (by rw [b3, Ub (by omega), a3, Ub (by omega), Nat.add_comm 3]; exact e3)
 refine ⟨_, ?_, c2, fun j hj => ?_⟩
 ·unfold Qg
  rw [Ke, a1, cond_true, Ke, b1, cond_true, Ke, c1, cond_true]
  rfl
 ·rw [c3, Ub (by omega), b3, Ub (by omega), a3, Ub (by omega)]
def Er (f : Aa) (P : Int) (m : Nat) : Prop := Db f ∧ wd (Sb f P) 0 = 65535 ∧ ∀ j, m ≤ j → j < 19 → wd (Sb f P) j = 65535
theorem GE {f : Aa} {s v x : Int} {k : Nat} (hk : k < 4) (hs : Ma s v = true) (h : Bs f s v k = some x) : Ma (k : Int) x = true := by
 unfold Bs at h
 simp only [Ma, decide_eq_true_eq] at hs ⊢
 cases he : ((k : Int) == s) with
 | true =>
  rw [he] at h
  simp only [cond_true, jc] at h
  omega
 | false =>
  rw [he] at h
  simp only [cond_false] at h
  have := Ww h
  omega
theorem SD {f : Aa} {s v P h : Int} (hP : 0 ≤ P ∧ P ≤ 1) (hs : Ma s v = true) (hh : Gd h = true) {f1 : Aa} (h1 : Pc f [Vb P] = .inl f1) (hE : Er f1 P 1) : ∀ k, k ≤ 4 →
 ∃ g, Pc f (Ce (Jh f s v P h) k ([Vb P], 0)).1 = .inl g ∧ Er g P (3 * (Ce (Jh f s v P h) k ([Vb P], 0)).2 + 1)
 | 0, _ => ⟨f1, h1, hE⟩
 | k + 1, hk => by
  obtain ⟨g, g1, g2, g3, g4⟩ := SD hP hs hh h1 hE k (by omega)
  have hI := Ho (f := f) (s := s) (v := v) (page := P) (h := h) k
  simp only [Ce]
  generalize Ce (Jh f s v P h) k ([Vb P], 0) = st at *
  obtain ⟨o, n⟩ := st
  simp only at hI g1 g4 ⊢
  unfold Jh
  cases hv : Bs f s v k with
  | none => exact ⟨g, g1, g2, g3, g4⟩
  | some x =>
   have hset := GE (by omega) hs hv
   obtain ⟨g', r1, r2, r3⟩ := WH g2 hP (n := n) (by omega) hset hh (g4 _ (by omega) (by omega)) (g4 _ (by omega) (by omega)) (g4 _ (by omega) (by omega))
   refine ⟨g', ?_, r2, ?_, fun j h1 h2 => ?_⟩
   ·simp only [List.append_eq]
    rw [Of, g1]
    exact r1
   ·rw [r3 0 (by omega)]; exact g3
   ·simp only at h1
    rw [r3 j (by omega)]
    exact g4 j (by omega) h2
theorem XB {f : Aa} (hF : Db f) {P : Int} (hP : 0 ≤ P ∧ P ≤ 1) (he : f.2.1.getD P.toNat 0 < 1000) : ∃ g, Pc f [Vb P] = .inl g ∧ Er g P 1 := by
 obtain ⟨g1, g2, g3⟩ := Bn hF hP
 have hb : Dg f (Vb P) = true := by
  unfold Dg
  rw [Qc.2 hF, Ca (show 0 ≤ (Vb P).2.1 ∧ (Vb P).2.1 ≤ 1 from hP)]
  show decide ((0 : Int) = 0 ∧ (0 : Int) = 0 ∧ f.2.1.getD P.toNat 0 < 1000) = true
  exact Ca ⟨rfl, rfl, he⟩
 have hpg : Sb (Eg f (Vb P)) P = List.replicate 19 65535 := by
  unfold Eg Sb Gb Vb
  simp only [cond_true]
  rw [Wf (by rw [j7]; exact g1), List.getElem_set_self]
 have hw : ∀ j, j < 19 → wd (Sb (Eg f (Vb P)) P) j = 65535 := by
  intro j hj
  rw [hpg]
  unfold wd
  rw [Wf (by simpa using hj), List.getElem_replicate]
 refine ⟨Eg f (Vb P), ?_, Gu hb, hw 0 (by omega), fun j _ hj => hw j hj⟩
 rw [Ke, hb]
 rfl
theorem Ok {f : Aa} {s v : Int} (h : (Mc f s v).2 = true) : ∃ g, Pc f (Mc f s v).1 = .inl g ∧ Db g ∧ Db f ∧ (Mc f s v).1.length ≤ 14 := by
 unfold Mc at h ⊢
 by_cases ha : Ha f < 0
 ·rw [Ca ha] at h; simp at h
 rw [Da ha] at h ⊢
 simp only [cond_false] at h ⊢
 cases hs : Ma s v with
 | false => rw [hs] at h; simp at h
 | true =>
  rw [hs] at h
  simp only [jg, cond_false] at h ⊢
  obtain ⟨_, _, _, _, _, hfl⟩ := Ug ha
  have hF := Qc.1 hfl
  obtain ⟨w, h1, h2, h3, h4, h5⟩ := Xp hF ha
  have hpg : Dw f = w := h4
  have hpa : Sb f (Ha f) = w := h4
  rw [hpg] at h ⊢
  have hfr := Ro w 6
  have hwd := h3
  simp only [Gd, decide_eq_true_eq] at hwd
  by_cases hf6 : Rc w 6 < 6
  ·rw [Ca hf6]
   simp only [cond_true]
   have he := Mn (w := w) (n := 6) (i := Rc w 6) (jo _) hf6
   simp only [Dh, jd, beq_iff_eq] at he
   obtain ⟨g, r1, r2, _⟩ := WH hF (P := Ha f) ⟨by omega, h5⟩ (n := Rc w 6) (by omega) hs h3 (by rw [hpa]; exact he.1) (by rw [hpa]; exact he.2.1) (by rw [hpa]; exact he.2.2)
   exact ⟨g, r1, r2, hF, by simp [Qg]⟩
  rw [Da hf6] at h ⊢
  simp only [cond_false] at h ⊢
  by_cases h60 : wd w 0 ≥ 60000
  ·rw [Ca h60] at h; simp at h
  rw [Da h60] at h ⊢
  simp only [cond_false] at h ⊢
  by_cases he : f.2.1.getD (1 - Ha f).toNat 0 ≥ 1000
  ·rw [Ca he] at h; simp at h
  rw [Da he]
  simp only [cond_false]
  have hP : 0 ≤ 1 - Ha f ∧ 1 - Ha f ≤ 1 := by omega
  have hh1 : Gd (wd w 0 + 1) = true := by simp only [Gd, decide_eq_true_eq]; omega
  obtain ⟨f1, r1, r2⟩ := XB hF hP (by omega)
  obtain ⟨g, m1, m2, m3, m4⟩ := SD (f := f) (s := s) (v := v) (h := wd w 0 + 1) hP hs hh1 r1 r2 4 (by omega)
  obtain ⟨b1, b2, _⟩ := Tl m2 hP (k := 0) (by omega) (x := wd w 0 + 1) (by omega) m3
  refine ⟨_, ?_, b2, hF, ?_⟩
  ·simp only [List.append_eq]
   rw [Of, show Pc f (Oj f s v (1 - Ha f) (wd w 0 + 1)).1 = _ from m1]
   simp only [qh]
   rw [Ke, show Dg g (Vp (1 - Ha f) (wd w 0 + 1)) = true from b1]
   rfl
  ·have := Vr f s v (1 - Ha f) (wd w 0 + 1)
   simp only [List.append_eq, qc, jw, j6]
   omega
def Ni (t : Uc) : Bool := decide (1 ≤ t.1 ∧ t.1 ≤ 1000 ∧ 0 ≤ t.2.1 ∧ t.2.1 ≤ 1000 ∧ 0 ≤ t.2.2.1 ∧ t.2.2.1 ≤ 2)
theorem Lq (t : Uc) : Pi t = some (Ni t, ()) := by
 unfold Pi Ni
 simp only [Yq, Zq]
 apply Kr
 simp only [Ct, decide_eq_true_eq, jq, and_false, or_false]
theorem Gx (t : Uc) : Wm t = some (Ni t, ()) := by
 unfold Wm Ni
 simp only [Od, jb, Yq, Zq]
 apply Kr
 simp only [Ct, decide_eq_true_eq, jq, and_false, or_false]
 omega
theorem Ot {f : Aa} (hF : Db f) (s v : Int) :
 Mh f s v = some (cond (Mc f s v).2 (Tu (Pc f (Mc f s v).1)).1 zF, cond (Mc f s v).2 (Tu (Pc f (Mc f s v).1)).2.1 false, ()) := by
 unfold Mh Zd
 rw [Yi (Kd hF)]
 simp only [jb, Od]
 cases h2 : (Mc f s v).2 with
 | false => rfl
 | true =>
  obtain ⟨g, h1, _, _, h4⟩ := Ok h2
  generalize (Mc f s v).1 = ops at *
  rw [Ca (show (0 : Int) ≤ (ops.length : Int) ∧ (ops.length : Int) ≤ (ops.length : Int) by omega), Bl hF]
  simp only [jg, cond_false, cond_true, jb]
  have hl := Tn hF ops ops.length (jo _) (by omega)
  rw [List.take_length] at hl
  rw [show He (((ops.length : Int), (), ops, (), 0, ()), (([], [], ()), f, ())) = _ from hl]
  cases Pc f ops <;> rfl
abbrev Bm : Type := List Ra × Aa
def Cf (k : Nat) (st : Bm) (x : Int) : Bm ⊕ Unit :=
 cond ((Le (Nb st.2 (k : Int))).2 && ((Le (Nb st.2 (k : Int))).1 == x)) (.inl st)
  (cond (Mc st.2 (k : Int) x).2 (.inl (jf st.1 (Mc st.2 (k : Int) x).1, (Tu (Pc st.2 (Mc st.2 (k : Int) x).1)).1)) (.inr ()))
def NB (k : Nat) (st : Bm) : Prop := Db st.2 ∧ st.1.length ≤ 14 * k
theorem Cv {k : Nat} {st st' : Bm} {x : Int} (hi : NB k st) (h : Cf k st x = .inl st') : NB (k + 1) st' := by
 obtain ⟨h1, h2⟩ := hi
 unfold Cf at h
 cases hc : ((Le (Nb st.2 (k : Int))).2 && ((Le (Nb st.2 (k : Int))).1 == x)) with
 | true =>
  rw [hc] at h
  simp only [cond_true, Sum.inl.injEq] at h
  subst h
  exact ⟨h1, by omega⟩
 | false =>
  rw [hc] at h
  simp only [cond_false] at h
  cases hs : (Mc st.2 (k : Int) x).2 with
  | false => rw [hs] at h; simp at h
  | true =>
   rw [hs] at h
   simp only [cond_true, Sum.inl.injEq] at h
   subst h
   obtain ⟨g, g1, g2, _, g4⟩ := Ok hs
   refine ⟨?_, ?_⟩
   ·simp only
    rw [g1]
    exact g2
   ·simp only [List.append_eq, qc]
    omega
def Xe (t : Uc) : List Int := [t.1, t.2.1, t.2.2.1]
theorem Jz {f : Aa} (hF : Db f) (t : Uc) :
 Hg (((), [], Xe t, 3, 0, ()), (f, ())) = some ((Oe Cf 0 (([], f) : Bm) (Xe t)).elim (fun st => .inl ((st.1, ()), ())) (fun _ => .inr (([], false, ()), ()))) := by
 unfold Hg
 have := To (step := fun x : (Unit × List Ra × List Int × Int × Int × Unit) × Aa × Unit => Ak x.1.1 x.1.2.1 x.1.2.2.1 x.1.2.2.2.1 x.1.2.2.2.2.1 x.2.1) (Xe t)
  Cf (fun st k => (((), st.1, Xe t, 3, k, ()), (st.2, ()))) (fun st => .inl ((st.1, ()), ())) (fun _ => .inr (([], false, ()), ())) NB (fun k hk st hs => by
   refine ⟨?_, fun s' h => Cv hs h⟩
   have hk3 : k < 3 := hk
   obtain ⟨h1, h2⟩ := hs
   simp only [Ak]
   rw [Ca (by omega), Og, Ca hk]
   simp only [cond_true, jn, je hk, jb]
   generalize (Xe t)[k] = x
   rw [Gg st.2 (k : Int) (Kd h1), Mu (Kd h1)]
   simp only [jb]
   unfold Cf
   cases hs2 : (Mc st.2 (k : Int) x).2 with
   | false =>
    cases (Le (Nb st.2 (k : Int))).2 with
    | false => rfl
    | true =>
     cases ((Le (Nb st.2 (k : Int))).1 == x) <;> rfl
   | true =>
    obtain ⟨g, g1, g2, _, g4⟩ := Ok hs2
    rw [Np h1 _ (by omega), g1]
    simp only [Tu, qh, cond_true, jg, cond_false, jb]
    rw [Bi (by omega)]
    cases (Le (Nb st.2 (k : Int))).2 with
    | false => rfl
    | true =>
     cases ((Le (Nb st.2 (k : Int))).1 == x) <;> rfl) (fun st _ => by
   simp only [Ak]
   rfl) (by simp [Xe]) ([], f) ⟨hF, by simp⟩
 exact this.trans (by cases Oe Cf 0 (([], f) : Bm) (Xe t) <;> rfl)
theorem Uz {f : Aa} (hF : Db f) (t : Uc) :
 Mg (([], (), Xe t, 0, ()), (f, ())) = some ((Oe Cf 0 (([], f) : Bm) (Xe t)).elim (fun st => .inl ((st.1, ()), ())) (fun _ => .inr (([], false, ()), ()))) := by
 unfold Mg
 have := To (step := fun x : (List Ra × Unit × List Int × Int × Unit) × Aa × Unit => Ik x.1.1 x.1.2.1 x.1.2.2.1 x.1.2.2.2.1 x.2.1) (Xe t)
  Cf (fun st k => ((st.1, (), Xe t, k, ()), (st.2, ()))) (fun st => .inl ((st.1, ()), ())) (fun _ => .inr (([], false, ()), ())) NB (fun k hk st hs => by
   refine ⟨?_, fun s' h => Cv hs h⟩
   have hk3 : k < 3 := hk
   obtain ⟨h1, h2⟩ := hs
   simp only [Ik]
   rw [Ca (show (k : Int) < ((Xe t).length : Int) by simp [Xe]; omega), Og, Ca hk]
   simp only [cond_true, jn, je hk, jb]
   generalize (Xe t)[k] = x
   rw [Wn st.2 (k : Int) (Kd h1), Yi (Kd h1), Ot h1]
   simp only [jb]
   unfold Cf
   cases hs2 : (Mc st.2 (k : Int) x).2 with
   | false =>
    cases (Le (Nb st.2 (k : Int))).2 with
    | false => rfl
    | true =>
     cases ((Le (Nb st.2 (k : Int))).1 == x) <;> rfl
   | true =>
    obtain ⟨g, g1, g2, _, g4⟩ := Ok hs2
    rw [g1]
    simp only [Tu, qh, cond_true, jg, cond_false]
    rw [Bi (by omega)]
    cases (Le (Nb st.2 (k : Int))).2 with
    | false => rfl
    | true =>
     cases ((Le (Nb st.2 (k : Int))).1 == x) <;> rfl) (fun st _ => by
   simp only [Ik]
   rfl) (by simp [Xe]) ([], f) ⟨hF, by simp⟩
 exact this.trans (by cases Oe Cf 0 (([], f) : Bm) (Xe t) <;> rfl)
def Ld (f : Aa) (t : Uc) : List Ra × Bool := cond (!Ni t) ([], false) (cond (decide (Ha f < 0)) ([], false) ((Oe Cf 0 (([], f) : Bm) (Xe t)).elim (fun st => (st.1, true)) (fun _ => ([], false))))
theorem Wk (f : Aa) (t : Uc) (hz : Pd Ja f ≤ Vc) : Va f t = some ((Ld f t).1, (Ld f t).2, ()) := by
 unfold Va Ld
 rw [Lq, Kl f hz]
 cases Ni t with
 | false => rfl
 | true =>
  simp only [jb, jg, cond_false]
  by_cases ha : Ha f < 0
  ·rw [Ca ha]; rfl
  rw [Da ha]
  obtain ⟨_, _, _, _, _, hfl⟩ := Ug ha
  have hl := Jz (Qc.1 hfl) t
  simp only [cond_false]
  rw [show Hg (((), [], [t.1, t.2.1, t.2.2.1], ((ja [t.1, t.2.1, t.2.2.1] : Nat) : Int), 0, ()), (f, ())) = _ from hl]
  cases Oe Cf 0 (([], f) : Bm) (Xe t) <;> rfl
theorem Nr (f : Aa) (t : Uc) (hz : Pd Ja f ≤ Vc) : Rl f t = some ((Ld f t).1, (Ld f t).2, ()) := by
 unfold Rl Ld
 rw [Gx, Pl f hz]
 cases Ni t with
 | false => rfl
 | true =>
  simp only [jb, jg, cond_false]
  by_cases ha : Ha f < 0
  ·rw [Ca ha]; rfl
  rw [Da ha]
  obtain ⟨_, _, _, _, _, hfl⟩ := Ug ha
  have hl := Uz (Qc.1 hfl) t
  simp only [cond_false]
  rw [show Mg (([], (), [t.1, t.2.1, t.2.2.1], 0, ()), (f, ())) = _ from hl]
  cases Oe Cf 0 (([], f) : Bm) (Xe t) <;> rfl
theorem Wx {α S R : Type} {g : Nat → S → α → S ⊕ R} {P : Nat → S → Prop} (hg : ∀ k s x s', P k s → g k s x = .inl s' → P (k + 1) s') : ∀ (xs : List α) (k : Nat) (s s' : S), P k s → Oe g k s xs = .inl s' → P (k + xs.length) s'
 | [], k, s, s', h, he => by
  simp only [Oe, Sum.inl.injEq] at he
  subst he
  exact h
 | x :: r, k, s, s', h, he => by
  simp only [Oe] at he
  split at he
  ·rename_i s1 h1
   have := Wx hg r (k + 1) s1 s' (hg k s x s1 h h1) he
   rw [jw, Nat.add_comm r.length 1, ← jt]
   exact this
  ·simp at he
theorem Wo {f : Aa} {t : Uc} : (Ld f t).1.length ≤ 42 ∧ ((Ld f t).2 = true → Db f) := by
 unfold Ld
 cases Ni t with
 | false => exact ⟨by simp, by simp⟩
 | true =>
  by_cases ha : Ha f < 0
  ·rw [Ca ha]; exact ⟨by simp, by simp⟩
  rw [Da ha]
  obtain ⟨_, _, _, _, _, hfl⟩ := Ug ha
  have hF := Qc.1 hfl
  simp only [jg, cond_false]
  cases hr : Oe Cf 0 (([], f) : Bm) (Xe t) with
  | inr u => exact ⟨by simp, by simp⟩
  | inl st =>
   have := Wx (P := NB) (fun k s x s' h he => Cv h he) (Xe t) 0 _ st ⟨hF, by simp⟩ hr
   refine ⟨?_, fun _ => hF⟩
   have h2 := this.2
   simp only [Xe, jw, j6] at h2
   simp only [qh]
   omega
def Mp (f : Aa) (t : Uc) (n : Int) : Aa × Bool × Unit := cond ((Ld f t).2 && decide (0 ≤ n ∧ n ≤ (Ld f t).1.length)) (Tu (Pc f ((Ld f t).1.take n.toNat))) (zF, false, ())
theorem Qy (f : Aa) (t : Uc) (n : Int) (hz : Pd Ja f ≤ Vc) : Sn f t n = some ((Mp f t n).1, (Mp f t n).2.1, ()) := by
 unfold Sn Mp
 rw [Nr f t hz]
 simp only [jb, Od]
 obtain ⟨h1, h2⟩ := Wo (f := f) (t := t)
 cases hs : (Ld f t).2 with
 | false => rfl
 | true =>
  have hF := h2 hs
  generalize (Ld f t).1 = ops at *
  simp only [jg, cond_false, jk]
  by_cases hn : 0 ≤ n ∧ n ≤ (ops.length : Int)
  case neg => rw [Da hn]; rfl
  rw [Ca hn, Bl hF]
  obtain ⟨n, rfl⟩ := jv hn.1
  simp only [jg, cond_false, jb, cond_true]
  rw [show Ig (((n : Int), (), ops, (), 0, ()), (([], [], ()), f, ())) = _ from Wv hF ops n (by omega) (by omega), jn]
  cases Pc f (ops.take n) <;> rfl
theorem Zx (f : Aa) (t : Uc) (n : Int) (hz : Pd Ja f ≤ Vc) : Nn f t n = some ((Mp f t n).1, (Mp f t n).2.1, ()) := by
 unfold Nn Mp
 rw [Wk f t hz]
 simp only [jb]
 obtain ⟨h1, h2⟩ := Wo (f := f) (t := t)
 cases hs : (Ld f t).2 with
 | false => rfl
 | true =>
  have hF := h2 hs
  generalize (Ld f t).1 = ops at *
  simp only [jg, cond_false, jk]
  by_cases hn : 0 ≤ n ∧ n ≤ (ops.length : Int)
  case neg =>
   rw [Da hn]
   by_cases h0 : n < 0
   ·rw [Ca h0]; rfl
   ·rw [Da h0, Ca (by omega)]; rfl
  rw [Ca hn, Da (show ¬ n < 0 by omega), Da (show ¬ n > (ops.length : Int) by omega)]
  obtain ⟨n, rfl⟩ := jv hn.1
  rw [show Sf ops.length 0 (n : Int) = true from Fu (lo := 0) (hi := n) (by omega) (by omega)]
  simp only [cond_false, cond_true, jn]
  rw [show Yc ops (jy 0) n = ops.take n from rfl, Np hF _ (by simp; omega)]
  rfl
def Gh (f : Aa) (P : Int) : Int := f.2.1.getD P.toNat 0
def Pb (f : Aa) (P : Int) : Int := wd (Sb f P) 0
def Mi (P : Int) : Prop := P = 0 ∨ P = 1
theorem Cr {P : Int} (h : Mi P) : Mi (1 - P) ∧ 1 - P ≠ P ∧ 1 - (1 - P) = P := by
 unfold Mi at *; omega
theorem Lw {f : Aa} {o : Ra} {P : Int} (hP : Mi P) (ho : Mi o.2.1) (hne : o.2.1 ≠ P) : Sb (Eg f o) P = Sb f P ∧ Gh (Eg f o) P = Gh f P := by
 have hn : Gb o ≠ P.toNat := by unfold Gb; unfold Mi at hP ho; omega
 unfold Eg Sb Gh
 cases o.1 with
 | true =>
  simp only [cond_true, qg]
  rw [List.getElem?_set_ne hn, List.getElem?_set_ne hn]
  exact ⟨rfl, rfl⟩
 | false =>
  simp only [cond_false, qg]
  rw [List.getElem?_set_ne hn]
  exact ⟨rfl, trivial⟩
theorem WB {f : Aa} (hF : Db f) {P : Int} (hP : Mi P) (k : Nat) (x : Int) : Sb (Eg f (false, P, (k : Int), x, ())) P = (Sb f P).set k x ∧ Gh (Eg f (false, P, (k : Int), x, ())) P = Gh f P := by
 have hP2 : 0 ≤ P ∧ P ≤ 1 := by unfold Mi at hP; omega
 obtain ⟨g1, g2, g3⟩ := Bn hF hP2
 unfold Eg Sb Gh Gb
 simp only [cond_false, jn]
 rw [Wf (by rw [j7]; exact g1), List.getElem_set_self]
 exact ⟨rfl, trivial⟩
theorem KJ {f : Aa} (hF : Db f) {P : Int} (hP : Mi P) : Sb (Eg f (Vb P)) P = List.replicate 19 65535 ∧ Gh (Eg f (Vb P)) P = Gh f P + 1 := by
 have hP2 : 0 ≤ P ∧ P ≤ 1 := by unfold Mi at hP; omega
 obtain ⟨g1, g2, g3⟩ := Bn hF hP2
 unfold Eg Sb Gh Gb Vb
 simp only [cond_true]
 rw [Wf (by rw [j7]; exact g1), List.getElem_set_self, Wf (by rw [j7]; exact g2), List.getElem_set_self]
 exact ⟨rfl, rfl⟩
theorem Ds {f : Aa} (hF : Db f) {P : Int} (hP : Mi P) :
 Ha f = P ↔ Gd (Pb f P) = true ∧ (Gd (Pb f (1 - P)) = true → Pb f (1 - P) < Pb f P ∨ (Pb f (1 - P) = Pb f P ∧ P = 0)) := by
 have hB := Qc.2 hF
 obtain ⟨p, q, d, e, rfl, hp, hq, _, _⟩ := Po hB
 obtain ⟨a, r, rfl, _⟩ := Th (n := 18) hp
 obtain ⟨b, t, rfl, _⟩ := Th (n := 18) hq
 have e1 : Ha ([a :: r, b :: t], [d, e], ()) = Cq a b := by
  unfold Ha
  rw [hB]; rfl
 have h0 : Pb ([a :: r, b :: t], [d, e], ()) 0 = a := rfl
 have h1 : Pb ([a :: r, b :: t], [d, e], ()) 1 = b := rfl
 rw [e1]
 unfold Cq
 rcases hP with rfl | rfl
 ·rw [show (1 - 0 : Int) = 1 from rfl, h0, h1]
  cases Gd a <;> cases Gd b <;> simp
  by_cases h : a < b
  ·rw [Ca h]; simp; omega
  ·rw [Da h]; simp; omega
 ·rw [show (1 - 1 : Int) = 0 from rfl, h0, h1]
  cases Gd a <;> cases Gd b <;> simp
  by_cases h : a < b
  ·rw [Ca h]; simp; exact h
  ·rw [Da h]; simp; omega
theorem Qs {f : Aa} {P : Int} (hP : Mi P) (h : Ha f = P) (s : Int) : Nb f s = Wd s (Sb f P) 6 := by
 unfold Nb
 rw [h, Da (show ¬ P < 0 by unfold Mi at hP; omega)]
 rfl
def Nj (H s : Int) (w : List Int) (i : Nat) : Bool :=
 Ma (wd w (1 + 3 * i)) (wd w (2 + 3 * i)) && (wd w (1 + 3 * i) == s) && (wd w (3 + 3 * i) == Me (wd w (1 + 3 * i)) (wd w (2 + 3 * i)) H)
def Bg (H s : Int) (w : List Int) : Nat → Option Int
 | 0 => none
 | n + 1 => cond (Nj H s w n) (some (wd w (2 + 3 * n))) (Bg H s w n)
theorem Lt (s : Int) (w : List Int) : ∀ n, Wd s w n = Bg (wd w 0) s w n
 | 0 => rfl
 | n + 1 => by
  unfold Wd Bg
  rw [Lt s w n]; rfl
theorem Uo {H s : Int} {w w' : List Int} : ∀ {n : Nat}, (∀ j, 1 ≤ j → j ≤ 3 * n → wd w' j = wd w j) → Bg H s w' n = Bg H s w n
 | 0, _ => rfl
 | n + 1, h => by
  unfold Bg Nj
  rw [h (1 + 3 * n) (by omega) (by omega), h (2 + 3 * n) (by omega) (by omega), h (3 + 3 * n) (by omega) (by omega), Uo (n := n) fun j h1 h2 => h j h1 (by omega)]
theorem Ru {H s : Int} {w : List Int} {i : Nat} (h : wd w (2 + 3 * i) = 65535) : Nj H s w i = false := by
 unfold Nj
 rw [h]
 have : Ma (wd w (1 + 3 * i)) 65535 = false := by unfold Ma; exact Da (by omega)
 rw [this]; rfl
theorem Vo {H s : Int} {w : List Int} {m : Nat} : ∀ (d : Nat), (∀ i, m ≤ i → i < m + d → wd w (2 + 3 * i) = 65535) → Bg H s w (m + d) = Bg H s w m
 | 0, _ => rfl
 | d + 1, h => by
  show cond (Nj H s w (m + d)) _ (Bg H s w (m + d)) = _
  rw [Ru (h (m + d) (by omega) (by omega)), cond_false]
  exact Vo d fun i h1 h2 => h i h1 (by omega)
theorem Bj {w : List Int} {k : Nat} {x : Int} (h : k < w.length) : wd (w.set k x) k = x := by
 unfold wd
 rw [Wf (by rw [j7]; exact h), List.getElem_set_self]
theorem HA {H s v σ : Int} {w : List Int} {m : Nat} (hs : Ma s v = true) (h1 : wd w (1 + 3 * m) = s) (h2 : wd w (2 + 3 * m) = v) (h3 : wd w (3 + 3 * m) = Me s v H) : Nj H σ w m = (s == σ) := by
 unfold Nj
 rw [h1, h2, h3, hs]
 simp
def OK (Q : Int) (o : Ra) : Prop := ∃ (k : Nat) (x : Int), 1 ≤ k ∧ o = (false, Q, (k : Int), x, ())
theorem Py {Q : Int} (hQ : Mi Q) : ∀ (ops : List Ra) (f g : Aa), Db f → (∀ o ∈ ops, OK Q o) → Pc f ops = .inl g →
 Db g ∧ Sb g (1 - Q) = Sb f (1 - Q) ∧ Gh g (1 - Q) = Gh f (1 - Q) ∧ Gh g Q = Gh f Q ∧ Pb g Q = Pb f Q
 | [], f, g, hF, _, h => by
  have : f = g := by simpa [Pc, Oe] using h
  subst this; exact ⟨hF, rfl, rfl, rfl, rfl⟩
 | o :: r, f, g, hF, hw, h => by
  obtain ⟨k, x, hk, rfl⟩ := hw o (by simp)
  rw [Ke] at h
  cases hb : Dg f (false, Q, (k : Int), x, ()) with
  | false => rw [hb] at h; simp at h
  | true =>
   rw [hb, cond_true] at h
   have ih := Py hQ r _ g (Gu hb) (fun o ho => hw o (by simp [ho])) h
   have ho := Cr hQ
   have d1 := Lw (f := f) (o := (false, Q, (k : Int), x, ())) ho.1 hQ (show Q ≠ 1 - Q from fun h => ho.2.1 h.symm)
   have d2 := WB hF hQ k x
   refine ⟨ih.1, ih.2.1.trans d1.1, ih.2.2.1.trans d1.2, ih.2.2.2.1.trans d2.2, ih.2.2.2.2.trans ?_⟩
   unfold Pb
   rw [d2.1, Ub (by omega)]
theorem VH {f g : Aa} {ops : List Ra} (h : Pc f ops = .inl g) (n : Nat) : ∃ g1, Pc f (ops.take n) = .inl g1 ∧ Pc g1 (ops.drop n) = .inl g := by
 rw [← List.take_append_drop n ops, Of] at h
 cases h1 : Pc f (ops.take n) with
 | inl g1 => rw [h1] at h; exact ⟨g1, rfl, h⟩
 | inr u => rw [h1] at h; simp at h
structure Ff (f : Aa) (c : Int) : Prop where
 ok : Db f
 pg : Mi (Ha f)
 hd : Pb f (Ha f) ≤ c + 1
 er : ∀ P, Mi P → Gh f P ≤ c
theorem PC {P : Int} {n : Nat} {s v h : Int} : ∀ o ∈ Qg P n s v h, OK P o := by
 intro o ho
 simp only [Qg, jp, List.not_mem_nil, or_false] at ho
 rcases ho with rfl | rfl | rfl
 ·exact ⟨1 + 3 * n, s, by omega, rfl⟩
 ·exact ⟨2 + 3 * n, v, by omega, rfl⟩
 ·exact ⟨3 + 3 * n, Me s v h, by omega, rfl⟩
theorem NA {f : Aa} (hF : Db f) {P : Int} (hP : Mi P) {n : Nat} (hn : n ≤ 5) {s v h : Int} (hs : Ma s v = true) (hh : Gd h = true)
 (e1 : wd (Sb f P) (1 + 3 * n) = 65535) (e2 : wd (Sb f P) (2 + 3 * n) = 65535) (e3 : wd (Sb f P) (3 + 3 * n) = 65535) :
 ∃ f1 f2 f3, Pc f ((Qg P n s v h).take 1) = .inl f1 ∧ Pc f ((Qg P n s v h).take 2) = .inl f2 ∧ Pc f (Qg P n s v h) = .inl f3 ∧
  Sb f1 P = (Sb f P).set (1 + 3 * n) s ∧ Sb f2 P = ((Sb f P).set (1 + 3 * n) s).set (2 + 3 * n) v ∧ Sb f3 P = (((Sb f P).set (1 + 3 * n) s).set (2 + 3 * n) v).set (3 + 3 * n) (Me s v h) := by
 have hP2 : 0 ≤ P ∧ P ≤ 1 := by unfold Mi at hP; omega
 have hsv := hs
 simp only [Ma, decide_eq_true_eq] at hsv
 have hc := Jw hs hh
 obtain ⟨a1, a2, a3⟩ := Tl hF hP2 (k := 1 + 3 * n) (by omega) (x := s) (by omega) e1
 obtain ⟨b1, b2, b3⟩ := Tl a2 hP2 (k := 2 + 3 * n) (by omega) (x := v) (by omega) (by rw [a3, Ub (by omega)]; exact e2)
 obtain ⟨c1, c2, c3⟩ := Tl b2 hP2 (k := 3 + 3 * n) (by omega) (x := Me s v h) hc (by rw [b3, Ub (by omega), a3, Ub (by omega)]; exact e3)
 refine ⟨_, _, _, ?_, ?_, ?_, a3, b3.trans (by rw [a3]), c3.trans (by rw [b3, a3])⟩
 ·show Pc f [(false, P, ((1 + 3 * n : Nat) : Int), s, ())] = _
  rw [Ke, a1, cond_true]; rfl
 ·show Pc f [(false, P, ((1 + 3 * n : Nat) : Int), s, ()), (false, P, ((2 + 3 * n : Nat) : Int), v, ())] = _
  rw [Ke, a1, cond_true, Ke, b1, cond_true]; rfl
 ·unfold Qg
  rw [Ke, a1, cond_true, Ke, b1, cond_true, Ke, c1, cond_true]; rfl
theorem VC {f g : Aa} (hF : Db f) (hG : Db g) {P : Int} (hP : Mi P) (ha : Ha f = P) (h1 : Pb g P = Pb f P) (h2 : Pb g (1 - P) = Pb f (1 - P) ∨ Gd (Pb g (1 - P)) = false) : Ha g = P := by
 have := (Ds hF hP).1 ha
 refine (Ds hG hP).2 ⟨by rw [h1]; exact this.1, fun hh => ?_⟩
 rcases h2 with h2 | h2
 ·rw [h2, h1]
  exact this.2 (by rw [← h2]; exact hh)
 ·rw [h2] at hh; exact absurd hh (by decide)
theorem Tr {w : List Int} {i : Nat} (h1 : Rc w 6 ≤ i) (h2 : i < 6) : wd w (1 + 3 * i) = 65535 ∧ wd w (2 + 3 * i) = 65535 ∧ wd w (3 + 3 * i) = 65535 := by
 have := Mn (w := w) (n := 6) (i := i) h1 h2
 simp only [Dh, jd, beq_iff_eq] at this
 rw [Nat.add_comm 1, Nat.add_comm 2, Nat.add_comm 3]
 exact this
theorem DK {H σ : Int} {w w' : List Int} {m : Nat} (hm : m < 6) (hf : Rc w 6 = m) (hw : ∀ j, 1 ≤ j → (j ≤ 3 * m ∨ 3 * m + 3 < j) → wd w' j = wd w j) :
 Bg H σ w' 6 = cond (Nj H σ w' m) (some (wd w' (2 + 3 * m))) (Bg H σ w 6) := by
 have e1 : Bg H σ w 6 = Bg H σ w m := by
  have := Vo (H := H) (s := σ) (w := w) (m := m) (6 - m) fun i h1 h2 => (Tr (by omega) (by omega)).2.1
  rw [show m + (6 - m) = 6 by omega] at this
  exact this
 have e2 : Bg H σ w' 6 = Bg H σ w' (m + 1) := by
  have := Vo (H := H) (s := σ) (w := w') (m := m + 1) (6 - (m + 1)) fun i h1 h2 => by
   rw [hw _ (by omega) (by omega)]; exact (Tr (w := w) (i := i) (by omega) (by omega)).2.1
  rw [show m + 1 + (6 - (m + 1)) = 6 by omega] at this
  exact this
 rw [e2, e1]
 show cond (Nj H σ w' m) _ (Bg H σ w' m) = _
 rw [Uo (n := m) fun j h1 h2 => hw j h1 (by omega)]
theorem JA {f : Aa} {s v Q h : Int} : ∀ k, ∃ r, (Ce (Jh f s v Q h) k ([Vb Q], 0)).1 = Vb Q :: r ∧ ∀ o ∈ r, OK Q o
 | 0 => ⟨[], rfl, by simp⟩
 | k + 1 => by
  obtain ⟨r, h1, h2⟩ := JA (f := f) (s := s) (v := v) (Q := Q) (h := h) k
  simp only [Ce]
  generalize Ce (Jh f s v Q h) k ([Vb Q], 0) = st at *
  unfold Jh
  cases Bs f s v k with
  | none => exact ⟨r, h1, h2⟩
  | some x =>
   refine ⟨r ++ Qg Q st.2 (k : Int) x h, by simp [h1], fun o ho => ?_⟩
   rcases jl.1 ho with ho | ho
   ·exact h2 o ho
   ·exact PC o ho
theorem IA {f : Aa} {s v Q H : Int} (hQ : Mi Q) (hs : Ma s v = true) (hh : Gd H = true) {f1 : Aa} (h1 : Pc f [Vb Q] = .inl f1) (hE : Er f1 Q 1) : ∀ k, k ≤ 4 →
 ∃ g, Pc f (Ce (Jh f s v Q H) k ([Vb Q], 0)).1 = .inl g ∧ Er g Q (3 * (Ce (Jh f s v Q H) k ([Vb Q], 0)).2 + 1) ∧
  ∀ σ : Nat, Bg H (σ : Int) (Sb g Q) (Ce (Jh f s v Q H) k ([Vb Q], 0)).2 = if σ < k then Bs f s v σ else none
 | 0, _ => ⟨f1, h1, hE, fun σ => by simp [Ce, Bg]⟩
 | k + 1, hk => by
  have hQ2 : 0 ≤ Q ∧ Q ≤ 1 := by unfold Mi at hQ; omega
  obtain ⟨g, g1, ⟨g2, g3, g4⟩, g5⟩ := IA hQ hs hh h1 hE k (by omega)
  have hI := Ho (f := f) (s := s) (v := v) (page := Q) (h := H) k
  simp only [Ce]
  generalize Ce (Jh f s v Q H) k ([Vb Q], 0) = st at *
  obtain ⟨o, n⟩ := st
  simp only at hI g1 g4 g5 ⊢
  unfold Jh
  cases hv : Bs f s v k with
  | none =>
   refine ⟨g, g1, ⟨g2, g3, g4⟩, fun σ => ?_⟩
   simp only
   rw [g5]
   by_cases h : σ < k
   ·rw [if_pos h, if_pos (by omega)]
   ·rw [if_neg h]
    by_cases h' : σ = k
    ·subst h'; rw [if_pos (by omega), hv]
    ·rw [if_neg (by omega)]
  | some x =>
   have hset := GE (by omega) hs hv
   obtain ⟨_, _, g', _, _, r1, _, _, r2⟩ := NA g2 hQ (n := n) (by omega) hset hh (g4 _ (by omega) (by omega)) (g4 _ (by omega) (by omega)) (g4 _ (by omega) (by omega))
   have hw := Py hQ _ _ _ g2 PC r1
   have hlen := (Bn g2 hQ2).2.2
   have off : ∀ j, (j < 3 * n + 1 ∨ 3 * n + 3 < j) → wd (Sb g' Q) j = wd (Sb g Q) j := fun j hj => by
    rw [r2, Ub (by omega), Ub (by omega), Ub (by omega)]
   refine ⟨g', ?_, ⟨hw.1, ?_, fun j h1 h2 => ?_⟩, fun σ => ?_⟩
   ·simp only [List.append_eq]
    rw [Of, g1]
    exact r1
   ·have := hw.2.2.2.2; unfold Pb at this; rw [this]; exact g3
   ·simp only at h1
    rw [off j (by omega)]
    exact g4 j (by omega) h2
   ·show cond (Nj H (σ : Int) (Sb g' Q) n) (some (wd (Sb g' Q) (2 + 3 * n))) (Bg H (σ : Int) (Sb g' Q) n) = _
    have w1 : wd (Sb g' Q) (1 + 3 * n) = (k : Int) := by rw [r2, Ub (by omega), Ub (by omega), Bj (by rw [hlen]; omega)]
    have w2 : wd (Sb g' Q) (2 + 3 * n) = x := by rw [r2, Ub (by omega), Bj (by rw [j7, hlen]; omega)]
    have w3 : wd (Sb g' Q) (3 + 3 * n) = Me (k : Int) x H := by rw [r2, Bj (by rw [j7, j7, hlen]; omega)]
    rw [HA hset w1 w2 w3, w2, Uo (w := Sb g Q) (n := n) fun j h1 h2 => off j (by omega), g5]
    by_cases h : (k : Int) = (σ : Int)
    ·have : k = σ := by omega
     subst this
     rw [show ((k : Int) == (k : Int)) = true by simp, if_pos (show k < k + 1 by omega), hv]; rfl
    ·rw [show ((k : Int) == (σ : Int)) = false by simp; omega, cond_false]
     by_cases h' : σ < k
     ·rw [if_pos h', if_pos (by omega)]
     ·rw [if_neg h', if_neg (by omega)]
end KF
