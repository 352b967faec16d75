/- An evaluator of Go functions on plain data, its soundness, and plain laws on what the functions compute, part 3 (conditions: as each lemma tells). -/
import Derived.Test.YtenekdhofnoalaaDoorB
import Derived.LoopN
import Derived.ChangeArms
import Derived.ChangeStays
import Derived.ChangeSame
import Derived.WideShapes
import Derived.RowKit
import Derived.Handed
import Derived.JoinedOf
import Derived.Lib.Split
import Derived.Lib.Join
import Derived.Lib.ItoaNum
import Derived.Shelf.Sort.Plain
import Derived.Shelf.Slices.In.SortNone2
import Derived.Shelf.LaysM
import Derived.Shelf.Strings.Split
import Derived.Shelf.Strings.OnBuilder
import Derived.Shelf.Strconv.Itoa3
import Derived.LaidLaws
import Derived.LaidHandle
import Derived.Lib.LaidTab
import Derived.IntWalk
set_option linter.unusedSimpArgs false
set_option linter.unusedVariables false
namespace KF
open Go
open List renaming length → ja, getElem?_eq_getElem → je, append → jf, mem_append → jl, mem_cons → jo, mem_cons_of_mem → jq, length_cons → ju, set → jz, length_nil → j4, mem_singleton → j8, length_append → j9, getElem?_append_left → qb, getElem?_append_right → qc, getD_eq_getElem?_getD → qd, mem_map → qg, length_drop → qh
open Option renaming bind_some → jb, bind → jx, map_some → j7, bind_eq_some_iff → qa
open Option.some renaming injEq → jc
open Bool renaming and_eq_true → jd, not_true → jg, true_and → jk, false_eq_true → jp, not_eq_true → j5
open Prod.mk renaming injEq → jh
open Nat renaming ble_eq_true_of_le → ji, mul_le_mul_right → jm, le_refl → jn, zero_add → jr, add_assoc → js, eq_of_beq_eq_true → jt, ble → jv, le_trans → j6, lt_of_lt_of_le → qf
open Int renaming toNat → jw
open Go.IntKind renaming wrap → jy
open Sum renaming elim_inl → qe
open Result renaming andThen_ok → qi
open Sem renaming run_bind → qj
theorem Cz {s : AS} : ∀ {td : TD} {d : D} {x : T td.ty} {m : Od}, Sb s td d = some (x, m) → (Ag td x).isAgg = d.isAgg := by
 intro td
 cases td with
 | data τ =>
  intro d x m h
  simp only [Sb] at h
  split at h
  ·rename_i y hy
   simp only [jc, jh] at h
   obtain ⟨rfl, _⟩ := h
   have hs := (Ed (w := default) (σ := fun _ => undef) (O := fun _ => False) (hp := fun _ => none) hy).1
   rw [hs.isAgg]
   cases τ <;> rfl
  ·simp at h
 | own id e dp =>
  intro d x m h
  cases d <;> simp [Sb] at h <;> rfl
 | ptr id p =>
  intro d x m h
  cases d <;> simp [Sb] at h <;> rfl
 | hol id e p τ td =>
  intro d x m h
  cases d <;> simp [Sb] at h <;> rfl
 | arr id e =>
  intro d x m h
  cases d <;> first | rfl | (simp [Sb] at h; done)
 | mov id e =>
  intro d x m h
  cases d <;> simp [Sb] at h <;> rfl
 | pr a b =>
  intro d x m h
  simp only [Sb] at h
  cases d with
  | t τ v => cases τ <;> simp [D.fst] at h <;> rfl
  | pr u v => rfl
  | _ => simp [D.fst] at h
 | un =>
  intro d x m h
  simp only [Sb] at h
  split at h
  ·rename_i y hy
   have hs := (Ed (w := default) (σ := fun _ => undef) (O := fun _ => False) (hp := fun _ => none) hy).1
   rw [hs.isAgg]
   rfl
  ·simp at h
def Nn (m m' : Od) : Prop := ∀ p, p ∈ m → p ∈ m'
section
variable {w : World} {s : AS} {σ σ' : Nat → Value} {O O' : Nat → Prop} {hp' : Nat → Option Ca} {m : Od}
structure ME (s : AS) (σ σ' : Nat → Value) (hp' : Nat → Option Ca) (m : Od) : Prop where
 isS : ∀ j i, (j, some i) ∈ m → σ' j = σ i
 isN : ∀ j, (j, none) ∈ m → σ' j = .slice none 0 0
 isB : ∀ j i ρ d, (j, some i) ∈ m → hp' j = some (.box ρ d) → ∃ d', s.heap i = some (.box ρ d')
 isR : ∀ j i blk r, (j, some i) ∈ m → hp' j = some blk → blk.rowN = some r → ∃ blk', s.heap i = some blk' ∧ blk'.rowN = some r
theorem Yo (hT : ME s σ σ' hp' m) (hO : ∀ b, b < w.heap.size → ¬ O b → ¬ O' b) : ∀ {td : TD} {d : D} {x : T td.ty} {m0 : Od} {cs : List Value}, Sb s td d = some (x, m0) → Nn m0 m → Ha w O s.heap σ d cs →
 Ha w O' hp' σ' (Ag td x) cs := by
 intro td
 induction td with
 | data τ =>
  intro d x m0 cs h hm hr
  simp only [Sb] at h
  split at h
  ·rename_i y hy
   simp only [jc, jh] at h
   obtain ⟨rfl, _⟩ := h
   exact Ia.stable (fun _ _ _ => rfl) hO ((Ed hy).2 _ hr)
  ·simp at h
 | own id' e dp =>
  intro d x m0 cs h hm hr
  cases d with
  | own id =>
   simp only [Sb] at h
   split at h
   ·rename_i e' dp' xs hb
    split at h
    ·rename_i q hq
     subst q
     simp only [Aa] at h
     obtain ⟨_, h⟩ := h
     simp only [jc, jh] at h
     obtain ⟨rfl, rfl⟩ := h
     obtain ⟨v, hcs, h1, hv⟩ := hr
     refine ⟨v, hcs, h1, fun _ _ _ _ => ?_⟩
     rw [hT.isS id' id (hm _ (by simp))]
     exact hv _ _ hb rfl
    ·simp at h
   ·simp at h
  | nil =>
   simp only [Sb, jc, jh] at h
   obtain ⟨rfl, rfl⟩ := h
   simp only [Ha] at hr
   exact ⟨_, hr, rfl, fun _ _ _ _ => (hT.isN id' (hm _ (by simp))).symm⟩
  | _ => simp [Sb] at h
 | hol id' e p τ td _ =>
  intro d x m0 cs h hm hr
  cases d with
  | own id =>
   simp only [Sb] at h
   split at h
   ·rename_i e' xs i x1 p' τ' d' hb
    split at h
    ·simp only [Aa] at h
     obtain ⟨_, h⟩ := h
     split at h
     ·rename_i y m1 h1
      simp only [Aa] at h
      obtain ⟨_, h⟩ := h
      simp only [jc, jh] at h
      obtain ⟨rfl, rfl⟩ := h
      obtain ⟨v, hcs, h1, hv⟩ := hr
      refine ⟨v, hcs, h1, fun _ _ _ _ => ?_⟩
      rw [hT.isS id' id (hm _ (by simp))]
      exact hv _ _ hb rfl
     ·simp at h
    ·simp at h
   ·simp at h
  | _ => simp [Sb] at h
 | arr id' e =>
  intro d x m0 cs h hm hr
  cases d with
  | eptr id i q =>
   cases i with
   | succ i => simp [Sb] at h
   | zero =>
    cases q with
    | cons _ _ => simp [Sb] at h
    | nil =>
     simp only [Sb] at h
     split at h
     ·rename_i e' xs hb
      split at h
      ·rename_i q hq
       subst q
       simp only [jc, jh] at h
       obtain ⟨rfl, rfl⟩ := h
       obtain ⟨v, hcs, h1, hv⟩ := hr
       refine ⟨v, hcs, h1, fun blk' e2 n2 hb' hr' => ?_⟩
       obtain ⟨blk0, hb0, hr0⟩ := hT.isR id' id blk' _ (hm _ (by simp)) hb' hr'
       rw [hT.isS id' id (hm _ (by simp))]
       exact hv _ _ _ hb0 hr0
      ·simp at h
     ·simp at h
  | _ => simp [Sb] at h
 | mov id' e =>
  intro d x m0 cs h hm hr
  cases d with
  | own id =>
   simp only [Sb] at h
   split at h
   ·rename_i e' xs hb
    split at h
    ·rename_i q hq
     subst q
     simp only [jc, jh] at h
     obtain ⟨rfl, rfl⟩ := h
     obtain ⟨v, hcs, h1, hv⟩ := hr
     refine ⟨v, hcs, h1, fun _ _ _ _ => ?_⟩
     rw [hT.isS id' id (hm _ (by simp))]
     exact hv _ _ hb rfl
    ·simp at h
   ·rename_i e' xs k hb
    split at h
    ·rename_i q hq
     subst q
     simp only [jc, jh] at h
     obtain ⟨rfl, rfl⟩ := h
     obtain ⟨v, hcs, h1, hv⟩ := hr
     refine ⟨v, hcs, h1, fun _ _ _ _ => ?_⟩
     rw [hT.isS id' id (hm _ (by simp))]
     exact hv _ _ hb rfl
    ·simp at h
   ·simp at h
  | _ => simp [Sb] at h
 | ptr id' p =>
  intro d x m0 cs h hm hr
  cases d with
  | ptr id q =>
   simp only [Sb, Aa] at h
   obtain ⟨hpq, h⟩ := h
   simp only [jc, jh] at h
   obtain ⟨_, rfl⟩ := h
   have hpq' : p = q := by simpa using hpq
   subst hpq'
   obtain ⟨v, hcs, h1, hv⟩ := hr
   refine ⟨v, hcs, h1, fun ρ d hb => ?_⟩
   obtain ⟨d', hd'⟩ := hT.isB id' id ρ d (hm _ (by simp)) hb
   rw [hT.isS id' id (hm _ (by simp))]
   exact hv ρ d' hd'
  | _ => simp [Sb] at h
 | pr a b iha ihb =>
  intro d x m0 cs h hm hr
  simp only [Sb] at h
  split at h
  ·rename_i d1 d2 h1 h2
   split at h
   ·rename_i u l v l' h3 h4
    simp only [jc, jh] at h
    obtain ⟨rfl, rfl⟩ := h
    have key : ∃ c1 c2, cs = c1 ++ c2 ∧ Ha w O s.heap σ d1 c1 ∧ Ha w O s.heap σ d2 c2 := by
     cases d with
     | t τ v =>
      cases τ with
      | p t1 t2 =>
       simp only [D.fst, D.snd, jc] at h1 h2
       subst h1; subst h2
       exact hr
      | _ => simp [D.fst] at h1
     | pr d1' d2' =>
      simp only [D.fst, D.snd, jc] at h1 h2
      subst h1; subst h2
      exact hr
     | _ => simp [D.fst] at h1
    obtain ⟨c1, c2, hc, r1, r2⟩ := key
    exact ⟨c1, c2, hc, iha h3 (fun p hp => hm p (List.mem_append_left _ hp)) r1, ihb h4 (fun p hp => hm p (List.mem_append_right _ hp)) r2⟩
   ·simp at h
  ·simp at h
 | un =>
  intro d x m0 cs h hm hr
  simp only [Sb] at h
  split at h
  ·rename_i y hy
   exact (Ed hy).2 _ hr
  ·simp at h
theorem MB (hT : ME s σ σ' hp' m) (hO : ∀ b, b < w.heap.size → ¬ O b → ¬ O' b) {td : TD} {d : D} {x : T td.ty} {m0 : Od} {v : Value} (h : Sb s td d = some (x, m0)) (hm : Nn m0 m) (hr : Cb w O s.heap σ d v) :
 Cb w O' hp' σ' (Ag td x) v := by
 have hne : Xb w O s.heap σ d v := by
  cases d with
  | und => cases td <;> simp [Sb, Ae, D.fst] at h
  | anyv => cases td <;> simp [Sb, Ae, D.fst] at h
  | tup ds => cases td <;> simp [Sb, Ae, D.fst] at h
  | _ => exact hr
 refine Aj ?_
 unfold Xb at hne ⊢
 rw [Cz h]
 split
 ·rename_i ha
  rw [if_pos ha] at hne
  obtain ⟨cs, h1, h2⟩ := hne
  exact ⟨cs, h1, Yo hT hO h hm h2⟩
 ·rename_i ha
  rw [if_neg ha] at hne
  exact Yo hT hO h hm hne
def Rt (s : AS) (m : Od) (j : Nat) (blk : Ca) : Prop :=
 ((j, none) ∈ m ∧ ∃ e dp, blk = .row e dp ([] : List (T e))) ∨
 ∃ i, (j, some i) ∈ m ∧ ((∃ e dp dp' xs, blk = .row e dp xs ∧ s.heap i = some (.row e dp' xs) ∧ (dp' = dp ∨ e.flat = true)) ∨
  (∃ ρ d td x m0, blk = .box ρ (Ag td x) ∧ s.heap i = some (.box ρ d) ∧ Sb s td d = some (x, m0) ∧ Nn m0 m ∧ Ja ρ (Ag td x)) ∨
  (∃ e xs k x p τ d td y m0, blk = .hol e xs k x p τ (Ag td y) ∧ s.heap i = some (.hol e xs k x p τ d) ∧ Sb s td d = some (y, m0) ∧ Nn m0 m ∧ Ja τ (Ag td y)) ∨
  ∃ e xs k, blk = .mov e xs k ∧ (s.heap i = some (.mov e xs k) ∨ (s.heap i = some (.row e true xs) ∧ k = 0)))
theorem Pp : ∀ {td : TD} {d : D} {x : T td.ty} {m0 : Od}, Sb s td d = some (x, m0) → Nn m0 m → ∀ p, p ∈ Gi td x → ∃ blk, p.2 = some blk ∧ Rt s m p.1 blk := by
 intro td
 induction td with
 | own id' e dp =>
  intro d x m0 h hm p hp
  simp only [Gi, j8] at hp
  subst hp
  cases d with
  | own id =>
   simp only [Sb] at h
   split at h
   ·rename_i e' dp' xs hb
    split at h
    ·rename_i q hq
     subst q
     simp only [Aa] at h
     obtain ⟨hc, h⟩ := h
     simp only [jc, jh] at h
     obtain ⟨rfl, rfl⟩ := h
     refine ⟨_, rfl, .inr ⟨id, hm _ (by simp), .inl ⟨_, dp, dp', _, rfl, hb, ?_⟩⟩⟩
     simpa using hc
    ·simp at h
   ·simp at h
  | nil =>
   simp only [Sb, jc, jh] at h
   obtain ⟨rfl, rfl⟩ := h
   exact ⟨_, rfl, .inl ⟨hm _ (by simp), e, dp, rfl⟩⟩
  | _ => simp [Sb] at h
 | hol id' e pth τ td ih =>
  intro d x m0 h hm p hp
  cases d with
  | own id =>
   simp only [Sb] at h
   split at h
   ·rename_i e' xs i x1 p' τ' d' hb
    split at h
    ·rename_i q1 q2 hq1 hq2
     subst q1
     obtain rfl := Bc hq2
     simp only [Aa] at h
     obtain ⟨hpp, h⟩ := h
     have hpp : pth = p' := by simpa using hpp
     subst hpp
     split at h
     ·rename_i y m1 h1
      simp only [Aa] at h
      obtain ⟨hsh, h⟩ := h
      simp only [jc, jh] at h
      obtain ⟨rfl, rfl⟩ := h
      simp only [Gi] at hp
      rcases jo.1 hp with rfl | hp
      ·exact ⟨_, rfl, .inr ⟨id, hm _ (by simp), .inr (.inr (.inl ⟨_, _, i, _, _, _, d', td, y, m1, by simp only [Int.toNat_natCast], hb, h1, fun p hp => hm p (jq _ hp), Ie hsh⟩))⟩⟩
      ·exact ih h1 (fun p hp => hm p (jq _ hp)) p hp
     ·simp at h
    ·simp at h
   ·simp at h
  | _ => simp [Sb] at h
 | pr a b iha ihb =>
  intro d x m0 h hm p hp
  simp only [Sb] at h
  split at h
  ·split at h
   ·rename_i u l v l' h3 h4
    simp only [jc, jh] at h
    obtain ⟨rfl, rfl⟩ := h
    simp only [Gi] at hp
    rcases jl.1 hp with hp | hp
    ·exact iha h3 (fun p hp => hm p (List.mem_append_left _ hp)) p hp
    ·exact ihb h4 (fun p hp => hm p (List.mem_append_right _ hp)) p hp
   ·simp at h
  ·simp at h
 | arr id' e =>
  intro d x m0 h hm p hp
  simp only [Gi, j8] at hp
  subst hp
  cases d with
  | eptr id i q =>
   cases i with
   | succ i => simp [Sb] at h
   | zero =>
    cases q with
    | cons _ _ => simp [Sb] at h
    | nil =>
     simp only [Sb] at h
     split at h
     ·rename_i e' xs hb
      split at h
      ·rename_i q hq
       subst q
       simp only [jc, jh] at h
       obtain ⟨rfl, rfl⟩ := h
       exact ⟨_, rfl, .inr ⟨id, hm _ (by simp), .inl ⟨_, true, true, _, rfl, hb, .inl rfl⟩⟩⟩
      ·simp at h
     ·simp at h
  | _ => simp [Sb] at h
 | mov id' e =>
  intro d x m0 h hm p hp
  simp only [Gi, j8] at hp
  subst hp
  cases d with
  | own id =>
   simp only [Sb] at h
   split at h
   ·rename_i e' xs hb
    split at h
    ·rename_i q hq
     subst q
     simp only [jc, jh] at h
     obtain ⟨rfl, rfl⟩ := h
     exact ⟨_, rfl, .inr ⟨id, hm _ (by simp), .inr (.inr (.inr ⟨_, _, 0, rfl, .inr ⟨hb, rfl⟩⟩))⟩⟩
    ·simp at h
   ·rename_i e' xs k hb
    split at h
    ·rename_i q hq
     subst q
     simp only [jc, jh] at h
     obtain ⟨rfl, rfl⟩ := h
     exact ⟨_, rfl, .inr ⟨id, hm _ (by simp), .inr (.inr (.inr ⟨_, _, k, by simp only [Int.toNat_natCast], .inl hb⟩))⟩⟩
    ·simp at h
   ·simp at h
  | _ => simp [Sb] at h
 | _ => intro d x m0 h hm p hp; simp [Gi] at hp
theorem Dw : ∀ {l : List (Tmp × TD)} {x : T (Ph.tyT l)} {m0 : Od}, Gx s l = some (x, m0) → Nn m0 m →
 (∀ t d', La (Kr l x) t = some d' → ∃ td d y m1, La s.tm t = some d ∧ Sb s td d = some (y, m1) ∧ Nn m1 m ∧ d' = Ag td y) ∧ (∀ p, p ∈ Rr l x → ∃ blk, p.2 = some blk ∧ Rt s m p.1 blk)
 | [], x, m0, h, hm => ⟨by simp [Kr, La], by simp [Rr]⟩
 | (t0, td) :: r, x, m0, h, hm => by
  simp only [Gx] at h
  split at h
  ·rename_i d hd
   split at h
   ·rename_i y m1 z m2 h1 h2
    simp only [jc, jh] at h
    obtain ⟨rfl, rfl⟩ := h
    have hm1 : Nn m1 m := fun p hp => hm p (List.mem_append_left _ hp)
    obtain ⟨i1, i2⟩ := Dw h2 (fun p hp => hm p (List.mem_append_right _ hp))
    refine ⟨fun t d' ht => ?_, fun p hp => ?_⟩
    ·simp only [Kr] at ht
     rw [Bb] at ht
     split at ht
     ·rename_i e
      subst e
      simp only [jc] at ht
      exact ⟨td, d, y, m1, hd, h1, hm1, ht.symm⟩
     ·exact i1 t d' ht
    ·simp only [Rr] at hp
     rcases jl.1 hp with hp | hp
     ·exact Pp h1 hm1 p hp
     ·exact i2 p hp
   ·simp at h
  ·simp at h
theorem Cw : ∀ {l : List (Nat × Ty × TD)} {x : T (Ph.tyB l)} {m0 m' : Od}, Lu s l m0 = some (x, m') → Nn m' m →
 Nn m0 m ∧ ∀ p, p ∈ Jr l x → ∃ blk, p.2 = some blk ∧ Rt s m p.1 blk
 | [], x, m0, m', h, hm => by
  simp only [Lu, jc, jh] at h
  obtain ⟨_, rfl⟩ := h
  exact ⟨hm, by simp [Jr]⟩
 | (id', ρ, td) :: r, x, m0, m', h, hm => by
  simp only [Lu] at h
  split at h
  ·rename_i id hid
   split at h
   ·rename_i ρ' d hb
    split at h
    ·rename_i q hq
     obtain rfl := q.down
     split at h
     ·rename_i y m1 h1
      simp only [Aa] at h
      obtain ⟨hsh, h⟩ := h
      split at h
      ·rename_i z m2 h2
       simp only [jc, jh] at h
       obtain ⟨rfl, rfl⟩ := h
       obtain ⟨i1, i2⟩ := Cw h2 hm
       have hm0 : Nn m0 m := fun p hp => i1 p (List.mem_append_left _ hp)
       have hm1 : Nn m1 m := fun p hp => i1 p (List.mem_append_right _ hp)
       refine ⟨hm0, fun p hp => ?_⟩
       simp only [Jr] at hp
       rcases jo.1 hp with rfl | hp
       ·exact ⟨_, rfl, .inr ⟨id, hm0 _ (Vg hid), .inr (.inl ⟨_, d, td, y, m1, rfl, hb, h1, hm1, Ie hsh⟩)⟩⟩
       ·rcases jl.1 hp with hp | hp
        ·exact Pp h1 hm1 p hp
        ·exact i2 p hp
      ·simp at h
     ·simp at h
    ·simp at h
   ·simp at h
  ·simp at h
end
theorem Dn : ∀ {m : Od}, Vk m = true → ∀ j i, (j, some i) ∈ m → (j < 500000 ∧ i < 500000) ∨ j = i
 | [], _, _, _, h => by simp at h
 | (j0, some i0) :: r, hp, j, i, h => by
  simp only [Vk, jd, Bool.or_eq_true] at hp
  rcases jo.1 h with e | h
  ·simp only [jh, jc] at e
   obtain ⟨rfl, rfl⟩ := e
   rcases hp.1 with h1 | h1
   ·rw [Nat.blt_eq, Nat.blt_eq] at h1; exact .inl h1
   ·exact .inr (jt h1)
  ·exact Dn hp.2 j i h
 | (j0, none) :: r, hp, j, i, h => by
  simp only [Vk, jd] at hp
  rcases jo.1 h with e | h
  ·simp at e
  ·exact Dn hp.2 j i h
theorem Cn : ∀ {m : Od}, Vk m = true → ∀ j, (j, none) ∈ m → j < 500000
 | [], _, _, h => by simp at h
 | (j0, some i0) :: r, hp, j, h => by
  simp only [Vk, jd] at hp
  rcases jo.1 h with e | h
  ·simp at e
  ·exact Cn hp.2 j h
 | (j0, none) :: r, hp, j, h => by
  simp only [Vk, jd] at hp
  rcases jo.1 h with e | h
  ·simp only [jh, and_true] at e
   subst e
   have := hp.1
   rwa [Nat.blt_eq] at this
  ·exact Cn hp.2 j h
theorem Lw {m : Od} (h : (m.all fun x => m.all fun y => Gk x y) = true) {x y : Nat × Option Nat} (hx : x ∈ m) (hy : y ∈ m) : Gk x y = true :=
 List.all_eq_true.1 (List.all_eq_true.1 h x hx) y hy
theorem BC {m : Od} (h : (m.all fun x => m.all fun y => Gk x y) = true) {j : Nat} {a c : Option Nat} (hx : (j, a) ∈ m) (hy : (j, c) ∈ m) : a = c := by
 have := Lw h hx hy
 unfold Gk at this
 cases a with
 | none => cases c with
  | none => rfl
  | some c => simp at this
 | some a => cases c with
  | none => simp at this
  | some c => simpa [Nat.beq_eq] using this
theorem CC {m : Od} (h : (m.all fun x => m.all fun y => Gk x y) = true) {j j' i : Nat} (hx : (j, some i) ∈ m) (hy : (j', some i) ∈ m) : j = j' := by
 have := Lw h hx hy
 unfold Gk at this
 simpa using this
theorem Ss {α : Type} {j : Nat} {a : α} : ∀ {m : List (Nat × α)}, (j, a) ∈ m → ∃ c, La m j = some c ∧ (j, c) ∈ m
 | [], h => by simp at h
 | (j0, a0) :: r, h => by
  rw [Bb]
  by_cases hj : j0 = j
  ·subst hj; exact ⟨a0, by simp, by simp⟩
  ·rw [if_neg hj]
   rcases jo.1 h with e | h
   ·simp only [jh] at e
    exact absurd e.1.symm hj
   ·obtain ⟨c, h1, h2⟩ := Ss h
    exact ⟨c, h1, jq _ h2⟩
theorem Wg {m : Od} (h : (m.all fun x => m.all fun y => Gk x y) = true) {j : Nat} {a : Option Nat} (hx : (j, a) ∈ m) : La m j = some a := by
 obtain ⟨c, h1, h2⟩ := Ss hx
 rw [h1, BC h hx h2]
section
variable {n0 : Nat} {A : Fx} {O0 : Nat → Prop} {w0 w : World} {s : AS} {σ : Nat → Value} {φ : Nat → List Nat} {a : Act}
theorem Zo (h : Ga n0 A O0 w0 s σ φ a w) {p : Ph} {x : p.X} (he : ext p s = some x) : ∃ σ' φ', Ga n0 A O0 w0 (Gl p x s.n) σ' φ' a w := by
 unfold ext at he
 split at he
 ·rename_i x1 m1 h1
  split at he
  ·rename_i x2 m h2
   simp only [Aa] at he
   obtain ⟨hmo, he⟩ := he
   simp only [jc] at he
   subst he
   simp only [UC, jd] at hmo
   obtain ⟨hn1, hpo⟩ := hmo
   obtain ⟨hm1, hB⟩ := Cw h2 (fun p hp => hp)
   obtain ⟨hT1, hT2⟩ := Dw h1 hm1
   let σ' : Nat → Value := fun j => match La m j with
    | some (some i) => σ i
    | some none => .slice none 0 0
    | none => σ j
   let φ' : Nat → List Nat := fun j => match La m j with
    | some (some i) => φ i
    | _ => []
   have hσs : ∀ j i, (j, some i) ∈ m → σ' j = σ i ∧ φ' j = φ i := fun j i hj => by
    have := Wg hn1 hj
    simp only [σ', φ', this, and_self]
   have hσn : ∀ j, (j, none) ∈ m → σ' j = .slice none 0 0 ∧ φ' j = [] := fun j hj => by
    have := Wg hn1 hj
    simp only [σ', φ', this, and_self]
   have hent : ∀ j blk, (Gl p (x1, x2) s.n).heap j = some blk → Rt s m j blk := by
    intro j blk hj
    have hmem := AS.heap_mem hj
    simp only [Gl] at hmem
    rcases jl.1 hmem with hmem | hmem
    ·obtain ⟨blk', e, hE⟩ := hT2 _ hmem
     simp only [jc] at e
     subst e
     exact hE
    ·obtain ⟨blk', e, hE⟩ := hB _ hmem
     simp only [jc] at e
     subst e
     exact hE
   have hlive : ∀ j blk, (Gl p (x1, x2) s.n).heap j = some blk → φ' j = [] ∨ ∃ i blk0, (j, some i) ∈ m ∧ s.heap i = some blk0 ∧ φ' j = φ i := by
    intro j blk hj
    rcases hent j blk hj with ⟨hn, _⟩ | ⟨i, hi, ⟨e, dp, dp', xs, _, hb, _⟩ | ⟨ρ, d, td, y, m0, _, hb, _⟩ | ⟨e, xs, k, x, p, τ, d, td, y, m0, _, hb, _⟩ | ⟨e, xs, k, _, hb | ⟨hb, _⟩⟩⟩
    ·exact .inl (hσn j hn).2
    ·exact .inr ⟨i, _, hi, hb, (hσs j i hi).2⟩
    ·exact .inr ⟨i, _, hi, hb, (hσs j i hi).2⟩
    ·exact .inr ⟨i, _, hi, hb, (hσs j i hi).2⟩
    ·exact .inr ⟨i, _, hi, hb, (hσs j i hi).2⟩
    ·exact .inr ⟨i, _, hi, hb, (hσs j i hi).2⟩
   have hOO : ∀ b, b < w.heap.size → ¬ OO O0 s φ b → ¬ OO O0 (Gl p (x1, x2) s.n) φ' b := by
    rintro b _ hno (ho | ⟨j, blk, hj, hm⟩)
    ·exact hno (.inl ho)
    ·rcases hlive j blk hj with hφ | ⟨i, blk0, _, hb, hφ⟩
     ·rw [hφ] at hm; simp at hm
     ·rw [hφ] at hm; exact hno (.inr ⟨i, blk0, hb, hm⟩)
   have hTOk : ME s σ σ' (Gl p (x1, x2) s.n).heap m := by
    refine ⟨fun j i hj => (hσs j i hj).1, fun j hj => (hσn j hj).1, fun j i ρ d hj hb => ?_, fun j i blk r hj hb hr => ?_⟩
    rcases hent j _ hb with ⟨hn, e, dp, hh⟩ | ⟨i', hi', ⟨e, dp, dp', xs, hh, _⟩ | ⟨ρ', d', td, y, m0, hh, hb', _⟩ | ⟨e, xs, k, x, p, τ, d', td, y, m0, hh, _⟩ | ⟨e, xs, k, hh, _⟩⟩
    ·simp at hh
    ·simp at hh
    ·simp only [Ca.box.injEq] at hh
     have e1 := Wg hn1 hj
     have e2 := Wg hn1 hi'
     rw [e1] at e2
     simp only [jc] at e2
     subst e2
     exact ⟨d', by rw [hb', hh.1]⟩
    ·simp at hh
    ·simp at hh
    ·have e1 := Wg hn1 hj
     rcases hent j _ hb with ⟨hn, _⟩ | ⟨i', hi', hx⟩
     ·have e2 := Wg hn1 hn
      rw [e1] at e2
      simp at e2
     ·have e2 := Wg hn1 hi'
      rw [e1] at e2
      simp only [jc] at e2
      subst e2
      rcases hx with ⟨e, dp, dp', xs, rfl, hb', _⟩ | ⟨ρ', d', td, y, m0, rfl, _⟩ | ⟨e, xs, k, x, p, τ, d', td, y, m0, rfl, hb', _⟩ | ⟨e, xs, k, rfl, hb' | ⟨hb', _⟩⟩
      ·exact ⟨_, hb', hr⟩
      ·simp [Ca.rowN] at hr
      ·exact ⟨_, hb', hr⟩
      ·exact ⟨_, hb', hr⟩
      ·exact ⟨_, hb', hr⟩
   refine ⟨σ', φ', h.sz, h.df, ?_, ?_, ?_, ?_, ?_, h.o0, h.fr, ?_, h.iv0, h.ivw⟩
   ·intro t d' hd
    obtain ⟨td, d, y, m0, g1, g2, g3, g4⟩ := hT1 t d' hd
    obtain ⟨v, hv, hr⟩ := h.tm t d g1
    rw [g4]
    exact ⟨v, hv, MB hTOk hOO g2 g3 hr⟩
   ·intro j blk hj
    rcases hent j blk hj with ⟨hn, e, dp, rfl⟩ | ⟨i, hi, ⟨e, dp, dp', xs, rfl, hb, hd⟩ | ⟨ρ, d, td, y, m0, rfl, hb, hex, hsub, hsh⟩ | ⟨e, xs, k, x, p, τ, d, td, y, m0, rfl, hb, hex, hsub, hsh⟩ | ⟨e, xs, k, rfl, hb⟩⟩
    ·rw [De, (hσn j hn).1, (hσn j hn).2]
     exact ⟨by simp, .inl ⟨rfl, rfl, rfl⟩⟩
    ·rw [De, (hσs j i hi).1, (hσs j i hi).2]
     have hrow := De.1 (h.hp i _ hb)
     have hst : ∀ dq, Jd w (OO O0 s φ) dq e xs (σ i) (φ i) → Jd w (OO O0 (Gl p (x1, x2) s.n) φ') dq e xs (σ i) (φ i) := by
      rintro dq ⟨hm, g | ⟨bl, off, cap, cur, et, Fs, g1, hh, g2, g3, g4, hF, hel⟩⟩
      ·exact ⟨hm, .inl g⟩
      ·exact ⟨hm, .inr ⟨bl, off, cap, cur, et, Fs, g1, hh, g2, g3, g4, hF, hel.stable (fun _ _ _ => rfl) hOO (fun _ _ => rfl)⟩⟩
     rcases hd with rfl | hf
     ·exact hst _ hrow
     ·have hup := hrow.up
      rw [hf, Bool.or_true] at hup
      cases dp with
      | true => exact hst _ hup
      | false =>
       cases dp' with
       | false => exact hst _ hrow
       | true =>
        have hown := Bp (h.hp i _ hb) (.inl rfl)
        exact hst _ (De.1 (Ms (O := OO O0 s φ) (hp := s.heap) hown hf))
    ·rw [(hσs j i hi).2]
     obtain ⟨_, b, cur, et, g1, hh, hF, hr, hsz⟩ := h.hp i _ hb
     exact ⟨hsh, b, cur, et, by rw [(hσs j i hi).1]; exact g1, hh, hF, Yo hTOk hOO hex hsub hr, hsz⟩
    ·rw [(hσs j i hi).2]
     obtain ⟨_, g1, g2, g3, bl, off, cap, cur, et, g4, g5, g6, g7, hr, hw⟩ := h.hp i _ hb
     refine ⟨hsh, g1, g2, g3, bl, off, cap, cur, et, by rw [(hσs j i hi).1]; exact g4, g5, g6, g7, Yo hTOk hOO hex hsub hr, fun w' c' h1 h2 h3 y Fy x' h4 h5 => ?_⟩
     rw [(hσs j i hi).1]
     exact hw w' c' h1 h2 h3 y Fy x' h4 h5
    ·rw [(hσs j i hi).2]
     have hm0 : Va w (OO O0 s φ) s.heap σ i (.mov e xs k) (φ i) := by
      rcases hb with hb | ⟨hb, rfl⟩
      ·exact h.hp i _ hb
      ·exact Fv (h.hp i _ hb)
     obtain ⟨hlen, ⟨g1, g2, g3⟩ | ⟨bl, off, cap, cur, et, Fs, g1, g⟩⟩ := hm0
     ·exact ⟨hlen, .inl ⟨by rw [(hσs j i hi).1]; exact g1, g2, g3⟩⟩
     ·exact ⟨hlen, .inr ⟨bl, off, cap, cur, et, Fs, by rw [(hσs j i hi).1]; exact g1, g⟩⟩
   ·intro j blk hj
    rcases hlive j blk hj with hφ | ⟨i, blk0, _, hb, hφ⟩
    ·rw [hφ]; exact List.nodup_nil
    ·rw [hφ]; exact h.nodup i blk0 hb
   ·intro j j' blk blk' hne hj hj' b hb hb'
    rcases hlive j blk hj with hφ | ⟨i, blk0, hi, hbi, hφ⟩
    ·rw [hφ] at hb; simp at hb
    ·rcases hlive j' blk' hj' with hφ' | ⟨i', blk0', hi', hbi', hφ'⟩
     ·rw [hφ'] at hb'; simp at hb'
     ·rw [hφ] at hb
      rw [hφ'] at hb'
      by_cases hii : i = i'
      ·subst hii
       exact hne (CC hn1 hi hi')
      ·exact h.disj i i' blk0 blk0' hii hbi hbi' b hb hb'
   ·intro j blk hj b hb
    rcases hlive j blk hj with hφ | ⟨i, blk0, _, hbi, hφ⟩
    ·rw [hφ] at hb; simp at hb
    ·rw [hφ] at hb; exact h.fresh i blk0 hbi b hb
   ·intro j v hv
    have hlow := A.low j v hv
    show σ' j = v
    simp only [σ']
    split
    ·rename_i i hg
     rcases Dn hpo j i (Vg hg) with ⟨hj, _⟩ | rfl
     ·omega
     ·exact h.pin _ v hv
    ·rename_i hg
     have := Cn hpo j (Vg hg)
     omega
    ·exact h.pin j v hv
  ·simp at he
 ·simp at he
end
def TE : Ex → Exit
 | .normal => .normal
 | .exit id => .exit id
 | .ret => .ret
def Lk {X R : Type} (step : X → Option (X ⊕ R)) : Nat → X → R → Prop
 | 0, _, _ => False
 | n + 1, x, r => step x = some (.inr r) ∨ ∃ x', step x = some (.inl x') ∧ Lk step n x' r
def Lc : Code → List Code
 | .seq a b => Lc a ++ Lc b
 | .cond _ a b => Lc a ++ Lc b
 | .block _ c => Lc c
 | .loop c => c :: Lc c
 | _ => []
def Qc (G : Dc) (L : List (Nat × Lb)) (b : Code) : Prop :=
 ∀ r ls, Sd b = some r → La L r = some ls → ∀ x y, ls.F x = some y → ∃ m, Lk (Wl G L ls b) m x y
section
variable {P : Program} {n0 : Nat} {A : Fx} {O0 : Nat → Prop} {w0 : World} {G : Dc} {L : List (Nat × Lb)}
theorem SE (hG : Ng P A.I G) (hfz : G.fz = true → ∀ b, ¬ A.A b) (hm : P.follows .mixedOrders = true) : ∀ (c : Code), (∀ b, b ∈ Lc c → Qc G L b) → ∀ {Out : Type} {k : Ex → AS → Option Out} {out : Out} {s : AS} {σ : Nat → Value} {φ : Nat → List Nat} {a : Act} {w : World} {Q : Exit → Act → World → Prop},
 Lh G L c s k = some out → Ga n0 A O0 w0 s σ φ a w → (∀ e s σ φ a w, k e s = some out → Ga n0 A O0 w0 s σ φ a w → Q (TE e) a w) → c.wp P Q a w := by
 intro c
 induction c with
 | skip =>
  intro _ Out k out s σ φ a w Q he h hQ
  simp only [Lh] at he
  exact wp_skip (hQ .normal s σ φ a w he h)
 | region id ops draw =>
  intro _ Out k out s σ φ a w Q he h hQ
  simp only [Lh] at he
  split at he
  ·rename_i s1 h1
   obtain ⟨φ1, hc⟩ := Xk hfz h h1
   refine DA (k := fun s' => match Bm G.fz G.att (1000 * id + 999) s' with
    | some s' => k .normal s'
    | none => none) hG hfz hm hc he fun a w ⟨s', σ', φ', h2, h3⟩ => ?_
   simp only at h2
   split at h2
   ·rename_i s2 h4
    obtain ⟨φ2, hc2⟩ := Xk hfz h3 h4
    exact hQ .normal _ σ' φ2 a w h2 hc2
   ·simp at h2
  ·simp at he
 | seq x y ihx ihy =>
  intro hL Out k out s σ φ a w Q he h hQ
  simp only [Lh] at he
  refine wp_seq (ihx (fun b hb => hL b (by simp [Lc, hb])) he h fun e s' σ' φ' a' w' hk h' => ?_)
  cases e with
  | normal => exact ihy (fun b hb => hL b (by simp [Lc, hb])) hk h' hQ
  | exit j => exact hQ (.exit j) s' σ' φ' a' w' hk h'
  | ret => exact hQ .ret s' σ' φ' a' w' hk h'
 | cond x y z ihy ihz =>
  intro hL Out k out s σ φ a w Q he h hQ
  cases x with
  | tmp t =>
   simp only [Lh] at he
   split at he
   ·rename_i β hd
    have hs := h.same hd
    obtain ⟨v, hv, hr⟩ := h.tm t _ hd
    rw [Fd] at hr
    subst hr
    have hev : a.eval (.tmp t) = .bool β := by
     simp only [Act.eval]
     rw [Array.getD_eq_getD_getElem?, hv]
     rfl
    refine wp_cond_split hev (fun hb => ?_) (fun hb => ?_)
    ·subst hb
     simp only [cond_true] at he
     exact ihy (fun b hb => hL b (by simp [Lc, hb])) he hs hQ
    ·subst hb
     simp only [cond_false] at he
     exact ihz (fun b hb => hL b (by simp [Lc, hb])) he hs hQ
   ·simp at he
  | const cv =>
   cases cv with
   | bool β =>
    simp only [Lh] at he
    refine wp_cond_split (show a.eval (.const (.bool β)) = .bool β from rfl) (fun hb => ?_) (fun hb => ?_)
    ·subst hb
     simp only [cond_true] at he
     exact ihy (fun b hb => hL b (by simp [Lc, hb])) he h hQ
    ·subst hb
     simp only [cond_false] at he
     exact ihz (fun b hb => hL b (by simp [Lc, hb])) he h hQ
   | _ => simp [Lh] at he
  | _ => simp [Lh] at he
 | block id c ih =>
  intro hL Out k out s σ φ a w Q he h hQ
  simp only [Lh] at he
  refine wp_block (ih (fun b hb => hL b (by simpa [Lc] using hb)) he h fun e s' σ' φ' a' w' hk h' => ?_)
  cases e with
  | normal => exact hQ .normal s' σ' φ' a' w' hk h'
  | exit j =>
   simp only [TE, Exit.inBlock]
   cases hb : Nat.beq j id with
   | true =>
    rw [if_pos (jt hb)]
    simp only [hb, cond_true] at hk
    exact hQ .normal s' σ' φ' a' w' hk h'
   | false =>
    rw [if_neg (fun e => by rw [e, Nat.beq_refl] at hb; simp at hb)]
    simp only [hb, cond_false] at hk
    exact hQ (.exit j) s' σ' φ' a' w' hk h'
  | ret => exact hQ .ret s' σ' φ' a' w' hk h'
 | exit id =>
  intro _ Out k out s σ φ a w Q he h hQ
  simp only [Lh] at he
  exact wp_exit (hQ (.exit id) s σ φ a w he h)
 | ret =>
  intro _ Out k out s σ φ a w Q he h hQ
  simp only [Lh] at he
  exact wp_ret (hQ .ret s σ φ a w he h)
 | loop c ih =>
  intro hL Out k out s σ φ a w Q he h hQ
  simp only [Lh] at he
  split at he
  ·rename_i r hr
   split at he
   ·rename_i ls hls
    split at he
    ·rename_i x hx
     simp only [Aa] at he
     obtain ⟨hn, he⟩ := he
     have hn := jt hn
     rw [qa] at he
     obtain ⟨y, hy, he⟩ := he
     obtain ⟨m, hit⟩ := hL c (by simp [Lc]) r ls hr hls x y hy
     obtain ⟨σ1, φ1, h1⟩ := Zo h hx
     rw [hn] at h1 he
     refine wp_loop_rounds m ?_
     have key : ∀ (m : Nat) (x : ls.inT.X) (σ : Nat → Value) (φ : Nat → List Nat) (a : Act) (w : World), Lk (Wl G L ls c) m x y → Ga n0 A O0 w0 (Gl ls.inT x ls.n) σ φ a w → Code.rounds P c Q m a w := by
      intro m
      induction m with
      | zero => intro x σ φ a w hit _; exact hit.elim
      | succ m ihm =>
       intro x σ φ a w hit h
       rw [rounds_succ]
       have body : ∀ z, Wl G L ls c x = some z → (z = .inr y ∨ ∃ x', z = .inl x' ∧ Lk (Wl G L ls c) m x' y) → c.wp P (Exit.then (Code.rounds P c Q m) Q) a w := by
        intro z hz hzy
        unfold Wl at hz
        refine ih (fun b hb => hL b (by simp [Lc, hb])) hz h fun e s' σ' φ' a' w' hk h' => ?_
        simp only [Aa] at hk
        obtain ⟨hn', hk⟩ := hk
        have hn' := jt hn'
        cases e with
        | normal =>
         simp only at hk
         split at hk
         ·rename_i x' hx'
          simp only [jc] at hk
          obtain ⟨σ2, φ2, h2⟩ := Zo h' hx'
          rw [hn'] at h2
          rcases hzy with hzy | ⟨x'', hzy, hit'⟩
          ·rw [hzy] at hk; simp at hk
          ·rw [hzy] at hk
           simp only [Sum.inl.injEq] at hk
           subst hk
           exact ihm x' σ2 φ2 a' w' hit' h2
         ·simp at hk
        | exit j =>
         simp only [Aa] at hk
         obtain ⟨hj, hk⟩ := hk
         have hj := jt hj
         split at hk
         ·rename_i y' hy'
          simp only [jc] at hk
          obtain ⟨σ2, φ2, h2⟩ := Zo h' hy'
          rw [hn'] at h2
          rcases hzy with hzy | ⟨x'', hzy, _⟩
          ·rw [hzy] at hk
           simp only [Sum.inr.injEq] at hk
           subst hk
           simp only [qe] at he
           show Q (.exit j) a' w'
           rw [hj]
           exact hQ (.exit ls.exitId) _ σ2 φ2 a' w' he h2
          ·rw [hzy] at hk; simp at hk
         ·simp at hk
        | ret =>
         simp only at hk
         split at hk
         ·rename_i y' hy'
          simp only [jc] at hk
          obtain ⟨σ2, φ2, h2⟩ := Zo h' hy'
          rw [hn'] at h2
          rcases hzy with hzy | ⟨x'', hzy, _⟩
          ·rw [hzy] at hk
           simp only [Sum.inr.injEq] at hk
           subst hk
           simp only [Sum.elim_inr] at he
           exact hQ .ret _ σ2 φ2 a' w' he h2
          ·rw [hzy] at hk; simp at hk
         ·simp at hk
       rcases hit with hit | ⟨x', hit, hit'⟩
       ·exact body _ hit (.inl rfl)
       ·exact body _ hit (.inr ⟨x', rfl, hit'⟩)
     exact key m x σ1 φ1 a w hit h1
    ·simp at he
   ·simp at he
  ·simp at he
 | _ => intros; rename_i he _ _; simp [Lh] at he
end
theorem Ab.mono {w : World} {O O' : Nat → Prop} (hO : ∀ b, O' b → O b) : ∀ {rt : Ty} {r : T rt} {fr : List Bool} {vs : List Value} {F : List Nat}, Ab w O rt r fr vs F → Ab w O' rt r fr vs F
 | .u, _, [], [], _, h => h
 | .p x y, r, f :: fr, v :: vs, F, h => by
  obtain ⟨cs, F1, F2, hv, hF, h1, h2⟩ := h
  refine ⟨cs, F1, F2, hv, hF, ?_, Ab.mono hO h2⟩
  cases f with
  | true => exact h1
  | false =>
   simp only [jp, if_false] at h1 ⊢
   exact ⟨h1.1.weaken hO, h1.2⟩
 | .u, _, _ :: _, _, _, h => by simp [Ab] at h
 | .u, _, [], _ :: _, _, h => by simp [Ab] at h
 | .p _ _, _, [], _, _, h => by simp [Ab] at h
 | .p _ _, _, _ :: _, [], _, h => by simp [Ab] at h
 | .i _, _, fr, vs, _, h => by simp [Ab] at h
 | .b, _, fr, vs, _, h => by simp [Ab] at h
 | .o, _, fr, vs, _, h => by simp [Ab] at h
 | .s, _, fr, vs, _, h => by simp [Ab] at h
 | .sl _, _, fr, vs, _, h => by simp [Ab] at h
section
variable {P : Program} {n0 : Nat} {A : Fx} {O0 : Nat → Prop} {w0 w : World} {s : AS} {σ : Nat → Value} {φ : Nat → List Nat} {a : Act} {G : Dc} {L : List (Nat × Lb)}
def RU (w : World) (O : Nat → Prop) (hp : Nat → Option Ca) (σ : Nat → Value) : D → List Value → Prop
 | .pr a b, v :: vs => Cb w O hp σ a v ∧ RU w O hp σ b vs
 | .un, [] => True
 | _, _ => False
def Ko (tmps : Array Value) : ResultVar → Sem Value
 | .tmp t => pure (tmps.getD t undef)
 | .cell a t => do loadVar t (← asAddr (tmps.getD a undef))
theorem Jq (hG : EnvTy P G) (h : Ga n0 A O0 w0 s σ φ a w) : ∀ {rs : List ResultVar} {d : D}, Vl G s rs = some d → ∃ vs, (rs.mapM (Ko a.tmps)).run P w = .ok vs w ∧ RU w (OO O0 s φ) s.heap σ d vs
 | [], d, he => by
  simp only [Vl, jc] at he
  subst he
  exact ⟨[], by simp, trivial⟩
 | .tmp t :: r, d, he => by
  simp only [Vl] at he
  split at he
  ·rename_i d1 d2 h1 h2
   simp only [jc] at he
   subst he
   obtain ⟨vs, hvs, hr⟩ := Jq hG h h2
   obtain ⟨v, hv, hru⟩ := h.tm t d1 h1
   have hg : a.tmps.getD t undef = v := by rw [Array.getD_eq_getD_getElem?, hv]; rfl
   refine ⟨v :: vs, ?_, hru, hr⟩
   rw [List.mapM_cons]
   simp only [Ko, qj, Sem.run_pure, qi, hvs, hg]
  ·simp at he
 | .cell t ty :: r, d, he => by
  simp only [Vl] at he
  split at he
  ·rename_i id d2 h1 h2
   split at he
   ·rename_i ρ d1 τ hb hty
    split at he
    ·rename_i q hq
     obtain rfl := q.down
     simp only [jc] at he
     subst he
     obtain ⟨vs, hvs, hr⟩ := Jq hG h h2
     obtain ⟨v, hv, hru⟩ := h.tm t _ h1
     have hg : a.tmps.getD t undef = v := by rw [Array.getD_eq_getD_getElem?, hv]; rfl
     rw [Ch] at hru
     obtain ⟨b, hσ, hv'⟩ := hru.2 _ _ hb
     obtain ⟨hs, b', cur, et, hσ', hh, hF, hrep, hsz⟩ := h.hp id _ hb
     rw [hσ] at hσ'
     simp at hσ'
     subst hσ'
     have hl := Rf (P := P) (hG.ty _ _ hty) (off := 0) hh (by omega)
     have hseg : Gb cur 0 ρ.size = cur.toList := by rw [← hsz]; exact PD cur
     rw [hseg] at hl
     refine ⟨Kb ρ cur.toList :: vs, ?_, Cg hs hrep, hr⟩
     rw [List.mapM_cons]
     have hoff : Ka ρ [] = 0 := rfl
     rw [hoff] at hv'
     subst hv'
     simp only [Ko, qj, Sem.run_pure, qi, hvs, hg, asAddr, hl]
    ·simp at he
   ·simp at he
  ·simp at he
theorem Mw (h : Ga n0 A O0 w0 s σ φ a w) : ∀ {rt : Ty} {fr : List Bool} {d : D} {r : T rt} {l : List Nat} {vs : List Value}, Yc s rt fr d = some (r, l) → RU w (OO O0 s φ) s.heap σ d vs →
 Ab w (OO O0 s φ) rt r fr vs (Ba φ l) ∧ ∀ j, j ∈ l → ∃ b, s.heap j = some b
 | .u, [], .un, r, l, vs, he, hr => by
  simp only [Yc, jc, jh] at he
  obtain ⟨_, rfl⟩ := he
  cases vs with
  | nil => exact ⟨by simp [Ab, Ba], by simp⟩
  | cons v vs => simp [RU] at hr
 | .p x y, f :: fr, .pr d1 d2, r, l, vs, he, hr => by
  cases vs with
  | nil => simp [RU] at hr
  | cons v vs =>
   simp only [Yc] at he
   split at he
   ·rename_i u l1 z l2 h1 h2
    simp only [jc, jh] at he
    obtain ⟨rfl, rfl⟩ := he
    obtain ⟨g1, g2⟩ := Mw h h2 hr.2
    cases f with
    | true =>
     simp only [cond_true] at h1
     obtain ⟨hrep, hv⟩ := Wb (Ud h1) hr.1
     obtain ⟨ho, hl⟩ := Qf h h1 hrep
     refine ⟨⟨_, Ba φ l1, Ba φ l2, hv, Jc, ?_, g1⟩, ?_⟩
     ·simpa using ho
     ·intro j hj
      rcases jl.1 hj with hj | hj
      ·exact hl j hj
      ·exact g2 j hj
    | false =>
     simp only [cond_false] at h1
     split at h1
     ·rename_i u' hu
      simp only [jc, jh] at h1
      obtain ⟨rfl, rfl⟩ := h1
      obtain ⟨hs, hvw⟩ := Ed (w := w) (O := OO O0 s φ) (hp := s.heap) (σ := σ) hu
      obtain ⟨hrep, hv⟩ := Wb hs hr.1
      refine ⟨⟨_, [], Ba φ l2, hv, by simp [Ba], ?_, g1⟩, by simpa using g2⟩
      simpa using hvw _ hrep
     ·simp at h1
   ·simp at he
 | .u, _ :: _, d, _, _, _, he, _ => by cases d <;> simp [Yc] at he
 | .u, [], .und, _, _, _, he, _ => by simp [Yc] at he
 | .u, [], .anyv, _, _, _, he, _ => by simp [Yc] at he
 | .u, [], .t _ _, _, _, _, he, _ => by simp [Yc] at he
 | .u, [], .nil, _, _, _, he, _ => by simp [Yc] at he
 | .u, [], .own _, _, _, _, he, _ => by simp [Yc] at he
 | .u, [], .ptr _ _, _, _, _, he, _ => by simp [Yc] at he
 | .u, [], .eptr _ _ _, _, _, _, he, _ => by simp [Yc] at he
 | .u, [], .rp _ _, _, _, _, he, _ => by simp [Yc] at he
 | .u, [], .pr _ _, _, _, _, he, _ => by simp [Yc] at he
 | .u, [], .tup _, _, _, _, he, _ => by simp [Yc] at he
 | .p _ _, [], d, _, _, _, he, _ => by cases d <;> simp [Yc] at he
 | .p _ _, _ :: _, .und, _, _, _, he, _ => by simp [Yc] at he
 | .p _ _, _ :: _, .anyv, _, _, _, he, _ => by simp [Yc] at he
 | .p _ _, _ :: _, .t _ _, _, _, _, he, _ => by simp [Yc] at he
 | .p _ _, _ :: _, .nil, _, _, _, he, _ => by simp [Yc] at he
 | .p _ _, _ :: _, .own _, _, _, _, he, _ => by simp [Yc] at he
 | .p _ _, _ :: _, .ptr _ _, _, _, _, he, _ => by simp [Yc] at he
 | .p _ _, _ :: _, .eptr _ _ _, _, _, _, he, _ => by simp [Yc] at he
 | .p _ _, _ :: _, .rp _ _, _, _, _, he, _ => by simp [Yc] at he
 | .p _ _, _ :: _, .un, _, _, _, he, _ => by simp [Yc] at he
 | .p _ _, _ :: _, .tup _, _, _, _, he, _ => by simp [Yc] at he
 | .i _, fr, d, _, _, _, he, _ => by cases fr <;> cases d <;> simp [Yc] at he
 | .b, fr, d, _, _, _, he, _ => by cases fr <;> cases d <;> simp [Yc] at he
 | .o, fr, d, _, _, _, he, _ => by cases fr <;> cases d <;> simp [Yc] at he
 | .s, fr, d, _, _, _, he, _ => by cases fr <;> cases d <;> simp [Yc] at he
 | .sl _, fr, d, _, _, _, he, _ => by cases fr <;> cases d <;> simp [Yc] at he
theorem Rv {fn : Func} {vs : List Value} (h : (fn.results.toList.mapM (Ko a.tmps)).run P w = .ok vs w) : (results fn a.tmps).run P w = .ok (Dm vs) w := by
 unfold results
 rw [Array.mapM_eq_mapM_toList]
 simp only [map_eq_pure_bind, bind_assoc, pure_bind, qj, Sem.run_pure]
 show (Sem.run P (List.mapM (Ko a.tmps) fn.results.toList) w).andThen (fun vs w' => Result.ok (if h : vs.toArray.size = 1 then vs.toArray[0] else Value.tuple vs.toArray) w') = _
 rw [h]
 simp only [qi]
 congr 1
 cases vs with
 | nil => rfl
 | cons v vs => cases vs <;> rfl
end
def Ty.npar : Ty → Nat
 | .p _ y => y.npar + 1
 | _ => 0
theorem It {w : World} {O : Nat → Prop} : ∀ {pt : Ty} {x : T pt} {args : List Value}, Sc w O pt x args → args.length = pt.npar
 | .u, _, [], _ => rfl
 | .p x y, v, a :: r, h => by simp [Ty.npar, It h.2]
 | .u, _, _ :: _, h => by simp [Sc] at h
 | .p _ _, _, [], h => by simp [Sc] at h
 | .i _, _, l, h => by simp [Sc] at h
 | .b, _, l, h => by simp [Sc] at h
 | .o, _, l, h => by simp [Sc] at h
 | .s, _, l, h => by simp [Sc] at h
 | .sl _, _, l, h => by simp [Sc] at h
theorem Cv {w : World} {O : Nat → Prop} {hp : Nat → Option Ca} {σ : Nat → Value} : ∀ {pt : Ty} {x : T pt} {args : List Value} {n t : Nat} {d : D}, Sc w O pt x args → La (Ul pt x n) t = some d →
 ∃ j v, t = n + j ∧ args[j]? = some v ∧ Cb w O hp σ d v
 | .p x y, v, a :: r, n, t, d, h, hd => by
  simp only [Ul] at hd
  rw [Bb] at hd
  split at hd
  ·rename_i e
   simp only [jc] at hd
   subst hd
   obtain ⟨⟨cs, ha, hv⟩, _⟩ := h
   refine ⟨0, a, by omega, rfl, ?_⟩
   rw [ha]
   exact Cg (τ := x) (by simp [Ja]) hv
  ·obtain ⟨j, v', h1, h2, h3⟩ := Cv (hp := hp) (σ := σ) h.2 hd
   exact ⟨j + 1, v', by omega, by simpa using h2, h3⟩
 | .p _ _, _, [], _, _, _, h, _ => by simp [Sc] at h
 | .u, _, _, _, _, _, _, hd => by simp [Ul, La] at hd
 | .i _, _, _, _, _, _, h, _ => by simp [Sc] at h
 | .b, _, _, _, _, _, h, _ => by simp [Sc] at h
 | .o, _, _, _, _, _, h, _ => by simp [Sc] at h
 | .s, _, _, _, _, _, h, _ => by simp [Sc] at h
 | .sl _, _, _, _, _, _, h, _ => by simp [Sc] at h
section
variable {P : Program} {G : Dc} {L : List (Nat × Lb)}
variable {I : Fg}
def SB (I : Fg) : Fx := ⟨fun _ => False, fun _ => none, fun _ _ h => by simp at h, I, fun _ h => h.elim⟩
theorem LC (hG : Ng P I G) (hm : P.follows .mixedOrders = true) {f : FuncId} {fn : Func} {c : Code} (hf : P.funcs[f]? = some fn) (hb : fn.body = some c) (hname : (fn.name == "runtime.NumGoroutine") = false)
 (hL : ∀ b, b ∈ Lc c → Qc G L b) {pt rt : Ty} {fr : List Bool} {F : T pt → Option (T rt)} (hn : pt.npar ≤ fn.ntmps) (hF : ∀ x r, F x = some r → Xy G L fn pt rt fr x = some r) : Ri P I f (.pu pt rt fr F) := by
 refine ⟨⟨fn, hf, hname, by rw [hb]; rfl⟩, ?_⟩
 intro O w x r args hx hargs hO hI hB
 have he := hF x r hx
 unfold Xy at he
 rw [hb] at he
 simp only at he
 refine calls_of_wp hf hb ?_
 have hlen := It hargs
 have hc : Ga w.heap.size (SB I) O w ⟨fn.ntmps, Ul pt x 0, []⟩ (fun _ => undef) (fun _ => []) { tmps := args.toArray ++ Array.replicate (fn.ntmps - args.toArray.size) undef, defers := [] } w := by
  have hh : ∀ id, AS.heap ⟨fn.ntmps, Ul pt x 0, []⟩ id = none := fun id => rfl
  refine ⟨?_, rfl, ?_, ?_, ?_, ?_, ?_, hO, ⟨rfl, rfl, rfl, jn _, fun _ _ _ => rfl⟩, ?_, hB, hI⟩
  ·simp; omega
  ·intro t d hd
   have hOO : OO O ⟨fn.ntmps, Ul pt x 0, []⟩ (fun _ => []) = O := by
    funext b
    simp [OO, hh]
   rw [hOO]
   obtain ⟨j, v, h1, h2, h3⟩ := Cv hargs hd
   refine ⟨v, ?_, h3⟩
   have hj : j < args.length := (List.getElem?_eq_some_iff.1 h2).1
   have : t = j := by omega
   subst this
   rw [Array.getElem?_append_left (by simpa using hj)]
   simpa using h2
  ·intro id blk hb; rw [hh] at hb; simp at hb
  ·intro id blk hb; rw [hh] at hb; simp at hb
  ·intro id id' blk blk' _ hb; rw [hh] at hb; simp at hb
  ·intro id blk hb; rw [hh] at hb; simp at hb
  ·intro id v hv; simp [SB] at hv
 refine SE (A := SB I) hG (fun _ _ h => h) hm c hL he hc ?_
 intro e s σ φ a w' hk h
 have Re : (match Vl G s fn.results.toList with
  | some d => match Yc s rt fr d with
   | some (r, l) => bif Vc l then some r else none
   | none => none
  | none => none) = some r → a.defers = [] ∧ ∃ v, (results fn a.tmps).run P w' = .ok v w' ∧ Ni (fun v w' => ∃ vs Fr, v = Dm vs ∧ Mk w w' (fun _ => False) ∧ Ab w' (fun b => O b ∨ b ∈ Fr) rt r fr vs Fr ∧ Fr.Nodup ∧ ∀ b ∈ Fr, w.heap.size ≤ b) (.returned v) w' := by
  intro hk
  split at hk
  ·rename_i d hd
   split at hk
   ·rename_i r' l hr
    simp only [Aa] at hk
    obtain ⟨hnd, hk⟩ := hk
    simp only [jc] at hk
    subst hk
    have hnd := Xd hnd
    obtain ⟨vs, hvs, hru⟩ := Jq hG.toEnvTy h hd
    obtain ⟨hR, hlive⟩ := Mw h hr hru
    refine ⟨h.df, _, Rv hvs, vs, Ba φ l, rfl, ⟨h.fr.size, fun b hb _ => h.fr.block b hb (fun h => h), h.fr.os, h.fr.tape, h.fr.output⟩, hR.mono ?_, Bd h hnd hlive, ?_⟩
    ·rintro b (hb | hb)
     ·exact .inl hb
     ·obtain ⟨j, hj, hm'⟩ := Pa.1 hb
      obtain ⟨blk, hbj⟩ := hlive j hj
      exact .inr ⟨j, blk, hbj, hm'⟩
    ·intro b hb
     obtain ⟨j, hj, hm'⟩ := Pa.1 hb
     obtain ⟨blk, hbj⟩ := hlive j hj
     exact (h.fresh j blk hbj b hm').resolve_right (fun h => h)
   ·simp at hk
  ·simp at hk
 cases e with
 | normal => exact Re hk
 | ret => exact Re hk
 | exit j => simp at hk
end
section
variable {P : Program} {G : Dc} {L : List (Nat × Lb)} {I : Fg}
end
theorem Hf.lt {w : World} : ∀ {pt : Ty} {x : T pt} {args : List Value} {F : List Nat}, Hf w pt x args F → ∀ b, b ∈ F → b < w.heap.size
 | .u, _, [], F, h, b, hb => by simp only [Hf] at h; subst h; simp at hb
 | .p x y, v, a :: r, F, h, b, hb => by
  obtain ⟨cs, F1, F2, _, rfl, ho, h⟩ := h
  rcases jl.1 hb with hb | hb
  ·exact ho.lt b hb
  ·exact Hf.lt h b hb
 | .u, _, _ :: _, _, h, _, _ => by simp [Hf] at h
 | .p _ _, _, [], _, h, _, _ => by simp [Hf] at h
 | .i _, _, l, _, h, _, _ => by simp [Hf] at h
 | .b, _, l, _, h, _, _ => by simp [Hf] at h
 | .o, _, l, _, h, _, _ => by simp [Hf] at h
 | .s, _, l, _, h, _, _ => by simp [Hf] at h
 | .sl _, _, l, _, h, _, _ => by simp [Hf] at h
section
variable {P : Program} {G : Dc} {L : List (Nat × Lb)} {I : Fg}
end
open Go Go.WideShapes
def Dj : (τ : Ty) → T τ → Prop
 | .i k, n => k.has n
 | .b, _ => True
 | .o, _ => True
 | .s, x => ja x ≤ Qd
 | .sl e, xs => ja xs ≤ Qd ∧ ∀ i (h : i < ja xs), Dj e (List.get xs ⟨i, h⟩)
 | .u, _ => True
 | .p x y, v => Dj x v.1 ∧ Dj y v.2
def Ty.pos : Ty → Bool
 | .sl e => e.pos && Nat.blt 0 e.size
 | .p x y => x.pos && y.pos
 | .o => false
 | _ => true
section
variable {H : Type} {enc : TypeId × Value → H} {P : Program} {w : World} {base : Nat} {spare : Nat → Bool} {held : Bool}
theorem Ye {τ : Ty} {t : TypeId} (h : Nb P τ t = true) : P.cellsOf t = τ.size := by
 obtain ⟨i, h1, h2, _⟩ := Tok.size h
 simp [Program.cellsOf, h1, h2]
theorem GD {k : IntKind} {n : Int} (h : (Lit.int k n).wf = true) : k.has n := by
 simpa [Lit.wf, IntKind.has] using h
theorem OE {a : Addr} {n : Nat} (h : n ≠ 0) : a.add n = ⟨a.block, a.off + n, none⟩ := by
 simp [Addr.add, h]
theorem Vn {a : Addr} {n : Nat} {cs : List Value} (h : w.cells? base a n = some cs) (hn : 0 < n) :
 ∃ cur et fr, a = ⟨a.block, a.off, none⟩ ∧ w.heap[a.block]? = some (.cells cur et fr) ∧ a.off + n ≤ cur.size ∧ cs = Gb cur a.off n := by
 unfold World.cells? at h
 split at h
 ·have hlen : cs.length = n := by simpa using mapM_some_length h
  have hget : ∀ i, i < n → w.cell? (a.add i) = cs[i]? := fun i hi => mapM_some_get h i i (by simp [hi])
  have h0 := hget 0 hn
  have ha : a.add 0 = a := by simp [Addr.add]
  rw [ha] at h0
  have hc0 : cs[0]? = some (cs[0]'(by omega)) := je (by omega)
  rw [hc0] at h0
  unfold World.cell? at h0
  split at h0
  ·rename_i cur et fr hb
   have hsp : a.spot = none := by
    cases hs : a.spot with
    | none => rfl
    | some x => simp [hs] at h0
   have hcell : ∀ i, i < n → cur[a.off + i]? = cs[i]? := by
    intro i hi
    have := hget i hi
    by_cases hi0 : i = 0
    ·subst hi0
     rw [ha] at this
     unfold World.cell? at this
     rw [hb] at this
     simpa [hsp] using this
    ·rw [OE hi0] at this
     unfold World.cell? at this
     simp only at this
     rw [hb] at this
     simpa using this
   refine ⟨cur, et, fr, by cases a; simp_all, hb, ?_, ?_⟩
   ·have h1 := hcell (n - 1) (by omega)
    rw [je (by omega)] at h1
    have := (Array.getElem?_eq_some_iff.1 h1).1
    omega
   ·apply List.ext_getElem?
    intro i
    by_cases hi : i < n
    ·rw [Tb _ _ _ _ hi, hcell i hi]
    ·rw [List.getElem?_eq_none (by omega), List.getElem?_eq_none]
     simp [Gb]; omega
  ·simp at h0
 ·simp at h
theorem BD {fs : List Field} {o : Nat} (h : Kc P .u fs o = true) : fs = [] := by
 cases fs <;> simp_all [Kc]
theorem Ou {x y : Ty} {fs : List Field} {o : Nat} (h : Kc P (.p x y) fs o = true) : ∃ f r, fs = f :: r ∧ f.offset = o ∧ Nb P x f.type = true ∧ Kc P y r (o + x.size) = true := by
 cases fs with
 | nil => simp [Kc] at h
 | cons f r =>
  simp only [Kc, jd] at h
  exact ⟨f, r, rfl, jt h.1.1.1, h.1.2, h.2⟩
theorem Zt {x y : Ty} {t : TypeId} (h : Nb P (.p x y) t = true) : ∃ fs, P.underlying t = some (.struct fs) ∧ Kc P (.p x y) fs.toList 0 = true := by
 simp only [Nb, jd] at h
 obtain ⟨_, h⟩ := h
 split at h
 ·rename_i fs hfs
  refine ⟨fs, hfs, ?_⟩
  split at h
  ·rename_i f r hr
   rw [hr]
   simpa [Kc] using h
  ·simp at h
 ·simp at h
theorem Au {t : TypeId} (h : Nb P .u t = true) : ∃ fs, P.underlying t = some (.struct fs) ∧ fs.size = 0 := by
 simp only [Nb, jd] at h
 obtain ⟨_, h⟩ := h
 split at h
 ·rename_i fs hfs
  exact ⟨fs, hfs, jt h⟩
 ·simp at h
mutual
theorem Ro (hO : ∀ b, ¬ (fun _ : Nat => False) b) : ∀ (τ : Ty) (t : TypeId) (n : Nat) (cs : List Value) (x : DataW H × List MemPlace), Nb P τ t = true → τ.pos = true →
 DataW.trod enc P w base spare held n t cs = some x → ∃ y : T τ, Ia w (fun _ => False) τ y cs ∧ Dj τ y
 | .i k, t, n, cs, x, ht, _, h => by
  obtain ⟨m, h1, _, h2⟩ := DataW.trod_int (Tok.i ht) h
  exact ⟨m, h1, GD h2⟩
 | .b, t, n, cs, x, ht, _, h => by
  obtain ⟨m, h1, _⟩ := DataW.trod_bool (Tok.b ht) h
  exact ⟨m, h1, trivial⟩
 | .o, t, n, cs, x, ht, hp, h => by simp [Ty.pos] at hp
 | .s, t, n, cs, x, ht, _, h => by
  obtain ⟨m, h1, _, h2⟩ := DataW.trod_string (Tok.s ht) h
  refine ⟨m.data.toList, ?_, ?_⟩
  ·show cs = [.string ⟨List.toArray m.data.toList⟩]
   rw [h1]
  ·show m.data.toList.length ≤ Qd
   have : m.size = m.data.toList.length := Array.length_toList.symm
   unfold maxLen at h2
   unfold Qd
   omega
 | .sl e, t, n, cs, x, ht, hp, h => by
  obtain ⟨et, hu, he⟩ := Tok.sl ht
  simp only [Ty.pos, jd] at hp
  have hpos : 0 < e.size := by simpa using hp.2
  rcases DataW.trod_slice hu h with ⟨h1, _⟩ | ⟨a, len, cap, elems, rest, m, _, h1, _, _, h2, h3, h4, h5, _, _⟩
  ·exact ⟨([] : List (T e)), ⟨none, 0, h1, jn _, Nat.zero_le _, .inl rfl⟩, ⟨Nat.zero_le _, fun i hi => absurd hi (Nat.not_lt_zero i)⟩⟩
  ·rw [Ye he] at h5
   have hone : ∀ i, i < len → ∃ y : T e, ∃ cs', w.cells? base (a.add (i * e.size)) e.size = some cs' ∧ Ia w (fun _ => False) e y cs' ∧ Dj e y := by
    intro i hi
    have := h5 i hi
    rw [je (by omega), qa] at this
    obtain ⟨cs', hc, hy⟩ := this
    obtain ⟨y, hv, hr⟩ := Ro hO e et m cs' _ he hp.1 hy
    exact ⟨y, cs', hc, hv, hr⟩
   let ys : List (T e) := List.ofFn fun i : Fin len => Classical.choose (hone i.1 i.2)
   have hlen : ys.length = len := by simp [ys]
   have hy : ∀ i (h : i < ys.length), ∃ cs', w.cells? base (a.add (i * e.size)) e.size = some cs' ∧ Ia w (fun _ => False) e (ys.get ⟨i, h⟩) cs' ∧ Dj e (ys.get ⟨i, h⟩) := by
    intro i hi
    have := Classical.choose_spec (hone i (by omega))
    simpa [ys] using this
   have hmax : len ≤ Qd := by unfold maxLen at h3; unfold Qd; omega
   refine ⟨ys, ⟨some a, cap, by rw [h1, hlen], by rw [hlen]; exact h2, by rw [hlen]; exact hmax, ?_⟩, by rw [hlen]; exact hmax, fun i hi => (hy i hi).choose_spec.2.2⟩
   by_cases hl0 : len = 0
   ·left
    exact List.eq_nil_of_length_eq_zero (by omega)
   ·right
    obtain ⟨cs0, hc0, _⟩ := hy 0 (by omega)
    have ha0 : a.add (0 * e.size) = a := by simp [Addr.add]
    rw [ha0] at hc0
    obtain ⟨cur, et', fr, ha, hb, _, _⟩ := Vn hc0 hpos
    have hadd : ∀ i, (a.add (i * e.size)).block = a.block ∧ (a.add (i * e.size)).off = a.off + i * e.size := by
     intro i
     unfold Addr.add
     split
     ·rename_i hz; simp [hz]
     ·exact ⟨rfl, rfl⟩
    refine ⟨a.block, a.off, cur, et', fr, by rw [← ha], fun h => h, hb, ?_, ?_⟩
    ·obtain ⟨cs1, hc1, _⟩ := hy (len - 1) (by omega)
     obtain ⟨cur1, et1, fr1, _, hb1, hs1, _⟩ := Vn hc1 hpos
     rw [(hadd _).1, hb] at hb1
     simp only [jc, Obj.cells.injEq] at hb1
     rw [(hadd _).2, ← hb1.1] at hs1
     have : len * e.size = (len - 1) * e.size + e.size := by
      rw [← Nat.succ_mul]; congr 1; omega
     show a.off + ys.length * e.size ≤ cur.size
     rw [hlen]
     omega
    ·intro i hi
     obtain ⟨cs1, hc1, hv, _⟩ := hy i hi
     obtain ⟨cur1, et1, fr1, _, hb1, _, hs1⟩ := Vn hc1 hpos
     rw [(hadd _).1, hb] at hb1
     simp only [jc, Obj.cells.injEq] at hb1
     rw [(hadd _).2, ← hb1.1] at hs1
     rw [← hs1]
     exact hv
 | .u, t, n, cs, x, ht, _, h => by
  obtain ⟨fs, hu, hz⟩ := Au ht
  obtain ⟨xs, m, _, _, hl, _⟩ := DataW.trod_struct hu h
  rw [Ye ht] at hl
  exact ⟨(), List.eq_nil_of_length_eq_zero hl, trivial⟩
 | .p a c2, t, n, cs, x, ht, hp, h => by
  obtain ⟨fs, hu, hf⟩ := Zt ht
  obtain ⟨xs, m, _, _, hl, _, hget⟩ := DataW.trod_struct hu h
  rw [Ye ht] at hl
  have := Jp hO (.p a c2) fs.toList 0 m cs hf hp (by simpa using hl) (by
   intro i f hi
   have := hget i f (by simpa using hi)
   have hlt : i < xs.length := by
    have : i < fs.toList.length := (List.getElem?_eq_some_iff.1 hi).1
    simp at this; omega
   exact ⟨_, this.trans (je hlt)⟩)
  simpa using this
termination_by τ => (sizeOf τ, 1)
theorem Jp (hO : ∀ b, ¬ (fun _ : Nat => False) b) : ∀ (τ : Ty) (fs : List Field) (o m : Nat) (cs : List Value), Kc P τ fs o = true → τ.pos = true → cs.length = o + τ.size →
 (∀ (i : Nat) (f : Field), fs[i]? = some f → ∃ x, DataW.trod enc P w base spare held m f.type ((cs.drop f.offset).take (P.cellsOf f.type)) = some x) →
 ∃ y : T τ, Ia w (fun _ => False) τ y (cs.drop o) ∧ Dj τ y
 | .p a c2, fs, o, m, cs, hf, hp, hl, hx => by
  obtain ⟨f, r, rfl, ho, ht, hr⟩ := Ou hf
  simp only [Ty.pos, jd] at hp
  simp only [Ty.size] at hl
  obtain ⟨z, hz⟩ := hx 0 f rfl
  rw [Ye ht, ho] at hz
  obtain ⟨y1, hv1, hr1⟩ := Ro hO a f.type m _ z ht hp.1 hz
  obtain ⟨y2, hv2, hr2⟩ := Jp hO c2 r (o + a.size) m cs hr hp.2 (by omega) (fun i f' hi => hx (i + 1) f' (by simpa using hi))
  refine ⟨(y1, y2), ⟨(cs.drop o).take a.size, cs.drop (o + a.size), ?_, hv1, hv2⟩, hr1, hr2⟩
  rw [← List.drop_drop, List.take_append_drop]
 | .u, fs, o, m, cs, _, _, hl, _ => ⟨(), by simp only [Ia, Ty.size] at hl ⊢; exact List.drop_of_length_le (by omega), trivial⟩
 | .i _, fs, o, m, cs, hf, _, _, _ => by simp [Kc] at hf
 | .b, fs, o, m, cs, hf, _, _, _ => by simp [Kc] at hf
 | .o, fs, o, m, cs, hf, _, _, _ => by simp [Kc] at hf
 | .s, fs, o, m, cs, hf, _, _, _ => by simp [Kc] at hf
 | .sl _, fs, o, m, cs, hf, _, _, _ => by simp [Kc] at hf
termination_by τ => (sizeOf τ, 0)
end
end
open Go Go.WideShapes Go.ChangeShapes
def Ge (P : Program) : Ty → List TypeId → Bool
 | .p x y, t :: ts => Nb P x t && x.pos && Ge P y ts
 | .u, [] => true
 | _, _ => false
section
variable {H : Type} {enc : TypeId × Value → H} {P : Program} {w : World} {base : Nat} {spare : Nat → Bool} {held : Bool}
theorem Py {τ : Ty} {t : TypeId} {v : Value} {r : Reach} {b0 : Nat} (ht : Nb P τ t = true) (h : Value.okWide P w r b0 t v) : v = Kb τ v.cells.toList := by
 have key : ∀ {τ : Ty}, τ.isAgg = false → v.cells = #[v] → v = Kb τ v.cells.toList := by
  intro τ h1 h2
  rw [h2]; simp [Kb, h1]
 cases τ with
 | i k =>
  obtain ⟨n, rfl⟩ := okWide_int (Tok.i ht) h
  exact key rfl rfl
 | b =>
  obtain ⟨n, rfl⟩ := okWide_bool (Tok.b ht) h
  exact key rfl rfl
 | o =>
  refine key rfl ?_
  obtain ⟨et, hu⟩ := Tok.o ht
  unfold Value.okWide at h
  rw [hu] at h
  cases v with
  | agg cs => simp [Cell.okWide, Cell.ok, hu] at h
  | _ => rfl
 | s =>
  refine key rfl ?_
  have hu := Tok.s ht
  unfold Value.okWide at h
  rw [hu] at h
  cases v with
  | agg cs => simp [Cell.okWide, Cell.ok, hu] at h
  | _ => rfl
 | sl e =>
  refine key rfl ?_
  obtain ⟨et, hu, _⟩ := Tok.sl ht
  unfold Value.okWide at h
  rw [hu] at h
  cases v with
  | agg cs => simp [Cell.okWide, Cell.ok, hu] at h
  | _ => rfl
 | u =>
  obtain ⟨fs, hu, _⟩ := Au ht
  obtain ⟨cs, rfl, _⟩ := okWide_struct hu h
  simp [Kb, Ty.isAgg, Value.cells]
 | p x y =>
  obtain ⟨fs, hu, _⟩ := Zt ht
  obtain ⟨cs, rfl, _⟩ := okWide_struct hu h
  simp [Kb, Ty.isAgg, Value.cells]
theorem Qo : ∀ {pt : Ty} {ts : List TypeId} {vs : List Value} {ds : List (DataW H)} {ps : List MemPlace}, Ge P pt ts = true → DataW.TrodAll enc P w 0 spare held ts vs ds ps →
 (∀ (j : Nat) t v, ts[j]? = some t → vs[j]? = some v → Value.okWide P w .any base t v) → ∃ x : T pt, Sc w (fun _ => False) pt x vs ∧ Dj pt x
 | .p x y, t :: ts, v :: vs, d :: ds, ps, hp, h, hv => by
  simp only [Ge, jd] at hp
  obtain ⟨p, q, ⟨n, h1⟩, h2, _⟩ := h
  obtain ⟨a, ha, hra⟩ := Ro (fun _ h => h) x t n _ _ hp.1.1 hp.1.2 h1
  obtain ⟨b, hb, hrb⟩ := Qo hp.2 h2 fun j t' v' h1 h2 => hv (j + 1) t' v' (by simpa using h1) (by simpa using h2)
  exact ⟨(a, b), ⟨⟨_, Py hp.1.1 (hv 0 t v rfl rfl), ha⟩, hb⟩, hra, hrb⟩
 | .u, [], [], [], _, _, _, _ => ⟨(), trivial, trivial⟩
 | .p _ _, [], _, _, _, hp, _, _ => by simp [Ge] at hp
 | .u, _ :: _, _, _, _, hp, _, _ => by simp [Ge] at hp
 | .i _, _, _, _, _, hp, _, _ => by simp [Ge] at hp
 | .b, _, _, _, _, hp, _, _ => by simp [Ge] at hp
 | .o, _, _, _, _, hp, _, _ => by simp [Ge] at hp
 | .s, _, _, _, _, hp, _, _ => by simp [Ge] at hp
 | .sl _, _, _, _, _, hp, _, _ => by simp [Ge] at hp
 | .p _ _, _ :: _, [], _, _, _, h, _ => by simp [DataW.TrodAll] at h
 | .p _ _, _ :: _, _ :: _, [], _, _, h, _ => by simp [DataW.TrodAll] at h
 | .u, [], _ :: _, _, _, _, h, _ => by simp [DataW.TrodAll] at h
 | .u, [], [], _ :: _, _, _, h, _ => by simp [DataW.TrodAll] at h
def To (P : Program) (t : TypeId) : Prop := ∃ τ : Ty, Nb P τ t = true ∧ τ.pos = true
theorem Pu : ∀ {τ : Ty} {fs : List Field} {o : Nat}, Kc P τ fs o = true → τ.pos = true →
 (∀ f ∈ fs, To P f.type) ∧ τ.size = (fs.map fun f => P.cellsOf f.type).sum ∧ ∀ (j : Nat) f, fs[j]? = some f → f.offset = o + ((fs.take j).map fun f => P.cellsOf f.type).sum
 | .u, fs, o, h, _ => by
  rw [BD h]
  simp [Ty.size]
 | .p x y, fs, o, h, hp => by
  obtain ⟨f, r, rfl, ho, ht, hr⟩ := Ou h
  simp only [Ty.pos, jd] at hp
  obtain ⟨h1, h2, h3⟩ := Pu hr hp.2
  refine ⟨?_, ?_, ?_⟩
  ·intro g hg
   rcases jo.1 hg with rfl | hg
   ·exact ⟨x, ht, hp.1⟩
   ·exact h1 g hg
  ·simp [Ty.size, Ye ht, h2]
  ·intro j g hj
   cases j with
   | zero => simp at hj; subst hj; simp [ho]
   | succ j =>
    have := h3 j g (by simpa using hj)
    simp [this, Ye ht, js]
 | .i _, fs, o, h, _ => by simp [Kc] at h
 | .b, fs, o, h, _ => by simp [Kc] at h
 | .o, fs, o, h, _ => by simp [Kc] at h
 | .s, fs, o, h, _ => by simp [Kc] at h
 | .sl _, fs, o, h, _ => by simp [Kc] at h
theorem Hk {t : TypeId} {u : TypeDesc} (h : To P t) (hu : P.underlying t = some u) : (∃ k, u = .int k) ∨ u = .bool ∨ u = .string ∨ (∃ e, u = .slice e ∧ To P e ∧ 0 < P.cellsOf e) ∨ ∃ fs, u = .struct fs := by
 obtain ⟨τ, ht, hp⟩ := h
 cases τ with
 | i k => rw [Tok.i ht] at hu; exact .inl ⟨k, (Option.some.inj hu).symm⟩
 | b => rw [Tok.b ht] at hu; exact .inr (.inl (Option.some.inj hu).symm)
 | o => simp [Ty.pos] at hp
 | s => rw [Tok.s ht] at hu; exact .inr (.inr (.inl (Option.some.inj hu).symm))
 | sl e =>
  obtain ⟨et, h1, h2⟩ := Tok.sl ht
  rw [h1] at hu
  simp only [Ty.pos, jd] at hp
  exact .inr (.inr (.inr (.inl ⟨et, (Option.some.inj hu).symm, ⟨e, h2, hp.1⟩, by rw [Ye h2]; simpa using hp.2⟩)))
 | u => obtain ⟨fs, h1, _⟩ := Au ht; rw [h1] at hu; exact .inr (.inr (.inr (.inr ⟨fs, (Option.some.inj hu).symm⟩)))
 | p x y => obtain ⟨fs, h1, _⟩ := Zt ht; rw [h1] at hu; exact .inr (.inr (.inr (.inr ⟨fs, (Option.some.inj hu).symm⟩)))
theorem Ox : Kids P (To P) := by
 refine ⟨?_, ?_, ?_, ?_, ?_⟩
 ·intro t e ht hu
  rcases Hk ht hu with ⟨k, h⟩ | h | h | ⟨e', h, _⟩ | ⟨fs, h⟩ <;> simp at h
 ·intro t e ht hu
  rcases Hk ht hu with ⟨k, h⟩ | h | h | ⟨e', h, h2, _⟩ | ⟨fs, h⟩ <;> simp at h
  rw [h]; exact h2
 ·intro t e n ht hu
  rcases Hk ht hu with ⟨k, h⟩ | h | h | ⟨e', h, _⟩ | ⟨fs, h⟩ <;> simp at h
 ·intro t fs ht hu
  obtain ⟨τ, ht, hp⟩ := ht
  cases τ with
  | i k => rw [Tok.i ht] at hu; simp at hu
  | b => rw [Tok.b ht] at hu; simp at hu
  | o => simp [Ty.pos] at hp
  | s => rw [Tok.s ht] at hu; simp at hu
  | sl e => obtain ⟨et, h1, _⟩ := Tok.sl ht; rw [h1] at hu; simp at hu
  | u =>
   obtain ⟨fs', h1, h2⟩ := Au ht
   rw [h1] at hu
   simp only [jc, TypeDesc.struct.injEq] at hu
   subst hu
   have : fs'.toList = [] := by simpa using h2
   rw [Ye ht, this]
   simp [Ty.size]
  | p x y =>
   obtain ⟨fs', h1, h2⟩ := Zt ht
   rw [h1] at hu
   simp only [jc, TypeDesc.struct.injEq] at hu
   subst hu
   obtain ⟨a, b, c⟩ := Pu h2 hp
   exact ⟨a, by rw [Ye ht, b], fun j f hj => by simpa using c j f hj⟩
 ·intro t k e ht hu
  rcases Hk ht hu with ⟨k, h⟩ | h | h | ⟨e', h, _⟩ | ⟨fs, h⟩ <;> simp at h
theorem Np : ∀ {pt : Ty} {ts : List TypeId}, Ge P pt ts = true → ∀ t ∈ ts, To P t
 | .p x y, t :: ts, h, t', ht => by
  simp only [Ge, jd] at h
  rcases jo.1 ht with rfl | ht
  ·exact ⟨x, h.1.1, h.1.2⟩
  ·exact Np h.2 t' ht
 | .u, [], _, _, ht => by simp at ht
 | .p _ _, [], _, _, ht => by simp at ht
 | .u, _ :: _, h, _, _ => by simp [Ge] at h
 | .i _, _, h, _, _ => by simp [Ge] at h
 | .b, _, h, _, _ => by simp [Ge] at h
 | .o, _, h, _, _ => by simp [Ge] at h
 | .s, _, h, _, _ => by simp [Ge] at h
 | .sl _, _, h, _, _ => by simp [Ge] at h
theorem Pn {w' : World} {sp' : Nat → Bool} : ∀ {ts : List TypeId} {vs : List Value} {ds : List (DataW H)} {ps : List MemPlace}, (∀ t ∈ ts, To P t) →
 DataW.TrodAll enc P w 0 (fun _ => true) true ts vs ds ps → (∀ p ∈ ps, w.sameAt w' p) → (∀ p ∈ ps, sp' p.block = true) → DataW.TrodAll enc P w' 0 sp' true ts vs ds ps
 | [], [], [], _, _, h, _, _ => h
 | t :: ts, v :: vs, d :: ds, ps, hp, h, h1, h2 => by
  obtain ⟨p, q, ⟨n, ha⟩, hb, rfl⟩ := h
  refine ⟨p, q, ⟨n, DataW.trod_stays Ox ?_ (fun h => by simp at h) (hp t (by simp)) ha (fun z hz => h1 z (List.mem_append_left _ hz)) (fun z hz => h2 z (List.mem_append_left _ hz))⟩,
   Pn (fun t ht => hp t (by simp [ht])) hb (fun z hz => h1 z (List.mem_append_right _ hz)) (fun z hz => h2 z (List.mem_append_right _ hz)), rfl⟩
  intro t e ht hu
  rcases Hk ht hu with ⟨k, h⟩ | h | h | ⟨e', h, _, h2⟩ | ⟨fs, h⟩ <;> simp at h
  rw [h]; exact h2
 | [], _ :: _, _, _, _, h, _, _ => by simp [DataW.TrodAll] at h
 | [], [], _ :: _, _, _, h, _, _ => by simp [DataW.TrodAll] at h
 | _ :: _, [], _, _, _, h, _, _ => by simp [DataW.TrodAll] at h
 | _ :: _, _ :: _, [], _, _, h, _, _ => by simp [DataW.TrodAll] at h
theorem Qp : ∀ {ts : List TypeId} {vs : List Value} {ds : List (DataW H)} {ps : List MemPlace}, DataW.TrodAll enc P w base spare held ts vs ds ps → ds.length = ts.length
 | [], [], [], _, _ => rfl
 | _ :: _, _ :: _, _ :: _, _, h => by
  obtain ⟨_, _, _, h, _⟩ := h
  simp [Qp h]
 | [], _ :: _, _, _, h => by simp [DataW.TrodAll] at h
 | [], [], _ :: _, _, h => by simp [DataW.TrodAll] at h
 | _ :: _, [], _, _, h => by simp [DataW.TrodAll] at h
 | _ :: _, _ :: _, [], _, h => by simp [DataW.TrodAll] at h
theorem Mk.but {w w' : World} (h : Mk w w' fun _ => False) (may : MemPlace → Prop) : w.keptBut w' may := by
 refine ⟨h.os, h.output, fun i hi => ?_⟩
 rw [h.block i hi (fun h => h)]
 cases w.heap[i]? with
 | none => rfl
 | some o =>
  cases o with
  | cells c t fr => exact ⟨rfl, rfl, rfl, fun _ _ => rfl⟩
  | map es clock => exact .inr ⟨rfl, rfl⟩
  | _ => rfl
end
noncomputable def Zb {X R : Type} (step : X → Option (X ⊕ R)) (x : X) : Option R :=
 open Classical in if h : ∃ m y, Lk step m x y then some h.choose_spec.choose else none
theorem Lk.det {X R : Type} {step : X → Option (X ⊕ R)} : ∀ {m n : Nat} {x : X} {y z : R}, Lk step m x y → Lk step n x z → y = z
 | 0, _, _, _, _, h, _ => h.elim
 | _ + 1, 0, _, _, _, _, h => h.elim
 | m + 1, n + 1, x, y, z, h, h' => by
  rcases h with h | ⟨x1, h, h1⟩ <;> rcases h' with h' | ⟨x2, h', h2⟩
  ·rw [h] at h'; simpa using h'
  ·rw [h] at h'; simp at h'
  ·rw [h] at h'; simp at h'
  ·rw [h] at h'
   simp only [jc, Sum.inl.injEq] at h'
   subst h'
   exact Lk.det h1 h2
theorem Ql {X R : Type} {step : X → Option (X ⊕ R)} {x : X} {y : R} : Zb step x = some y ↔ ∃ m, Lk step m x y := by
 unfold Zb
 constructor
 ·intro h
  split at h
  ·rename_i hh
   simp only [jc] at h
   exact ⟨_, h ▸ hh.choose_spec.choose_spec⟩
  ·simp at h
 ·rintro ⟨m, h⟩
  have hh : ∃ m y, Lk step m x y := ⟨m, y, h⟩
  rw [dif_pos hh]
  exact congrArg some (Lk.det hh.choose_spec.choose_spec h)
theorem Qx {X R : Type} {step : X → Option (X ⊕ R)} (x : X) : Zb step x = (step x).bind (Sum.elim (Zb step) some) := by
 apply Option.ext
 intro y
 rw [Ql]
 constructor
 ·rintro ⟨m, h⟩
  cases m with
  | zero => exact h.elim
  | succ m =>
   rcases h with h | ⟨x', h, h'⟩
   ·simp [h]
   ·simp [h, Ql.2 ⟨m, h'⟩]
 ·intro h
  rw [qa] at h
  obtain ⟨z, hz, h⟩ := h
  cases z with
  | inl x' =>
   obtain ⟨m, hm⟩ := Ql.1 h
   exact ⟨m + 1, .inr ⟨x', hz, hm⟩⟩
  | inr z =>
   simp only [Sum.elim_inr, jc] at h
   subst h
   exact ⟨1, .inl hz⟩
def lp (fn : Func) (i : Nat) : Code := (Lc (fn.body.getD .skip)).getD i .skip
theorem Zz {G : Dc} {L : List (Nat × Lb)} {fn : Func} {i r : Nat} {ls : Lb} {R : ls.inT.X → Option (ls.inT.X ⊕ (ls.outT.X ⊕ ls.retT.X))}
 (h1 : Sd (lp fn i) = some r) (h2 : (La L r) = some ls) (h3 : ls.F = Zb R) (h4 : ∀ x, Wl G L ls (lp fn i) x = R x) : Qc G L (lp fn i) := by
 intro r' ls' hr hl x y hy
 rw [h1] at hr
 simp only [jc] at hr
 subst hr
 rw [h2] at hl
 simp only [jc] at hl
 subst hl
 rw [h3] at hy
 obtain ⟨m, hm⟩ := Ql.1 hy
 have : Wl G L ls (lp fn i) = R := funext h4
 rw [this]
 exact ⟨m, hm⟩
theorem AA {G : Dc} {L : List (Nat × Lb)} {fn : Func} {k : Nat} (hk : Nat.beq (Lc (fn.body.getD .skip)).length k = true) (h : ∀ i, i < k → Qc G L (lp fn i)) :
 ∀ b, b ∈ Lc (fn.body.getD .skip) → Qc G L b := by
 intro b hb
 obtain ⟨i, hi, rfl⟩ := List.mem_iff_getElem.1 hb
 have := h i (by rw [← jt hk]; exact hi)
 unfold lp at this
 rwa [qd, je hi] at this
theorem Ec {p : Nat → Prop} : ∀ i, i < 0 → p i := fun i h => absurd h (Nat.not_lt_zero i)
theorem Ic {p : Nat → Prop} {k : Nat} (h : p k) (hr : ∀ i, i < k → p i) : ∀ i, i < k + 1 → p i := by
 intro i hi
 rcases Nat.lt_or_eq_of_le (Nat.lt_succ_iff.1 hi) with hi | rfl
 ·exact hr i hi
 ·exact h
section
variable {P : Program}
theorem LB {l : List (Nat × Ty)} {fs : List (Nat × Ob)} {m : List (Nat × Nat)} {z : Bool} {ar : List (Nat × Ty × Nat)} {mv ml : List Nat}
 (h : ((l.all fun x => Nb P x.2 x.1) && (ar.all fun x => Zr P x.1 x.2.1 x.2.2)) = true) : EnvTy P ⟨l, fs, m, z, ar, mv, ml⟩ := by
 simp only [jd] at h
 exact ⟨fun t τ ht => List.all_eq_true.1 h.1 (t, τ) (Vg ht), fun t e n ht => List.all_eq_true.1 h.2 (t, e, n) (Vg ht)⟩
theorem Uy {I : Fg} {l : List (Nat × Ty)} {m : List (Nat × Nat)} {z : Bool} {ar : List (Nat × Ty × Nat)} {mv ml : List Nat}
 (h : ((l.all fun x => Nb P x.2 x.1) && (ar.all fun x => Zr P x.1 x.2.1 x.2.2)) = true) : Ng P I ⟨l, [], m, z, ar, mv, ml⟩ :=
 { toEnvTy := LB h, fn := fun f sem h => by simp [La] at h }
theorem Ng.cons {I : Fg} {l : List (Nat × Ty)} {fs : List (Nat × Ob)} {m : List (Nat × Nat)} {z : Bool} {ar : List (Nat × Ty × Nat)} {mv ml : List Nat} {f : Nat} {sem : Ob} (hs : Ri P I f sem)
 (h : Ng P I ⟨l, fs, m, z, ar, mv, ml⟩) : Ng P I ⟨l, (f, sem) :: fs, m, z, ar, mv, ml⟩ :=
 { toEnvTy := ⟨h.ty, h.ar⟩, fn := fun g s hg => by
    simp only [Bb] at hg
    split at hg
    ·rename_i e
     simp only [jc] at hg
     subst e; subst hg
     exact hs
    ·exact h.fn g s hg }
theorem Ny {fn : Func} (h : fn.body.isSome = true) : fn.body = some (fn.body.getD .skip) := by
 cases hb : fn.body with
 | none => rw [hb] at h; simp at h
 | some c => rfl
variable {I : Fg} {G : Dc} {L : List (Nat × Lb)}
theorem Gt (hG : Ng P I G) (hm : P.follows .mixedOrders = true) {f : FuncId} {fn : Func} {k : Nat} {pt rt : Ty} {fr : List Bool} {F : T pt → Option (T rt)} (hf : P.funcs[f]? = some fn)
 (hb : (fn.body.isSome && !(fn.name == "runtime.NumGoroutine") && jv pt.npar fn.ntmps && Nat.beq (Lc (fn.body.getD .skip)).length k) = true)
 (hL : ∀ i, i < k → Qc G L (lp fn i)) (hF : ∀ x, Xy G L fn pt rt fr x = F x) : Ri P I f (.pu pt rt fr F) := by
 simp only [jd, Bool.not_eq_true'] at hb
 exact LC hG hm hf (Ny hb.1.1.1) hb.1.1.2 (AA hb.2 hL) (Nat.le_of_ble_eq_true hb.1.2) fun x r h => (hF x).trans h
end
def hd (h : T .o) : Value := .slice h.1 h.2.1 h.2.2
section
variable {P : Program} {w w' : World}
end
open Classical in
def FA (n : Nat) : Bool := jv n 1048576
noncomputable def Hv (x y : List UInt8) : Option (List (List UInt8) × Unit) :=
 bif FA (ja x) && jv 1 (ja y) then some (Lib.split x y, ()) else none
noncomputable def Yt (x : List (List UInt8)) (y : List UInt8) : Option (List UInt8 × Unit) :=
 bif jv (ja x) 1073741824 && jv (ja (Lib.join x y)) 1073741824 then some (Lib.join x y, ()) else none
noncomputable def Xt (n : Int) : Option (List UInt8 × Unit) := bif decide (-9223372036854775808 ≤ n) && decide (n ≤ 9223372036854775807) then some (Lib.itoa n, ()) else none
theorem QD {cur : Array Value} {k : Nat} {v : Value} (h : Gb cur k 1 = [v]) : cur[k]? = some v := by
 have := congrArg (·[0]?) h
 simp only [Tb cur k 1 0 (by omega)] at this
 simpa using this
theorem HD {cur : Array Value} {k : Nat} {v : Value} (h : cur[k]? = some v) : Gb cur k 1 = [v] := by
 apply List.ext_getElem?
 intro j
 by_cases hj : j = 0
 ·subst hj; rw [Tb cur k 1 0 (by omega)]; simpa using h
 ·have hk : k < cur.size := (Array.getElem?_eq_some_iff.1 h).1
  have hl : (Gb cur k 1).length = 1 := Eb (by omega)
  rw [List.getElem?_eq_none (by omega), List.getElem?_eq_none (by simp; omega)]
theorem Tm (w : World) (o : Obj) : (w.alloc o).heap = w.heap.push o := rfl
theorem Uv {P : Program} {ρ : Go.Shelf.Ren} {f : FuncId} {I : Fg} (L : Go.Proofs.LaysM.n146 P ρ) (hf : ρ.f 146 = f)
 (hI : ∀ w, I.p w → ∃ m, w.cell? ⟨ρ.g 1, 0, none⟩ = some (.int .i64 m)) : Ri P I f (.pu (.p .s (.p .s .u)) (.p (.sl .s) .u) [true] (fun x => Hv x.1 x.2.1)) := by
 subst hf
 refine ⟨⟨_, L.f146, rfl, rfl⟩, ?_⟩
 intro O w x r args hF hA hO hi hb
 match args, hA with
 | [a, b], hA =>
  obtain ⟨⟨ca, rfl, hca⟩, ⟨cb, rfl, hcb⟩, _⟩ := hA
  have hca' : ca = [.string ⟨List.toArray x.1⟩] := hca
  have hcb' : cb = [.string ⟨List.toArray x.2.1⟩] := hcb
  subst hca'; subst hcb'
  simp only [Hv, FA] at hF
  cases h1 : jv (ja x.1) 1048576 with
  | false => rw [h1] at hF; simp at hF
  | true =>
  cases h2 : jv 1 (ja x.2.1) with
  | false => rw [h1, h2] at hF; simp at hF
  | true =>
  rw [h1, h2] at hF
  simp only [Bool.and_true, cond_true, jc] at hF
  subst hF
  have h1' := Nat.le_of_ble_eq_true h1
  have h2' := Nat.le_of_ble_eq_true h2
  obtain ⟨m, hm⟩ := hI w hi
  have hs1 : (⟨List.toArray x.1⟩ : ByteArray).size = ja x.1 := by show (List.toArray x.1).size = _; simp
  have hs2 : (⟨List.toArray x.2.1⟩ : ByteArray).size = ja x.2.1 := by show (List.toArray x.2.1).size = _; simp
  have hd : (Lib.splitB ⟨List.toArray x.2.1⟩ 0 (Lib.countB ⟨List.toArray x.1⟩ ⟨List.toArray x.2.1⟩) ⟨List.toArray x.1⟩).map (fun z => z.data.toList) = Lib.split x.1 x.2.1 := by
   rw [Lib.splitB_data]; rfl
  have hlen := Lib.splitB_all ⟨List.toArray x.2.1⟩ (by omega) 0 _ ⟨List.toArray x.1⟩ rfl
  have hle := Lib.countB_le ⟨List.toArray x.2.1⟩ (by omega) _ ⟨List.toArray x.1⟩ (jn _)
  obtain ⟨zs, hz⟩ : ∃ zs, Lib.splitB ⟨List.toArray x.2.1⟩ 0 (Lib.countB ⟨List.toArray x.1⟩ ⟨List.toArray x.2.1⟩) ⟨List.toArray x.1⟩ = zs := ⟨_, rfl⟩
  rw [hz] at hlen hd
  obtain ⟨n, hcn⟩ : ∃ n, Lib.countB ⟨List.toArray x.1⟩ ⟨List.toArray x.2.1⟩ = n := ⟨_, rfl⟩
  rw [hcn] at hlen hle
  have hn : (Lib.split x.1 x.2.1).length = n + 1 := by rw [← hd, List.length_map, hlen]
  refine (Go.Proofs.Any.strings_Split { L with } L.i9 ⟨List.toArray x.1⟩ ⟨List.toArray x.2.1⟩ m w (by omega) hm (by omega)).mono ?_
  rintro e w' ⟨rfl, rfl⟩
  rw [hz]
  refine ⟨[.slice (some ⟨w.heap.size, 0, none⟩) (n + 1) (n + 1)], [w.heap.size], by rw [hcn]; rfl, ⟨?_, ?_, rfl, rfl, rfl⟩, ?_, by simp, by simp⟩
  ·rw [Tm]; simp
  ·intro b hb _
   rw [Tm]
   simp [Array.getElem?_push_lt hb, Array.getElem?_eq_getElem hb]
  ·refine ⟨[.slice (some ⟨w.heap.size, 0, none⟩) (n + 1) (n + 1)], [w.heap.size], [], rfl, rfl, ?_, rfl⟩
   show Sa _ (.sl .s) (Lib.split x.1 x.2.1) _ _
   refine ⟨by rw [hn]; unfold Qd; omega, .inr ⟨w.heap.size, 0, n + 1, (zs.map Value.string).toArray, ρ.t 9, List.replicate (n + 1) [], ?_, ?_, by omega, by unfold Qd; omega, ?_, ?_, ?_, ?_⟩⟩
   ·rw [hn]
   ·rw [Tm]; simp
   ·simp [Ty.size, hlen]
   ·simp
   ·simp [hn]
   ·intro i hi
    have hi' : i < n + 1 := by omega
    have hiz : i < zs.length := by omega
    refine ⟨?_, by simp [qd, List.getElem?_replicate, hi']⟩
    show Gb _ (0 + i * 1) 1 = _
    apply HD
    have : (Lib.split x.1 x.2.1)[i]'hi = (zs[i]).data.toList := by simp [← hd]
    show _ = some (Value.string ⟨List.toArray ((Lib.split x.1 x.2.1)[i]'hi)⟩)
    rw [this]
    simp [hiz]
theorem Nx {P : Program} {ρ : Go.Shelf.Ren} {f : FuncId} {I : Fg} (L : Go.Proofs.Lays.n156 P ρ) (hf : ρ.f 156 = f) (X : Go.Proofs.Builder.Extra P ρ) : Ri P I f (.pu (.p (.sl .s) (.p .s .u)) (.p .s .u) [true] (fun x => Yt x.1 x.2.1)) := by
 subst hf
 refine ⟨⟨_, L.f156, rfl, rfl⟩, ?_⟩
 intro O w x r args hF hA hO hi hb
 match args, hA with
 | [a, b], hA =>
  obtain ⟨⟨ca, rfl, hca⟩, ⟨cb, rfl, hcb⟩, _⟩ := hA
  have hcb' : cb = [.string ⟨List.toArray x.2.1⟩] := hcb
  subst hcb'
  obtain ⟨ad, cap, rfl, hcap, hmx, hrow⟩ := hca
  simp only [Yt] at hF
  cases h0 : jv (ja x.1) 1073741824 with
  | false => rw [h0] at hF; simp at hF
  | true =>
  cases h1 : jv (ja (Lib.join x.1 x.2.1)) 1073741824 with
  | false => rw [h0, h1] at hF; simp at hF
  | true =>
  rw [h0, h1] at hF
  simp only [Bool.and_true, cond_true, jc] at hF
  subst hF
  have h1' := Nat.le_of_ble_eq_true h1
  have h0' := Nat.le_of_ble_eq_true h0
  have hfin : ∀ (e : Ending) (w' : World), e = .returned (.string ⟨(Lib.join x.1 x.2.1).toArray⟩) ∧ Go.RowKit.Below w.heap.size w w' → Ni (fun v w' => ∃ vs Fr, v = Dm vs ∧ Mk w w' (fun _ => False) ∧ Ab w' (fun b => O b ∨ b ∈ Fr) (.p .s .u) ((Lib.join x.1 x.2.1, ()) : List UInt8 × Unit) [true] vs Fr ∧ Fr.Nodup ∧ ∀ b ∈ Fr, w.heap.size ≤ b) e w' := by
   rintro e w' ⟨rfl, hB⟩
   exact ⟨[.string ⟨(Lib.join x.1 x.2.1).toArray⟩], [], rfl, ⟨hB.size, fun b hb _ => hB.block b hb, hB.os, hB.tape, hB.output⟩, ⟨_, [], [], rfl, rfl, ⟨rfl, rfl⟩, rfl⟩, by simp, by simp⟩
  have hmp : List.map (fun z : ByteArray => z.data.toList) (List.map (fun l : List UInt8 => (⟨l.toArray⟩ : ByteArray)) x.1) = x.1 := by simp [List.map_map, Function.comp_def]
  rcases hrow with hx0 | ⟨bl, off, cur, et, fr, rfl, hno, hh, hsz, hv⟩
  ·have h0' : x.1 = [] := hx0
   have e0 : Lib.join x.1 x.2.1 = [] := by rw [h0']; rfl
   have el : ja x.1 = 0 := by rw [h0']; rfl
   show Calls P (ρ.f 156) #[.slice ad (ja x.1) cap, .string ⟨List.toArray x.2.1⟩] w _
   rw [el]
   refine (Go.Proofs.Any.strings_Join_none L X ad cap ⟨List.toArray x.2.1⟩ w).mono ?_
   rintro e w' ⟨rfl, rfl⟩
   exact hfin _ _ ⟨by rw [e0], Go.RowKit.Below.refl _ _⟩
  ·have hbl : bl < w.heap.size := (Array.getElem?_eq_some_iff.1 hh).1
   have c := Go.Proofs.Any.strings_Join L X bl off cap (List.map (fun l : List UInt8 => (⟨l.toArray⟩ : ByteArray)) x.1) ⟨List.toArray x.2.1⟩ w ?_ hbl (by rw [List.length_map]; show ja x.1 ≤ _; omega) (by rw [List.length_map]; exact hcap) (by rw [hmp]; show (Lib.join x.1 (List.toArray x.2.1).toList).length ≤ _; rw [List.toList_toArray]; omega)
   ·rw [hmp, List.length_map] at c
    refine c.mono ?_
    rintro e w' ⟨rfl, hB⟩
    refine hfin _ _ ⟨?_, hB⟩
    show Ending.returned (Value.string ⟨(Lib.join x.1 (List.toArray x.2.1).toList).toArray⟩) = _
    rw [List.toList_toArray]
   ·intro j z hj
    obtain ⟨hj', rfl⟩ := List.getElem?_eq_some_iff.1 hj
    rw [List.length_map] at hj'
    have e : Gb cur (off + j * 1) 1 = [Value.string ⟨List.toArray (x.1[j]'hj')⟩] := hv j hj'
    rw [Nat.mul_one] at e
    unfold World.cell?
    simp only [hh]
    rw [QD e]
    simp
theorem Mx {P : Program} {ρ : Go.Shelf.Ren} {f : FuncId} {I : Fg} (L : Go.Proofs.LaysM.n171 P ρ) (hf : ρ.f 171 = f) (hI : ∀ w, I.p w → Lib.TabIs P w "internal/strconv.uint64pow10" .u64 Lib.pow10Tab) : Ri P I f (.pu (.p (.i .i64) .u) (.p .s .u) [true] (fun x => Xt x.1)) := by
 subst hf
 refine ⟨⟨_, L.f171, rfl, rfl⟩, ?_⟩
 intro O w x r args hF hA hO hi hb
 match args, hA with
 | [a], hA =>
  obtain ⟨⟨ca, rfl, hca⟩, _⟩ := hA
  have hca' : ca = [.int .i64 x.1] := hca
  subst hca'
  simp only [Xt] at hF
  by_cases h1 : -9223372036854775808 ≤ (x.1 : Int)
  case neg => rw [decide_eq_false h1] at hF; simp at hF
  by_cases h2 : (x.1 : Int) ≤ 9223372036854775807
  case neg => rw [decide_eq_false h2] at hF; simp at hF
  rw [decide_eq_true h1, decide_eq_true h2] at hF
  simp only [Bool.and_true, cond_true, jc] at hF
  subst hF
  refine (Go.Proofs.Any.strconv_Itoa L x.1 h1 h2 w (hI w hi)).mono ?_
  rintro e w' ⟨rfl, k, os, rfl⟩
  refine ⟨[.string ⟨(Lib.itoa x.1).toArray⟩], [], rfl, ⟨?_, ?_, rfl, rfl, rfl⟩, ⟨_, [], [], rfl, rfl, ⟨rfl, rfl⟩, rfl⟩, by simp, by simp⟩
  ·simp only [Go.Sort.grow, Array.size_append, World.drewN]
   omega
  ·intro b hb _
   simp only [Go.Sort.grow, World.drewN]
   rw [Array.getElem?_append_left hb]
open Go Go.WideShapes Go.ChangeShapes
def Oy : DataW Unit → List Value
 | .lit (.int k n) => [.int k n]
 | .lit (.bool b) => [.bool b]
 | .agg l => cellsDs l
 | _ => []
where cellsDs : List (DataW Unit) → List Value
 | [] => []
 | d :: r => Oy d ++ cellsDs r
def ED (d : DataW Unit) : Obj → Obj
 | .cells _ t frozen => .cells (Oy d).toArray t frozen
 | o => o
def FD (P : Program) (h : Array Obj) (x : String × DataW Unit) : Array Obj :=
 match P.globalNamed x.1 with
 | some g => h.modify g (ED x.2)
 | none => h
noncomputable def TC (P : Program) (os : Os) (laid : List (String × DataW Unit)) : World :=
 let w := World.holding P os ⟨#[], #[], []⟩
 { w with heap := laid.foldl (FD P) w.heap }
theorem On {P : Program} {W : World} {x : String × DataW Unit} {rest : List (String × DataW Unit)} {ps : List MemPlace} (h : DataW.LaidVars P W (x :: rest) ps) : ∃ q, DataW.LaidVars P W rest q := by
 obtain ⟨g, t, cs, fuel, p, q, _, _, _, _, h, _⟩ := h
 exact ⟨q, h⟩
theorem Qt {P : Program} {W : World} {name : String} {k : IntKind} {zs : List Int} {rest : List (String × DataW Unit)} {ps : List MemPlace} {g : Nat} {t e : TypeId} {n : Nat}
 (hg : P.globalNamed name = some g) (hty : (P.globals[g]?).map (·.type) = some t) (ht : P.underlying t = some (.array n e)) (he : P.underlying e = some (.int k)) (hce : P.cellsOf e = 1) (hct : P.cellsOf t = n)
 (h : DataW.LaidVars P W ((name, Lib.tabData k zs) :: rest) ps) : Lib.TabIs P W name k zs := by
 obtain ⟨g', t', cs, fuel, p, q, hg', ht', hvar, hd, _, _⟩ := h
 obtain rfl := Option.some.inj (hg.symm.trans hg')
 obtain rfl := Option.some.inj (hty.symm.trans ht')
 unfold Lib.TabIs
 rw [hvar, ← Lib.cells_of_tab ht he hce hct hd]
def VE (g : Nat) : Fg := ⟨g + 1, fun w => ∃ m, w.cell? ⟨g, 0, none⟩ = some (.int .i64 m), fun w w' hb h => by
 obtain ⟨m, hm⟩ := h
 refine ⟨m, ?_⟩
 unfold World.cell? at hm ⊢
 rw [hb g (Nat.lt_succ_self g)]
 exact hm⟩
theorem Dz {g : Nat} {w : World} (h : (VE g).p w) : (VE g).base ≤ w.heap.size := by
 obtain ⟨m, hm⟩ := h
 unfold World.cell? at hm
 have : g < w.heap.size := by
  apply Classical.byContradiction
  intro hn
  simp only [Array.getElem?_eq_none (show w.heap.size ≤ g by omega)] at hm
  simp at hm
 exact this
def QB (P : Program) (g a : Nat) (name : String) (k : IntKind) (zs : List Int) (ha : P.globalNamed name = some a) : Fg := ⟨max g a + 1, fun w => (∃ m, w.cell? ⟨g, 0, none⟩ = some (.int .i64 m)) ∧ Lib.TabIs P w name k zs, fun w w' hb h => by
 obtain ⟨⟨m, hm⟩, ht⟩ := h
 refine ⟨⟨m, ?_⟩, ?_⟩
 ·unfold World.cell? at hm ⊢
  rw [hb g (by omega)]
  exact hm
 ·unfold Lib.TabIs World.var? at ht ⊢
  rw [ha] at ht ⊢
  simp only [jb] at ht ⊢
  rw [hb a (by omega)]
  exact ht⟩
theorem Ez {P : Program} {g a : Nat} {name : String} {k : IntKind} {zs : List Int} {ha : P.globalNamed name = some a} {w : World} (h : (QB P g a name k zs ha).p w) : (QB P g a name k zs ha).base ≤ w.heap.size := by
 obtain ⟨h1, ht⟩ := h
 have h1' : g + 1 ≤ w.heap.size := Dz (g := g) h1
 have : a < w.heap.size := by
  apply Classical.byContradiction
  intro hn
  unfold Lib.TabIs World.var? at ht
  rw [ha] at ht
  simp only [jb, Array.getElem?_eq_none (show w.heap.size ≤ a by omega)] at ht
  simp at ht
 show max g a + 1 ≤ _
 omega
theorem Nk {P : Program} {l : List (String × DataW Unit)} {w : World} (h : (l.filter fun x => x.2.handleName?.isSome) = []) : laidMetH P l w = laidMet P l w := by
 unfold laidMetH
 rw [h]
section
variable {H : Type} {enc : TypeId × Value → H}
theorem Fp {a : Assume} {C : Checked} {os : Os} {f : FuncId} {fn : Func} {s : ChangeSpec} {conds : List PathCond} {apart fresh handsOn again : Bool} {X : World → Array Value → Prop}
 (hX : ∀ (w w' : World) (args : Array Value), w.heap = w'.heap → X w args → X w' args)
 (own : ownKnob C.prog.godebug = none) (started : os.Started) (noInit : C.prog.inits.idxOf? f = none) (hfn : C.prog.funcs[f]? = some fn)
 (witness : ∃ (w : World) (tape : Tape) (i : Input), w.os = os ∧ (w.forCall tape i).Shaped C.prog ∧ i.vars = [] ∧ Input.okWide C.prog (w.forCall tape i) .any w.heap.size f i ∧
  ((s.pre enc C.prog fn conds apart (w.forCall tape i).memory i.args ∧ X (w.forCall tape i).memory i.args) ∧ sizedMet enc C.prog fn (OpenSpec.ofChange s) apart (w.forCall tape i).memory i.args) ∧ a.holds C.prog (lone (Frame.enter C.prog f i.args .normal) [] (w.forCall tape i)))
 (contract : ∀ (W : World) (base : Nat) (args : Array Value) (ds gs : List (DataW H)) (before : List MemPlace),
  (∀ (j : Nat) t v, fn.params[j]? = some t → args[j]? = some v → Value.okWide C.prog W .any base t v) →
  DataW.Whole enc C.prog fn.params.toList s.vars apart W args.toList ds gs before →
  conds.all (PathCond.test C.prog ⟨fn.params.toList, ds, s.plain.varTypes C.prog, gs⟩) = true →
  (DataW.weightsEach C.prog (fn.params.toList ++ s.plain.varTypes C.prog) (ds ++ gs)).all (· ≤ reachBytes) = true → W.ShapedOpen C.prog → X W args →
  a.holds C.prog (lone (Frame.enter C.prog f args .normal) [] W) →
  Calls C.prog f args W fun e W' => ∃ v, e = .returned v ∧ s.post enc C.prog fn apart fresh handsOn again W args v W') :
 ReturnsInHanded a C os f .any (fun w args => (s.pre enc C.prog fn conds apart w args ∧ X w args) ∧ sizedMet enc C.prog fn (OpenSpec.ofChange s) apart w args) (s.post enc C.prog fn apart fresh handsOn again) := by
 refine returnsInHanded_of_calls own started noInit witness ?_
 intro w tape i _ hsh _ hok hpre hholds
 obtain ⟨_, _, _, fn', hfn', _, _, _, _, hval⟩ := hok
 have e : fn' = fn := Option.some.inj (hfn'.symm.trans hfn)
 subst e
 obtain ⟨⟨⟨ds, gs, before, hw, hc⟩, hx⟩, hz⟩ := hpre
 have hw' := DataW.Whole.of_heap (w' := w.forCall tape i) (by rfl) hw
 refine (contract (w.forCall tape i) w.heap.size i.args ds gs before hval hw' hc (hz.weights hw) hsh (hX _ _ _ (by rfl) hx) hholds).mono fun e W' ⟨v, he, hp⟩ => ?_
 subst he
 exact ChangeSpec.post_blind hp
theorem Wu {C : Checked} {os : Os} {f : FuncId} {fn : Func} {s : ChangeSpec} {apart fresh handsOn again : Bool} {pt : Ty} {fl : Bool} {F : T pt → Option (Bool × Unit)} {tb : TypeId} {I : Fg} {laid : List (String × DataW Unit)}
 (own : ownKnob C.prog.godebug = none) (started : os.Started) (noInit : C.prog.inits.idxOf? f = none) (hfn : C.prog.funcs[f]? = some fn)
 (witness : ∃ (w : World) (tape : Tape) (i : Input), w.os = os ∧ (w.forCall tape i).Shaped C.prog ∧ i.vars = [] ∧ Input.okWide C.prog (w.forCall tape i) .any w.heap.size f i ∧
  ((s.pre enc C.prog fn [] apart (w.forCall tape i).memory i.args ∧ laidMetH C.prog laid (w.forCall tape i).memory) ∧ sizedMet enc C.prog fn (OpenSpec.ofChange s) apart (w.forCall tape i).memory i.args) ∧ ({} : Assume).holds C.prog (lone (Frame.enter C.prog f i.args .normal) [] (w.forCall tape i)))
 (hvars : s.vars = []) (hs : ∀ ds : List (DataW H), ds.length = fn.params.toList.length → s.fn H ds = { results := [.lit (.bool true)], args := ds })
 (hp : Ge C.prog pt fn.params.toList = true) (hr : fn.resultTypes = #[tb]) (htb : C.prog.underlying tb = some .bool)
 (hsound : Ri C.prog I f (.pu pt (.p .b .u) [fl] F)) (hF : ∀ x, Dj pt x → F x = some (true, ()))
 (hI : ∀ W : World, W.ShapedOpen C.prog → laidMetH C.prog laid W → I.p W ∧ I.base ≤ W.heap.size) (hnh : (laid.filter fun x => x.2.handleName?.isSome) = []) :
 ReturnsInHanded {} C os f .any (fun w args => (s.pre enc C.prog fn [] apart w args ∧ laidMetH C.prog laid w) ∧ sizedMet enc C.prog fn (OpenSpec.ofChange s) apart w args) (s.post enc C.prog fn apart fresh handsOn again) := by
 refine Fp (X := fun w _ => laidMetH C.prog laid w) (fun _ _ _ hh h => by
  rw [Nk hnh] at h ⊢
  exact h.of_heap hh) own started noInit hfn witness ?_
 intro W b0 args ds gs before hval hW _ _ hsh hX _
 have hW0 := hW
 obtain ⟨p, q, hA, hV, hps, hfz, hnd⟩ := hW
 rw [hvars] at hV
 have hgs : gs = [] ∧ q = [] := by
  cases gs with
  | nil => exact ⟨rfl, hV⟩
  | cons _ _ => exact hV.elim
 obtain ⟨rfl, rfl⟩ := hgs
 simp only [List.append_nil] at hps
 subst hps
 obtain ⟨x, hx, hrx⟩ := Qo (base := b0) hp hA fun j t v h1 h2 => hval j t v (by simpa using h1) (by simpa using h2)
 have hcall := hsound.2 (fun _ => False) W x (true, ()) args.toList (hF x hrx) hx (fun _ h => h.elim) (hI W hsh hX).1 (hI W hsh hX).2
 refine hcall.mono fun e W' hret => ?_
 cases e with
 | returned v =>
  obtain ⟨vs, Fr, hv, hk, hR, _, _⟩ := hret
  have hvt : v = .bool true := by
   cases vs with
   | nil => simp [Ab] at hR
   | cons a r =>
    obtain ⟨cs, F1, F2, ha, _, hown, hrest⟩ := hR
    cases r with
    | cons _ _ => simp [Ab] at hrest
    | nil =>
     have hcs : cs = [.bool true] := by
      cases fl with
      | true => exact hown.1
      | false => exact hown.1
     rw [hv, Dm, ha, hcs]
     rfl
  subst hvt
  refine ⟨_, rfl, ?_⟩
  have hsp := hs ds (Qp hA)
  have hlt : ∀ z ∈ before, z.block < W.heap.size := hW0.lt
  have hsame : ∀ z ∈ before, W.sameAt W' z := by
   intro z hz
   have hb := hk.block z.block (hlt z hz) (fun h => h)
   cases z with
   | cell b off =>
    show W'.cell? _ = W.cell? _
    simp only [World.cell?]
    rw [show W'.heap[b]? = W.heap[b]? from hb]
   | map b => exact hb
  have hargs : ∀ sp : Nat → Bool, (∀ z ∈ before, sp z.block = true) → DataW.TrodAll enc C.prog W' 0 sp true fn.params.toList args.toList ds before :=
   fun sp h => Pn (Np hp) hA hsame h
  have hres : ∀ (b : Nat) (sp : Nat → Bool) (hd : Bool), DataW.TrodAll enc C.prog W' b sp hd fn.resultTypes.toList ((Value.bool true).resultList fn.resultTypes.size) [.lit (.bool true)] [] := by
   intro b sp hd
   rw [hr]
   exact trodAll_mk1 (Go.RowKit.shut_bool htb true)
  have hold : ∀ z ∈ before, (fun b => decide (b < W.heap.size)) z.block = true := fun z hz => by simpa using hlt z hz
  refine ⟨ds, [], before, [], before, [], hW0, ?_, ?_, ?_, hk.but _, fun _ => ⟨?_, ds.cons (.lit (.bool true)), [], before, ⟨before, [], ?_, ?_, by simp, ?_, ?_⟩, fun z hz _ => hz⟩⟩
  ·rw [List.append_nil, hsp]; exact hres _ _ _
  ·rw [List.append_nil, hsp]; exact hargs _ hold
  ·rw [List.append_nil, hsp, hvars]; rfl
  ·intro j t r hj hv
   rw [hr] at hj hv
   match j, hj, hv with
   | 0, hj, hv =>
    simp only [List.getElem?_toArray, List.getElem?_cons_zero, jc] at hj
    simp [Value.resultList] at hv
    subst hj; subst hv
    exact Go.RowKit.okWide_bool_mk htb true
  ·exact trodAll_append (hargs _ (fun _ _ => rfl)) (hres _ _ _)
  ·rw [hvars]; rfl
  ·intro b off hz
   have := hfz b off hz
   unfold World.frozen? at this ⊢
   rw [show W'.heap[b]? = W.heap[b]? from hk.block b (hlt _ hz) (fun h => h)]
   exact this
  ·exact hnd
 | _ => exact hret.elim
end
section
variable {X R : Type} {step : X → Option (X ⊕ R)}
theorem Pd {x : X} {z : Option (X ⊕ R)} (h : step x = z) : Zb step x = z.bind (Sum.elim (Zb step) some) := by
 rw [Qx, h]
theorem Sl (I : Nat → X) (n : Nat) (out : R) (h : ∀ k, k < n → step (I k) = some (.inl (I (k + 1)))) (he : step (I n) = some (.inr out)) : Zb step (I 0) = some out := by
 have key : ∀ m k, m + k = n → Zb step (I k) = some out := by
  intro m
  induction m with
  | zero =>
   intro k hk
   have : k = n := by omega
   subst this
   rw [Pd he]; rfl
  | succ m ih =>
   intro k hk
   rw [Pd (h k (by omega))]
   exact ih (k + 1) (by omega)
 exact key n 0 (by omega)
end
theorem Jg {n : Int} (h1 : -9223372036854775808 ≤ n) (h2 : n ≤ 9223372036854775807) : jy .i64 n = n := IntWalk.i64_in n ⟨h1, h2⟩
theorem Gh {k : Nat} (h : k < 9223372036854775807) : jy .i64 ((k : Int) + 1) = ((k + 1 : Nat) : Int) := by
 rw [Jg (by omega) (by omega)]; omega
theorem GG {n : Int} (h1 : 0 ≤ n) (h2 : n ≤ 255) : jy .u8 n = n := IntWalk.u8_in n ⟨h1, h2⟩
section
variable {α : Type}
theorem CD (xs : List α) (k : Nat) : Vd xs (k : Int) = xs[k]? := by simp [Vd]
theorem Of {xs : List α} {k : Nat} (h : k < xs.length) : Vd xs (k : Int) = some xs[k] := by rw [CD, je h]
theorem PB (x : α) (xs : List α) : Vd (x :: xs) 0 = some x := rfl
theorem Is (n k : Nat) : Fj n (k : Int) = decide (k < n) := by
 simp [Fj]
theorem Za {p : Prop} [Decidable p] (h : p) : decide p = true := decide_eq_true h
theorem Ta {p : Prop} [Decidable p] (h : ¬ p) : decide p = false := decide_eq_false h
theorem LA {xs : List α} {k : Nat} (h : k < xs.length) : xs.take (k + 1) = xs.take k ++ [xs[k]] := by
 rw [List.take_succ_eq_append_getElem h]
end
theorem KC {α : Type} {xs : List α} {z : α} {k : Nat} (h : k < xs.length) : (xs.take k ++ List.replicate (xs.length - k) z).set k xs[k] = xs.take (k + 1) ++ List.replicate (xs.length - (k + 1)) z := by
 have h1 : (xs.take k).length = k := by simp; omega
 rw [List.set_append_right _ _ (by omega), h1, Nat.sub_self, show xs.length - k = (xs.length - (k + 1)) + 1 by omega, List.replicate_succ, List.set_cons_zero, LA h, List.append_assoc]
 rfl
theorem NB {α : Type} {xs : List α} {z : α} {k : Nat} (h : k ≤ xs.length) : (xs.take k ++ List.replicate (xs.length - k) z).length = xs.length := by
 simp; omega
theorem Ws {α R : Type} {X : Type} {step : X → Option (X ⊕ R)} (xs : List α) (z : α) (I : List α → Int → X) (out : List α → R)
 (h : ∀ k (hk : k < xs.length) (o : List α), o.length = xs.length → step (I o (k : Int)) = some (.inl (I (o.set k xs[k]) (jy .i64 ((k : Int) + 1)))))
 (he : ∀ o, step (I o (xs.length : Int)) = some (.inr (out o))) (hn : xs.length < 9223372036854775807) :
 Zb step (I (List.replicate xs.length z) 0) = some (out xs) := by
 have := Sl (step := step) (fun k => I (xs.take k ++ List.replicate (xs.length - k) z) (k : Int)) xs.length (out xs) (fun k hk => by
  rw [h k hk _ (NB (by omega)), KC hk, Gh (by omega)]) (by
  rw [List.take_length, Nat.sub_self]
  simpa using he xs)
 simpa using this
theorem Gw {n : Nat} (h : n ≤ Hd) : (((n : Int) == (n : Int)) && (decide ((0 : Int) ≤ (n : Int)) && decide ((n : Int) ≤ ((Hd : Nat) : Int)))) = true := by
 simp only [beq_self_eq_true, jk, jd, decide_eq_true_eq]
 omega
theorem Xz : Hd = 1073741824 := rfl
def Jb : (τ : Ty) → T τ → Nat
 | .i _, _ => 0
 | .b, _ => 0
 | .o, _ => 0
 | .s, x => ja x
 | .sl e, xs => ja xs + (List.map (Jb e) xs).sum
 | .u, _ => 0
 | .p a c, v => Jb a v.1 + Jb c v.2
def Ty.hasS : Ty → Bool
 | .s => true
 | .sl e => e.hasS
 | .p x y => x.hasS || y.hasS
 | _ => false
def Mb : Nat := 1048576
theorem Jn {α : Type} {f : α → Nat} {xs : List α} {k : Nat} (hk : k < xs.length) : f xs[k] ≤ (xs.map f).sum := by
 induction xs generalizing k with
 | nil => simp at hk
 | cons x xs ih =>
  cases k with
  | zero => simp
  | succ k =>
   have := ih (k := k) (by simpa using hk)
   simp only [List.getElem_cons_succ, List.map_cons, List.sum_cons]
   omega
def Wr (n l : Nat) : Int := if n ≤ l then ((l - n : Nat) : Int) else -1
theorem Jk {n l : Nat} (h : n ≤ l) : Wr n l = ((l - n : Nat) : Int) := if_pos h
theorem Cj {n l : Nat} (h : ¬ n ≤ l) : Wr n l = -1 := if_neg h
theorem RD {α X R : Type} {step : X → Option (X ⊕ R)} (xs : List α) (n : α → Nat) (I : Int → Int → X) (yes : Int → R) (no : R)
 (h : ∀ k (hk : k < xs.length) (l : Nat), l ≤ Mb → step (I (l : Int) (k : Int)) = some (if n xs[k] ≤ l then .inl (I ((l - n xs[k] : Nat) : Int) (jy .i64 ((k : Int) + 1))) else .inr no))
 (he : ∀ l : Nat, step (I (l : Int) (xs.length : Int)) = some (.inr (yes (l : Int)))) (hn : xs.length < 9223372036854775807) (l : Nat) (hl : l ≤ Mb) :
 Zb step (I (l : Int) 0) = some (if (xs.map n).sum ≤ l then yes ((l - (xs.map n).sum : Nat) : Int) else no) := by
 have key : ∀ (ys : List α) (k l : Nat), xs.drop k = ys → k ≤ xs.length → l ≤ Mb → Zb step (I (l : Int) (k : Int)) = some (if (ys.map n).sum ≤ l then yes ((l - (ys.map n).sum : Nat) : Int) else no) := by
  intro ys
  induction ys with
  | nil =>
   intro k l hd hle hi
   have : k = xs.length := by
    have := congrArg ja hd
    simp at this
    omega
   subst this
   rw [Pd (he l)]
   simp
  | cons y ys ih =>
   intro k l hd hle hi
   have hk : k < xs.length := by
    have := congrArg ja hd
    simp at this
    omega
   have hy : xs[k] = y := by
    have := congrArg (·[0]?) hd
    simp [List.getElem?_drop, je hk] at this
    exact this
   have hd' : xs.drop (k + 1) = ys := by rw [← List.drop_drop, hd]; rfl
   rw [Pd (h k hk l hi), hy]
   simp only [List.map_cons, List.sum_cons]
   by_cases hc : n y ≤ l
   ·simp only [hc, if_true, jb, qe]
    rw [Gh (by omega), ih (k + 1) (l - n y) hd' hk (by omega)]
    by_cases hc2 : (ys.map n).sum ≤ l - n y
    ·rw [if_pos hc2, if_pos (by omega)]
     congr 3
     omega
    ·rw [if_neg hc2, if_neg (by omega)]
   ·rw [if_neg hc, if_neg (by omega)]
    rfl
 have := key xs 0 l rfl (Nat.zero_le _) hl
 simpa using this
theorem Uq : ∀ {τ : Ty} (_ : (τ.flat && !τ.hasS) = true) {x : T τ}, Jb τ x = 0
 | .i _, _, _ => rfl
 | .b, _, _ => rfl
 | .o, _, _ => rfl
 | .s, h, _ => by simp [Ty.hasS] at h
 | .sl _, h, _ => by simp [Ty.flat] at h
 | .u, _, _ => rfl
 | .p a c, h, x => by
  simp only [Ty.flat, Ty.hasS, jd, Bool.not_eq_true', Bool.or_eq_false_iff] at h
  simp only [Jb]
  rw [Uq (τ := a) (by simp [h.1.1, h.2.1]), Uq (τ := c) (by simp [h.1.2, h.2.2])]
theorem Iv {e : Ty} (h : (e.flat && !e.hasS) = true) (xs : List (T e)) : Jb (.sl e) xs = ja xs := by
 simp only [Jb]
 have : List.map (Jb e) xs = List.replicate xs.length 0 := by
  apply List.ext_getElem
  ·simp
  ·intro i h1 h2
   simp [Uq h]
 rw [this]
 simp
theorem Us {α : Type} (b : Bool) (x y : α) : cond b (some x) (some y) = some (cond b x y) := by cases b <;> rfl
theorem Vs {α : Type} (b : Bool) (x y : α) : cond b (x, ()) (y, ()) = (cond b x y, ()) := by cases b <;> rfl
theorem Ku (b x y : Bool) : (cond b x y = true) ↔ ((b = true ∧ x = true) ∨ (¬ b = true ∧ y = true)) := by cases b <;> simp
theorem YC {a b : Bool} (h : a = true ↔ b = true) : a = b := Bool.eq_iff_iff.2 h
theorem Ft {a b : Bool} (h : a = true ↔ b = true) : some (a, ()) = some (b, ()) := by rw [YC h]
theorem Gu (a b : Int) : ((a == b) = true) ↔ a = b := by simp
theorem Hu (a b : Int) : ((a != b) = true) ↔ ¬ a = b := by simp
def Am {α : Type} (p : Nat → α → Bool) : Nat → List α → Bool
 | _, [] => true
 | k, x :: xs => p k x && Am p (k + 1) xs
theorem At {X R : Type} {step : X → Option (X ⊕ R)} {α : Type} (xs : List α) (p : Nat → α → Bool) (I : Int → X) (yes no : R)
 (h : ∀ k (hk : k < xs.length), step (I (k : Int)) = some (cond (p k xs[k]) (.inl (I (jy .i64 ((k : Int) + 1)))) (.inr no)))
 (he : step (I (xs.length : Int)) = some (.inr yes)) (hn : xs.length < 9223372036854775807) :
 Zb step (I 0) = some (cond (Am p 0 xs) yes no) := by
 have key : ∀ (ys : List α) (k : Nat), xs.drop k = ys → k ≤ xs.length → Zb step (I (k : Int)) = some (cond (Am p k ys) yes no) := by
  intro ys
  induction ys with
  | nil =>
   intro k hd hle
   have : k = xs.length := by
    have := congrArg ja hd
    simp at this
    omega
   subst this
   rw [Pd he]
   rfl
  | cons y ys ih =>
   intro k hd hle
   have hk : k < xs.length := by
    have := congrArg ja hd
    simp at this
    omega
   have hy : xs[k] = y := by
    have := congrArg (·[0]?) hd
    simp [List.getElem?_drop, je hk] at this
    exact this
   have hd' : xs.drop (k + 1) = ys := by rw [← List.drop_drop, hd]; rfl
   rw [Pd (h k hk), hy]
   simp only [Am]
   cases hc : p k y with
   | true =>
    simp only [cond_true, jk, jb, qe]
    rw [← ih (k + 1) hd' hk, Gh (by omega)]
   | false => rfl
 have := key xs 0 rfl (Nat.zero_le _)
 simpa using this
theorem Ts {α : Type} {p : Nat → α → Bool} : ∀ {xs : List α} {k : Nat}, Am p k xs = true ↔ ∀ j (hj : j < xs.length), p (k + j) xs[j] = true
 | [], _ => by simp [Am]
 | x :: xs, k => by
  simp only [Am, jd, Ts (xs := xs)]
  constructor
  ·rintro ⟨h1, h2⟩ j hj
   cases j with
   | zero => exact h1
   | succ j => simpa [js, Nat.add_comm 1 j] using h2 j (by simpa using hj)
  ·intro h
   refine ⟨h 0 (by simp), fun j hj => ?_⟩
   have := h (j + 1) (by simpa using hj)
   rw [js, Nat.add_comm 1 j]
   exact this
def Nl {α S : Type} (g : Nat → S → α → S) : Nat → S → List α → S
 | _, s, [] => s
 | k, s, x :: xs => Nl g (k + 1) (g k s x) xs
theorem Sy {α : Type} {xs ys : List α} {y : α} {k : Nat} (hd : xs.drop k = y :: ys) : ∃ hk : k < xs.length, xs[k] = y ∧ xs.drop (k + 1) = ys := by
 have hk : k < xs.length := by
  have := congrArg ja hd
  simp at this
  omega
 refine ⟨hk, ?_, by rw [← List.drop_drop, hd]; rfl⟩
 have := congrArg (·[0]?) hd
 simp [List.getElem?_drop, je hk] at this
 exact this
theorem KB {α : Type} {xs : List α} {k : Nat} (hd : xs.drop k = []) (hk : k ≤ xs.length) : k = xs.length := by
 have := congrArg ja hd
 simp at this
 omega
theorem Px {X R : Type} {step : X → Option (X ⊕ R)} {α S : Type} (xs : List α) (g : Nat → S → α → S) (I : S → Int → X) (out : S → R) (Fg : Nat → S → Prop)
 (h : ∀ k (hk : k < xs.length) s, Fg k s → step (I s (k : Int)) = some (.inl (I (g k s xs[k]) (jy .i64 ((k : Int) + 1)))) ∧ Fg (k + 1) (g k s xs[k]))
 (he : ∀ s, Fg xs.length s → step (I s (xs.length : Int)) = some (.inr (out s))) (hn : xs.length < 9223372036854775807) (s0 : S) (h0 : Fg 0 s0) :
 Zb step (I s0 0) = some (out (Nl g 0 s0 xs)) ∧ Fg xs.length (Nl g 0 s0 xs) := by
 have key : ∀ (ys : List α) (k : Nat) (s : S), xs.drop k = ys → k ≤ xs.length → Fg k s → Zb step (I s (k : Int)) = some (out (Nl g k s ys)) ∧ Fg xs.length (Nl g k s ys) := by
  intro ys
  induction ys with
  | nil =>
   intro k s hd hle hi
   have := KB hd hle
   subst this
   rw [Pd (he s hi)]
   exact ⟨rfl, hi⟩
  | cons y ys ih =>
   intro k s hd hle hi
   obtain ⟨hk, hy, hd'⟩ := Sy hd
   obtain ⟨h1, h2⟩ := h k hk s hi
   rw [Pd h1, hy, Gh (by omega)]
   rw [hy] at h2
   exact ih (k + 1) _ hd' hk h2
 have := key xs 0 s0 rfl (Nat.zero_le _) h0
 simpa using this
def Ai : Nat := 1099511627776
theorem z3 : ((3 : Int) == 0) = false := rfl
section
variable {α β : Type}
def VC (f : α → Option (α × Unit)) (t0 t3 : List α) (t4 : Int) : Option (((List α × (List α × (Int × Unit))) × Unit) ⊕ (((List α × Unit) × Unit) ⊕ β)) :=
 cond (decide (t4 < ((ja t0 : Nat) : Int))) (jx (Vd t0 t4) fun x7 => jx (f x7) fun r8 => cond (Fj (ja t3) t4)
  (jx t3[(jw t4)]? fun x9 => some (.inl ((t0, jz t3 (jw t4) r8.1, jy .i64 (t4 + 1), ()), ()))) none) (some (.inr (.inl ((t3, ()), ()))))
noncomputable def ZF (β : Type) (z : α) (f : α → Option (α × Unit)) (a0 : List α) : Option (List α × Unit) :=
 cond ((((ja a0 : Nat) : Int) == ((ja a0 : Nat) : Int)) && (decide ((0 : Int) ≤ ((ja a0 : Nat) : Int)) && decide (((ja a0 : Nat) : Int) ≤ ((Hd : Nat) : Int))))
  (jx (Zb (fun x : (List α × (List α × (Int × Unit))) × Unit => VC (β := β) f x.1.1 x.1.2.1 x.1.2.2.1) ((a0, List.replicate (jw ((ja a0 : Nat) : Int)) z, (0 : Int), ()), ())) (Sum.elim (fun y10 => some (y10.1.1, ())) (fun _ => none))) none
theorem AG (z : α) (f : α → Option (α × Unit)) (a : List α) (hn : a.length ≤ Mb) (hf : ∀ k (h : k < a.length), f a[k] = some (a[k], ())) : ZF β z f a = some (a, ()) := by
 have h20 : Mb = 1048576 := rfl
 have hl := Ws (step := fun x : (List α × (List α × (Int × Unit))) × Unit => VC (β := β) f x.1.1 x.1.2.1 x.1.2.2.1) a z (fun o i => ((a, o, i, ()), ())) (fun o => .inl ((o, ()), ())) (by
  intro k hk o ho
  simp only [VC]
  rw [Za (show (k : Int) < (ja a : Int) by omega), Of hk]
  simp only [cond_true, jb]
  rw [hf k hk]
  simp only [cond_true, jb]
  rw [Is, Za (show k < ja o by omega)]
  simp [je (show k < ja o by omega)]) (by
  intro o
  simp [VC]) (by omega)
 unfold ZF
 rw [Gw (by rw [Xz]; omega)]
 simp only [cond_true]
 rw [show jw ((ja a : Nat) : Int) = ja a by simp]
 erw [hl]
 rfl
theorem EK {e : Ty} (β : Type) (z : T e) {f : T e → Option (T e × Unit)} {F : List (T e) → Option (List (T e) × Unit)} (a : List (T e)) (hz : Jb (.sl e) a ≤ Mb) (hf : ∀ x, Jb e x ≤ Mb → f x = some (x, ())) (h : F a = ZF β z f a) : F a = some (a, ()) := by
 have hz' : ja a + (List.map (Jb e) a).sum ≤ Mb := hz
 rw [h]
 exact AG z f a (by omega) fun k hk => hf _ (by have := Jn (f := Jb e) hk; omega)
def RC (f : α → α → Option (Bool × Unit)) (t0 t1 : List α) (t5 : Int) : Option (((List α × (List α × (Int × Unit))) × Unit) ⊕ ((Unit × Unit) ⊕ ((Bool × Unit) × Unit))) :=
 cond (decide (t5 < ((ja t0 : Nat) : Int))) (jx (Vd t0 t5) fun x7 => jx (Vd t1 t5) fun x8 => jx (f x7 x8) fun r9 => cond (!r9.1) (some (.inr (.inr ((false, ()), ()))))
  (some (.inl ((t0, t1, jy .i64 (t5 + 1), ()), ())))) (some (.inr (.inl ((), ()))))
noncomputable def QE (f : α → α → Option (Bool × Unit)) (a0 a1 : List α) : Option (Bool × Unit) :=
 cond (((ja a0 : Nat) : Int) != ((ja a1 : Nat) : Int)) (some (false, ()))
  (jx (Zb (fun x : (List α × (List α × (Int × Unit))) × Unit => RC f x.1.1 x.1.2.1 x.1.2.2.1) ((a0, a1, (0 : Int), ()), ())) (Sum.elim (fun _ => some (true, ())) (fun z11 => some (z11.1.1, ()))))
theorem RE (f : α → α → Option (Bool × Unit)) (a : List α) (hn : a.length ≤ Ai) (hf : ∀ k (h : k < a.length), f a[k] a[k] = some (true, ())) : QE f a a = some (true, ()) := by
 have h40 : Ai = 1099511627776 := rfl
 have hl := Sl (step := fun x : (List α × (List α × (Int × Unit))) × Unit => RC f x.1.1 x.1.2.1 x.1.2.2.1) (fun k => ((a, a, (k : Int), ()), ())) (ja a) (.inl ((), ())) (by
  intro k hk
  simp only [RC]
  rw [Za (show (k : Int) < (ja a : Int) by omega), Of hk]
  simp only [cond_true, jb]
  rw [hf k hk]
  simp only [jb, jg, cond_false]
  rw [Gh (by omega)]) (by
  simp [RC])
 unfold QE
 rw [bne_self_eq_false']
 simp only [cond_false]
 erw [hl]
 rfl
theorem CK {e : Ty} {f : T e → T e → Option (Bool × Unit)} {F : List (T e) → List (T e) → Option (Bool × Unit)} (a : List (T e)) (hz : Jb (.sl e) a ≤ Ai) (hf : ∀ x, Jb e x ≤ Ai → f x x = some (true, ())) (h : F a a = QE f a a) : F a a = some (true, ()) := by
 have hz' : ja a + (List.map (Jb e) a).sum ≤ Ai := hz
 rw [h]
 exact RE f a (by omega) fun k hk => hf _ (by have := Jn (f := Jb e) hk; omega)
def Cy (f : α → Int → Option (Int × Unit)) (t0 : List α) (t1 t5 : Int) : Option (((List α × (Int × (Int × Unit))) × Unit) ⊕ (((Int × Unit) × Unit) ⊕ ((Int × Unit) × Unit))) :=
 cond (decide (t5 < ((ja t0 : Nat) : Int))) (jx (Vd t0 t5) fun x5 => jx (f x5 t1) fun r6 => cond (decide (r6.1 < (0 : Int))) (some (.inr (.inr (((-1 : Int), ()), ()))))
  (some (.inl ((t0, r6.1, jy .i64 (t5 + 1), ()), ())))) (some (.inr (.inl ((t1, ()), ()))))
noncomputable def JG (f : α → Int → Option (Int × Unit)) (a0 : List α) (a1 : Int) : Option (Int × Unit) :=
 cond (decide ((jy .i64 (a1 - ((ja a0 : Nat) : Int))) < (0 : Int))) (some ((-1 : Int), ()))
  (jx (Zb (fun x : (List α × (Int × (Int × Unit))) × Unit => Cy f x.1.1 x.1.2.1 x.1.2.2.1) ((a0, jy .i64 (a1 - ((ja a0 : Nat) : Int)), (0 : Int), ()), ())) (Sum.elim (fun y7 => some (y7.1.1, ())) (fun z8 => some (z8.1.1, ()))))
theorem DK {e : Ty} {f : T e → Int → Option (Int × Unit)} {F : List (T e) → Int → Option (Int × Unit)} (a : List (T e)) (hr : Dj (.sl e) a) (l : Nat) (hl : l ≤ Mb)
 (hf : ∀ x, Dj e x → ∀ l : Nat, l ≤ Mb → f x (l : Int) = some (Wr (Jb e x) l, ())) (hF : F a (l : Int) = JG f a (l : Int)) : F a (l : Int) = some (Wr (Jb (.sl e) a) l, ()) := by
 have h20 : Mb = 1048576 := rfl
 have hlen : ja a ≤ 9223372036854775807 := hr.1
 rw [hF]
 unfold JG
 rw [Jg (by omega) (by omega)]
 by_cases h : ja a ≤ l
 ·rw [Ta (by omega), show (l : Int) - (ja a : Int) = ((l - ja a : Nat) : Int) by omega]
  simp only [cond_false]
  have hx := RD (step := fun x : (List (T e) × (Int × (Int × Unit))) × Unit => Cy f x.1.1 x.1.2.1 x.1.2.2.1) a (Jb e) (fun l i => ((a, l, i, ()), ())) (fun l => .inl ((l, ()), ())) (.inr (((-1 : Int), ()), ())) (by
   intro k hk l hl
   simp only [Cy]
   rw [Za (show (k : Int) < (ja a : Int) by omega), Of hk]
   simp only [cond_true, jb]
   rw [hf a[k] (hr.2 k hk) l hl]
   simp only [jb]
   by_cases hc : Jb e a[k] ≤ l
   ·rw [Jk hc, Ta (by omega), if_pos hc]; rfl
   ·rw [Cj hc, if_neg hc]; rfl) (by
   intro l
   simp [Cy]) (by omega) (l - ja a) (by omega)
  rw [hx]
  simp only [jb]
  have hs : Jb (.sl e) a = ja a + (List.map (Jb e) a).sum := rfl
  rw [hs]
  by_cases h2 : (List.map (Jb e) a).sum ≤ l - ja a
  ·rw [if_pos h2, Jk (by omega)]; simp only [qe]; rw [show l - ja a - (List.map (Jb e) a).sum = l - (ja a + (List.map (Jb e) a).sum) by omega]
  ·rw [if_neg h2, Cj (by omega)]; rfl
 ·rw [Cj (show ¬ Jb (.sl e) a ≤ l by have hs : Jb (.sl e) a = ja a + (List.map (Jb e) a).sum := rfl; omega), Za (by omega)]; rfl
def VF (a0 : List α) (a1 : Int) : Option (Int × Unit) :=
 cond (decide ((jy .i64 (a1 - ((ja a0 : Nat) : Int))) < (0 : Int))) (some ((-1 : Int), ())) (some ((jy .i64 (a1 - ((ja a0 : Nat) : Int))), ()))
theorem WJ {e : Ty} {F : List (T e) → Int → Option (Int × Unit)} (a : List (T e)) (hr : Dj (.sl e) a) (l : Nat) (hl : l ≤ Mb) (he : (e.flat && !e.hasS) = true) (hF : F a (l : Int) = VF a (l : Int)) : F a (l : Int) = some (Wr (Jb (.sl e) a) l, ()) := by
 have h20 : Mb = 1048576 := rfl
 have hlen : ja a ≤ 9223372036854775807 := hr.1
 rw [hF]
 unfold VF
 rw [Jg (by omega) (by omega), Iv he a]
 by_cases h : ja a ≤ l
 ·rw [Jk h, Ta (by omega), show (l : Int) - (ja a : Int) = ((l - ja a : Nat) : Int) by omega]; rfl
 ·rw [Cj h, Za (by omega)]; rfl
end
abbrev int : Ty := .i .i64
abbrev As : Ty := .i .u8
abbrev KA : Ty := (.p int (.p int .u))
abbrev Al : Type := (Int × (Int × Unit))
abbrev Xa : Ty := (.p int (.p (.sl int) .u))
abbrev Qb : Type := (Int × ((List Int) × Unit))
abbrev FG : Ty := (.p int KA)
abbrev EG : Type := (Int × Al)
abbrev Uo : Type := (Int × EG)
abbrev Vb : Ty := (.p int (.p Xa .u))
abbrev Kd : Type := (Int × (Qb × Unit))
abbrev DG : Type := (Int × (Uo × Unit))
abbrev WC : Type := (Int × ((List (List Uo)) × Unit))
def Qk : List UInt8 := [97, 32, 98, 32, 99, 32, 100, 32, 101, 32, 102, 32, 103, 32, 104, 32, 105, 32, 106, 32, 107, 32, 108, 32, 109, 32, 110, 32, 111, 32, 112, 32, 113, 32, 114, 32, 115, 32, 116, 32, 117, 32, 118, 32, 119, 32, 120, 32, 121, 32, 122, 32, 49, 32, 50, 32, 51, 32, 52, 32, 53, 32, 54, 32, 55, 32, 56, 32, 57, 32, 48, 32, 101, 110, 116, 101, 114, 32, 101, 115, 99, 32, 98, 97, 99, 107, 32, 116, 97, 98, 32, 115, 112, 97, 99, 101, 32, 109, 105, 110, 117, 115, 32, 101, 113, 117, 97, 108, 32, 108, 101, 102, 116, 32, 114, 105, 103, 104, 116, 32, 117, 112, 32, 100, 111, 119, 110, 32, 102, 49, 32, 102, 50, 32, 102, 51, 32, 102, 52, 32, 102, 53, 32, 102, 54, 32, 102, 55, 32, 102, 56, 32, 102, 57]
def Pk : List UInt8 := [67, 83, 65, 71]
noncomputable section
open Option renaming bind → ob
open Go.IntKind renaming wrap → wr
open Int renaming toNat → tn
open List renaming length → ln, append → ap, set → ls
open Sum renaming elim → se
open Nat renaming ble → bl
abbrev Mh : Type := Int × Unit
abbrev Wc : Type := List UInt8
abbrev Zl : Type := Bool × Unit
abbrev Jj : Type := Unit × Unit
abbrev Xf : Type := List Int
abbrev Ze : Type := List Kd
abbrev Zh : Type := Qb × Unit
abbrev Gd : Type := List Wc
abbrev OC : Type := Zl × Unit
abbrev Wf : Type := Wc × Unit
abbrev PC : Type := Mh × Unit
abbrev St : Type := Xf × Al
abbrev Tt : Type := (Xf × (Xf × Mh)) × Unit
abbrev Ut : Type := (Ze × (Ze × Mh)) × Unit
abbrev Vt : Type := (Int × (Wc × Mh)) × Unit
abbrev Wt : Type := Ze × Al
abbrev QC : Type := Unit × Mh
abbrev Uw : Type := Jj ⊕ OC
abbrev Rm : Type := Gd × Unit
def Dh (a0 : Int) (a1 : Int) (a2 : Int) : Option Zl :=
 (cond (decide (a0 ≥ a1))
 (some ((decide (a0 ≤ a2)), ()))
 (some (false, ())))
def Yj (a0 : Xf) (a1 : Int) : Option Mh :=
 (cond (decide ((wr .i64 (a1 - ((ln a0 : Nat) : Int))) < 0))
 (some ((-1), ()))
 (some ((wr .i64 (a1 - ((ln a0 : Nat) : Int))), ())))
def Ei (a0 : Qb) (a1 : Int) : Option Mh :=
 (ob (Yj a0.2.1 a1) fun r1 =>
 (cond (decide (r1.1 < 0))
 (some ((-1), ()))
 (some (r1.1, ()))))
def Uh (a0 : Kd) (a1 : Int) : Option Mh :=
 (ob (Ei a0.2.1 a1) fun r1 =>
 (cond (decide (r1.1 < 0))
 (some ((-1), ()))
 (some (r1.1, ()))))
def Dq (t0 : Ze) (t1 : Int) (t5 : Int) : Option ((Wt × Unit) ⊕ (PC ⊕ PC)) :=
 (cond (decide (t5 < ((ln t0 : Nat) : Int)))
 (ob (Vd t0 t5) fun x5 =>
 (ob (Uh x5 t1) fun r6 =>
 (cond (decide (r6.1 < 0))
 (some (.inr (.inr (((-1), ()), ()))))
 (some (.inl ((t0, r6.1, (wr .i64 (t5 + 1)), ()), ()))))))
 (some (.inr (.inl ((t1, ()), ())))))
def Hj := Zb fun x : (Wt × Unit) => Dq x.1.1 x.1.2.1 x.1.2.2.1
def Wi (a0 : Ze) (a1 : Int) : Option Mh :=
 (cond (decide ((wr .i64 (a1 - ((ln a0 : Nat) : Int))) < 0))
 (some ((-1), ()))
 (ob (Hj ((a0, (wr .i64 (a1 - ((ln a0 : Nat) : Int))), 0, ()), ())) (se (fun y7 => (some (y7.1.1, ()))) (fun z8 => (some (z8.1.1, ()))))))
def Qg (t0 : Xf) (t3 : Xf) (t4 : Int) : Option (Tt ⊕ (((Xf × Unit) × Unit) ⊕ Jj)) :=
 (cond (decide (t4 < ((ln t0 : Nat) : Int)))
 (ob (Vd t0 t4) fun x5 =>
 (cond (Fj (ln t3) t4)
 (ob t3[(tn t4)]? fun x6 =>
 (some (.inl ((t0, (ls t3 (tn t4) x5), (wr .i64 (t4 + 1)), ()), ()))))
 none))
 (some (.inr (.inl ((t3, ()), ())))))
def Zg := Zb fun x : Tt => Qg x.1.1 x.1.2.1 x.1.2.2.1
def Zj (a0 : Xf) : Option (Xf × Unit) :=
 (cond ((((ln a0 : Nat) : Int) == ((ln a0 : Nat) : Int)) && (decide (0 ≤ ((ln a0 : Nat) : Int)) && decide (((ln a0 : Nat) : Int) ≤ ((Hd : Nat) : Int))))
 (ob (Zg ((a0, (List.replicate (tn ((ln a0 : Nat) : Int)) 0), 0, ()), ())) (se (fun y7 => (some (y7.1.1, ()))) (fun z8 => none)))
 none)
def Fi (a0 : Qb) : Option Zh :=
 (ob (Zj a0.2.1) fun r1 =>
 (some ((a0.1, r1.1, ()), ())))
def Vh (a0 : Kd) : Option (Kd × Unit) :=
 (ob (Fi a0.2.1) fun r1 =>
 (some ((a0.1, r1.1, ()), ())))
def Fq (t0 : Ze) (t3 : Ze) (t4 : Int) : Option (Ut ⊕ (((Ze × Unit) × Unit) ⊕ Jj)) :=
 (cond (decide (t4 < ((ln t0 : Nat) : Int)))
 (ob (Vd t0 t4) fun x7 =>
 (ob (Vh x7) fun r8 =>
 (cond (Fj (ln t3) t4)
 (ob t3[(tn t4)]? fun x9 =>
 (some (.inl ((t0, (ls t3 (tn t4) r8.1), (wr .i64 (t4 + 1)), ()), ()))))
 none)))
 (some (.inr (.inl ((t3, ()), ())))))
def Ij := Zb fun x : Ut => Fq x.1.1 x.1.2.1 x.1.2.2.1
def Ah (a0 : Ze) : Option (Ze × Unit) :=
 (cond ((((ln a0 : Nat) : Int) == ((ln a0 : Nat) : Int)) && (decide (0 ≤ ((ln a0 : Nat) : Int)) && decide (((ln a0 : Nat) : Int) ≤ ((Hd : Nat) : Int))))
 (ob (Ij ((a0, (List.replicate (tn ((ln a0 : Nat) : Int)) (0, (0, [], ()), ())), 0, ()), ())) (se (fun y10 => (some (y10.1.1, ()))) (fun z11 => none)))
 none)
def Pg (t0 : Xf) (t1 : Xf) (t5 : Int) : Option (Tt ⊕ Uw) :=
 (cond (decide (t5 < ((ln t0 : Nat) : Int)))
 (ob (Vd t0 t5) fun x5 =>
 (ob (Vd t1 t5) fun x6 =>
 (cond (x5 != x6)
 (some (.inr (.inr ((false, ()), ()))))
 (some (.inl ((t0, t1, (wr .i64 (t5 + 1)), ()), ()))))))
 (some (.inr (.inl ((), ())))))
def Yg := Zb fun x : Tt => Pg x.1.1 x.1.2.1 x.1.2.2.1
def Xj (a0 : Xf) (a1 : Xf) : Option Zl :=
 (cond (((ln a0 : Nat) : Int) != ((ln a1 : Nat) : Int))
 (some (false, ()))
 (ob (Yg ((a0, a1, 0, ()), ())) (se (fun y7 => (some (true, ()))) (fun z8 => (some (z8.1.1, ()))))))
def Di (a0 : Qb) (a1 : Qb) : Option Zl :=
 (cond (a0.1 != a1.1)
 (some (false, ()))
 (ob (Xj a0.2.1 a1.2.1) fun r1 =>
 (cond (!r1.1)
 (some (false, ()))
 (some (true, ())))))
def Th (a0 : Kd) (a1 : Kd) : Option Zl :=
 (cond (a0.1 != a1.1)
 (some (false, ()))
 (ob (Di a0.2.1 a1.2.1) fun r1 =>
 (cond (!r1.1)
 (some (false, ()))
 (some (true, ())))))
def Cq (t0 : Ze) (t1 : Ze) (t5 : Int) : Option (Ut ⊕ Uw) :=
 (cond (decide (t5 < ((ln t0 : Nat) : Int)))
 (ob (Vd t0 t5) fun x7 =>
 (ob (Vd t1 t5) fun x8 =>
 (ob (Th x7 x8) fun r9 =>
 (cond (!r9.1)
 (some (.inr (.inr ((false, ()), ()))))
 (some (.inl ((t0, t1, (wr .i64 (t5 + 1)), ()), ())))))))
 (some (.inr (.inl ((), ())))))
def Gj := Zb fun x : Ut => Cq x.1.1 x.1.2.1 x.1.2.2.1
def Vi (a0 : Ze) (a1 : Ze) : Option Zl :=
 (cond (((ln a0 : Nat) : Int) != ((ln a1 : Nat) : Int))
 (some (false, ()))
 (ob (Gj ((a0, a1, 0, ()), ())) (se (fun y10 => (some (true, ()))) (fun z11 => (some (z11.1.1, ()))))))
def Wj (a0 : Int) : Option Zl :=
 (cond (decide (a0 ≥ 1))
 (some ((decide (a0 ≤ 56)), ()))
 (some (false, ())))
def Ee (t0 : Gd) (t1 : Wc) (t5 : Xf) (t6 : Int) : Option (((Gd × (Wc × (Xf × Mh))) × Unit) ⊕ (((Xf × Unit) × Unit) ⊕ Jj)) :=
 (cond (decide (t6 < ((ln t0 : Nat) : Int)))
 (cond (decide (t6 > 0))
 (cond (bl (ln t5 + ln (Rb t1)) Hd)
 (ob (Vd t0 t6) fun x5 =>
 (cond (bl (ln (ap t5 (Rb t1)) + ln (Rb x5)) Hd)
 (some (.inl ((t0, t1, (ap (ap t5 (Rb t1)) (Rb x5)), (wr .i64 (t6 + 1)), ()), ())))
 none))
 none)
 (ob (Vd t0 t6) fun x6 =>
 (cond (bl (ln t5 + ln (Rb x6)) Hd)
 (some (.inl ((t0, t1, (ap t5 (Rb x6)), (wr .i64 (t6 + 1)), ()), ())))
 none)))
 (some (.inr (.inl ((t5, ()), ())))))
def He := Zb fun x : ((Gd × (Wc × (Xf × Mh))) × Unit) => Ee x.1.1 x.1.2.1 x.1.2.2.1 x.1.2.2.2.1
def Se (a0 : Gd) (a1 : Wc) : Option Wf :=
 (ob (He ((a0, a1, [], 0, ()), ())) (se (fun y7 => (some ((Eg y7.1.1), ()))) (fun z8 => none)))
def Oo (t0 : Wc) (t1 : Int) (t5 : Gd) (t6 : Int) (t7 : Int) : Option (((Wc × (Int × (Gd × Al))) × Unit) ⊕ ((Rm × Unit) ⊕ Jj)) :=
 (cond (decide (t7 ≤ ((ln t0 : Nat) : Int)))
 (cond (t7 == ((ln t0 : Nat) : Int))
 (cond (Fe (ln t0) t6 t7)
 (cond (bl (ln t5 + ln ([(Xc t0 (tn t6) (tn t7))] : List Wc)) Hd)
 (some (.inl ((t0, t1, (ap t5 ([(Xc t0 (tn t6) (tn t7))] : List Wc)), (wr .i64 (t7 + 1)), (wr .i64 (t7 + 1)), ()), ())))
 none)
 none)
 (ob (Vd t0 t7) fun c3 =>
 (cond (((UInt8.toNat c3 : Nat) : Int) == t1)
 (cond (Fe (ln t0) t6 t7)
 (cond (bl (ln t5 + ln ([(Xc t0 (tn t6) (tn t7))] : List Wc)) Hd)
 (some (.inl ((t0, t1, (ap t5 ([(Xc t0 (tn t6) (tn t7))] : List Wc)), (wr .i64 (t7 + 1)), (wr .i64 (t7 + 1)), ()), ())))
 none)
 none)
 (some (.inl ((t0, t1, t5, t6, (wr .i64 (t7 + 1)), ()), ()))))))
 (some (.inr (.inl ((t5, ()), ())))))
def Sf := Zb fun x : ((Wc × (Int × (Gd × Al))) × Unit) => Oo x.1.1 x.1.2.1 x.1.2.2.1 x.1.2.2.2.1 x.1.2.2.2.2.1
def Pj (a0 : Wc) (a1 : Int) : Option Rm :=
 (ob (Sf ((a0, a1, [], 0, 0, ()), ())) (se (fun y4 => (some (y4.1.1, ()))) (fun z5 => none)))
def Bj : Option Rm :=
 (ob (Pj Qk 32) fun r1 =>
 (some (r1.1, ())))
def Ii (a0 : Int) : Option Wf :=
 (ob (Dh a0 1 56) fun r1 =>
 (cond (!r1.1)
 (some ([], ()))
 (ob Bj fun r2 =>
 (cond (Fj (ln r2.1) (wr .i64 (a0 - 1)))
 (ob r2.1[(tn (wr .i64 (a0 - 1)))]? fun x3 =>
 (some (x3, ())))
 none))))
def Ve (t0 : Int) (t3 : Wc) (t4 : Int) : Option (Vt ⊕ (((Int × Wf) × Unit) ⊕ Jj)) :=
 (cond (t4 != 0)
 (cond ((10 : Int) == 0)
 none
 (cond (decide ((Int.tmod t4 10) < 0))
 (cond (bl (ln (Eg ([(wr .u8 (wr .i64 (48 + (wr .i64 (0 - (Int.tmod t4 10))))))] : List Int)) + ln t3) Hd)
 (cond ((10 : Int) == 0)
 none
 (some (.inl ((t0, (ap (Eg ([(wr .u8 (wr .i64 (48 + (wr .i64 (0 - (Int.tmod t4 10))))))] : List Int)) t3), (wr .i64 (Int.tdiv t4 10)), ()), ()))))
 none)
 (cond (bl (ln (Eg ([(wr .u8 (wr .i64 (48 + (Int.tmod t4 10))))] : List Int)) + ln t3) Hd)
 (cond ((10 : Int) == 0)
 none
 (some (.inl ((t0, (ap (Eg ([(wr .u8 (wr .i64 (48 + (Int.tmod t4 10))))] : List Int)) t3), (wr .i64 (Int.tdiv t4 10)), ()), ()))))
 none)))
 (some (.inr (.inl ((t0, t3, ()), ())))))
def Rc := Zb fun x : Vt => Ve x.1.1 x.1.2.1 x.1.2.2.1
def Kh (a0 : Int) : Option Wf :=
 (cond (a0 == 0)
 (some (([48] : List UInt8), ()))
 (ob (Rc ((a0, [], a0, ()), ())) (se (fun y1 => (cond (decide (y1.1.1 < 0))
 (cond (bl (ln ([45] : List UInt8) + ln y1.1.2.1) Hd)
 (some ((ap ([45] : List UInt8) y1.1.2.1), ()))
 none)
 (some (y1.1.2.1, ())))) (fun z2 => none))))
def Pe (t0 : Int) (t3 : Wc) (t4 : Int) : Option (Vt ⊕ ((Wf × Unit) ⊕ Jj)) :=
 (cond (decide (t4 < 4))
 (ob (Dh t0 1 15) fun r3 =>
 (cond r3.1
 (cond (decide (0 ≤ t4))
 (cond ((Ix .i64 (Lx .i64 t0 t4) 1) == 1)
 (cond (Fe (ln Pk) t4 (wr .i64 (t4 + 1)))
 (cond (bl (ln t3 + ln (Xc Pk (tn t4) (tn (wr .i64 (t4 + 1))))) Hd)
 (some (.inl ((t0, (ap t3 (Xc Pk (tn t4) (tn (wr .i64 (t4 + 1))))), (wr .i64 (t4 + 1)), ()), ())))
 none)
 none)
 (some (.inl ((t0, t3, (wr .i64 (t4 + 1)), ()), ()))))
 none)
 (some (.inr (.inl ((t3, ()), ()))))))
 (some (.inr (.inl ((t3, ()), ())))))
def Cf := Zb fun x : Vt => Pe x.1.1 x.1.2.1 x.1.2.2.1
def Sg (a0 : Int) : Option Wf :=
 (ob (Cf ((a0, [], 0, ()), ())) (se (fun y4 => (some (y4.1.1, ()))) (fun z5 => none)))
def strings_Split (a b : List UInt8) : Option (List Wc × Unit) := Hv a b
def Bi (a0 : Int) : Option Wf :=
 (cond (decide (a0 < 1))
 (some ([], ()))
 (cond (decide (a0 > 56))
 (some ([], ()))
 (ob (strings_Split Qk ([32] : List UInt8)) fun r1 =>
 (cond (Fj (ln r1.1) (wr .i64 (a0 - 1)))
 (ob r1.1[(tn (wr .i64 (a0 - 1)))]? fun x2 =>
 (some (x2, ())))
 none))))
def Su (a0 : Int) (a1 : Int) : Option Mh :=
 (cond (decide (0 ≤ a1))
 (some ((Ix .i64 (Lx .i64 a0 a1) 1), ()))
 none)
def Kf (t1 : Unit) (t14 : Xf) (t15 : Int) (t16 : Int) (b1 : Qb) : Option (((Unit × St) × Zh) ⊕ Uw) :=
 (cond (decide (t16 < t15))
 (ob (Vd t14 t16) fun x7 =>
 (ob (Wj x7) fun r8 =>
 (cond (!r8.1)
 (some (.inr (.inr ((false, ()), ()))))
 (cond (decide (t16 > 0))
 (ob (Vd b1.2.1 (wr .i64 (t16 - 1))) fun x9 =>
 (cond (decide (x9 ≥ x7))
 (some (.inr (.inr ((false, ()), ()))))
 (some (.inl (((), t14, t15, (wr .i64 (t16 + 1)), ()), (b1, ()))))))
 (some (.inl (((), t14, t15, (wr .i64 (t16 + 1)), ()), (b1, ()))))))))
 (some (.inr (.inl ((), ())))))
def Zf := Zb fun x : ((Unit × St) × Zh) => Kf x.1.1 x.1.2.1 x.1.2.2.1 x.1.2.2.2.1 x.2.1
def Ci (a0 : Qb) : Option Zl :=
 (cond (decide (a0.1 < 0))
 (some (false, ()))
 (cond (decide (a0.1 > 15))
 (some (false, ()))
 (ob (Zf (((), a0.2.1, ((ln a0.2.1 : Nat) : Int), 0, ()), (a0, ()))) (se (fun y10 => (some (true, ()))) (fun z11 => (some (z11.1.1, ())))))))
def Mg (t0 : Int) (t3 : Wc) (t12 : Gd) (t13 : Int) (t14 : Int) : Option (((Int × (Wc × (Gd × Al))) × Unit) ⊕ ((Wf × Unit) ⊕ Jj)) :=
 (cond (decide (t14 < t13))
 (cond (Fj (ln t12) t14)
 (ob t12[(tn t14)]? fun x5 =>
 (ob (Su t0 t14) fun r6 =>
 (cond (r6.1 == 1)
 (cond (bl (ln t3 + ln x5) Hd)
 (some (.inl ((t0, (ap t3 x5), t12, t13, (wr .i64 (t14 + 1)), ()), ())))
 none)
 (some (.inl ((t0, t3, t12, t13, (wr .i64 (t14 + 1)), ()), ()))))))
 none)
 (some (.inr (.inl ((t3, ()), ())))))
def Af := Zb fun x : ((Int × (Wc × (Gd × Al))) × Unit) => Mg x.1.1 x.1.2.1 x.1.2.2.1 x.1.2.2.2.1 x.1.2.2.2.2.1
def Og (a0 : Int) : Option Wf :=
 (cond (decide (a0 < 1))
 (some ([], ()))
 (cond (decide (a0 > 15))
 (some ([], ()))
 (ob (Af ((a0, [], ([([67] : List UInt8), ([83] : List UInt8), ([65] : List UInt8), ([71] : List UInt8)] : List Wc), ((ln ([([67] : List UInt8), ([83] : List UInt8), ([65] : List UInt8), ([71] : List UInt8)] : List Wc) : Nat) : Int), 0, ()), ())) (se (fun y7 => (some (y7.1.1, ()))) (fun z8 => none)))))
def strings_Join (a : List Wc) (b : List UInt8) : Option (List UInt8 × Unit) := Yt a b
def Ig (a0 : Gd) (a1 : Wc) : Option Wf :=
 (ob (strings_Join a0 a1) fun r1 =>
 (some (r1.1, ())))
def Yd (t1 : Unit) (t3 : Gd) (t10 : Xf) (t11 : Int) (t12 : Int) (b1 : Qb) : Option (((Unit × (Gd × St)) × Zh) ⊕ (((Unit × Rm) × Zh) ⊕ Jj)) :=
 (cond (decide (t12 < t11))
 (ob (Vd t10 t12) fun x8 =>
 (ob (Bi x8) fun r9 =>
 (cond (bl (ln t3 + ln ([r9.1] : List Wc)) Hd)
 (some (.inl (((), (ap t3 ([r9.1] : List Wc)), t10, t11, (wr .i64 (t12 + 1)), ()), (b1, ()))))
 none)))
 (some (.inr (.inl (((), t3, ()), (b1, ()))))))
def Le := Zb fun x : ((Unit × (Gd × St)) × Zh) => Yd x.1.1 x.1.2.1 x.1.2.2.1 x.1.2.2.2.1 x.1.2.2.2.2.1 x.2.1
def Jf (a0 : Qb) : Option Wf :=
 (ob (Ci a0) fun r1 =>
 (cond (!r1.1)
 (some ([], ()))
 (ob (Le (((), [], a0.2.1, ((ln a0.2.1 : Nat) : Int), 0, ()), (a0, ()))) (se (fun y10 => (ob (Og y10.2.1.1) fun r12 =>
 (cond (bl (ln r12.1 + ln ([58] : List UInt8)) Hd)
 (ob (Ig y10.1.2.1 ([44] : List UInt8)) fun r13 =>
 (cond (bl (ln (ap r12.1 ([58] : List UInt8)) + ln r13.1) Hd)
 (some ((ap (ap r12.1 ([58] : List UInt8)) r13.1), ()))
 none))
 none))) (fun z11 => none)))))
def Mf (t1 : Unit) (t3 : Int) (b1 : Qb) : Option ((QC × Zh) ⊕ ((Jj × Zh) ⊕ OC)) :=
 (cond (decide (t3 < ((ln b1.2.1 : Nat) : Int)))
 (ob (Vd b1.2.1 t3) fun x9 =>
 (ob (Dh x9 1 56) fun r10 =>
 (cond (!r10.1)
 (some (.inr (.inr ((false, ()), ()))))
 (cond (decide (t3 > 0))
 (ob (Vd b1.2.1 (wr .i64 (t3 - 1))) fun x11 =>
 (ob (Vd b1.2.1 t3) fun x12 =>
 (cond (decide (x11 ≥ x12))
 (some (.inr (.inr ((false, ()), ()))))
 (some (.inl (((), (wr .i64 (t3 + 1)), ()), (b1, ())))))))
 (some (.inl (((), (wr .i64 (t3 + 1)), ()), (b1, ()))))))))
 (some (.inr (.inl (((), ()), (b1, ()))))))
def Dg := Zb fun x : (QC × Zh) => Mf x.1.1 x.1.2.1 x.2.1
def Ji (a0 : Qb) : Option Zl :=
 (ob (Dg (((), 0, ()), (a0, ()))) (se (fun y13 => (ob (Dh y13.2.1.1 0 15) fun r15 =>
 (some (r15.1, ())))) (fun z14 => (some (z14.1.1, ())))))
def Zd (t1 : Unit) (t3 : Gd) (t4 : Int) (b1 : Qb) : Option (((Unit × (Gd × Mh)) × Zh) ⊕ (((Unit × Rm) × Zh) ⊕ Jj)) :=
 (cond (decide (t4 < ((ln b1.2.1 : Nat) : Int)))
 (ob (Vd b1.2.1 t4) fun x6 =>
 (ob (Ii x6) fun r7 =>
 (cond (bl (ln t3 + ln ([r7.1] : List Wc)) Hd)
 (some (.inl (((), (ap t3 ([r7.1] : List Wc)), (wr .i64 (t4 + 1)), ()), (b1, ()))))
 none)))
 (some (.inr (.inl (((), t3, ()), (b1, ()))))))
def Me := Zb fun x : ((Unit × (Gd × Mh)) × Zh) => Zd x.1.1 x.1.2.1 x.1.2.2.1 x.2.1
def Lf (a0 : Qb) : Option Wf :=
 (ob (Ji a0) fun r1 =>
 (cond (!r1.1)
 (some ([], ()))
 (ob (Me (((), [], 0, ()), (a0, ()))) (se (fun y8 => (ob (Sg y8.2.1.1) fun r10 =>
 (cond (bl (ln r10.1 + ln ([58] : List UInt8)) Hd)
 (ob (Se y8.1.2.1 ([44] : List UInt8)) fun r11 =>
 (cond (bl (ln (ap r10.1 ([58] : List UInt8)) + ln r11.1) Hd)
 (some ((ap (ap r10.1 ([58] : List UInt8)) r11.1), ()))
 none))
 none))) (fun z9 => none)))))
def Qe (t0 : Ze) (t3 : Gd) (t4 : Int) : Option (((Ze × (Gd × Mh)) × Unit) ⊕ ((Rm × Unit) ⊕ Jj)) :=
 (cond (decide (t4 < ((ln t0 : Nat) : Int)))
 (ob (Vd t0 t4) fun x9 =>
 (ob (Kh x9.1) fun r10 =>
 (cond (bl (ln r10.1 + ln ([32] : List UInt8)) Hd)
 (ob (Vd t0 t4) fun x11 =>
 (ob (Lf x11.2.1) fun r12 =>
 (cond (bl (ln (ap r10.1 ([32] : List UInt8)) + ln r12.1) Hd)
 (cond (bl (ln t3 + ln ([(ap (ap r10.1 ([32] : List UInt8)) r12.1)] : List Wc)) Hd)
 (some (.inl ((t0, (ap t3 ([(ap (ap r10.1 ([32] : List UInt8)) r12.1)] : List Wc)), (wr .i64 (t4 + 1)), ()), ())))
 none)
 none)))
 none)))
 (some (.inr (.inl ((t3, ()), ())))))
def Df := Zb fun x : ((Ze × (Gd × Mh)) × Unit) => Qe x.1.1 x.1.2.1 x.1.2.2.1
def We (a0 : Ze) : Option Wf :=
 (ob (Df ((a0, [], 0, ()), ())) (se (fun y13 => (cond (((ln y13.1.1 : Nat) : Int) == 0)
 (some (([45] : List UInt8), ()))
 (ob (Se y13.1.1 ([59, 32] : List UInt8)) fun r15 =>
 (some (r15.1, ()))))) (fun z14 => none)))
def strconv_Itoa (a : Int) : Option (List UInt8 × Unit) := Xt a
def Hh (a0 : Int) : Option Wf :=
 (ob (strconv_Itoa a0) fun r1 =>
 (some (r1.1, ())))
def Oe (t3 : Gd) (t9 : Ze) (t10 : Int) (t11 : Int) : Option (((Gd × Wt) × Unit) ⊕ ((Rm × Unit) ⊕ Jj)) :=
 (cond (decide (t11 < t10))
 (ob (Vd t9 t11) fun x10 =>
 (ob (Hh x10.1) fun r11 =>
 (cond (bl (ln r11.1 + ln ([32] : List UInt8)) Hd)
 (ob (Jf x10.2.1) fun r12 =>
 (cond (bl (ln (ap r11.1 ([32] : List UInt8)) + ln r12.1) Hd)
 (cond (bl (ln t3 + ln ([(ap (ap r11.1 ([32] : List UInt8)) r12.1)] : List Wc)) Hd)
 (some (.inl (((ap t3 ([(ap (ap r11.1 ([32] : List UInt8)) r12.1)] : List Wc)), t9, t10, (wr .i64 (t11 + 1)), ()), ())))
 none)
 none))
 none)))
 (some (.inr (.inl ((t3, ()), ())))))
def Bf := Zb fun x : ((Gd × Wt) × Unit) => Oe x.1.1 x.1.2.1 x.1.2.2.1 x.1.2.2.2.1
def Te (a0 : Ze) : Option Wf :=
 (cond (((ln a0 : Nat) : Int) == 0)
 (some (([45] : List UInt8), ()))
 (ob (Bf (([], a0, ((ln a0 : Nat) : Int), 0, ()), ())) (se (fun y13 => (ob (Ig y13.1.1 ([59, 32] : List UInt8)) fun r15 =>
 (some (r15.1, ())))) (fun z14 => none))))
def Td (a0 : Ze) : Option Zl :=
 (ob (Wi a0 1048576) fun r1 =>
 (cond (decide (r1.1 < 0))
 (some (true, ()))
 (ob (Ah a0) fun r2 =>
 (ob (We r2.1) fun r3 =>
 (ob (Ah a0) fun r4 =>
 (ob (Te r4.1) fun r5 =>
 (cond (r5.1 != r3.1)
 (some (false, ()))
 (ob (Ah a0) fun r6 =>
 (ob (Vi r4.1 r6.1) fun r7 =>
 (cond (!r7.1)
 (some (false, ()))
 (some (true, ()))))))))))))
end
theorem IA (a : (List Int)) (hr : Dj (.sl int) a) (l : Nat) (hl : l ≤ Mb) : Yj a (l : Int) = some (Wr (Jb (.sl int) a) l, ()) := WJ (e := int) (F := Yj) a hr l hl rfl rfl
theorem Wv (a : Qb) (hr : Dj Xa a) (l : Nat) (hl : l ≤ Mb) : Ei a (l : Int) = some (Wr (Jb Xa a) l, ()) := by
 unfold Ei
 have hs : Jb Xa a = Jb (.sl int) a.2.1 := by simp only [Jb, Nat.add_zero, jr, js]
 rw [IA a.2.1 hr.2.1 (l) (by omega)]
 simp only [jb]
 by_cases h0 : Jb (.sl int) a.2.1 ≤ l
 case neg => rw [Cj h0, Cj (by omega)]; rfl
 rw [Jk h0, Ta (by omega)]
 simp only [cond_false]
 rw [Jk (by omega), hs]
 try simp only [Nat.sub_sub, js]
theorem JA (a : Kd) (hr : Dj Vb a) (l : Nat) (hl : l ≤ Mb) : Uh a (l : Int) = some (Wr (Jb Vb a) l, ()) := by
 unfold Uh
 have hs : Jb Vb a = Jb Xa a.2.1 := by simp only [Jb, Nat.add_zero, jr, js]
 rw [Wv a.2.1 hr.2.1 (l) (by omega)]
 simp only [jb]
 by_cases h0 : Jb Xa a.2.1 ≤ l
 case neg => rw [Cj h0, Cj (by omega)]; rfl
 rw [Jk h0, Ta (by omega)]
 simp only [cond_false]
 rw [Jk (by omega), hs]
 try simp only [Nat.sub_sub, js]
theorem Dy (a : (List Kd)) (hr : Dj (.sl Vb) a) (l : Nat) (hl : l ≤ Mb) : Wi a (l : Int) = some (Wr (Jb (.sl Vb) a) l, ()) := DK (e := Vb) (f := Uh) (F := Wi) a hr l hl JA rfl
theorem MA (a : (List Int)) (hz : Jb (.sl int) a ≤ Mb) : Zj a = some (a, ()) := by
 have h20 : Mb = 1048576 := rfl
 have hz' : ja a + (List.map (Jb int) a).sum ≤ Mb := hz
 have hl := Ws (step := fun x : (((List Int) × ((List Int) × (Int × Unit))) × Unit) => Qg x.1.1 x.1.2.1 x.1.2.2.1) a (zT int) (fun o i => ((a, o, i, ()), ())) (fun o => .inl ((o, ()), ())) (by
  intro k hk o ho
  simp only [Qg]
  rw [Za (show (k : Int) < (ja a : Int) by omega), Of hk]
  simp only [cond_true, jb]
  rw [Is, Za (show k < ja o by omega)]
  simp [je (show k < ja o by omega)]) (by
  intro o
  simp [Qg]) (by omega)
 unfold Zj Zg
 rw [Gw (by rw [Xz]; omega)]
 simp only [cond_true]
 rw [show jw ((ja a : Nat) : Int) = ja a by simp]
 erw [hl]
 rfl
theorem Xv (a : Qb) (hz : Jb Xa a ≤ Mb) : Fi a = some (a, ()) := by
 unfold Fi
 have hs : Jb Xa a = Jb (.sl int) a.2.1 := by simp only [Jb, Nat.add_zero, jr, js]
 rw [MA a.2.1 (by omega)]
 simp only [jb]
theorem NA (a : Kd) (hz : Jb Vb a ≤ Mb) : Vh a = some (a, ()) := by
 unfold Vh
 have hs : Jb Vb a = Jb Xa a.2.1 := by simp only [Jb, Nat.add_zero, jr, js]
 rw [Xv a.2.1 (by omega)]
 simp only [jb]
theorem Ey (a : (List Kd)) (hz : Jb (.sl Vb) a ≤ Mb) : Ah a = some (a, ()) := EK (e := Vb) _ _ (f := Vh) a hz NA rfl
theorem Vy (a : (List Int)) (hz : Jb (.sl int) a ≤ Ai) : Xj a a = some (true, ()) := by
 have h40 : Ai = 1099511627776 := rfl
 have hz' : ja a + (List.map (Jb int) a).sum ≤ Ai := hz
 have hl := Sl (step := fun x : (((List Int) × ((List Int) × (Int × Unit))) × Unit) => Pg x.1.1 x.1.2.1 x.1.2.2.1) (fun k => ((a, a, (k : Int), ()), ())) (ja a) (.inl ((), ())) (by
  intro k hk
  simp only [Pg]
  rw [Za (show (k : Int) < (ja a : Int) by omega), Of hk]
  simp only [cond_true, jb]
  rw [bne_self_eq_false']
  simp only [cond_false]
  rw [Gh (by omega)]) (by
  simp [Pg])
 unfold Xj Yg
 rw [bne_self_eq_false']
 simp only [cond_false]
 erw [hl]
 rfl
theorem Ov (a : Qb) (hz : Jb Xa a ≤ Ai) : Di a a = some (true, ()) := by
 unfold Di
 have hs : Jb Xa a = Jb (.sl int) a.2.1 := by simp only [Jb, Nat.add_zero, jr, js]
 simp only [bne_self_eq_false', cond_false, jg, jb, Vy a.2.1 (by omega)]
theorem Wy (a : Kd) (hz : Jb Vb a ≤ Ai) : Th a a = some (true, ()) := by
 unfold Th
 have hs : Jb Vb a = Jb Xa a.2.1 := by simp only [Jb, Nat.add_zero, jr, js]
 simp only [bne_self_eq_false', cond_false, jg, jb, Ov a.2.1 (by omega)]
theorem Dx (a : (List Kd)) (hz : Jb (.sl Vb) a ≤ Ai) : Vi a a = some (true, ()) := CK (e := Vb) (f := Th) (F := Vi) a hz Wy rfl
def Iy (k c m n : Int) : Prop :=
 ((k = 0 ∨ k = 1 ∨ k = 10) ∧ c = 0 ∧ m = 0 ∧ n = 0) ∨
 (k = 2 ∧ n = 0 ∧ (c = 0 ∨ 1 ≤ c ∧ c ≤ 56) ∧ (m = 0 ∨ 1 ≤ m ∧ m ≤ 15) ∧ (c ≠ 0 ∨ m ≠ 0)) ∨
 ((k = 3 ∨ k = 4) ∧ c = 0 ∧ m = 0 ∧ 1 ≤ n ∧ n ≤ 3) ∨
 ((k = 5 ∨ k = 9) ∧ c = 0 ∧ m = 0 ∧ 0 ≤ n ∧ n ≤ 3) ∨
 (k = 6 ∧ 1 ≤ c ∧ c ≤ 56 ∧ 1 ≤ m ∧ m ≤ 15 ∧ n = 0) ∨
 (k = 7 ∧ 1 ≤ c ∧ c ≤ 56 ∧ m = 0 ∧ 1 ≤ n ∧ n ≤ 3) ∨
 (k = 8 ∧ c = 0 ∧ 1 ≤ m ∧ m ≤ 15 ∧ n = 0)
noncomputable def Zs (a : Uo) : Bool := open Classical in decide (Iy a.1 a.2.1 a.2.2.1 a.2.2.2.1)
theorem Hs (c : Int) : Wj c = some (decide (1 ≤ c ∧ c ≤ 56), ()) := by
 simp only [Wj, Us, Vs]
 apply Ft; simp only [Ku, decide_eq_true_eq, Gu, Hu, jp, and_false, false_and, or_false, false_or, and_true, true_and, not_true_eq_false, not_false_eq_true]; try omega
theorem Eh (c a b : Int) : Dh c a b = some (decide (a ≤ c ∧ c ≤ b), ()) := by
 simp only [Dh, Us, Vs]
 apply Ft; simp only [Ku, decide_eq_true_eq, Gu, Hu, jp, and_false, false_and, or_false, false_or, and_true, true_and, not_true_eq_false, not_false_eq_true]; try omega
noncomputable def QF (nl : Nat) (i : Nat) (a : Uo) : Bool := Zs a && !(((i : Int) == 0) && (a.1 == 1)) && !((a.1 != 9) && decide (a.2.2.2.1 ≥ (nl : Int)))
structure VH (m : WC) : Prop where
 k1 : 1 ≤ m.1
 k2 : m.1 ≤ 32
 l1 : 1 ≤ m.2.1.length
 l2 : m.2.1.length ≤ 4
 row : ∀ i (h : i < m.2.1.length), (m.2.1[i].length : Int) = m.1
 act : ∀ i (h : i < m.2.1.length) k (hk : k < m.2.1[i].length), QF m.2.1.length i m.2.1[i][k] = true



def Ps {X R : Type} (step : X → Option (X ⊕ R)) : Nat → X → Option R
 | 0, _ => none
 | n + 1, x => match step x with
  | some (.inl y) => Ps step n y
  | some (.inr r) => some r
  | none => none
theorem Dp {X R : Type} {step : X → Option (X ⊕ R)} : ∀ (n : Nat) {x : X} {r : R}, Ps step n x = some r → Zb step x = some r
 | 0, _, _, h => by simp [Ps] at h
 | n + 1, x, r, h => by
  unfold Ps at h
  cases hs : step x with
  | none => rw [hs] at h; simp at h
  | some z =>
   rw [hs] at h
   rw [Pd hs]
   cases z with
   | inl y => exact Dp n h
   | inr r' => exact h
def Tj : List (List UInt8) := [[97], [98], [99], [100], [101], [102], [103], [104], [105], [106], [107], [108], [109], [110], [111], [112], [113], [114], [115], [116], [117], [118], [119], [120], [121], [122], [49], [50], [51], [52], [53], [54], [55], [56], [57], [48], [101, 110, 116, 101, 114], [101, 115, 99], [98, 97, 99, 107], [116, 97, 98], [115, 112, 97, 99, 101], [109, 105, 110, 117, 115], [101, 113, 117, 97, 108], [108, 101, 102, 116], [114, 105, 103, 104, 116], [117, 112], [100, 111, 119, 110], [102, 49], [102, 50], [102, 51], [102, 52], [102, 53], [102, 54], [102, 55], [102, 56], [102, 57]]
theorem Zx : Bj = some (Tj, ()) := by
 unfold Bj Pj Sf
 erw [Dp 400 (r := .inl ((Tj, ()), ())) (by kernel_rfl)]
 rfl
theorem Jx : strings_Split Qk [32] = some (Tj, ()) := by kernel_rfl
def Rg (c : Int) : List UInt8 := cond (decide (1 ≤ c ∧ c ≤ 56)) (Tj.getD (c - 1).toNat []) []
theorem Qy : Tj.length = 56 := by decide +kernel
theorem Iw {c : Int} (h : 1 ≤ c ∧ c ≤ 56) : Tj[(c - 1).toNat]? = some (Rg c) ∧ Fj Tj.length (c - 1) = true := by
 have hl : (c - 1).toNat < Tj.length := by rw [Qy]; omega
 constructor
 ·unfold Rg
  rw [Za h, cond_true, qd, je hl]; rfl
 ·have : c - 1 = (((c - 1).toNat : Nat) : Int) := by omega
  rw [this, Is]; exact Za hl
theorem Zp (c : Int) : Bi c = some (Rg c, ()) := by
 unfold Bi
 by_cases h1 : c < 1
 ·rw [Za h1]; unfold Rg; rw [Ta (show ¬ (1 ≤ c ∧ c ≤ 56) by omega)]; rfl
 rw [Ta h1]
 by_cases h2 : c > 56
 ·rw [Za h2]; unfold Rg; rw [Ta (show ¬ (1 ≤ c ∧ c ≤ 56) by omega)]; rfl
 rw [Ta h2, Jx]
 obtain ⟨e1, e2⟩ := Iw (c := c) (by omega)
 simp only [cond_false, jb]
 rw [Jg (by omega) (by omega), e1, e2]
 rfl
theorem Pq (c : Int) : Ii c = some (Rg c, ()) := by
 unfold Ii
 rw [Eh]
 by_cases h : 1 ≤ c ∧ c ≤ 56
 ·rw [Za h, Zx]
  obtain ⟨e1, e2⟩ := Iw h
  simp only [jg, cond_false, jb]
  rw [Jg (by omega) (by omega), e1, e2]
  rfl
 ·rw [Ta h]; unfold Rg; rw [Ta h]; rfl
structure BK (x : DG) : Prop where
 lo : 0 ≤ x.1
 hi : x.1 ≤ 31
 act : Zs x.2.1 = true
 n1 : x.2.1.1 ≠ 1
 n6 : x.2.1.1 ≠ 6
 n7 : x.2.1.1 ≠ 7




theorem Ld {n : Nat} (h : n ≤ 1073741824) : jv n Hd = true := ji h
theorem Dr {α β : Type} (f : α → β) : ∀ (xs : List α) (k : Nat) (o : List β), Nl (fun _ o x => jf o [f x]) k o xs = o ++ xs.map f
 | [], _, o => by simp [Nl]
 | x :: r, k, o => by
  simp only [Nl]
  rw [Dr f r]
  simp
theorem Rl {X R α β : Type} {step : X → Option (X ⊕ R)} (xs : List α) (f : α → β) (I : List β → Int → X) (out : List β → R) (hn : xs.length ≤ 1073741824)
 (h : ∀ k (hk : k < xs.length) (o : List β), ja o = k → step (I o (k : Int)) = some (.inl (I (jf o [f xs[k]]) (jy .i64 ((k : Int) + 1)))))
 (he : ∀ o : List β, step (I o (xs.length : Int)) = some (.inr (out o))) : Zb step (I [] 0) = some (out (xs.map f)) := by
 have := (Px (step := step) xs (fun _ o x => jf o [f x]) I out (fun k o => ja o = k) (fun k hk o ho => ⟨h k hk o ho, by simp [ho]⟩) (fun o _ => he o) (by omega) [] rfl).1
 rw [this, Dr]
 rfl
theorem XF (a : List Int) : Jb (.sl int) a = a.length := Iv (e := int) rfl a
theorem MC (r : Qb) : Jb Xa r = r.2.1.length := by
 show 0 + (Jb (.sl int) r.2.1 + 0) = _
 rw [XF]; omega
theorem JC {a : List Kd} (hz : Jb (.sl Vb) a ≤ Mb) {k : Nat} (hk : k < a.length) : a[k].2.1.2.1.length ≤ Mb := by
 have h1 : Jb (.sl Vb) a = ja a + (List.map (Jb Vb) a).sum := rfl
 have h2 := Jn (f := Jb Vb) hk
 have h3 : Jb Vb a[k] = Jb Xa a[k].2.1 := by
  show 0 + (Jb Xa a[k].2.1 + 0) = _
  omega
 rw [MC] at h3
 omega
def Zi (l : List Int) (k : Nat) (x : Int) : Bool := decide (1 ≤ x ∧ x ≤ 56) && (decide (k = 0) || !decide (l.getD (k - 1) 0 ≥ x))
def Wd (r : Qb) : Bool := decide (0 ≤ r.1 ∧ r.1 ≤ 15) && Am (fun k x => Zi r.2.1 k x) 0 r.2.1
theorem Dv {l : List Int} {k : Nat} (h0 : 0 < k) (hk : k ≤ l.length) (hn : l.length ≤ Mb) : Vd l (jy .i64 ((k : Int) - 1)) = some (l.getD (k - 1) 0) := by
 have h20 : Mb = 1048576 := rfl
 rw [Jg (by omega) (by omega), show (k : Int) - 1 = ((k - 1 : Nat) : Int) by omega, Of (by omega)]
 simp [List.getD, je (show k - 1 < l.length by omega)]
theorem Aq (r : Qb) (hn : r.2.1.length ≤ Mb) : Ci r = some (Wd r, ()) := by
 have h20 : Mb = 1048576 := rfl
 have hl := At (step := fun x => Kf x.1.1 x.1.2.1 x.1.2.2.1 x.1.2.2.2.1 x.2.1) r.2.1 (fun k x => Zi r.2.1 k x) (fun i => (((), r.2.1, ((ja r.2.1 : Nat) : Int), i, ()), (r, ())))
  (.inl ((), ())) (.inr ((false, ()), ())) (by
   intro k hk
   simp only [Kf]
   rw [Za (show (k : Int) < ((ja r.2.1 : Nat) : Int) by omega), Of hk]
   simp only [cond_true, jb, Hs, Zi]
   by_cases h0 : k = 0
   ·subst h0
    rw [Ta (show ¬ ((0 : Nat) : Int) > 0 by omega)]
    simp only [cond_false]
    cases decide (1 ≤ r.2.1[0] ∧ r.2.1[0] ≤ 56) <;> rfl
   ·rw [Za (show (k : Int) > 0 by omega), Dv (by omega) (by omega) hn, Ta h0]
    simp only [cond_true, jb, Bool.false_or]
    cases decide (1 ≤ r.2.1[k] ∧ r.2.1[k] ≤ 56) <;> cases decide (r.2.1.getD (k - 1) 0 ≥ r.2.1[k]) <;> rfl) (by
   simp only [Kf]
   rw [Ta (by omega)]; rfl) (by omega)
 unfold Ci Zf Wd
 by_cases h1 : 0 ≤ r.1 ∧ r.1 ≤ 15
 ·rw [Ta (show ¬ r.1 < 0 by omega), Ta (show ¬ r.1 > 15 by omega), Za h1]
  simp only [cond_false, jk]
  erw [hl]
  cases Am (fun k x => Zi r.2.1 k x) 0 r.2.1 <;> rfl
 ·rw [Ta h1]
  by_cases h2 : r.1 < 0
  ·rw [Za h2]; rfl
  ·rw [Ta h2, Za (show r.1 > 15 by omega)]; rfl
theorem Qq (r : Qb) (hn : r.2.1.length ≤ Mb) : Ji r = some (Wd r, ()) := by
 have h20 : Mb = 1048576 := rfl
 have hl := At (step := fun x => Mf x.1.1 x.1.2.1 x.2.1) r.2.1 (fun k x => Zi r.2.1 k x) (fun i => (((), i, ()), (r, ())))
  (.inl (((), ()), (r, ()))) (.inr ((false, ()), ())) (by
   intro k hk
   simp only [Mf]
   rw [Za (show (k : Int) < ((ja r.2.1 : Nat) : Int) by omega), Of hk]
   simp only [cond_true, jb, Eh, Zi]
   by_cases h0 : k = 0
   ·subst h0
    rw [Ta (show ¬ ((0 : Nat) : Int) > 0 by omega)]
    simp only [cond_false]
    cases decide (1 ≤ r.2.1[0] ∧ r.2.1[0] ≤ 56) <;> rfl
   ·rw [Za (show (k : Int) > 0 by omega), Dv (by omega) (by omega) hn, Ta h0]
    simp only [cond_true, jb, Bool.false_or]
    cases decide (1 ≤ r.2.1[k] ∧ r.2.1[k] ≤ 56) <;> cases decide (r.2.1.getD (k - 1) 0 ≥ r.2.1[k]) <;> rfl) (by
   simp only [Mf]
   rw [Ta (by omega)]; rfl) (by omega)
 unfold Ji Dg Wd
 erw [hl]
 cases Am (fun k x => Zi r.2.1 k x) 0 r.2.1 with
 | true => simp only [cond_true, jb, qe, Eh, Bool.and_true]
 | false => cases decide (0 ≤ r.1 ∧ r.1 ≤ 15) <;> rfl
theorem Vv (l : List UInt8) : Eg (Rb l) = l := by
 unfold Eg Rb
 rw [List.map_map]
 conv => rhs; rw [← List.map_id l]
 apply List.map_congr_left
 intro x _
 simp
theorem Mv (a b : List UInt8) : Rb (a ++ b) = Rb a ++ Rb b := by simp [Rb]
theorem Cm (a : List UInt8) : (Rb a).length = a.length := by simp [Rb]
theorem ZC (u : Nat) (h : ¬ u < 10) : Lib.decDigits u = Lib.decDigits (u / 10) ++ [UInt8.ofNat (48 + u % 10)] := by rw [Lib.decDigits, dif_neg h]
theorem Ry (u : Nat) (h : u < 10) : Lib.decDigits u = [UInt8.ofNat (48 + u)] := by rw [Lib.decDigits, dif_pos h]
theorem Hw (u : Nat) (h : u < 10 ^ 20) : Lib.nDigits u ≤ 20 := by
 apply Classical.byContradiction
 intro hn
 have h2 : ∀ k u, 10 ^ k ≤ u ∨ Lib.nDigits u ≤ k ∨ k = 0 := by
  intro k
  induction k with
  | zero => intro u; right; right; rfl
  | succ k ih =>
   intro u
   by_cases hu : u < 10
   ·right; left; rw [Lib.nDigits_small hu]; omega
   ·rcases ih (u / 10) with h | h | h
    ·left; rw [Nat.pow_succ]; omega
    ·right; left; rw [Lib.nDigits_big hu]; omega
    ·subst h; left; simpa using Nat.le_of_not_lt hu
 rcases h2 20 u with h3 | h3 | h3 <;> omega
theorem Bs {d : Int} (h : 0 ≤ d ∧ d ≤ 9) : Eg [jy .u8 (jy .i64 (48 + d))] = [UInt8.ofNat (48 + d.toNat)] := by
 rw [Jg (by omega) (by omega), GG (by omega) (by omega)]
 show [UInt8.ofNat (48 + d).toNat] = _
 rw [show (48 + d).toNat = 48 + d.toNat by omega]
theorem Sv (n : Int) : ∀ (v : Nat) (x : Int) (acc : List UInt8), 1 ≤ v → (x = (v : Int) ∨ x = -(v : Int)) → v ≤ 9223372036854775808 → acc.length + Lib.nDigits v ≤ 100 →
 Rc ((n, acc, x, ()), ()) = some (.inl ((n, Lib.decDigits v ++ acc, ()), ())) := by
 intro v
 induction v using Nat.strongRecOn with
 | _ v ih =>
 intro x acc hv hx hb hl
 unfold Rc
 have hd := Lib.nDigits_pos v
 obtain ⟨d, hdd⟩ : ∃ d, v % 10 = d := ⟨_, rfl⟩
 have hs : Ve n acc x = some (.inl ((n, UInt8.ofNat (48 + d) :: acc, Int.tdiv x 10, ()), ())) := by
  unfold Ve
  rw [show (x != 0) = true by rw [bne_iff_ne]; omega]
  simp only [cond_true, show ((10 : Int) == 0) = false from rfl, cond_false]
  rcases hx with rfl | rfl
  ·have e : Int.tmod (v : Int) 10 = (d : Int) := by rw [Int.tmod_eq_emod_of_nonneg (by omega)]; omega
   have e2 : Int.tdiv (v : Int) 10 = ((v / 10 : Nat) : Int) := by rw [Int.tdiv_eq_ediv_of_nonneg (by omega)]; omega
   rw [e, e2, Ta (show ¬ (d : Int) < 0 by omega), cond_false, Bs (d := (d : Int)) (by omega), Jg (n := ((v / 10 : Nat) : Int)) (by omega) (by omega)]
   simp only [ju, j4]
   rw [Ld (by omega)]
   rfl
  ·have e : Int.tmod (-(v : Int)) 10 = -(d : Int) := by rw [Int.neg_tmod, Int.tmod_eq_emod_of_nonneg (by omega)]; omega
   have e2 : Int.tdiv (-(v : Int)) 10 = -((v / 10 : Nat) : Int) := by rw [Int.neg_tdiv, Int.tdiv_eq_ediv_of_nonneg (by omega)]; omega
   rw [e, e2]
   by_cases h0 : d = 0
   ·subst h0
    rw [show (-((0 : Nat) : Int)) = 0 by omega, Ta (show ¬ (0 : Int) < 0 by omega), cond_false, Bs (d := 0) (by omega), Jg (n := -((v / 10 : Nat) : Int)) (by omega) (by omega)]
    simp only [ju, j4]
    rw [Ld (by omega)]
    rfl
   ·rw [Za (show -(d : Int) < 0 by omega), cond_true, Jg (n := 0 - -(d : Int)) (by omega) (by omega), show (0 : Int) - -(d : Int) = (d : Int) by omega, Bs (d := (d : Int)) (by omega), Jg (n := -((v / 10 : Nat) : Int)) (by omega) (by omega)]
    simp only [ju, j4]
    rw [Ld (by omega)]
    rfl
 rw [Pd hs]
 show Rc ((n, UInt8.ofNat (48 + d) :: acc, Int.tdiv x 10, ()), ()) = _
 have hx2 : Int.tdiv x 10 = ((v / 10 : Nat) : Int) ∨ Int.tdiv x 10 = -((v / 10 : Nat) : Int) := by
  rcases hx with rfl | rfl
  ·left; rw [Int.tdiv_eq_ediv_of_nonneg (by omega)]; omega
  ·right; rw [Int.neg_tdiv, Int.tdiv_eq_ediv_of_nonneg (by omega)]; omega
 by_cases hten : v < 10
 ·have hz : Int.tdiv x 10 = 0 := by
   rw [show v / 10 = 0 by omega] at hx2
   omega
  rw [hz, Ry v hten]
  unfold Rc
  rw [Pd (z := some (.inr (.inl ((n, UInt8.ofNat (48 + d) :: acc, ()), ())))) (by simp [Ve])]
  rw [show d = v by omega]
  rfl
 ·rw [ih (v / 10) (by omega) _ _ (by omega) hx2 (by omega) (by
   have := Lib.nDigits_big hten
   simp only [ju]; omega), ZC v hten, hdd]
  simp
theorem Hp {n : Int} (h : -9223372036854775808 ≤ n ∧ n ≤ 9223372036854775807) : Kh n = some (Lib.itoa n, ()) := by
 unfold Kh
 by_cases h0 : n = 0
 ·subst h0
  have : Lib.itoa 0 = [48] := by
   unfold Lib.itoa
   rw [if_neg (by omega)]
   show Lib.decDigits 0 = _
   rw [Ry 0 (by omega)]
   rfl
  rw [this]
  rfl
 ·have hN := Hw n.natAbs (by omega)
  have hl := Lib.decDigits_length n.natAbs
  rw [show (n == 0) = false by simpa using h0, Sv n n.natAbs n [] (by omega) (by omega) (by omega) (by simp; omega)]
  simp only [cond_false, jb, qe, List.append_nil]
  unfold Lib.itoa
  by_cases hneg : n < 0
  ·rw [Za hneg, if_pos hneg, Ld (by simp only [ju, j4]; omega)]
   rfl
  ·rw [Ta hneg, if_neg hneg, show n.toNat = n.natAbs by omega]
   rfl
theorem Gp {n : Int} (h : -9223372036854775808 ≤ n ∧ n ≤ 9223372036854775807) : Hh n = some (Lib.itoa n, ()) := by
 unfold Hh strconv_Itoa Xt
 rw [Za h.1, Za h.2]
 rfl
theorem Bq {n : Int} (h : -9223372036854775808 ≤ n ∧ n ≤ 9223372036854775807) : (Lib.itoa n).length ≤ 21 := by
 have hN := Hw n.natAbs (by omega)
 have hl := Lib.decDigits_length n.natAbs
 unfold Lib.itoa
 by_cases hneg : n < 0
 ·rw [if_pos hneg]; simp only [ju]; omega
 ·rw [if_neg hneg, show n.toNat = n.natAbs by omega]; omega
theorem Fl {l : List (List UInt8)} {by_ : List UInt8} (h1 : l.length ≤ 1073741824) (h2 : (Lib.join l by_).length ≤ 1073741824) : Ig l by_ = some (Lib.join l by_, ()) := by
 unfold Ig strings_Join Yt
 rw [ji h1, ji h2]
 rfl
theorem Kl {l : List (List UInt8)} {by_ : List UInt8} (h1 : l.length ≤ 1073741824) (h2 : (Lib.join l by_).length ≤ 1073741824) : Se l by_ = some (Lib.join l by_, ()) := by
 cases l with
 | nil =>
  unfold Se He
  rw [Pd (z := some (.inr (.inl (([], ()), ())))) (by simp [Ee])]
  rfl
 | cons x r =>
  rw [Lib.join_cons] at h2 ⊢
  have hlen : ∀ k, (Lib.joinTail by_ (r.take k)).length ≤ (Lib.joinTail by_ r).length := fun k => Lib.joinTail_take_le by_ r k
  simp only [j9] at h2
  have hl := Sl (step := fun y : (List (List UInt8) × List UInt8 × List Int × Int × Unit) × Unit => Ee y.1.1 y.1.2.1 y.1.2.2.1 y.1.2.2.2.1)
   (fun k => ((x :: r, by_, cond (k == 0) [] (Rb (x ++ Lib.joinTail by_ (r.take (k - 1)))), (k : Int), ()), ())) (x :: r).length (.inl ((Rb (x ++ Lib.joinTail by_ r), ()), ())) (by
    intro k hk
    simp only [Ee]
    rw [Za (show (k : Int) < (((x :: r).length : Nat) : Int) by omega)]
    cases k with
    | zero =>
     rw [Ta (by omega)]
     simp only [cond_true, cond_false]
     rw [show ((0 : Nat) : Int) = 0 from rfl, PB]
     simp only [jb]
     rw [Ld (by simp [Cm]; omega)]
     simp [Lib.joinTail, Jg]
    | succ k =>
     have hk' : k < r.length := by simpa using hk
     rw [Za (by omega), Of hk]
     have e : (k + 1 == 0) = false := by simp
     have e2 : (k + 1 + 1 == 0) = false := by simp
     simp only [e, e2, cond_true, cond_false, jb, Nat.add_sub_cancel]
     have hr : Lib.joinTail by_ (r.take (k + 1)) = Lib.joinTail by_ (r.take k) ++ (by_ ++ r[k]) := by rw [Lib.joinTail_take_succ by_ r k r[k] (je hk'), List.append_assoc]
     have h3 := hlen (k + 1)
     rw [hr] at h3
     simp only [j9] at h3
     rw [Ld (by simp only [Cm, j9]; omega)]
     simp only [cond_true]
     rw [Ld (by simp only [List.append_eq, Cm, j9, List.getElem_cons_succ]; omega)]
     simp only [cond_true, List.getElem_cons_succ, List.append_eq]
     rw [hr, Gh (by omega)]
     simp [Mv]) (by
    simp only [Ee]
    rw [Ta (by omega)]
    simp)
  unfold Se He
  erw [hl]
  simp [Vv]
theorem Uu (l : List (List UInt8)) (s : List UInt8) (c : Nat) (h : ∀ x ∈ l, x.length ≤ c) : (Lib.join l s).length ≤ (c + s.length) * l.length := by
 cases l with
 | nil => simp [Lib.join_nil]
 | cons x r =>
  rw [Lib.join_cons, j9, Lib.joinTail_length]
  have h1 := h x (by simp)
  have h2 : Lib.lens r ≤ c * r.length := by
   clear h1
   induction r with
   | nil => simp [Lib.lens]
   | cons y r ih =>
    have := ih (fun z hz => h z (by simp at hz ⊢; rcases hz with hz | hz <;> simp [hz]))
    have h3 := h y (by simp)
    simp only [Lib.lens, List.map_cons, List.sum_cons, ju] at this ⊢
    rw [Nat.mul_succ]
    omega
  simp only [ju]
  rw [Nat.mul_succ, Nat.add_mul]
  omega
def Uk (m : Int) : List UInt8 := [[], [67], [83], [67, 83], [65], [67, 65], [83, 65], [67, 83, 65], [71], [67, 71], [83, 71], [67, 83, 71], [65, 71], [67, 65, 71], [83, 65, 71], [67, 83, 65, 71]].getD m.toNat []
theorem Kt : ∀ m : Fin 16, Ps (fun x : (Int × List UInt8 × List (List UInt8) × Int × Int × Unit) × Unit => Mg x.1.1 x.1.2.1 x.1.2.2.1 x.1.2.2.2.1 x.1.2.2.2.2.1) 10 (((m.val : Int), [], [[67], [83], [65], [71]], 4, 0, ()), ()) = some (.inl ((Uk m.val, ()), ())) := by
 intro m
 simp only [Mg]
 revert m
 decide +kernel
theorem Ot : ∀ m : Fin 16, Ps (fun x : (Int × List UInt8 × Int × Unit) × Unit => Pe x.1.1 x.1.2.1 x.1.2.2.1) 10 (((m.val : Int), [], 0, ()), ()) = some (.inl ((Uk m.val, ()), ())) := by
 intro m
 simp only [Pe, Eh]
 revert m
 decide +kernel
theorem Zm {m : Int} (h : ¬ (1 ≤ m ∧ m ≤ 15)) : Uk m = [] := by
 unfold Uk
 by_cases hm : m < 1
 ·rw [show m.toNat = 0 by omega]; rfl
 ·rw [qd, List.getElem?_eq_none (by simp; omega)]; rfl
theorem Bo (m : Int) : Og m = some (Uk m, ()) := by
 unfold Og
 by_cases h1 : m < 1
 ·rw [Za h1, Zm (by omega)]; rfl
 rw [Ta h1, cond_false]
 by_cases h2 : m > 15
 ·rw [Za h2, Zm (by omega)]; rfl
 rw [Ta h2, cond_false]
 have := Dp 10 (Kt ⟨m.toNat, by omega⟩)
 rw [show (((⟨m.toNat, by omega⟩ : Fin 16).val : Nat) : Int) = m by show ((m.toNat : Nat) : Int) = m; omega] at this
 unfold Af
 erw [this]
 rfl
theorem Mo (m : Int) : Sg m = some (Uk m, ()) := by
 unfold Sg Cf
 by_cases h : 1 ≤ m ∧ m ≤ 15
 ·have := Dp 10 (Ot ⟨m.toNat, by omega⟩)
  rw [show (((⟨m.toNat, by omega⟩ : Fin 16).val : Nat) : Int) = m by show ((m.toNat : Nat) : Int) = m; omega] at this
  erw [this]
  rfl
 ·rw [Pd (z := some (.inr (.inl (([], ()), ())))) (by
   simp only [Pe]
   rw [Eh, Ta h]
   rfl), Zm h]
  rfl
theorem Gq (m : Int) : (Uk m).length ≤ 4 := by
 by_cases h : 1 ≤ m ∧ m ≤ 15
 ·have : ∀ m : Fin 16, (Uk m.val).length ≤ 4 := by decide +kernel
  have := this ⟨m.toNat, by omega⟩
  rwa [show (((⟨m.toNat, by omega⟩ : Fin 16).val : Nat) : Int) = m by show ((m.toNat : Nat) : Int) = m; omega] at this
 ·rw [Zm h]; simp
theorem Yy (c : Int) : (Rg c).length ≤ 5 := by
 unfold Rg
 cases decide (1 ≤ c ∧ c ≤ 56) with
 | false => simp
 | true =>
  have h : ∀ x ∈ Tj, x.length ≤ 5 := by decide +kernel
  rw [cond_true, qd]
  cases hc : Tj[(c - 1).toNat]? with
  | none => simp
  | some y => exact h y (List.mem_of_getElem? hc)
def Iq (r : Qb) : List UInt8 := cond (Wd r) (jf (jf (Uk r.1) [58]) (Lib.join (r.2.1.map Rg) [44])) []
theorem Yn {r : Qb} (h : Wd r = true) : r.2.1.length ≤ 56 := by
 unfold Wd at h
 simp only [jd] at h
 have h2 := Ts.1 h.2
 have key : ∀ j (hj : j < r.2.1.length), (j : Int) + 1 ≤ r.2.1[j] ∧ r.2.1[j] ≤ 56 := by
  intro j
  induction j with
  | zero =>
   intro hj
   have := h2 0 hj
   simp only [Zi, jd, decide_eq_true_eq] at this
   omega
  | succ j ih =>
   intro hj
   have h3 := ih (by omega)
   have := h2 (j + 1) hj
   simp only [Zi, jd, Bool.or_eq_true, Bool.not_eq_true', decide_eq_true_eq, decide_eq_false_iff_not] at this
   have e : r.2.1.getD (0 + (j + 1) - 1) 0 = r.2.1[j] := by
    rw [show 0 + (j + 1) - 1 = j by omega, qd, je (by omega)]; rfl
   rw [e] at this
   omega
 apply Classical.byContradiction
 intro hn
 have := key 56 (by omega)
 omega
theorem Zn {r : Qb} (h : Wd r = true) : (Lib.join (r.2.1.map Rg) [44]).length ≤ 336 := by
 have h1 := Uu (r.2.1.map Rg) [44] 5 (fun x hx => by
  obtain ⟨c, _, rfl⟩ := qg.1 hx
  exact Yy c)
 have h2 := Yn h
 simp only [List.length_map, ju, j4] at h1
 omega
theorem Yp (r : Qb) : (Iq r).length ≤ 341 := by
 unfold Iq
 cases h : Wd r with
 | false => simp
 | true =>
  have := Zn h
  have := Gq r.1
  simp only [cond_true, List.append_eq, j9, ju, j4]
  omega
theorem Xm (r : Qb) (hn : r.2.1.length ≤ Mb) : Jf r = some (Iq r, ()) := by
 have h20 : Mb = 1048576 := rfl
 unfold Jf Iq
 rw [Aq r hn]
 cases hv : Wd r with
 | false => rfl
 | true =>
  simp only [jb, jg, cond_false, cond_true]
  have hk := Yn hv
  have hl := Rl (step := fun x : (Unit × List (List UInt8) × List Int × Int × Int × Unit) × Qb × Unit => Yd x.1.1 x.1.2.1 x.1.2.2.1 x.1.2.2.2.1 x.1.2.2.2.2.1 x.2.1) r.2.1 Rg
   (fun o k => (((), o, r.2.1, (r.2.1.length : Int), k, ()), (r, ()))) (fun o => .inl (((), o, ()), (r, ()))) (by omega) (fun k hk o ho => by
    simp only [Yd]
    rw [Za (by omega), Of hk]
    simp only [cond_true, jb]
    rw [Zp]
    simp only [jb]
    rw [Ld (by simp only [ju, j4]; omega)]
    rfl) (fun o => by
    simp only [Yd]
    rw [Ta (by omega)]
    rfl)
  unfold Le
  erw [hl]
  simp only [jb, qe]
  rw [Bo]
  have h1 := Gq r.1
  have h2 := Zn hv
  simp only [jb]
  rw [Ld (by simp only [ju, j4]; omega)]
  simp only [cond_true]
  rw [Fl (by simp; omega) (by omega)]
  simp only [jb]
  rw [Ld (by simp only [List.append_eq, j9, ju, j4]; omega)]
  rfl
theorem Gn (r : Qb) (hn : r.2.1.length ≤ Mb) : Lf r = some (Iq r, ()) := by
 have h20 : Mb = 1048576 := rfl
 unfold Lf Iq
 rw [Qq r hn]
 cases hv : Wd r with
 | false => rfl
 | true =>
  simp only [jb, jg, cond_false, cond_true]
  have hk := Yn hv
  have hl := Rl (step := fun x : (Unit × List (List UInt8) × Int × Unit) × Qb × Unit => Zd x.1.1 x.1.2.1 x.1.2.2.1 x.2.1) r.2.1 Rg
   (fun o k => (((), o, k, ()), (r, ()))) (fun o => .inl (((), o, ()), (r, ()))) (by omega) (fun k hk o ho => by
    simp only [Zd]
    rw [Za (by omega), Of hk]
    simp only [cond_true, jb]
    rw [Pq]
    simp only [jb]
    rw [Ld (by simp only [ju, j4]; omega)]
    rfl) (fun o => by
    simp only [Zd]
    rw [Ta (by omega)]
    rfl)
  unfold Me
  erw [hl]
  simp only [jb, qe]
  rw [Mo]
  have h1 := Gq r.1
  have h2 := Zn hv
  simp only [jb]
  rw [Ld (by simp only [ju, j4]; omega)]
  simp only [cond_true]
  rw [Kl (by simp; omega) (by omega)]
  simp only [jb]
  rw [Ld (by simp only [List.append_eq, j9, ju, j4]; omega)]
  rfl
def Fn (x : Kd) : List UInt8 := jf (jf (Lib.itoa x.1) [32]) (Iq x.2.1)
def Sr (l : List Kd) : List UInt8 := cond (((ja l : Nat) : Int) == 0) [45] (Lib.join (l.map Fn) [59, 32])
theorem Az {x : Kd} (h : -9223372036854775808 ≤ x.1 ∧ x.1 ≤ 9223372036854775807) : (Fn x).length ≤ 363 := by
 have h1 := Bq h
 have h2 := Yp x.2.1
 unfold Fn
 simp only [List.append_eq, j9, ju, j4]
 omega
theorem Gr {l : List Kd} (h : ∀ x ∈ l, -9223372036854775808 ≤ x.1 ∧ x.1 ≤ 9223372036854775807) : (Lib.join (l.map Fn) [59, 32]).length ≤ 365 * l.length := by
 have h1 := Uu (l.map Fn) [59, 32] 363 (fun x hx => by
  obtain ⟨c, hc, rfl⟩ := qg.1 hx
  exact Az (h c hc))
 simp only [List.length_map, ju, j4] at h1
 exact h1
theorem Co (l : List Kd) (h : ∀ x ∈ l, -9223372036854775808 ≤ x.1 ∧ x.1 ≤ 9223372036854775807) (hk : ∀ x ∈ l, x.2.1.2.1.length ≤ Mb) (hn : l.length ≤ Mb) : Te l = some (Sr l, ()) := by
 have h20 : Mb = 1048576 := rfl
 unfold Te Sr
 cases hc : ((ja l : Nat) : Int) == 0 with
 | true => rfl
 | false =>
  rw [cond_false, cond_false]
  have hl := Rl (step := fun x : (List (List UInt8) × List Kd × Int × Int × Unit) × Unit => Oe x.1.1 x.1.2.1 x.1.2.2.1 x.1.2.2.2.1) l Fn
   (fun o k => ((o, l, (l.length : Int), k, ()), ())) (fun o => .inl ((o, ()), ())) (by omega) (fun k hk2 o ho => by
    have hm : l[k] ∈ l := List.getElem_mem hk2
    have h1 := Bq (h _ hm)
    have h2 := Yp l[k].2.1
    simp only [Oe]
    rw [Za (by omega), Of hk2]
    simp only [cond_true, jb]
    rw [Gp (h _ hm)]
    simp only [jb]
    rw [Ld (by simp only [ju, j4]; omega)]
    simp only [cond_true]
    rw [Xm _ (hk _ hm)]
    simp only [jb]
    rw [Ld (by simp only [List.append_eq, j9, ju, j4]; omega)]
    simp only [cond_true]
    rw [Ld (by simp only [ju, j4]; omega)]
    rfl) (fun o => by
    simp only [Oe]
    rw [Ta (by omega)]
    rfl)
  unfold Bf
  erw [hl]
  simp only [jb, qe]
  have := Gr h
  rw [Fl (by simp; omega) (by omega)]
  rfl
theorem No (l : List Kd) (h : ∀ x ∈ l, -9223372036854775808 ≤ x.1 ∧ x.1 ≤ 9223372036854775807) (hk : ∀ x ∈ l, x.2.1.2.1.length ≤ Mb) (hn : l.length ≤ Mb) : We l = some (Sr l, ()) := by
 have h20 : Mb = 1048576 := rfl
 unfold We Sr
 have hl := Rl (step := fun x : (List Kd × List (List UInt8) × Int × Unit) × Unit => Qe x.1.1 x.1.2.1 x.1.2.2.1) l Fn
  (fun o k => ((l, o, k, ()), ())) (fun o => .inl ((o, ()), ())) (by omega) (fun k hk2 o ho => by
   have hm : l[k] ∈ l := List.getElem_mem hk2
   have h1 := Bq (h _ hm)
   have h2 := Yp l[k].2.1
   simp only [Qe]
   rw [Za (by omega), Of hk2]
   simp only [cond_true, jb]
   rw [Hp (h _ hm)]
   simp only [jb]
   rw [Ld (by simp only [ju, j4]; omega)]
   simp only [cond_true]
   rw [Gn _ (hk _ hm)]
   simp only [jb]
   rw [Ld (by simp only [List.append_eq, j9, ju, j4]; omega)]
   simp only [cond_true]
   rw [Ld (by simp only [ju, j4]; omega)]
   rfl) (fun o => by
   simp only [Qe]
   rw [Ta (by omega)]
   rfl)
 unfold Df
 erw [hl]
 simp only [jb, qe, List.length_map]
 cases hc : ((ja l : Nat) : Int) == 0 with
 | true => rfl
 | false =>
  have := Gr h
  rw [Kl (by simp; omega) (by omega)]
  rfl
theorem Vq (l : List Kd) (hr : Dj (.sl Vb) l) (hz : Jb (.sl Vb) l ≤ Mb) : ∃ w, We l = some (w, ()) ∧ Te l = some (w, ()) := by
 have h1 : Jb (.sl Vb) l = ja l + (List.map (Jb Vb) l).sum := rfl
 have hk : ∀ x ∈ l, x.2.1.2.1.length ≤ Mb := fun x hx => by
  obtain ⟨k, hk, rfl⟩ := List.getElem_of_mem hx
  exact JC hz hk
 have h : ∀ x ∈ l, -9223372036854775808 ≤ x.1 ∧ x.1 ≤ 9223372036854775807 := fun x hx => by
  obtain ⟨k, hk, rfl⟩ := List.getElem_of_mem hx
  exact (hr.2 k hk).1
 exact ⟨_, No l h hk (by omega), Co l h hk (by omega)⟩
theorem Js (a0 : (List Kd)) (hr0 : Dj (.sl Vb) a0) : Td a0 = some (true, ()) := by
 have h20 : Mb = 1048576 := rfl
 have h40 : Ai = 1099511627776 := rfl
 unfold Td
 have s0 := Dy a0 hr0 (1048576) (by omega)
 rw [show ((1048576 : Nat) : Int) = 1048576 from rfl] at s0
 rw [s0]
 simp only [jb]
 by_cases z0 : Jb (.sl Vb) a0 ≤ 1048576
 case neg => rw [Cj z0]; rfl
 rw [Jk z0, Ta (by omega)]
 simp only [cond_false]
 have hz0 : Jb (.sl Vb) a0 ≤ Mb := by omega
 obtain ⟨w0, e1, e2⟩ := Vq a0 hr0 hz0
 simp only [e1, e2, Ey a0 hz0, Dx a0 (by omega), jb, bne_self_eq_false', bne_self_eq_false, jg, cond_false]
end KF
