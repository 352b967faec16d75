/- An evaluator of Go functions on plain data, its soundness, and plain laws on what the functions compute, part 3 (conditions: as each lemma tells). -/
import Derived.Test.YtenekdhofnoalaaDoorB
import Derived.LoopN
import Derived.ChangeArms
import Derived.ChangeStays
import Derived.ChangeSame
import Derived.WideShapes
import Derived.RowKit
import Derived.Handed
import Derived.JoinedOf
import Derived.Lib.Split
import Derived.Lib.Join
import Derived.Lib.ItoaNum
import Derived.Shelf.Sort.Plain
import Derived.Shelf.Slices.In.SortNone2
import Derived.Shelf.LaysM
import Derived.Shelf.Strings.Split
import Derived.Shelf.Strings.OnBuilder
import Derived.Shelf.Strconv.Itoa3
import Derived.LaidLaws
import Derived.LaidHandle
import Derived.Lib.LaidTab
import Derived.IntWalk
set_option linter.unusedSimpArgs false
set_option linter.unusedVariables false
namespace KF
open Go
open List renaming length → ja, getElem?_eq_getElem → je, append → jf, mem_append → jk, mem_cons → jn, mem_cons_of_mem → jp, set → jx, mem_singleton → j6, length_append → j7, getElem?_append_left → j9, getElem?_append_right → qa, getD_eq_getElem?_getD → qb, mem_map → qe, length_drop → qf
open Option renaming bind_some → jb, bind → jv, map_some → j5, bind_eq_some_iff → j8
open Option.some renaming injEq → jc
open Bool renaming and_eq_true → jd, not_true → jg, true_and → ji, false_eq_true → jo, not_eq_true → jz, eq_iff_iff → qg
open Prod.mk renaming injEq → jh
open Nat renaming mul_le_mul_right → jl, le_refl → jm, zero_add → jq, add_assoc → jr, eq_of_beq_eq_true → js, ble → jt, le_trans → j4, lt_of_lt_of_le → qd
open Int renaming toNat → ju
open Go.IntKind renaming wrap → jw
open Sum renaming elim → jy, elim_inl → qc
open Result renaming andThen_ok → qh
open Sem renaming run_bind → qi
theorem EA {s : AS} : ∀ {td : TD} {d : D} {x : T td.ty} {m : He}, Ac s td d = some (x, m) → (Dh td x).isAgg = d.isAgg := by
 intro td
 cases td with
 | data τ =>
  intro d x m h
  simp only [Ac] at h
  split at h
  ·rename_i y hy
   simp only [jc, jh] at h
   obtain ⟨rfl, _⟩ := h
   have hs := (Ud (w := default) (σ := fun _ => undef) (O := fun _ => False) (hp := fun _ => none) hy).1
   rw [hs.isAgg]
   cases τ <;> rfl
  ·simp at h
 | own id e dp =>
  intro d x m h
  cases d <;> simp [Ac] at h <;> rfl
 | ptr id p =>
  intro d x m h
  cases d <;> simp [Ac] at h <;> rfl
 | hol id e p τ td =>
  intro d x m h
  cases d <;> simp [Ac] at h <;> rfl
 | arr id e =>
  intro d x m h
  cases d <;> first | rfl | (simp [Ac] at h; done)
 | mov id e =>
  intro d x m h
  cases d <;> simp [Ac] at h <;> rfl
 | pr a b =>
  intro d x m h
  simp only [Ac] at h
  cases d with
  | t τ v => cases τ <;> simp [D.fst] at h <;> rfl
  | pr u v => rfl
  | _ => simp [D.fst] at h
 | un =>
  intro d x m h
  simp only [Ac] at h
  split at h
  ·rename_i y hy
   have hs := (Ud (w := default) (σ := fun _ => undef) (O := fun _ => False) (hp := fun _ => none) hy).1
   rw [hs.isAgg]
   rfl
  ·simp at h
def Yo (m m' : He) : Prop := ∀ p, p ∈ m → p ∈ m'
section
variable {w : World} {s : AS} {σ σ' : Nat → Value} {O O' : Nat → Prop} {hp' : Nat → Option Ca} {m : He}
structure FF (s : AS) (σ σ' : Nat → Value) (hp' : Nat → Option Ca) (m : He) : Prop where
 isS : ∀ j i, (j, some i) ∈ m → σ' j = σ i
 isN : ∀ j, (j, none) ∈ m → σ' j = .slice none 0 0
 isB : ∀ j i ρ d, (j, some i) ∈ m → hp' j = some (.box ρ d) → ∃ d', s.heap i = some (.box ρ d')
 isR : ∀ j i blk r, (j, some i) ∈ m → hp' j = some blk → blk.rowN = some r → ∃ blk', s.heap i = some blk' ∧ blk'.rowN = some r
theorem Oq (hT : FF s σ σ' hp' m) (hO : ∀ b, b < w.heap.size → ¬ O b → ¬ O' b) : ∀ {td : TD} {d : D} {x : T td.ty} {m0 : He} {cs : List Value}, Ac s td d = some (x, m0) → Yo m0 m → Ha w O s.heap σ d cs →
 Ha w O' hp' σ' (Dh td x) cs := by
 intro td
 induction td with
 | data τ =>
  intro d x m0 cs h hm hr
  simp only [Ac] at h
  split at h
  ·rename_i y hy
   simp only [jc, jh] at h
   obtain ⟨rfl, _⟩ := h
   exact Ia.stable (fun _ _ _ => rfl) hO ((Ud hy).2 _ hr)
  ·simp at h
 | own id' e dp =>
  intro d x m0 cs h hm hr
  cases d with
  | own id =>
   simp only [Ac] at h
   split at h
   ·rename_i e' dp' xs hb
    split at h
    ·rename_i q hq
     subst q
     simp only [Aa] at h
     obtain ⟨_, h⟩ := h
     simp only [jc, jh] at h
     obtain ⟨rfl, rfl⟩ := h
     obtain ⟨v, hcs, h1, hv⟩ := hr
     refine ⟨v, hcs, h1, fun _ _ _ _ => ?_⟩
     rw [hT.isS id' id (hm _ (by simp))]
     exact hv _ _ hb rfl
    ·simp at h
   ·simp at h
  | nil =>
   simp only [Ac, jc, jh] at h
   obtain ⟨rfl, rfl⟩ := h
   simp only [Ha] at hr
   exact ⟨_, hr, rfl, fun _ _ _ _ => (hT.isN id' (hm _ (by simp))).symm⟩
  | _ => simp [Ac] at h
 | hol id' e p τ td _ =>
  intro d x m0 cs h hm hr
  cases d with
  | own id =>
   simp only [Ac] at h
   split at h
   ·rename_i e' xs i x1 p' τ' d' hb
    split at h
    ·simp only [Aa] at h
     obtain ⟨_, h⟩ := h
     split at h
     ·rename_i y m1 h1
      simp only [Aa] at h
      obtain ⟨_, h⟩ := h
      simp only [jc, jh] at h
      obtain ⟨rfl, rfl⟩ := h
      obtain ⟨v, hcs, h1, hv⟩ := hr
      refine ⟨v, hcs, h1, fun _ _ _ _ => ?_⟩
      rw [hT.isS id' id (hm _ (by simp))]
      exact hv _ _ hb rfl
     ·simp at h
    ·simp at h
   ·simp at h
  | _ => simp [Ac] at h
 | arr id' e =>
  intro d x m0 cs h hm hr
  cases d with
  | eptr id i q =>
   cases i with
   | succ i => simp [Ac] at h
   | zero =>
    cases q with
    | cons _ _ => simp [Ac] at h
    | nil =>
     simp only [Ac] at h
     split at h
     ·rename_i e' xs hb
      split at h
      ·rename_i q hq
       subst q
       simp only [jc, jh] at h
       obtain ⟨rfl, rfl⟩ := h
       obtain ⟨v, hcs, h1, hv⟩ := hr
       refine ⟨v, hcs, h1, fun blk' e2 n2 hb' hr' => ?_⟩
       obtain ⟨blk0, hb0, hr0⟩ := hT.isR id' id blk' _ (hm _ (by simp)) hb' hr'
       rw [hT.isS id' id (hm _ (by simp))]
       exact hv _ _ _ hb0 hr0
      ·simp at h
     ·simp at h
  | _ => simp [Ac] at h
 | mov id' e =>
  intro d x m0 cs h hm hr
  cases d with
  | own id =>
   simp only [Ac] at h
   split at h
   ·rename_i e' xs hb
    split at h
    ·rename_i q hq
     subst q
     simp only [jc, jh] at h
     obtain ⟨rfl, rfl⟩ := h
     obtain ⟨v, hcs, h1, hv⟩ := hr
     refine ⟨v, hcs, h1, fun _ _ _ _ => ?_⟩
     rw [hT.isS id' id (hm _ (by simp))]
     exact hv _ _ hb rfl
    ·simp at h
   ·rename_i e' xs k hb
    split at h
    ·rename_i q hq
     subst q
     simp only [jc, jh] at h
     obtain ⟨rfl, rfl⟩ := h
     obtain ⟨v, hcs, h1, hv⟩ := hr
     refine ⟨v, hcs, h1, fun _ _ _ _ => ?_⟩
     rw [hT.isS id' id (hm _ (by simp))]
     exact hv _ _ hb rfl
    ·simp at h
   ·simp at h
  | _ => simp [Ac] at h
 | ptr id' p =>
  intro d x m0 cs h hm hr
  cases d with
  | ptr id q =>
   simp only [Ac, Aa] at h
   obtain ⟨hpq, h⟩ := h
   simp only [jc, jh] at h
   obtain ⟨_, rfl⟩ := h
   have hpq' : p = q := by simpa using hpq
   subst hpq'
   obtain ⟨v, hcs, h1, hv⟩ := hr
   refine ⟨v, hcs, h1, fun ρ d hb => ?_⟩
   obtain ⟨d', hd'⟩ := hT.isB id' id ρ d (hm _ (by simp)) hb
   rw [hT.isS id' id (hm _ (by simp))]
   exact hv ρ d' hd'
  | _ => simp [Ac] at h
 | pr a b iha ihb =>
  intro d x m0 cs h hm hr
  simp only [Ac] at h
  split at h
  ·rename_i d1 d2 h1 h2
   split at h
   ·rename_i u l v l' h3 h4
    simp only [jc, jh] at h
    obtain ⟨rfl, rfl⟩ := h
    have key : ∃ c1 c2, cs = c1 ++ c2 ∧ Ha w O s.heap σ d1 c1 ∧ Ha w O s.heap σ d2 c2 := by
     cases d with
     | t τ v =>
      cases τ with
      | p t1 t2 =>
       simp only [D.fst, D.snd, jc] at h1 h2
       subst h1; subst h2
       exact hr
      | _ => simp [D.fst] at h1
     | pr d1' d2' =>
      simp only [D.fst, D.snd, jc] at h1 h2
      subst h1; subst h2
      exact hr
     | _ => simp [D.fst] at h1
    obtain ⟨c1, c2, hc, r1, r2⟩ := key
    exact ⟨c1, c2, hc, iha h3 (fun p hp => hm p (List.mem_append_left _ hp)) r1, ihb h4 (fun p hp => hm p (List.mem_append_right _ hp)) r2⟩
   ·simp at h
  ·simp at h
 | un =>
  intro d x m0 cs h hm hr
  simp only [Ac] at h
  split at h
  ·rename_i y hy
   exact (Ud hy).2 _ hr
  ·simp at h
theorem ZB (hT : FF s σ σ' hp' m) (hO : ∀ b, b < w.heap.size → ¬ O b → ¬ O' b) {td : TD} {d : D} {x : T td.ty} {m0 : He} {v : Value} (h : Ac s td d = some (x, m0)) (hm : Yo m0 m) (hr : Jb w O s.heap σ d v) :
 Jb w O' hp' σ' (Dh td x) v := by
 have hne : Ec w O s.heap σ d v := by
  cases d with
  | und => cases td <;> simp [Ac, Ve, D.fst] at h
  | anyv => cases td <;> simp [Ac, Ve, D.fst] at h
  | tup ds => cases td <;> simp [Ac, Ve, D.fst] at h
  | _ => exact hr
 refine Gk ?_
 unfold Ec at hne ⊢
 rw [EA h]
 split
 ·rename_i ha
  rw [if_pos ha] at hne
  obtain ⟨cs, h1, h2⟩ := hne
  exact ⟨cs, h1, Oq hT hO h hm h2⟩
 ·rename_i ha
  rw [if_neg ha] at hne
  exact Oq hT hO h hm hne
def Yu (s : AS) (m : He) (j : Nat) (blk : Ca) : Prop :=
 ((j, none) ∈ m ∧ ∃ e dp, blk = .row e dp ([] : List (T e))) ∨
 ∃ i, (j, some i) ∈ m ∧ ((∃ e dp dp' xs, blk = .row e dp xs ∧ s.heap i = some (.row e dp' xs) ∧ (dp' = dp ∨ e.flat = true)) ∨
  (∃ ρ d td x m0, blk = .box ρ (Dh td x) ∧ s.heap i = some (.box ρ d) ∧ Ac s td d = some (x, m0) ∧ Yo m0 m ∧ Ja ρ (Dh td x)) ∨
  (∃ e xs k x p τ d td y m0, blk = .hol e xs k x p τ (Dh td y) ∧ s.heap i = some (.hol e xs k x p τ d) ∧ Ac s td d = some (y, m0) ∧ Yo m0 m ∧ Ja τ (Dh td y)) ∨
  ∃ e xs k, blk = .mov e xs k ∧ (s.heap i = some (.mov e xs k) ∨ (s.heap i = some (.row e true xs) ∧ k = 0)))
theorem Er : ∀ {td : TD} {d : D} {x : T td.ty} {m0 : He}, Ac s td d = some (x, m0) → Yo m0 m → ∀ p, p ∈ Mj td x → ∃ blk, p.2 = some blk ∧ Yu s m p.1 blk := by
 intro td
 induction td with
 | own id' e dp =>
  intro d x m0 h hm p hp
  simp only [Mj, j6] at hp
  subst hp
  cases d with
  | own id =>
   simp only [Ac] at h
   split at h
   ·rename_i e' dp' xs hb
    split at h
    ·rename_i q hq
     subst q
     simp only [Aa] at h
     obtain ⟨hc, h⟩ := h
     simp only [jc, jh] at h
     obtain ⟨rfl, rfl⟩ := h
     refine ⟨_, rfl, .inr ⟨id, hm _ (by simp), .inl ⟨_, dp, dp', _, rfl, hb, ?_⟩⟩⟩
     simpa using hc
    ·simp at h
   ·simp at h
  | nil =>
   simp only [Ac, jc, jh] at h
   obtain ⟨rfl, rfl⟩ := h
   exact ⟨_, rfl, .inl ⟨hm _ (by simp), e, dp, rfl⟩⟩
  | _ => simp [Ac] at h
 | hol id' e pth τ td ih =>
  intro d x m0 h hm p hp
  cases d with
  | own id =>
   simp only [Ac] at h
   split at h
   ·rename_i e' xs i x1 p' τ' d' hb
    split at h
    ·rename_i q1 q2 hq1 hq2
     subst q1
     obtain rfl := Mc hq2
     simp only [Aa] at h
     obtain ⟨hpp, h⟩ := h
     have hpp : pth = p' := by simpa using hpp
     subst hpp
     split at h
     ·rename_i y m1 h1
      simp only [Aa] at h
      obtain ⟨hsh, h⟩ := h
      simp only [jc, jh] at h
      obtain ⟨rfl, rfl⟩ := h
      simp only [Mj] at hp
      rcases jn.1 hp with rfl | hp
      ·exact ⟨_, rfl, .inr ⟨id, hm _ (by simp), .inr (.inr (.inl ⟨_, _, i, _, _, _, d', td, y, m1, by simp only [Int.toNat_natCast], hb, h1, fun p hp => hm p (jp _ hp), Kf hsh⟩))⟩⟩
      ·exact ih h1 (fun p hp => hm p (jp _ hp)) p hp
     ·simp at h
    ·simp at h
   ·simp at h
  | _ => simp [Ac] at h
 | pr a b iha ihb =>
  intro d x m0 h hm p hp
  simp only [Ac] at h
  split at h
  ·split at h
   ·rename_i u l v l' h3 h4
    simp only [jc, jh] at h
    obtain ⟨rfl, rfl⟩ := h
    simp only [Mj] at hp
    rcases jk.1 hp with hp | hp
    ·exact iha h3 (fun p hp => hm p (List.mem_append_left _ hp)) p hp
    ·exact ihb h4 (fun p hp => hm p (List.mem_append_right _ hp)) p hp
   ·simp at h
  ·simp at h
 | arr id' e =>
  intro d x m0 h hm p hp
  simp only [Mj, j6] at hp
  subst hp
  cases d with
  | eptr id i q =>
   cases i with
   | succ i => simp [Ac] at h
   | zero =>
    cases q with
    | cons _ _ => simp [Ac] at h
    | nil =>
     simp only [Ac] at h
     split at h
     ·rename_i e' xs hb
      split at h
      ·rename_i q hq
       subst q
       simp only [jc, jh] at h
       obtain ⟨rfl, rfl⟩ := h
       exact ⟨_, rfl, .inr ⟨id, hm _ (by simp), .inl ⟨_, true, true, _, rfl, hb, .inl rfl⟩⟩⟩
      ·simp at h
     ·simp at h
  | _ => simp [Ac] at h
 | mov id' e =>
  intro d x m0 h hm p hp
  simp only [Mj, j6] at hp
  subst hp
  cases d with
  | own id =>
   simp only [Ac] at h
   split at h
   ·rename_i e' xs hb
    split at h
    ·rename_i q hq
     subst q
     simp only [jc, jh] at h
     obtain ⟨rfl, rfl⟩ := h
     exact ⟨_, rfl, .inr ⟨id, hm _ (by simp), .inr (.inr (.inr ⟨_, _, 0, rfl, .inr ⟨hb, rfl⟩⟩))⟩⟩
    ·simp at h
   ·rename_i e' xs k hb
    split at h
    ·rename_i q hq
     subst q
     simp only [jc, jh] at h
     obtain ⟨rfl, rfl⟩ := h
     exact ⟨_, rfl, .inr ⟨id, hm _ (by simp), .inr (.inr (.inr ⟨_, _, k, by simp only [Int.toNat_natCast], .inl hb⟩))⟩⟩
    ·simp at h
   ·simp at h
  | _ => simp [Ac] at h
 | _ => intro d x m0 h hm p hp; simp [Mj] at hp
theorem Kx : ∀ {l : List (Tmp × TD)} {x : T (Yi.tyT l)} {m0 : He}, Sy s l = some (x, m0) → Yo m0 m →
 (∀ t d', La (Xs l x) t = some d' → ∃ td d y m1, La s.tm t = some d ∧ Ac s td d = some (y, m1) ∧ Yo m1 m ∧ d' = Dh td y) ∧ (∀ p, p ∈ Et l x → ∃ blk, p.2 = some blk ∧ Yu s m p.1 blk)
 | [], x, m0, h, hm => ⟨by simp [Xs, La], by simp [Et]⟩
 | (t0, td) :: r, x, m0, h, hm => by
  simp only [Sy] at h
  split at h
  ·rename_i d hd
   split at h
   ·rename_i y m1 z m2 h1 h2
    simp only [jc, jh] at h
    obtain ⟨rfl, rfl⟩ := h
    have hm1 : Yo m1 m := fun p hp => hm p (List.mem_append_left _ hp)
    obtain ⟨i1, i2⟩ := Kx h2 (fun p hp => hm p (List.mem_append_right _ hp))
    refine ⟨fun t d' ht => ?_, fun p hp => ?_⟩
    ·simp only [Xs] at ht
     rw [Hb] at ht
     split at ht
     ·rename_i e
      subst e
      simp only [jc] at ht
      exact ⟨td, d, y, m1, hd, h1, hm1, ht.symm⟩
     ·exact i1 t d' ht
    ·simp only [Et] at hp
     rcases jk.1 hp with hp | hp
     ·exact Er h1 hm1 p hp
     ·exact i2 p hp
   ·simp at h
  ·simp at h
theorem Jx : ∀ {l : List (Nat × Ty × TD)} {x : T (Yi.tyB l)} {m0 m' : He}, Rv s l m0 = some (x, m') → Yo m' m →
 Yo m0 m ∧ ∀ p, p ∈ Ws l x → ∃ blk, p.2 = some blk ∧ Yu s m p.1 blk
 | [], x, m0, m', h, hm => by
  simp only [Rv, jc, jh] at h
  obtain ⟨_, rfl⟩ := h
  exact ⟨hm, by simp [Ws]⟩
 | (id', ρ, td) :: r, x, m0, m', h, hm => by
  simp only [Rv] at h
  split at h
  ·rename_i id hid
   split at h
   ·rename_i ρ' d hb
    split at h
    ·rename_i q hq
     obtain rfl := q.down
     split at h
     ·rename_i y m1 h1
      simp only [Aa] at h
      obtain ⟨hsh, h⟩ := h
      split at h
      ·rename_i z m2 h2
       simp only [jc, jh] at h
       obtain ⟨rfl, rfl⟩ := h
       obtain ⟨i1, i2⟩ := Jx h2 hm
       have hm0 : Yo m0 m := fun p hp => i1 p (List.mem_append_left _ hp)
       have hm1 : Yo m1 m := fun p hp => i1 p (List.mem_append_right _ hp)
       refine ⟨hm0, fun p hp => ?_⟩
       simp only [Ws] at hp
       rcases jn.1 hp with rfl | hp
       ·exact ⟨_, rfl, .inr ⟨id, hm0 _ (Yh hid), .inr (.inl ⟨_, d, td, y, m1, rfl, hb, h1, hm1, Kf hsh⟩)⟩⟩
       ·rcases jk.1 hp with hp | hp
        ·exact Er h1 hm1 p hp
        ·exact i2 p hp
      ·simp at h
     ·simp at h
    ·simp at h
   ·simp at h
  ·simp at h
end
theorem So : ∀ {m : He}, Ul m = true → ∀ j i, (j, some i) ∈ m → (j < 500000 ∧ i < 500000) ∨ j = i
 | [], _, _, _, h => by simp at h
 | (j0, some i0) :: r, hp, j, i, h => by
  simp only [Ul, jd, Bool.or_eq_true] at hp
  rcases jn.1 h with e | h
  ·simp only [jh, jc] at e
   obtain ⟨rfl, rfl⟩ := e
   rcases hp.1 with h1 | h1
   ·rw [Nat.blt_eq, Nat.blt_eq] at h1; exact .inl h1
   ·exact .inr (js h1)
  ·exact So hp.2 j i h
 | (j0, none) :: r, hp, j, i, h => by
  simp only [Ul, jd] at hp
  rcases jn.1 h with e | h
  ·simp at e
  ·exact So hp.2 j i h
theorem Ro : ∀ {m : He}, Ul m = true → ∀ j, (j, none) ∈ m → j < 500000
 | [], _, _, h => by simp at h
 | (j0, some i0) :: r, hp, j, h => by
  simp only [Ul, jd] at hp
  rcases jn.1 h with e | h
  ·simp at e
  ·exact Ro hp.2 j h
 | (j0, none) :: r, hp, j, h => by
  simp only [Ul, jd] at hp
  rcases jn.1 h with e | h
  ·simp only [jh, and_true] at e
   subst e
   have := hp.1
   rwa [Nat.blt_eq] at this
  ·exact Ro hp.2 j h
theorem Rx {m : He} (h : (m.all fun x => m.all fun y => Fl x y) = true) {x y : Nat × Option Nat} (hx : x ∈ m) (hy : y ∈ m) : Fl x y = true :=
 List.all_eq_true.1 (List.all_eq_true.1 h x hx) y hy
theorem PC {m : He} (h : (m.all fun x => m.all fun y => Fl x y) = true) {j : Nat} {a c : Option Nat} (hx : (j, a) ∈ m) (hy : (j, c) ∈ m) : a = c := by
 have := Rx h hx hy
 unfold Fl at this
 cases a with
 | none => cases c with
  | none => rfl
  | some c => simp at this
 | some a => cases c with
  | none => simp at this
  | some c => simpa [Nat.beq_eq] using this
theorem QC {m : He} (h : (m.all fun x => m.all fun y => Fl x y) = true) {j j' i : Nat} (hx : (j, some i) ∈ m) (hy : (j', some i) ∈ m) : j = j' := by
 have := Rx h hx hy
 unfold Fl at this
 simpa using this
theorem Zt {α : Type} {j : Nat} {a : α} : ∀ {m : List (Nat × α)}, (j, a) ∈ m → ∃ c, La m j = some c ∧ (j, c) ∈ m
 | [], h => by simp at h
 | (j0, a0) :: r, h => by
  rw [Hb]
  by_cases hj : j0 = j
  ·subst hj; exact ⟨a0, by simp, by simp⟩
  ·rw [if_neg hj]
   rcases jn.1 h with e | h
   ·simp only [jh] at e
    exact absurd e.1.symm hj
   ·obtain ⟨c, h1, h2⟩ := Zt h
    exact ⟨c, h1, jp _ h2⟩
theorem Zh {m : He} (h : (m.all fun x => m.all fun y => Fl x y) = true) {j : Nat} {a : Option Nat} (hx : (j, a) ∈ m) : La m j = some a := by
 obtain ⟨c, h1, h2⟩ := Zt hx
 rw [h1, PC h hx h2]
section
variable {n0 : Nat} {A : Fx} {O0 : Nat → Prop} {w0 w : World} {s : AS} {σ : Nat → Value} {φ : Nat → List Nat} {a : Act}
theorem Pq (h : Ga n0 A O0 w0 s σ φ a w) {p : Yi} {x : p.X} (he : ext p s = some x) : ∃ σ' φ', Ga n0 A O0 w0 (Km p x s.n) σ' φ' a w := by
 unfold ext at he
 split at he
 ·rename_i x1 m1 h1
  split at he
  ·rename_i x2 m h2
   simp only [Aa] at he
   obtain ⟨hmo, he⟩ := he
   simp only [jc] at he
   subst he
   simp only [ID, jd] at hmo
   obtain ⟨hn1, hpo⟩ := hmo
   obtain ⟨hm1, hB⟩ := Jx h2 (fun p hp => hp)
   obtain ⟨hT1, hT2⟩ := Kx h1 hm1
   let σ' : Nat → Value := fun j => match La m j with
    | some (some i) => σ i
    | some none => .slice none 0 0
    | none => σ j
   let φ' : Nat → List Nat := fun j => match La m j with
    | some (some i) => φ i
    | _ => []
   have hσs : ∀ j i, (j, some i) ∈ m → σ' j = σ i ∧ φ' j = φ i := fun j i hj => by
    have := Zh hn1 hj
    simp only [σ', φ', this, and_self]
   have hσn : ∀ j, (j, none) ∈ m → σ' j = .slice none 0 0 ∧ φ' j = [] := fun j hj => by
    have := Zh hn1 hj
    simp only [σ', φ', this, and_self]
   have hent : ∀ j blk, (Km p (x1, x2) s.n).heap j = some blk → Yu s m j blk := by
    intro j blk hj
    have hmem := AS.heap_mem hj
    simp only [Km] at hmem
    rcases jk.1 hmem with hmem | hmem
    ·obtain ⟨blk', e, hE⟩ := hT2 _ hmem
     simp only [jc] at e
     subst e
     exact hE
    ·obtain ⟨blk', e, hE⟩ := hB _ hmem
     simp only [jc] at e
     subst e
     exact hE
   have hlive : ∀ j blk, (Km p (x1, x2) s.n).heap j = some blk → φ' j = [] ∨ ∃ i blk0, (j, some i) ∈ m ∧ s.heap i = some blk0 ∧ φ' j = φ i := by
    intro j blk hj
    rcases hent j blk hj with ⟨hn, _⟩ | ⟨i, hi, ⟨e, dp, dp', xs, _, hb, _⟩ | ⟨ρ, d, td, y, m0, _, hb, _⟩ | ⟨e, xs, k, x, p, τ, d, td, y, m0, _, hb, _⟩ | ⟨e, xs, k, _, hb | ⟨hb, _⟩⟩⟩
    ·exact .inl (hσn j hn).2
    ·exact .inr ⟨i, _, hi, hb, (hσs j i hi).2⟩
    ·exact .inr ⟨i, _, hi, hb, (hσs j i hi).2⟩
    ·exact .inr ⟨i, _, hi, hb, (hσs j i hi).2⟩
    ·exact .inr ⟨i, _, hi, hb, (hσs j i hi).2⟩
    ·exact .inr ⟨i, _, hi, hb, (hσs j i hi).2⟩
   have hOO : ∀ b, b < w.heap.size → ¬ OO O0 s φ b → ¬ OO O0 (Km p (x1, x2) s.n) φ' b := by
    rintro b _ hno (ho | ⟨j, blk, hj, hm⟩)
    ·exact hno (.inl ho)
    ·rcases hlive j blk hj with hφ | ⟨i, blk0, _, hb, hφ⟩
     ·rw [hφ] at hm; simp at hm
     ·rw [hφ] at hm; exact hno (.inr ⟨i, blk0, hb, hm⟩)
   have hTOk : FF s σ σ' (Km p (x1, x2) s.n).heap m := by
    refine ⟨fun j i hj => (hσs j i hj).1, fun j hj => (hσn j hj).1, fun j i ρ d hj hb => ?_, fun j i blk r hj hb hr => ?_⟩
    rcases hent j _ hb with ⟨hn, e, dp, hh⟩ | ⟨i', hi', ⟨e, dp, dp', xs, hh, _⟩ | ⟨ρ', d', td, y, m0, hh, hb', _⟩ | ⟨e, xs, k, x, p, τ, d', td, y, m0, hh, _⟩ | ⟨e, xs, k, hh, _⟩⟩
    ·simp at hh
    ·simp at hh
    ·simp only [Ca.box.injEq] at hh
     have e1 := Zh hn1 hj
     have e2 := Zh hn1 hi'
     rw [e1] at e2
     simp only [jc] at e2
     subst e2
     exact ⟨d', by rw [hb', hh.1]⟩
    ·simp at hh
    ·simp at hh
    ·have e1 := Zh hn1 hj
     rcases hent j _ hb with ⟨hn, _⟩ | ⟨i', hi', hx⟩
     ·have e2 := Zh hn1 hn
      rw [e1] at e2
      simp at e2
     ·have e2 := Zh hn1 hi'
      rw [e1] at e2
      simp only [jc] at e2
      subst e2
      rcases hx with ⟨e, dp, dp', xs, rfl, hb', _⟩ | ⟨ρ', d', td, y, m0, rfl, _⟩ | ⟨e, xs, k, x, p, τ, d', td, y, m0, rfl, hb', _⟩ | ⟨e, xs, k, rfl, hb' | ⟨hb', _⟩⟩
      ·exact ⟨_, hb', hr⟩
      ·simp [Ca.rowN] at hr
      ·exact ⟨_, hb', hr⟩
      ·exact ⟨_, hb', hr⟩
      ·exact ⟨_, hb', hr⟩
   refine ⟨σ', φ', h.sz, h.df, ?_, ?_, ?_, ?_, ?_, h.o0, h.fr, ?_, h.iv0, h.ivw⟩
   ·intro t d' hd
    obtain ⟨td, d, y, m0, g1, g2, g3, g4⟩ := hT1 t d' hd
    obtain ⟨v, hv, hr⟩ := h.tm t d g1
    rw [g4]
    exact ⟨v, hv, ZB hTOk hOO g2 g3 hr⟩
   ·intro j blk hj
    rcases hent j blk hj with ⟨hn, e, dp, rfl⟩ | ⟨i, hi, ⟨e, dp, dp', xs, rfl, hb, hd⟩ | ⟨ρ, d, td, y, m0, rfl, hb, hex, hsub, hsh⟩ | ⟨e, xs, k, x, p, τ, d, td, y, m0, rfl, hb, hex, hsub, hsh⟩ | ⟨e, xs, k, rfl, hb⟩⟩
    ·rw [Ze, (hσn j hn).1, (hσn j hn).2]
     exact ⟨by simp, .inl ⟨rfl, rfl, rfl⟩⟩
    ·rw [Ze, (hσs j i hi).1, (hσs j i hi).2]
     have hrow := Ze.1 (h.hp i _ hb)
     have hst : ∀ dq, Zd w (OO O0 s φ) dq e xs (σ i) (φ i) → Zd w (OO O0 (Km p (x1, x2) s.n) φ') dq e xs (σ i) (φ i) := by
      rintro dq ⟨hm, g | ⟨bl, off, cap, cur, et, Fs, g1, hh, g2, g3, g4, hF, hel⟩⟩
      ·exact ⟨hm, .inl g⟩
      ·exact ⟨hm, .inr ⟨bl, off, cap, cur, et, Fs, g1, hh, g2, g3, g4, hF, hel.stable (fun _ _ _ => rfl) hOO (fun _ _ => rfl)⟩⟩
     rcases hd with rfl | hf
     ·exact hst _ hrow
     ·have hup := hrow.up
      rw [hf, Bool.or_true] at hup
      cases dp with
      | true => exact hst _ hup
      | false =>
       cases dp' with
       | false => exact hst _ hrow
       | true =>
        have hown := Rq (h.hp i _ hb) (.inl rfl)
        exact hst _ (Ze.1 (Vt (O := OO O0 s φ) (hp := s.heap) hown hf))
    ·rw [(hσs j i hi).2]
     obtain ⟨_, b, cur, et, g1, hh, hF, hr, hsz⟩ := h.hp i _ hb
     exact ⟨hsh, b, cur, et, by rw [(hσs j i hi).1]; exact g1, hh, hF, Oq hTOk hOO hex hsub hr, hsz⟩
    ·rw [(hσs j i hi).2]
     obtain ⟨_, g1, g2, g3, bl, off, cap, cur, et, g4, g5, g6, g7, hr, hw⟩ := h.hp i _ hb
     refine ⟨hsh, g1, g2, g3, bl, off, cap, cur, et, by rw [(hσs j i hi).1]; exact g4, g5, g6, g7, Oq hTOk hOO hex hsub hr, fun w' c' h1 h2 h3 y Fy x' h4 h5 => ?_⟩
     rw [(hσs j i hi).1]
     exact hw w' c' h1 h2 h3 y Fy x' h4 h5
    ·rw [(hσs j i hi).2]
     have hm0 : Ya w (OO O0 s φ) s.heap σ i (.mov e xs k) (φ i) := by
      rcases hb with hb | ⟨hb, rfl⟩
      ·exact h.hp i _ hb
      ·exact Iw (h.hp i _ hb)
     obtain ⟨hlen, ⟨g1, g2, g3⟩ | ⟨bl, off, cap, cur, et, Fs, g1, g⟩⟩ := hm0
     ·exact ⟨hlen, .inl ⟨by rw [(hσs j i hi).1]; exact g1, g2, g3⟩⟩
     ·exact ⟨hlen, .inr ⟨bl, off, cap, cur, et, Fs, by rw [(hσs j i hi).1]; exact g1, g⟩⟩
   ·intro j blk hj
    rcases hlive j blk hj with hφ | ⟨i, blk0, _, hb, hφ⟩
    ·rw [hφ]; exact List.nodup_nil
    ·rw [hφ]; exact h.nodup i blk0 hb
   ·intro j j' blk blk' hne hj hj' b hb hb'
    rcases hlive j blk hj with hφ | ⟨i, blk0, hi, hbi, hφ⟩
    ·rw [hφ] at hb; simp at hb
    ·rcases hlive j' blk' hj' with hφ' | ⟨i', blk0', hi', hbi', hφ'⟩
     ·rw [hφ'] at hb'; simp at hb'
     ·rw [hφ] at hb
      rw [hφ'] at hb'
      by_cases hii : i = i'
      ·subst hii
       exact hne (QC hn1 hi hi')
      ·exact h.disj i i' blk0 blk0' hii hbi hbi' b hb hb'
   ·intro j blk hj b hb
    rcases hlive j blk hj with hφ | ⟨i, blk0, _, hbi, hφ⟩
    ·rw [hφ] at hb; simp at hb
    ·rw [hφ] at hb; exact h.fresh i blk0 hbi b hb
   ·intro j v hv
    have hlow := A.low j v hv
    show σ' j = v
    simp only [σ']
    split
    ·rename_i i hg
     rcases So hpo j i (Yh hg) with ⟨hj, _⟩ | rfl
     ·omega
     ·exact h.pin _ v hv
    ·rename_i hg
     have := Ro hpo j (Yh hg)
     omega
    ·exact h.pin j v hv
  ·simp at he
 ·simp at he
end
def PF : Ex → Exit
 | .normal => .normal
 | .exit id => .exit id
 | .ret => .ret
def Jl {X R : Type} (step : X → Option (X ⊕ R)) : Nat → X → R → Prop
 | 0, _, _ => False
 | n + 1, x, r => step x = some (.inr r) ∨ ∃ x', step x = some (.inl x') ∧ Jl step n x' r
def Vc : Code → List Code
 | .seq a b => Vc a ++ Vc b
 | .cond _ a b => Vc a ++ Vc b
 | .block _ c => Vc c
 | .loop c => c :: Vc c
 | _ => []
def Ad (G : Pc) (L : List (Nat × Nb)) (b : Code) : Prop :=
 ∀ r ls, Pe b = some r → La L r = some ls → ∀ x y, ls.F x = some y → ∃ m, Jl (Dn G L ls b) m x y
section
variable {P : Program} {n0 : Nat} {A : Fx} {O0 : Nat → Prop} {w0 : World} {G : Pc} {L : List (Nat × Nb)}
theorem OF (hG : Sh P A.I G) (hfz : G.fz = true → ∀ b, ¬ A.A b) (hm : P.follows .mixedOrders = true) : ∀ (c : Code), (∀ b, b ∈ Vc c → Ad G L b) → ∀ {Out : Type} {k : Ex → AS → Option Out} {out : Out} {s : AS} {σ : Nat → Value} {φ : Nat → List Nat} {a : Act} {w : World} {Q : Exit → Act → World → Prop},
 Pi G L c s k = some out → Ga n0 A O0 w0 s σ φ a w → (∀ e s σ φ a w, k e s = some out → Ga n0 A O0 w0 s σ φ a w → Q (PF e) a w) → c.wp P Q a w := by
 intro c
 induction c with
 | skip =>
  intro _ Out k out s σ φ a w Q he h hQ
  simp only [Pi] at he
  exact wp_skip (hQ .normal s σ φ a w he h)
 | region id ops draw =>
  intro _ Out k out s σ φ a w Q he h hQ
  simp only [Pi] at he
  split at he
  ·rename_i s1 h1
   obtain ⟨φ1, hc⟩ := Zl hfz h h1
   refine DB (k := fun s' => match Hn G.fz G.att (1000 * id + 999) s' with
    | some s' => k .normal s'
    | none => none) hG hfz hm hc he fun a w ⟨s', σ', φ', h2, h3⟩ => ?_
   simp only at h2
   split at h2
   ·rename_i s2 h4
    obtain ⟨φ2, hc2⟩ := Zl hfz h3 h4
    exact hQ .normal _ σ' φ2 a w h2 hc2
   ·simp at h2
  ·simp at he
 | seq x y ihx ihy =>
  intro hL Out k out s σ φ a w Q he h hQ
  simp only [Pi] at he
  refine wp_seq (ihx (fun b hb => hL b (by simp [Vc, hb])) he h fun e s' σ' φ' a' w' hk h' => ?_)
  cases e with
  | normal => exact ihy (fun b hb => hL b (by simp [Vc, hb])) hk h' hQ
  | exit j => exact hQ (.exit j) s' σ' φ' a' w' hk h'
  | ret => exact hQ .ret s' σ' φ' a' w' hk h'
 | cond x y z ihy ihz =>
  intro hL Out k out s σ φ a w Q he h hQ
  cases x with
  | tmp t =>
   simp only [Pi] at he
   split at he
   ·rename_i β hd
    have hs := h.same hd
    obtain ⟨v, hv, hr⟩ := h.tm t _ hd
    rw [Vd] at hr
    subst hr
    have hev : a.eval (.tmp t) = .bool β := by
     simp only [Act.eval]
     rw [Array.getD_eq_getD_getElem?, hv]
     rfl
    refine wp_cond_split hev (fun hb => ?_) (fun hb => ?_)
    ·subst hb
     simp only [cond_true] at he
     exact ihy (fun b hb => hL b (by simp [Vc, hb])) he hs hQ
    ·subst hb
     simp only [cond_false] at he
     exact ihz (fun b hb => hL b (by simp [Vc, hb])) he hs hQ
   ·simp at he
  | const cv =>
   cases cv with
   | bool β =>
    simp only [Pi] at he
    refine wp_cond_split (show a.eval (.const (.bool β)) = .bool β from rfl) (fun hb => ?_) (fun hb => ?_)
    ·subst hb
     simp only [cond_true] at he
     exact ihy (fun b hb => hL b (by simp [Vc, hb])) he h hQ
    ·subst hb
     simp only [cond_false] at he
     exact ihz (fun b hb => hL b (by simp [Vc, hb])) he h hQ
   | _ => simp [Pi] at he
  | _ => simp [Pi] at he
 | block id c ih =>
  intro hL Out k out s σ φ a w Q he h hQ
  simp only [Pi] at he
  refine wp_block (ih (fun b hb => hL b (by simpa [Vc] using hb)) he h fun e s' σ' φ' a' w' hk h' => ?_)
  cases e with
  | normal => exact hQ .normal s' σ' φ' a' w' hk h'
  | exit j =>
   simp only [PF, Exit.inBlock]
   cases hb : Nat.beq j id with
   | true =>
    rw [if_pos (js hb)]
    simp only [hb, cond_true] at hk
    exact hQ .normal s' σ' φ' a' w' hk h'
   | false =>
    rw [if_neg (fun e => by rw [e, Nat.beq_refl] at hb; simp at hb)]
    simp only [hb, cond_false] at hk
    exact hQ (.exit j) s' σ' φ' a' w' hk h'
  | ret => exact hQ .ret s' σ' φ' a' w' hk h'
 | exit id =>
  intro _ Out k out s σ φ a w Q he h hQ
  simp only [Pi] at he
  exact wp_exit (hQ (.exit id) s σ φ a w he h)
 | ret =>
  intro _ Out k out s σ φ a w Q he h hQ
  simp only [Pi] at he
  exact wp_ret (hQ .ret s σ φ a w he h)
 | loop c ih =>
  intro hL Out k out s σ φ a w Q he h hQ
  simp only [Pi] at he
  split at he
  ·rename_i r hr
   split at he
   ·rename_i ls hls
    split at he
    ·rename_i x hx
     simp only [Aa] at he
     obtain ⟨hn, he⟩ := he
     have hn := js hn
     rw [j8] at he
     obtain ⟨y, hy, he⟩ := he
     obtain ⟨m, hit⟩ := hL c (by simp [Vc]) r ls hr hls x y hy
     obtain ⟨σ1, φ1, h1⟩ := Pq h hx
     rw [hn] at h1 he
     refine wp_loop_rounds m ?_
     have key : ∀ (m : Nat) (x : ls.inT.X) (σ : Nat → Value) (φ : Nat → List Nat) (a : Act) (w : World), Jl (Dn G L ls c) m x y → Ga n0 A O0 w0 (Km ls.inT x ls.n) σ φ a w → Code.rounds P c Q m a w := by
      intro m
      induction m with
      | zero => intro x σ φ a w hit _; exact hit.elim
      | succ m ihm =>
       intro x σ φ a w hit h
       rw [rounds_succ]
       have body : ∀ z, Dn G L ls c x = some z → (z = .inr y ∨ ∃ x', z = .inl x' ∧ Jl (Dn G L ls c) m x' y) → c.wp P (Exit.then (Code.rounds P c Q m) Q) a w := by
        intro z hz hzy
        unfold Dn at hz
        refine ih (fun b hb => hL b (by simp [Vc, hb])) hz h fun e s' σ' φ' a' w' hk h' => ?_
        simp only [Aa] at hk
        obtain ⟨hn', hk⟩ := hk
        have hn' := js hn'
        cases e with
        | normal =>
         simp only at hk
         split at hk
         ·rename_i x' hx'
          simp only [jc] at hk
          obtain ⟨σ2, φ2, h2⟩ := Pq h' hx'
          rw [hn'] at h2
          rcases hzy with hzy | ⟨x'', hzy, hit'⟩
          ·rw [hzy] at hk; simp at hk
          ·rw [hzy] at hk
           simp only [Sum.inl.injEq] at hk
           subst hk
           exact ihm x' σ2 φ2 a' w' hit' h2
         ·simp at hk
        | exit j =>
         simp only [Aa] at hk
         obtain ⟨hj, hk⟩ := hk
         have hj := js hj
         split at hk
         ·rename_i y' hy'
          simp only [jc] at hk
          obtain ⟨σ2, φ2, h2⟩ := Pq h' hy'
          rw [hn'] at h2
          rcases hzy with hzy | ⟨x'', hzy, _⟩
          ·rw [hzy] at hk
           simp only [Sum.inr.injEq] at hk
           subst hk
           simp only [qc] at he
           show Q (.exit j) a' w'
           rw [hj]
           exact hQ (.exit ls.exitId) _ σ2 φ2 a' w' he h2
          ·rw [hzy] at hk; simp at hk
         ·simp at hk
        | ret =>
         simp only at hk
         split at hk
         ·rename_i y' hy'
          simp only [jc] at hk
          obtain ⟨σ2, φ2, h2⟩ := Pq h' hy'
          rw [hn'] at h2
          rcases hzy with hzy | ⟨x'', hzy, _⟩
          ·rw [hzy] at hk
           simp only [Sum.inr.injEq] at hk
           subst hk
           simp only [Sum.elim_inr] at he
           exact hQ .ret _ σ2 φ2 a' w' he h2
          ·rw [hzy] at hk; simp at hk
         ·simp at hk
       rcases hit with hit | ⟨x', hit, hit'⟩
       ·exact body _ hit (.inl rfl)
       ·exact body _ hit (.inr ⟨x', rfl, hit'⟩)
     exact key m x σ1 φ1 a w hit h1
    ·simp at he
   ·simp at he
  ·simp at he
 | _ => intros; rename_i he _ _; simp [Pi] at he
end
theorem Ib.mono {w : World} {O O' : Nat → Prop} (hO : ∀ b, O' b → O b) : ∀ {rt : Ty} {r : T rt} {fr : List Bool} {vs : List Value} {F : List Nat}, Ib w O rt r fr vs F → Ib w O' rt r fr vs F
 | .u, _, [], [], _, h => h
 | .p x y, r, f :: fr, v :: vs, F, h => by
  obtain ⟨cs, F1, F2, hv, hF, h1, h2⟩ := h
  refine ⟨cs, F1, F2, hv, hF, ?_, Ib.mono hO h2⟩
  cases f with
  | true => exact h1
  | false =>
   simp only [jo, if_false] at h1 ⊢
   exact ⟨h1.1.weaken hO, h1.2⟩
 | .u, _, _ :: _, _, _, h => by simp [Ib] at h
 | .u, _, [], _ :: _, _, h => by simp [Ib] at h
 | .p _ _, _, [], _, _, h => by simp [Ib] at h
 | .p _ _, _, _ :: _, [], _, h => by simp [Ib] at h
 | .i _, _, fr, vs, _, h => by simp [Ib] at h
 | .b, _, fr, vs, _, h => by simp [Ib] at h
 | .o, _, fr, vs, _, h => by simp [Ib] at h
 | .s, _, fr, vs, _, h => by simp [Ib] at h
 | .sl _, _, fr, vs, _, h => by simp [Ib] at h
section
variable {P : Program} {n0 : Nat} {A : Fx} {O0 : Nat → Prop} {w0 w : World} {s : AS} {σ : Nat → Value} {φ : Nat → List Nat} {a : Act} {G : Pc} {L : List (Nat × Nb)}
def RU (w : World) (O : Nat → Prop) (hp : Nat → Option Ca) (σ : Nat → Value) : D → List Value → Prop
 | .pr a b, v :: vs => Jb w O hp σ a v ∧ RU w O hp σ b vs
 | .un, [] => True
 | _, _ => False
def Bq (tmps : Array Value) : ResultVar → Sem Value
 | .tmp t => pure (tmps.getD t undef)
 | .cell a t => do loadVar t (← asAddr (tmps.getD a undef))
theorem Vr (hG : EnvTy P G) (h : Ga n0 A O0 w0 s σ φ a w) : ∀ {rs : List ResultVar} {d : D}, Cn G s rs = some d → ∃ vs, (rs.mapM (Bq a.tmps)).run P w = .ok vs w ∧ RU w (OO O0 s φ) s.heap σ d vs
 | [], d, he => by
  simp only [Cn, jc] at he
  subst he
  exact ⟨[], by simp, trivial⟩
 | .tmp t :: r, d, he => by
  simp only [Cn] at he
  split at he
  ·rename_i d1 d2 h1 h2
   simp only [jc] at he
   subst he
   obtain ⟨vs, hvs, hr⟩ := Vr hG h h2
   obtain ⟨v, hv, hru⟩ := h.tm t d1 h1
   have hg : a.tmps.getD t undef = v := by rw [Array.getD_eq_getD_getElem?, hv]; rfl
   refine ⟨v :: vs, ?_, hru, hr⟩
   rw [List.mapM_cons]
   simp only [Bq, qi, Sem.run_pure, qh, hvs, hg]
  ·simp at he
 | .cell t ty :: r, d, he => by
  simp only [Cn] at he
  split at he
  ·rename_i id d2 h1 h2
   split at he
   ·rename_i ρ d1 τ hb hty
    split at he
    ·rename_i q hq
     obtain rfl := q.down
     simp only [jc] at he
     subst he
     obtain ⟨vs, hvs, hr⟩ := Vr hG h h2
     obtain ⟨v, hv, hru⟩ := h.tm t _ h1
     have hg : a.tmps.getD t undef = v := by rw [Array.getD_eq_getD_getElem?, hv]; rfl
     rw [Fi] at hru
     obtain ⟨b, hσ, hv'⟩ := hru.2 _ _ hb
     obtain ⟨hs, b', cur, et, hσ', hh, hF, hrep, hsz⟩ := h.hp id _ hb
     rw [hσ] at hσ'
     simp at hσ'
     subst hσ'
     have hl := Pg (P := P) (hG.ty _ _ hty) (off := 0) hh (by omega)
     have hseg : Sb cur 0 ρ.size = cur.toList := by rw [← hsz]; exact EE cur
     rw [hseg] at hl
     refine ⟨Ub ρ cur.toList :: vs, ?_, Gh hs hrep, hr⟩
     rw [List.mapM_cons]
     have hoff : Ka ρ [] = 0 := rfl
     rw [hoff] at hv'
     subst hv'
     simp only [Bq, qi, Sem.run_pure, qh, hvs, hg, asAddr, hl]
    ·simp at he
   ·simp at he
  ·simp at he
theorem Sx (h : Ga n0 A O0 w0 s σ φ a w) : ∀ {rt : Ty} {fr : List Bool} {d : D} {r : T rt} {l : List Nat} {vs : List Value}, Md s rt fr d = some (r, l) → RU w (OO O0 s φ) s.heap σ d vs →
 Ib w (OO O0 s φ) rt r fr vs (Ba φ l) ∧ ∀ j, j ∈ l → ∃ b, s.heap j = some b
 | .u, [], .un, r, l, vs, he, hr => by
  simp only [Md, jc, jh] at he
  obtain ⟨_, rfl⟩ := he
  cases vs with
  | nil => exact ⟨by simp [Ib, Ba], by simp⟩
  | cons v vs => simp [RU] at hr
 | .p x y, f :: fr, .pr d1 d2, r, l, vs, he, hr => by
  cases vs with
  | nil => simp [RU] at hr
  | cons v vs =>
   simp only [Md] at he
   split at he
   ·rename_i u l1 z l2 h1 h2
    simp only [jc, jh] at he
    obtain ⟨rfl, rfl⟩ := he
    obtain ⟨g1, g2⟩ := Sx h h2 hr.2
    cases f with
    | true =>
     simp only [cond_true] at h1
     obtain ⟨hrep, hv⟩ := Dc (Re h1) hr.1
     obtain ⟨ho, hl⟩ := Og h h1 hrep
     refine ⟨⟨_, Ba φ l1, Ba φ l2, hv, Sc, ?_, g1⟩, ?_⟩
     ·simpa using ho
     ·intro j hj
      rcases jk.1 hj with hj | hj
      ·exact hl j hj
      ·exact g2 j hj
    | false =>
     simp only [cond_false] at h1
     split at h1
     ·rename_i u' hu
      simp only [jc, jh] at h1
      obtain ⟨rfl, rfl⟩ := h1
      obtain ⟨hs, hvw⟩ := Ud (w := w) (O := OO O0 s φ) (hp := s.heap) (σ := σ) hu
      obtain ⟨hrep, hv⟩ := Dc hs hr.1
      refine ⟨⟨_, [], Ba φ l2, hv, by simp [Ba], ?_, g1⟩, by simpa using g2⟩
      simpa using hvw _ hrep
     ·simp at h1
   ·simp at he
 | .u, _ :: _, d, _, _, _, he, _ => by cases d <;> simp [Md] at he
 | .u, [], .und, _, _, _, he, _ => by simp [Md] at he
 | .u, [], .anyv, _, _, _, he, _ => by simp [Md] at he
 | .u, [], .t _ _, _, _, _, he, _ => by simp [Md] at he
 | .u, [], .nil, _, _, _, he, _ => by simp [Md] at he
 | .u, [], .own _, _, _, _, he, _ => by simp [Md] at he
 | .u, [], .ptr _ _, _, _, _, he, _ => by simp [Md] at he
 | .u, [], .eptr _ _ _, _, _, _, he, _ => by simp [Md] at he
 | .u, [], .rp _ _, _, _, _, he, _ => by simp [Md] at he
 | .u, [], .pr _ _, _, _, _, he, _ => by simp [Md] at he
 | .u, [], .tup _, _, _, _, he, _ => by simp [Md] at he
 | .p _ _, [], d, _, _, _, he, _ => by cases d <;> simp [Md] at he
 | .p _ _, _ :: _, .und, _, _, _, he, _ => by simp [Md] at he
 | .p _ _, _ :: _, .anyv, _, _, _, he, _ => by simp [Md] at he
 | .p _ _, _ :: _, .t _ _, _, _, _, he, _ => by simp [Md] at he
 | .p _ _, _ :: _, .nil, _, _, _, he, _ => by simp [Md] at he
 | .p _ _, _ :: _, .own _, _, _, _, he, _ => by simp [Md] at he
 | .p _ _, _ :: _, .ptr _ _, _, _, _, he, _ => by simp [Md] at he
 | .p _ _, _ :: _, .eptr _ _ _, _, _, _, he, _ => by simp [Md] at he
 | .p _ _, _ :: _, .rp _ _, _, _, _, he, _ => by simp [Md] at he
 | .p _ _, _ :: _, .un, _, _, _, he, _ => by simp [Md] at he
 | .p _ _, _ :: _, .tup _, _, _, _, he, _ => by simp [Md] at he
 | .i _, fr, d, _, _, _, he, _ => by cases fr <;> cases d <;> simp [Md] at he
 | .b, fr, d, _, _, _, he, _ => by cases fr <;> cases d <;> simp [Md] at he
 | .o, fr, d, _, _, _, he, _ => by cases fr <;> cases d <;> simp [Md] at he
 | .s, fr, d, _, _, _, he, _ => by cases fr <;> cases d <;> simp [Md] at he
 | .sl _, fr, d, _, _, _, he, _ => by cases fr <;> cases d <;> simp [Md] at he
theorem Xw {fn : Func} {vs : List Value} (h : (fn.results.toList.mapM (Bq a.tmps)).run P w = .ok vs w) : (results fn a.tmps).run P w = .ok (Po vs) w := by
 unfold results
 rw [Array.mapM_eq_mapM_toList]
 simp only [map_eq_pure_bind, bind_assoc, pure_bind, qi, Sem.run_pure]
 show (Sem.run P (List.mapM (Bq a.tmps) fn.results.toList) w).andThen (fun vs w' => Result.ok (if h : vs.toArray.size = 1 then vs.toArray[0] else Value.tuple vs.toArray) w') = _
 rw [h]
 simp only [qh]
 congr 1
 cases vs with
 | nil => rfl
 | cons v vs => cases vs <;> rfl
end
def Ty.npar : Ty → Nat
 | .p _ y => y.npar + 1
 | _ => 0
theorem Mu {w : World} {O : Nat → Prop} : ∀ {pt : Ty} {x : T pt} {args : List Value}, Gd w O pt x args → args.length = pt.npar
 | .u, _, [], _ => rfl
 | .p x y, v, a :: r, h => by simp [Ty.npar, Mu h.2]
 | .u, _, _ :: _, h => by simp [Gd] at h
 | .p _ _, _, [], h => by simp [Gd] at h
 | .i _, _, l, h => by simp [Gd] at h
 | .b, _, l, h => by simp [Gd] at h
 | .o, _, l, h => by simp [Gd] at h
 | .s, _, l, h => by simp [Gd] at h
 | .sl _, _, l, h => by simp [Gd] at h
theorem Gw {w : World} {O : Nat → Prop} {hp : Nat → Option Ca} {σ : Nat → Value} : ∀ {pt : Ty} {x : T pt} {args : List Value} {n t : Nat} {d : D}, Gd w O pt x args → La (Bn pt x n) t = some d →
 ∃ j v, t = n + j ∧ args[j]? = some v ∧ Jb w O hp σ d v
 | .p x y, v, a :: r, n, t, d, h, hd => by
  simp only [Bn] at hd
  rw [Hb] at hd
  split at hd
  ·rename_i e
   simp only [jc] at hd
   subst hd
   obtain ⟨⟨cs, ha, hv⟩, _⟩ := h
   refine ⟨0, a, by omega, rfl, ?_⟩
   rw [ha]
   exact Gh (τ := x) (by simp [Ja]) hv
  ·obtain ⟨j, v', h1, h2, h3⟩ := Gw (hp := hp) (σ := σ) h.2 hd
   exact ⟨j + 1, v', by omega, by simpa using h2, h3⟩
 | .p _ _, _, [], _, _, _, h, _ => by simp [Gd] at h
 | .u, _, _, _, _, _, _, hd => by simp [Bn, La] at hd
 | .i _, _, _, _, _, _, h, _ => by simp [Gd] at h
 | .b, _, _, _, _, _, h, _ => by simp [Gd] at h
 | .o, _, _, _, _, _, h, _ => by simp [Gd] at h
 | .s, _, _, _, _, _, h, _ => by simp [Gd] at h
 | .sl _, _, _, _, _, _, h, _ => by simp [Gd] at h
section
variable {P : Program} {G : Pc} {L : List (Nat × Nb)}
variable {I : Ug}
def GC (I : Ug) : Fx := ⟨fun _ => False, fun _ => none, fun _ _ h => by simp at h, I, fun _ h => h.elim⟩
theorem YC (hG : Sh P I G) (hm : P.follows .mixedOrders = true) {f : FuncId} {fn : Func} {c : Code} (hf : P.funcs[f]? = some fn) (hb : fn.body = some c) (hname : (fn.name == "runtime.NumGoroutine") = false)
 (hL : ∀ b, b ∈ Vc c → Ad G L b) {pt rt : Ty} {fr : List Bool} {F : T pt → Option (T rt)} (hn : pt.npar ≤ fn.ntmps) (hF : ∀ x r, F x = some r → BA G L fn pt rt fr x = some r) : Pl P I f (.pu pt rt fr F) := by
 refine ⟨⟨fn, hf, hname, by rw [hb]; rfl⟩, ?_⟩
 intro O w x r args hx hargs hO hI hB
 have he := hF x r hx
 unfold BA at he
 rw [hb] at he
 simp only at he
 refine calls_of_wp hf hb ?_
 have hlen := Mu hargs
 have hc : Ga w.heap.size (GC I) O w ⟨fn.ntmps, Bn pt x 0, []⟩ (fun _ => undef) (fun _ => []) { tmps := args.toArray ++ Array.replicate (fn.ntmps - args.toArray.size) undef, defers := [] } w := by
  have hh : ∀ id, AS.heap ⟨fn.ntmps, Bn pt x 0, []⟩ id = none := fun id => rfl
  refine ⟨?_, rfl, ?_, ?_, ?_, ?_, ?_, hO, ⟨rfl, rfl, rfl, jm _, fun _ _ _ => rfl⟩, ?_, hB, hI⟩
  ·simp; omega
  ·intro t d hd
   have hOO : OO O ⟨fn.ntmps, Bn pt x 0, []⟩ (fun _ => []) = O := by
    funext b
    simp [OO, hh]
   rw [hOO]
   obtain ⟨j, v, h1, h2, h3⟩ := Gw hargs hd
   refine ⟨v, ?_, h3⟩
   have hj : j < args.length := (List.getElem?_eq_some_iff.1 h2).1
   have : t = j := by omega
   subst this
   rw [Array.getElem?_append_left (by simpa using hj)]
   simpa using h2
  ·intro id blk hb; rw [hh] at hb; simp at hb
  ·intro id blk hb; rw [hh] at hb; simp at hb
  ·intro id id' blk blk' _ hb; rw [hh] at hb; simp at hb
  ·intro id blk hb; rw [hh] at hb; simp at hb
  ·intro id v hv; simp [GC] at hv
 refine OF (A := GC I) hG (fun _ _ h => h) hm c hL he hc ?_
 intro e s σ φ a w' hk h
 have Sf : (match Cn G s fn.results.toList with
  | some d => match Md s rt fr d with
   | some (r, l) => bif Ld l then some r else none
   | none => none
  | none => none) = some r → a.defers = [] ∧ ∃ v, (results fn a.tmps).run P w' = .ok v w' ∧ Lk (fun v w' => ∃ vs Fr, v = Po vs ∧ Bm w w' (fun _ => False) ∧ Ib w' (fun b => O b ∨ b ∈ Fr) rt r fr vs Fr ∧ Fr.Nodup ∧ ∀ b ∈ Fr, w.heap.size ≤ b) (.returned v) w' := by
  intro hk
  split at hk
  ·rename_i d hd
   split at hk
   ·rename_i r' l hr
    simp only [Aa] at hk
    obtain ⟨hnd, hk⟩ := hk
    simp only [jc] at hk
    subst hk
    have hnd := Te hnd
    obtain ⟨vs, hvs, hru⟩ := Vr hG.toEnvTy h hd
    obtain ⟨hR, hlive⟩ := Sx h hr hru
    refine ⟨h.df, _, Xw hvs, vs, Ba φ l, rfl, ⟨h.fr.size, fun b hb _ => h.fr.block b hb (fun h => h), h.fr.os, h.fr.tape, h.fr.output⟩, hR.mono ?_, Qd h hnd hlive, ?_⟩
    ·rintro b (hb | hb)
     ·exact .inl hb
     ·obtain ⟨j, hj, hm'⟩ := Pa.1 hb
      obtain ⟨blk, hbj⟩ := hlive j hj
      exact .inr ⟨j, blk, hbj, hm'⟩
    ·intro b hb
     obtain ⟨j, hj, hm'⟩ := Pa.1 hb
     obtain ⟨blk, hbj⟩ := hlive j hj
     exact (h.fresh j blk hbj b hm').resolve_right (fun h => h)
   ·simp at hk
  ·simp at hk
 cases e with
 | normal => exact Sf hk
 | ret => exact Sf hk
 | exit j => simp at hk
end
section
variable {P : Program} {G : Pc} {L : List (Nat × Nb)} {I : Ug}
end
theorem Gg.lt {w : World} : ∀ {pt : Ty} {x : T pt} {args : List Value} {F : List Nat}, Gg w pt x args F → ∀ b, b ∈ F → b < w.heap.size
 | .u, _, [], F, h, b, hb => by simp only [Gg] at h; subst h; simp at hb
 | .p x y, v, a :: r, F, h, b, hb => by
  obtain ⟨cs, F1, F2, _, rfl, ho, h⟩ := h
  rcases jk.1 hb with hb | hb
  ·exact ho.lt b hb
  ·exact Gg.lt h b hb
 | .u, _, _ :: _, _, h, _, _ => by simp [Gg] at h
 | .p _ _, _, [], _, h, _, _ => by simp [Gg] at h
 | .i _, _, l, _, h, _, _ => by simp [Gg] at h
 | .b, _, l, _, h, _, _ => by simp [Gg] at h
 | .o, _, l, _, h, _, _ => by simp [Gg] at h
 | .s, _, l, _, h, _, _ => by simp [Gg] at h
 | .sl _, _, l, _, h, _, _ => by simp [Gg] at h
section
variable {P : Program} {G : Pc} {L : List (Nat × Nb)} {I : Ug}
end
open Go Go.WideShapes
def Wj : (τ : Ty) → T τ → Prop
 | .i k, n => k.has n
 | .b, _ => True
 | .o, _ => True
 | .s, x => ja x ≤ Ke
 | .sl e, xs => ja xs ≤ Ke ∧ ∀ i (h : i < ja xs), Wj e (List.get xs ⟨i, h⟩)
 | .u, _ => True
 | .p x y, v => Wj x v.1 ∧ Wj y v.2
def Ty.pos : Ty → Bool
 | .sl e => e.pos && Nat.blt 0 e.size
 | .p x y => x.pos && y.pos
 | .o => false
 | _ => true
section
variable {H : Type} {enc : TypeId × Value → H} {P : Program} {w : World} {base : Nat} {spare : Nat → Bool} {held : Bool}
theorem Cg {τ : Ty} {t : TypeId} (h : Xb P τ t = true) : P.cellsOf t = τ.size := by
 obtain ⟨i, h1, h2, _⟩ := Tok.size h
 simp [Program.cellsOf, h1, h2]
theorem UD {k : IntKind} {n : Int} (h : (Lit.int k n).wf = true) : k.has n := by
 simpa [Lit.wf, IntKind.has] using h
theorem JF {a : Addr} {n : Nat} (h : n ≠ 0) : a.add n = ⟨a.block, a.off + n, none⟩ := by
 simp [Addr.add, h]
theorem Np {a : Addr} {n : Nat} {cs : List Value} (h : w.cells? base a n = some cs) (hn : 0 < n) :
 ∃ cur et fr, a = ⟨a.block, a.off, none⟩ ∧ w.heap[a.block]? = some (.cells cur et fr) ∧ a.off + n ≤ cur.size ∧ cs = Sb cur a.off n := by
 unfold World.cells? at h
 split at h
 ·have hlen : cs.length = n := by simpa using mapM_some_length h
  have hget : ∀ i, i < n → w.cell? (a.add i) = cs[i]? := fun i hi => mapM_some_get h i i (by simp [hi])
  have h0 := hget 0 hn
  have ha : a.add 0 = a := by simp [Addr.add]
  rw [ha] at h0
  have hc0 : cs[0]? = some (cs[0]'(by omega)) := je (by omega)
  rw [hc0] at h0
  unfold World.cell? at h0
  split at h0
  ·rename_i cur et fr hb
   have hsp : a.spot = none := by
    cases hs : a.spot with
    | none => rfl
    | some x => simp [hs] at h0
   have hcell : ∀ i, i < n → cur[a.off + i]? = cs[i]? := by
    intro i hi
    have := hget i hi
    by_cases hi0 : i = 0
    ·subst hi0
     rw [ha] at this
     unfold World.cell? at this
     rw [hb] at this
     simpa [hsp] using this
    ·rw [JF hi0] at this
     unfold World.cell? at this
     simp only at this
     rw [hb] at this
     simpa using this
   refine ⟨cur, et, fr, by cases a; simp_all, hb, ?_, ?_⟩
   ·have h1 := hcell (n - 1) (by omega)
    rw [je (by omega)] at h1
    have := (Array.getElem?_eq_some_iff.1 h1).1
    omega
   ·apply List.ext_getElem?
    intro i
    by_cases hi : i < n
    ·rw [Hc _ _ _ _ hi, hcell i hi]
    ·rw [List.getElem?_eq_none (by omega), List.getElem?_eq_none]
     simp [Sb]; omega
  ·simp at h0
 ·simp at h
theorem OD {fs : List Field} {o : Nat} (h : Tc P .u fs o = true) : fs = [] := by
 cases fs <;> simp_all [Tc]
theorem Uv {x y : Ty} {fs : List Field} {o : Nat} (h : Tc P (.p x y) fs o = true) : ∃ f r, fs = f :: r ∧ f.offset = o ∧ Xb P x f.type = true ∧ Tc P y r (o + x.size) = true := by
 cases fs with
 | nil => simp [Tc] at h
 | cons f r =>
  simp only [Tc, jd] at h
  exact ⟨f, r, rfl, js h.1.1.1, h.1.2, h.2⟩
theorem Ev {x y : Ty} {t : TypeId} (h : Xb P (.p x y) t = true) : ∃ fs, P.underlying t = some (.struct fs) ∧ Tc P (.p x y) fs.toList 0 = true := by
 simp only [Xb, jd] at h
 obtain ⟨_, h⟩ := h
 split at h
 ·rename_i fs hfs
  refine ⟨fs, hfs, ?_⟩
  split at h
  ·rename_i f r hr
   rw [hr]
   simpa [Tc] using h
  ·simp at h
 ·simp at h
theorem Fv {t : TypeId} (h : Xb P .u t = true) : ∃ fs, P.underlying t = some (.struct fs) ∧ fs.size = 0 := by
 simp only [Xb, jd] at h
 obtain ⟨_, h⟩ := h
 split at h
 ·rename_i fs hfs
  exact ⟨fs, hfs, js h⟩
 ·simp at h
mutual
theorem Hq (hO : ∀ b, ¬ (fun _ : Nat => False) b) : ∀ (τ : Ty) (t : TypeId) (n : Nat) (cs : List Value) (x : DataW H × List MemPlace), Xb P τ t = true → τ.pos = true →
 DataW.trod enc P w base spare held n t cs = some x → ∃ y : T τ, Ia w (fun _ => False) τ y cs ∧ Wj τ y
 | .i k, t, n, cs, x, ht, _, h => by
  obtain ⟨m, h1, _, h2⟩ := DataW.trod_int (Tok.i ht) h
  exact ⟨m, h1, UD h2⟩
 | .b, t, n, cs, x, ht, _, h => by
  obtain ⟨m, h1, _⟩ := DataW.trod_bool (Tok.b ht) h
  exact ⟨m, h1, trivial⟩
 | .o, t, n, cs, x, ht, hp, h => by simp [Ty.pos] at hp
 | .s, t, n, cs, x, ht, _, h => by
  obtain ⟨m, h1, _, h2⟩ := DataW.trod_string (Tok.s ht) h
  refine ⟨m.data.toList, ?_, ?_⟩
  ·show cs = [.string ⟨List.toArray m.data.toList⟩]
   rw [h1]
  ·show m.data.toList.length ≤ Ke
   have : m.size = m.data.toList.length := Array.length_toList.symm
   unfold maxLen at h2
   unfold Ke
   omega
 | .sl e, t, n, cs, x, ht, hp, h => by
  obtain ⟨et, hu, he⟩ := Tok.sl ht
  simp only [Ty.pos, jd] at hp
  have hpos : 0 < e.size := by simpa using hp.2
  rcases DataW.trod_slice hu h with ⟨h1, _⟩ | ⟨a, len, cap, elems, rest, m, _, h1, _, _, h2, h3, h4, h5, _, _⟩
  ·exact ⟨([] : List (T e)), ⟨none, 0, h1, jm _, Nat.zero_le _, .inl rfl⟩, ⟨Nat.zero_le _, fun i hi => absurd hi (Nat.not_lt_zero i)⟩⟩
  ·rw [Cg he] at h5
   have hone : ∀ i, i < len → ∃ y : T e, ∃ cs', w.cells? base (a.add (i * e.size)) e.size = some cs' ∧ Ia w (fun _ => False) e y cs' ∧ Wj e y := by
    intro i hi
    have := h5 i hi
    rw [je (by omega), j8] at this
    obtain ⟨cs', hc, hy⟩ := this
    obtain ⟨y, hv, hr⟩ := Hq hO e et m cs' _ he hp.1 hy
    exact ⟨y, cs', hc, hv, hr⟩
   let ys : List (T e) := List.ofFn fun i : Fin len => Classical.choose (hone i.1 i.2)
   have hlen : ys.length = len := by simp [ys]
   have hy : ∀ i (h : i < ys.length), ∃ cs', w.cells? base (a.add (i * e.size)) e.size = some cs' ∧ Ia w (fun _ => False) e (ys.get ⟨i, h⟩) cs' ∧ Wj e (ys.get ⟨i, h⟩) := by
    intro i hi
    have := Classical.choose_spec (hone i (by omega))
    simpa [ys] using this
   have hmax : len ≤ Ke := by unfold maxLen at h3; unfold Ke; omega
   refine ⟨ys, ⟨some a, cap, by rw [h1, hlen], by rw [hlen]; exact h2, by rw [hlen]; exact hmax, ?_⟩, by rw [hlen]; exact hmax, fun i hi => (hy i hi).choose_spec.2.2⟩
   by_cases hl0 : len = 0
   ·left
    exact List.eq_nil_of_length_eq_zero (by omega)
   ·right
    obtain ⟨cs0, hc0, _⟩ := hy 0 (by omega)
    have ha0 : a.add (0 * e.size) = a := by simp [Addr.add]
    rw [ha0] at hc0
    obtain ⟨cur, et', fr, ha, hb, _, _⟩ := Np hc0 hpos
    have hadd : ∀ i, (a.add (i * e.size)).block = a.block ∧ (a.add (i * e.size)).off = a.off + i * e.size := by
     intro i
     unfold Addr.add
     split
     ·rename_i hz; simp [hz]
     ·exact ⟨rfl, rfl⟩
    refine ⟨a.block, a.off, cur, et', fr, by rw [← ha], fun h => h, hb, ?_, ?_⟩
    ·obtain ⟨cs1, hc1, _⟩ := hy (len - 1) (by omega)
     obtain ⟨cur1, et1, fr1, _, hb1, hs1, _⟩ := Np hc1 hpos
     rw [(hadd _).1, hb] at hb1
     simp only [jc, Obj.cells.injEq] at hb1
     rw [(hadd _).2, ← hb1.1] at hs1
     have : len * e.size = (len - 1) * e.size + e.size := by
      rw [← Nat.succ_mul]; congr 1; omega
     show a.off + ys.length * e.size ≤ cur.size
     rw [hlen]
     omega
    ·intro i hi
     obtain ⟨cs1, hc1, hv, _⟩ := hy i hi
     obtain ⟨cur1, et1, fr1, _, hb1, _, hs1⟩ := Np hc1 hpos
     rw [(hadd _).1, hb] at hb1
     simp only [jc, Obj.cells.injEq] at hb1
     rw [(hadd _).2, ← hb1.1] at hs1
     rw [← hs1]
     exact hv
 | .u, t, n, cs, x, ht, _, h => by
  obtain ⟨fs, hu, hz⟩ := Fv ht
  obtain ⟨xs, m, _, _, hl, _⟩ := DataW.trod_struct hu h
  rw [Cg ht] at hl
  exact ⟨(), List.eq_nil_of_length_eq_zero hl, trivial⟩
 | .p a c2, t, n, cs, x, ht, hp, h => by
  obtain ⟨fs, hu, hf⟩ := Ev ht
  obtain ⟨xs, m, _, _, hl, _, hget⟩ := DataW.trod_struct hu h
  rw [Cg ht] at hl
  have := Yq hO (.p a c2) fs.toList 0 m cs hf hp (by simpa using hl) (by
   intro i f hi
   have := hget i f (by simpa using hi)
   have hlt : i < xs.length := by
    have : i < fs.toList.length := (List.getElem?_eq_some_iff.1 hi).1
    simp at this; omega
   exact ⟨_, this.trans (je hlt)⟩)
  simpa using this
termination_by τ => (sizeOf τ, 1)
theorem Yq (hO : ∀ b, ¬ (fun _ : Nat => False) b) : ∀ (τ : Ty) (fs : List Field) (o m : Nat) (cs : List Value), Tc P τ fs o = true → τ.pos = true → cs.length = o + τ.size →
 (∀ (i : Nat) (f : Field), fs[i]? = some f → ∃ x, DataW.trod enc P w base spare held m f.type ((cs.drop f.offset).take (P.cellsOf f.type)) = some x) →
 ∃ y : T τ, Ia w (fun _ => False) τ y (cs.drop o) ∧ Wj τ y
 | .p a c2, fs, o, m, cs, hf, hp, hl, hx => by
  obtain ⟨f, r, rfl, ho, ht, hr⟩ := Uv hf
  simp only [Ty.pos, jd] at hp
  simp only [Ty.size] at hl
  obtain ⟨z, hz⟩ := hx 0 f rfl
  rw [Cg ht, ho] at hz
  obtain ⟨y1, hv1, hr1⟩ := Hq hO a f.type m _ z ht hp.1 hz
  obtain ⟨y2, hv2, hr2⟩ := Yq hO c2 r (o + a.size) m cs hr hp.2 (by omega) (fun i f' hi => hx (i + 1) f' (by simpa using hi))
  refine ⟨(y1, y2), ⟨(cs.drop o).take a.size, cs.drop (o + a.size), ?_, hv1, hv2⟩, hr1, hr2⟩
  rw [← List.drop_drop, List.take_append_drop]
 | .u, fs, o, m, cs, _, _, hl, _ => ⟨(), by simp only [Ia, Ty.size] at hl ⊢; exact List.drop_of_length_le (by omega), trivial⟩
 | .i _, fs, o, m, cs, hf, _, _, _ => by simp [Tc] at hf
 | .b, fs, o, m, cs, hf, _, _, _ => by simp [Tc] at hf
 | .o, fs, o, m, cs, hf, _, _, _ => by simp [Tc] at hf
 | .s, fs, o, m, cs, hf, _, _, _ => by simp [Tc] at hf
 | .sl _, fs, o, m, cs, hf, _, _, _ => by simp [Tc] at hf
termination_by τ => (sizeOf τ, 0)
end
end
open Go Go.WideShapes Go.ChangeShapes
def Ff (P : Program) : Ty → List TypeId → Bool
 | .p x y, t :: ts => Xb P x t && x.pos && Ff P y ts
 | .u, [] => true
 | _, _ => false
section
variable {H : Type} {enc : TypeId × Value → H} {P : Program} {w : World} {base : Nat} {spare : Nat → Bool} {held : Bool}
theorem Xz {τ : Ty} {t : TypeId} {v : Value} {r : Reach} {b0 : Nat} (ht : Xb P τ t = true) (h : Value.okWide P w r b0 t v) : v = Ub τ v.cells.toList := by
 have key : ∀ {τ : Ty}, τ.isAgg = false → v.cells = #[v] → v = Ub τ v.cells.toList := by
  intro τ h1 h2
  rw [h2]; simp [Ub, h1]
 cases τ with
 | i k =>
  obtain ⟨n, rfl⟩ := okWide_int (Tok.i ht) h
  exact key rfl rfl
 | b =>
  obtain ⟨n, rfl⟩ := okWide_bool (Tok.b ht) h
  exact key rfl rfl
 | o =>
  refine key rfl ?_
  obtain ⟨et, hu⟩ := Tok.o ht
  unfold Value.okWide at h
  rw [hu] at h
  cases v with
  | agg cs => simp [Cell.okWide, Cell.ok, hu] at h
  | _ => rfl
 | s =>
  refine key rfl ?_
  have hu := Tok.s ht
  unfold Value.okWide at h
  rw [hu] at h
  cases v with
  | agg cs => simp [Cell.okWide, Cell.ok, hu] at h
  | _ => rfl
 | sl e =>
  refine key rfl ?_
  obtain ⟨et, hu, _⟩ := Tok.sl ht
  unfold Value.okWide at h
  rw [hu] at h
  cases v with
  | agg cs => simp [Cell.okWide, Cell.ok, hu] at h
  | _ => rfl
 | u =>
  obtain ⟨fs, hu, _⟩ := Fv ht
  obtain ⟨cs, rfl, _⟩ := okWide_struct hu h
  simp [Ub, Ty.isAgg, Value.cells]
 | p x y =>
  obtain ⟨fs, hu, _⟩ := Ev ht
  obtain ⟨cs, rfl, _⟩ := okWide_struct hu h
  simp [Ub, Ty.isAgg, Value.cells]
theorem Gq : ∀ {pt : Ty} {ts : List TypeId} {vs : List Value} {ds : List (DataW H)} {ps : List MemPlace}, Ff P pt ts = true → DataW.TrodAll enc P w 0 spare held ts vs ds ps →
 (∀ (j : Nat) t v, ts[j]? = some t → vs[j]? = some v → Value.okWide P w .any base t v) → ∃ x : T pt, Gd w (fun _ => False) pt x vs ∧ Wj pt x
 | .p x y, t :: ts, v :: vs, d :: ds, ps, hp, h, hv => by
  simp only [Ff, jd] at hp
  obtain ⟨p, q, ⟨n, h1⟩, h2, _⟩ := h
  obtain ⟨a, ha, hra⟩ := Hq (fun _ h => h) x t n _ _ hp.1.1 hp.1.2 h1
  obtain ⟨b, hb, hrb⟩ := Gq hp.2 h2 fun j t' v' h1 h2 => hv (j + 1) t' v' (by simpa using h1) (by simpa using h2)
  exact ⟨(a, b), ⟨⟨_, Xz hp.1.1 (hv 0 t v rfl rfl), ha⟩, hb⟩, hra, hrb⟩
 | .u, [], [], [], _, _, _, _ => ⟨(), trivial, trivial⟩
 | .p _ _, [], _, _, _, hp, _, _ => by simp [Ff] at hp
 | .u, _ :: _, _, _, _, hp, _, _ => by simp [Ff] at hp
 | .i _, _, _, _, _, hp, _, _ => by simp [Ff] at hp
 | .b, _, _, _, _, hp, _, _ => by simp [Ff] at hp
 | .o, _, _, _, _, hp, _, _ => by simp [Ff] at hp
 | .s, _, _, _, _, hp, _, _ => by simp [Ff] at hp
 | .sl _, _, _, _, _, hp, _, _ => by simp [Ff] at hp
 | .p _ _, _ :: _, [], _, _, _, h, _ => by simp [DataW.TrodAll] at h
 | .p _ _, _ :: _, _ :: _, [], _, _, h, _ => by simp [DataW.TrodAll] at h
 | .u, [], _ :: _, _, _, _, h, _ => by simp [DataW.TrodAll] at h
 | .u, [], [], _ :: _, _, _, h, _ => by simp [DataW.TrodAll] at h
def Kq (P : Program) (t : TypeId) : Prop := ∃ τ : Ty, Xb P τ t = true ∧ τ.pos = true
theorem Vv : ∀ {τ : Ty} {fs : List Field} {o : Nat}, Tc P τ fs o = true → τ.pos = true →
 (∀ f ∈ fs, Kq P f.type) ∧ τ.size = (fs.map fun f => P.cellsOf f.type).sum ∧ ∀ (j : Nat) f, fs[j]? = some f → f.offset = o + ((fs.take j).map fun f => P.cellsOf f.type).sum
 | .u, fs, o, h, _ => by
  rw [OD h]
  simp [Ty.size]
 | .p x y, fs, o, h, hp => by
  obtain ⟨f, r, rfl, ho, ht, hr⟩ := Uv h
  simp only [Ty.pos, jd] at hp
  obtain ⟨h1, h2, h3⟩ := Vv hr hp.2
  refine ⟨?_, ?_, ?_⟩
  ·intro g hg
   rcases jn.1 hg with rfl | hg
   ·exact ⟨x, ht, hp.1⟩
   ·exact h1 g hg
  ·simp [Ty.size, Cg ht, h2]
  ·intro j g hj
   cases j with
   | zero => simp at hj; subst hj; simp [ho]
   | succ j =>
    have := h3 j g (by simpa using hj)
    simp [this, Cg ht, jr]
 | .i _, fs, o, h, _ => by simp [Tc] at h
 | .b, fs, o, h, _ => by simp [Tc] at h
 | .o, fs, o, h, _ => by simp [Tc] at h
 | .s, fs, o, h, _ => by simp [Tc] at h
 | .sl _, fs, o, h, _ => by simp [Tc] at h
theorem Gl {t : TypeId} {u : TypeDesc} (h : Kq P t) (hu : P.underlying t = some u) : (∃ k, u = .int k) ∨ u = .bool ∨ u = .string ∨ (∃ e, u = .slice e ∧ Kq P e ∧ 0 < P.cellsOf e) ∨ ∃ fs, u = .struct fs := by
 obtain ⟨τ, ht, hp⟩ := h
 cases τ with
 | i k => rw [Tok.i ht] at hu; exact .inl ⟨k, (Option.some.inj hu).symm⟩
 | b => rw [Tok.b ht] at hu; exact .inr (.inl (Option.some.inj hu).symm)
 | o => simp [Ty.pos] at hp
 | s => rw [Tok.s ht] at hu; exact .inr (.inr (.inl (Option.some.inj hu).symm))
 | sl e =>
  obtain ⟨et, h1, h2⟩ := Tok.sl ht
  rw [h1] at hu
  simp only [Ty.pos, jd] at hp
  exact .inr (.inr (.inr (.inl ⟨et, (Option.some.inj hu).symm, ⟨e, h2, hp.1⟩, by rw [Cg h2]; simpa using hp.2⟩)))
 | u => obtain ⟨fs, h1, _⟩ := Fv ht; rw [h1] at hu; exact .inr (.inr (.inr (.inr ⟨fs, (Option.some.inj hu).symm⟩)))
 | p x y => obtain ⟨fs, h1, _⟩ := Ev ht; rw [h1] at hu; exact .inr (.inr (.inr (.inr ⟨fs, (Option.some.inj hu).symm⟩)))
theorem Zy : Kids P (Kq P) := by
 refine ⟨?_, ?_, ?_, ?_, ?_⟩
 ·intro t e ht hu
  rcases Gl ht hu with ⟨k, h⟩ | h | h | ⟨e', h, _⟩ | ⟨fs, h⟩ <;> simp at h
 ·intro t e ht hu
  rcases Gl ht hu with ⟨k, h⟩ | h | h | ⟨e', h, h2, _⟩ | ⟨fs, h⟩ <;> simp at h
  rw [h]; exact h2
 ·intro t e n ht hu
  rcases Gl ht hu with ⟨k, h⟩ | h | h | ⟨e', h, _⟩ | ⟨fs, h⟩ <;> simp at h
 ·intro t fs ht hu
  obtain ⟨τ, ht, hp⟩ := ht
  cases τ with
  | i k => rw [Tok.i ht] at hu; simp at hu
  | b => rw [Tok.b ht] at hu; simp at hu
  | o => simp [Ty.pos] at hp
  | s => rw [Tok.s ht] at hu; simp at hu
  | sl e => obtain ⟨et, h1, _⟩ := Tok.sl ht; rw [h1] at hu; simp at hu
  | u =>
   obtain ⟨fs', h1, h2⟩ := Fv ht
   rw [h1] at hu
   simp only [jc, TypeDesc.struct.injEq] at hu
   subst hu
   have : fs'.toList = [] := by simpa using h2
   rw [Cg ht, this]
   simp [Ty.size]
  | p x y =>
   obtain ⟨fs', h1, h2⟩ := Ev ht
   rw [h1] at hu
   simp only [jc, TypeDesc.struct.injEq] at hu
   subst hu
   obtain ⟨a, b, c⟩ := Vv h2 hp
   exact ⟨a, by rw [Cg ht, b], fun j f hj => by simpa using c j f hj⟩
 ·intro t k e ht hu
  rcases Gl ht hu with ⟨k, h⟩ | h | h | ⟨e', h, _⟩ | ⟨fs, h⟩ <;> simp at h
theorem Dr : ∀ {pt : Ty} {ts : List TypeId}, Ff P pt ts = true → ∀ t ∈ ts, Kq P t
 | .p x y, t :: ts, h, t', ht => by
  simp only [Ff, jd] at h
  rcases jn.1 ht with rfl | ht
  ·exact ⟨x, h.1.1, h.1.2⟩
  ·exact Dr h.2 t' ht
 | .u, [], _, _, ht => by simp at ht
 | .p _ _, [], _, _, ht => by simp at ht
 | .u, _ :: _, h, _, _ => by simp [Ff] at h
 | .i _, _, h, _, _ => by simp [Ff] at h
 | .b, _, h, _, _ => by simp [Ff] at h
 | .o, _, h, _, _ => by simp [Ff] at h
 | .s, _, h, _, _ => by simp [Ff] at h
 | .sl _, _, h, _, _ => by simp [Ff] at h
theorem Bp {w' : World} {sp' : Nat → Bool} : ∀ {ts : List TypeId} {vs : List Value} {ds : List (DataW H)} {ps : List MemPlace}, (∀ t ∈ ts, Kq P t) →
 DataW.TrodAll enc P w 0 (fun _ => true) true ts vs ds ps → (∀ p ∈ ps, w.sameAt w' p) → (∀ p ∈ ps, sp' p.block = true) → DataW.TrodAll enc P w' 0 sp' true ts vs ds ps
 | [], [], [], _, _, h, _, _ => h
 | t :: ts, v :: vs, d :: ds, ps, hp, h, h1, h2 => by
  obtain ⟨p, q, ⟨n, ha⟩, hb, rfl⟩ := h
  refine ⟨p, q, ⟨n, DataW.trod_stays Zy ?_ (fun h => by simp at h) (hp t (by simp)) ha (fun z hz => h1 z (List.mem_append_left _ hz)) (fun z hz => h2 z (List.mem_append_left _ hz))⟩,
   Bp (fun t ht => hp t (by simp [ht])) hb (fun z hz => h1 z (List.mem_append_right _ hz)) (fun z hz => h2 z (List.mem_append_right _ hz)), rfl⟩
  intro t e ht hu
  rcases Gl ht hu with ⟨k, h⟩ | h | h | ⟨e', h, _, h2⟩ | ⟨fs, h⟩ <;> simp at h
  rw [h]; exact h2
 | [], _ :: _, _, _, _, h, _, _ => by simp [DataW.TrodAll] at h
 | [], [], _ :: _, _, _, h, _, _ => by simp [DataW.TrodAll] at h
 | _ :: _, [], _, _, _, h, _, _ => by simp [DataW.TrodAll] at h
 | _ :: _, _ :: _, [], _, _, h, _, _ => by simp [DataW.TrodAll] at h
theorem Gr : ∀ {ts : List TypeId} {vs : List Value} {ds : List (DataW H)} {ps : List MemPlace}, DataW.TrodAll enc P w base spare held ts vs ds ps → ds.length = ts.length
 | [], [], [], _, _ => rfl
 | _ :: _, _ :: _, _ :: _, _, h => by
  obtain ⟨_, _, _, h, _⟩ := h
  simp [Gr h]
 | [], _ :: _, _, _, h => by simp [DataW.TrodAll] at h
 | [], [], _ :: _, _, h => by simp [DataW.TrodAll] at h
 | _ :: _, [], _, _, h => by simp [DataW.TrodAll] at h
 | _ :: _, _ :: _, [], _, h => by simp [DataW.TrodAll] at h
theorem Bm.but {w w' : World} (h : Bm w w' fun _ => False) (may : MemPlace → Prop) : w.keptBut w' may := by
 refine ⟨h.os, h.output, fun i hi => ?_⟩
 rw [h.block i hi (fun h => h)]
 cases w.heap[i]? with
 | none => rfl
 | some o =>
  cases o with
  | cells c t fr => exact ⟨rfl, rfl, rfl, fun _ _ => rfl⟩
  | map es clock => exact .inr ⟨rfl, rfl⟩
  | _ => rfl
end
noncomputable def Ob {X R : Type} (step : X → Option (X ⊕ R)) (x : X) : Option R :=
 open Classical in if h : ∃ m y, Jl step m x y then some h.choose_spec.choose else none
theorem Jl.det {X R : Type} {step : X → Option (X ⊕ R)} : ∀ {m n : Nat} {x : X} {y z : R}, Jl step m x y → Jl step n x z → y = z
 | 0, _, _, _, _, h, _ => h.elim
 | _ + 1, 0, _, _, _, _, h => h.elim
 | m + 1, n + 1, x, y, z, h, h' => by
  rcases h with h | ⟨x1, h, h1⟩ <;> rcases h' with h' | ⟨x2, h', h2⟩
  ·rw [h] at h'; simpa using h'
  ·rw [h] at h'; simp at h'
  ·rw [h] at h'; simp at h'
  ·rw [h] at h'
   simp only [jc, Sum.inl.injEq] at h'
   subst h'
   exact Jl.det h1 h2
theorem Zm {X R : Type} {step : X → Option (X ⊕ R)} {x : X} {y : R} : Ob step x = some y ↔ ∃ m, Jl step m x y := by
 unfold Ob
 constructor
 ·intro h
  split at h
  ·rename_i hh
   simp only [jc] at h
   exact ⟨_, h ▸ hh.choose_spec.choose_spec⟩
  ·simp at h
 ·rintro ⟨m, h⟩
  have hh : ∃ m y, Jl step m x y := ⟨m, y, h⟩
  rw [dif_pos hh]
  exact congrArg some (Jl.det hh.choose_spec.choose_spec h)
theorem Zs {X R : Type} {step : X → Option (X ⊕ R)} (x : X) : Ob step x = (step x).bind (jy (Ob step) some) := by
 apply Option.ext
 intro y
 rw [Zm]
 constructor
 ·rintro ⟨m, h⟩
  cases m with
  | zero => exact h.elim
  | succ m =>
   rcases h with h | ⟨x', h, h'⟩
   ·simp [h]
   ·simp [h, Zm.2 ⟨m, h'⟩]
 ·intro h
  rw [j8] at h
  obtain ⟨z, hz, h⟩ := h
  cases z with
  | inl x' =>
   obtain ⟨m, hm⟩ := Zm.1 h
   exact ⟨m + 1, .inr ⟨x', hz, hm⟩⟩
  | inr z =>
   simp only [Sum.elim_inr, jc] at h
   subst h
   exact ⟨1, .inl hz⟩
def lp (fn : Func) (i : Nat) : Code := (Vc (fn.body.getD .skip)).getD i .skip
theorem ZA {G : Pc} {L : List (Nat × Nb)} {fn : Func} {i r : Nat} {ls : Nb} {R : ls.inT.X → Option (ls.inT.X ⊕ (ls.outT.X ⊕ ls.retT.X))}
 (h1 : Pe (lp fn i) = some r) (h2 : (La L r) = some ls) (h3 : ls.F = Ob R) (h4 : ∀ x, Dn G L ls (lp fn i) x = R x) : Ad G L (lp fn i) := by
 intro r' ls' hr hl x y hy
 rw [h1] at hr
 simp only [jc] at hr
 subst hr
 rw [h2] at hl
 simp only [jc] at hl
 subst hl
 rw [h3] at hy
 obtain ⟨m, hm⟩ := Zm.1 hy
 have : Dn G L ls (lp fn i) = R := funext h4
 rw [this]
 exact ⟨m, hm⟩
theorem AB {G : Pc} {L : List (Nat × Nb)} {fn : Func} {k : Nat} (hk : Nat.beq (Vc (fn.body.getD .skip)).length k = true) (h : ∀ i, i < k → Ad G L (lp fn i)) :
 ∀ b, b ∈ Vc (fn.body.getD .skip) → Ad G L b := by
 intro b hb
 obtain ⟨i, hi, rfl⟩ := List.mem_iff_getElem.1 hb
 have := h i (by rw [← js hk]; exact hi)
 unfold lp at this
 rwa [qb, je hi] at this
theorem Bd {p : Nat → Prop} : ∀ i, i < 0 → p i := fun i h => absurd h (Nat.not_lt_zero i)
theorem Ic {p : Nat → Prop} {k : Nat} (h : p k) (hr : ∀ i, i < k → p i) : ∀ i, i < k + 1 → p i := by
 intro i hi
 rcases Nat.lt_or_eq_of_le (Nat.lt_succ_iff.1 hi) with hi | rfl
 ·exact hr i hi
 ·exact h
section
variable {P : Program}
theorem YB {l : List (Nat × Ty)} {fs : List (Nat × Qb)} {m : List (Nat × Nat)} {z : Bool} {ar : List (Nat × Ty × Nat)} {mv ml : List Nat}
 (h : ((l.all fun x => Xb P x.2 x.1) && (ar.all fun x => Ot P x.1 x.2.1 x.2.2)) = true) : EnvTy P ⟨l, fs, m, z, ar, mv, ml⟩ := by
 simp only [jd] at h
 exact ⟨fun t τ ht => List.all_eq_true.1 h.1 (t, τ) (Yh ht), fun t e n ht => List.all_eq_true.1 h.2 (t, e, n) (Yh ht)⟩
theorem AA {I : Ug} {l : List (Nat × Ty)} {m : List (Nat × Nat)} {z : Bool} {ar : List (Nat × Ty × Nat)} {mv ml : List Nat}
 (h : ((l.all fun x => Xb P x.2 x.1) && (ar.all fun x => Ot P x.1 x.2.1 x.2.2)) = true) : Sh P I ⟨l, [], m, z, ar, mv, ml⟩ :=
 { toEnvTy := YB h, fn := fun f sem h => by simp [La] at h }
theorem Sh.cons {I : Ug} {l : List (Nat × Ty)} {fs : List (Nat × Qb)} {m : List (Nat × Nat)} {z : Bool} {ar : List (Nat × Ty × Nat)} {mv ml : List Nat} {f : Nat} {sem : Qb} (hs : Pl P I f sem)
 (h : Sh P I ⟨l, fs, m, z, ar, mv, ml⟩) : Sh P I ⟨l, (f, sem) :: fs, m, z, ar, mv, ml⟩ :=
 { toEnvTy := ⟨h.ty, h.ar⟩, fn := fun g s hg => by
    simp only [Hb] at hg
    split at hg
    ·rename_i e
     simp only [jc] at hg
     subst e; subst hg
     exact hs
    ·exact h.fn g s hg }
theorem Vz {fn : Func} (h : fn.body.isSome = true) : fn.body = some (fn.body.getD .skip) := by
 cases hb : fn.body with
 | none => rw [hb] at h; simp at h
 | some c => rfl
variable {I : Ug} {G : Pc} {L : List (Nat × Nb)}
theorem Ju (hG : Sh P I G) (hm : P.follows .mixedOrders = true) {f : FuncId} {fn : Func} {k : Nat} {pt rt : Ty} {fr : List Bool} {F : T pt → Option (T rt)} (hf : P.funcs[f]? = some fn)
 (hb : (fn.body.isSome && !(fn.name == "runtime.NumGoroutine") && jt pt.npar fn.ntmps && Nat.beq (Vc (fn.body.getD .skip)).length k) = true)
 (hL : ∀ i, i < k → Ad G L (lp fn i)) (hF : ∀ x, BA G L fn pt rt fr x = F x) : Pl P I f (.pu pt rt fr F) := by
 simp only [jd, Bool.not_eq_true'] at hb
 exact YC hG hm hf (Vz hb.1.1.1) hb.1.1.2 (AB hb.2 hL) (Nat.le_of_ble_eq_true hb.1.2) fun x r h => (hF x).trans h
end
def hd (h : T .o) : Value := .slice h.1 h.2.1 h.2.2
section
variable {P : Program} {w w' : World}
end
open Classical in
def FB (n : Nat) : Bool := jt n 1048576
noncomputable def Kw (x y : List UInt8) : Option (List (List UInt8) × Unit) :=
 bif FB (ja x) && jt 1 (ja y) then some (Lib.split x y, ()) else none
theorem WD {cur : Array Value} {k : Nat} {v : Value} (h : cur[k]? = some v) : Sb cur k 1 = [v] := by
 apply List.ext_getElem?
 intro j
 by_cases hj : j = 0
 ·subst hj; rw [Hc cur k 1 0 (by omega)]; simpa using h
 ·have hk : k < cur.size := (Array.getElem?_eq_some_iff.1 h).1
  have hl : (Sb cur k 1).length = 1 := Lb (by omega)
  rw [List.getElem?_eq_none (by omega), List.getElem?_eq_none (by simp; omega)]
theorem Fo (w : World) (o : Obj) : (w.alloc o).heap = w.heap.push o := rfl
theorem Zw {P : Program} {ρ : Go.Shelf.Ren} {f : FuncId} {I : Ug} (L : Go.Proofs.LaysM.n146 P ρ) (hf : ρ.f 146 = f)
 (hI : ∀ w, I.p w → ∃ m, w.cell? ⟨ρ.g 1, 0, none⟩ = some (.int .i64 m)) : Pl P I f (.pu (.p .s (.p .s .u)) (.p (.sl .s) .u) [true] (fun x => Kw x.1 x.2.1)) := by
 subst hf
 refine ⟨⟨_, L.f146, rfl, rfl⟩, ?_⟩
 intro O w x r args hF hA hO hi hb
 match args, hA with
 | [a, b], hA =>
  obtain ⟨⟨ca, rfl, hca⟩, ⟨cb, rfl, hcb⟩, _⟩ := hA
  have hca' : ca = [.string ⟨List.toArray x.1⟩] := hca
  have hcb' : cb = [.string ⟨List.toArray x.2.1⟩] := hcb
  subst hca'; subst hcb'
  simp only [Kw, FB] at hF
  cases h1 : jt (ja x.1) 1048576 with
  | false => rw [h1] at hF; simp at hF
  | true =>
  cases h2 : jt 1 (ja x.2.1) with
  | false => rw [h1, h2] at hF; simp at hF
  | true =>
  rw [h1, h2] at hF
  simp only [Bool.and_true, cond_true, jc] at hF
  subst hF
  have h1' := Nat.le_of_ble_eq_true h1
  have h2' := Nat.le_of_ble_eq_true h2
  obtain ⟨m, hm⟩ := hI w hi
  have hs1 : (⟨List.toArray x.1⟩ : ByteArray).size = ja x.1 := by show (List.toArray x.1).size = _; simp
  have hs2 : (⟨List.toArray x.2.1⟩ : ByteArray).size = ja x.2.1 := by show (List.toArray x.2.1).size = _; simp
  have hd : (Lib.splitB ⟨List.toArray x.2.1⟩ 0 (Lib.countB ⟨List.toArray x.1⟩ ⟨List.toArray x.2.1⟩) ⟨List.toArray x.1⟩).map (fun z => z.data.toList) = Lib.split x.1 x.2.1 := by
   rw [Lib.splitB_data]; rfl
  have hlen := Lib.splitB_all ⟨List.toArray x.2.1⟩ (by omega) 0 _ ⟨List.toArray x.1⟩ rfl
  have hle := Lib.countB_le ⟨List.toArray x.2.1⟩ (by omega) _ ⟨List.toArray x.1⟩ (jm _)
  obtain ⟨zs, hz⟩ : ∃ zs, Lib.splitB ⟨List.toArray x.2.1⟩ 0 (Lib.countB ⟨List.toArray x.1⟩ ⟨List.toArray x.2.1⟩) ⟨List.toArray x.1⟩ = zs := ⟨_, rfl⟩
  rw [hz] at hlen hd
  obtain ⟨n, hcn⟩ : ∃ n, Lib.countB ⟨List.toArray x.1⟩ ⟨List.toArray x.2.1⟩ = n := ⟨_, rfl⟩
  rw [hcn] at hlen hle
  have hn : (Lib.split x.1 x.2.1).length = n + 1 := by rw [← hd, List.length_map, hlen]
  refine (Go.Proofs.Any.strings_Split { L with } L.i9 ⟨List.toArray x.1⟩ ⟨List.toArray x.2.1⟩ m w (by omega) hm (by omega)).mono ?_
  rintro e w' ⟨rfl, rfl⟩
  rw [hz]
  refine ⟨[.slice (some ⟨w.heap.size, 0, none⟩) (n + 1) (n + 1)], [w.heap.size], by rw [hcn]; rfl, ⟨?_, ?_, rfl, rfl, rfl⟩, ?_, by simp, by simp⟩
  ·rw [Fo]; simp
  ·intro b hb _
   rw [Fo]
   simp [Array.getElem?_push_lt hb, Array.getElem?_eq_getElem hb]
  ·refine ⟨[.slice (some ⟨w.heap.size, 0, none⟩) (n + 1) (n + 1)], [w.heap.size], [], rfl, rfl, ?_, rfl⟩
   show Ua _ (.sl .s) (Lib.split x.1 x.2.1) _ _
   refine ⟨by rw [hn]; unfold Ke; omega, .inr ⟨w.heap.size, 0, n + 1, (zs.map Value.string).toArray, ρ.t 9, List.replicate (n + 1) [], ?_, ?_, by omega, by unfold Ke; omega, ?_, ?_, ?_, ?_⟩⟩
   ·rw [hn]
   ·rw [Fo]; simp
   ·simp [Ty.size, hlen]
   ·simp
   ·simp [hn]
   ·intro i hi
    have hi' : i < n + 1 := by omega
    have hiz : i < zs.length := by omega
    refine ⟨?_, by simp [qb, List.getElem?_replicate, hi']⟩
    show Sb _ (0 + i * 1) 1 = _
    apply WD
    have : (Lib.split x.1 x.2.1)[i]'hi = (zs[i]).data.toList := by simp [← hd]
    show _ = some (Value.string ⟨List.toArray ((Lib.split x.1 x.2.1)[i]'hi)⟩)
    rw [this]
    simp [hiz]
open Go Go.WideShapes Go.ChangeShapes
def Wz : DataW Unit → List Value
 | .lit (.int k n) => [.int k n]
 | .lit (.bool b) => [.bool b]
 | .agg l => cellsDs l
 | _ => []
where cellsDs : List (DataW Unit) → List Value
 | [] => []
 | d :: r => Wz d ++ cellsDs r
def RD (d : DataW Unit) : Obj → Obj
 | .cells _ t frozen => .cells (Wz d).toArray t frozen
 | o => o
def SD (P : Program) (h : Array Obj) (x : String × DataW Unit) : Array Obj :=
 match P.globalNamed x.1 with
 | some g => h.modify g (RD x.2)
 | none => h
noncomputable def HD (P : Program) (os : Os) (laid : List (String × DataW Unit)) : World :=
 let w := World.holding P os ⟨#[], #[], []⟩
 { w with heap := laid.foldl (SD P) w.heap }
def CC (g : Nat) : Ug := ⟨g + 1, fun w => ∃ m, w.cell? ⟨g, 0, none⟩ = some (.int .i64 m), fun w w' hb h => by
 obtain ⟨m, hm⟩ := h
 refine ⟨m, ?_⟩
 unfold World.cell? at hm ⊢
 rw [hb g (Nat.lt_succ_self g)]
 exact hm⟩
theorem FA {g : Nat} {w : World} (h : (CC g).p w) : (CC g).base ≤ w.heap.size := by
 obtain ⟨m, hm⟩ := h
 unfold World.cell? at hm
 have : g < w.heap.size := by
  apply Classical.byContradiction
  intro hn
  simp only [Array.getElem?_eq_none (show w.heap.size ≤ g by omega)] at hm
  simp at hm
 exact this
theorem Zo {P : Program} {l : List (String × DataW Unit)} {w : World} (h : (l.filter fun x => x.2.handleName?.isSome) = []) : laidMetH P l w = laidMet P l w := by
 unfold laidMetH
 rw [h]
section
variable {H : Type} {enc : TypeId × Value → H}
theorem Tq {a : Assume} {C : Checked} {os : Os} {f : FuncId} {fn : Func} {s : ChangeSpec} {conds : List PathCond} {apart fresh handsOn again : Bool} {X : World → Array Value → Prop}
 (hX : ∀ (w w' : World) (args : Array Value), w.heap = w'.heap → X w args → X w' args)
 (own : ownKnob C.prog.godebug = none) (started : os.Started) (noInit : C.prog.inits.idxOf? f = none) (hfn : C.prog.funcs[f]? = some fn)
 (witness : ∃ (w : World) (tape : Tape) (i : Input), w.os = os ∧ (w.forCall tape i).Shaped C.prog ∧ i.vars = [] ∧ Input.okWide C.prog (w.forCall tape i) .any w.heap.size f i ∧
  ((s.pre enc C.prog fn conds apart (w.forCall tape i).memory i.args ∧ X (w.forCall tape i).memory i.args) ∧ sizedMet enc C.prog fn (OpenSpec.ofChange s) apart (w.forCall tape i).memory i.args) ∧ a.holds C.prog (lone (Frame.enter C.prog f i.args .normal) [] (w.forCall tape i)))
 (contract : ∀ (W : World) (base : Nat) (args : Array Value) (ds gs : List (DataW H)) (before : List MemPlace),
  (∀ (j : Nat) t v, fn.params[j]? = some t → args[j]? = some v → Value.okWide C.prog W .any base t v) →
  DataW.Whole enc C.prog fn.params.toList s.vars apart W args.toList ds gs before →
  conds.all (PathCond.test C.prog ⟨fn.params.toList, ds, s.plain.varTypes C.prog, gs⟩) = true →
  (DataW.weightsEach C.prog (fn.params.toList ++ s.plain.varTypes C.prog) (ds ++ gs)).all (· ≤ reachBytes) = true → W.ShapedOpen C.prog → X W args →
  a.holds C.prog (lone (Frame.enter C.prog f args .normal) [] W) →
  Calls C.prog f args W fun e W' => ∃ v, e = .returned v ∧ s.post enc C.prog fn apart fresh handsOn again W args v W') :
 ReturnsInHanded a C os f .any (fun w args => (s.pre enc C.prog fn conds apart w args ∧ X w args) ∧ sizedMet enc C.prog fn (OpenSpec.ofChange s) apart w args) (s.post enc C.prog fn apart fresh handsOn again) := by
 refine returnsInHanded_of_calls own started noInit witness ?_
 intro w tape i _ hsh _ hok hpre hholds
 obtain ⟨_, _, _, fn', hfn', _, _, _, _, hval⟩ := hok
 have e : fn' = fn := Option.some.inj (hfn'.symm.trans hfn)
 subst e
 obtain ⟨⟨⟨ds, gs, before, hw, hc⟩, hx⟩, hz⟩ := hpre
 have hw' := DataW.Whole.of_heap (w' := w.forCall tape i) (by rfl) hw
 refine (contract (w.forCall tape i) w.heap.size i.args ds gs before hval hw' hc (hz.weights hw) hsh (hX _ _ _ (by rfl) hx) hholds).mono fun e W' ⟨v, he, hp⟩ => ?_
 subst he
 exact ChangeSpec.post_blind hp
theorem Aw {C : Checked} {os : Os} {f : FuncId} {fn : Func} {s : ChangeSpec} {apart fresh handsOn again : Bool} {pt : Ty} {fl : Bool} {F : T pt → Option (Bool × Unit)} {tb : TypeId} {I : Ug} {laid : List (String × DataW Unit)}
 (own : ownKnob C.prog.godebug = none) (started : os.Started) (noInit : C.prog.inits.idxOf? f = none) (hfn : C.prog.funcs[f]? = some fn)
 (witness : ∃ (w : World) (tape : Tape) (i : Input), w.os = os ∧ (w.forCall tape i).Shaped C.prog ∧ i.vars = [] ∧ Input.okWide C.prog (w.forCall tape i) .any w.heap.size f i ∧
  ((s.pre enc C.prog fn [] apart (w.forCall tape i).memory i.args ∧ laidMetH C.prog laid (w.forCall tape i).memory) ∧ sizedMet enc C.prog fn (OpenSpec.ofChange s) apart (w.forCall tape i).memory i.args) ∧ ({} : Assume).holds C.prog (lone (Frame.enter C.prog f i.args .normal) [] (w.forCall tape i)))
 (hvars : s.vars = []) (hs : ∀ ds : List (DataW H), ds.length = fn.params.toList.length → s.fn H ds = { results := [.lit (.bool true)], args := ds })
 (hp : Ff C.prog pt fn.params.toList = true) (hr : fn.resultTypes = #[tb]) (htb : C.prog.underlying tb = some .bool)
 (hsound : Pl C.prog I f (.pu pt (.p .b .u) [fl] F)) (hF : ∀ x, Wj pt x → F x = some (true, ()))
 (hI : ∀ W : World, W.ShapedOpen C.prog → laidMetH C.prog laid W → I.p W ∧ I.base ≤ W.heap.size) (hnh : (laid.filter fun x => x.2.handleName?.isSome) = []) :
 ReturnsInHanded {} C os f .any (fun w args => (s.pre enc C.prog fn [] apart w args ∧ laidMetH C.prog laid w) ∧ sizedMet enc C.prog fn (OpenSpec.ofChange s) apart w args) (s.post enc C.prog fn apart fresh handsOn again) := by
 refine Tq (X := fun w _ => laidMetH C.prog laid w) (fun _ _ _ hh h => by
  rw [Zo hnh] at h ⊢
  exact h.of_heap hh) own started noInit hfn witness ?_
 intro W b0 args ds gs before hval hW _ _ hsh hX _
 have hW0 := hW
 obtain ⟨p, q, hA, hV, hps, hfz, hnd⟩ := hW
 rw [hvars] at hV
 have hgs : gs = [] ∧ q = [] := by
  cases gs with
  | nil => exact ⟨rfl, hV⟩
  | cons _ _ => exact hV.elim
 obtain ⟨rfl, rfl⟩ := hgs
 simp only [List.append_nil] at hps
 subst hps
 obtain ⟨x, hx, hrx⟩ := Gq (base := b0) hp hA fun j t v h1 h2 => hval j t v (by simpa using h1) (by simpa using h2)
 have hcall := hsound.2 (fun _ => False) W x (true, ()) args.toList (hF x hrx) hx (fun _ h => h.elim) (hI W hsh hX).1 (hI W hsh hX).2
 refine hcall.mono fun e W' hret => ?_
 cases e with
 | returned v =>
  obtain ⟨vs, Fr, hv, hk, hR, _, _⟩ := hret
  have hvt : v = .bool true := by
   cases vs with
   | nil => simp [Ib] at hR
   | cons a r =>
    obtain ⟨cs, F1, F2, ha, _, hown, hrest⟩ := hR
    cases r with
    | cons _ _ => simp [Ib] at hrest
    | nil =>
     have hcs : cs = [.bool true] := by
      cases fl with
      | true => exact hown.1
      | false => exact hown.1
     rw [hv, Po, ha, hcs]
     rfl
  subst hvt
  refine ⟨_, rfl, ?_⟩
  have hsp := hs ds (Gr hA)
  have hlt : ∀ z ∈ before, z.block < W.heap.size := hW0.lt
  have hsame : ∀ z ∈ before, W.sameAt W' z := by
   intro z hz
   have hb := hk.block z.block (hlt z hz) (fun h => h)
   cases z with
   | cell b off =>
    show W'.cell? _ = W.cell? _
    simp only [World.cell?]
    rw [show W'.heap[b]? = W.heap[b]? from hb]
   | map b => exact hb
  have hargs : ∀ sp : Nat → Bool, (∀ z ∈ before, sp z.block = true) → DataW.TrodAll enc C.prog W' 0 sp true fn.params.toList args.toList ds before :=
   fun sp h => Bp (Dr hp) hA hsame h
  have hres : ∀ (b : Nat) (sp : Nat → Bool) (hd : Bool), DataW.TrodAll enc C.prog W' b sp hd fn.resultTypes.toList ((Value.bool true).resultList fn.resultTypes.size) [.lit (.bool true)] [] := by
   intro b sp hd
   rw [hr]
   exact trodAll_mk1 (Go.RowKit.shut_bool htb true)
  have hold : ∀ z ∈ before, (fun b => decide (b < W.heap.size)) z.block = true := fun z hz => by simpa using hlt z hz
  refine ⟨ds, [], before, [], before, [], hW0, ?_, ?_, ?_, hk.but _, fun _ => ⟨?_, ds.cons (.lit (.bool true)), [], before, ⟨before, [], ?_, ?_, by simp, ?_, ?_⟩, fun z hz _ => hz⟩⟩
  ·rw [List.append_nil, hsp]; exact hres _ _ _
  ·rw [List.append_nil, hsp]; exact hargs _ hold
  ·rw [List.append_nil, hsp, hvars]; rfl
  ·intro j t r hj hv
   rw [hr] at hj hv
   match j, hj, hv with
   | 0, hj, hv =>
    simp only [List.getElem?_toArray, List.getElem?_cons_zero, jc] at hj
    simp [Value.resultList] at hv
    subst hj; subst hv
    exact Go.RowKit.okWide_bool_mk htb true
  ·exact trodAll_append (hargs _ (fun _ _ => rfl)) (hres _ _ _)
  ·rw [hvars]; rfl
  ·intro b off hz
   have := hfz b off hz
   unfold World.frozen? at this ⊢
   rw [show W'.heap[b]? = W.heap[b]? from hk.block b (hlt _ hz) (fun h => h)]
   exact this
  ·exact hnd
 | _ => exact hret.elim
end
def Ql {α S R : Type} (g : Nat → S → α → S ⊕ R) : Nat → S → List α → S ⊕ R
 | _, s, [] => .inl s
 | k, s, x :: xs => match g k s x with
  | .inl s' => Ql g (k + 1) s' xs
  | .inr r => .inr r
section
variable {X R : Type} {step : X → Option (X ⊕ R)}
theorem Bc {x : X} {z : Option (X ⊕ R)} (h : step x = z) : Ob step x = z.bind (jy (Ob step) some) := by
 rw [Zs, h]
theorem Vw {α S R' : Type} (xs : List α) (g : Nat → S → α → S ⊕ R') (I : Nat → S → X) (out : S → R) (ex : R' → R) (Ug : Nat → S → Prop)
 (h : ∀ k (hk : k < xs.length) s, Ug k s → step (I k s) = some (match g k s xs[k] with | .inl s' => .inl (I (k + 1) s') | .inr r => .inr (ex r)) ∧ ∀ s', g k s xs[k] = .inl s' → Ug (k + 1) s')
 (he : ∀ s, Ug xs.length s → step (I xs.length s) = some (.inr (out s))) (s0 : S) (h0 : Ug 0 s0) :
 Ob step (I 0 s0) = some (match Ql g 0 s0 xs with | .inl s => out s | .inr r => ex r) := by
 have key : ∀ (ys : List α) (k : Nat) (s : S), xs.drop k = ys → k ≤ xs.length → Ug k s → Ob step (I k s) = some (match Ql g k s ys with | .inl s => out s | .inr r => ex r) := by
  intro ys
  induction ys with
  | nil =>
   intro k s hd hle hi
   have : k = xs.length := by
    have := congrArg ja hd
    simp at this
    omega
   subst this
   rw [Bc (he s hi)]
   rfl
  | cons y ys ih =>
   intro k s hd hle hi
   have hk : k < xs.length := by
    have := congrArg ja hd
    simp at this
    omega
   have hy : xs[k] = y := by
    have := congrArg (·[0]?) hd
    simp [List.getElem?_drop, je hk] at this
    exact this
   obtain ⟨h1, h2⟩ := h k hk s hi
   rw [Bc h1]
   rw [hy] at h2 ⊢
   simp only [Ql]
   cases hg : g k s y with
   | inl s' =>
    simp only [jb, qc]
    refine ih (k + 1) s' ?_ hk (h2 s' hg)
    rw [← List.drop_drop, hd]
    rfl
   | inr r => rfl
 exact key xs 0 s0 rfl (Nat.zero_le _) h0
theorem Eu (I : Nat → X) (n : Nat) (out : R) (h : ∀ k, k < n → step (I k) = some (.inl (I (k + 1)))) (he : step (I n) = some (.inr out)) : Ob step (I 0) = some out := by
 have key : ∀ m k, m + k = n → Ob step (I k) = some out := by
  intro m
  induction m with
  | zero =>
   intro k hk
   have : k = n := by omega
   subst this
   rw [Bc he]; rfl
  | succ m ih =>
   intro k hk
   rw [Bc (h k (by omega))]
   exact ih (k + 1) (by omega)
 exact key n 0 (by omega)
end
theorem Iq {n : Int} (h1 : -9223372036854775808 ≤ n) (h2 : n ≤ 9223372036854775807) : jw .i64 n = n := IntWalk.i64_in n ⟨h1, h2⟩
theorem Ii {k : Nat} (h : k < 9223372036854775807) : jw .i64 ((k : Int) + 1) = ((k + 1 : Nat) : Int) := by
 rw [Iq (by omega) (by omega)]; omega
section
variable {α : Type}
theorem PD (xs : List α) (k : Nat) : Oe xs (k : Int) = xs[k]? := by simp [Oe]
theorem Xf {xs : List α} {k : Nat} (h : k < xs.length) : Oe xs (k : Int) = some xs[k] := by rw [PD, je h]
theorem Lx (n k : Nat) : Kk n (k : Int) = decide (k < n) := by
 simp [Kk]
theorem Bb {p : Prop} [Decidable p] (h : p) : decide p = true := decide_eq_true h
theorem Wb {p : Prop} [Decidable p] (h : ¬ p) : decide p = false := decide_eq_false h
theorem HB {xs : List α} {k : Nat} (h : k < xs.length) : xs.take (k + 1) = xs.take k ++ [xs[k]] := by
 rw [List.take_succ_eq_append_getElem h]
end
theorem XC {α : Type} {xs : List α} {z : α} {k : Nat} (h : k < xs.length) : (xs.take k ++ List.replicate (xs.length - k) z).set k xs[k] = xs.take (k + 1) ++ List.replicate (xs.length - (k + 1)) z := by
 have h1 : (xs.take k).length = k := by simp; omega
 rw [List.set_append_right _ _ (by omega), h1, Nat.sub_self, show xs.length - k = (xs.length - (k + 1)) + 1 by omega, List.replicate_succ, List.set_cons_zero, HB h, List.append_assoc]
 rfl
theorem AC {α : Type} {xs : List α} {z : α} {k : Nat} (h : k ≤ xs.length) : (xs.take k ++ List.replicate (xs.length - k) z).length = xs.length := by
 simp; omega
theorem Zz {α R : Type} {X : Type} {step : X → Option (X ⊕ R)} (xs : List α) (z : α) (I : List α → Int → X) (out : List α → R)
 (h : ∀ k (hk : k < xs.length) (o : List α), o.length = xs.length → step (I o (k : Int)) = some (.inl (I (o.set k xs[k]) (jw .i64 ((k : Int) + 1)))))
 (he : ∀ o, step (I o (xs.length : Int)) = some (.inr (out o))) (hn : xs.length < 9223372036854775807) :
 Ob step (I (List.replicate xs.length z) 0) = some (out xs) := by
 have := Eu (step := step) (fun k => I (xs.take k ++ List.replicate (xs.length - k) z) (k : Int)) xs.length (out xs) (fun k hk => by
  rw [h k hk _ (AC (by omega)), XC hk, Ii (by omega)]) (by
  rw [List.take_length, Nat.sub_self]
  simpa using he xs)
 simpa using this
theorem VD {n : Nat} (h : n ≤ Dk) : (((n : Int) == (n : Int)) && (decide ((0 : Int) ≤ (n : Int)) && decide ((n : Int) ≤ ((Dk : Nat) : Int)))) = true := by
 simp only [beq_self_eq_true, ji, jd, decide_eq_true_eq]
 omega
theorem MG : Dk = 1073741824 := rfl
def Vb : (τ : Ty) → T τ → Nat
 | .i _, _ => 0
 | .b, _ => 0
 | .o, _ => 0
 | .s, x => ja x
 | .sl e, xs => ja xs + (List.map (Vb e) xs).sum
 | .u, _ => 0
 | .p a c, v => Vb a v.1 + Vb c v.2
def Ty.hasS : Ty → Bool
 | .s => true
 | .sl e => e.hasS
 | .p x y => x.hasS || y.hasS
 | _ => false
def Yb : Nat := 1048576
theorem Xl {α : Type} {f : α → Nat} {xs : List α} {k : Nat} (hk : k < xs.length) : f xs[k] ≤ (xs.map f).sum := by
 induction xs generalizing k with
 | nil => simp at hk
 | cons x xs ih =>
  cases k with
  | zero => simp
  | succ k =>
   have := ih (k := k) (by simpa using hk)
   simp only [List.getElem_cons_succ, List.map_cons, List.sum_cons]
   omega
def Lu (n l : Nat) : Int := if n ≤ l then ((l - n : Nat) : Int) else -1
theorem Ao {n l : Nat} (h : n ≤ l) : Lu n l = ((l - n : Nat) : Int) := if_pos h
theorem Qm {n l : Nat} (h : ¬ n ≤ l) : Lu n l = -1 := if_neg h
theorem FE {α X R : Type} {step : X → Option (X ⊕ R)} (xs : List α) (n : α → Nat) (I : Int → Int → X) (yes : Int → R) (no : R)
 (h : ∀ k (hk : k < xs.length) (l : Nat), l ≤ Yb → step (I (l : Int) (k : Int)) = some (if n xs[k] ≤ l then .inl (I ((l - n xs[k] : Nat) : Int) (jw .i64 ((k : Int) + 1))) else .inr no))
 (he : ∀ l : Nat, step (I (l : Int) (xs.length : Int)) = some (.inr (yes (l : Int)))) (hn : xs.length < 9223372036854775807) (l : Nat) (hl : l ≤ Yb) :
 Ob step (I (l : Int) 0) = some (if (xs.map n).sum ≤ l then yes ((l - (xs.map n).sum : Nat) : Int) else no) := by
 have key : ∀ (ys : List α) (k l : Nat), xs.drop k = ys → k ≤ xs.length → l ≤ Yb → Ob step (I (l : Int) (k : Int)) = some (if (ys.map n).sum ≤ l then yes ((l - (ys.map n).sum : Nat) : Int) else no) := by
  intro ys
  induction ys with
  | nil =>
   intro k l hd hle hi
   have : k = xs.length := by
    have := congrArg ja hd
    simp at this
    omega
   subst this
   rw [Bc (he l)]
   simp
  | cons y ys ih =>
   intro k l hd hle hi
   have hk : k < xs.length := by
    have := congrArg ja hd
    simp at this
    omega
   have hy : xs[k] = y := by
    have := congrArg (·[0]?) hd
    simp [List.getElem?_drop, je hk] at this
    exact this
   have hd' : xs.drop (k + 1) = ys := by rw [← List.drop_drop, hd]; rfl
   rw [Bc (h k hk l hi), hy]
   simp only [List.map_cons, List.sum_cons]
   by_cases hc : n y ≤ l
   ·simp only [hc, if_true, jb, qc]
    rw [Ii (by omega), ih (k + 1) (l - n y) hd' hk (by omega)]
    by_cases hc2 : (ys.map n).sum ≤ l - n y
    ·rw [if_pos hc2, if_pos (by omega)]
     congr 3
     omega
    ·rw [if_neg hc2, if_neg (by omega)]
   ·rw [if_neg hc, if_neg (by omega)]
    rfl
 have := key xs 0 l rfl (Nat.zero_le _) hl
 simpa using this
theorem Hs : ∀ {τ : Ty} (_ : (τ.flat && !τ.hasS) = true) {x : T τ}, Vb τ x = 0
 | .i _, _, _ => rfl
 | .b, _, _ => rfl
 | .o, _, _ => rfl
 | .s, h, _ => by simp [Ty.hasS] at h
 | .sl _, h, _ => by simp [Ty.flat] at h
 | .u, _, _ => rfl
 | .p a c, h, x => by
  simp only [Ty.flat, Ty.hasS, jd, Bool.not_eq_true', Bool.or_eq_false_iff] at h
  simp only [Vb]
  rw [Hs (τ := a) (by simp [h.1.1, h.2.1]), Hs (τ := c) (by simp [h.1.2, h.2.2])]
theorem ZC {e : Ty} (h : (e.flat && !e.hasS) = true) (xs : List (T e)) : Vb (.sl e) xs = ja xs := by
 simp only [Vb]
 have : List.map (Vb e) xs = List.replicate xs.length 0 := by
  apply List.ext_getElem
  ·simp
  ·intro i h1 h2
   simp [Hs h]
 rw [this]
 simp
theorem Vg {α : Type} (b : Bool) (x y : α) : cond b (some x) (some y) = some (cond b x y) := by cases b <;> rfl
theorem Wg {α : Type} (b : Bool) (x y : α) : cond b (x, ()) (y, ()) = (cond b x y, ()) := by cases b <;> rfl
theorem Mb (b x y : Bool) : (cond b x y = true) ↔ ((b = true ∧ x = true) ∨ (¬ b = true ∧ y = true)) := by cases b <;> simp
theorem MD {a b : Bool} (h : a = true ↔ b = true) : a = b := qg.2 h
theorem Gb {a b : Bool} (h : a = true ↔ b = true) : some (a, ()) = some (b, ()) := by rw [MD h]
theorem Io (a b : Int) : ((a == b) = true) ↔ a = b := by simp
theorem Jo (a b : Int) : ((a != b) = true) ↔ ¬ a = b := by simp
def Bh {α : Type} (p : Nat → α → Bool) : Nat → List α → Bool
 | _, [] => true
 | k, x :: xs => p k x && Bh p (k + 1) xs
theorem Di {X R : Type} {step : X → Option (X ⊕ R)} {α : Type} (xs : List α) (p : Nat → α → Bool) (I : Int → X) (yes no : R)
 (h : ∀ k (hk : k < xs.length), step (I (k : Int)) = some (cond (p k xs[k]) (.inl (I (jw .i64 ((k : Int) + 1)))) (.inr no)))
 (he : step (I (xs.length : Int)) = some (.inr yes)) (hn : xs.length < 9223372036854775807) :
 Ob step (I 0) = some (cond (Bh p 0 xs) yes no) := by
 have key : ∀ (ys : List α) (k : Nat), xs.drop k = ys → k ≤ xs.length → Ob step (I (k : Int)) = some (cond (Bh p k ys) yes no) := by
  intro ys
  induction ys with
  | nil =>
   intro k hd hle
   have : k = xs.length := by
    have := congrArg ja hd
    simp at this
    omega
   subst this
   rw [Bc he]
   rfl
  | cons y ys ih =>
   intro k hd hle
   have hk : k < xs.length := by
    have := congrArg ja hd
    simp at this
    omega
   have hy : xs[k] = y := by
    have := congrArg (·[0]?) hd
    simp [List.getElem?_drop, je hk] at this
    exact this
   have hd' : xs.drop (k + 1) = ys := by rw [← List.drop_drop, hd]; rfl
   rw [Bc (h k hk), hy]
   simp only [Bh]
   cases hc : p k y with
   | true =>
    simp only [cond_true, ji, jb, qc]
    rw [← ih (k + 1) hd' hk, Ii (by omega)]
   | false => rfl
 have := key xs 0 rfl (Nat.zero_le _)
 simpa using this
theorem Ip {α : Type} {p : Nat → α → Bool} : ∀ {xs : List α} {k : Nat}, Bh p k xs = true ↔ ∀ j (hj : j < xs.length), p (k + j) xs[j] = true
 | [], _ => by simp [Bh]
 | x :: xs, k => by
  simp only [Bh, jd, Ip (xs := xs)]
  constructor
  ·rintro ⟨h1, h2⟩ j hj
   cases j with
   | zero => exact h1
   | succ j => simpa [jr, Nat.add_comm 1 j] using h2 j (by simpa using hj)
  ·intro h
   refine ⟨h 0 (by simp), fun j hj => ?_⟩
   have := h (j + 1) (by simpa using hj)
   rw [jr, Nat.add_comm 1 j]
   exact this
theorem Au {α β γ : Type} (b : Bool) (x : α) (y : β) (f : α → γ) (g : β → γ) : jy f g (cond b (.inl x) (.inr y)) = cond b (f x) (g y) := by cases b <;> rfl
theorem Br {X R : Type} {step : X → Option (X ⊕ R)} {α S R' : Type} (xs : List α) (g : Nat → S → α → S ⊕ R') (I : S → Int → X) (out : S → R) (ex : R' → R) (Ug : Nat → S → Prop)
 (h : ∀ k (hk : k < xs.length) s, Ug k s → step (I s (k : Int)) = some (match g k s xs[k] with | .inl s' => .inl (I s' (jw .i64 ((k : Int) + 1))) | .inr r => .inr (ex r)) ∧ ∀ s', g k s xs[k] = .inl s' → Ug (k + 1) s')
 (he : ∀ s, Ug xs.length s → step (I s (xs.length : Int)) = some (.inr (out s))) (hn : xs.length < 9223372036854775807) (s0 : S) (h0 : Ug 0 s0) :
 Ob step (I s0 0) = some (match Ql g 0 s0 xs with | .inl s => out s | .inr r => ex r) := by
 have := Vw (step := step) xs g (fun k s => I s (k : Int)) out ex Ug (fun k hk s hi => by
  obtain ⟨h1, h2⟩ := h k hk s hi
  refine ⟨?_, h2⟩
  rw [h1, Ii (by omega)]) he s0 h0
 simpa using this
def Wk : Nat := 1099511627776
theorem z3 : ((3 : Int) == 0) = false := rfl
section
variable {α β : Type}
def KD (f : α → Option (α × Unit)) (t0 t3 : List α) (t4 : Int) : Option (((List α × (List α × (Int × Unit))) × Unit) ⊕ (((List α × Unit) × Unit) ⊕ β)) :=
 cond (decide (t4 < ((ja t0 : Nat) : Int))) (jv (Oe t0 t4) fun x7 => jv (f x7) fun r8 => cond (Kk (ja t3) t4)
  (jv t3[(ju t4)]? fun x9 => some (.inl ((t0, jx t3 (ju t4) r8.1, jw .i64 (t4 + 1), ()), ()))) none) (some (.inr (.inl ((t3, ()), ()))))
noncomputable def UG (β : Type) (z : α) (f : α → Option (α × Unit)) (a0 : List α) : Option (List α × Unit) :=
 cond ((((ja a0 : Nat) : Int) == ((ja a0 : Nat) : Int)) && (decide ((0 : Int) ≤ ((ja a0 : Nat) : Int)) && decide (((ja a0 : Nat) : Int) ≤ ((Dk : Nat) : Int))))
  (jv (Ob (fun x : (List α × (List α × (Int × Unit))) × Unit => KD (β := β) f x.1.1 x.1.2.1 x.1.2.2.1) ((a0, List.replicate (ju ((ja a0 : Nat) : Int)) z, (0 : Int), ()), ())) (jy (fun y10 => some (y10.1.1, ())) (fun _ => none))) none
theorem VG (z : α) (f : α → Option (α × Unit)) (a : List α) (hn : a.length ≤ Yb) (hf : ∀ k (h : k < a.length), f a[k] = some (a[k], ())) : UG β z f a = some (a, ()) := by
 have h20 : Yb = 1048576 := rfl
 have hl := Zz (step := fun x : (List α × (List α × (Int × Unit))) × Unit => KD (β := β) f x.1.1 x.1.2.1 x.1.2.2.1) a z (fun o i => ((a, o, i, ()), ())) (fun o => .inl ((o, ()), ())) (by
  intro k hk o ho
  simp only [KD]
  rw [Bb (show (k : Int) < (ja a : Int) by omega), Xf hk]
  simp only [cond_true, jb]
  rw [hf k hk]
  simp only [cond_true, jb]
  rw [Lx, Bb (show k < ja o by omega)]
  simp [je (show k < ja o by omega)]) (by
  intro o
  simp [KD]) (by omega)
 unfold UG
 rw [VD (by rw [MG]; omega)]
 simp only [cond_true]
 rw [show ju ((ja a : Nat) : Int) = ja a by simp]
 erw [hl]
 rfl
theorem KH {e : Ty} (β : Type) (z : T e) {f : T e → Option (T e × Unit)} {F : List (T e) → Option (List (T e) × Unit)} (a : List (T e)) (hz : Vb (.sl e) a ≤ Yb) (hf : ∀ x, Vb e x ≤ Yb → f x = some (x, ())) (h : F a = UG β z f a) : F a = some (a, ()) := by
 have hz' : ja a + (List.map (Vb e) a).sum ≤ Yb := hz
 rw [h]
 exact VG z f a (by omega) fun k hk => hf _ (by have := Xl (f := Vb e) hk; omega)
def ED (f : α → α → Option (Bool × Unit)) (t0 t1 : List α) (t5 : Int) : Option (((List α × (List α × (Int × Unit))) × Unit) ⊕ ((Unit × Unit) ⊕ ((Bool × Unit) × Unit))) :=
 cond (decide (t5 < ((ja t0 : Nat) : Int))) (jv (Oe t0 t5) fun x7 => jv (Oe t1 t5) fun x8 => jv (f x7 x8) fun r9 => cond (!r9.1) (some (.inr (.inr ((false, ()), ()))))
  (some (.inl ((t0, t1, jw .i64 (t5 + 1), ()), ())))) (some (.inr (.inl ((), ()))))
noncomputable def MF (f : α → α → Option (Bool × Unit)) (a0 a1 : List α) : Option (Bool × Unit) :=
 cond (((ja a0 : Nat) : Int) != ((ja a1 : Nat) : Int)) (some (false, ()))
  (jv (Ob (fun x : (List α × (List α × (Int × Unit))) × Unit => ED f x.1.1 x.1.2.1 x.1.2.2.1) ((a0, a1, (0 : Int), ()), ())) (jy (fun _ => some (true, ())) (fun z11 => some (z11.1.1, ()))))
theorem NF (f : α → α → Option (Bool × Unit)) (a : List α) (hn : a.length ≤ Wk) (hf : ∀ k (h : k < a.length), f a[k] a[k] = some (true, ())) : MF f a a = some (true, ()) := by
 have h40 : Wk = 1099511627776 := rfl
 have hl := Eu (step := fun x : (List α × (List α × (Int × Unit))) × Unit => ED f x.1.1 x.1.2.1 x.1.2.2.1) (fun k => ((a, a, (k : Int), ()), ())) (ja a) (.inl ((), ())) (by
  intro k hk
  simp only [ED]
  rw [Bb (show (k : Int) < (ja a : Int) by omega), Xf hk]
  simp only [cond_true, jb]
  rw [hf k hk]
  simp only [jb, jg, cond_false]
  rw [Ii (by omega)]) (by
  simp [ED])
 unfold MF
 rw [bne_self_eq_false']
 simp only [cond_false]
 erw [hl]
 rfl
theorem GH {e : Ty} {f : T e → T e → Option (Bool × Unit)} {F : List (T e) → List (T e) → Option (Bool × Unit)} (a : List (T e)) (hz : Vb (.sl e) a ≤ Wk) (hf : ∀ x, Vb e x ≤ Wk → f x x = some (true, ())) (h : F a a = MF f a a) : F a a = some (true, ()) := by
 have hz' : ja a + (List.map (Vb e) a).sum ≤ Wk := hz
 rw [h]
 exact NF f a (by omega) fun k hk => hf _ (by have := Xl (f := Vb e) hk; omega)
def Oz (f : α → Int → Option (Int × Unit)) (t0 : List α) (t1 t5 : Int) : Option (((List α × (Int × (Int × Unit))) × Unit) ⊕ (((Int × Unit) × Unit) ⊕ ((Int × Unit) × Unit))) :=
 cond (decide (t5 < ((ja t0 : Nat) : Int))) (jv (Oe t0 t5) fun x5 => jv (f x5 t1) fun r6 => cond (decide (r6.1 < (0 : Int))) (some (.inr (.inr (((-1 : Int), ()), ()))))
  (some (.inl ((t0, r6.1, jw .i64 (t5 + 1), ()), ())))) (some (.inr (.inl ((t1, ()), ()))))
noncomputable def JH (f : α → Int → Option (Int × Unit)) (a0 : List α) (a1 : Int) : Option (Int × Unit) :=
 cond (decide ((jw .i64 (a1 - ((ja a0 : Nat) : Int))) < (0 : Int))) (some ((-1 : Int), ()))
  (jv (Ob (fun x : (List α × (Int × (Int × Unit))) × Unit => Oz f x.1.1 x.1.2.1 x.1.2.2.1) ((a0, jw .i64 (a1 - ((ja a0 : Nat) : Int)), (0 : Int), ()), ())) (jy (fun y7 => some (y7.1.1, ())) (fun z8 => some (z8.1.1, ()))))
theorem BL {e : Ty} {f : T e → Int → Option (Int × Unit)} {F : List (T e) → Int → Option (Int × Unit)} (a : List (T e)) (hr : Wj (.sl e) a) (l : Nat) (hl : l ≤ Yb)
 (hf : ∀ x, Wj e x → ∀ l : Nat, l ≤ Yb → f x (l : Int) = some (Lu (Vb e x) l, ())) (hF : F a (l : Int) = JH f a (l : Int)) : F a (l : Int) = some (Lu (Vb (.sl e) a) l, ()) := by
 have h20 : Yb = 1048576 := rfl
 have hlen : ja a ≤ 9223372036854775807 := hr.1
 rw [hF]
 unfold JH
 rw [Iq (by omega) (by omega)]
 by_cases h : ja a ≤ l
 ·rw [Wb (by omega), show (l : Int) - (ja a : Int) = ((l - ja a : Nat) : Int) by omega]
  simp only [cond_false]
  have hx := FE (step := fun x : (List (T e) × (Int × (Int × Unit))) × Unit => Oz f x.1.1 x.1.2.1 x.1.2.2.1) a (Vb e) (fun l i => ((a, l, i, ()), ())) (fun l => .inl ((l, ()), ())) (.inr (((-1 : Int), ()), ())) (by
   intro k hk l hl
   simp only [Oz]
   rw [Bb (show (k : Int) < (ja a : Int) by omega), Xf hk]
   simp only [cond_true, jb]
   rw [hf a[k] (hr.2 k hk) l hl]
   simp only [jb]
   by_cases hc : Vb e a[k] ≤ l
   ·rw [Ao hc, Wb (by omega), if_pos hc]; rfl
   ·rw [Qm hc, if_neg hc]; rfl) (by
   intro l
   simp [Oz]) (by omega) (l - ja a) (by omega)
  rw [hx]
  simp only [jb]
  have hs : Vb (.sl e) a = ja a + (List.map (Vb e) a).sum := rfl
  rw [hs]
  by_cases h2 : (List.map (Vb e) a).sum ≤ l - ja a
  ·rw [if_pos h2, Ao (by omega)]; simp only [qc]; rw [show l - ja a - (List.map (Vb e) a).sum = l - (ja a + (List.map (Vb e) a).sum) by omega]
  ·rw [if_neg h2, Qm (by omega)]; rfl
 ·rw [Qm (show ¬ Vb (.sl e) a ≤ l by have hs : Vb (.sl e) a = ja a + (List.map (Vb e) a).sum := rfl; omega), Bb (by omega)]; rfl
def SG (a0 : List α) (a1 : Int) : Option (Int × Unit) :=
 cond (decide ((jw .i64 (a1 - ((ja a0 : Nat) : Int))) < (0 : Int))) (some ((-1 : Int), ())) (some ((jw .i64 (a1 - ((ja a0 : Nat) : Int))), ()))
theorem MK {e : Ty} {F : List (T e) → Int → Option (Int × Unit)} (a : List (T e)) (hr : Wj (.sl e) a) (l : Nat) (hl : l ≤ Yb) (he : (e.flat && !e.hasS) = true) (hF : F a (l : Int) = SG a (l : Int)) : F a (l : Int) = some (Lu (Vb (.sl e) a) l, ()) := by
 have h20 : Yb = 1048576 := rfl
 have hlen : ja a ≤ 9223372036854775807 := hr.1
 rw [hF]
 unfold SG
 rw [Iq (by omega) (by omega), ZC he a]
 by_cases h : ja a ≤ l
 ·rw [Ao h, Wb (by omega), show (l : Int) - (ja a : Int) = ((l - ja a : Nat) : Int) by omega]; rfl
 ·rw [Qm h, Bb (by omega)]; rfl
end
abbrev int : Ty := .i .i64
abbrev Zj : Ty := .i .u8
abbrev Rm : Ty := (.p int (.p int .u))
abbrev Ie : Type := (Int × (Int × Unit))
abbrev Lt : Ty := (.p int (.p int (.p .b .u)))
abbrev Nn : Type := (Int × (Int × (Bool × Unit)))
abbrev JD : Ty := (.p int Rm)
abbrev ZG : Type := (Int × Ie)
abbrev Ab : Ty := (.p int JD)
abbrev Cb : Type := (Int × ZG)
abbrev Ra : Ty := (.p int (.p (.sl (.sl Ab)) .u))
abbrev Ta : Type := (Int × ((List (List Cb)) × Unit))
def Nl : List UInt8 := [97, 32, 98, 32, 99, 32, 100, 32, 101, 32, 102, 32, 103, 32, 104, 32, 105, 32, 106, 32, 107, 32, 108, 32, 109, 32, 110, 32, 111, 32, 112, 32, 113, 32, 114, 32, 115, 32, 116, 32, 117, 32, 118, 32, 119, 32, 120, 32, 121, 32, 122, 32, 49, 32, 50, 32, 51, 32, 52, 32, 53, 32, 54, 32, 55, 32, 56, 32, 57, 32, 48, 32, 101, 110, 116, 101, 114, 32, 101, 115, 99, 32, 98, 97, 99, 107, 32, 116, 97, 98, 32, 115, 112, 97, 99, 101, 32, 109, 105, 110, 117, 115, 32, 101, 113, 117, 97, 108, 32, 108, 101, 102, 116, 32, 114, 105, 103, 104, 116, 32, 117, 112, 32, 100, 111, 119, 110, 32, 102, 49, 32, 102, 50, 32, 102, 51, 32, 102, 52, 32, 102, 53, 32, 102, 54, 32, 102, 55, 32, 102, 56, 32, 102, 57]
def Ge : List UInt8 := [115, 112, 97, 99, 101]
def Ee : List UInt8 := [109, 105, 110, 117, 115]
def De : List UInt8 := [101, 113, 117, 97, 108]
def Fe : List UInt8 := [101, 110, 116, 101, 114]
def Jd : List UInt8 := [33, 64, 35, 36, 37, 94, 38, 42, 40, 41]
noncomputable section
open Option renaming bind → ob
open Go.IntKind renaming wrap → wr
open Int renaming toNat → tn
open List renaming length → ln, append → ap, set → ls
open Sum renaming elim → se
open Nat renaming ble → bl
abbrev Qi : Type := List Cb
abbrev Kl : Type := Ta × Unit
abbrev Ri : Type := Int × Unit
abbrev Zg : Type := Bool × Unit
abbrev We : Type := List UInt8
abbrev Mk : Type := Unit × Unit
abbrev GF : Type := List Nn
abbrev Ig : Type := List Qi
abbrev HF : Type := (Int × (Int × (Unit × Ri))) × Kl
abbrev Iy : Type := Int × (Int × (Qi × Ie))
abbrev Is : Type := Int × ((List Int) × Ie)
abbrev Zu : Type := (Qi × (Qi × Ri)) × Unit
abbrev Av : Type := (We × (Unit × Ri)) × Kl
abbrev DD : Type := (Unit × Ie) × Kl
abbrev Bv : Type := Ri × Unit
abbrev Tm : Type := Zg × Unit
abbrev Cv : Type := (Ig × (Ig × Ri)) × Unit
abbrev Hy : Type := (Unit × (Ig × Ie)) × Kl
def Pd (a0 : Int) (a1 : Int) (a2 : Int) : Option Zg :=
 (cond (decide (a0 ≥ a1))
 (some ((decide (a0 ≤ a2)), ()))
 (some (false, ())))
def Mg (a0 : Qi) (a1 : Int) : Option Ri :=
 (cond (decide ((wr .i64 (a1 - ((ln a0 : Nat) : Int))) < 0))
 (some ((-1), ()))
 (some ((wr .i64 (a1 - ((ln a0 : Nat) : Int))), ())))
def Ep (t0 : Ig) (t1 : Int) (t5 : Int) : Option (((Ig × Ie) × Unit) ⊕ (Bv ⊕ Bv)) :=
 (cond (decide (t5 < ((ln t0 : Nat) : Int)))
 (ob (Oe t0 t5) fun x5 =>
 (ob (Mg x5 t1) fun r6 =>
 (cond (decide (r6.1 < 0))
 (some (.inr (.inr (((-1), ()), ()))))
 (some (.inl ((t0, r6.1, (wr .i64 (t5 + 1)), ()), ()))))))
 (some (.inr (.inl ((t1, ()), ())))))
def Dj := Ob fun x : ((Ig × Ie) × Unit) => Ep x.1.1 x.1.2.1 x.1.2.2.1
def Vh (a0 : Ig) (a1 : Int) : Option Ri :=
 (cond (decide ((wr .i64 (a1 - ((ln a0 : Nat) : Int))) < 0))
 (some ((-1), ()))
 (ob (Dj ((a0, (wr .i64 (a1 - ((ln a0 : Nat) : Int))), 0, ()), ())) (se (fun y7 => (some (y7.1.1, ()))) (fun z8 => (some (z8.1.1, ()))))))
def Lj (a0 : Ta) (a1 : Int) : Option Ri :=
 (ob (Vh a0.2.1 a1) fun r1 =>
 (cond (decide (r1.1 < 0))
 (some ((-1), ()))
 (some (r1.1, ()))))
def Lh (a0 : Cb) : Option (Cb × Unit) :=
 (some (a0, ()))
def Vp (t0 : Qi) (t3 : Qi) (t4 : Int) : Option (Zu ⊕ (((Qi × Unit) × Unit) ⊕ Mk)) :=
 (cond (decide (t4 < ((ln t0 : Nat) : Int)))
 (ob (Oe t0 t4) fun x7 =>
 (ob (Lh x7) fun r8 =>
 (cond (Kk (ln t3) t4)
 (ob t3[(tn t4)]? fun x9 =>
 (some (.inl ((t0, (ls t3 (tn t4) r8.1), (wr .i64 (t4 + 1)), ()), ()))))
 none)))
 (some (.inr (.inl ((t3, ()), ())))))
def Uj := Ob fun x : Zu => Vp x.1.1 x.1.2.1 x.1.2.2.1
def Li (a0 : Qi) : Option (Qi × Unit) :=
 (cond ((((ln a0 : Nat) : Int) == ((ln a0 : Nat) : Int)) && (decide (0 ≤ ((ln a0 : Nat) : Int)) && decide (((ln a0 : Nat) : Int) ≤ ((Dk : Nat) : Int))))
 (ob (Uj ((a0, (List.replicate (tn ((ln a0 : Nat) : Int)) (0, 0, 0, 0, ())), 0, ()), ())) (se (fun y10 => (some (y10.1.1, ()))) (fun z11 => none)))
 none)
def Fp (t0 : Ig) (t3 : Ig) (t4 : Int) : Option (Cv ⊕ (((Ig × Unit) × Unit) ⊕ Mk)) :=
 (cond (decide (t4 < ((ln t0 : Nat) : Int)))
 (ob (Oe t0 t4) fun x7 =>
 (ob (Li x7) fun r8 =>
 (cond (Kk (ln t3) t4)
 (ob t3[(tn t4)]? fun x9 =>
 (some (.inl ((t0, (ls t3 (tn t4) r8.1), (wr .i64 (t4 + 1)), ()), ()))))
 none)))
 (some (.inr (.inl ((t3, ()), ())))))
def Ej := Ob fun x : Cv => Fp x.1.1 x.1.2.1 x.1.2.2.1
def Ck (a0 : Ig) : Option (Ig × Unit) :=
 (cond ((((ln a0 : Nat) : Int) == ((ln a0 : Nat) : Int)) && (decide (0 ≤ ((ln a0 : Nat) : Int)) && decide (((ln a0 : Nat) : Int) ≤ ((Dk : Nat) : Int))))
 (ob (Ej ((a0, (List.replicate (tn ((ln a0 : Nat) : Int)) []), 0, ()), ())) (se (fun y10 => (some (y10.1.1, ()))) (fun z11 => none)))
 none)
def Vf (a0 : Ta) : Option Kl :=
 (ob (Ck a0.2.1) fun r1 =>
 (some ((a0.1, r1.1, ()), ())))
def Wf (a0 : Cb) : Option Zg :=
 (ob (Pd a0.2.1 1 56) fun r1 =>
 (ob (Pd a0.2.2.1 1 15) fun r2 =>
 (ob (Pd a0.2.2.2.1 1 3) fun r3 =>
 (cond (a0.1 == 0)
 (cond (a0.2.1 == 0)
 (cond (a0.2.2.1 == 0)
 (some ((a0.2.2.2.1 == 0), ()))
 (some (false, ())))
 (some (false, ())))
 (cond (a0.1 == 1)
 (cond (a0.2.1 == 0)
 (cond (a0.2.2.1 == 0)
 (some ((a0.2.2.2.1 == 0), ()))
 (some (false, ())))
 (some (false, ())))
 (cond (a0.1 == 10)
 (cond (a0.2.1 == 0)
 (cond (a0.2.2.1 == 0)
 (some ((a0.2.2.2.1 == 0), ()))
 (some (false, ())))
 (some (false, ())))
 (cond (a0.1 == 2)
 (cond (a0.2.2.2.1 == 0)
 (cond r1.1
 (cond r2.1
 (some (true, ()))
 (some ((a0.2.2.1 == 0), ())))
 (cond (a0.2.1 == 0)
 (cond r2.1
 (cond r2.1
 (some (true, ()))
 (some ((a0.2.2.1 == 0), ())))
 (some (false, ())))
 (some (false, ()))))
 (some (false, ())))
 (cond (a0.1 == 3)
 (cond r3.1
 (cond (a0.2.1 == 0)
 (some ((a0.2.2.1 == 0), ()))
 (some (false, ())))
 (some (false, ())))
 (cond (a0.1 == 4)
 (cond r3.1
 (cond (a0.2.1 == 0)
 (some ((a0.2.2.1 == 0), ()))
 (some (false, ())))
 (some (false, ())))
 (cond (a0.1 == 5)
 (ob (Pd a0.2.2.2.1 0 3) fun r4 =>
 (cond r4.1
 (cond (a0.2.1 == 0)
 (some ((a0.2.2.1 == 0), ()))
 (some (false, ())))
 (some (false, ()))))
 (cond (a0.1 == 9)
 (ob (Pd a0.2.2.2.1 0 3) fun r5 =>
 (cond r5.1
 (cond (a0.2.1 == 0)
 (some ((a0.2.2.1 == 0), ()))
 (some (false, ())))
 (some (false, ()))))
 (cond (a0.1 == 6)
 (cond r1.1
 (cond r2.1
 (some ((a0.2.2.2.1 == 0), ()))
 (some (false, ())))
 (some (false, ())))
 (cond (a0.1 == 7)
 (cond r1.1
 (cond r3.1
 (some ((a0.2.2.1 == 0), ()))
 (some (false, ())))
 (some (false, ())))
 (cond (a0.1 == 8)
 (cond r2.1
 (cond (a0.2.1 == 0)
 (some ((a0.2.2.2.1 == 0), ()))
 (some (false, ())))
 (some (false, ())))
 (some (false, ()))))))))))))))))
def Wi (t1 : Unit) (t3 : Int) (t4 : Int) (b1 : Ta) : Option (DD ⊕ (((Unit × Ri) × Kl) ⊕ Tm)) :=
 (ob (Oe b1.2.1 t3) fun x40 =>
 (cond (decide (t4 < ((ln x40 : Nat) : Int)))
 (ob (Oe b1.2.1 t3) fun x41 =>
 (ob (Oe x41 t4) fun x42 =>
 (ob (Wf x42) fun r43 =>
 (cond (!r43.1)
 (some (.inr (.inr ((false, ()), ()))))
 (cond (x42.1 == 1)
 (cond (t3 == 0)
 (some (.inr (.inr ((false, ()), ()))))
 (cond (x42.1 != 9)
 (cond (decide (x42.2.2.2.1 ≥ ((ln b1.2.1 : Nat) : Int)))
 (some (.inr (.inr ((false, ()), ()))))
 (some (.inl (((), t3, (wr .i64 (t4 + 1)), ()), (b1, ())))))
 (some (.inl (((), t3, (wr .i64 (t4 + 1)), ()), (b1, ()))))))
 (cond (x42.1 != 9)
 (cond (decide (x42.2.2.2.1 ≥ ((ln b1.2.1 : Nat) : Int)))
 (some (.inr (.inr ((false, ()), ()))))
 (some (.inl (((), t3, (wr .i64 (t4 + 1)), ()), (b1, ())))))
 (some (.inl (((), t3, (wr .i64 (t4 + 1)), ()), (b1, ()))))))))))
 (some (.inr (.inl (((), t3, ()), (b1, ())))))))
def Hf := Ob fun x : DD => Wi x.1.1 x.1.2.1 x.1.2.2.1 x.2.1
def Vi (t1 : Unit) (t3 : Int) (b1 : Ta) : Option (((Unit × Ri) × Kl) ⊕ ((Mk × Kl) ⊕ Tm)) :=
 (cond (decide (t3 < ((ln b1.2.1 : Nat) : Int)))
 (ob (Oe b1.2.1 t3) fun x31 =>
 (cond (((ln x31 : Nat) : Int) != b1.1)
 (some (.inr (.inr ((false, ()), ()))))
 (ob (Hf (((), t3, 0, ()), (b1, ()))) (se (fun y44 => (some (.inl (((), (wr .i64 (y44.1.2.1 + 1)), ()), (y44.2.1, ()))))) (fun z45 => (some (.inr (.inr ((z45.1.1, ()), ())))))))))
 (some (.inr (.inl (((), ()), (b1, ()))))))
def Gf := Ob fun x : ((Unit × Ri) × Kl) => Vi x.1.1 x.1.2.1 x.2.1
def Bf (a0 : Ta) : Option Zg :=
 (ob (Gf (((), 0, ()), (a0, ()))) (se (fun y46 => (ob (Pd y46.2.1.1 1 32) fun r48 =>
 (cond r48.1
 (ob (Pd ((ln y46.2.1.2.1 : Nat) : Int) 1 4) fun r49 =>
 (some (r49.1, ())))
 (some (false, ()))))) (fun z47 => (some (z47.1.1, ())))))
def Dg (a0 : Int) : Option Zg :=
 (cond (decide (a0 ≥ 1))
 (some ((decide (a0 ≤ 56)), ()))
 (some (false, ())))
def Eg (a0 : Int) : Option Zg :=
 (cond (decide (a0 ≥ 1))
 (some ((decide (a0 ≤ 15)), ()))
 (some (false, ())))
def Kg (a0 : Int) : Option Zg :=
 (cond (decide (a0 ≥ 1))
 (some ((decide (a0 ≤ 3)), ()))
 (some (false, ())))
def Uf (a0 : Cb) : Option Zg :=
 (cond (a0.1 == 0)
 (cond (a0.2.1 == 0)
 (cond (a0.2.2.1 == 0)
 (some ((a0.2.2.2.1 == 0), ()))
 (some (false, ())))
 (some (false, ())))
 (cond (a0.1 == 1)
 (cond (a0.2.1 == 0)
 (cond (a0.2.2.1 == 0)
 (some ((a0.2.2.2.1 == 0), ()))
 (some (false, ())))
 (some (false, ())))
 (cond (a0.1 == 10)
 (cond (a0.2.1 == 0)
 (cond (a0.2.2.1 == 0)
 (some ((a0.2.2.2.1 == 0), ()))
 (some (false, ())))
 (some (false, ())))
 (cond (a0.1 == 2)
 (cond (a0.2.2.2.1 == 0)
 (cond (a0.2.1 == 0)
 (cond (a0.2.2.1 == 0)
 (cond (a0.2.1 != 0)
 (some (true, ()))
 (some ((a0.2.2.1 != 0), ())))
 (ob (Eg a0.2.2.1) fun r1 =>
 (cond r1.1
 (cond (a0.2.1 != 0)
 (some (true, ()))
 (some ((a0.2.2.1 != 0), ())))
 (some (false, ())))))
 (ob (Dg a0.2.1) fun r2 =>
 (cond r2.1
 (cond (a0.2.2.1 == 0)
 (cond (a0.2.1 != 0)
 (some (true, ()))
 (some ((a0.2.2.1 != 0), ())))
 (ob (Eg a0.2.2.1) fun r3 =>
 (cond r3.1
 (cond (a0.2.1 != 0)
 (some (true, ()))
 (some ((a0.2.2.1 != 0), ())))
 (some (false, ())))))
 (some (false, ())))))
 (some (false, ())))
 (cond (a0.1 == 3)
 (cond (a0.2.1 == 0)
 (cond (a0.2.2.1 == 0)
 (ob (Kg a0.2.2.2.1) fun r4 =>
 (some (r4.1, ())))
 (some (false, ())))
 (some (false, ())))
 (cond (a0.1 == 4)
 (cond (a0.2.1 == 0)
 (cond (a0.2.2.1 == 0)
 (ob (Kg a0.2.2.2.1) fun r5 =>
 (some (r5.1, ())))
 (some (false, ())))
 (some (false, ())))
 (cond (a0.1 == 5)
 (cond (a0.2.1 == 0)
 (cond (a0.2.2.1 == 0)
 (cond (decide (a0.2.2.2.1 ≥ 0))
 (some ((decide (a0.2.2.2.1 ≤ 3)), ()))
 (some (false, ())))
 (some (false, ())))
 (some (false, ())))
 (cond (a0.1 == 9)
 (cond (a0.2.1 == 0)
 (cond (a0.2.2.1 == 0)
 (cond (decide (a0.2.2.2.1 ≥ 0))
 (some ((decide (a0.2.2.2.1 ≤ 3)), ()))
 (some (false, ())))
 (some (false, ())))
 (some (false, ())))
 (cond (a0.1 == 6)
 (ob (Dg a0.2.1) fun r6 =>
 (cond r6.1
 (ob (Eg a0.2.2.1) fun r7 =>
 (cond r7.1
 (some ((a0.2.2.2.1 == 0), ()))
 (some (false, ()))))
 (some (false, ()))))
 (cond (a0.1 == 7)
 (ob (Dg a0.2.1) fun r8 =>
 (cond r8.1
 (cond (a0.2.2.1 == 0)
 (ob (Kg a0.2.2.2.1) fun r9 =>
 (some (r9.1, ())))
 (some (false, ())))
 (some (false, ()))))
 (cond (a0.1 == 8)
 (cond (a0.2.1 == 0)
 (ob (Eg a0.2.2.1) fun r10 =>
 (cond r10.1
 (some ((a0.2.2.2.1 == 0), ()))
 (some (false, ()))))
 (some (false, ())))
 (some (false, ())))))))))))))
def Ti (t1 : Unit) (t3 : Int) (t28 : Ig) (t29 : Int) (t30 : Int) (t40 : Qi) (t41 : Int) (t42 : Int) (b1 : Ta) : Option (((Unit × (Int × (Ig × Iy))) × Kl) ⊕ (Hy ⊕ Tm)) :=
 (cond (decide (t42 < t41))
 (ob (Oe t40 t42) fun x24 =>
 (ob (Uf x24) fun r25 =>
 (cond (!r25.1)
 (some (.inr (.inr ((false, ()), ()))))
 (cond (t3 == 0)
 (cond (x24.1 == 1)
 (some (.inr (.inr ((false, ()), ()))))
 (cond (x24.1 != 9)
 (cond (decide (x24.2.2.2.1 ≥ ((ln b1.2.1 : Nat) : Int)))
 (some (.inr (.inr ((false, ()), ()))))
 (some (.inl (((), t3, t28, t29, t30, t40, t41, (wr .i64 (t42 + 1)), ()), (b1, ())))))
 (some (.inl (((), t3, t28, t29, t30, t40, t41, (wr .i64 (t42 + 1)), ()), (b1, ()))))))
 (cond (x24.1 != 9)
 (cond (decide (x24.2.2.2.1 ≥ ((ln b1.2.1 : Nat) : Int)))
 (some (.inr (.inr ((false, ()), ()))))
 (some (.inl (((), t3, t28, t29, t30, t40, t41, (wr .i64 (t42 + 1)), ()), (b1, ())))))
 (some (.inl (((), t3, t28, t29, t30, t40, t41, (wr .i64 (t42 + 1)), ()), (b1, ())))))))))
 (some (.inr (.inl (((), t28, t29, t30, ()), (b1, ()))))))
def Df := Ob fun x : ((Unit × (Int × (Ig × Iy))) × Kl) => Ti x.1.1 x.1.2.1 x.1.2.2.1 x.1.2.2.2.1 x.1.2.2.2.2.1 x.1.2.2.2.2.2.1 x.1.2.2.2.2.2.2.1 x.1.2.2.2.2.2.2.2.1 x.2.1
def Si (t1 : Unit) (t28 : Ig) (t29 : Int) (t30 : Int) (b1 : Ta) : Option (Hy ⊕ (Mk ⊕ Tm)) :=
 (cond (decide (t30 < t29))
 (ob (Oe t28 t30) fun x19 =>
 (cond (((ln x19 : Nat) : Int) != b1.1)
 (some (.inr (.inr ((false, ()), ()))))
 (ob (Df (((), t30, t28, t29, t30, x19, ((ln x19 : Nat) : Int), 0, ()), (b1, ()))) (se (fun y26 => (some (.inl (((), y26.1.2.1, y26.1.2.2.1, (wr .i64 (y26.1.2.2.2.1 + 1)), ()), (y26.2.1, ()))))) (fun z27 => (some (.inr (.inr ((z27.1.1, ()), ())))))))))
 (some (.inr (.inl ((), ())))))
def Cf := Ob fun x : Hy => Si x.1.1 x.1.2.1 x.1.2.2.1 x.1.2.2.2.1 x.2.1
def Jj (a0 : Ta) : Option Zg :=
 (cond (decide (a0.1 < 1))
 (some (false, ()))
 (cond (decide (a0.1 > 32))
 (some (false, ()))
 (cond (decide (((ln a0.2.1 : Nat) : Int) < 1))
 (some (false, ()))
 (cond (decide (((ln a0.2.1 : Nat) : Int) > 4))
 (some (false, ()))
 (ob (Cf (((), a0.2.1, ((ln a0.2.1 : Nat) : Int), 0, ()), (a0, ()))) (se (fun y28 => (some (true, ()))) (fun z29 => (some (z29.1.1, ())))))))))
def Kh (a0 : Cb) (a1 : Cb) : Option Zg :=
 (cond (a0.1 != a1.1)
 (some (false, ()))
 (cond (a0.2.1 != a1.2.1)
 (some (false, ()))
 (cond (a0.2.2.1 != a1.2.2.1)
 (some (false, ()))
 (cond (a0.2.2.2.1 != a1.2.2.2.1)
 (some (false, ()))
 (some (true, ()))))))
def Up (t0 : Qi) (t1 : Qi) (t5 : Int) : Option (Zu ⊕ (Mk ⊕ Tm)) :=
 (cond (decide (t5 < ((ln t0 : Nat) : Int)))
 (ob (Oe t0 t5) fun x7 =>
 (ob (Oe t1 t5) fun x8 =>
 (ob (Kh x7 x8) fun r9 =>
 (cond (!r9.1)
 (some (.inr (.inr ((false, ()), ()))))
 (some (.inl ((t0, t1, (wr .i64 (t5 + 1)), ()), ())))))))
 (some (.inr (.inl ((), ())))))
def Tj := Ob fun x : Zu => Up x.1.1 x.1.2.1 x.1.2.2.1
def Lg (a0 : Qi) (a1 : Qi) : Option Zg :=
 (cond (((ln a0 : Nat) : Int) != ((ln a1 : Nat) : Int))
 (some (false, ()))
 (ob (Tj ((a0, a1, 0, ()), ())) (se (fun y10 => (some (true, ()))) (fun z11 => (some (z11.1.1, ()))))))
def Dp (t0 : Ig) (t1 : Ig) (t5 : Int) : Option (Cv ⊕ (Mk ⊕ Tm)) :=
 (cond (decide (t5 < ((ln t0 : Nat) : Int)))
 (ob (Oe t0 t5) fun x7 =>
 (ob (Oe t1 t5) fun x8 =>
 (ob (Lg x7 x8) fun r9 =>
 (cond (!r9.1)
 (some (.inr (.inr ((false, ()), ()))))
 (some (.inl ((t0, t1, (wr .i64 (t5 + 1)), ()), ())))))))
 (some (.inr (.inl ((), ())))))
def Cj := Ob fun x : Cv => Dp x.1.1 x.1.2.1 x.1.2.2.1
def Uh (a0 : Ig) (a1 : Ig) : Option Zg :=
 (cond (((ln a0 : Nat) : Int) != ((ln a1 : Nat) : Int))
 (some (false, ()))
 (ob (Cj ((a0, a1, 0, ()), ())) (se (fun y10 => (some (true, ()))) (fun z11 => (some (z11.1.1, ()))))))
def Kj (a0 : Ta) (a1 : Ta) : Option Zg :=
 (cond (a0.1 != a1.1)
 (some (false, ()))
 (ob (Uh a0.2.1 a1.2.1) fun r1 =>
 (cond (!r1.1)
 (some (false, ()))
 (some (true, ())))))
def Dq (t0 : We) (t1 : Int) (t5 : (List We)) (t6 : Int) (t7 : Int) : Option (((We × (Int × ((List We) × Ie))) × Unit) ⊕ ((((List We) × Unit) × Unit) ⊕ Mk)) :=
 (cond (decide (t7 ≤ ((ln t0 : Nat) : Int)))
 (cond (t7 == ((ln t0 : Nat) : Int))
 (cond (Wd (ln t0) t6 t7)
 (cond (bl (ln t5 + ln ([(Fd t0 (tn t6) (tn t7))] : List We)) Dk)
 (some (.inl ((t0, t1, (ap t5 ([(Fd t0 (tn t6) (tn t7))] : List We)), (wr .i64 (t7 + 1)), (wr .i64 (t7 + 1)), ()), ())))
 none)
 none)
 (ob (Oe t0 t7) fun c3 =>
 (cond (((UInt8.toNat c3 : Nat) : Int) == t1)
 (cond (Wd (ln t0) t6 t7)
 (cond (bl (ln t5 + ln ([(Fd t0 (tn t6) (tn t7))] : List We)) Dk)
 (some (.inl ((t0, t1, (ap t5 ([(Fd t0 (tn t6) (tn t7))] : List We)), (wr .i64 (t7 + 1)), (wr .i64 (t7 + 1)), ()), ())))
 none)
 none)
 (some (.inl ((t0, t1, t5, t6, (wr .i64 (t7 + 1)), ()), ()))))))
 (some (.inr (.inl ((t5, ()), ())))))
def Qg := Ob fun x : ((We × (Int × ((List We) × Ie))) × Unit) => Dq x.1.1 x.1.2.1 x.1.2.2.1 x.1.2.2.2.1 x.1.2.2.2.2.1
def Sk (a0 : We) (a1 : Int) : Option ((List We) × Unit) :=
 (ob (Qg ((a0, a1, [], 0, 0, ()), ())) (se (fun y4 => (some (y4.1.1, ()))) (fun z5 => none)))
def Hk : Option ((List We) × Unit) :=
 (ob (Sk Nl 32) fun r1 =>
 (some (r1.1, ())))
def Af (a0 : Int) : Option (We × Unit) :=
 (ob (Pd a0 1 56) fun r1 =>
 (cond (!r1.1)
 (some ([], ()))
 (ob Hk fun r2 =>
 (cond (Kk (ln r2.1) (wr .i64 (a0 - 1)))
 (ob r2.1[(tn (wr .i64 (a0 - 1)))]? fun x3 =>
 (some (x3, ())))
 none))))
def Se (a0 : Int) (a1 : Int) : Option (We × Unit) :=
 (ob (Pd a0 1 56) fun r1 =>
 (cond (!r1.1)
 (some ([], ()))
 (ob (Pd a1 0 15) fun r2 =>
 (cond (!r2.1)
 (some ([], ()))
 (cond ((Dv .i64 a1 2) != 0)
 (some ([], ()))
 (cond (decide (a0 ≤ 26))
 (cond (decide ((Bi .i64 a1 2) > 0))
 (some ((Xd ([(wr .u8 (wr .i64 (64 + a0)))] : List Int)), ()))
 (cond (decide (a0 ≤ 36))
 (cond (decide ((Bi .i64 a1 2) > 0))
 (cond (Wd (ln Jd) (wr .i64 (a0 - 27)) (wr .i64 (a0 - 26)))
 (some ((Fd Jd (tn (wr .i64 (a0 - 27))) (tn (wr .i64 (a0 - 26)))), ()))
 none)
 (cond (decide (a0 ≤ 36))
 (ob (Af a0) fun r3 =>
 (some (r3.1, ())))
 (cond (a0 == 37)
 (some (([10] : List UInt8), ()))
 (cond (a0 == 40)
 (some (([9] : List UInt8), ()))
 (cond (a0 == 41)
 (some (([32] : List UInt8), ()))
 (cond (a0 == 42)
 (cond (decide ((Bi .i64 a1 2) > 0))
 (some (([95] : List UInt8), ()))
 (cond (a0 == 42)
 (some (([45] : List UInt8), ()))
 (cond (a0 == 43)
 (cond (decide ((Bi .i64 a1 2) > 0))
 (some (([43] : List UInt8), ()))
 (cond (a0 == 43)
 (some (([61] : List UInt8), ()))
 (some ([], ()))))
 (cond (a0 == 43)
 (some (([61] : List UInt8), ()))
 (some ([], ()))))))
 (cond (a0 == 42)
 (some (([45] : List UInt8), ()))
 (cond (a0 == 43)
 (cond (decide ((Bi .i64 a1 2) > 0))
 (some (([43] : List UInt8), ()))
 (cond (a0 == 43)
 (some (([61] : List UInt8), ()))
 (some ([], ()))))
 (cond (a0 == 43)
 (some (([61] : List UInt8), ()))
 (some ([], ())))))))))))
 (cond (decide (a0 ≤ 36))
 (ob (Af a0) fun r4 =>
 (some (r4.1, ())))
 (cond (a0 == 37)
 (some (([10] : List UInt8), ()))
 (cond (a0 == 40)
 (some (([9] : List UInt8), ()))
 (cond (a0 == 41)
 (some (([32] : List UInt8), ()))
 (cond (a0 == 42)
 (cond (decide ((Bi .i64 a1 2) > 0))
 (some (([95] : List UInt8), ()))
 (cond (a0 == 42)
 (some (([45] : List UInt8), ()))
 (cond (a0 == 43)
 (cond (decide ((Bi .i64 a1 2) > 0))
 (some (([43] : List UInt8), ()))
 (cond (a0 == 43)
 (some (([61] : List UInt8), ()))
 (some ([], ()))))
 (cond (a0 == 43)
 (some (([61] : List UInt8), ()))
 (some ([], ()))))))
 (cond (a0 == 42)
 (some (([45] : List UInt8), ()))
 (cond (a0 == 43)
 (cond (decide ((Bi .i64 a1 2) > 0))
 (some (([43] : List UInt8), ()))
 (cond (a0 == 43)
 (some (([61] : List UInt8), ()))
 (some ([], ()))))
 (cond (a0 == 43)
 (some (([61] : List UInt8), ()))
 (some ([], ()))))))))))))
 (cond (decide (a0 ≤ 36))
 (cond (decide ((Bi .i64 a1 2) > 0))
 (cond (Wd (ln Jd) (wr .i64 (a0 - 27)) (wr .i64 (a0 - 26)))
 (some ((Fd Jd (tn (wr .i64 (a0 - 27))) (tn (wr .i64 (a0 - 26)))), ()))
 none)
 (cond (decide (a0 ≤ 36))
 (ob (Af a0) fun r5 =>
 (some (r5.1, ())))
 (cond (a0 == 37)
 (some (([10] : List UInt8), ()))
 (cond (a0 == 40)
 (some (([9] : List UInt8), ()))
 (cond (a0 == 41)
 (some (([32] : List UInt8), ()))
 (cond (a0 == 42)
 (cond (decide ((Bi .i64 a1 2) > 0))
 (some (([95] : List UInt8), ()))
 (cond (a0 == 42)
 (some (([45] : List UInt8), ()))
 (cond (a0 == 43)
 (cond (decide ((Bi .i64 a1 2) > 0))
 (some (([43] : List UInt8), ()))
 (cond (a0 == 43)
 (some (([61] : List UInt8), ()))
 (some ([], ()))))
 (cond (a0 == 43)
 (some (([61] : List UInt8), ()))
 (some ([], ()))))))
 (cond (a0 == 42)
 (some (([45] : List UInt8), ()))
 (cond (a0 == 43)
 (cond (decide ((Bi .i64 a1 2) > 0))
 (some (([43] : List UInt8), ()))
 (cond (a0 == 43)
 (some (([61] : List UInt8), ()))
 (some ([], ()))))
 (cond (a0 == 43)
 (some (([61] : List UInt8), ()))
 (some ([], ())))))))))))
 (cond (decide (a0 ≤ 36))
 (ob (Af a0) fun r6 =>
 (some (r6.1, ())))
 (cond (a0 == 37)
 (some (([10] : List UInt8), ()))
 (cond (a0 == 40)
 (some (([9] : List UInt8), ()))
 (cond (a0 == 41)
 (some (([32] : List UInt8), ()))
 (cond (a0 == 42)
 (cond (decide ((Bi .i64 a1 2) > 0))
 (some (([95] : List UInt8), ()))
 (cond (a0 == 42)
 (some (([45] : List UInt8), ()))
 (cond (a0 == 43)
 (cond (decide ((Bi .i64 a1 2) > 0))
 (some (([43] : List UInt8), ()))
 (cond (a0 == 43)
 (some (([61] : List UInt8), ()))
 (some ([], ()))))
 (cond (a0 == 43)
 (some (([61] : List UInt8), ()))
 (some ([], ()))))))
 (cond (a0 == 42)
 (some (([45] : List UInt8), ()))
 (cond (a0 == 43)
 (cond (decide ((Bi .i64 a1 2) > 0))
 (some (([43] : List UInt8), ()))
 (cond (a0 == 43)
 (some (([61] : List UInt8), ()))
 (some ([], ()))))
 (cond (a0 == 43)
 (some (([61] : List UInt8), ()))
 (some ([], ())))))))))))))))))
def Me (t0 : Int) (t4 : Int) (t5 : Int) : Option (((Int × Ie) × Unit) ⊕ (((Int × Ri) × Unit) ⊕ (Ie × Unit))) :=
 (cond (decide (t5 ≤ 56))
 (ob (Se t5 t4) fun r13 =>
 (cond (r13.1 == (Xd ([t0] : List Int)))
 (some (.inr (.inr ((t5, t4, ()), ()))))
 (some (.inl ((t0, t4, (wr .i64 (t5 + 1)), ()), ())))))
 (some (.inr (.inl ((t0, t4, ()), ())))))
def Lc := Ob fun x : ((Int × Ie) × Unit) => Me x.1.1 x.1.2.1 x.1.2.2.1
def Wc (t0 : Int) (t4 : Int) : Option (((Int × Ri) × Unit) ⊕ (Mk ⊕ (Ie × Unit))) :=
 (cond (decide (t4 ≤ 2))
 (ob (Lc ((t0, t4, 1, ()), ())) (se (fun y14 => (some (.inl ((y14.1.1, (wr .i64 (y14.1.2.1 + 2)), ()), ())))) (fun z15 => (some (.inr (.inr (z15.1, ())))))))
 (some (.inr (.inl ((), ())))))
def Xi := Ob fun x : ((Int × Ri) × Unit) => Wc x.1.1 x.1.2.1
def Vl (a0 : Int) : Option Ie :=
 (ob (Xi ((a0, 0, ()), ())) (se (fun y16 => (some (0, 0, ()))) (fun z17 => (some z17.1))))
def Oi (a0 : Cb) : Option Zg :=
 (ob (Wf a0) fun r1 =>
 (cond r1.1
 (cond (a0.1 == 6)
 (some (true, ()))
 (some ((a0.1 == 7), ())))
 (some (false, ()))))
def Wl (a0 : Cb) : Option (Cb × Unit) :=
 (ob (Oi a0) fun r1 =>
 (cond (!r1.1)
 (some (a0, ()))
 (some ((2, a0.2.1, 0, 0, ()), ()))))
def Ag (t1 : Int) (t2 : Int) (t3 : Unit) (t7 : Int) (b3 : Ta) : Option (HF ⊕ (Mk ⊕ Bv)) :=
 (cond (decide (t7 < b3.1))
 (ob (Bf b3) fun r11 =>
 (cond r11.1
 (ob (Pd t1 0 56) fun r12 =>
 (cond r12.1
 (ob (Oe b3.2.1 0) fun x13 =>
 (ob (Oe x13 t7) fun x14 =>
 (cond (decide (t1 > 0))
 (ob (Wl x14) fun r15 =>
 (cond (r15.1.1 == 2)
 (cond (r15.1.2.1 == t1)
 (cond (r15.1.2.2.1 == t2)
 (some (.inr (.inr ((t7, ()), ()))))
 (some (.inl ((t1, t2, (), (wr .i64 (t7 + 1)), ()), (b3, ())))))
 (some (.inl ((t1, t2, (), (wr .i64 (t7 + 1)), ()), (b3, ())))))
 (some (.inl ((t1, t2, (), (wr .i64 (t7 + 1)), ()), (b3, ()))))))
 (cond (x14.1 == 2)
 (cond (x14.2.1 == t1)
 (cond (x14.2.2.1 == t2)
 (some (.inr (.inr ((t7, ()), ()))))
 (some (.inl ((t1, t2, (), (wr .i64 (t7 + 1)), ()), (b3, ())))))
 (some (.inl ((t1, t2, (), (wr .i64 (t7 + 1)), ()), (b3, ())))))
 (some (.inl ((t1, t2, (), (wr .i64 (t7 + 1)), ()), (b3, ()))))))))
 (some (.inr (.inl ((), ()))))))
 (some (.inr (.inl ((), ()))))))
 (some (.inr (.inl ((), ())))))
def Ue := Ob fun x : HF => Ag x.1.1 x.1.2.1 x.1.2.2.1 x.1.2.2.2.1 x.2.1
def Oh (a0 : Ta) (a1 : Int) (a2 : Int) : Option Ri :=
 (ob (Ue ((a1, a2, (), 0, ()), (a0, ()))) (se (fun y16 => (some ((-1), ()))) (fun z17 => (some (z17.1.1, ())))))
def Rg (a0 : Ta) (a1 : Int) (a2 : Int) : Option (GF × Unit) :=
 (ob (Vl a1) fun r1 =>
 (cond (r1.1 == 0)
 (some ([], ()))
 (ob (Oh a0 r1.1 r1.2.1) fun r2 =>
 (cond (decide (r2.1 ≥ 0))
 (some (([(a2, r2.1, true, ()), (a2, r2.1, false, ())] : List Nn), ()))
 (ob (Oh a0 r1.1 0) fun r3 =>
 (ob (Oh a0 0 r1.2.1) fun r4 =>
 (cond (decide (r3.1 < 0))
 (some ([], ()))
 (cond (decide (r4.1 < 0))
 (some ([], ()))
 (cond (r1.2.1 == 0)
 (some ([], ()))
 (some (([(a2, r4.1, true, ()), (a2, r3.1, true, ()), (a2, r3.1, false, ()), (a2, r4.1, false, ())] : List Nn), ())))))))))))
def Td (t1 : We) (t2 : Unit) (t5 : Int) (b2 : Ta) : Option (Av ⊕ ((Mk × Kl) ⊕ Tm)) :=
 (cond (decide (t5 < ((ln t1 : Nat) : Int)))
 (ob (Oe t1 t5) fun c5 =>
 (ob (Rg b2 ((UInt8.toNat c5 : Nat) : Int) 0) fun r6 =>
 (cond (((ln r6.1 : Nat) : Int) == 0)
 (some (.inr (.inr ((false, ()), ()))))
 (some (.inl ((t1, (), (wr .i64 (t5 + 1)), ()), (b2, ())))))))
 (some (.inr (.inl (((), ()), (b2, ()))))))
def Rf := Ob fun x : Av => Td x.1.1 x.1.2.1 x.1.2.2.1 x.2.1
def Gi (a0 : Ta) (a1 : We) : Option Zg :=
 (ob (Rf ((a1, (), 0, ()), (a0, ()))) (se (fun y7 => (ob (Bf y7.2.1) fun r9 =>
 (some (r9.1, ())))) (fun z8 => (some (z8.1.1, ())))))
def strings_Split (a b : List UInt8) : Option (List We × Unit) := Kw a b
def Wa (a0 : Int) : Option (We × Unit) :=
 (cond (decide (a0 < 1))
 (some ([], ()))
 (cond (decide (a0 > 56))
 (some ([], ()))
 (ob (strings_Split Nl ([32] : List UInt8)) fun r1 =>
 (cond (Kk (ln r1.1) (wr .i64 (a0 - 1)))
 (ob r1.1[(tn (wr .i64 (a0 - 1)))]? fun x2 =>
 (some (x2, ())))
 none))))
def Qe (a0 : Int) (a1 : Int) : Option (We × Unit) :=
 (ob (Dg a0) fun r1 =>
 (cond (!r1.1)
 (some ([], ()))
 (cond (a1 != 0)
 (cond (a1 != 2)
 (some ([], ()))
 (cond (decide (a0 ≤ 26))
 (cond (a1 == 2)
 (some ((Xd ([(wr .u8 (wr .i64 ((wr .i64 (65 + a0)) - 1)))] : List Int)), ()))
 (cond (decide (a0 ≤ 26))
 (ob (Wa a0) fun r2 =>
 (some (r2.1, ())))
 (cond (decide (a0 ≤ 36))
 (cond (a1 == 2)
 (cond (Wd (ln Jd) (wr .i64 (a0 - 27)) (wr .i64 (a0 - 26)))
 (some ((Fd Jd (tn (wr .i64 (a0 - 27))) (tn (wr .i64 (a0 - 26)))), ()))
 none)
 (cond (decide (a0 ≤ 36))
 (ob (Wa a0) fun r3 =>
 (some (r3.1, ())))
 (ob (Wa a0) fun r4 =>
 (cond (r4.1 == Fe)
 (some (([10] : List UInt8), ()))
 (cond (r4.1 == ([116, 97, 98] : List UInt8))
 (some (([9] : List UInt8), ()))
 (cond (r4.1 == Ge)
 (some (([32] : List UInt8), ()))
 (cond (r4.1 == Ee)
 (cond (a1 == 2)
 (some (([95] : List UInt8), ()))
 (some (([45] : List UInt8), ())))
 (cond (r4.1 == De)
 (cond (a1 == 2)
 (some (([43] : List UInt8), ()))
 (some (([61] : List UInt8), ())))
 (some ([], ()))))))))))
 (cond (decide (a0 ≤ 36))
 (ob (Wa a0) fun r5 =>
 (some (r5.1, ())))
 (ob (Wa a0) fun r6 =>
 (cond (r6.1 == Fe)
 (some (([10] : List UInt8), ()))
 (cond (r6.1 == ([116, 97, 98] : List UInt8))
 (some (([9] : List UInt8), ()))
 (cond (r6.1 == Ge)
 (some (([32] : List UInt8), ()))
 (cond (r6.1 == Ee)
 (cond (a1 == 2)
 (some (([95] : List UInt8), ()))
 (some (([45] : List UInt8), ())))
 (cond (r6.1 == De)
 (cond (a1 == 2)
 (some (([43] : List UInt8), ()))
 (some (([61] : List UInt8), ())))
 (some ([], ()))))))))))))
 (cond (decide (a0 ≤ 26))
 (ob (Wa a0) fun r7 =>
 (some (r7.1, ())))
 (cond (decide (a0 ≤ 36))
 (cond (a1 == 2)
 (cond (Wd (ln Jd) (wr .i64 (a0 - 27)) (wr .i64 (a0 - 26)))
 (some ((Fd Jd (tn (wr .i64 (a0 - 27))) (tn (wr .i64 (a0 - 26)))), ()))
 none)
 (cond (decide (a0 ≤ 36))
 (ob (Wa a0) fun r8 =>
 (some (r8.1, ())))
 (ob (Wa a0) fun r9 =>
 (cond (r9.1 == Fe)
 (some (([10] : List UInt8), ()))
 (cond (r9.1 == ([116, 97, 98] : List UInt8))
 (some (([9] : List UInt8), ()))
 (cond (r9.1 == Ge)
 (some (([32] : List UInt8), ()))
 (cond (r9.1 == Ee)
 (cond (a1 == 2)
 (some (([95] : List UInt8), ()))
 (some (([45] : List UInt8), ())))
 (cond (r9.1 == De)
 (cond (a1 == 2)
 (some (([43] : List UInt8), ()))
 (some (([61] : List UInt8), ())))
 (some ([], ()))))))))))
 (cond (decide (a0 ≤ 36))
 (ob (Wa a0) fun r10 =>
 (some (r10.1, ())))
 (ob (Wa a0) fun r11 =>
 (cond (r11.1 == Fe)
 (some (([10] : List UInt8), ()))
 (cond (r11.1 == ([116, 97, 98] : List UInt8))
 (some (([9] : List UInt8), ()))
 (cond (r11.1 == Ge)
 (some (([32] : List UInt8), ()))
 (cond (r11.1 == Ee)
 (cond (a1 == 2)
 (some (([95] : List UInt8), ()))
 (some (([45] : List UInt8), ())))
 (cond (r11.1 == De)
 (cond (a1 == 2)
 (some (([43] : List UInt8), ()))
 (some (([61] : List UInt8), ())))
 (some ([], ())))))))))))))
 (cond (decide (a0 ≤ 26))
 (cond (a1 == 2)
 (some ((Xd ([(wr .u8 (wr .i64 ((wr .i64 (65 + a0)) - 1)))] : List Int)), ()))
 (cond (decide (a0 ≤ 26))
 (ob (Wa a0) fun r12 =>
 (some (r12.1, ())))
 (cond (decide (a0 ≤ 36))
 (cond (a1 == 2)
 (cond (Wd (ln Jd) (wr .i64 (a0 - 27)) (wr .i64 (a0 - 26)))
 (some ((Fd Jd (tn (wr .i64 (a0 - 27))) (tn (wr .i64 (a0 - 26)))), ()))
 none)
 (cond (decide (a0 ≤ 36))
 (ob (Wa a0) fun r13 =>
 (some (r13.1, ())))
 (ob (Wa a0) fun r14 =>
 (cond (r14.1 == Fe)
 (some (([10] : List UInt8), ()))
 (cond (r14.1 == ([116, 97, 98] : List UInt8))
 (some (([9] : List UInt8), ()))
 (cond (r14.1 == Ge)
 (some (([32] : List UInt8), ()))
 (cond (r14.1 == Ee)
 (cond (a1 == 2)
 (some (([95] : List UInt8), ()))
 (some (([45] : List UInt8), ())))
 (cond (r14.1 == De)
 (cond (a1 == 2)
 (some (([43] : List UInt8), ()))
 (some (([61] : List UInt8), ())))
 (some ([], ()))))))))))
 (cond (decide (a0 ≤ 36))
 (ob (Wa a0) fun r15 =>
 (some (r15.1, ())))
 (ob (Wa a0) fun r16 =>
 (cond (r16.1 == Fe)
 (some (([10] : List UInt8), ()))
 (cond (r16.1 == ([116, 97, 98] : List UInt8))
 (some (([9] : List UInt8), ()))
 (cond (r16.1 == Ge)
 (some (([32] : List UInt8), ()))
 (cond (r16.1 == Ee)
 (cond (a1 == 2)
 (some (([95] : List UInt8), ()))
 (some (([45] : List UInt8), ())))
 (cond (r16.1 == De)
 (cond (a1 == 2)
 (some (([43] : List UInt8), ()))
 (some (([61] : List UInt8), ())))
 (some ([], ()))))))))))))
 (cond (decide (a0 ≤ 26))
 (ob (Wa a0) fun r17 =>
 (some (r17.1, ())))
 (cond (decide (a0 ≤ 36))
 (cond (a1 == 2)
 (cond (Wd (ln Jd) (wr .i64 (a0 - 27)) (wr .i64 (a0 - 26)))
 (some ((Fd Jd (tn (wr .i64 (a0 - 27))) (tn (wr .i64 (a0 - 26)))), ()))
 none)
 (cond (decide (a0 ≤ 36))
 (ob (Wa a0) fun r18 =>
 (some (r18.1, ())))
 (ob (Wa a0) fun r19 =>
 (cond (r19.1 == Fe)
 (some (([10] : List UInt8), ()))
 (cond (r19.1 == ([116, 97, 98] : List UInt8))
 (some (([9] : List UInt8), ()))
 (cond (r19.1 == Ge)
 (some (([32] : List UInt8), ()))
 (cond (r19.1 == Ee)
 (cond (a1 == 2)
 (some (([95] : List UInt8), ()))
 (some (([45] : List UInt8), ())))
 (cond (r19.1 == De)
 (cond (a1 == 2)
 (some (([43] : List UInt8), ()))
 (some (([61] : List UInt8), ())))
 (some ([], ()))))))))))
 (cond (decide (a0 ≤ 36))
 (ob (Wa a0) fun r20 =>
 (some (r20.1, ())))
 (ob (Wa a0) fun r21 =>
 (cond (r21.1 == Fe)
 (some (([10] : List UInt8), ()))
 (cond (r21.1 == ([116, 97, 98] : List UInt8))
 (some (([9] : List UInt8), ()))
 (cond (r21.1 == Ge)
 (some (([32] : List UInt8), ()))
 (cond (r21.1 == Ee)
 (cond (a1 == 2)
 (some (([95] : List UInt8), ()))
 (some (([45] : List UInt8), ())))
 (cond (r21.1 == De)
 (cond (a1 == 2)
 (some (([43] : List UInt8), ()))
 (some (([61] : List UInt8), ())))
 (some ([], ())))))))))))))))
def Je (t0 : Int) (t5 : Int) (t6 : Int) (t7 : (List Int)) (t8 : Int) (t9 : Int) : Option (((Int × (Int × Is)) × Unit) ⊕ ((Is × Unit) ⊕ (Ie × Unit))) :=
 (cond (decide (t6 ≤ 56))
 (ob (Qe t6 t5) fun r16 =>
 (cond (r16.1 == (Xd ([t0] : List Int)))
 (some (.inr (.inr ((t6, t5, ()), ()))))
 (some (.inl ((t0, t5, (wr .i64 (t6 + 1)), t7, t8, t9, ()), ())))))
 (some (.inr (.inl ((t0, t7, t8, t9, ()), ())))))
def Kc := Ob fun x : ((Int × (Int × Is)) × Unit) => Je x.1.1 x.1.2.1 x.1.2.2.1 x.1.2.2.2.1 x.1.2.2.2.2.1 x.1.2.2.2.2.2.1
def Uc (t0 : Int) (t7 : (List Int)) (t8 : Int) (t9 : Int) : Option ((Is × Unit) ⊕ (Mk ⊕ (Ie × Unit))) :=
 (cond (decide (t9 < t8))
 (cond (Kk (ln t7) t9)
 (ob t7[(tn t9)]? fun x13 =>
 (ob (Kc ((t0, x13, 1, t7, t8, t9, ()), ())) (se (fun y17 => (some (.inl ((y17.1.1, y17.1.2.1, y17.1.2.2.1, (wr .i64 (y17.1.2.2.2.1 + 1)), ()), ())))) (fun z18 => (some (.inr (.inr (z18.1, ()))))))))
 none)
 (some (.inr (.inl ((), ())))))
def Ui := Ob fun x : (Is × Unit) => Uc x.1.1 x.1.2.1 x.1.2.2.1 x.1.2.2.2.1
def Rl (a0 : Int) : Option Ie :=
 (ob (Ui ((a0, ([0, 2] : List Int), ((ln ([0, 2] : List Int) : Nat) : Int), 0, ()), ())) (se (fun y19 => (some (0, 0, ()))) (fun z20 => (some z20.1))))
def Ji (a0 : Cb) : Option Zg :=
 (ob (Uf a0) fun r1 =>
 (cond r1.1
 (cond (a0.1 == 6)
 (some (true, ()))
 (some ((a0.1 == 7), ())))
 (some (false, ()))))
def Sl (a0 : Cb) : Option (Cb × Unit) :=
 (ob (Ji a0) fun r1 =>
 (cond (!r1.1)
 (some (a0, ()))
 (some ((2, a0.2.1, 0, 0, ()), ()))))
def Th (t1 : Int) (t2 : Int) (t12 : Qi) (t13 : Int) (t14 : Int) : Option ((Iy × Unit) ⊕ (Mk ⊕ Bv)) :=
 (cond (decide (t14 < t13))
 (ob (Oe t12 t14) fun x6 =>
 (cond (t1 != 0)
 (ob (Sl x6) fun r7 =>
 (cond (r7.1.1 == 2)
 (cond (r7.1.2.1 == t1)
 (cond (r7.1.2.2.1 == t2)
 (some (.inr (.inr ((t14, ()), ()))))
 (some (.inl ((t1, t2, t12, t13, (wr .i64 (t14 + 1)), ()), ()))))
 (some (.inl ((t1, t2, t12, t13, (wr .i64 (t14 + 1)), ()), ()))))
 (some (.inl ((t1, t2, t12, t13, (wr .i64 (t14 + 1)), ()), ())))))
 (cond (x6.1 == 2)
 (cond (x6.2.1 == t1)
 (cond (x6.2.2.1 == t2)
 (some (.inr (.inr ((t14, ()), ()))))
 (some (.inl ((t1, t2, t12, t13, (wr .i64 (t14 + 1)), ()), ()))))
 (some (.inl ((t1, t2, t12, t13, (wr .i64 (t14 + 1)), ()), ()))))
 (some (.inl ((t1, t2, t12, t13, (wr .i64 (t14 + 1)), ()), ()))))))
 (some (.inr (.inl ((), ())))))
def Yf := Ob fun x : (Iy × Unit) => Th x.1.1 x.1.2.1 x.1.2.2.1 x.1.2.2.2.1 x.1.2.2.2.2.1
def Mh (a0 : Ta) (a1 : Int) (a2 : Int) : Option Ri :=
 (ob (Oe a0.2.1 0) fun x1 =>
 (ob (Yf ((a1, a2, x1, ((ln x1 : Nat) : Int), 0, ()), ())) (se (fun y8 => (some ((-1), ()))) (fun z9 => (some (z9.1.1, ()))))))
def Ki (a0 : Ta) (a1 : Int) (a2 : Int) : Option (GF × Zg) :=
 (ob (Rl a1) fun r1 =>
 (cond (r1.1 == 0)
 (some ([], false, ()))
 (ob (Mh a0 r1.1 r1.2.1) fun r2 =>
 (cond (decide (r2.1 ≥ 0))
 (some (([(a2, r2.1, true, ()), (a2, r2.1, false, ())] : List Nn), true, ()))
 (ob (Mh a0 r1.1 0) fun r3 =>
 (ob (Mh a0 0 r1.2.1) fun r4 =>
 (cond (r1.2.1 == 0)
 (some ([], false, ()))
 (cond (decide (r3.1 < 0))
 (some ([], false, ()))
 (cond (decide (r4.1 < 0))
 (some ([], false, ()))
 (some (([(a2, r4.1, true, ()), (a2, r3.1, true, ()), (a2, r3.1, false, ()), (a2, r4.1, false, ())] : List Nn), true, ())))))))))))
def Ch (t1 : We) (t2 : Unit) (t5 : Int) (b2 : Ta) : Option (Av ⊕ (Mk ⊕ Tm)) :=
 (cond (decide (t5 < ((ln t1 : Nat) : Int)))
 (ob (Oe t1 t5) fun c6 =>
 (ob (Ki b2 ((UInt8.toNat c6 : Nat) : Int) 0) fun r7 =>
 (cond (!r7.2.1)
 (some (.inr (.inr ((false, ()), ()))))
 (some (.inl ((t1, (), (wr .i64 (t5 + 1)), ()), (b2, ())))))))
 (some (.inr (.inl ((), ())))))
def Qh := Ob fun x : Av => Ch x.1.1 x.1.2.1 x.1.2.2.1 x.2.1
def Ci (a0 : Ta) (a1 : We) : Option Zg :=
 (ob (Jj a0) fun r1 =>
 (cond (!r1.1)
 (some (false, ()))
 (ob (Qh ((a1, (), 0, ()), (a0, ()))) (se (fun y8 => (some (true, ()))) (fun z9 => (some (z9.1.1, ())))))))
def Qf (a0 : Ta) (a1 : We) : Option Zg :=
 (cond (decide (((ln a1 : Nat) : Int) > 1048576))
 (some (true, ()))
 (ob (Lj a0 1048576) fun r1 =>
 (cond (decide (r1.1 < 0))
 (some (true, ()))
 (ob (Vf a0) fun r2 =>
 (ob (Gi r2.1 a1) fun r3 =>
 (ob (Vf a0) fun r4 =>
 (ob (Ci r4.1 a1) fun r5 =>
 (cond (r5.1 != r3.1)
 (some (false, ()))
 (ob (Vf a0) fun r6 =>
 (ob (Kj r4.1 r6.1) fun r7 =>
 (cond (!r7.1)
 (some (false, ()))
 (some (true, ())))))))))))))
end
theorem Lw (a : (List Cb)) (hr : Wj (.sl Ab) a) (l : Nat) (hl : l ≤ Yb) : Mg a (l : Int) = some (Lu (Vb (.sl Ab) a) l, ()) := MK (e := Ab) (F := Mg) a hr l hl rfl rfl
theorem Wu (a : (List (List Cb))) (hr : Wj (.sl (.sl Ab)) a) (l : Nat) (hl : l ≤ Yb) : Vh a (l : Int) = some (Lu (Vb (.sl (.sl Ab)) a) l, ()) := BL (e := (.sl Ab)) (f := Mg) (F := Vh) a hr l hl Lw rfl
theorem Ax (a : Ta) (hr : Wj Ra a) (l : Nat) (hl : l ≤ Yb) : Lj a (l : Int) = some (Lu (Vb Ra a) l, ()) := by
 unfold Lj
 have hs : Vb Ra a = Vb (.sl (.sl Ab)) a.2.1 := by simp only [Vb, Nat.add_zero, jq, jr]
 rw [Wu a.2.1 hr.2.1 (l) (by omega)]
 simp only [jb]
 by_cases h0 : Vb (.sl (.sl Ab)) a.2.1 ≤ l
 case neg => rw [Qm h0, Qm (by omega)]; rfl
 rw [Ao h0, Wb (by omega)]
 simp only [cond_false]
 rw [Ao (by omega), hs]
 try simp only [Nat.sub_sub, jr]
theorem Bx (a : Cb) (hz : Vb Ab a ≤ Yb) : Lh a = some (a, ()) := by
 unfold Lh
 rfl
theorem Mw (a : (List Cb)) (hz : Vb (.sl Ab) a ≤ Yb) : Li a = some (a, ()) := KH (e := Ab) _ _ (f := Lh) a hz Bx rfl
theorem Xu (a : (List (List Cb))) (hz : Vb (.sl (.sl Ab)) a ≤ Yb) : Ck a = some (a, ()) := KH (e := (.sl Ab)) _ _ (f := Li) a hz Mw rfl
theorem Cx (a : Ta) (hz : Vb Ra a ≤ Yb) : Vf a = some (a, ()) := by
 unfold Vf
 have hs : Vb Ra a = Vb (.sl (.sl Ab)) a.2.1 := by simp only [Vb, Nat.add_zero, jq, jr]
 rw [Xu a.2.1 (by omega)]
 simp only [jb]
theorem Rw (a : Cb) (hz : Vb Ab a ≤ Wk) : Kh a a = some (true, ()) := by
 unfold Kh
 have hs : Vb Ab a = 0 := by simp only [Vb, Nat.add_zero, jq, jr]
 simp only [bne_self_eq_false', cond_false, jg, jb]
theorem Qv (a : (List Cb)) (hz : Vb (.sl Ab) a ≤ Wk) : Lg a a = some (true, ()) := GH (e := Ab) (f := Kh) (F := Lg) a hz Rw rfl
theorem Nu (a : (List (List Cb))) (hz : Vb (.sl (.sl Ab)) a ≤ Wk) : Uh a a = some (true, ()) := GH (e := (.sl Ab)) (f := Lg) (F := Uh) a hz Qv rfl
theorem Sw (a : Ta) (hz : Vb Ra a ≤ Wk) : Kj a a = some (true, ()) := by
 unfold Kj
 have hs : Vb Ra a = Vb (.sl (.sl Ab)) a.2.1 := by simp only [Vb, Nat.add_zero, jq, jr]
 simp only [bne_self_eq_false', cond_false, jg, jb, Nu a.2.1 (by omega)]
def Pb (k c m n : Int) : Prop :=
 ((k = 0 ∨ k = 1 ∨ k = 10) ∧ c = 0 ∧ m = 0 ∧ n = 0) ∨
 (k = 2 ∧ n = 0 ∧ (c = 0 ∨ 1 ≤ c ∧ c ≤ 56) ∧ (m = 0 ∨ 1 ≤ m ∧ m ≤ 15) ∧ (c ≠ 0 ∨ m ≠ 0)) ∨
 ((k = 3 ∨ k = 4) ∧ c = 0 ∧ m = 0 ∧ 1 ≤ n ∧ n ≤ 3) ∨
 ((k = 5 ∨ k = 9) ∧ c = 0 ∧ m = 0 ∧ 0 ≤ n ∧ n ≤ 3) ∨
 (k = 6 ∧ 1 ≤ c ∧ c ≤ 56 ∧ 1 ≤ m ∧ m ≤ 15 ∧ n = 0) ∨
 (k = 7 ∧ 1 ≤ c ∧ c ≤ 56 ∧ m = 0 ∧ 1 ≤ n ∧ n ≤ 3) ∨
 (k = 8 ∧ c = 0 ∧ 1 ≤ m ∧ m ≤ 15 ∧ n = 0)
noncomputable def Be (a : Cb) : Bool := open Classical in decide (Pb a.1 a.2.1 a.2.2.1 a.2.2.2.1)
theorem Va (a : Cb) : Be a = true ↔ Pb a.1 a.2.1 a.2.2.1 a.2.2.2.1 := by simp [Be]
theorem Lf (c : Int) : Dg c = some (decide (1 ≤ c ∧ c ≤ 56), ()) := by
 simp only [Dg, Vg, Wg]
 apply Gb; simp only [Mb, decide_eq_true_eq, Io, Jo, jo, and_false, false_and, or_false, false_or, and_true, true_and, not_true_eq_false, not_false_eq_true]; try omega
theorem Tn (c : Int) : Eg c = some (decide (1 ≤ c ∧ c ≤ 15), ()) := by
 simp only [Eg, Vg, Wg]
 apply Gb; simp only [Mb, decide_eq_true_eq, Io, Jo, jo, and_false, false_and, or_false, false_or, and_true, true_and, not_true_eq_false, not_false_eq_true]; try omega
theorem Xm (c : Int) : Kg c = some (decide (1 ≤ c ∧ c ≤ 3), ()) := by
 simp only [Kg, Vg, Wg]
 apply Gb; simp only [Mb, decide_eq_true_eq, Io, Jo, jo, and_false, false_and, or_false, false_or, and_true, true_and, not_true_eq_false, not_false_eq_true]; try omega
theorem Id (c a b : Int) : Pd c a b = some (decide (a ≤ c ∧ c ≤ b), ()) := by
 simp only [Pd, Vg, Wg]
 apply Gb; simp only [Mb, decide_eq_true_eq, Io, Jo, jo, and_false, false_and, or_false, false_or, and_true, true_and, not_true_eq_false, not_false_eq_true]; try omega
theorem Jm (a : Cb) : Uf a = some (Be a, ()) := by
 obtain ⟨k, c, m, n, u⟩ := a
 have key : ∀ k c m n : Int, Uf (k, c, m, n, u) = some (Be (k, c, m, n, u), ()) := by
  intro k c m n
  simp only [Uf, Lf, Tn, Xm, Id, jb, Vg, Wg]
  by_cases h0 : k = 0
  ·subst h0; apply Gb; rw [Va]; simp [Pb, Mb]; try omega
  by_cases h1 : k = 1
  ·subst h1; apply Gb; rw [Va]; simp [Pb, Mb]; try omega
  by_cases h2 : k = 2
  ·subst h2; apply Gb; rw [Va]; simp [Pb, Mb]; intro hn; (repeat' split) <;> omega
  by_cases h3 : k = 3
  ·subst h3; apply Gb; rw [Va]; simp [Pb, Mb]; try omega
  by_cases h4 : k = 4
  ·subst h4; apply Gb; rw [Va]; simp [Pb, Mb]; try omega
  by_cases h5 : k = 5
  ·subst h5; apply Gb; rw [Va]; simp [Pb, Mb]; try omega
  by_cases h6 : k = 6
  ·subst h6; apply Gb; rw [Va]; simp [Pb, Mb]; try omega
  by_cases h7 : k = 7
  ·subst h7; apply Gb; rw [Va]; simp [Pb, Mb]; try omega
  by_cases h8 : k = 8
  ·subst h8; apply Gb; rw [Va]; simp [Pb, Mb]; try omega
  by_cases h9 : k = 9
  ·subst h9; apply Gb; rw [Va]; simp [Pb, Mb]; try omega
  by_cases h10 : k = 10
  ·subst h10; apply Gb; rw [Va]; simp [Pb, Mb]; try omega
  have g : ∀ j : Int, (k == j) = decide (k = j) := fun j => by rw [qg]; simp
  apply Gb; rw [Va]; simp [Pb, Mb, h0, h1, h2, h3, h4, h5, h6, h7, h8, h9, h10]
 exact key k c m n
theorem Pm (a : Cb) : Wf a = some (Be a, ()) := by
 obtain ⟨k, c, m, n, u⟩ := a
 have key : ∀ k c m n : Int, Wf (k, c, m, n, u) = some (Be (k, c, m, n, u), ()) := by
  intro k c m n
  simp only [Wf, Lf, Tn, Xm, Id, jb, Vg, Wg]
  by_cases h0 : k = 0
  ·subst h0; apply Gb; rw [Va]; simp [Pb, Mb]; try omega
  by_cases h1 : k = 1
  ·subst h1; apply Gb; rw [Va]; simp [Pb, Mb]; try omega
  by_cases h2 : k = 2
  ·subst h2; apply Gb; rw [Va]; simp [Pb, Mb]; intro hn; (repeat' split) <;> omega
  by_cases h3 : k = 3
  ·subst h3; apply Gb; rw [Va]; simp [Pb, Mb]; try omega
  by_cases h4 : k = 4
  ·subst h4; apply Gb; rw [Va]; simp [Pb, Mb]; try omega
  by_cases h5 : k = 5
  ·subst h5; apply Gb; rw [Va]; simp [Pb, Mb]; try omega
  by_cases h6 : k = 6
  ·subst h6; apply Gb; rw [Va]; simp [Pb, Mb]; try omega
  by_cases h7 : k = 7
  ·subst h7; apply Gb; rw [Va]; simp [Pb, Mb]; try omega
  by_cases h8 : k = 8
  ·subst h8; apply Gb; rw [Va]; simp [Pb, Mb]; try omega
  by_cases h9 : k = 9
  ·subst h9; apply Gb; rw [Va]; simp [Pb, Mb]; try omega
  by_cases h10 : k = 10
  ·subst h10; apply Gb; rw [Va]; simp [Pb, Mb]; try omega
  have g : ∀ j : Int, (k == j) = decide (k = j) := fun j => by rw [qg]; simp
  apply Gb; rw [Va]; simp [Pb, Mb, h0, h1, h2, h3, h4, h5, h6, h7, h8, h9, h10]
 exact key k c m n
noncomputable def Gj (nl : Nat) (i : Nat) (a : Cb) : Bool := Be a && !(((i : Int) == 0) && (a.1 == 1)) && !((a.1 != 9) && decide (a.2.2.2.1 ≥ (nl : Int)))
noncomputable def Of (keys : Int) (nl : Nat) (i : Nat) (l : List Cb) : Bool := ((ja l : Int) == keys) && Bh (fun _ a => Gj nl i a) 0 l
noncomputable def Ed (m : Ta) : Bool :=
 decide (1 ≤ m.1 ∧ m.1 ≤ 32) && decide (1 ≤ m.2.1.length ∧ m.2.1.length ≤ 4) && Bh (fun i l => Of m.1 m.2.1.length i l) 0 m.2.1
theorem Rr (m : Ta) (i : Nat) (l : List Cb) (L : List (List Cb)) (n : Int) (t : Int) (hl : l.length < 9223372036854775807) :
 Df (((), (i : Int), L, n, t, l, (l.length : Int), (0 : Int), ()), (m, ())) =
  some (cond (Bh (fun _ a => Gj m.2.1.length i a) 0 l) (.inl (((), L, n, t, ()), (m, ()))) (.inr ((false, ()), ()))) := by
 unfold Df
 refine Di (step := _) l (fun _ a => Gj m.2.1.length i a) (fun j => (((), (i : Int), L, n, t, l, (l.length : Int), j, ()), (m, ()))) _ _ ?_ ?_ hl
 ·intro k hk
  simp only [Ti]
  rw [Bb (show (k : Int) < (l.length : Int) by omega), Xf hk]
  simp only [cond_true, jb, Gj, Jm]
  cases Be l[k] <;> cases ((i : Int) == 0) <;> cases (l[k].1 == 1) <;> cases (l[k].1 != 9) <;> cases decide (l[k].2.2.2.1 ≥ (m.2.1.length : Int)) <;> rfl
 ·simp [Ti]
theorem Sr (m : Ta) (hz : Vb Ra m ≤ Yb) : Jj m = some (Ed m, ()) := by
 have h20 : Yb = 1048576 := rfl
 have hz' : m.2.1.length + (List.map (Vb (.sl Ab)) m.2.1).sum ≤ Yb := by
  have : Vb Ra m = Vb (.sl (.sl Ab)) m.2.1 := by simp only [Vb, Nat.add_zero, jq]
  rw [this] at hz; exact hz
 have hl : ∀ k (hk : k < m.2.1.length), m.2.1[k].length ≤ Yb := by
  intro k hk
  have := Xl (f := Vb (.sl Ab)) hk
  have h2 : m.2.1[k].length ≤ Vb (.sl Ab) m.2.1[k] := Nat.le_add_right _ _
  omega
 have hloop : Cf (((), m.2.1, ((ja m.2.1 : Nat) : Int), (0 : Int), ()), (m, ())) =
  some (cond (Bh (fun i l => Of m.1 m.2.1.length i l) 0 m.2.1) (.inl ((), ())) (.inr ((false, ()), ()))) := by
  unfold Cf
  refine Di (step := _) m.2.1 (fun i l => Of m.1 m.2.1.length i l) (fun j => (((), m.2.1, ((ja m.2.1 : Nat) : Int), j, ()), (m, ()))) _ _ ?_ ?_ (by omega)
  ·intro k hk
   have := hl k hk
   simp only [Si]
   rw [Bb (show (k : Int) < (m.2.1.length : Int) by omega), Xf hk]
   simp only [cond_true, jb, Of]
   rw [Rr m k _ _ _ _ (by omega)]
   show (cond (!((m.2.1[k].length : Int) == m.1)) _ _) = _
   cases ((m.2.1[k].length : Int) == m.1) <;> cases Bh (fun _ a => Gj m.2.1.length k a) 0 m.2.1[k] <;> rfl
  ·simp [Si]
 unfold Jj
 rw [hloop]
 simp only [jb, Au, Vg, Wg]
 apply Gb
 simp only [Mb, Ed, jd, decide_eq_true_eq, jo, and_false, false_or, and_true, or_false]
 generalize Bh (fun i l => Of m.1 m.2.1.length i l) 0 m.2.1 = b
 constructor
 ·rintro ⟨h1, h2, h3, h4, h5⟩; exact ⟨⟨by omega, by omega⟩, h5⟩
 ·rintro ⟨⟨h1, h2⟩, h5⟩; exact ⟨by omega, by omega, by omega, by omega, h5⟩
theorem Bs (m : Ta) (i : Nat) (hi : i < m.2.1.length) (hl : m.2.1[i].length < 9223372036854775807) :
 Hf (((), (i : Int), (0 : Int), ()), (m, ())) =
  some (cond (Bh (fun _ a => Gj m.2.1.length i a) 0 m.2.1[i]) (.inl (((), (i : Int), ()), (m, ()))) (.inr ((false, ()), ()))) := by
 unfold Hf
 refine Di (step := _) m.2.1[i] (fun _ a => Gj m.2.1.length i a) (fun j => (((), (i : Int), j, ()), (m, ()))) _ _ ?_ ?_ hl
 ·intro k hk
  simp only [Wi]
  rw [Xf hi]
  simp only [jb]
  rw [Bb (show (k : Int) < (m.2.1[i].length : Int) by omega), Xf hk]
  simp only [cond_true, jb, Gj, Pm]
  cases Be m.2.1[i][k] <;> cases ((i : Int) == 0) <;> cases (m.2.1[i][k].1 == 1) <;> cases (m.2.1[i][k].1 != 9) <;> cases decide (m.2.1[i][k].2.2.2.1 ≥ (m.2.1.length : Int)) <;> rfl
 ·simp [Wi, Xf hi]
theorem Hh (m : Ta) (hz : Vb Ra m ≤ Yb) : Bf m = some (Ed m, ()) := by
 have h20 : Yb = 1048576 := rfl
 have hz' : m.2.1.length + (List.map (Vb (.sl Ab)) m.2.1).sum ≤ Yb := by
  have : Vb Ra m = Vb (.sl (.sl Ab)) m.2.1 := by simp only [Vb, Nat.add_zero, jq]
  rw [this] at hz; exact hz
 have hl : ∀ k (hk : k < m.2.1.length), m.2.1[k].length ≤ Yb := by
  intro k hk
  have := Xl (f := Vb (.sl Ab)) hk
  have h2 : m.2.1[k].length ≤ Vb (.sl Ab) m.2.1[k] := Nat.le_add_right _ _
  omega
 have hloop : Gf (((), (0 : Int), ()), (m, ())) =
  some (cond (Bh (fun i l => Of m.1 m.2.1.length i l) 0 m.2.1) (.inl (((), ()), (m, ()))) (.inr ((false, ()), ()))) := by
  unfold Gf
  refine Di (step := _) m.2.1 (fun i l => Of m.1 m.2.1.length i l) (fun j => (((), j, ()), (m, ()))) _ _ ?_ ?_ (by omega)
  ·intro k hk
   have := hl k hk
   simp only [Vi]
   rw [Bb (show (k : Int) < (m.2.1.length : Int) by omega), Xf hk]
   simp only [cond_true, jb, Of]
   rw [Bs m k hk (by omega)]
   show (cond (!((m.2.1[k].length : Int) == m.1)) _ _) = _
   cases ((m.2.1[k].length : Int) == m.1) <;> cases Bh (fun _ a => Gj m.2.1.length k a) 0 m.2.1[k] <;> rfl
  ·simp [Vi]
 unfold Bf
 rw [hloop]
 simp only [jb, Au, Vg, Wg, Id]
 apply Gb
 simp only [Mb, Ed, jd, decide_eq_true_eq, jo, and_false, false_or, and_true, or_false]
 generalize Bh (fun i l => Of m.1 m.2.1.length i l) 0 m.2.1 = b
 constructor
 ·rintro ⟨h1, h2, h3⟩; exact ⟨⟨by omega, by omega⟩, h1⟩
 ·rintro ⟨⟨h1, h2⟩, h5⟩; exact ⟨h5, by omega, by omega⟩
structure Ir (m : Ta) : Prop where
 k1 : 1 ≤ m.1
 k2 : m.1 ≤ 32
 l1 : 1 ≤ m.2.1.length
 l2 : m.2.1.length ≤ 4
 row : ∀ i (h : i < m.2.1.length), (m.2.1[i].length : Int) = m.1
 act : ∀ i (h : i < m.2.1.length) k (hk : k < m.2.1[i].length), Gj m.2.1.length i m.2.1[i][k] = true
theorem Du {m : Ta} (h : Ed m = true) : Ir m := by
 simp only [Ed, jd, decide_eq_true_eq] at h
 obtain ⟨⟨h1, h2⟩, h3⟩ := h
 rw [Ip] at h3
 refine ⟨h1.1, h1.2, h2.1, h2.2, fun i hi => ?_, fun i hi k hk => ?_⟩
 ·have := h3 i hi
  simp only [jq, Of, jd, beq_iff_eq] at this
  exact this.1
 ·have := h3 i hi
  simp only [jq, Of, jd, beq_iff_eq] at this
  have := Ip.1 this.2 k hk
  simpa using this
noncomputable def Eh (a : Cb) : Bool := Be a && ((a.1 == 6) || (a.1 == 7))
noncomputable def Sg (a : Cb) : Cb := cond (Eh a) (2, a.2.1, 0, 0, ()) a
theorem Uq (a : Cb) : Ji a = some (Eh a, ()) := by
 unfold Ji Eh
 rw [Jm]
 cases Be a <;> cases (a.1 == 6) <;> rfl
theorem Wq (a : Cb) : Oi a = some (Eh a, ()) := by
 unfold Oi Eh
 rw [Pm]
 cases Be a <;> cases (a.1 == 6) <;> rfl
theorem Qu (a : Cb) : Sl a = some (Sg a, ()) := by
 unfold Sl Sg
 rw [Uq]
 cases Eh a <;> rfl
theorem Uu (a : Cb) : Wl a = some (Sg a, ()) := by
 unfold Wl Sg
 rw [Wq]
 cases Eh a <;> rfl
noncomputable def Tp (c d : Int) (a : Cb) : Bool :=
 (((cond (c != 0) (Sg a) a).1 == 2) && ((cond (c != 0) (Sg a) a).2.1 == c)) && ((cond (c != 0) (Sg a) a).2.2.1 == d)
def Rp {α : Type} (p : α → Bool) : Nat → List α → Int
 | _, [] => -1
 | k, x :: xs => cond (p x) (k : Int) (Rp p (k + 1) xs)
noncomputable def Oc (m : Ta) (c d : Int) : Int := Rp (Tp c d) 0 (m.2.1.getD 0 [])
theorem RF {α : Type} {xs : List α} (h : 0 < xs.length) (d : α) : Oe xs (0 : Int) = some (xs.getD 0 d) := by
 cases xs with
 | nil => simp at h
 | cons x xs => rfl
theorem Jn {α : Type} (p : α → Bool) : ∀ (xs : List α) (k : Nat), (match Ql (fun k (_ : Unit) x => cond (p x) (.inr (k : Int)) (.inl ())) k () xs with | .inl _ => (-1 : Int) | .inr r => r) = Rp p k xs
 | [], _ => rfl
 | x :: xs, k => by
  simp only [Ql, Rp]
  cases p x with
  | true => rfl
  | false => exact Jn p xs (k + 1)
theorem Tr (c d : Int) (row : List Cb) (hn : row.length < 9223372036854775807) :
 ∃ z, Yf ((c, d, row, (row.length : Int), (0 : Int), ()), ()) = some z ∧ (match z with | .inl _ => (-1 : Int) | .inr r => r.1.1) = Rp (Tp c d) 0 row := by
 unfold Yf
 refine ⟨_, Br (step := fun x : ((Int × (Int × ((List Cb) × (Int × (Int × Unit))))) × Unit) => Th x.1.1 x.1.2.1 x.1.2.2.1 x.1.2.2.2.1 x.1.2.2.2.2.1)
  row (fun k (_ : Unit) x => cond (Tp c d x) (.inr (k : Int)) (.inl ())) (fun _ k => ((c, d, row, (row.length : Int), k, ()), ())) (fun _ => .inl ((), ())) (fun r => .inr ((r, ()), ())) (fun _ _ => True) ?_ ?_ hn () trivial, ?_⟩
 ·intro k hk s _
  refine ⟨?_, fun _ _ => trivial⟩
  simp only [Th]
  rw [Bb (show (k : Int) < (row.length : Int) by omega), Xf hk]
  simp only [cond_true, jb, Qu, Tp]
  cases (c != 0) with
  | true =>
   simp only [cond_true]
   cases ((Sg row[k]).1 == 2) <;> cases ((Sg row[k]).2.1 == c) <;> cases ((Sg row[k]).2.2.1 == d) <;> rfl
  | false =>
   simp only [cond_false]
   cases (row[k].1 == 2) <;> cases (row[k].2.1 == c) <;> cases (row[k].2.2.1 == d) <;> rfl
 ·intro s _
  simp only [Th]
  rw [Wb (by omega)]; rfl
 ·rw [← Jn]
  cases Ql (fun k (_ : Unit) x => cond (Tp c d x) (.inr (k : Int)) (.inl ())) 0 () row <;> rfl
theorem Tt {m : Ta} (hm : Ir m) (c d : Int) : Mh m c d = some (Oc m c d, ()) := by
 unfold Mh Oc
 have h1 := hm.l1
 have hk2 := hm.k2
 have hrow := hm.row 0 (by omega)
 have h0 : Oe m.2.1 (0 : Int) = some (m.2.1.getD 0 []) := RF (by omega) []
 have hlen : (m.2.1.getD 0 []).length < 9223372036854775807 := by
  have : m.2.1.getD 0 [] = m.2.1[0] := by simp [qb, show 0 < m.2.1.length by omega]
  rw [this]; omega
 rw [h0]
 simp only [jb]
 obtain ⟨z, e, hz⟩ := Tr c d _ hlen
 rw [e, ← hz]
 cases z <;> rfl
theorem Zn (m : Ta) (c d : Int) (hz : Vb Ra m ≤ Yb) : Oh m c d = some (cond (Ed m && decide (0 ≤ c ∧ c ≤ 56)) (Oc m c d) (-1), ()) := by
 unfold Oh
 have stop : (Ed m && decide (0 ≤ c ∧ c ≤ 56)) = false → Ue ((c, d, (), (0 : Int), ()), (m, ())) = some (.inl ((), ())) := by
  intro h
  unfold Ue
  rw [Zs]
  simp only [Ag, Hh m hz, Id, jb]
  by_cases h0 : 0 < m.1
  ·rw [Bb h0]
   cases hv : Ed m with
   | false => rfl
   | true => rw [hv, ji] at h; rw [h]; rfl
  ·rw [Wb h0]; rfl
 cases hc : (Ed m && decide (0 ≤ c ∧ c ≤ 56)) with
 | false => rw [stop hc]; rfl
 | true =>
  simp only [jd] at hc
  obtain ⟨hv, hcc⟩ := hc
  have hm := Du hv
  have h1 := hm.l1
  have hk2 := hm.k2
  have hrow := hm.row 0 (by omega)
  have hget : m.2.1.getD 0 [] = m.2.1[0] := by simp [qb, show 0 < m.2.1.length by omega]
  have hlen : (m.2.1.getD 0 []).length < 9223372036854775807 := by rw [hget]; omega
  have h0 : Oe m.2.1 (0 : Int) = some (m.2.1.getD 0 []) := RF (by omega) []
  have hcp : (decide (c > 0)) = (c != 0) := by
   have : 0 ≤ c ∧ c ≤ 56 := by simpa using hcc
   rw [qg]; simp; omega
  have hl := Br (step := fun x : ((Int × (Int × (Unit × (Int × Unit)))) × (Ta × Unit)) => Ag x.1.1 x.1.2.1 x.1.2.2.1 x.1.2.2.2.1 x.2.1)
   (m.2.1.getD 0 []) (fun k (_ : Unit) x => cond (Tp c d x) (.inr (k : Int)) (.inl ())) (fun _ k => ((c, d, (), k, ()), (m, ()))) (fun _ => .inl ((), ())) (fun r => .inr ((r, ()), ())) (fun _ _ => True) (by
    intro k hk s _
    refine ⟨?_, fun _ _ => trivial⟩
    have hk' : (k : Int) < m.1 := by rw [hget] at hk; omega
    simp only [Ag]
    rw [Bb hk', Hh m hz, hv, h0]
    simp only [cond_true, jb, Id, hcc, hcp]
    rw [Xf hk]
    simp only [jb, Uu, Tp]
    generalize (m.2.1.getD 0 [])[k] = a
    cases (c != 0) with
    | true =>
     simp only [cond_true]
     cases ((Sg a).1 == 2) <;> cases ((Sg a).2.1 == c) <;> cases ((Sg a).2.2.1 == d) <;> rfl
    | false =>
     simp only [cond_false]
     cases (a.1 == 2) <;> cases (a.2.1 == c) <;> cases (a.2.2.1 == d) <;> rfl) (by
    intro s _
    simp only [Ag]
    rw [Wb (by rw [hget]; omega)]; rfl) hlen () trivial
  unfold Ue
  erw [hl]
  simp only [cond_true, Oc]
  rw [← Jn]
  cases Ql (fun k (_ : Unit) x => cond (Tp c d x) (.inr (k : Int)) (.inl ())) 0 () (m.2.1.getD 0 []) <;> rfl

def Gz {X R : Type} (step : X → Option (X ⊕ R)) : Nat → X → Option R
 | 0, _ => none
 | n + 1, x => match step x with
  | some (.inl y) => Gz step n y
  | some (.inr r) => some r
  | none => none
theorem Tx {X R : Type} {step : X → Option (X ⊕ R)} : ∀ (n : Nat) {x : X} {r : R}, Gz step n x = some r → Ob step x = some r
 | 0, _, _, h => by simp [Gz] at h
 | n + 1, x, r, h => by
  unfold Gz at h
  cases hs : step x with
  | none => rw [hs] at h; simp at h
  | some z =>
   rw [hs] at h
   rw [Bc hs]
   cases z with
   | inl y => exact Tx n h
   | inr r' => exact h
def Um : List (List UInt8) := [[97], [98], [99], [100], [101], [102], [103], [104], [105], [106], [107], [108], [109], [110], [111], [112], [113], [114], [115], [116], [117], [118], [119], [120], [121], [122], [49], [50], [51], [52], [53], [54], [55], [56], [57], [48], [101, 110, 116, 101, 114], [101, 115, 99], [98, 97, 99, 107], [116, 97, 98], [115, 112, 97, 99, 101], [109, 105, 110, 117, 115], [101, 113, 117, 97, 108], [108, 101, 102, 116], [114, 105, 103, 104, 116], [117, 112], [100, 111, 119, 110], [102, 49], [102, 50], [102, 51], [102, 52], [102, 53], [102, 54], [102, 55], [102, 56], [102, 57]]
def AD : List (List UInt8) := [[], [97], [98], [99], [100], [101], [102], [103], [104], [105], [106], [107], [108], [109], [110], [111], [112], [113], [114], [115], [116], [117], [118], [119], [120], [121], [122], [49], [50], [51], [52], [53], [54], [55], [56], [57], [48], [10], [], [], [9], [32], [45], [61], [], [], [], [], [], [], [], [], [], [], [], [], []]
def BD : List (List UInt8) := [[], [65], [66], [67], [68], [69], [70], [71], [72], [73], [74], [75], [76], [77], [78], [79], [80], [81], [82], [83], [84], [85], [86], [87], [88], [89], [90], [33], [64], [35], [36], [37], [94], [38], [42], [40], [41], [10], [], [], [9], [32], [95], [43], [], [], [], [], [], [], [], [], [], [], [], [], []]
theorem Mz : Hk = some (Um, ()) := by
 unfold Hk Sk Qg
 erw [Tx 400 (r := .inl ((Um, ()), ())) (by kernel_rfl)]
 rfl
theorem Xy : strings_Split Nl [32] = some (Um, ()) := by kernel_rfl
def No (c : Int) : List UInt8 := cond (decide (1 ≤ c ∧ c ≤ 56)) (Um.getD (c - 1).toNat []) []
theorem Yz : Um.length = 56 := by decide +kernel
theorem Ox {c : Int} (h : 1 ≤ c ∧ c ≤ 56) : Um[(c - 1).toNat]? = some (No c) ∧ Kk Um.length (c - 1) = true := by
 have hl : (c - 1).toNat < Um.length := by rw [Yz]; omega
 constructor
 ·unfold No
  rw [Bb h, cond_true, qb, je hl]; rfl
 ·have : c - 1 = (((c - 1).toNat : Nat) : Int) := by omega
  rw [this, Lx]; exact Bb hl
theorem Im (c : Int) : Wa c = some (No c, ()) := by
 unfold Wa
 by_cases h1 : c < 1
 ·rw [Bb h1]; unfold No; rw [Wb (show ¬ (1 ≤ c ∧ c ≤ 56) by omega)]; rfl
 rw [Wb h1]
 by_cases h2 : c > 56
 ·rw [Bb h2]; unfold No; rw [Wb (show ¬ (1 ≤ c ∧ c ≤ 56) by omega)]; rfl
 rw [Wb h2, Xy]
 obtain ⟨e1, e2⟩ := Ox (c := c) (by omega)
 simp only [cond_false, jb]
 rw [Iq (by omega) (by omega), e1, e2]
 rfl
theorem Om (c : Int) : Af c = some (No c, ()) := by
 unfold Af
 rw [Id]
 by_cases h : 1 ≤ c ∧ c ≤ 56
 ·rw [Bb h, Mz]
  obtain ⟨e1, e2⟩ := Ox h
  simp only [jg, cond_false, jb]
  rw [Iq (by omega) (by omega), e1, e2]
  rfl
 ·rw [Wb h]; unfold No; rw [Wb h]; rfl
def Hg (c m : Int) : List UInt8 := cond (m == 0) (AD.getD c.toNat []) (cond (m == 2) (BD.getD c.toNat []) [])
theorem Pv {c : Int} (h : ¬ (1 ≤ c ∧ c ≤ 56)) (m : Int) : Hg c m = [] := by
 have h0 : AD.getD c.toNat [] = [] ∧ BD.getD c.toNat [] = [] := by
  by_cases hc : c < 1
  ·rw [show c.toNat = 0 by omega]; exact ⟨rfl, rfl⟩
  ·have l0 : AD.length = 57 := by decide +kernel
   have l2 : BD.length = 57 := by decide +kernel
   rw [qb, qb, List.getElem?_eq_none (by omega), List.getElem?_eq_none (by omega)]
   exact ⟨rfl, rfl⟩
 unfold Hg
 rw [h0.1, h0.2]
 cases m == 0 <;> cases m == 2 <;> rfl
theorem Vy : ∀ c : Fin 57, Qe (c.val : Int) 0 = some (Hg c.val 0, ()) := by
 intro c
 simp only [Qe, Lf, Im, jb]
 revert c
 decide +kernel
theorem Wy : ∀ c : Fin 57, Qe (c.val : Int) 2 = some (Hg c.val 2, ()) := by
 intro c
 simp only [Qe, Lf, Im, jb]
 revert c
 decide +kernel
theorem Kz : ∀ c : Fin 57, Se (c.val : Int) 0 = some (Hg c.val 0, ()) := by
 intro c
 simp only [Se, Id, Om, jb]
 revert c
 decide +kernel
theorem Lz : ∀ c : Fin 57, Se (c.val : Int) 2 = some (Hg c.val 2, ()) := by
 intro c
 simp only [Se, Id, Om, jb]
 revert c
 decide +kernel
theorem Sn (c m : Int) : Qe c m = some (Hg c m, ()) := by
 by_cases hc : 1 ≤ c ∧ c ≤ 56
 ·by_cases h0 : m = 0
  ·subst h0
   have := Vy ⟨c.toNat, by omega⟩
   rwa [show ((⟨c.toNat, by omega⟩ : Fin 57).val : Int) = c by show ((c.toNat : Nat) : Int) = c; omega] at this
  ·by_cases h2 : m = 2
   ·subst h2
    have := Wy ⟨c.toNat, by omega⟩
    rwa [show ((⟨c.toNat, by omega⟩ : Fin 57).val : Int) = c by show ((c.toNat : Nat) : Int) = c; omega] at this
   ·have e : Hg c m = [] := by
     unfold Hg
     rw [show (m == 0) = false by simpa using h0, show (m == 2) = false by simpa using h2]; rfl
    rw [e]
    unfold Qe
    rw [Lf, Bb hc, show (m != 0) = true by simpa using h0, show (m != 2) = true by simpa using h2]
    rfl
 ·rw [Pv hc]
  unfold Qe
  rw [Lf, Wb hc]
  rfl
theorem FC : ∀ m : Fin 16, m.val ≠ 0 → m.val ≠ 2 → (Dv .i64 (m.val : Int) 2 != 0) = true := by decide +kernel
theorem Yn (c m : Int) : Se c m = some (Hg c m, ()) := by
 by_cases hc : 1 ≤ c ∧ c ≤ 56
 ·by_cases h0 : m = 0
  ·subst h0
   have := Kz ⟨c.toNat, by omega⟩
   rwa [show ((⟨c.toNat, by omega⟩ : Fin 57).val : Int) = c by show ((c.toNat : Nat) : Int) = c; omega] at this
  ·by_cases h2 : m = 2
   ·subst h2
    have := Lz ⟨c.toNat, by omega⟩
    rwa [show ((⟨c.toNat, by omega⟩ : Fin 57).val : Int) = c by show ((c.toNat : Nat) : Int) = c; omega] at this
   ·have e : Hg c m = [] := by
     unfold Hg
     rw [show (m == 0) = false by simpa using h0, show (m == 2) = false by simpa using h2]; rfl
    rw [e]
    unfold Se
    rw [Id, Bb hc, Id]
    by_cases hm : 0 ≤ m ∧ m ≤ 15
    ·have := FC ⟨m.toNat, by omega⟩ (by show m.toNat ≠ 0; omega) (by show m.toNat ≠ 2; omega)
     rw [show ((⟨m.toNat, by omega⟩ : Fin 16).val : Int) = m by show ((m.toNat : Nat) : Int) = m; omega] at this
     rw [Bb hm, this]
     rfl
    ·rw [Wb hm]; rfl
 ·rw [Pv hc]
  unfold Se
  rw [Id, Wb hc]
  rfl
def Pf (s : List UInt8) (m : Int) : Nat → Nat → Option Nat
 | 0, _ => none
 | n + 1, c => cond (Hg (c : Int) m == s) (some c) (Pf s m n (c + 1))
def Eb (ch : Int) : Ie :=
 match Pf (Xd [ch]) 0 56 1 with
 | some k => ((k : Int), 0, ())
 | none => match Pf (Xd [ch]) 2 56 1 with
  | some k => ((k : Int), 2, ())
  | none => (0, 0, ())
theorem Ml (ch m : Int) : ∀ (n c : Nat), c + n = 57 → Lc ((ch, m, (c : Int), ()), ()) = some (match Pf (Xd [ch]) m n c with | some k => .inr (((k : Int), m, ()), ()) | none => .inl ((ch, m, ()), ()))
 | 0, c, h => by
  have hs : Me ch m (c : Int) = some (.inr (.inl ((ch, m, ()), ()))) := by
   unfold Me
   rw [Wb (by omega)]; rfl
  unfold Lc
  rw [Bc hs]
  rfl
 | n + 1, c, h => by
  cases hb : (Hg (c : Int) m == Xd [ch]) with
  | true =>
   have hs : Me ch m (c : Int) = some (.inr (.inr (((c : Int), m, ()), ()))) := by
    unfold Me
    rw [Bb (by omega), Yn]
    simp only [cond_true, jb, hb]
   unfold Lc
   rw [Bc hs]
   simp only [Pf, hb, cond_true]
   rfl
  | false =>
   have hs : Me ch m (c : Int) = some (.inl ((ch, m, ((c + 1 : Nat) : Int), ()), ())) := by
    unfold Me
    rw [Bb (by omega), Yn, Ii (by omega)]
    simp only [cond_true, jb, hb]
    rfl
   have ih := Ml ch m n (c + 1) (by omega)
   unfold Lc at ih ⊢
   rw [Bc hs]
   simp only [Pf, hb, cond_false]
   exact ih
theorem Ll (ch m : Int) (l : List Int) (u v : Int) : ∀ (n c : Nat), c + n = 57 → Kc ((ch, m, (c : Int), l, u, v, ()), ()) = some (match Pf (Xd [ch]) m n c with | some k => .inr (((k : Int), m, ()), ()) | none => .inl ((ch, l, u, v, ()), ()))
 | 0, c, h => by
  have hs : Je ch m (c : Int) l u v = some (.inr (.inl ((ch, l, u, v, ()), ()))) := by
   unfold Je
   rw [Wb (by omega)]; rfl
  unfold Kc
  rw [Bc hs]
  rfl
 | n + 1, c, h => by
  cases hb : (Hg (c : Int) m == Xd [ch]) with
  | true =>
   have hs : Je ch m (c : Int) l u v = some (.inr (.inr (((c : Int), m, ()), ()))) := by
    unfold Je
    rw [Bb (by omega), Sn]
    simp only [cond_true, jb, hb]
   unfold Kc
   rw [Bc hs]
   simp only [Pf, hb, cond_true]
   rfl
  | false =>
   have hs : Je ch m (c : Int) l u v = some (.inl ((ch, m, ((c + 1 : Nat) : Int), l, u, v, ()), ())) := by
    unfold Je
    rw [Bb (by omega), Sn, Ii (by omega)]
    simp only [cond_true, jb, hb]
    rfl
   have ih := Ll ch m l u v n (c + 1) (by omega)
   unfold Kc at ih ⊢
   rw [Bc hs]
   simp only [Pf, hb, cond_false]
   exact ih
theorem Ap (ch : Int) : Vl ch = some (Eb ch) := by
 have i0 := Ml ch 0 56 1 rfl
 have i2 := Ml ch 2 56 1 rfl
 unfold Vl Eb
 unfold Xi
 cases h0 : Pf (Xd [ch]) 0 56 1 with
 | some k =>
  rw [h0] at i0
  have hs : Wc ch 0 = some (.inr (.inr (((k : Int), 0, ()), ()))) := by
   unfold Wc
   rw [Bb (by omega), show Lc ((ch, 0, (1 : Int), ()), ()) = _ from i0]; rfl
  rw [Bc hs]; rfl
 | none =>
  rw [h0] at i0
  have hs : Wc ch 0 = some (.inl ((ch, 2, ()), ())) := by
   unfold Wc
   rw [Bb (by omega), show Lc ((ch, 0, (1 : Int), ()), ()) = _ from i0]; rfl
  rw [Bc hs]
  cases h2 : Pf (Xd [ch]) 2 56 1 with
  | some k =>
   rw [h2] at i2
   have hs2 : Wc ch 2 = some (.inr (.inr (((k : Int), 2, ()), ()))) := by
    unfold Wc
    rw [Bb (by omega), show Lc ((ch, 2, (1 : Int), ()), ()) = _ from i2]; rfl
   show jv (Ob _ ((ch, 2, ()), ())) _ = _
   rw [Bc hs2]; rfl
  | none =>
   rw [h2] at i2
   have hs2 : Wc ch 2 = some (.inl ((ch, 4, ()), ())) := by
    unfold Wc
    rw [Bb (by omega), show Lc ((ch, 2, (1 : Int), ()), ()) = _ from i2]; rfl
   have hs4 : Wc ch 4 = some (.inr (.inl ((), ()))) := by
    unfold Wc
    rw [Wb (by omega)]; rfl
   show jv (Ob _ ((ch, 2, ()), ())) _ = _
   rw [Bc hs2]
   show jv (Ob _ ((ch, 4, ()), ())) _ = _
   rw [Bc hs4]; rfl
theorem Pu (ch : Int) : Rl ch = some (Eb ch) := by
 have i0 := Ll ch 0 [0, 2] 2 0 56 1 rfl
 have i2 := Ll ch 2 [0, 2] 2 1 56 1 rfl
 unfold Rl Eb
 unfold Ui
 cases h0 : Pf (Xd [ch]) 0 56 1 with
 | some k =>
  rw [h0] at i0
  have hs : Uc ch [0, 2] 2 0 = some (.inr (.inr (((k : Int), 0, ()), ()))) := by
   unfold Uc
   show jv (Kc ((ch, 0, ((1 : Nat) : Int), [0, 2], 2, 0, ()), ())) _ = _
   rw [i0]; rfl
  show jv (Ob _ ((ch, [0, 2], 2, 0, ()), ())) _ = _
  rw [Bc hs]; rfl
 | none =>
  rw [h0] at i0
  have hs : Uc ch [0, 2] 2 0 = some (.inl ((ch, [0, 2], 2, 1, ()), ())) := by
   unfold Uc
   show jv (Kc ((ch, 0, ((1 : Nat) : Int), [0, 2], 2, 0, ()), ())) _ = _
   rw [i0]; rfl
  show jv (Ob _ ((ch, [0, 2], 2, 0, ()), ())) _ = _
  rw [Bc hs]
  cases h2 : Pf (Xd [ch]) 2 56 1 with
  | some k =>
   rw [h2] at i2
   have hs2 : Uc ch [0, 2] 2 1 = some (.inr (.inr (((k : Int), 2, ()), ()))) := by
    unfold Uc
    show jv (Kc ((ch, 2, ((1 : Nat) : Int), [0, 2], 2, 1, ()), ())) _ = _
    rw [i2]; rfl
   show jv (Ob _ ((ch, [0, 2], 2, 1, ()), ())) _ = _
   rw [Bc hs2]; rfl
  | none =>
   rw [h2] at i2
   have hs2 : Uc ch [0, 2] 2 1 = some (.inl ((ch, [0, 2], 2, 2, ()), ())) := by
    unfold Uc
    show jv (Kc ((ch, 2, ((1 : Nat) : Int), [0, 2], 2, 1, ()), ())) _ = _
    rw [i2]; rfl
   have hs4 : Uc ch [0, 2] 2 2 = some (.inr (.inl ((), ()))) := by
    unfold Uc
    rfl
   show jv (Ob _ ((ch, [0, 2], 2, 1, ()), ())) _ = _
   rw [Bc hs2]
   show jv (Ob _ ((ch, [0, 2], 2, 2, ()), ())) _ = _
   rw [Bc hs4]; rfl
theorem Qr {s : List UInt8} {m : Int} : ∀ {n c k : Nat}, Pf s m n c = some k → c ≤ k ∧ k < c + n
 | 0, _, _, h => by simp [Pf] at h
 | n + 1, c, k, h => by
  simp only [Pf] at h
  cases hb : (Hg (c : Int) m == s) with
  | true => rw [hb] at h; simp at h; omega
  | false =>
   rw [hb] at h
   have := Qr (n := n) (c := c + 1) h
   omega
theorem DC (ch : Int) : 0 ≤ (Eb ch).1 ∧ (Eb ch).1 ≤ 56 := by
 unfold Eb
 cases h0 : Pf (Xd [ch]) 0 56 1 with
 | some k => have := Qr h0; exact ⟨by show (0 : Int) ≤ (k : Int); omega, by show (k : Int) ≤ 56; omega⟩
 | none =>
  cases h2 : Pf (Xd [ch]) 2 56 1 with
  | some k => have := Qr h2; exact ⟨by show (0 : Int) ≤ (k : Int); omega, by show (k : Int) ≤ 56; omega⟩
  | none => exact ⟨by decide, by decide⟩
noncomputable def Fm (m : Ta) (ch t : Int) : List Nn :=
 cond ((Eb ch).1 == 0) []
  (cond (decide (Oc m (Eb ch).1 (Eb ch).2.1 ≥ 0)) [(t, Oc m (Eb ch).1 (Eb ch).2.1, true, ()), (t, Oc m (Eb ch).1 (Eb ch).2.1, false, ())]
   (cond ((Eb ch).2.1 == 0 || decide (Oc m (Eb ch).1 0 < 0) || decide (Oc m 0 (Eb ch).2.1 < 0)) []
    [(t, Oc m 0 (Eb ch).2.1, true, ()), (t, Oc m (Eb ch).1 0, true, ()), (t, Oc m (Eb ch).1 0, false, ()), (t, Oc m 0 (Eb ch).2.1, false, ())]))
noncomputable def Ak (m : Ta) (ch : Int) : Bool :=
 cond ((Eb ch).1 == 0) false
  (cond (decide (Oc m (Eb ch).1 (Eb ch).2.1 ≥ 0)) true
   (cond ((Eb ch).2.1 == 0 || decide (Oc m (Eb ch).1 0 < 0) || decide (Oc m 0 (Eb ch).2.1 < 0)) false true))
theorem Py (m : Ta) (ch t : Int) : (Fm m ch t).length ≤ 4 ∧ (((ja (Fm m ch t) : Nat) : Int) == 0) = !Ak m ch := by
 unfold Fm Ak
 cases (Eb ch).1 == 0 with
 | true => exact ⟨by simp, by simp⟩
 | false =>
  cases decide (Oc m (Eb ch).1 (Eb ch).2.1 ≥ 0) with
  | true => exact ⟨by simp, by simp⟩
  | false =>
   cases ((Eb ch).2.1 == 0 || decide (Oc m (Eb ch).1 0 < 0) || decide (Oc m 0 (Eb ch).2.1 < 0)) with
   | true => exact ⟨by simp, by simp⟩
   | false => exact ⟨by simp, by simp⟩
theorem Vq {m : Ta} (hm : Ir m) (ch t : Int) : Ki m ch t = some (Fm m ch t, Ak m ch, ()) := by
 unfold Ki Fm Ak
 rw [Pu]
 simp only [jb, Tt hm]
 cases (Eb ch).1 == 0 with
 | true => rfl
 | false =>
  cases decide (Oc m (Eb ch).1 (Eb ch).2.1 ≥ 0) with
  | true => rfl
  | false => cases (Eb ch).2.1 == 0 <;> cases decide (Oc m (Eb ch).1 0 < 0) <;> cases decide (Oc m 0 (Eb ch).2.1 < 0) <;> rfl
theorem Ht {m : Ta} (hz : Vb Ra m ≤ Yb) (hv : Ed m = true) (ch t : Int) : Rg m ch t = some (Fm m ch t, ()) := by
 have hb := DC ch
 unfold Rg Fm
 rw [Ap]
 simp only [jb, Zn _ _ _ hz, hv, Bb hb, Bb (show (0 : Int) ≤ 0 ∧ (0 : Int) ≤ 56 by omega), Bool.and_self, cond_true]
 cases (Eb ch).1 == 0 with
 | true => rfl
 | false =>
  cases decide (Oc m (Eb ch).1 (Eb ch).2.1 ≥ 0) with
  | true => rfl
  | false => cases (Eb ch).2.1 == 0 <;> cases decide (Oc m (Eb ch).1 0 < 0) <;> cases decide (Oc m 0 (Eb ch).2.1 < 0) <;> rfl
theorem Gt {m : Ta} (hz : Vb Ra m ≤ Yb) (hv : Ed m = false) (ch t : Int) : Rg m ch t = some ([], ()) := by
 unfold Rg
 rw [Ap]
 simp only [jb, Zn _ _ _ hz, hv, Bool.false_and, cond_false]
 cases (Eb ch).1 == 0 <;> rfl
noncomputable def Pt (m : Ta) (s : List UInt8) : Bool := Bh (fun _ (c : UInt8) => Ak m ((c.toNat : Nat) : Int)) 0 s
theorem Us (m : Ta) (s : List UInt8) (hz : Vb Ra m ≤ Yb) (hn : s.length ≤ Yb) : Ci m s = some (Ed m && Pt m s, ()) := by
 have h20 : Yb = 1048576 := rfl
 unfold Ci
 rw [Sr m hz]
 cases hv : Ed m with
 | false => rfl
 | true =>
  have hm := Du hv
  have hl := Di (step := fun x : (((List UInt8) × (Unit × (Int × Unit))) × (Ta × Unit)) => Ch x.1.1 x.1.2.1 x.1.2.2.1 x.2.1) s (fun _ (c : UInt8) => Ak m ((c.toNat : Nat) : Int))
   (fun i => ((s, (), i, ()), (m, ()))) (.inl ((), ())) (.inr ((false, ()), ())) (by
   intro k hk
   simp only [Ch]
   rw [Bb (show (k : Int) < ((ja s : Nat) : Int) by omega), Xf hk]
   simp only [cond_true, jb, Vq hm]
   cases Ak m ((s[k].toNat : Nat) : Int) <;> rfl) (by
   simp only [Ch]
   rw [Wb (by omega)]; rfl) (by omega)
  unfold Qh
  simp only [jb, jg, cond_false]
  erw [hl]
  show jv (some (cond (Pt m s) _ _)) _ = _
  cases Pt m s <;> rfl
theorem Ft (m : Ta) (s : List UInt8) (hz : Vb Ra m ≤ Yb) (hn : s.length ≤ Yb) : Gi m s = some (Ed m && Pt m s, ()) := by
 have h20 : Yb = 1048576 := rfl
 unfold Gi
 cases hv : Ed m with
 | false =>
  have hl := Di (step := fun x : (((List UInt8) × (Unit × (Int × Unit))) × (Ta × Unit)) => Td x.1.1 x.1.2.1 x.1.2.2.1 x.2.1) s (fun _ (c : UInt8) => false)
   (fun i => ((s, (), i, ()), (m, ()))) (.inl (((), ()), (m, ()))) (.inr ((false, ()), ())) (by
   intro k hk
   simp only [Td]
   rw [Bb (show (k : Int) < ((ja s : Nat) : Int) by omega), Xf hk]
   simp only [cond_true, jb, Gt hz hv]
   rfl) (by
   simp only [Td]
   rw [Wb (by omega)]; rfl) (by omega)
  unfold Rf
  erw [hl]
  cases Bh (fun _ (c : UInt8) => false) 0 s with
  | false => rfl
  | true =>
   show jv (Bf m) _ = _
   rw [Hh m hz, hv]; rfl
 | true =>
  have hl := Di (step := fun x : (((List UInt8) × (Unit × (Int × Unit))) × (Ta × Unit)) => Td x.1.1 x.1.2.1 x.1.2.2.1 x.2.1) s (fun _ (c : UInt8) => Ak m ((c.toNat : Nat) : Int))
   (fun i => ((s, (), i, ()), (m, ()))) (.inl (((), ()), (m, ()))) (.inr ((false, ()), ())) (by
   intro k hk
   simp only [Td]
   rw [Bb (show (k : Int) < ((ja s : Nat) : Int) by omega), Xf hk]
   simp only [cond_true, jb, Ht hz hv, (Py m _ _).2]
   cases Ak m ((s[k].toNat : Nat) : Int) <;> rfl) (by
   simp only [Td]
   rw [Wb (by omega)]; rfl) (by omega)
  unfold Rf
  erw [hl]
  show jv (some (cond (Pt m s) _ _)) _ = _
  cases Pt m s with
  | false => rfl
  | true =>
   show jv (Bf m) _ = _
   rw [Hh m hz, hv]; rfl
theorem Gv (m : Ta) (s : List UInt8) (_ : Wj Ra m) (_ : Wj .s s) (hz : Vb Ra m ≤ Yb) (hs : Vb .s s ≤ Yb) : ∃ w, Gi m s = some (w, ()) ∧ Ci m s = some (w, ()) :=
 ⟨_, Ft m s hz hs, Us m s hz hs⟩
theorem Uw (a0 : Ta) (a1 : (List UInt8)) (hr0 : Wj Ra a0) (hr1 : Wj .s a1) : Qf a0 a1 = some (true, ()) := by
 have h20 : Yb = 1048576 := rfl
 have h40 : Wk = 1099511627776 := rfl
 unfold Qf
 by_cases l1 : ((ja a1 : Nat) : Int) > 1048576
 ·rw [Bb l1]; rfl
 rw [Wb l1]
 simp only [cond_false]
 have s0 := Ax a0 hr0 (1048576) (by omega)
 rw [show ((1048576 : Nat) : Int) = 1048576 from rfl] at s0
 rw [s0]
 simp only [jb]
 by_cases z0 : Vb Ra a0 ≤ 1048576
 case neg => rw [Qm z0]; rfl
 rw [Ao z0, Wb (by omega)]
 simp only [cond_false]
 have hz0 : Vb Ra a0 ≤ Yb := by omega
 have hz1 : Vb .s a1 ≤ Yb := by show ja a1 ≤ Yb; omega
 obtain ⟨w0, e1, e2⟩ := Gv a0 a1 hr0 hr1 hz0 hz1
 simp only [e1, e2, Cx a0 hz0, Sw a0 (by omega), jb, bne_self_eq_false', jg, cond_false]
end KF
