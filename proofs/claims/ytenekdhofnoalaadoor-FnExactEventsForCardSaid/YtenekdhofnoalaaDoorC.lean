/- An evaluator of Go functions on plain data, its soundness, and plain laws on what the functions compute, part 3 (conditions: as each lemma tells). -/
import Derived.Test.YtenekdhofnoalaaDoorB
import Derived.LoopN
import Derived.ChangeArms
import Derived.ChangeStays
import Derived.ChangeSame
import Derived.WideShapes
import Derived.RowKit
import Derived.Handed
import Derived.JoinedOf
import Derived.Lib.Split
import Derived.Lib.Join
import Derived.Lib.ItoaNum
import Derived.Shelf.Sort.Plain
import Derived.Shelf.Slices.In.SortNone2
import Derived.Shelf.LaysM
import Derived.Shelf.Strings.Split
import Derived.Shelf.Strings.OnBuilder
import Derived.Shelf.Strconv.Itoa3
import Derived.LaidLaws
import Derived.LaidHandle
import Derived.Lib.LaidTab
import Derived.IntWalk
set_option linter.unusedSimpArgs false
set_option linter.unusedVariables false
namespace KF
open Go
open List renaming length → ja, getElem?_eq_getElem → je, append → jf, mem_append → jl, mem_cons → jp, mem_cons_of_mem → jr, length_cons → jv, set → j4, length_set → j6, mem_singleton → qa, length_append → qb, getElem?_append_left → qd, getElem?_append_right → qe, getD_eq_getElem?_getD → qf, mem_map → qi, getElem?_set_self → qj, length_drop → qk
open Option renaming bind_some → jb, bind → jy, map_some → j9, bind_eq_some_iff → qc
open Option.some renaming injEq → jc
open Bool renaming and_eq_true → jd, not_true → jg, true_and → jk, false_eq_true → jq, not_eq_true → j7, eq_iff_iff → ql
open Prod.mk renaming injEq → jh
open Nat renaming ble_eq_true_of_le → ji, mul_le_mul_right → jm, le_refl → jo, zero_add → js, add_assoc → jt, eq_of_beq_eq_true → ju, ble → jw, le_trans → j8, lt_of_lt_of_le → qh
open Int renaming toNat_natCast → jn, toNat → jx
open Go.IntKind renaming wrap → jz
open Sum renaming elim → j5, elim_inl → qg
open Result renaming andThen_ok → qm
open Sem renaming run_bind → qn
theorem YB {s : AS} : ∀ {td : TD} {d : D} {x : T td.ty} {m : Oe}, Gc s td d = some (x, m) → (Wh td x).isAgg = d.isAgg := by
 intro td
 cases td with
 | data τ =>
  intro d x m h
  simp only [Gc] at h
  split at h
  ·rename_i y hy
   simp only [jc, jh] at h
   obtain ⟨rfl, _⟩ := h
   have hs := (Wd (w := default) (σ := fun _ => undef) (O := fun _ => False) (hp := fun _ => none) hy).1
   rw [hs.isAgg]
   cases τ <;> rfl
  ·simp at h
 | own id e dp =>
  intro d x m h
  cases d <;> simp [Gc] at h <;> rfl
 | ptr id p =>
  intro d x m h
  cases d <;> simp [Gc] at h <;> rfl
 | hol id e p τ td =>
  intro d x m h
  cases d <;> simp [Gc] at h <;> rfl
 | arr id e =>
  intro d x m h
  cases d <;> first | rfl | (simp [Gc] at h; done)
 | mov id e =>
  intro d x m h
  cases d <;> simp [Gc] at h <;> rfl
 | pr a b =>
  intro d x m h
  simp only [Gc] at h
  cases d with
  | t τ v => cases τ <;> simp [D.fst] at h <;> rfl
  | pr u v => rfl
  | _ => simp [D.fst] at h
 | un =>
  intro d x m h
  simp only [Gc] at h
  split at h
  ·rename_i y hy
   have hs := (Wd (w := default) (σ := fun _ => undef) (O := fun _ => False) (hp := fun _ => none) hy).1
   rw [hs.isAgg]
   rfl
  ·simp at h
def Fq (m m' : Oe) : Prop := ∀ p, p ∈ m → p ∈ m'
section
variable {w : World} {s : AS} {σ σ' : Nat → Value} {O O' : Nat → Prop} {hp' : Nat → Option Ca} {m : Oe}
structure WH (s : AS) (σ σ' : Nat → Value) (hp' : Nat → Option Ca) (m : Oe) : Prop where
 isS : ∀ j i, (j, some i) ∈ m → σ' j = σ i
 isN : ∀ j, (j, none) ∈ m → σ' j = .slice none 0 0
 isB : ∀ j i ρ d, (j, some i) ∈ m → hp' j = some (.box ρ d) → ∃ d', s.heap i = some (.box ρ d')
 isR : ∀ j i blk r, (j, some i) ∈ m → hp' j = some blk → blk.rowN = some r → ∃ blk', s.heap i = some blk' ∧ blk'.rowN = some r
theorem Vr (hT : WH s σ σ' hp' m) (hO : ∀ b, b < w.heap.size → ¬ O b → ¬ O' b) : ∀ {td : TD} {d : D} {x : T td.ty} {m0 : Oe} {cs : List Value}, Gc s td d = some (x, m0) → Fq m0 m → Ha w O s.heap σ d cs →
 Ha w O' hp' σ' (Wh td x) cs := by
 intro td
 induction td with
 | data τ =>
  intro d x m0 cs h hm hr
  simp only [Gc] at h
  split at h
  ·rename_i y hy
   simp only [jc, jh] at h
   obtain ⟨rfl, _⟩ := h
   exact Ia.stable (fun _ _ _ => rfl) hO ((Wd hy).2 _ hr)
  ·simp at h
 | own id' e dp =>
  intro d x m0 cs h hm hr
  cases d with
  | own id =>
   simp only [Gc] at h
   split at h
   ·rename_i e' dp' xs hb
    split at h
    ·rename_i q hq
     subst q
     simp only [Aa] at h
     obtain ⟨_, h⟩ := h
     simp only [jc, jh] at h
     obtain ⟨rfl, rfl⟩ := h
     obtain ⟨v, hcs, h1, hv⟩ := hr
     refine ⟨v, hcs, h1, fun _ _ _ _ => ?_⟩
     rw [hT.isS id' id (hm _ (by simp))]
     exact hv _ _ hb rfl
    ·simp at h
   ·simp at h
  | nil =>
   simp only [Gc, jc, jh] at h
   obtain ⟨rfl, rfl⟩ := h
   simp only [Ha] at hr
   exact ⟨_, hr, rfl, fun _ _ _ _ => (hT.isN id' (hm _ (by simp))).symm⟩
  | _ => simp [Gc] at h
 | hol id' e p τ td _ =>
  intro d x m0 cs h hm hr
  cases d with
  | own id =>
   simp only [Gc] at h
   split at h
   ·rename_i e' xs i x1 p' τ' d' hb
    split at h
    ·simp only [Aa] at h
     obtain ⟨_, h⟩ := h
     split at h
     ·rename_i y m1 h1
      simp only [Aa] at h
      obtain ⟨_, h⟩ := h
      simp only [jc, jh] at h
      obtain ⟨rfl, rfl⟩ := h
      obtain ⟨v, hcs, h1, hv⟩ := hr
      refine ⟨v, hcs, h1, fun _ _ _ _ => ?_⟩
      rw [hT.isS id' id (hm _ (by simp))]
      exact hv _ _ hb rfl
     ·simp at h
    ·simp at h
   ·simp at h
  | _ => simp [Gc] at h
 | arr id' e =>
  intro d x m0 cs h hm hr
  cases d with
  | eptr id i q =>
   cases i with
   | succ i => simp [Gc] at h
   | zero =>
    cases q with
    | cons _ _ => simp [Gc] at h
    | nil =>
     simp only [Gc] at h
     split at h
     ·rename_i e' xs hb
      split at h
      ·rename_i q hq
       subst q
       simp only [jc, jh] at h
       obtain ⟨rfl, rfl⟩ := h
       obtain ⟨v, hcs, h1, hv⟩ := hr
       refine ⟨v, hcs, h1, fun blk' e2 n2 hb' hr' => ?_⟩
       obtain ⟨blk0, hb0, hr0⟩ := hT.isR id' id blk' _ (hm _ (by simp)) hb' hr'
       rw [hT.isS id' id (hm _ (by simp))]
       exact hv _ _ _ hb0 hr0
      ·simp at h
     ·simp at h
  | _ => simp [Gc] at h
 | mov id' e =>
  intro d x m0 cs h hm hr
  cases d with
  | own id =>
   simp only [Gc] at h
   split at h
   ·rename_i e' xs hb
    split at h
    ·rename_i q hq
     subst q
     simp only [jc, jh] at h
     obtain ⟨rfl, rfl⟩ := h
     obtain ⟨v, hcs, h1, hv⟩ := hr
     refine ⟨v, hcs, h1, fun _ _ _ _ => ?_⟩
     rw [hT.isS id' id (hm _ (by simp))]
     exact hv _ _ hb rfl
    ·simp at h
   ·rename_i e' xs k hb
    split at h
    ·rename_i q hq
     subst q
     simp only [jc, jh] at h
     obtain ⟨rfl, rfl⟩ := h
     obtain ⟨v, hcs, h1, hv⟩ := hr
     refine ⟨v, hcs, h1, fun _ _ _ _ => ?_⟩
     rw [hT.isS id' id (hm _ (by simp))]
     exact hv _ _ hb rfl
    ·simp at h
   ·simp at h
  | _ => simp [Gc] at h
 | ptr id' p =>
  intro d x m0 cs h hm hr
  cases d with
  | ptr id q =>
   simp only [Gc, Aa] at h
   obtain ⟨hpq, h⟩ := h
   simp only [jc, jh] at h
   obtain ⟨_, rfl⟩ := h
   have hpq' : p = q := by simpa using hpq
   subst hpq'
   obtain ⟨v, hcs, h1, hv⟩ := hr
   refine ⟨v, hcs, h1, fun ρ d hb => ?_⟩
   obtain ⟨d', hd'⟩ := hT.isB id' id ρ d (hm _ (by simp)) hb
   rw [hT.isS id' id (hm _ (by simp))]
   exact hv ρ d' hd'
  | _ => simp [Gc] at h
 | pr a b iha ihb =>
  intro d x m0 cs h hm hr
  simp only [Gc] at h
  split at h
  ·rename_i d1 d2 h1 h2
   split at h
   ·rename_i u l v l' h3 h4
    simp only [jc, jh] at h
    obtain ⟨rfl, rfl⟩ := h
    have key : ∃ c1 c2, cs = c1 ++ c2 ∧ Ha w O s.heap σ d1 c1 ∧ Ha w O s.heap σ d2 c2 := by
     cases d with
     | t τ v =>
      cases τ with
      | p t1 t2 =>
       simp only [D.fst, D.snd, jc] at h1 h2
       subst h1; subst h2
       exact hr
      | _ => simp [D.fst] at h1
     | pr d1' d2' =>
      simp only [D.fst, D.snd, jc] at h1 h2
      subst h1; subst h2
      exact hr
     | _ => simp [D.fst] at h1
    obtain ⟨c1, c2, hc, r1, r2⟩ := key
    exact ⟨c1, c2, hc, iha h3 (fun p hp => hm p (List.mem_append_left _ hp)) r1, ihb h4 (fun p hp => hm p (List.mem_append_right _ hp)) r2⟩
   ·simp at h
  ·simp at h
 | un =>
  intro d x m0 cs h hm hr
  simp only [Gc] at h
  split at h
  ·rename_i y hy
   exact (Wd hy).2 _ hr
  ·simp at h
theorem GE (hT : WH s σ σ' hp' m) (hO : ∀ b, b < w.heap.size → ¬ O b → ¬ O' b) {td : TD} {d : D} {x : T td.ty} {m0 : Oe} {v : Value} (h : Gc s td d = some (x, m0)) (hm : Fq m0 m) (hr : Ob w O s.heap σ d v) :
 Ob w O' hp' σ' (Wh td x) v := by
 have hne : Jc w O s.heap σ d v := by
  cases d with
  | und => cases td <;> simp [Gc, Df, D.fst] at h
  | anyv => cases td <;> simp [Gc, Df, D.fst] at h
  | tup ds => cases td <;> simp [Gc, Df, D.fst] at h
  | _ => exact hr
 refine Ll ?_
 unfold Jc at hne ⊢
 rw [YB h]
 split
 ·rename_i ha
  rw [if_pos ha] at hne
  obtain ⟨cs, h1, h2⟩ := hne
  exact ⟨cs, h1, Vr hT hO h hm h2⟩
 ·rename_i ha
  rw [if_neg ha] at hne
  exact Vr hT hO h hm hne
def Pw (s : AS) (m : Oe) (j : Nat) (blk : Ca) : Prop :=
 ((j, none) ∈ m ∧ ∃ e dp, blk = .row e dp ([] : List (T e))) ∨
 ∃ i, (j, some i) ∈ m ∧ ((∃ e dp dp' xs, blk = .row e dp xs ∧ s.heap i = some (.row e dp' xs) ∧ (dp' = dp ∨ e.flat = true)) ∨
  (∃ ρ d td x m0, blk = .box ρ (Wh td x) ∧ s.heap i = some (.box ρ d) ∧ Gc s td d = some (x, m0) ∧ Fq m0 m ∧ Ja ρ (Wh td x)) ∨
  (∃ e xs k x p τ d td y m0, blk = .hol e xs k x p τ (Wh td y) ∧ s.heap i = some (.hol e xs k x p τ d) ∧ Gc s td d = some (y, m0) ∧ Fq m0 m ∧ Ja τ (Wh td y)) ∨
  ∃ e xs k, blk = .mov e xs k ∧ (s.heap i = some (.mov e xs k) ∨ (s.heap i = some (.row e true xs) ∧ k = 0)))
theorem Ts : ∀ {td : TD} {d : D} {x : T td.ty} {m0 : Oe}, Gc s td d = some (x, m0) → Fq m0 m → ∀ p, p ∈ Kk td x → ∃ blk, p.2 = some blk ∧ Pw s m p.1 blk := by
 intro td
 induction td with
 | own id' e dp =>
  intro d x m0 h hm p hp
  simp only [Kk, qa] at hp
  subst hp
  cases d with
  | own id =>
   simp only [Gc] at h
   split at h
   ·rename_i e' dp' xs hb
    split at h
    ·rename_i q hq
     subst q
     simp only [Aa] at h
     obtain ⟨hc, h⟩ := h
     simp only [jc, jh] at h
     obtain ⟨rfl, rfl⟩ := h
     refine ⟨_, rfl, .inr ⟨id, hm _ (by simp), .inl ⟨_, dp, dp', _, rfl, hb, ?_⟩⟩⟩
     simpa using hc
    ·simp at h
   ·simp at h
  | nil =>
   simp only [Gc, jc, jh] at h
   obtain ⟨rfl, rfl⟩ := h
   exact ⟨_, rfl, .inl ⟨hm _ (by simp), e, dp, rfl⟩⟩
  | _ => simp [Gc] at h
 | hol id' e pth τ td ih =>
  intro d x m0 h hm p hp
  cases d with
  | own id =>
   simp only [Gc] at h
   split at h
   ·rename_i e' xs i x1 p' τ' d' hb
    split at h
    ·rename_i q1 q2 hq1 hq2
     subst q1
     obtain rfl := Rc hq2
     simp only [Aa] at h
     obtain ⟨hpp, h⟩ := h
     have hpp : pth = p' := by simpa using hpp
     subst hpp
     split at h
     ·rename_i y m1 h1
      simp only [Aa] at h
      obtain ⟨hsh, h⟩ := h
      simp only [jc, jh] at h
      obtain ⟨rfl, rfl⟩ := h
      simp only [Kk] at hp
      rcases jp.1 hp with rfl | hp
      ·exact ⟨_, rfl, .inr ⟨id, hm _ (by simp), .inr (.inr (.inl ⟨_, _, i, _, _, _, d', td, y, m1, by simp only [jn], hb, h1, fun p hp => hm p (jr _ hp), Zf hsh⟩))⟩⟩
      ·exact ih h1 (fun p hp => hm p (jr _ hp)) p hp
     ·simp at h
    ·simp at h
   ·simp at h
  | _ => simp [Gc] at h
 | pr a b iha ihb =>
  intro d x m0 h hm p hp
  simp only [Gc] at h
  split at h
  ·split at h
   ·rename_i u l v l' h3 h4
    simp only [jc, jh] at h
    obtain ⟨rfl, rfl⟩ := h
    simp only [Kk] at hp
    rcases jl.1 hp with hp | hp
    ·exact iha h3 (fun p hp => hm p (List.mem_append_left _ hp)) p hp
    ·exact ihb h4 (fun p hp => hm p (List.mem_append_right _ hp)) p hp
   ·simp at h
  ·simp at h
 | arr id' e =>
  intro d x m0 h hm p hp
  simp only [Kk, qa] at hp
  subst hp
  cases d with
  | eptr id i q =>
   cases i with
   | succ i => simp [Gc] at h
   | zero =>
    cases q with
    | cons _ _ => simp [Gc] at h
    | nil =>
     simp only [Gc] at h
     split at h
     ·rename_i e' xs hb
      split at h
      ·rename_i q hq
       subst q
       simp only [jc, jh] at h
       obtain ⟨rfl, rfl⟩ := h
       exact ⟨_, rfl, .inr ⟨id, hm _ (by simp), .inl ⟨_, true, true, _, rfl, hb, .inl rfl⟩⟩⟩
      ·simp at h
     ·simp at h
  | _ => simp [Gc] at h
 | mov id' e =>
  intro d x m0 h hm p hp
  simp only [Kk, qa] at hp
  subst hp
  cases d with
  | own id =>
   simp only [Gc] at h
   split at h
   ·rename_i e' xs hb
    split at h
    ·rename_i q hq
     subst q
     simp only [jc, jh] at h
     obtain ⟨rfl, rfl⟩ := h
     exact ⟨_, rfl, .inr ⟨id, hm _ (by simp), .inr (.inr (.inr ⟨_, _, 0, rfl, .inr ⟨hb, rfl⟩⟩))⟩⟩
    ·simp at h
   ·rename_i e' xs k hb
    split at h
    ·rename_i q hq
     subst q
     simp only [jc, jh] at h
     obtain ⟨rfl, rfl⟩ := h
     exact ⟨_, rfl, .inr ⟨id, hm _ (by simp), .inr (.inr (.inr ⟨_, _, k, by simp only [jn], .inl hb⟩))⟩⟩
    ·simp at h
   ·simp at h
  | _ => simp [Gc] at h
 | _ => intro d x m0 h hm p hp; simp [Kk] at hp
theorem Iz : ∀ {l : List (Tmp × TD)} {x : T (Tj.tyT l)} {m0 : Oe}, NA s l = some (x, m0) → Fq m0 m →
 (∀ t d', La (Hu l x) t = some d' → ∃ td d y m1, La s.tm t = some d ∧ Gc s td d = some (y, m1) ∧ Fq m1 m ∧ d' = Wh td y) ∧ (∀ p, p ∈ Pu l x → ∃ blk, p.2 = some blk ∧ Pw s m p.1 blk)
 | [], x, m0, h, hm => ⟨by simp [Hu, La], by simp [Pu]⟩
 | (t0, td) :: r, x, m0, h, hm => by
  simp only [NA] at h
  split at h
  ·rename_i d hd
   split at h
   ·rename_i y m1 z m2 h1 h2
    simp only [jc, jh] at h
    obtain ⟨rfl, rfl⟩ := h
    have hm1 : Fq m1 m := fun p hp => hm p (List.mem_append_left _ hp)
    obtain ⟨i1, i2⟩ := Iz h2 (fun p hp => hm p (List.mem_append_right _ hp))
    refine ⟨fun t d' ht => ?_, fun p hp => ?_⟩
    ·simp only [Hu] at ht
     rw [Jb] at ht
     split at ht
     ·rename_i e
      subst e
      simp only [jc] at ht
      exact ⟨td, d, y, m1, hd, h1, hm1, ht.symm⟩
     ·exact i1 t d' ht
    ·simp only [Pu] at hp
     rcases jl.1 hp with hp | hp
     ·exact Ts h1 hm1 p hp
     ·exact i2 p hp
   ·simp at h
  ·simp at h
theorem Hz : ∀ {l : List (Nat × Ty × TD)} {x : T (Tj.tyB l)} {m0 m' : Oe}, Lx s l m0 = some (x, m') → Fq m' m →
 Fq m0 m ∧ ∀ p, p ∈ Gu l x → ∃ blk, p.2 = some blk ∧ Pw s m p.1 blk
 | [], x, m0, m', h, hm => by
  simp only [Lx, jc, jh] at h
  obtain ⟨_, rfl⟩ := h
  exact ⟨hm, by simp [Gu]⟩
 | (id', ρ, td) :: r, x, m0, m', h, hm => by
  simp only [Lx] at h
  split at h
  ·rename_i id hid
   split at h
   ·rename_i ρ' d hb
    split at h
    ·rename_i q hq
     obtain rfl := q.down
     split at h
     ·rename_i y m1 h1
      simp only [Aa] at h
      obtain ⟨hsh, h⟩ := h
      split at h
      ·rename_i z m2 h2
       simp only [jc, jh] at h
       obtain ⟨rfl, rfl⟩ := h
       obtain ⟨i1, i2⟩ := Hz h2 hm
       have hm0 : Fq m0 m := fun p hp => i1 p (List.mem_append_left _ hp)
       have hm1 : Fq m1 m := fun p hp => i1 p (List.mem_append_right _ hp)
       refine ⟨hm0, fun p hp => ?_⟩
       simp only [Gu] at hp
       rcases jp.1 hp with rfl | hp
       ·exact ⟨_, rfl, .inr ⟨id, hm0 _ (Ri hid), .inr (.inl ⟨_, d, td, y, m1, rfl, hb, h1, hm1, Zf hsh⟩)⟩⟩
       ·rcases jl.1 hp with hp | hp
        ·exact Ts h1 hm1 p hp
        ·exact i2 p hp
      ·simp at h
     ·simp at h
    ·simp at h
   ·simp at h
  ·simp at h
end
theorem Xp : ∀ {m : Oe}, Bn m = true → ∀ j i, (j, some i) ∈ m → (j < 500000 ∧ i < 500000) ∨ j = i
 | [], _, _, _, h => by simp at h
 | (j0, some i0) :: r, hp, j, i, h => by
  simp only [Bn, jd, Bool.or_eq_true] at hp
  rcases jp.1 h with e | h
  ·simp only [jh, jc] at e
   obtain ⟨rfl, rfl⟩ := e
   rcases hp.1 with h1 | h1
   ·rw [Nat.blt_eq, Nat.blt_eq] at h1; exact .inl h1
   ·exact .inr (ju h1)
  ·exact Xp hp.2 j i h
 | (j0, none) :: r, hp, j, i, h => by
  simp only [Bn, jd] at hp
  rcases jp.1 h with e | h
  ·simp at e
  ·exact Xp hp.2 j i h
theorem Wp : ∀ {m : Oe}, Bn m = true → ∀ j, (j, none) ∈ m → j < 500000
 | [], _, _, h => by simp at h
 | (j0, some i0) :: r, hp, j, h => by
  simp only [Bn, jd] at hp
  rcases jp.1 h with e | h
  ·simp at e
  ·exact Wp hp.2 j h
 | (j0, none) :: r, hp, j, h => by
  simp only [Bn, jd] at hp
  rcases jp.1 h with e | h
  ·simp only [jh, and_true] at e
   subst e
   have := hp.1
   rwa [Nat.blt_eq] at this
  ·exact Wp hp.2 j h
theorem Oz {m : Oe} (h : (m.all fun x => m.all fun y => Im x y) = true) {x y : Nat × Option Nat} (hx : x ∈ m) (hy : y ∈ m) : Im x y = true :=
 List.all_eq_true.1 (List.all_eq_true.1 h x hx) y hy
theorem WE {m : Oe} (h : (m.all fun x => m.all fun y => Im x y) = true) {j : Nat} {a c : Option Nat} (hx : (j, a) ∈ m) (hy : (j, c) ∈ m) : a = c := by
 have := Oz h hx hy
 unfold Im at this
 cases a with
 | none => cases c with
  | none => rfl
  | some c => simp at this
 | some a => cases c with
  | none => simp at this
  | some c => simpa [Nat.beq_eq] using this
theorem XE {m : Oe} (h : (m.all fun x => m.all fun y => Im x y) = true) {j j' i : Nat} (hx : (j, some i) ∈ m) (hy : (j', some i) ∈ m) : j = j' := by
 have := Oz h hx hy
 unfold Im at this
 simpa using this
theorem Lv {α : Type} {j : Nat} {a : α} : ∀ {m : List (Nat × α)}, (j, a) ∈ m → ∃ c, La m j = some c ∧ (j, c) ∈ m
 | [], h => by simp at h
 | (j0, a0) :: r, h => by
  rw [Jb]
  by_cases hj : j0 = j
  ·subst hj; exact ⟨a0, by simp, by simp⟩
  ·rw [if_neg hj]
   rcases jp.1 h with e | h
   ·simp only [jh] at e
    exact absurd e.1.symm hj
   ·obtain ⟨c, h1, h2⟩ := Lv h
    exact ⟨c, h1, jr _ h2⟩
theorem Si {m : Oe} (h : (m.all fun x => m.all fun y => Im x y) = true) {j : Nat} {a : Option Nat} (hx : (j, a) ∈ m) : La m j = some a := by
 obtain ⟨c, h1, h2⟩ := Lv hx
 rw [h1, WE h hx h2]
section
variable {n0 : Nat} {A : Fx} {O0 : Nat → Prop} {w0 w : World} {s : AS} {σ : Nat → Value} {φ : Nat → List Nat} {a : Act}
theorem Wr (h : Ga n0 A O0 w0 s σ φ a w) {p : Tj} {x : p.X} (he : ext p s = some x) : ∃ σ' φ', Ga n0 A O0 w0 (Pn p x s.n) σ' φ' a w := by
 unfold ext at he
 split at he
 ·rename_i x1 m1 h1
  split at he
  ·rename_i x2 m h2
   simp only [Aa] at he
   obtain ⟨hmo, he⟩ := he
   simp only [jc] at he
   subst he
   simp only [QF, jd] at hmo
   obtain ⟨hn1, hpo⟩ := hmo
   obtain ⟨hm1, hB⟩ := Hz h2 (fun p hp => hp)
   obtain ⟨hT1, hT2⟩ := Iz h1 hm1
   let σ' : Nat → Value := fun j => match La m j with
    | some (some i) => σ i
    | some none => .slice none 0 0
    | none => σ j
   let φ' : Nat → List Nat := fun j => match La m j with
    | some (some i) => φ i
    | _ => []
   have hσs : ∀ j i, (j, some i) ∈ m → σ' j = σ i ∧ φ' j = φ i := fun j i hj => by
    have := Si hn1 hj
    simp only [σ', φ', this, and_self]
   have hσn : ∀ j, (j, none) ∈ m → σ' j = .slice none 0 0 ∧ φ' j = [] := fun j hj => by
    have := Si hn1 hj
    simp only [σ', φ', this, and_self]
   have hent : ∀ j blk, (Pn p (x1, x2) s.n).heap j = some blk → Pw s m j blk := by
    intro j blk hj
    have hmem := AS.heap_mem hj
    simp only [Pn] at hmem
    rcases jl.1 hmem with hmem | hmem
    ·obtain ⟨blk', e, hE⟩ := hT2 _ hmem
     simp only [jc] at e
     subst e
     exact hE
    ·obtain ⟨blk', e, hE⟩ := hB _ hmem
     simp only [jc] at e
     subst e
     exact hE
   have hlive : ∀ j blk, (Pn p (x1, x2) s.n).heap j = some blk → φ' j = [] ∨ ∃ i blk0, (j, some i) ∈ m ∧ s.heap i = some blk0 ∧ φ' j = φ i := by
    intro j blk hj
    rcases hent j blk hj with ⟨hn, _⟩ | ⟨i, hi, ⟨e, dp, dp', xs, _, hb, _⟩ | ⟨ρ, d, td, y, m0, _, hb, _⟩ | ⟨e, xs, k, x, p, τ, d, td, y, m0, _, hb, _⟩ | ⟨e, xs, k, _, hb | ⟨hb, _⟩⟩⟩
    ·exact .inl (hσn j hn).2
    ·exact .inr ⟨i, _, hi, hb, (hσs j i hi).2⟩
    ·exact .inr ⟨i, _, hi, hb, (hσs j i hi).2⟩
    ·exact .inr ⟨i, _, hi, hb, (hσs j i hi).2⟩
    ·exact .inr ⟨i, _, hi, hb, (hσs j i hi).2⟩
    ·exact .inr ⟨i, _, hi, hb, (hσs j i hi).2⟩
   have hOO : ∀ b, b < w.heap.size → ¬ OO O0 s φ b → ¬ OO O0 (Pn p (x1, x2) s.n) φ' b := by
    rintro b _ hno (ho | ⟨j, blk, hj, hm⟩)
    ·exact hno (.inl ho)
    ·rcases hlive j blk hj with hφ | ⟨i, blk0, _, hb, hφ⟩
     ·rw [hφ] at hm; simp at hm
     ·rw [hφ] at hm; exact hno (.inr ⟨i, blk0, hb, hm⟩)
   have hTOk : WH s σ σ' (Pn p (x1, x2) s.n).heap m := by
    refine ⟨fun j i hj => (hσs j i hj).1, fun j hj => (hσn j hj).1, fun j i ρ d hj hb => ?_, fun j i blk r hj hb hr => ?_⟩
    rcases hent j _ hb with ⟨hn, e, dp, hh⟩ | ⟨i', hi', ⟨e, dp, dp', xs, hh, _⟩ | ⟨ρ', d', td, y, m0, hh, hb', _⟩ | ⟨e, xs, k, x, p, τ, d', td, y, m0, hh, _⟩ | ⟨e, xs, k, hh, _⟩⟩
    ·simp at hh
    ·simp at hh
    ·simp only [Ca.box.injEq] at hh
     have e1 := Si hn1 hj
     have e2 := Si hn1 hi'
     rw [e1] at e2
     simp only [jc] at e2
     subst e2
     exact ⟨d', by rw [hb', hh.1]⟩
    ·simp at hh
    ·simp at hh
    ·have e1 := Si hn1 hj
     rcases hent j _ hb with ⟨hn, _⟩ | ⟨i', hi', hx⟩
     ·have e2 := Si hn1 hn
      rw [e1] at e2
      simp at e2
     ·have e2 := Si hn1 hi'
      rw [e1] at e2
      simp only [jc] at e2
      subst e2
      rcases hx with ⟨e, dp, dp', xs, rfl, hb', _⟩ | ⟨ρ', d', td, y, m0, rfl, _⟩ | ⟨e, xs, k, x, p, τ, d', td, y, m0, rfl, hb', _⟩ | ⟨e, xs, k, rfl, hb' | ⟨hb', _⟩⟩
      ·exact ⟨_, hb', hr⟩
      ·simp [Ca.rowN] at hr
      ·exact ⟨_, hb', hr⟩
      ·exact ⟨_, hb', hr⟩
      ·exact ⟨_, hb', hr⟩
   refine ⟨σ', φ', h.sz, h.df, ?_, ?_, ?_, ?_, ?_, h.o0, h.fr, ?_, h.iv0, h.ivw⟩
   ·intro t d' hd
    obtain ⟨td, d, y, m0, g1, g2, g3, g4⟩ := hT1 t d' hd
    obtain ⟨v, hv, hr⟩ := h.tm t d g1
    rw [g4]
    exact ⟨v, hv, GE hTOk hOO g2 g3 hr⟩
   ·intro j blk hj
    rcases hent j blk hj with ⟨hn, e, dp, rfl⟩ | ⟨i, hi, ⟨e, dp, dp', xs, rfl, hb, hd⟩ | ⟨ρ, d, td, y, m0, rfl, hb, hex, hsub, hsh⟩ | ⟨e, xs, k, x, p, τ, d, td, y, m0, rfl, hb, hex, hsub, hsh⟩ | ⟨e, xs, k, rfl, hb⟩⟩
    ·rw [Lf, (hσn j hn).1, (hσn j hn).2]
     exact ⟨by simp, .inl ⟨rfl, rfl, rfl⟩⟩
    ·rw [Lf, (hσs j i hi).1, (hσs j i hi).2]
     have hrow := Lf.1 (h.hp i _ hb)
     have hst : ∀ dq, De w (OO O0 s φ) dq e xs (σ i) (φ i) → De w (OO O0 (Pn p (x1, x2) s.n) φ') dq e xs (σ i) (φ i) := by
      rintro dq ⟨hm, g | ⟨bl, off, cap, cur, et, Fs, g1, hh, g2, g3, g4, hF, hel⟩⟩
      ·exact ⟨hm, .inl g⟩
      ·exact ⟨hm, .inr ⟨bl, off, cap, cur, et, Fs, g1, hh, g2, g3, g4, hF, hel.stable (fun _ _ _ => rfl) hOO (fun _ _ => rfl)⟩⟩
     rcases hd with rfl | hf
     ·exact hst _ hrow
     ·have hup := hrow.up
      rw [hf, Bool.or_true] at hup
      cases dp with
      | true => exact hst _ hup
      | false =>
       cases dp' with
       | false => exact hst _ hrow
       | true =>
        have hown := Yr (h.hp i _ hb) (.inl rfl)
        exact hst _ (Lf.1 (Fv (O := OO O0 s φ) (hp := s.heap) hown hf))
    ·rw [(hσs j i hi).2]
     obtain ⟨_, b, cur, et, g1, hh, hF, hr, hsz⟩ := h.hp i _ hb
     exact ⟨hsh, b, cur, et, by rw [(hσs j i hi).1]; exact g1, hh, hF, Vr hTOk hOO hex hsub hr, hsz⟩
    ·rw [(hσs j i hi).2]
     obtain ⟨_, g1, g2, g3, bl, off, cap, cur, et, g4, g5, g6, g7, hr, hw⟩ := h.hp i _ hb
     refine ⟨hsh, g1, g2, g3, bl, off, cap, cur, et, by rw [(hσs j i hi).1]; exact g4, g5, g6, g7, Vr hTOk hOO hex hsub hr, fun w' c' h1 h2 h3 y Fy x' h4 h5 => ?_⟩
     rw [(hσs j i hi).1]
     exact hw w' c' h1 h2 h3 y Fy x' h4 h5
    ·rw [(hσs j i hi).2]
     have hm0 : Eb w (OO O0 s φ) s.heap σ i (.mov e xs k) (φ i) := by
      rcases hb with hb | ⟨hb, rfl⟩
      ·exact h.hp i _ hb
      ·exact Dy (h.hp i _ hb)
     obtain ⟨hlen, ⟨g1, g2, g3⟩ | ⟨bl, off, cap, cur, et, Fs, g1, g⟩⟩ := hm0
     ·exact ⟨hlen, .inl ⟨by rw [(hσs j i hi).1]; exact g1, g2, g3⟩⟩
     ·exact ⟨hlen, .inr ⟨bl, off, cap, cur, et, Fs, by rw [(hσs j i hi).1]; exact g1, g⟩⟩
   ·intro j blk hj
    rcases hlive j blk hj with hφ | ⟨i, blk0, _, hb, hφ⟩
    ·rw [hφ]; exact List.nodup_nil
    ·rw [hφ]; exact h.nodup i blk0 hb
   ·intro j j' blk blk' hne hj hj' b hb hb'
    rcases hlive j blk hj with hφ | ⟨i, blk0, hi, hbi, hφ⟩
    ·rw [hφ] at hb; simp at hb
    ·rcases hlive j' blk' hj' with hφ' | ⟨i', blk0', hi', hbi', hφ'⟩
     ·rw [hφ'] at hb'; simp at hb'
     ·rw [hφ] at hb
      rw [hφ'] at hb'
      by_cases hii : i = i'
      ·subst hii
       exact hne (XE hn1 hi hi')
      ·exact h.disj i i' blk0 blk0' hii hbi hbi' b hb hb'
   ·intro j blk hj b hb
    rcases hlive j blk hj with hφ | ⟨i, blk0, _, hbi, hφ⟩
    ·rw [hφ] at hb; simp at hb
    ·rw [hφ] at hb; exact h.fresh i blk0 hbi b hb
   ·intro j v hv
    have hlow := A.low j v hv
    show σ' j = v
    simp only [σ']
    split
    ·rename_i i hg
     rcases Xp hpo j i (Ri hg) with ⟨hj, _⟩ | rfl
     ·omega
     ·exact h.pin _ v hv
    ·rename_i hg
     have := Wp hpo j (Ri hg)
     omega
    ·exact h.pin j v hv
  ·simp at he
 ·simp at he
end
def EI : Ex → Exit
 | .normal => .normal
 | .exit id => .exit id
 | .ret => .ret
def Mm {X R : Type} (step : X → Option (X ⊕ R)) : Nat → X → R → Prop
 | 0, _, _ => False
 | n + 1, x, r => step x = some (.inr r) ∨ ∃ x', step x = some (.inl x') ∧ Mm step n x' r
def Nc : Code → List Code
 | .seq a b => Nc a ++ Nc b
 | .cond _ a b => Nc a ++ Nc b
 | .block _ c => Nc c
 | .loop c => c :: Nc c
 | _ => []
def Cc (G : Tc) (L : List (Nat × Hb)) (b : Code) : Prop :=
 ∀ r ls, Ve b = some r → La L r = some ls → ∀ x y, ls.F x = some y → ∃ m, Mm (Lo G L ls b) m x y
section
variable {P : Program} {n0 : Nat} {A : Fx} {O0 : Nat → Prop} {w0 : World} {G : Tc} {L : List (Nat × Hb)}
theorem UB (hG : Ah P A.I G) (hfz : G.fz = true → ∀ b, ¬ A.A b) (hm : P.follows .mixedOrders = true) : ∀ (c : Code), (∀ b, b ∈ Nc c → Cc G L b) → ∀ {Out : Type} {k : Ex → AS → Option Out} {out : Out} {s : AS} {σ : Nat → Value} {φ : Nat → List Nat} {a : Act} {w : World} {Q : Exit → Act → World → Prop},
 Ui G L c s k = some out → Ga n0 A O0 w0 s σ φ a w → (∀ e s σ φ a w, k e s = some out → Ga n0 A O0 w0 s σ φ a w → Q (EI e) a w) → c.wp P Q a w := by
 intro c
 induction c with
 | skip =>
  intro _ Out k out s σ φ a w Q he h hQ
  simp only [Ui] at he
  exact wp_skip (hQ .normal s σ φ a w he h)
 | region id ops draw =>
  intro _ Out k out s σ φ a w Q he h hQ
  simp only [Ui] at he
  split at he
  ·rename_i s1 h1
   obtain ⟨φ1, hc⟩ := Gn hfz h h1
   refine DD (k := fun s' => match Oo G.fz G.att (1000 * id + 999) s' with
    | some s' => k .normal s'
    | none => none) hG hfz hm hc he fun a w ⟨s', σ', φ', h2, h3⟩ => ?_
   simp only at h2
   split at h2
   ·rename_i s2 h4
    obtain ⟨φ2, hc2⟩ := Gn hfz h3 h4
    exact hQ .normal _ σ' φ2 a w h2 hc2
   ·simp at h2
  ·simp at he
 | seq x y ihx ihy =>
  intro hL Out k out s σ φ a w Q he h hQ
  simp only [Ui] at he
  refine wp_seq (ihx (fun b hb => hL b (by simp [Nc, hb])) he h fun e s' σ' φ' a' w' hk h' => ?_)
  cases e with
  | normal => exact ihy (fun b hb => hL b (by simp [Nc, hb])) hk h' hQ
  | exit j => exact hQ (.exit j) s' σ' φ' a' w' hk h'
  | ret => exact hQ .ret s' σ' φ' a' w' hk h'
 | cond x y z ihy ihz =>
  intro hL Out k out s σ φ a w Q he h hQ
  cases x with
  | tmp t =>
   simp only [Ui] at he
   split at he
   ·rename_i β hd
    have hs := h.same hd
    obtain ⟨v, hv, hr⟩ := h.tm t _ hd
    rw [Xd] at hr
    subst hr
    have hev : a.eval (.tmp t) = .bool β := by
     simp only [Act.eval]
     rw [Array.getD_eq_getD_getElem?, hv]
     rfl
    refine wp_cond_split hev (fun hb => ?_) (fun hb => ?_)
    ·subst hb
     simp only [cond_true] at he
     exact ihy (fun b hb => hL b (by simp [Nc, hb])) he hs hQ
    ·subst hb
     simp only [cond_false] at he
     exact ihz (fun b hb => hL b (by simp [Nc, hb])) he hs hQ
   ·simp at he
  | const cv =>
   cases cv with
   | bool β =>
    simp only [Ui] at he
    refine wp_cond_split (show a.eval (.const (.bool β)) = .bool β from rfl) (fun hb => ?_) (fun hb => ?_)
    ·subst hb
     simp only [cond_true] at he
     exact ihy (fun b hb => hL b (by simp [Nc, hb])) he h hQ
    ·subst hb
     simp only [cond_false] at he
     exact ihz (fun b hb => hL b (by simp [Nc, hb])) he h hQ
   | _ => simp [Ui] at he
  | _ => simp [Ui] at he
 | block id c ih =>
  intro hL Out k out s σ φ a w Q he h hQ
  simp only [Ui] at he
  refine wp_block (ih (fun b hb => hL b (by simpa [Nc] using hb)) he h fun e s' σ' φ' a' w' hk h' => ?_)
  cases e with
  | normal => exact hQ .normal s' σ' φ' a' w' hk h'
  | exit j =>
   simp only [EI, Exit.inBlock]
   cases hb : Nat.beq j id with
   | true =>
    rw [if_pos (ju hb)]
    simp only [hb, cond_true] at hk
    exact hQ .normal s' σ' φ' a' w' hk h'
   | false =>
    rw [if_neg (fun e => by rw [e, Nat.beq_refl] at hb; simp at hb)]
    simp only [hb, cond_false] at hk
    exact hQ (.exit j) s' σ' φ' a' w' hk h'
  | ret => exact hQ .ret s' σ' φ' a' w' hk h'
 | exit id =>
  intro _ Out k out s σ φ a w Q he h hQ
  simp only [Ui] at he
  exact wp_exit (hQ (.exit id) s σ φ a w he h)
 | ret =>
  intro _ Out k out s σ φ a w Q he h hQ
  simp only [Ui] at he
  exact wp_ret (hQ .ret s σ φ a w he h)
 | loop c ih =>
  intro hL Out k out s σ φ a w Q he h hQ
  simp only [Ui] at he
  split at he
  ·rename_i r hr
   split at he
   ·rename_i ls hls
    split at he
    ·rename_i x hx
     simp only [Aa] at he
     obtain ⟨hn, he⟩ := he
     have hn := ju hn
     rw [qc] at he
     obtain ⟨y, hy, he⟩ := he
     obtain ⟨m, hit⟩ := hL c (by simp [Nc]) r ls hr hls x y hy
     obtain ⟨σ1, φ1, h1⟩ := Wr h hx
     rw [hn] at h1 he
     refine wp_loop_rounds m ?_
     have key : ∀ (m : Nat) (x : ls.inT.X) (σ : Nat → Value) (φ : Nat → List Nat) (a : Act) (w : World), Mm (Lo G L ls c) m x y → Ga n0 A O0 w0 (Pn ls.inT x ls.n) σ φ a w → Code.rounds P c Q m a w := by
      intro m
      induction m with
      | zero => intro x σ φ a w hit _; exact hit.elim
      | succ m ihm =>
       intro x σ φ a w hit h
       rw [rounds_succ]
       have body : ∀ z, Lo G L ls c x = some z → (z = .inr y ∨ ∃ x', z = .inl x' ∧ Mm (Lo G L ls c) m x' y) → c.wp P (Exit.then (Code.rounds P c Q m) Q) a w := by
        intro z hz hzy
        unfold Lo at hz
        refine ih (fun b hb => hL b (by simp [Nc, hb])) hz h fun e s' σ' φ' a' w' hk h' => ?_
        simp only [Aa] at hk
        obtain ⟨hn', hk⟩ := hk
        have hn' := ju hn'
        cases e with
        | normal =>
         simp only at hk
         split at hk
         ·rename_i x' hx'
          simp only [jc] at hk
          obtain ⟨σ2, φ2, h2⟩ := Wr h' hx'
          rw [hn'] at h2
          rcases hzy with hzy | ⟨x'', hzy, hit'⟩
          ·rw [hzy] at hk; simp at hk
          ·rw [hzy] at hk
           simp only [Sum.inl.injEq] at hk
           subst hk
           exact ihm x' σ2 φ2 a' w' hit' h2
         ·simp at hk
        | exit j =>
         simp only [Aa] at hk
         obtain ⟨hj, hk⟩ := hk
         have hj := ju hj
         split at hk
         ·rename_i y' hy'
          simp only [jc] at hk
          obtain ⟨σ2, φ2, h2⟩ := Wr h' hy'
          rw [hn'] at h2
          rcases hzy with hzy | ⟨x'', hzy, _⟩
          ·rw [hzy] at hk
           simp only [Sum.inr.injEq] at hk
           subst hk
           simp only [qg] at he
           show Q (.exit j) a' w'
           rw [hj]
           exact hQ (.exit ls.exitId) _ σ2 φ2 a' w' he h2
          ·rw [hzy] at hk; simp at hk
         ·simp at hk
        | ret =>
         simp only at hk
         split at hk
         ·rename_i y' hy'
          simp only [jc] at hk
          obtain ⟨σ2, φ2, h2⟩ := Wr h' hy'
          rw [hn'] at h2
          rcases hzy with hzy | ⟨x'', hzy, _⟩
          ·rw [hzy] at hk
           simp only [Sum.inr.injEq] at hk
           subst hk
           simp only [Sum.elim_inr] at he
           exact hQ .ret _ σ2 φ2 a' w' he h2
          ·rw [hzy] at hk; simp at hk
         ·simp at hk
       rcases hit with hit | ⟨x', hit, hit'⟩
       ·exact body _ hit (.inl rfl)
       ·exact body _ hit (.inr ⟨x', rfl, hit'⟩)
     exact key m x σ1 φ1 a w hit h1
    ·simp at he
   ·simp at he
  ·simp at he
 | _ => intros; rename_i he _ _; simp [Ui] at he
end
theorem Nb.mono {w : World} {O O' : Nat → Prop} (hO : ∀ b, O' b → O b) : ∀ {rt : Ty} {r : T rt} {fr : List Bool} {vs : List Value} {F : List Nat}, Nb w O rt r fr vs F → Nb w O' rt r fr vs F
 | .u, _, [], [], _, h => h
 | .p x y, r, f :: fr, v :: vs, F, h => by
  obtain ⟨cs, F1, F2, hv, hF, h1, h2⟩ := h
  refine ⟨cs, F1, F2, hv, hF, ?_, Nb.mono hO h2⟩
  cases f with
  | true => exact h1
  | false =>
   simp only [jq, if_false] at h1 ⊢
   exact ⟨h1.1.weaken hO, h1.2⟩
 | .u, _, _ :: _, _, _, h => by simp [Nb] at h
 | .u, _, [], _ :: _, _, h => by simp [Nb] at h
 | .p _ _, _, [], _, _, h => by simp [Nb] at h
 | .p _ _, _, _ :: _, [], _, h => by simp [Nb] at h
 | .i _, _, fr, vs, _, h => by simp [Nb] at h
 | .b, _, fr, vs, _, h => by simp [Nb] at h
 | .o, _, fr, vs, _, h => by simp [Nb] at h
 | .s, _, fr, vs, _, h => by simp [Nb] at h
 | .sl _, _, fr, vs, _, h => by simp [Nb] at h
section
variable {P : Program} {n0 : Nat} {A : Fx} {O0 : Nat → Prop} {w0 w : World} {s : AS} {σ : Nat → Value} {φ : Nat → List Nat} {a : Act} {G : Tc} {L : List (Nat × Hb)}
def RU (w : World) (O : Nat → Prop) (hp : Nat → Option Ca) (σ : Nat → Value) : D → List Value → Prop
 | .pr a b, v :: vs => Ob w O hp σ a v ∧ RU w O hp σ b vs
 | .un, [] => True
 | _, _ => False
def Hr (tmps : Array Value) : ResultVar → Sem Value
 | .tmp t => pure (tmps.getD t undef)
 | .cell a t => do loadVar t (← asAddr (tmps.getD a undef))
theorem Yp (hG : EnvTy P G) (h : Ga n0 A O0 w0 s σ φ a w) : ∀ {rs : List ResultVar} {d : D}, Bm G s rs = some d → ∃ vs, (rs.mapM (Hr a.tmps)).run P w = .ok vs w ∧ RU w (OO O0 s φ) s.heap σ d vs
 | [], d, he => by
  simp only [Bm, jc] at he
  subst he
  exact ⟨[], by simp, trivial⟩
 | .tmp t :: r, d, he => by
  simp only [Bm] at he
  split at he
  ·rename_i d1 d2 h1 h2
   simp only [jc] at he
   subst he
   obtain ⟨vs, hvs, hr⟩ := Yp hG h h2
   obtain ⟨v, hv, hru⟩ := h.tm t d1 h1
   have hg : a.tmps.getD t undef = v := by rw [Array.getD_eq_getD_getElem?, hv]; rfl
   refine ⟨v :: vs, ?_, hru, hr⟩
   rw [List.mapM_cons]
   simp only [Hr, qn, Sem.run_pure, qm, hvs, hg]
  ·simp at he
 | .cell t ty :: r, d, he => by
  simp only [Bm] at he
  split at he
  ·rename_i id d2 h1 h2
   split at he
   ·rename_i ρ d1 τ hb hty
    split at he
    ·rename_i q hq
     obtain rfl := q.down
     simp only [jc] at he
     subst he
     obtain ⟨vs, hvs, hr⟩ := Yp hG h h2
     obtain ⟨v, hv, hru⟩ := h.tm t _ h1
     have hg : a.tmps.getD t undef = v := by rw [Array.getD_eq_getD_getElem?, hv]; rfl
     rw [Bj] at hru
     obtain ⟨b, hσ, hv'⟩ := hru.2 _ _ hb
     obtain ⟨hs, b', cur, et, hσ', hh, hF, hrep, hsz⟩ := h.hp id _ hb
     rw [hσ] at hσ'
     simp at hσ'
     subst hσ'
     have hl := Jh (P := P) (hG.ty _ _ hty) (off := 0) hh (by omega)
     have hseg : Xb cur 0 ρ.size = cur.toList := by rw [← hsz]; exact OG cur
     rw [hseg] at hl
     refine ⟨Sb ρ cur.toList :: vs, ?_, Yg hs hrep, hr⟩
     rw [List.mapM_cons]
     have hoff : Ka ρ [] = 0 := rfl
     rw [hoff] at hv'
     subst hv'
     simp only [Hr, qn, Sem.run_pure, qm, hvs, hg, asAddr, hl]
    ·simp at he
   ·simp at he
  ·simp at he
theorem Hv (h : Ga n0 A O0 w0 s σ φ a w) : ∀ {rt : Ty} {fr : List Bool} {d : D} {r : T rt} {l : List Nat} {vs : List Value}, Md s rt fr d = some (r, l) → RU w (OO O0 s φ) s.heap σ d vs →
 Nb w (OO O0 s φ) rt r fr vs (Ba φ l) ∧ ∀ j, j ∈ l → ∃ b, s.heap j = some b
 | .u, [], .un, r, l, vs, he, hr => by
  simp only [Md, jc, jh] at he
  obtain ⟨_, rfl⟩ := he
  cases vs with
  | nil => exact ⟨by simp [Nb, Ba], by simp⟩
  | cons v vs => simp [RU] at hr
 | .p x y, f :: fr, .pr d1 d2, r, l, vs, he, hr => by
  cases vs with
  | nil => simp [RU] at hr
  | cons v vs =>
   simp only [Md] at he
   split at he
   ·rename_i u l1 z l2 h1 h2
    simp only [jc, jh] at he
    obtain ⟨rfl, rfl⟩ := he
    obtain ⟨g1, g2⟩ := Hv h h2 hr.2
    cases f with
    | true =>
     simp only [cond_true] at h1
     obtain ⟨hrep, hv⟩ := Ic (Xe h1) hr.1
     obtain ⟨ho, hl⟩ := Ng h h1 hrep
     refine ⟨⟨_, Ba φ l1, Ba φ l2, hv, Lc, ?_, g1⟩, ?_⟩
     ·simpa using ho
     ·intro j hj
      rcases jl.1 hj with hj | hj
      ·exact hl j hj
      ·exact g2 j hj
    | false =>
     simp only [cond_false] at h1
     split at h1
     ·rename_i u' hu
      simp only [jc, jh] at h1
      obtain ⟨rfl, rfl⟩ := h1
      obtain ⟨hs, hvw⟩ := Wd (w := w) (O := OO O0 s φ) (hp := s.heap) (σ := σ) hu
      obtain ⟨hrep, hv⟩ := Ic hs hr.1
      refine ⟨⟨_, [], Ba φ l2, hv, by simp [Ba], ?_, g1⟩, by simpa using g2⟩
      simpa using hvw _ hrep
     ·simp at h1
   ·simp at he
 | .u, _ :: _, d, _, _, _, he, _ => by cases d <;> simp [Md] at he
 | .u, [], .und, _, _, _, he, _ => by simp [Md] at he
 | .u, [], .anyv, _, _, _, he, _ => by simp [Md] at he
 | .u, [], .t _ _, _, _, _, he, _ => by simp [Md] at he
 | .u, [], .nil, _, _, _, he, _ => by simp [Md] at he
 | .u, [], .own _, _, _, _, he, _ => by simp [Md] at he
 | .u, [], .ptr _ _, _, _, _, he, _ => by simp [Md] at he
 | .u, [], .eptr _ _ _, _, _, _, he, _ => by simp [Md] at he
 | .u, [], .rp _ _, _, _, _, he, _ => by simp [Md] at he
 | .u, [], .pr _ _, _, _, _, he, _ => by simp [Md] at he
 | .u, [], .tup _, _, _, _, he, _ => by simp [Md] at he
 | .p _ _, [], d, _, _, _, he, _ => by cases d <;> simp [Md] at he
 | .p _ _, _ :: _, .und, _, _, _, he, _ => by simp [Md] at he
 | .p _ _, _ :: _, .anyv, _, _, _, he, _ => by simp [Md] at he
 | .p _ _, _ :: _, .t _ _, _, _, _, he, _ => by simp [Md] at he
 | .p _ _, _ :: _, .nil, _, _, _, he, _ => by simp [Md] at he
 | .p _ _, _ :: _, .own _, _, _, _, he, _ => by simp [Md] at he
 | .p _ _, _ :: _, .ptr _ _, _, _, _, he, _ => by simp [Md] at he
 | .p _ _, _ :: _, .eptr _ _ _, _, _, _, he, _ => by simp [Md] at he
 | .p _ _, _ :: _, .rp _ _, _, _, _, he, _ => by simp [Md] at he
 | .p _ _, _ :: _, .un, _, _, _, he, _ => by simp [Md] at he
 | .p _ _, _ :: _, .tup _, _, _, _, he, _ => by simp [Md] at he
 | .i _, fr, d, _, _, _, he, _ => by cases fr <;> cases d <;> simp [Md] at he
 | .b, fr, d, _, _, _, he, _ => by cases fr <;> cases d <;> simp [Md] at he
 | .o, fr, d, _, _, _, he, _ => by cases fr <;> cases d <;> simp [Md] at he
 | .s, fr, d, _, _, _, he, _ => by cases fr <;> cases d <;> simp [Md] at he
 | .sl _, fr, d, _, _, _, he, _ => by cases fr <;> cases d <;> simp [Md] at he
theorem Us {fn : Func} {vs : List Value} (h : (fn.results.toList.mapM (Hr a.tmps)).run P w = .ok vs w) : (results fn a.tmps).run P w = .ok (Qo vs) w := by
 unfold results
 rw [Array.mapM_eq_mapM_toList]
 simp only [map_eq_pure_bind, bind_assoc, pure_bind, qn, Sem.run_pure]
 show (Sem.run P (List.mapM (Hr a.tmps) fn.results.toList) w).andThen (fun vs w' => Result.ok (if h : vs.toArray.size = 1 then vs.toArray[0] else Value.tuple vs.toArray) w') = _
 rw [h]
 simp only [qm]
 congr 1
 cases vs with
 | nil => rfl
 | cons v vs => cases vs <;> rfl
end
def Ty.npar : Ty → Nat
 | .p _ y => y.npar + 1
 | _ => 0
theorem Nr {w : World} {O : Nat → Prop} : ∀ {pt : Ty} {x : T pt} {args : List Value}, Id w O pt x args → args.length = pt.npar
 | .u, _, [], _ => rfl
 | .p x y, v, a :: r, h => by simp [Ty.npar, Nr h.2]
 | .u, _, _ :: _, h => by simp [Id] at h
 | .p _ _, _, [], h => by simp [Id] at h
 | .i _, _, l, h => by simp [Id] at h
 | .b, _, l, h => by simp [Id] at h
 | .o, _, l, h => by simp [Id] at h
 | .s, _, l, h => by simp [Id] at h
 | .sl _, _, l, h => by simp [Id] at h
theorem Jt {w : World} {O : Nat → Prop} {hp : Nat → Option Ca} {σ : Nat → Value} : ∀ {pt : Ty} {x : T pt} {args : List Value} {n t : Nat} {d : D}, Id w O pt x args → La (Jk pt x n) t = some d →
 ∃ j v, t = n + j ∧ args[j]? = some v ∧ Ob w O hp σ d v
 | .p x y, v, a :: r, n, t, d, h, hd => by
  simp only [Jk] at hd
  rw [Jb] at hd
  split at hd
  ·rename_i e
   simp only [jc] at hd
   subst hd
   obtain ⟨⟨cs, ha, hv⟩, _⟩ := h
   refine ⟨0, a, by omega, rfl, ?_⟩
   rw [ha]
   exact Yg (τ := x) (by simp [Ja]) hv
  ·obtain ⟨j, v', h1, h2, h3⟩ := Jt (hp := hp) (σ := σ) h.2 hd
   exact ⟨j + 1, v', by omega, by simpa using h2, h3⟩
 | .p _ _, _, [], _, _, _, h, _ => by simp [Id] at h
 | .u, _, _, _, _, _, _, hd => by simp [Jk, La] at hd
 | .i _, _, _, _, _, _, h, _ => by simp [Id] at h
 | .b, _, _, _, _, _, h, _ => by simp [Id] at h
 | .o, _, _, _, _, _, h, _ => by simp [Id] at h
 | .s, _, _, _, _, _, h, _ => by simp [Id] at h
 | .sl _, _, _, _, _, _, h, _ => by simp [Id] at h
section
variable {P : Program} {G : Tc} {L : List (Nat × Hb)}
variable {I : Ph}
def NE (I : Ph) : Fx := ⟨fun _ => False, fun _ => none, fun _ _ h => by simp at h, I, fun _ h => h.elim⟩
theorem GF (hG : Ah P I G) (hm : P.follows .mixedOrders = true) {f : FuncId} {fn : Func} {c : Code} (hf : P.funcs[f]? = some fn) (hb : fn.body = some c) (hname : (fn.name == "runtime.NumGoroutine") = false)
 (hL : ∀ b, b ∈ Nc c → Cc G L b) {pt rt : Ty} {fr : List Bool} {F : T pt → Option (T rt)} (hn : pt.npar ≤ fn.ntmps) (hF : ∀ x r, F x = some r → VB G L fn pt rt fr x = some r) : Al P I f (.pu pt rt fr F) := by
 refine ⟨⟨fn, hf, hname, by rw [hb]; rfl⟩, ?_⟩
 intro O w x r args hx hargs hO hI hB
 have he := hF x r hx
 unfold VB at he
 rw [hb] at he
 simp only at he
 refine calls_of_wp hf hb ?_
 have hlen := Nr hargs
 have hc : Ga w.heap.size (NE I) O w ⟨fn.ntmps, Jk pt x 0, []⟩ (fun _ => undef) (fun _ => []) { tmps := args.toArray ++ Array.replicate (fn.ntmps - args.toArray.size) undef, defers := [] } w := by
  have hh : ∀ id, AS.heap ⟨fn.ntmps, Jk pt x 0, []⟩ id = none := fun id => rfl
  refine ⟨?_, rfl, ?_, ?_, ?_, ?_, ?_, hO, ⟨rfl, rfl, rfl, jo _, fun _ _ _ => rfl⟩, ?_, hB, hI⟩
  ·simp; omega
  ·intro t d hd
   have hOO : OO O ⟨fn.ntmps, Jk pt x 0, []⟩ (fun _ => []) = O := by
    funext b
    simp [OO, hh]
   rw [hOO]
   obtain ⟨j, v, h1, h2, h3⟩ := Jt hargs hd
   refine ⟨v, ?_, h3⟩
   have hj : j < args.length := (List.getElem?_eq_some_iff.1 h2).1
   have : t = j := by omega
   subst this
   rw [Array.getElem?_append_left (by simpa using hj)]
   simpa using h2
  ·intro id blk hb; rw [hh] at hb; simp at hb
  ·intro id blk hb; rw [hh] at hb; simp at hb
  ·intro id id' blk blk' _ hb; rw [hh] at hb; simp at hb
  ·intro id blk hb; rw [hh] at hb; simp at hb
  ·intro id v hv; simp [NE] at hv
 refine UB (A := NE I) hG (fun _ _ h => h) hm c hL he hc ?_
 intro e s σ φ a w' hk h
 have Of : (match Bm G s fn.results.toList with
  | some d => match Md s rt fr d with
   | some (r, l) => bif Gd l then some r else none
   | none => none
  | none => none) = some r → a.defers = [] ∧ ∃ v, (results fn a.tmps).run P w' = .ok v w' ∧ Sk (fun v w' => ∃ vs Fr, v = Qo vs ∧ Nm w w' (fun _ => False) ∧ Nb w' (fun b => O b ∨ b ∈ Fr) rt r fr vs Fr ∧ Fr.Nodup ∧ ∀ b ∈ Fr, w.heap.size ≤ b) (.returned v) w' := by
  intro hk
  split at hk
  ·rename_i d hd
   split at hk
   ·rename_i r' l hr
    simp only [Aa] at hk
    obtain ⟨hnd, hk⟩ := hk
    simp only [jc] at hk
    subst hk
    have hnd := He hnd
    obtain ⟨vs, hvs, hru⟩ := Yp hG.toEnvTy h hd
    obtain ⟨hR, hlive⟩ := Hv h hr hru
    refine ⟨h.df, _, Us hvs, vs, Ba φ l, rfl, ⟨h.fr.size, fun b hb _ => h.fr.block b hb (fun h => h), h.fr.os, h.fr.tape, h.fr.output⟩, hR.mono ?_, Jd h hnd hlive, ?_⟩
    ·rintro b (hb | hb)
     ·exact .inl hb
     ·obtain ⟨j, hj, hm'⟩ := Ma.1 hb
      obtain ⟨blk, hbj⟩ := hlive j hj
      exact .inr ⟨j, blk, hbj, hm'⟩
    ·intro b hb
     obtain ⟨j, hj, hm'⟩ := Ma.1 hb
     obtain ⟨blk, hbj⟩ := hlive j hj
     exact (h.fresh j blk hbj b hm').resolve_right (fun h => h)
   ·simp at hk
  ·simp at hk
 cases e with
 | normal => exact Of hk
 | ret => exact Of hk
 | exit j => simp at hk
end
def Vw (G : Tc) (L : List (Nat × Hb)) (fn : Func) (τ pt rt : Ty) (fr : List Bool) (x0 : T τ) (x : T pt) : Option (T τ × T rt) :=
 match fn.body with
 | some c => match Ec τ x0 500000 with
  | (d0, rows, _) => Ui G L c ⟨fn.ntmps, (0, d0) :: Jk pt x 1, rows⟩ fun e s => match e with
   | .exit _ => none
   | _ => match Va s d0 τ, Bm G s fn.results.toList with
    | some (x', l0), some d => match Md s rt fr d with
     | some (r, l) => bif Gd (l0 ++ l) then some (x', r) else none
     | none => none
    | _, _ => none
 | none => none
theorem Pq {φ : Nat → List Nat} : ∀ {L : List Nat}, (Ba φ L).Nodup → ∀ {i j b : Nat}, i ∈ L → j ∈ L → i ≠ j → b ∈ φ i → b ∉ φ j
 | [], _, _, _, _, h, _, _, _ => by simp at h
 | x :: L, hn, i, j, b, hi, hj, hne, hb => by
  intro hb'
  have hx : Ba φ (x :: L) = φ x ++ Ba φ L := by simp [Ba]
  rw [hx, List.nodup_append] at hn
  rcases jp.1 hi with e1 | q1
  ·rcases jp.1 hj with e2 | q2
   ·exact hne (e1.trans e2.symm)
   ·exact hn.2.2 b (e1 ▸ hb) b (Ma.2 ⟨j, q2, hb'⟩) rfl
  ·rcases jp.1 hj with e2 | q2
   ·exact hn.2.2 b (e2 ▸ hb') b (Ma.2 ⟨i, q1, hb⟩) rfl
   ·exact Pq hn.2.1 q1 q2 hne hb hb'
section
variable {P : Program} {G : Tc} {L : List (Nat × Hb)} {I : Ph}
theorem FF (hG : Ah P I G) (hfz : G.fz = false) (hm : P.follows .mixedOrders = true) {f : FuncId} {fn : Func} {c : Code} (hf : P.funcs[f]? = some fn) (hb : fn.body = some c) (hname : (fn.name == "runtime.NumGoroutine") = false)
 (hL : ∀ b, b ∈ Nc c → Cc G L b) {τ pt rt : Ty} {fr : List Bool} {F : T τ → T pt → Option (T τ × T rt)} (hn : pt.npar + 1 ≤ fn.ntmps) (hF : ∀ x0 x r, F x0 x = some r → Vw G L fn τ pt rt fr x0 x = some r) :
 Al P I f (.io τ pt rt fr F) := by
 refine ⟨⟨fn, hf, hname, by rw [hb]; rfl⟩, ?_⟩
 intro O w x0 x r cs0 F0 args hx hown hF0 hargs hO hI hB hFB
 have he := hF x0 x r hx
 unfold Vw at he
 rw [hb] at he
 simp only at he
 rcases hop : Ec τ x0 500000 with ⟨d0, rows, m⟩
 rw [hop] at he
 simp only at he
 obtain ⟨_, hids, hsh, ψ, ν, hbl, hrows, hrep⟩ := Pk hop hown
 refine calls_of_wp hf hb ?_
 have hlen := Nr hargs
 have hmem : ∀ id blk, AS.heap ⟨fn.ntmps, (0, d0) :: Jk pt x 1, rows⟩ id = some blk → id ∈ rows.map (·.1) ∧ ∃ e xs, blk = .row e true xs ∧ Wa w (.sl e) xs [ν id] (ψ id) := by
  intro id blk hb
  have hm := AS.heap_mem hb
  obtain ⟨e, xs, h1, h2⟩ := hrows _ hm
  simp only [jc] at h1
  exact ⟨List.mem_map_of_mem (f := (·.1)) hm, e, xs, h1, h2⟩
 have hF0' : (Ba ψ (rows.map (·.1))).Nodup := by rw [hbl]; exact hF0
 let A : Fx := ⟨(· ∈ F0), fun id => if id ∈ rows.map (·.1) then some (ν id) else none, fun id v h => by
  split at h
  ·rename_i hi
   obtain ⟨p, hp, rfl⟩ := qi.1 hi
   exact (hids p hp).1
  ·simp at h, I, hFB⟩
 have hOO : OO (fun b => O b ∨ b ∈ F0) ⟨fn.ntmps, (0, d0) :: Jk pt x 1, rows⟩ ψ = (fun b => O b ∨ b ∈ F0) := by
  funext b
  refine propext ⟨fun h => ?_, .inl⟩
  rcases h with h | ⟨id, blk, hb, hm⟩
  ·exact h
  ·refine .inr ?_
   rw [← hbl]
   exact Ma.2 ⟨id, (hmem id blk hb).1, hm⟩
 have hc : Ga w.heap.size A (fun b => O b ∨ b ∈ F0) w ⟨fn.ntmps, (0, d0) :: Jk pt x 1, rows⟩ ν ψ { tmps := (Sb τ cs0 :: args).toArray ++ Array.replicate (fn.ntmps - (Sb τ cs0 :: args).toArray.size) undef, defers := [] } w := by
  refine ⟨?_, rfl, ?_, ?_, ?_, ?_, ?_, ?_, ⟨rfl, rfl, rfl, jo _, fun _ _ _ => rfl⟩, ?_, hB, hI⟩
  ·simp; omega
  ·intro t d hd
   rw [hOO]
   rw [Jb] at hd
   split at hd
   ·rename_i e
    subst e
    simp only [jc] at hd
    subst hd
    exact ⟨Sb τ cs0, by rw [Array.getElem?_append_left (by simp)]; simp, Yg hsh (hrep w _ _ _ fun _ _ => rfl)⟩
   ·obtain ⟨j, v, h1, h2, h3⟩ := Jt hargs hd
    refine ⟨v, ?_, h3⟩
    have hj : j < args.length := (List.getElem?_eq_some_iff.1 h2).1
    have : t = j + 1 := by omega
    subst this
    rw [Array.getElem?_append_left (by simpa using hj)]
    simpa using h2
  ·intro id blk hb
   obtain ⟨_, e, xs, rfl, h2⟩ := hmem id blk hb
   exact h2
  ·intro id blk hb
   have hi := (hmem id blk hb).1
   have : (ψ id).Sublist (Ba ψ (rows.map (·.1))) := by
    unfold Ba
    exact List.sublist_flatten_of_mem (List.mem_map_of_mem hi)
   exact this.nodup hF0'
  ·intro id id' blk blk' hne hb hb' b hm
   exact Pq hF0' (hmem id blk hb).1 (hmem id' blk' hb').1 hne hm
  ·intro id blk hb b hm
   refine .inr ?_
   show b ∈ F0
   rw [← hbl]
   exact Ma.2 ⟨id, (hmem id blk hb).1, hm⟩
  ·rintro b (hb | hb)
   ·exact hO b hb
   ·exact hown.lt b hb
  ·intro id v hv
   simp only [A] at hv
   split at hv
   ·simpa using hv
   ·simp at hv
 refine UB (A := A) hG (fun h => by rw [hfz] at h; simp at h) hm c hL he hc ?_
 intro e s σ φ a w' hk h
 have Of : (match Va s d0 τ, Bm G s fn.results.toList with
  | some (x', l0), some d => match Md s rt fr d with
   | some (r, l) => bif Gd (l0 ++ l) then some (x', r) else none
   | none => none
  | _, _ => none) = some r → a.defers = [] ∧ ∃ v, (results fn a.tmps).run P w' = .ok v w' ∧ Sk (fun v w' => ∃ vs F1 Fr, v = Qo vs ∧ Nm w w' (· ∈ F0) ∧ Wa w' τ r.1 cs0 F1 ∧ (∀ b ∈ F1, w.heap.size ≤ b ∨ b ∈ F0) ∧
  Nb w' (fun b => O b ∨ b ∈ F0 ∨ b ∈ F1 ∨ b ∈ Fr) rt r.2 fr vs Fr ∧ (F1 ++ Fr).Nodup ∧ ∀ b ∈ Fr, w.heap.size ≤ b ∨ b ∈ F0) (.returned v) w' := by
  intro hk
  split at hk
  ·rename_i x' l0 d hx' hd
   split at hk
   ·rename_i r' l hr
    simp only [Aa] at hk
    obtain ⟨hnd, hk⟩ := hk
    simp only [jc] at hk
    subst hk
    have hnd := He hnd
    have hr0 : Ha w' (OO (fun b => O b ∨ b ∈ F0) s φ) s.heap σ d0 cs0 := by
     refine hrep w' _ _ _ fun p hp => h.pin p.1 (ν p.1) ?_
     show (if p.1 ∈ rows.map (·.1) then some (ν p.1) else none) = _
     rw [if_pos (List.mem_map_of_mem (f := (·.1)) hp)]
    obtain ⟨ho', hlive0⟩ := Ng h hx' hr0
    obtain ⟨vs, hvs, hru⟩ := Yp hG.toEnvTy h hd
    obtain ⟨hR, hlive⟩ := Hv h hr hru
    have hall : ∀ j, j ∈ l0 ++ l → ∃ b, s.heap j = some b := by
     intro j hj
     rcases jl.1 hj with hj | hj
     ·exact hlive0 j hj
     ·exact hlive j hj
    have hfr : ∀ b, b ∈ Ba φ (l0 ++ l) → w.heap.size ≤ b ∨ b ∈ F0 := by
     intro b hb
     obtain ⟨j, hj, hm'⟩ := Ma.1 hb
     obtain ⟨blk, hbj⟩ := hall j hj
     exact h.fresh j blk hbj b hm'
    have hinOO : ∀ b, b ∈ Ba φ (l0 ++ l) → OO (fun b => O b ∨ b ∈ F0) s φ b := by
     intro b hb
     obtain ⟨j, hj, hm'⟩ := Ma.1 hb
     obtain ⟨blk, hbj⟩ := hall j hj
     exact .inr ⟨j, blk, hbj, hm'⟩
    rw [Lc] at hfr hinOO
    refine ⟨h.df, _, Us hvs, vs, Ba φ l0, Ba φ l, rfl, ⟨h.fr.size, fun b hb hno => h.fr.block b hb hno, h.fr.os, h.fr.tape, h.fr.output⟩, ho', fun b hb => hfr b (List.mem_append_left _ hb), hR.mono ?_, ?_, fun b hb => hfr b (List.mem_append_right _ hb)⟩
    ·rintro b (hb | hb | hb | hb)
     ·exact .inl (.inl hb)
     ·exact .inl (.inr hb)
     ·exact hinOO b (List.mem_append_left _ hb)
     ·exact hinOO b (List.mem_append_right _ hb)
    ·rw [← Lc]
     exact Jd h hnd hall
   ·simp at hk
  ·simp at hk
 cases e with
 | normal => exact Of hk
 | ret => exact Of hk
 | exit j => simp at hk
end
theorem Bh.lt {w : World} : ∀ {pt : Ty} {x : T pt} {args : List Value} {F : List Nat}, Bh w pt x args F → ∀ b, b ∈ F → b < w.heap.size
 | .u, _, [], F, h, b, hb => by simp only [Bh] at h; subst h; simp at hb
 | .p x y, v, a :: r, F, h, b, hb => by
  obtain ⟨cs, F1, F2, _, rfl, ho, h⟩ := h
  rcases jl.1 hb with hb | hb
  ·exact ho.lt b hb
  ·exact Bh.lt h b hb
 | .u, _, _ :: _, _, h, _, _ => by simp [Bh] at h
 | .p _ _, _, [], _, h, _, _ => by simp [Bh] at h
 | .i _, _, l, _, h, _, _ => by simp [Bh] at h
 | .b, _, l, _, h, _, _ => by simp [Bh] at h
 | .o, _, l, _, h, _, _ => by simp [Bh] at h
 | .s, _, l, _, h, _, _ => by simp [Bh] at h
 | .sl _, _, l, _, h, _, _ => by simp [Bh] at h
section
variable {P : Program} {G : Tc} {L : List (Nat × Hb)} {I : Ph}
end
open Go Go.WideShapes
def Zk : (τ : Ty) → T τ → Prop
 | .i k, n => k.has n
 | .b, _ => True
 | .o, _ => True
 | .s, x => ja x ≤ Se
 | .sl e, xs => ja xs ≤ Se ∧ ∀ i (h : i < ja xs), Zk e (List.get xs ⟨i, h⟩)
 | .u, _ => True
 | .p x y, v => Zk x v.1 ∧ Zk y v.2
def Ty.pos : Ty → Bool
 | .sl e => e.pos && Nat.blt 0 e.size
 | .p x y => x.pos && y.pos
 | .o => false
 | _ => true
section
variable {H : Type} {enc : TypeId × Value → H} {P : Program} {w : World} {base : Nat} {spare : Nat → Bool} {held : Bool}
theorem Vg {τ : Ty} {t : TypeId} (h : Zb P τ t = true) : P.cellsOf t = τ.size := by
 obtain ⟨i, h1, h2, _⟩ := Tok.size h
 simp [Program.cellsOf, h1, h2]
theorem EG {k : IntKind} {n : Int} (h : (Lit.int k n).wf = true) : k.has n := by
 simpa [Lit.wf, IntKind.has] using h
theorem ZH {a : Addr} {n : Nat} (h : n ≠ 0) : a.add n = ⟨a.block, a.off + n, none⟩ := by
 simp [Addr.add, h]
theorem Tq {a : Addr} {n : Nat} {cs : List Value} (h : w.cells? base a n = some cs) (hn : 0 < n) :
 ∃ cur et fr, a = ⟨a.block, a.off, none⟩ ∧ w.heap[a.block]? = some (.cells cur et fr) ∧ a.off + n ≤ cur.size ∧ cs = Xb cur a.off n := by
 unfold World.cells? at h
 split at h
 ·have hlen : cs.length = n := by simpa using mapM_some_length h
  have hget : ∀ i, i < n → w.cell? (a.add i) = cs[i]? := fun i hi => mapM_some_get h i i (by simp [hi])
  have h0 := hget 0 hn
  have ha : a.add 0 = a := by simp [Addr.add]
  rw [ha] at h0
  have hc0 : cs[0]? = some (cs[0]'(by omega)) := je (by omega)
  rw [hc0] at h0
  unfold World.cell? at h0
  split at h0
  ·rename_i cur et fr hb
   have hsp : a.spot = none := by
    cases hs : a.spot with
    | none => rfl
    | some x => simp [hs] at h0
   have hcell : ∀ i, i < n → cur[a.off + i]? = cs[i]? := by
    intro i hi
    have := hget i hi
    by_cases hi0 : i = 0
    ·subst hi0
     rw [ha] at this
     unfold World.cell? at this
     rw [hb] at this
     simpa [hsp] using this
    ·rw [ZH hi0] at this
     unfold World.cell? at this
     simp only at this
     rw [hb] at this
     simpa using this
   refine ⟨cur, et, fr, by cases a; simp_all, hb, ?_, ?_⟩
   ·have h1 := hcell (n - 1) (by omega)
    rw [je (by omega)] at h1
    have := (Array.getElem?_eq_some_iff.1 h1).1
    omega
   ·apply List.ext_getElem?
    intro i
    by_cases hi : i < n
    ·rw [Mc _ _ _ _ hi, hcell i hi]
    ·rw [List.getElem?_eq_none (by omega), List.getElem?_eq_none]
     simp [Xb]; omega
  ·simp at h0
 ·simp at h
theorem ZF {fs : List Field} {o : Nat} (h : Xc P .u fs o = true) : fs = [] := by
 cases fs <;> simp_all [Xc]
theorem Ox {x y : Ty} {fs : List Field} {o : Nat} (h : Xc P (.p x y) fs o = true) : ∃ f r, fs = f :: r ∧ f.offset = o ∧ Zb P x f.type = true ∧ Xc P y r (o + x.size) = true := by
 cases fs with
 | nil => simp [Xc] at h
 | cons f r =>
  simp only [Xc, jd] at h
  exact ⟨f, r, rfl, ju h.1.1.1, h.1.2, h.2⟩
theorem Xw {x y : Ty} {t : TypeId} (h : Zb P (.p x y) t = true) : ∃ fs, P.underlying t = some (.struct fs) ∧ Xc P (.p x y) fs.toList 0 = true := by
 simp only [Zb, jd] at h
 obtain ⟨_, h⟩ := h
 split at h
 ·rename_i fs hfs
  refine ⟨fs, hfs, ?_⟩
  split at h
  ·rename_i f r hr
   rw [hr]
   simpa [Xc] using h
  ·simp at h
 ·simp at h
theorem Yw {t : TypeId} (h : Zb P .u t = true) : ∃ fs, P.underlying t = some (.struct fs) ∧ fs.size = 0 := by
 simp only [Zb, jd] at h
 obtain ⟨_, h⟩ := h
 split at h
 ·rename_i fs hfs
  exact ⟨fs, hfs, ju h⟩
 ·simp at h
mutual
theorem Mr (hO : ∀ b, ¬ (fun _ : Nat => False) b) : ∀ (τ : Ty) (t : TypeId) (n : Nat) (cs : List Value) (x : DataW H × List MemPlace), Zb P τ t = true → τ.pos = true →
 DataW.trod enc P w base spare held n t cs = some x → ∃ y : T τ, Ia w (fun _ => False) τ y cs ∧ Zk τ y
 | .i k, t, n, cs, x, ht, _, h => by
  obtain ⟨m, h1, _, h2⟩ := DataW.trod_int (Tok.i ht) h
  exact ⟨m, h1, EG h2⟩
 | .b, t, n, cs, x, ht, _, h => by
  obtain ⟨m, h1, _⟩ := DataW.trod_bool (Tok.b ht) h
  exact ⟨m, h1, trivial⟩
 | .o, t, n, cs, x, ht, hp, h => by simp [Ty.pos] at hp
 | .s, t, n, cs, x, ht, _, h => by
  obtain ⟨m, h1, _, h2⟩ := DataW.trod_string (Tok.s ht) h
  refine ⟨m.data.toList, ?_, ?_⟩
  ·show cs = [.string ⟨List.toArray m.data.toList⟩]
   rw [h1]
  ·show m.data.toList.length ≤ Se
   have : m.size = m.data.toList.length := Array.length_toList.symm
   unfold maxLen at h2
   unfold Se
   omega
 | .sl e, t, n, cs, x, ht, hp, h => by
  obtain ⟨et, hu, he⟩ := Tok.sl ht
  simp only [Ty.pos, jd] at hp
  have hpos : 0 < e.size := by simpa using hp.2
  rcases DataW.trod_slice hu h with ⟨h1, _⟩ | ⟨a, len, cap, elems, rest, m, _, h1, _, _, h2, h3, h4, h5, _, _⟩
  ·exact ⟨([] : List (T e)), ⟨none, 0, h1, jo _, Nat.zero_le _, .inl rfl⟩, ⟨Nat.zero_le _, fun i hi => absurd hi (Nat.not_lt_zero i)⟩⟩
  ·rw [Vg he] at h5
   have hone : ∀ i, i < len → ∃ y : T e, ∃ cs', w.cells? base (a.add (i * e.size)) e.size = some cs' ∧ Ia w (fun _ => False) e y cs' ∧ Zk e y := by
    intro i hi
    have := h5 i hi
    rw [je (by omega), qc] at this
    obtain ⟨cs', hc, hy⟩ := this
    obtain ⟨y, hv, hr⟩ := Mr hO e et m cs' _ he hp.1 hy
    exact ⟨y, cs', hc, hv, hr⟩
   let ys : List (T e) := List.ofFn fun i : Fin len => Classical.choose (hone i.1 i.2)
   have hlen : ys.length = len := by simp [ys]
   have hy : ∀ i (h : i < ys.length), ∃ cs', w.cells? base (a.add (i * e.size)) e.size = some cs' ∧ Ia w (fun _ => False) e (ys.get ⟨i, h⟩) cs' ∧ Zk e (ys.get ⟨i, h⟩) := by
    intro i hi
    have := Classical.choose_spec (hone i (by omega))
    simpa [ys] using this
   have hmax : len ≤ Se := by unfold maxLen at h3; unfold Se; omega
   refine ⟨ys, ⟨some a, cap, by rw [h1, hlen], by rw [hlen]; exact h2, by rw [hlen]; exact hmax, ?_⟩, by rw [hlen]; exact hmax, fun i hi => (hy i hi).choose_spec.2.2⟩
   by_cases hl0 : len = 0
   ·left
    exact List.eq_nil_of_length_eq_zero (by omega)
   ·right
    obtain ⟨cs0, hc0, _⟩ := hy 0 (by omega)
    have ha0 : a.add (0 * e.size) = a := by simp [Addr.add]
    rw [ha0] at hc0
    obtain ⟨cur, et', fr, ha, hb, _, _⟩ := Tq hc0 hpos
    have hadd : ∀ i, (a.add (i * e.size)).block = a.block ∧ (a.add (i * e.size)).off = a.off + i * e.size := by
     intro i
     unfold Addr.add
     split
     ·rename_i hz; simp [hz]
     ·exact ⟨rfl, rfl⟩
    refine ⟨a.block, a.off, cur, et', fr, by rw [← ha], fun h => h, hb, ?_, ?_⟩
    ·obtain ⟨cs1, hc1, _⟩ := hy (len - 1) (by omega)
     obtain ⟨cur1, et1, fr1, _, hb1, hs1, _⟩ := Tq hc1 hpos
     rw [(hadd _).1, hb] at hb1
     simp only [jc, Obj.cells.injEq] at hb1
     rw [(hadd _).2, ← hb1.1] at hs1
     have : len * e.size = (len - 1) * e.size + e.size := by
      rw [← Nat.succ_mul]; congr 1; omega
     show a.off + ys.length * e.size ≤ cur.size
     rw [hlen]
     omega
    ·intro i hi
     obtain ⟨cs1, hc1, hv, _⟩ := hy i hi
     obtain ⟨cur1, et1, fr1, _, hb1, _, hs1⟩ := Tq hc1 hpos
     rw [(hadd _).1, hb] at hb1
     simp only [jc, Obj.cells.injEq] at hb1
     rw [(hadd _).2, ← hb1.1] at hs1
     rw [← hs1]
     exact hv
 | .u, t, n, cs, x, ht, _, h => by
  obtain ⟨fs, hu, hz⟩ := Yw ht
  obtain ⟨xs, m, _, _, hl, _⟩ := DataW.trod_struct hu h
  rw [Vg ht] at hl
  exact ⟨(), List.eq_nil_of_length_eq_zero hl, trivial⟩
 | .p a c2, t, n, cs, x, ht, hp, h => by
  obtain ⟨fs, hu, hf⟩ := Xw ht
  obtain ⟨xs, m, _, _, hl, _, hget⟩ := DataW.trod_struct hu h
  rw [Vg ht] at hl
  have := Ns hO (.p a c2) fs.toList 0 m cs hf hp (by simpa using hl) (by
   intro i f hi
   have := hget i f (by simpa using hi)
   have hlt : i < xs.length := by
    have : i < fs.toList.length := (List.getElem?_eq_some_iff.1 hi).1
    simp at this; omega
   exact ⟨_, this.trans (je hlt)⟩)
  simpa using this
termination_by τ => (sizeOf τ, 1)
theorem Ns (hO : ∀ b, ¬ (fun _ : Nat => False) b) : ∀ (τ : Ty) (fs : List Field) (o m : Nat) (cs : List Value), Xc P τ fs o = true → τ.pos = true → cs.length = o + τ.size →
 (∀ (i : Nat) (f : Field), fs[i]? = some f → ∃ x, DataW.trod enc P w base spare held m f.type ((cs.drop f.offset).take (P.cellsOf f.type)) = some x) →
 ∃ y : T τ, Ia w (fun _ => False) τ y (cs.drop o) ∧ Zk τ y
 | .p a c2, fs, o, m, cs, hf, hp, hl, hx => by
  obtain ⟨f, r, rfl, ho, ht, hr⟩ := Ox hf
  simp only [Ty.pos, jd] at hp
  simp only [Ty.size] at hl
  obtain ⟨z, hz⟩ := hx 0 f rfl
  rw [Vg ht, ho] at hz
  obtain ⟨y1, hv1, hr1⟩ := Mr hO a f.type m _ z ht hp.1 hz
  obtain ⟨y2, hv2, hr2⟩ := Ns hO c2 r (o + a.size) m cs hr hp.2 (by omega) (fun i f' hi => hx (i + 1) f' (by simpa using hi))
  refine ⟨(y1, y2), ⟨(cs.drop o).take a.size, cs.drop (o + a.size), ?_, hv1, hv2⟩, hr1, hr2⟩
  rw [← List.drop_drop, List.take_append_drop]
 | .u, fs, o, m, cs, _, _, hl, _ => ⟨(), by simp only [Ia, Ty.size] at hl ⊢; exact List.drop_of_length_le (by omega), trivial⟩
 | .i _, fs, o, m, cs, hf, _, _, _ => by simp [Xc] at hf
 | .b, fs, o, m, cs, hf, _, _, _ => by simp [Xc] at hf
 | .o, fs, o, m, cs, hf, _, _, _ => by simp [Xc] at hf
 | .s, fs, o, m, cs, hf, _, _, _ => by simp [Xc] at hf
 | .sl _, fs, o, m, cs, hf, _, _, _ => by simp [Xc] at hf
termination_by τ => (sizeOf τ, 0)
end
end
open Go Go.WideShapes Go.ChangeShapes
def Wf (P : Program) : Ty → List TypeId → Bool
 | .p x y, t :: ts => Zb P x t && x.pos && Wf P y ts
 | .u, [] => true
 | _, _ => false
section
variable {H : Type} {enc : TypeId × Value → H} {P : Program} {w : World} {base : Nat} {spare : Nat → Bool} {held : Bool}
theorem QB {τ : Ty} {t : TypeId} {v : Value} {r : Reach} {b0 : Nat} (ht : Zb P τ t = true) (h : Value.okWide P w r b0 t v) : v = Sb τ v.cells.toList := by
 have key : ∀ {τ : Ty}, τ.isAgg = false → v.cells = #[v] → v = Sb τ v.cells.toList := by
  intro τ h1 h2
  rw [h2]; simp [Sb, h1]
 cases τ with
 | i k =>
  obtain ⟨n, rfl⟩ := okWide_int (Tok.i ht) h
  exact key rfl rfl
 | b =>
  obtain ⟨n, rfl⟩ := okWide_bool (Tok.b ht) h
  exact key rfl rfl
 | o =>
  refine key rfl ?_
  obtain ⟨et, hu⟩ := Tok.o ht
  unfold Value.okWide at h
  rw [hu] at h
  cases v with
  | agg cs => simp [Cell.okWide, Cell.ok, hu] at h
  | _ => rfl
 | s =>
  refine key rfl ?_
  have hu := Tok.s ht
  unfold Value.okWide at h
  rw [hu] at h
  cases v with
  | agg cs => simp [Cell.okWide, Cell.ok, hu] at h
  | _ => rfl
 | sl e =>
  refine key rfl ?_
  obtain ⟨et, hu, _⟩ := Tok.sl ht
  unfold Value.okWide at h
  rw [hu] at h
  cases v with
  | agg cs => simp [Cell.okWide, Cell.ok, hu] at h
  | _ => rfl
 | u =>
  obtain ⟨fs, hu, _⟩ := Yw ht
  obtain ⟨cs, rfl, _⟩ := okWide_struct hu h
  simp [Sb, Ty.isAgg, Value.cells]
 | p x y =>
  obtain ⟨fs, hu, _⟩ := Xw ht
  obtain ⟨cs, rfl, _⟩ := okWide_struct hu h
  simp [Sb, Ty.isAgg, Value.cells]
theorem Lr : ∀ {pt : Ty} {ts : List TypeId} {vs : List Value} {ds : List (DataW H)} {ps : List MemPlace}, Wf P pt ts = true → DataW.TrodAll enc P w 0 spare held ts vs ds ps →
 (∀ (j : Nat) t v, ts[j]? = some t → vs[j]? = some v → Value.okWide P w .any base t v) → ∃ x : T pt, Id w (fun _ => False) pt x vs ∧ Zk pt x
 | .p x y, t :: ts, v :: vs, d :: ds, ps, hp, h, hv => by
  simp only [Wf, jd] at hp
  obtain ⟨p, q, ⟨n, h1⟩, h2, _⟩ := h
  obtain ⟨a, ha, hra⟩ := Mr (fun _ h => h) x t n _ _ hp.1.1 hp.1.2 h1
  obtain ⟨b, hb, hrb⟩ := Lr hp.2 h2 fun j t' v' h1 h2 => hv (j + 1) t' v' (by simpa using h1) (by simpa using h2)
  exact ⟨(a, b), ⟨⟨_, QB hp.1.1 (hv 0 t v rfl rfl), ha⟩, hb⟩, hra, hrb⟩
 | .u, [], [], [], _, _, _, _ => ⟨(), trivial, trivial⟩
 | .p _ _, [], _, _, _, hp, _, _ => by simp [Wf] at hp
 | .u, _ :: _, _, _, _, hp, _, _ => by simp [Wf] at hp
 | .i _, _, _, _, _, hp, _, _ => by simp [Wf] at hp
 | .b, _, _, _, _, hp, _, _ => by simp [Wf] at hp
 | .o, _, _, _, _, hp, _, _ => by simp [Wf] at hp
 | .s, _, _, _, _, hp, _, _ => by simp [Wf] at hp
 | .sl _, _, _, _, _, hp, _, _ => by simp [Wf] at hp
 | .p _ _, _ :: _, [], _, _, _, h, _ => by simp [DataW.TrodAll] at h
 | .p _ _, _ :: _, _ :: _, [], _, _, h, _ => by simp [DataW.TrodAll] at h
 | .u, [], _ :: _, _, _, _, h, _ => by simp [DataW.TrodAll] at h
 | .u, [], [], _ :: _, _, _, h, _ => by simp [DataW.TrodAll] at h
def Rr (P : Program) (t : TypeId) : Prop := ∃ τ : Ty, Zb P τ t = true ∧ τ.pos = true
theorem Px : ∀ {τ : Ty} {fs : List Field} {o : Nat}, Xc P τ fs o = true → τ.pos = true →
 (∀ f ∈ fs, Rr P f.type) ∧ τ.size = (fs.map fun f => P.cellsOf f.type).sum ∧ ∀ (j : Nat) f, fs[j]? = some f → f.offset = o + ((fs.take j).map fun f => P.cellsOf f.type).sum
 | .u, fs, o, h, _ => by
  rw [ZF h]
  simp [Ty.size]
 | .p x y, fs, o, h, hp => by
  obtain ⟨f, r, rfl, ho, ht, hr⟩ := Ox h
  simp only [Ty.pos, jd] at hp
  obtain ⟨h1, h2, h3⟩ := Px hr hp.2
  refine ⟨?_, ?_, ?_⟩
  ·intro g hg
   rcases jp.1 hg with rfl | hg
   ·exact ⟨x, ht, hp.1⟩
   ·exact h1 g hg
  ·simp [Ty.size, Vg ht, h2]
  ·intro j g hj
   cases j with
   | zero => simp at hj; subst hj; simp [ho]
   | succ j =>
    have := h3 j g (by simpa using hj)
    simp [this, Vg ht, jt]
 | .i _, fs, o, h, _ => by simp [Xc] at h
 | .b, fs, o, h, _ => by simp [Xc] at h
 | .o, fs, o, h, _ => by simp [Xc] at h
 | .s, fs, o, h, _ => by simp [Xc] at h
 | .sl _, fs, o, h, _ => by simp [Xc] at h
theorem Jm {t : TypeId} {u : TypeDesc} (h : Rr P t) (hu : P.underlying t = some u) : (∃ k, u = .int k) ∨ u = .bool ∨ u = .string ∨ (∃ e, u = .slice e ∧ Rr P e ∧ 0 < P.cellsOf e) ∨ ∃ fs, u = .struct fs := by
 obtain ⟨τ, ht, hp⟩ := h
 cases τ with
 | i k => rw [Tok.i ht] at hu; exact .inl ⟨k, (Option.some.inj hu).symm⟩
 | b => rw [Tok.b ht] at hu; exact .inr (.inl (Option.some.inj hu).symm)
 | o => simp [Ty.pos] at hp
 | s => rw [Tok.s ht] at hu; exact .inr (.inr (.inl (Option.some.inj hu).symm))
 | sl e =>
  obtain ⟨et, h1, h2⟩ := Tok.sl ht
  rw [h1] at hu
  simp only [Ty.pos, jd] at hp
  exact .inr (.inr (.inr (.inl ⟨et, (Option.some.inj hu).symm, ⟨e, h2, hp.1⟩, by rw [Vg h2]; simpa using hp.2⟩)))
 | u => obtain ⟨fs, h1, _⟩ := Yw ht; rw [h1] at hu; exact .inr (.inr (.inr (.inr ⟨fs, (Option.some.inj hu).symm⟩)))
 | p x y => obtain ⟨fs, h1, _⟩ := Xw ht; rw [h1] at hu; exact .inr (.inr (.inr (.inr ⟨fs, (Option.some.inj hu).symm⟩)))
theorem TA : Kids P (Rr P) := by
 refine ⟨?_, ?_, ?_, ?_, ?_⟩
 ·intro t e ht hu
  rcases Jm ht hu with ⟨k, h⟩ | h | h | ⟨e', h, _⟩ | ⟨fs, h⟩ <;> simp at h
 ·intro t e ht hu
  rcases Jm ht hu with ⟨k, h⟩ | h | h | ⟨e', h, h2, _⟩ | ⟨fs, h⟩ <;> simp at h
  rw [h]; exact h2
 ·intro t e n ht hu
  rcases Jm ht hu with ⟨k, h⟩ | h | h | ⟨e', h, _⟩ | ⟨fs, h⟩ <;> simp at h
 ·intro t fs ht hu
  obtain ⟨τ, ht, hp⟩ := ht
  cases τ with
  | i k => rw [Tok.i ht] at hu; simp at hu
  | b => rw [Tok.b ht] at hu; simp at hu
  | o => simp [Ty.pos] at hp
  | s => rw [Tok.s ht] at hu; simp at hu
  | sl e => obtain ⟨et, h1, _⟩ := Tok.sl ht; rw [h1] at hu; simp at hu
  | u =>
   obtain ⟨fs', h1, h2⟩ := Yw ht
   rw [h1] at hu
   simp only [jc, TypeDesc.struct.injEq] at hu
   subst hu
   have : fs'.toList = [] := by simpa using h2
   rw [Vg ht, this]
   simp [Ty.size]
  | p x y =>
   obtain ⟨fs', h1, h2⟩ := Xw ht
   rw [h1] at hu
   simp only [jc, TypeDesc.struct.injEq] at hu
   subst hu
   obtain ⟨a, b, c⟩ := Px h2 hp
   exact ⟨a, by rw [Vg ht, b], fun j f hj => by simpa using c j f hj⟩
 ·intro t k e ht hu
  rcases Jm ht hu with ⟨k, h⟩ | h | h | ⟨e', h, _⟩ | ⟨fs, h⟩ <;> simp at h
theorem Ss : ∀ {pt : Ty} {ts : List TypeId}, Wf P pt ts = true → ∀ t ∈ ts, Rr P t
 | .p x y, t :: ts, h, t', ht => by
  simp only [Wf, jd] at h
  rcases jp.1 ht with rfl | ht
  ·exact ⟨x, h.1.1, h.1.2⟩
  ·exact Ss h.2 t' ht
 | .u, [], _, _, ht => by simp at ht
 | .p _ _, [], _, _, ht => by simp at ht
 | .u, _ :: _, h, _, _ => by simp [Wf] at h
 | .i _, _, h, _, _ => by simp [Wf] at h
 | .b, _, h, _, _ => by simp [Wf] at h
 | .o, _, h, _, _ => by simp [Wf] at h
 | .s, _, h, _, _ => by simp [Wf] at h
 | .sl _, _, h, _, _ => by simp [Wf] at h
theorem Hq {w' : World} {sp' : Nat → Bool} : ∀ {ts : List TypeId} {vs : List Value} {ds : List (DataW H)} {ps : List MemPlace}, (∀ t ∈ ts, Rr P t) →
 DataW.TrodAll enc P w 0 (fun _ => true) true ts vs ds ps → (∀ p ∈ ps, w.sameAt w' p) → (∀ p ∈ ps, sp' p.block = true) → DataW.TrodAll enc P w' 0 sp' true ts vs ds ps
 | [], [], [], _, _, h, _, _ => h
 | t :: ts, v :: vs, d :: ds, ps, hp, h, h1, h2 => by
  obtain ⟨p, q, ⟨n, ha⟩, hb, rfl⟩ := h
  refine ⟨p, q, ⟨n, DataW.trod_stays TA ?_ (fun h => by simp at h) (hp t (by simp)) ha (fun z hz => h1 z (List.mem_append_left _ hz)) (fun z hz => h2 z (List.mem_append_left _ hz))⟩,
   Hq (fun t ht => hp t (by simp [ht])) hb (fun z hz => h1 z (List.mem_append_right _ hz)) (fun z hz => h2 z (List.mem_append_right _ hz)), rfl⟩
  intro t e ht hu
  rcases Jm ht hu with ⟨k, h⟩ | h | h | ⟨e', h, _, h2⟩ | ⟨fs, h⟩ <;> simp at h
  rw [h]; exact h2
 | [], _ :: _, _, _, _, h, _, _ => by simp [DataW.TrodAll] at h
 | [], [], _ :: _, _, _, h, _, _ => by simp [DataW.TrodAll] at h
 | _ :: _, [], _, _, _, h, _, _ => by simp [DataW.TrodAll] at h
 | _ :: _, _ :: _, [], _, _, h, _, _ => by simp [DataW.TrodAll] at h
theorem Vs : ∀ {ts : List TypeId} {vs : List Value} {ds : List (DataW H)} {ps : List MemPlace}, DataW.TrodAll enc P w base spare held ts vs ds ps → ds.length = ts.length
 | [], [], [], _, _ => rfl
 | _ :: _, _ :: _, _ :: _, _, h => by
  obtain ⟨_, _, _, h, _⟩ := h
  simp [Vs h]
 | [], _ :: _, _, _, h => by simp [DataW.TrodAll] at h
 | [], [], _ :: _, _, h => by simp [DataW.TrodAll] at h
 | _ :: _, [], _, _, h => by simp [DataW.TrodAll] at h
 | _ :: _, _ :: _, [], _, h => by simp [DataW.TrodAll] at h
theorem Nm.but {w w' : World} (h : Nm w w' fun _ => False) (may : MemPlace → Prop) : w.keptBut w' may := by
 refine ⟨h.os, h.output, fun i hi => ?_⟩
 rw [h.block i hi (fun h => h)]
 cases w.heap[i]? with
 | none => rfl
 | some o =>
  cases o with
  | cells c t fr => exact ⟨rfl, rfl, rfl, fun _ _ => rfl⟩
  | map es clock => exact .inr ⟨rfl, rfl⟩
  | _ => rfl
end
noncomputable def Cb {X R : Type} (step : X → Option (X ⊕ R)) (x : X) : Option R :=
 open Classical in if h : ∃ m y, Mm step m x y then some h.choose_spec.choose else none
theorem Mm.det {X R : Type} {step : X → Option (X ⊕ R)} : ∀ {m n : Nat} {x : X} {y z : R}, Mm step m x y → Mm step n x z → y = z
 | 0, _, _, _, _, h, _ => h.elim
 | _ + 1, 0, _, _, _, _, h => h.elim
 | m + 1, n + 1, x, y, z, h, h' => by
  rcases h with h | ⟨x1, h, h1⟩ <;> rcases h' with h' | ⟨x2, h', h2⟩
  ·rw [h] at h'; simpa using h'
  ·rw [h] at h'; simp at h'
  ·rw [h] at h'; simp at h'
  ·rw [h] at h'
   simp only [jc, Sum.inl.injEq] at h'
   subst h'
   exact Mm.det h1 h2
theorem Jo {X R : Type} {step : X → Option (X ⊕ R)} {x : X} {y : R} : Cb step x = some y ↔ ∃ m, Mm step m x y := by
 unfold Cb
 constructor
 ·intro h
  split at h
  ·rename_i hh
   simp only [jc] at h
   exact ⟨_, h ▸ hh.choose_spec.choose_spec⟩
  ·simp at h
 ·rintro ⟨m, h⟩
  have hh : ∃ m y, Mm step m x y := ⟨m, y, h⟩
  rw [dif_pos hh]
  exact congrArg some (Mm.det hh.choose_spec.choose_spec h)
theorem Ju {X R : Type} {step : X → Option (X ⊕ R)} (x : X) : Cb step x = (step x).bind (j5 (Cb step) some) := by
 apply Option.ext
 intro y
 rw [Jo]
 constructor
 ·rintro ⟨m, h⟩
  cases m with
  | zero => exact h.elim
  | succ m =>
   rcases h with h | ⟨x', h, h'⟩
   ·simp [h]
   ·simp [h, Jo.2 ⟨m, h'⟩]
 ·intro h
  rw [qc] at h
  obtain ⟨z, hz, h⟩ := h
  cases z with
  | inl x' =>
   obtain ⟨m, hm⟩ := Jo.1 h
   exact ⟨m + 1, .inr ⟨x', hz, hm⟩⟩
  | inr z =>
   simp only [Sum.elim_inr, jc] at h
   subst h
   exact ⟨1, .inl hz⟩
def lp (fn : Func) (i : Nat) : Code := (Nc (fn.body.getD .skip)).getD i .skip
theorem ZC {G : Tc} {L : List (Nat × Hb)} {fn : Func} {i r : Nat} {ls : Hb} {R : ls.inT.X → Option (ls.inT.X ⊕ (ls.outT.X ⊕ ls.retT.X))}
 (h1 : Ve (lp fn i) = some r) (h2 : (La L r) = some ls) (h3 : ls.F = Cb R) (h4 : ∀ x, Lo G L ls (lp fn i) x = R x) : Cc G L (lp fn i) := by
 intro r' ls' hr hl x y hy
 rw [h1] at hr
 simp only [jc] at hr
 subst hr
 rw [h2] at hl
 simp only [jc] at hl
 subst hl
 rw [h3] at hy
 obtain ⟨m, hm⟩ := Jo.1 hy
 have : Lo G L ls (lp fn i) = R := funext h4
 rw [this]
 exact ⟨m, hm⟩
theorem Sv {G : Tc} {L : List (Nat × Hb)} {fn : Func} {k : Nat} (hk : Nat.beq (Nc (fn.body.getD .skip)).length k = true) (h : ∀ i, i < k → Cc G L (lp fn i)) :
 ∀ b, b ∈ Nc (fn.body.getD .skip) → Cc G L b := by
 intro b hb
 obtain ⟨i, hi, rfl⟩ := List.mem_iff_getElem.1 hb
 have := h i (by rw [← ju hk]; exact hi)
 unfold lp at this
 rwa [qf, je hi] at this
theorem Ac {p : Nat → Prop} : ∀ i, i < 0 → p i := fun i h => absurd h (Nat.not_lt_zero i)
theorem Ub {p : Nat → Prop} {k : Nat} (h : p k) (hr : ∀ i, i < k → p i) : ∀ i, i < k + 1 → p i := by
 intro i hi
 rcases Nat.lt_or_eq_of_le (Nat.lt_succ_iff.1 hi) with hi | rfl
 ·exact hr i hi
 ·exact h
section
variable {P : Program}
theorem FE {l : List (Nat × Ty)} {fs : List (Nat × Mb)} {m : List (Nat × Nat)} {z : Bool} {ar : List (Nat × Ty × Nat)} {mv ml : List Nat}
 (h : ((l.all fun x => Zb P x.2 x.1) && (ar.all fun x => Xu P x.1 x.2.1 x.2.2)) = true) : EnvTy P ⟨l, fs, m, z, ar, mv, ml⟩ := by
 simp only [jd] at h
 exact ⟨fun t τ ht => List.all_eq_true.1 h.1 (t, τ) (Ri ht), fun t e n ht => List.all_eq_true.1 h.2 (t, e, n) (Ri ht)⟩
theorem TB {I : Ph} {l : List (Nat × Ty)} {m : List (Nat × Nat)} {z : Bool} {ar : List (Nat × Ty × Nat)} {mv ml : List Nat}
 (h : ((l.all fun x => Zb P x.2 x.1) && (ar.all fun x => Xu P x.1 x.2.1 x.2.2)) = true) : Ah P I ⟨l, [], m, z, ar, mv, ml⟩ :=
 { toEnvTy := FE h, fn := fun f sem h => by simp [La] at h }
theorem Ah.cons {I : Ph} {l : List (Nat × Ty)} {fs : List (Nat × Mb)} {m : List (Nat × Nat)} {z : Bool} {ar : List (Nat × Ty × Nat)} {mv ml : List Nat} {f : Nat} {sem : Mb} (hs : Al P I f sem)
 (h : Ah P I ⟨l, fs, m, z, ar, mv, ml⟩) : Ah P I ⟨l, (f, sem) :: fs, m, z, ar, mv, ml⟩ :=
 { toEnvTy := ⟨h.ty, h.ar⟩, fn := fun g s hg => by
    simp only [Jb] at hg
    split at hg
    ·rename_i e
     simp only [jc] at hg
     subst e; subst hg
     exact hs
    ·exact h.fn g s hg }
theorem Mv {fn : Func} (h : fn.body.isSome = true) : fn.body = some (fn.body.getD .skip) := by
 cases hb : fn.body with
 | none => rw [hb] at h; simp at h
 | some c => rfl
variable {I : Ph} {G : Tc} {L : List (Nat × Hb)}
theorem Xv (hG : Ah P I G) (hm : P.follows .mixedOrders = true) {f : FuncId} {fn : Func} {k : Nat} {pt rt : Ty} {fr : List Bool} {F : T pt → Option (T rt)} (hf : P.funcs[f]? = some fn)
 (hb : (fn.body.isSome && !(fn.name == "runtime.NumGoroutine") && jw pt.npar fn.ntmps && Nat.beq (Nc (fn.body.getD .skip)).length k) = true)
 (hL : ∀ i, i < k → Cc G L (lp fn i)) (hF : ∀ x, VB G L fn pt rt fr x = F x) : Al P I f (.pu pt rt fr F) := by
 simp only [jd, Bool.not_eq_true'] at hb
 exact GF hG hm hf (Mv hb.1.1.1) hb.1.1.2 (Sv hb.2 hL) (Nat.le_of_ble_eq_true hb.1.2) fun x r h => (hF x).trans h
theorem GD (hG : Ah P I G) (hfz : G.fz = false) (hm : P.follows .mixedOrders = true) {f : FuncId} {fn : Func} {k : Nat} {τ pt rt : Ty} {fr : List Bool} {F : T τ → T pt → Option (T τ × T rt)} (hf : P.funcs[f]? = some fn)
 (hb : (fn.body.isSome && !(fn.name == "runtime.NumGoroutine") && jw (pt.npar + 1) fn.ntmps && Nat.beq (Nc (fn.body.getD .skip)).length k) = true)
 (hL : ∀ i, i < k → Cc G L (lp fn i)) (hF : ∀ x0 x, Vw G L fn τ pt rt fr x0 x = F x0 x) : Al P I f (.io τ pt rt fr F) := by
 simp only [jd, Bool.not_eq_true'] at hb
 exact FF hG hfz hm hf (Mv hb.1.1.1) hb.1.1.2 (Sv hb.2 hL) (Nat.le_of_ble_eq_true hb.1.2) fun x0 x r h => (hF x0 x).trans h
end
def hd (h : T .o) : Value := .slice h.1 h.2.1 h.2.2
section
variable {P : Program} {w w' : World}
end
open Classical in
def FD (n : Nat) : Bool := jw n 1048576
noncomputable def Gy (x y : List UInt8) : Option (List (List UInt8) × Unit) :=
 bif FD (ja x) && jw 1 (ja y) then some (Lib.split x y, ()) else none
theorem GG {cur : Array Value} {k : Nat} {v : Value} (h : cur[k]? = some v) : Xb cur k 1 = [v] := by
 apply List.ext_getElem?
 intro j
 by_cases hj : j = 0
 ·subst hj; rw [Mc cur k 1 0 (by omega)]; simpa using h
 ·have hk : k < cur.size := (Array.getElem?_eq_some_iff.1 h).1
  have hl : (Xb cur k 1).length = 1 := Qb (by omega)
  rw [List.getElem?_eq_none (by omega), List.getElem?_eq_none (by simp; omega)]
theorem Lp (w : World) (o : Obj) : (w.alloc o).heap = w.heap.push o := rfl
theorem Wy {P : Program} {ρ : Go.Shelf.Ren} {f : FuncId} {I : Ph} (L : Go.Proofs.LaysM.n146 P ρ) (hf : ρ.f 146 = f)
 (hI : ∀ w, I.p w → ∃ m, w.cell? ⟨ρ.g 1, 0, none⟩ = some (.int .i64 m)) : Al P I f (.pu (.p .s (.p .s .u)) (.p (.sl .s) .u) [true] (fun x => Gy x.1 x.2.1)) := by
 subst hf
 refine ⟨⟨_, L.f146, rfl, rfl⟩, ?_⟩
 intro O w x r args hF hA hO hi hb
 match args, hA with
 | [a, b], hA =>
  obtain ⟨⟨ca, rfl, hca⟩, ⟨cb, rfl, hcb⟩, _⟩ := hA
  have hca' : ca = [.string ⟨List.toArray x.1⟩] := hca
  have hcb' : cb = [.string ⟨List.toArray x.2.1⟩] := hcb
  subst hca'; subst hcb'
  simp only [Gy, FD] at hF
  cases h1 : jw (ja x.1) 1048576 with
  | false => rw [h1] at hF; simp at hF
  | true =>
  cases h2 : jw 1 (ja x.2.1) with
  | false => rw [h1, h2] at hF; simp at hF
  | true =>
  rw [h1, h2] at hF
  simp only [Bool.and_true, cond_true, jc] at hF
  subst hF
  have h1' := Nat.le_of_ble_eq_true h1
  have h2' := Nat.le_of_ble_eq_true h2
  obtain ⟨m, hm⟩ := hI w hi
  have hs1 : (⟨List.toArray x.1⟩ : ByteArray).size = ja x.1 := by show (List.toArray x.1).size = _; simp
  have hs2 : (⟨List.toArray x.2.1⟩ : ByteArray).size = ja x.2.1 := by show (List.toArray x.2.1).size = _; simp
  have hd : (Lib.splitB ⟨List.toArray x.2.1⟩ 0 (Lib.countB ⟨List.toArray x.1⟩ ⟨List.toArray x.2.1⟩) ⟨List.toArray x.1⟩).map (fun z => z.data.toList) = Lib.split x.1 x.2.1 := by
   rw [Lib.splitB_data]; rfl
  have hlen := Lib.splitB_all ⟨List.toArray x.2.1⟩ (by omega) 0 _ ⟨List.toArray x.1⟩ rfl
  have hle := Lib.countB_le ⟨List.toArray x.2.1⟩ (by omega) _ ⟨List.toArray x.1⟩ (jo _)
  obtain ⟨zs, hz⟩ : ∃ zs, Lib.splitB ⟨List.toArray x.2.1⟩ 0 (Lib.countB ⟨List.toArray x.1⟩ ⟨List.toArray x.2.1⟩) ⟨List.toArray x.1⟩ = zs := ⟨_, rfl⟩
  rw [hz] at hlen hd
  obtain ⟨n, hcn⟩ : ∃ n, Lib.countB ⟨List.toArray x.1⟩ ⟨List.toArray x.2.1⟩ = n := ⟨_, rfl⟩
  rw [hcn] at hlen hle
  have hn : (Lib.split x.1 x.2.1).length = n + 1 := by rw [← hd, List.length_map, hlen]
  refine (Go.Proofs.Any.strings_Split { L with } L.i9 ⟨List.toArray x.1⟩ ⟨List.toArray x.2.1⟩ m w (by omega) hm (by omega)).mono ?_
  rintro e w' ⟨rfl, rfl⟩
  rw [hz]
  refine ⟨[.slice (some ⟨w.heap.size, 0, none⟩) (n + 1) (n + 1)], [w.heap.size], by rw [hcn]; rfl, ⟨?_, ?_, rfl, rfl, rfl⟩, ?_, by simp, by simp⟩
  ·rw [Lp]; simp
  ·intro b hb _
   rw [Lp]
   simp [Array.getElem?_push_lt hb, Array.getElem?_eq_getElem hb]
  ·refine ⟨[.slice (some ⟨w.heap.size, 0, none⟩) (n + 1) (n + 1)], [w.heap.size], [], rfl, rfl, ?_, rfl⟩
   show Wa _ (.sl .s) (Lib.split x.1 x.2.1) _ _
   refine ⟨by rw [hn]; unfold Se; omega, .inr ⟨w.heap.size, 0, n + 1, (zs.map Value.string).toArray, ρ.t 9, List.replicate (n + 1) [], ?_, ?_, by omega, by unfold Se; omega, ?_, ?_, ?_, ?_⟩⟩
   ·rw [hn]
   ·rw [Lp]; simp
   ·simp [Ty.size, hlen]
   ·simp
   ·simp [hn]
   ·intro i hi
    have hi' : i < n + 1 := by omega
    have hiz : i < zs.length := by omega
    refine ⟨?_, by simp [qf, List.getElem?_replicate, hi']⟩
    show Xb _ (0 + i * 1) 1 = _
    apply GG
    have : (Lib.split x.1 x.2.1)[i]'hi = (zs[i]).data.toList := by simp [← hd]
    show _ = some (Value.string ⟨List.toArray ((Lib.split x.1 x.2.1)[i]'hi)⟩)
    rw [this]
    simp [hiz]
open Go Go.WideShapes Go.ChangeShapes
def PB : DataW Unit → List Value
 | .lit (.int k n) => [.int k n]
 | .lit (.bool b) => [.bool b]
 | .agg l => cellsDs l
 | _ => []
where cellsDs : List (DataW Unit) → List Value
 | [] => []
 | d :: r => PB d ++ cellsDs r
def CG (d : DataW Unit) : Obj → Obj
 | .cells _ t frozen => .cells (PB d).toArray t frozen
 | o => o
def DG (P : Program) (h : Array Obj) (x : String × DataW Unit) : Array Obj :=
 match P.globalNamed x.1 with
 | some g => h.modify g (CG x.2)
 | none => h
noncomputable def PF (P : Program) (os : Os) (laid : List (String × DataW Unit)) : World :=
 let w := World.holding P os ⟨#[], #[], []⟩
 { w with heap := laid.foldl (DG P) w.heap }
def JE (g : Nat) : Ph := ⟨g + 1, fun w => ∃ m, w.cell? ⟨g, 0, none⟩ = some (.int .i64 m), fun w w' hb h => by
 obtain ⟨m, hm⟩ := h
 refine ⟨m, ?_⟩
 unfold World.cell? at hm ⊢
 rw [hb g (Nat.lt_succ_self g)]
 exact hm⟩
theorem ZB {g : Nat} {w : World} (h : (JE g).p w) : (JE g).base ≤ w.heap.size := by
 obtain ⟨m, hm⟩ := h
 unfold World.cell? at hm
 have : g < w.heap.size := by
  apply Classical.byContradiction
  intro hn
  simp only [Array.getElem?_eq_none (show w.heap.size ≤ g by omega)] at hm
  simp at hm
 exact this
theorem Gq {P : Program} {l : List (String × DataW Unit)} {w : World} (h : (l.filter fun x => x.2.handleName?.isSome) = []) : laidMetH P l w = laidMet P l w := by
 unfold laidMetH
 rw [h]
section
variable {H : Type} {enc : TypeId × Value → H}
theorem As {a : Assume} {C : Checked} {os : Os} {f : FuncId} {fn : Func} {s : ChangeSpec} {conds : List PathCond} {apart fresh handsOn again : Bool} {X : World → Array Value → Prop}
 (hX : ∀ (w w' : World) (args : Array Value), w.heap = w'.heap → X w args → X w' args)
 (own : ownKnob C.prog.godebug = none) (started : os.Started) (noInit : C.prog.inits.idxOf? f = none) (hfn : C.prog.funcs[f]? = some fn)
 (witness : ∃ (w : World) (tape : Tape) (i : Input), w.os = os ∧ (w.forCall tape i).Shaped C.prog ∧ i.vars = [] ∧ Input.okWide C.prog (w.forCall tape i) .any w.heap.size f i ∧
  ((s.pre enc C.prog fn conds apart (w.forCall tape i).memory i.args ∧ X (w.forCall tape i).memory i.args) ∧ sizedMet enc C.prog fn (OpenSpec.ofChange s) apart (w.forCall tape i).memory i.args) ∧ a.holds C.prog (lone (Frame.enter C.prog f i.args .normal) [] (w.forCall tape i)))
 (contract : ∀ (W : World) (base : Nat) (args : Array Value) (ds gs : List (DataW H)) (before : List MemPlace),
  (∀ (j : Nat) t v, fn.params[j]? = some t → args[j]? = some v → Value.okWide C.prog W .any base t v) →
  DataW.Whole enc C.prog fn.params.toList s.vars apart W args.toList ds gs before →
  conds.all (PathCond.test C.prog ⟨fn.params.toList, ds, s.plain.varTypes C.prog, gs⟩) = true →
  (DataW.weightsEach C.prog (fn.params.toList ++ s.plain.varTypes C.prog) (ds ++ gs)).all (· ≤ reachBytes) = true → W.ShapedOpen C.prog → X W args →
  a.holds C.prog (lone (Frame.enter C.prog f args .normal) [] W) →
  Calls C.prog f args W fun e W' => ∃ v, e = .returned v ∧ s.post enc C.prog fn apart fresh handsOn again W args v W') :
 ReturnsInHanded a C os f .any (fun w args => (s.pre enc C.prog fn conds apart w args ∧ X w args) ∧ sizedMet enc C.prog fn (OpenSpec.ofChange s) apart w args) (s.post enc C.prog fn apart fresh handsOn again) := by
 refine returnsInHanded_of_calls own started noInit witness ?_
 intro w tape i _ hsh _ hok hpre hholds
 obtain ⟨_, _, _, fn', hfn', _, _, _, _, hval⟩ := hok
 have e : fn' = fn := Option.some.inj (hfn'.symm.trans hfn)
 subst e
 obtain ⟨⟨⟨ds, gs, before, hw, hc⟩, hx⟩, hz⟩ := hpre
 have hw' := DataW.Whole.of_heap (w' := w.forCall tape i) (by rfl) hw
 refine (contract (w.forCall tape i) w.heap.size i.args ds gs before hval hw' hc (hz.weights hw) hsh (hX _ _ _ (by rfl) hx) hholds).mono fun e W' ⟨v, he, hp⟩ => ?_
 subst he
 exact ChangeSpec.post_blind hp
theorem Ux {C : Checked} {os : Os} {f : FuncId} {fn : Func} {s : ChangeSpec} {apart fresh handsOn again : Bool} {pt : Ty} {fl : Bool} {F : T pt → Option (Bool × Unit)} {tb : TypeId} {I : Ph} {laid : List (String × DataW Unit)}
 (own : ownKnob C.prog.godebug = none) (started : os.Started) (noInit : C.prog.inits.idxOf? f = none) (hfn : C.prog.funcs[f]? = some fn)
 (witness : ∃ (w : World) (tape : Tape) (i : Input), w.os = os ∧ (w.forCall tape i).Shaped C.prog ∧ i.vars = [] ∧ Input.okWide C.prog (w.forCall tape i) .any w.heap.size f i ∧
  ((s.pre enc C.prog fn [] apart (w.forCall tape i).memory i.args ∧ laidMetH C.prog laid (w.forCall tape i).memory) ∧ sizedMet enc C.prog fn (OpenSpec.ofChange s) apart (w.forCall tape i).memory i.args) ∧ ({} : Assume).holds C.prog (lone (Frame.enter C.prog f i.args .normal) [] (w.forCall tape i)))
 (hvars : s.vars = []) (hs : ∀ ds : List (DataW H), ds.length = fn.params.toList.length → s.fn H ds = { results := [.lit (.bool true)], args := ds })
 (hp : Wf C.prog pt fn.params.toList = true) (hr : fn.resultTypes = #[tb]) (htb : C.prog.underlying tb = some .bool)
 (hsound : Al C.prog I f (.pu pt (.p .b .u) [fl] F)) (hF : ∀ x, Zk pt x → F x = some (true, ()))
 (hI : ∀ W : World, W.ShapedOpen C.prog → laidMetH C.prog laid W → I.p W ∧ I.base ≤ W.heap.size) (hnh : (laid.filter fun x => x.2.handleName?.isSome) = []) :
 ReturnsInHanded {} C os f .any (fun w args => (s.pre enc C.prog fn [] apart w args ∧ laidMetH C.prog laid w) ∧ sizedMet enc C.prog fn (OpenSpec.ofChange s) apart w args) (s.post enc C.prog fn apart fresh handsOn again) := by
 refine As (X := fun w _ => laidMetH C.prog laid w) (fun _ _ _ hh h => by
  rw [Gq hnh] at h ⊢
  exact h.of_heap hh) own started noInit hfn witness ?_
 intro W b0 args ds gs before hval hW _ _ hsh hX _
 have hW0 := hW
 obtain ⟨p, q, hA, hV, hps, hfz, hnd⟩ := hW
 rw [hvars] at hV
 have hgs : gs = [] ∧ q = [] := by
  cases gs with
  | nil => exact ⟨rfl, hV⟩
  | cons _ _ => exact hV.elim
 obtain ⟨rfl, rfl⟩ := hgs
 simp only [List.append_nil] at hps
 subst hps
 obtain ⟨x, hx, hrx⟩ := Lr (base := b0) hp hA fun j t v h1 h2 => hval j t v (by simpa using h1) (by simpa using h2)
 have hcall := hsound.2 (fun _ => False) W x (true, ()) args.toList (hF x hrx) hx (fun _ h => h.elim) (hI W hsh hX).1 (hI W hsh hX).2
 refine hcall.mono fun e W' hret => ?_
 cases e with
 | returned v =>
  obtain ⟨vs, Fr, hv, hk, hR, _, _⟩ := hret
  have hvt : v = .bool true := by
   cases vs with
   | nil => simp [Nb] at hR
   | cons a r =>
    obtain ⟨cs, F1, F2, ha, _, hown, hrest⟩ := hR
    cases r with
    | cons _ _ => simp [Nb] at hrest
    | nil =>
     have hcs : cs = [.bool true] := by
      cases fl with
      | true => exact hown.1
      | false => exact hown.1
     rw [hv, Qo, ha, hcs]
     rfl
  subst hvt
  refine ⟨_, rfl, ?_⟩
  have hsp := hs ds (Vs hA)
  have hlt : ∀ z ∈ before, z.block < W.heap.size := hW0.lt
  have hsame : ∀ z ∈ before, W.sameAt W' z := by
   intro z hz
   have hb := hk.block z.block (hlt z hz) (fun h => h)
   cases z with
   | cell b off =>
    show W'.cell? _ = W.cell? _
    simp only [World.cell?]
    rw [show W'.heap[b]? = W.heap[b]? from hb]
   | map b => exact hb
  have hargs : ∀ sp : Nat → Bool, (∀ z ∈ before, sp z.block = true) → DataW.TrodAll enc C.prog W' 0 sp true fn.params.toList args.toList ds before :=
   fun sp h => Hq (Ss hp) hA hsame h
  have hres : ∀ (b : Nat) (sp : Nat → Bool) (hd : Bool), DataW.TrodAll enc C.prog W' b sp hd fn.resultTypes.toList ((Value.bool true).resultList fn.resultTypes.size) [.lit (.bool true)] [] := by
   intro b sp hd
   rw [hr]
   exact trodAll_mk1 (Go.RowKit.shut_bool htb true)
  have hold : ∀ z ∈ before, (fun b => decide (b < W.heap.size)) z.block = true := fun z hz => by simpa using hlt z hz
  refine ⟨ds, [], before, [], before, [], hW0, ?_, ?_, ?_, hk.but _, fun _ => ⟨?_, ds.cons (.lit (.bool true)), [], before, ⟨before, [], ?_, ?_, by simp, ?_, ?_⟩, fun z hz _ => hz⟩⟩
  ·rw [List.append_nil, hsp]; exact hres _ _ _
  ·rw [List.append_nil, hsp]; exact hargs _ hold
  ·rw [List.append_nil, hsp, hvars]; rfl
  ·intro j t r hj hv
   rw [hr] at hj hv
   match j, hj, hv with
   | 0, hj, hv =>
    simp only [List.getElem?_toArray, List.getElem?_cons_zero, jc] at hj
    simp [Value.resultList] at hv
    subst hj; subst hv
    exact Go.RowKit.okWide_bool_mk htb true
  ·exact trodAll_append (hargs _ (fun _ _ => rfl)) (hres _ _ _)
  ·rw [hvars]; rfl
  ·intro b off hz
   have := hfz b off hz
   unfold World.frozen? at this ⊢
   rw [show W'.heap[b]? = W.heap[b]? from hk.block b (hlt _ hz) (fun h => h)]
   exact this
  ·exact hnd
 | _ => exact hret.elim
end
def Dj {α S R : Type} (g : Nat → S → α → S ⊕ R) : Nat → S → List α → S ⊕ R
 | _, s, [] => .inl s
 | k, s, x :: xs => match g k s x with
  | .inl s' => Dj g (k + 1) s' xs
  | .inr r => .inr r
section
variable {X R : Type} {step : X → Option (X ⊕ R)}
theorem Wb {x : X} {z : Option (X ⊕ R)} (h : step x = z) : Cb step x = z.bind (j5 (Cb step) some) := by
 rw [Ju, h]
theorem Sy {α S R' : Type} (xs : List α) (g : Nat → S → α → S ⊕ R') (I : Nat → S → X) (out : S → R) (ex : R' → R) (Ph : Nat → S → Prop)
 (h : ∀ k (hk : k < xs.length) s, Ph k s → step (I k s) = some (match g k s xs[k] with | .inl s' => .inl (I (k + 1) s') | .inr r => .inr (ex r)) ∧ ∀ s', g k s xs[k] = .inl s' → Ph (k + 1) s')
 (he : ∀ s, Ph xs.length s → step (I xs.length s) = some (.inr (out s))) (s0 : S) (h0 : Ph 0 s0) :
 Cb step (I 0 s0) = some (match Dj g 0 s0 xs with | .inl s => out s | .inr r => ex r) := by
 have key : ∀ (ys : List α) (k : Nat) (s : S), xs.drop k = ys → k ≤ xs.length → Ph k s → Cb step (I k s) = some (match Dj g k s ys with | .inl s => out s | .inr r => ex r) := by
  intro ys
  induction ys with
  | nil =>
   intro k s hd hle hi
   have : k = xs.length := by
    have := congrArg ja hd
    simp at this
    omega
   subst this
   rw [Wb (he s hi)]
   rfl
  | cons y ys ih =>
   intro k s hd hle hi
   have hk : k < xs.length := by
    have := congrArg ja hd
    simp at this
    omega
   have hy : xs[k] = y := by
    have := congrArg (·[0]?) hd
    simp [List.getElem?_drop, je hk] at this
    exact this
   obtain ⟨h1, h2⟩ := h k hk s hi
   rw [Wb h1]
   rw [hy] at h2 ⊢
   simp only [Dj]
   cases hg : g k s y with
   | inl s' =>
    simp only [jb, qg]
    refine ih (k + 1) s' ?_ hk (h2 s' hg)
    rw [← List.drop_drop, hd]
    rfl
   | inr r => rfl
 exact key xs 0 s0 rfl (Nat.zero_le _) h0
theorem Rv (I : Nat → X) (n : Nat) (out : R) (h : ∀ k, k < n → step (I k) = some (.inl (I (k + 1)))) (he : step (I n) = some (.inr out)) : Cb step (I 0) = some out := by
 have key : ∀ m k, m + k = n → Cb step (I k) = some out := by
  intro m
  induction m with
  | zero =>
   intro k hk
   have : k = n := by omega
   subst this
   rw [Wb he]; rfl
  | succ m ih =>
   intro k hk
   rw [Wb (h k (by omega))]
   exact ih (k + 1) (by omega)
 exact key n 0 (by omega)
end
theorem Pr {n : Int} (h1 : -9223372036854775808 ≤ n) (h2 : n ≤ 9223372036854775807) : jz .i64 n = n := IntWalk.i64_in n ⟨h1, h2⟩
theorem Ed {k : Nat} (h : k < 9223372036854775807) : jz .i64 ((k : Int) + 1) = ((k + 1 : Nat) : Int) := by
 rw [Pr (by omega) (by omega)]; omega
section
variable {α : Type}
theorem AG (xs : List α) (k : Nat) : Pd xs (k : Int) = xs[k]? := by simp [Pd]
theorem Pf {xs : List α} {k : Nat} (h : k < xs.length) : Pd xs (k : Int) = some xs[k] := by rw [AG, je h]
theorem Ap (n k : Nat) : Th n (k : Int) = decide (k < n) := by
 simp [Th]
theorem Sa {p : Prop} [Decidable p] (h : p) : decide p = true := decide_eq_true h
theorem Xa {p : Prop} [Decidable p] (h : ¬ p) : decide p = false := decide_eq_false h
theorem ID {xs : List α} {k : Nat} (h : k < xs.length) : xs.take (k + 1) = xs.take k ++ [xs[k]] := by
 rw [List.take_succ_eq_append_getElem h]
end
theorem EF {α : Type} {xs : List α} {z : α} {k : Nat} (h : k < xs.length) : (xs.take k ++ List.replicate (xs.length - k) z).set k xs[k] = xs.take (k + 1) ++ List.replicate (xs.length - (k + 1)) z := by
 have h1 : (xs.take k).length = k := by simp; omega
 rw [List.set_append_right _ _ (by omega), h1, Nat.sub_self, show xs.length - k = (xs.length - (k + 1)) + 1 by omega, List.replicate_succ, List.set_cons_zero, ID h, List.append_assoc]
 rfl
theorem HE {α : Type} {xs : List α} {z : α} {k : Nat} (h : k ≤ xs.length) : (xs.take k ++ List.replicate (xs.length - k) z).length = xs.length := by
 simp; omega
theorem SB {α R : Type} {X : Type} {step : X → Option (X ⊕ R)} (xs : List α) (z : α) (I : List α → Int → X) (out : List α → R)
 (h : ∀ k (hk : k < xs.length) (o : List α), o.length = xs.length → step (I o (k : Int)) = some (.inl (I (o.set k xs[k]) (jz .i64 ((k : Int) + 1)))))
 (he : ∀ o, step (I o (xs.length : Int)) = some (.inr (out o))) (hn : xs.length < 9223372036854775807) :
 Cb step (I (List.replicate xs.length z) 0) = some (out xs) := by
 have := Rv (step := step) (fun k => I (xs.take k ++ List.replicate (xs.length - k) z) (k : Int)) xs.length (out xs) (fun k hk => by
  rw [h k hk _ (HE (by omega)), EF hk, Ed (by omega)]) (by
  rw [List.take_length, Nat.sub_self]
  simpa using he xs)
 simpa using this
theorem FG {n : Nat} (h : n ≤ Zi) : (((n : Int) == (n : Int)) && (decide ((0 : Int) ≤ (n : Int)) && decide ((n : Int) ≤ ((Zi : Nat) : Int)))) = true := by
 simp only [beq_self_eq_true, jk, jd, decide_eq_true_eq]
 omega
theorem Vx : Zi = 1073741824 := rfl
def Ab : (τ : Ty) → T τ → Nat
 | .i _, _ => 0
 | .b, _ => 0
 | .o, _ => 0
 | .s, x => ja x
 | .sl e, xs => ja xs + (List.map (Ab e) xs).sum
 | .u, _ => 0
 | .p a c, v => Ab a v.1 + Ab c v.2
def Ty.hasS : Ty → Bool
 | .s => true
 | .sl e => e.hasS
 | .p x y => x.hasS || y.hasS
 | _ => false
def Dc : Nat := 1048576
theorem En {α : Type} {f : α → Nat} {xs : List α} {k : Nat} (hk : k < xs.length) : f xs[k] ≤ (xs.map f).sum := by
 induction xs generalizing k with
 | nil => simp at hk
 | cons x xs ih =>
  cases k with
  | zero => simp
  | succ k =>
   have := ih (k := k) (by simpa using hk)
   simp only [List.getElem_cons_succ, List.map_cons, List.sum_cons]
   omega
def Zv (n l : Nat) : Int := if n ≤ l then ((l - n : Nat) : Int) else -1
theorem Hp {n l : Nat} (h : n ≤ l) : Zv n l = ((l - n : Nat) : Int) := if_pos h
theorem Xn {n l : Nat} (h : ¬ n ≤ l) : Zv n l = -1 := if_neg h
theorem PG {α X R : Type} {step : X → Option (X ⊕ R)} (xs : List α) (n : α → Nat) (I : Int → Int → X) (yes : Int → R) (no : R)
 (h : ∀ k (hk : k < xs.length) (l : Nat), l ≤ Dc → step (I (l : Int) (k : Int)) = some (if n xs[k] ≤ l then .inl (I ((l - n xs[k] : Nat) : Int) (jz .i64 ((k : Int) + 1))) else .inr no))
 (he : ∀ l : Nat, step (I (l : Int) (xs.length : Int)) = some (.inr (yes (l : Int)))) (hn : xs.length < 9223372036854775807) (l : Nat) (hl : l ≤ Dc) :
 Cb step (I (l : Int) 0) = some (if (xs.map n).sum ≤ l then yes ((l - (xs.map n).sum : Nat) : Int) else no) := by
 have key : ∀ (ys : List α) (k l : Nat), xs.drop k = ys → k ≤ xs.length → l ≤ Dc → Cb step (I (l : Int) (k : Int)) = some (if (ys.map n).sum ≤ l then yes ((l - (ys.map n).sum : Nat) : Int) else no) := by
  intro ys
  induction ys with
  | nil =>
   intro k l hd hle hi
   have : k = xs.length := by
    have := congrArg ja hd
    simp at this
    omega
   subst this
   rw [Wb (he l)]
   simp
  | cons y ys ih =>
   intro k l hd hle hi
   have hk : k < xs.length := by
    have := congrArg ja hd
    simp at this
    omega
   have hy : xs[k] = y := by
    have := congrArg (·[0]?) hd
    simp [List.getElem?_drop, je hk] at this
    exact this
   have hd' : xs.drop (k + 1) = ys := by rw [← List.drop_drop, hd]; rfl
   rw [Wb (h k hk l hi), hy]
   simp only [List.map_cons, List.sum_cons]
   by_cases hc : n y ≤ l
   ·simp only [hc, if_true, jb, qg]
    rw [Ed (by omega), ih (k + 1) (l - n y) hd' hk (by omega)]
    by_cases hc2 : (ys.map n).sum ≤ l - n y
    ·rw [if_pos hc2, if_pos (by omega)]
     congr 3
     omega
    ·rw [if_neg hc2, if_neg (by omega)]
   ·rw [if_neg hc, if_neg (by omega)]
    rfl
 have := key xs 0 l rfl (Nat.zero_le _) hl
 simpa using this
theorem Tt : ∀ {τ : Ty} (_ : (τ.flat && !τ.hasS) = true) {x : T τ}, Ab τ x = 0
 | .i _, _, _ => rfl
 | .b, _, _ => rfl
 | .o, _, _ => rfl
 | .s, h, _ => by simp [Ty.hasS] at h
 | .sl _, h, _ => by simp [Ty.flat] at h
 | .u, _, _ => rfl
 | .p a c, h, x => by
  simp only [Ty.flat, Ty.hasS, jd, Bool.not_eq_true', Bool.or_eq_false_iff] at h
  simp only [Ab]
  rw [Tt (τ := a) (by simp [h.1.1, h.2.1]), Tt (τ := c) (by simp [h.1.2, h.2.2])]
theorem Iy {e : Ty} (h : (e.flat && !e.hasS) = true) (xs : List (T e)) : Ab (.sl e) xs = ja xs := by
 simp only [Ab]
 have : List.map (Ab e) xs = List.replicate xs.length 0 := by
  apply List.ext_getElem
  ·simp
  ·intro i h1 h2
   simp [Tt h]
 rw [this]
 simp
theorem Qh {α : Type} (b : Bool) (x y : α) : cond b (some x) (some y) = some (cond b x y) := by cases b <;> rfl
theorem Rh {α : Type} (b : Bool) (x y : α) : cond b (x, ()) (y, ()) = (cond b x y, ()) := by cases b <;> rfl
theorem Rb (b x y : Bool) : (cond b x y = true) ↔ ((b = true ∧ x = true) ∨ (¬ b = true ∧ y = true)) := by cases b <;> simp
theorem VF {a b : Bool} (h : a = true ↔ b = true) : a = b := ql.2 h
theorem Kb {a b : Bool} (h : a = true ↔ b = true) : some (a, ()) = some (b, ()) := by rw [VF h]
theorem Np (a b : Int) : ((a == b) = true) ↔ a = b := by simp
theorem Pp (a b : Int) : ((a != b) = true) ↔ ¬ a = b := by simp
def Ti {α : Type} (p : Nat → α → Bool) : Nat → List α → Bool
 | _, [] => true
 | k, x :: xs => p k x && Ti p (k + 1) xs
theorem Io {X R : Type} {step : X → Option (X ⊕ R)} {α : Type} (xs : List α) (p : Nat → α → Bool) (I : Int → X) (yes no : R)
 (h : ∀ k (hk : k < xs.length), step (I (k : Int)) = some (cond (p k xs[k]) (.inl (I (jz .i64 ((k : Int) + 1)))) (.inr no)))
 (he : step (I (xs.length : Int)) = some (.inr yes)) (hn : xs.length < 9223372036854775807) :
 Cb step (I 0) = some (cond (Ti p 0 xs) yes no) := by
 have key : ∀ (ys : List α) (k : Nat), xs.drop k = ys → k ≤ xs.length → Cb step (I (k : Int)) = some (cond (Ti p k ys) yes no) := by
  intro ys
  induction ys with
  | nil =>
   intro k hd hle
   have : k = xs.length := by
    have := congrArg ja hd
    simp at this
    omega
   subst this
   rw [Wb he]
   rfl
  | cons y ys ih =>
   intro k hd hle
   have hk : k < xs.length := by
    have := congrArg ja hd
    simp at this
    omega
   have hy : xs[k] = y := by
    have := congrArg (·[0]?) hd
    simp [List.getElem?_drop, je hk] at this
    exact this
   have hd' : xs.drop (k + 1) = ys := by rw [← List.drop_drop, hd]; rfl
   rw [Wb (h k hk), hy]
   simp only [Ti]
   cases hc : p k y with
   | true =>
    simp only [cond_true, jk, jb, qg]
    rw [← ih (k + 1) hd' hk, Ed (by omega)]
   | false => rfl
 have := key xs 0 rfl (Nat.zero_le _)
 simpa using this
theorem Nq {α : Type} {p : Nat → α → Bool} : ∀ {xs : List α} {k : Nat}, Ti p k xs = true ↔ ∀ j (hj : j < xs.length), p (k + j) xs[j] = true
 | [], _ => by simp [Ti]
 | x :: xs, k => by
  simp only [Ti, jd, Nq (xs := xs)]
  constructor
  ·rintro ⟨h1, h2⟩ j hj
   cases j with
   | zero => exact h1
   | succ j => simpa [jt, Nat.add_comm 1 j] using h2 j (by simpa using hj)
  ·intro h
   refine ⟨h 0 (by simp), fun j hj => ?_⟩
   have := h (j + 1) (by simpa using hj)
   rw [jt, Nat.add_comm 1 j]
   exact this
theorem Nv {α β γ : Type} (b : Bool) (x : α) (y : β) (f : α → γ) (g : β → γ) : j5 f g (cond b (.inl x) (.inr y)) = cond b (f x) (g y) := by cases b <;> rfl
theorem Am {X R : Type} {step : X → Option (X ⊕ R)} {α S R' : Type} (xs : List α) (g : Nat → S → α → S ⊕ R') (I : S → Int → X) (out : S → R) (ex : R' → R) (Ph : Nat → S → Prop)
 (h : ∀ k (hk : k < xs.length) s, Ph k s → step (I s (k : Int)) = some (match g k s xs[k] with | .inl s' => .inl (I s' (jz .i64 ((k : Int) + 1))) | .inr r => .inr (ex r)) ∧ ∀ s', g k s xs[k] = .inl s' → Ph (k + 1) s')
 (he : ∀ s, Ph xs.length s → step (I s (xs.length : Int)) = some (.inr (out s))) (hn : xs.length < 9223372036854775807) (s0 : S) (h0 : Ph 0 s0) :
 Cb step (I s0 0) = some (match Dj g 0 s0 xs with | .inl s => out s | .inr r => ex r) := by
 have := Sy (step := step) xs g (fun k s => I s (k : Int)) out ex Ph (fun k hk s hi => by
  obtain ⟨h1, h2⟩ := h k hk s hi
  refine ⟨?_, h2⟩
  rw [h1, Ed (by omega)]) he s0 h0
 simpa using this
theorem AD {X R X' R' : Type} {stepM : X → Option (X ⊕ R)} {stepH : X' → Option (X' ⊕ R')} {α : Type} (c : α → Nat) (B : Nat) (IM : List α → Int → Int → X) (outM : List α → Int → R) (IH : List α → Int → Int → X') (outH : List α → Int → R')
 (h : ∀ (o : List α) (k i : Nat) (hi : i < o.length), k + c o[i] ≤ B → ∃ x' k', k ≤ k' ∧ k' ≤ k + c o[i] ∧
  stepM (IM o (k : Int) (i : Int)) = some (.inl (IM (o.set i x') (k' : Int) (jz .i64 ((i : Int) + 1)))) ∧
  ∀ (o2 : List α) (hi2 : i < o2.length), o2[i] = x' → stepH (IH o2 (k : Int) (i : Int)) = some (.inl (IH o2 (k' : Int) (jz .i64 ((i : Int) + 1)))))
 (heM : ∀ (o : List α) (k : Nat), stepM (IM o (k : Int) (o.length : Int)) = some (.inr (outM o (k : Int))))
 (heH : ∀ (o : List α) (k : Nat), stepH (IH o (k : Int) (o.length : Int)) = some (.inr (outH o (k : Int))))
 (xs : List α) (k : Nat) (hB : k + (xs.map c).sum ≤ B) (hn : xs.length < 9223372036854775807) :
 ∃ (o : List α) (k' : Nat), k ≤ k' ∧ k' ≤ k + (xs.map c).sum ∧ o.length = xs.length ∧ Cb stepM (IM xs (k : Int) 0) = some (outM o (k' : Int)) ∧ Cb stepH (IH o (k : Int) 0) = some (outH o (k' : Int)) := by
 have key : ∀ (m i k : Nat) (o : List α), o.length = xs.length → m + i = xs.length → k + ((o.drop i).map c).sum ≤ B →
  ∃ (o' : List α) (k' : Nat), k ≤ k' ∧ k' ≤ k + ((o.drop i).map c).sum ∧ o'.length = xs.length ∧ o'.take i = o.take i ∧ Cb stepM (IM o (k : Int) (i : Int)) = some (outM o' (k' : Int)) ∧ Cb stepH (IH o' (k : Int) (i : Int)) = some (outH o' (k' : Int)) := by
  intro m
  induction m with
  | zero =>
   intro i k o ho hm hk
   have : i = o.length := by omega
   subst this
   refine ⟨o, k, jo _, by omega, ho, rfl, ?_, ?_⟩
   ·rw [Wb (heM o k)]; rfl
   ·rw [Wb (heH o k)]; rfl
  | succ m ih =>
   intro i k o ho hm hk
   have hi : i < o.length := by omega
   have hdrop : o.drop i = o[i] :: o.drop (i + 1) := List.drop_eq_getElem_cons hi
   rw [hdrop, List.map_cons, List.sum_cons] at hk ⊢
   obtain ⟨x', k1, h1, h2, h3, h4⟩ := h o k i hi (by omega)
   have hd1 : (o.set i x').drop (i + 1) = o.drop (i + 1) := by
    rw [List.drop_set]
    simp
   obtain ⟨o', k', g1, g2, g3, g4, g5, g6⟩ := ih (i + 1) k1 (o.set i x') (by simpa using ho) (by omega) (by rw [hd1]; omega)
   rw [hd1] at g2
   have ht : o'.take i = o.take i := by
    have := congrArg (List.take i) g4
    rw [List.take_take, List.take_take, Nat.min_eq_left (by omega), List.take_set_of_le (jo _)] at this
    exact this
   have hx : o'[i]'(by omega) = x' := by
    have := congrArg (·[i]?) g4
    simp [je (show i < o'.length by omega), hi] at this
    exact this
   refine ⟨o', k', by omega, by omega, g3, ht, ?_, ?_⟩
   ·rw [Wb h3, Ed (by omega)]
    exact g5
   ·rw [Wb (h4 o' (by omega) hx), Ed (by omega)]
    exact g6
 obtain ⟨o, k', h1, h2, h3, _, h5, h6⟩ := key xs.length 0 k xs rfl rfl (by simpa using hB)
 exact ⟨o, k', h1, by simpa using h2, h3, by simpa using h5, by simpa using h6⟩
def Zd : Nat := 1099511627776
theorem DO (e : Ty) (xs : List (T e)) : (List.map (fun x => 8 + 8 * Ab e x) xs).sum = 8 * Ab (.sl e) xs := by
 simp only [Ab]
 induction xs with
 | nil => rfl
 | cons x xs ih =>
  simp only [List.map_cons, List.sum_cons, jv] at ih ⊢
  omega
theorem z3 : ((3 : Int) == 0) = false := rfl
def kf : (τ : Ty) → T τ → T τ → Prop
 | .sl _, _, _ => True
 | .p x y, a, c => kf x a.1 c.1 ∧ kf y a.2 c.2
 | .i _, a, c => a = c
 | .b, a, c => a = c
 | .o, a, c => a = c
 | .s, a, c => a = c
 | .u, a, c => a = c
theorem Cv : ∀ (τ : Ty) (a : T τ), kf τ a a
 | .sl _, _ => trivial
 | .p x y, a => ⟨Cv x a.1, Cv y a.2⟩
 | .i _, _ => rfl
 | .b, _ => rfl
 | .o, _ => rfl
 | .s, _ => rfl
 | .u, _ => rfl
section
variable {α β : Type}
def SF (f : α → Option (α × Unit)) (t0 t3 : List α) (t4 : Int) : Option (((List α × (List α × (Int × Unit))) × Unit) ⊕ (((List α × Unit) × Unit) ⊕ β)) :=
 cond (decide (t4 < ((ja t0 : Nat) : Int))) (jy (Pd t0 t4) fun x7 => jy (f x7) fun r8 => cond (Th (ja t3) t4)
  (jy t3[(jx t4)]? fun x9 => some (.inl ((t0, j4 t3 (jx t4) r8.1, jz .i64 (t4 + 1), ()), ()))) none) (some (.inr (.inl ((t3, ()), ()))))
noncomputable def PJ (β : Type) (z : α) (f : α → Option (α × Unit)) (a0 : List α) : Option (List α × Unit) :=
 cond ((((ja a0 : Nat) : Int) == ((ja a0 : Nat) : Int)) && (decide ((0 : Int) ≤ ((ja a0 : Nat) : Int)) && decide (((ja a0 : Nat) : Int) ≤ ((Zi : Nat) : Int))))
  (jy (Cb (fun x : (List α × (List α × (Int × Unit))) × Unit => SF (β := β) f x.1.1 x.1.2.1 x.1.2.2.1) ((a0, List.replicate (jx ((ja a0 : Nat) : Int)) z, (0 : Int), ()), ())) (j5 (fun y10 => some (y10.1.1, ())) (fun _ => none))) none
theorem QJ (z : α) (f : α → Option (α × Unit)) (a : List α) (hn : a.length ≤ Dc) (hf : ∀ k (h : k < a.length), f a[k] = some (a[k], ())) : PJ β z f a = some (a, ()) := by
 have h20 : Dc = 1048576 := rfl
 have hl := SB (step := fun x : (List α × (List α × (Int × Unit))) × Unit => SF (β := β) f x.1.1 x.1.2.1 x.1.2.2.1) a z (fun o i => ((a, o, i, ()), ())) (fun o => .inl ((o, ()), ())) (by
  intro k hk o ho
  simp only [SF]
  rw [Sa (show (k : Int) < (ja a : Int) by omega), Pf hk]
  simp only [cond_true, jb]
  rw [hf k hk]
  simp only [cond_true, jb]
  rw [Ap, Sa (show k < ja o by omega)]
  simp [je (show k < ja o by omega)]) (by
  intro o
  simp [SF]) (by omega)
 unfold PJ
 rw [FG (by rw [Vx]; omega)]
 simp only [cond_true]
 rw [show jx ((ja a : Nat) : Int) = ja a by simp]
 erw [hl]
 rfl
theorem ZJ {e : Ty} (β : Type) (z : T e) {f : T e → Option (T e × Unit)} {F : List (T e) → Option (List (T e) × Unit)} (a : List (T e)) (hz : Ab (.sl e) a ≤ Dc) (hf : ∀ x, Ab e x ≤ Dc → f x = some (x, ())) (h : F a = PJ β z f a) : F a = some (a, ()) := by
 have hz' : ja a + (List.map (Ab e) a).sum ≤ Dc := hz
 rw [h]
 exact QJ z f a (by omega) fun k hk => hf _ (by have := En (f := Ab e) hk; omega)
def OF (f : α → α → Option (Bool × Unit)) (t0 t1 : List α) (t5 : Int) : Option (((List α × (List α × (Int × Unit))) × Unit) ⊕ ((Unit × Unit) ⊕ ((Bool × Unit) × Unit))) :=
 cond (decide (t5 < ((ja t0 : Nat) : Int))) (jy (Pd t0 t5) fun x7 => jy (Pd t1 t5) fun x8 => jy (f x7 x8) fun r9 => cond (!r9.1) (some (.inr (.inr ((false, ()), ()))))
  (some (.inl ((t0, t1, jz .i64 (t5 + 1), ()), ())))) (some (.inr (.inl ((), ()))))
noncomputable def BI (f : α → α → Option (Bool × Unit)) (a0 a1 : List α) : Option (Bool × Unit) :=
 cond (((ja a0 : Nat) : Int) != ((ja a1 : Nat) : Int)) (some (false, ()))
  (jy (Cb (fun x : (List α × (List α × (Int × Unit))) × Unit => OF f x.1.1 x.1.2.1 x.1.2.2.1) ((a0, a1, (0 : Int), ()), ())) (j5 (fun _ => some (true, ())) (fun z11 => some (z11.1.1, ()))))
theorem CI (f : α → α → Option (Bool × Unit)) (a : List α) (hn : a.length ≤ Zd) (hf : ∀ k (h : k < a.length), f a[k] a[k] = some (true, ())) : BI f a a = some (true, ()) := by
 have h40 : Zd = 1099511627776 := rfl
 have hl := Rv (step := fun x : (List α × (List α × (Int × Unit))) × Unit => OF f x.1.1 x.1.2.1 x.1.2.2.1) (fun k => ((a, a, (k : Int), ()), ())) (ja a) (.inl ((), ())) (by
  intro k hk
  simp only [OF]
  rw [Sa (show (k : Int) < (ja a : Int) by omega), Pf hk]
  simp only [cond_true, jb]
  rw [hf k hk]
  simp only [jb, jg, cond_false]
  rw [Ed (by omega)]) (by
  simp [OF])
 unfold BI
 rw [bne_self_eq_false']
 simp only [cond_false]
 erw [hl]
 rfl
theorem DI {e : Ty} {f : T e → T e → Option (Bool × Unit)} {F : List (T e) → List (T e) → Option (Bool × Unit)} (a : List (T e)) (hz : Ab (.sl e) a ≤ Zd) (hf : ∀ x, Ab e x ≤ Zd → f x x = some (true, ())) (h : F a a = BI f a a) : F a a = some (true, ()) := by
 have hz' : ja a + (List.map (Ab e) a).sum ≤ Zd := hz
 rw [h]
 exact CI f a (by omega) fun k hk => hf _ (by have := En (f := Ab e) hk; omega)
def IB (f : α → Int → Option (Int × Unit)) (t0 : List α) (t1 t5 : Int) : Option (((List α × (Int × (Int × Unit))) × Unit) ⊕ (((Int × Unit) × Unit) ⊕ ((Int × Unit) × Unit))) :=
 cond (decide (t5 < ((ja t0 : Nat) : Int))) (jy (Pd t0 t5) fun x5 => jy (f x5 t1) fun r6 => cond (decide (r6.1 < (0 : Int))) (some (.inr (.inr (((-1 : Int), ()), ()))))
  (some (.inl ((t0, r6.1, jz .i64 (t5 + 1), ()), ())))) (some (.inr (.inl ((t1, ()), ()))))
noncomputable def YJ (f : α → Int → Option (Int × Unit)) (a0 : List α) (a1 : Int) : Option (Int × Unit) :=
 cond (decide ((jz .i64 (a1 - ((ja a0 : Nat) : Int))) < (0 : Int))) (some ((-1 : Int), ()))
  (jy (Cb (fun x : (List α × (Int × (Int × Unit))) × Unit => IB f x.1.1 x.1.2.1 x.1.2.2.1) ((a0, jz .i64 (a1 - ((ja a0 : Nat) : Int)), (0 : Int), ()), ())) (j5 (fun y7 => some (y7.1.1, ())) (fun z8 => some (z8.1.1, ()))))
theorem PO {e : Ty} {f : T e → Int → Option (Int × Unit)} {F : List (T e) → Int → Option (Int × Unit)} (a : List (T e)) (hr : Zk (.sl e) a) (l : Nat) (hl : l ≤ Dc)
 (hf : ∀ x, Zk e x → ∀ l : Nat, l ≤ Dc → f x (l : Int) = some (Zv (Ab e x) l, ())) (hF : F a (l : Int) = YJ f a (l : Int)) : F a (l : Int) = some (Zv (Ab (.sl e) a) l, ()) := by
 have h20 : Dc = 1048576 := rfl
 have hlen : ja a ≤ 9223372036854775807 := hr.1
 rw [hF]
 unfold YJ
 rw [Pr (by omega) (by omega)]
 by_cases h : ja a ≤ l
 ·rw [Xa (by omega), show (l : Int) - (ja a : Int) = ((l - ja a : Nat) : Int) by omega]
  simp only [cond_false]
  have hx := PG (step := fun x : (List (T e) × (Int × (Int × Unit))) × Unit => IB f x.1.1 x.1.2.1 x.1.2.2.1) a (Ab e) (fun l i => ((a, l, i, ()), ())) (fun l => .inl ((l, ()), ())) (.inr (((-1 : Int), ()), ())) (by
   intro k hk l hl
   simp only [IB]
   rw [Sa (show (k : Int) < (ja a : Int) by omega), Pf hk]
   simp only [cond_true, jb]
   rw [hf a[k] (hr.2 k hk) l hl]
   simp only [jb]
   by_cases hc : Ab e a[k] ≤ l
   ·rw [Hp hc, Xa (by omega), if_pos hc]; rfl
   ·rw [Xn hc, if_neg hc]; rfl) (by
   intro l
   simp [IB]) (by omega) (l - ja a) (by omega)
  rw [hx]
  simp only [jb]
  have hs : Ab (.sl e) a = ja a + (List.map (Ab e) a).sum := rfl
  rw [hs]
  by_cases h2 : (List.map (Ab e) a).sum ≤ l - ja a
  ·rw [if_pos h2, Hp (by omega)]; simp only [qg]; rw [show l - ja a - (List.map (Ab e) a).sum = l - (ja a + (List.map (Ab e) a).sum) by omega]
  ·rw [if_neg h2, Xn (by omega)]; rfl
 ·rw [Xn (show ¬ Ab (.sl e) a ≤ l by have hs : Ab (.sl e) a = ja a + (List.map (Ab e) a).sum := rfl; omega), Sa (by omega)]; rfl
def NJ (a0 : List α) (a1 : Int) : Option (Int × Unit) :=
 cond (decide ((jz .i64 (a1 - ((ja a0 : Nat) : Int))) < (0 : Int))) (some ((-1 : Int), ())) (some ((jz .i64 (a1 - ((ja a0 : Nat) : Int))), ()))
theorem EO {e : Ty} {F : List (T e) → Int → Option (Int × Unit)} (a : List (T e)) (hr : Zk (.sl e) a) (l : Nat) (hl : l ≤ Dc) (he : (e.flat && !e.hasS) = true) (hF : F a (l : Int) = NJ a (l : Int)) : F a (l : Int) = some (Zv (Ab (.sl e) a) l, ()) := by
 have h20 : Dc = 1048576 := rfl
 have hlen : ja a ≤ 9223372036854775807 := hr.1
 rw [hF]
 unfold NJ
 rw [Pr (by omega) (by omega), Iy he a]
 by_cases h : ja a ≤ l
 ·rw [Hp h, Xa (by omega), show (l : Int) - (ja a : Int) = ((l - ja a : Nat) : Int) by omega]; rfl
 ·rw [Xn h, Sa (by omega)]; rfl
end
theorem UA {e : Ty} {β β' : Type} {RM : List (T e) → Int → Int → Option (((List (T e) × (Int × (Int × Unit))) × Unit) ⊕ (((List (T e) × (Int × Unit)) × Unit) ⊕ β))}
 {RH : List (T e) → Int → Int → Option (((List (T e) × (Int × (Int × Unit))) × Unit) ⊕ (((Int × Unit) × Unit) ⊕ β'))} {M : List (T e) → Int → Option (List (T e) × (Int × Unit))} {Hd : List (T e) → Int → Option (Int × Unit)} {g : β → Option (List (T e) × (Int × Unit))} {g' : β' → Option (Int × Unit)}
 (hM : ∀ o k, M o k = jy (Cb (fun x => RM x.1.1 x.1.2.1 x.1.2.2.1) ((o, k, 0, ()), ())) (j5 (fun y => some (y.1.1, (y.1.2.1, ()))) g))
 (hH : ∀ o k, Hd o k = jy (Cb (fun x => RH x.1.1 x.1.2.1 x.1.2.2.1) ((o, k, 0, ()), ())) (j5 (fun y => some (y.1.1, ())) g'))
 (h : ∀ (o : List (T e)) (k i : Nat) (hi : i < o.length), k + (8 + 8 * Ab e o[i]) ≤ Zd → ∃ (x' : T e) (k' : Nat), k ≤ k' ∧ k' ≤ k + (8 + 8 * Ab e o[i]) ∧
  RM o (k : Int) (i : Int) = some (.inl ((o.set i x', (k' : Int), (jz .i64 ((i : Int) + 1)), ()), ())) ∧
  ∀ (o2 : List (T e)) (hi2 : i < o2.length), o2[i] = x' → RH o2 (k : Int) (i : Int) = some (.inl ((o2, (k' : Int), (jz .i64 ((i : Int) + 1)), ()), ())))
 (heM : ∀ (o : List (T e)) (k : Int), RM o k (o.length : Int) = some (.inr (.inl ((o, k, ()), ()))))
 (heH : ∀ (o : List (T e)) (k : Int), RH o k (o.length : Int) = some (.inr (.inl ((k, ()), ()))))
 (a : List (T e)) (k : Nat) (hk : k + 8 * Ab (.sl e) a ≤ Zd) :
 ∃ (a' : List (T e)) (k' : Nat), k ≤ k' ∧ k' ≤ k + 8 * Ab (.sl e) a ∧ M a (k : Int) = some (a', ((k' : Int), ())) ∧ Hd a' (k : Int) = some ((k' : Int), ()) ∧ kf (.sl e) a a' := by
 have h40 : Zd = 1099511627776 := rfl
 by_cases hlen : ja a < 9223372036854775807
 case neg => exfalso; have h1 : ja a ≤ Ab (.sl e) a := Nat.le_add_right _ _; omega
 have hsum : (List.map (fun x => 8 + 8 * Ab e x) a).sum = 8 * Ab (.sl e) a := DO _ _
 have hx := AD (stepM := fun x : ((List (T e) × (Int × (Int × Unit))) × Unit) => RM x.1.1 x.1.2.1 x.1.2.2.1) (stepH := fun x : ((List (T e) × (Int × (Int × Unit))) × Unit) => RH x.1.1 x.1.2.1 x.1.2.2.1) (fun x => 8 + 8 * Ab e x) Zd (fun o k i => ((o, k, i, ()), ())) (fun o k => .inl ((o, k, ()), ())) (fun o k i => ((o, k, i, ()), ())) (fun _ k => .inl ((k, ()), ())) h
  (fun o k => heM o _) (fun o k => heH o _) a k (by rw [hsum]; exact hk) hlen
 obtain ⟨o, k1, h1, h2, _, h4, h5⟩ := hx
 rw [hsum] at h2
 refine ⟨o, k1, h1, h2, ?_, ?_, trivial⟩
 ·rw [hM]
  erw [h4]
  rfl
 ·rw [hH]
  erw [h5]
  rfl
abbrev int : Ty := .i .i64
abbrev Dl : Ty := .i .u8
abbrev Yn : Ty := (.p int (.p int .u))
abbrev Pe : Type := (Int × (Int × Unit))
abbrev Yd : Ty := (.p int (.p int (.p .b .u)))
abbrev Qe : Type := (Int × (Int × (Bool × Unit)))
abbrev RF : Ty := (.p int Yn)
abbrev SJ : Type := (Int × Pe)
abbrev Ta : Ty := (.p int RF)
abbrev Za : Type := (Int × SJ)
abbrev Ra : Ty := (.p int (.p (.sl (.sl Ta)) .u))
abbrev Qa : Type := (Int × ((List (List Za)) × Unit))
abbrev TJ : Ty := (.p Yd (.p Yd .u))
def Rm : List UInt8 := [97, 32, 98, 32, 99, 32, 100, 32, 101, 32, 102, 32, 103, 32, 104, 32, 105, 32, 106, 32, 107, 32, 108, 32, 109, 32, 110, 32, 111, 32, 112, 32, 113, 32, 114, 32, 115, 32, 116, 32, 117, 32, 118, 32, 119, 32, 120, 32, 121, 32, 122, 32, 49, 32, 50, 32, 51, 32, 52, 32, 53, 32, 54, 32, 55, 32, 56, 32, 57, 32, 48, 32, 101, 110, 116, 101, 114, 32, 101, 115, 99, 32, 98, 97, 99, 107, 32, 116, 97, 98, 32, 115, 112, 97, 99, 101, 32, 109, 105, 110, 117, 115, 32, 101, 113, 117, 97, 108, 32, 108, 101, 102, 116, 32, 114, 105, 103, 104, 116, 32, 117, 112, 32, 100, 111, 119, 110, 32, 102, 49, 32, 102, 50, 32, 102, 51, 32, 102, 52, 32, 102, 53, 32, 102, 54, 32, 102, 55, 32, 102, 56, 32, 102, 57]
def Me : List UInt8 := [115, 112, 97, 99, 101]
def Ke : List UInt8 := [109, 105, 110, 117, 115]
def Je : List UInt8 := [101, 113, 117, 97, 108]
def Le : List UInt8 := [101, 110, 116, 101, 114]
def Od : List UInt8 := [33, 64, 35, 36, 37, 94, 38, 42, 40, 41]
noncomputable section
open Option renaming bind → ob
open Go.IntKind renaming wrap → wr
open Int renaming toNat → tn
open List renaming length → ln, append → ap, set → ls
open Sum renaming elim → se
open Nat renaming ble → bl
abbrev Dg : Type := List Za
abbrev Ee : Type := Int × Unit
abbrev Ol : Type := Qa × Unit
abbrev Ff : Type := Bool × Unit
abbrev Gf : Type := List UInt8
abbrev Qf : Type := List Qe
abbrev Om : Type := Unit × Unit
abbrev Rf : Type := List Dg
abbrev XH : Type := (Int × (Int × (Unit × Ee))) × Ol
abbrev CA : Type := Int × (Int × (Dg × Pe))
abbrev Xl : Type := Ee × Unit
abbrev BA : Type := (Gf × (Unit × (Qf × Ee))) × Ol
abbrev Ut : Type := Int × ((List Int) × Pe)
abbrev Qw : Type := (Dg × (Dg × Ee)) × Unit
abbrev MF : Type := (Unit × Pe) × Ol
abbrev Rw : Type := Om ⊕ (Ff × Unit)
abbrev Vm : Type := Rf × Pe
abbrev Sw : Type := (Rf × (Rf × Ee)) × Unit
abbrev Tw : Type := (Dg × Pe) × Unit
abbrev Uw : Type := (Qf × Pe) × Unit
abbrev NF : Type := BA ⊕ (((Qf × Unit) × Unit) ⊕ ((Qf × Ff) × Unit))
def Td (a0 : Int) (a1 : Int) (a2 : Int) : Option Ff :=
 (cond (decide (a0 ≥ a1))
 (some ((decide (a0 ≤ a2)), ()))
 (some (false, ())))
def Hh (a0 : Dg) (a1 : Int) : Option Ee :=
 (cond (decide ((wr .i64 (a1 - ((ln a0 : Nat) : Int))) < 0))
 (some ((-1), ()))
 (some ((wr .i64 (a1 - ((ln a0 : Nat) : Int))), ())))
def Jq (t0 : Rf) (t1 : Int) (t5 : Int) : Option ((Vm × Unit) ⊕ (Xl ⊕ Xl)) :=
 (cond (decide (t5 < ((ln t0 : Nat) : Int)))
 (ob (Pd t0 t5) fun x5 =>
 (ob (Hh x5 t1) fun r6 =>
 (cond (decide (r6.1 < 0))
 (some (.inr (.inr (((-1), ()), ()))))
 (some (.inl ((t0, r6.1, (wr .i64 (t5 + 1)), ()), ()))))))
 (some (.inr (.inl ((t1, ()), ())))))
def Ak := Cb fun x : (Vm × Unit) => Jq x.1.1 x.1.2.1 x.1.2.2.1
def Oi (a0 : Rf) (a1 : Int) : Option Ee :=
 (cond (decide ((wr .i64 (a1 - ((ln a0 : Nat) : Int))) < 0))
 (some ((-1), ()))
 (ob (Ak ((a0, (wr .i64 (a1 - ((ln a0 : Nat) : Int))), 0, ()), ())) (se (fun y7 => (some (y7.1.1, ()))) (fun z8 => (some (z8.1.1, ()))))))
def Ik (a0 : Qa) (a1 : Int) : Option Ee :=
 (ob (Oi a0.2.1 a1) fun r1 =>
 (cond (decide (r1.1 < 0))
 (some ((-1), ()))
 (some (r1.1, ()))))
def Ei (a0 : Za) : Option (Za × Unit) :=
 (some (a0, ()))
def Ar (t0 : Dg) (t3 : Dg) (t4 : Int) : Option (Qw ⊕ (((Dg × Unit) × Unit) ⊕ Om)) :=
 (cond (decide (t4 < ((ln t0 : Nat) : Int)))
 (ob (Pd t0 t4) fun x7 =>
 (ob (Ei x7) fun r8 =>
 (cond (Th (ln t3) t4)
 (ob t3[(tn t4)]? fun x9 =>
 (some (.inl ((t0, (ls t3 (tn t4) r8.1), (wr .i64 (t4 + 1)), ()), ()))))
 none)))
 (some (.inr (.inl ((t3, ()), ())))))
def Xk := Cb fun x : Qw => Ar x.1.1 x.1.2.1 x.1.2.2.1
def Gj (a0 : Dg) : Option (Dg × Unit) :=
 (cond ((((ln a0 : Nat) : Int) == ((ln a0 : Nat) : Int)) && (decide (0 ≤ ((ln a0 : Nat) : Int)) && decide (((ln a0 : Nat) : Int) ≤ ((Zi : Nat) : Int))))
 (ob (Xk ((a0, (List.replicate (tn ((ln a0 : Nat) : Int)) (0, 0, 0, 0, ())), 0, ()), ())) (se (fun y10 => (some (y10.1.1, ()))) (fun z11 => none)))
 none)
def Kq (t0 : Rf) (t3 : Rf) (t4 : Int) : Option (Sw ⊕ (((Rf × Unit) × Unit) ⊕ Om)) :=
 (cond (decide (t4 < ((ln t0 : Nat) : Int)))
 (ob (Pd t0 t4) fun x7 =>
 (ob (Gj x7) fun r8 =>
 (cond (Th (ln t3) t4)
 (ob t3[(tn t4)]? fun x9 =>
 (some (.inl ((t0, (ls t3 (tn t4) r8.1), (wr .i64 (t4 + 1)), ()), ()))))
 none)))
 (some (.inr (.inl ((t3, ()), ())))))
def Bk := Cb fun x : Sw => Kq x.1.1 x.1.2.1 x.1.2.2.1
def Il (a0 : Rf) : Option (Rf × Unit) :=
 (cond ((((ln a0 : Nat) : Int) == ((ln a0 : Nat) : Int)) && (decide (0 ≤ ((ln a0 : Nat) : Int)) && decide (((ln a0 : Nat) : Int) ≤ ((Zi : Nat) : Int))))
 (ob (Bk ((a0, (List.replicate (tn ((ln a0 : Nat) : Int)) []), 0, ()), ())) (se (fun y10 => (some (y10.1.1, ()))) (fun z11 => none)))
 none)
def Hf (a0 : Qa) : Option Ol :=
 (ob (Il a0.2.1) fun r1 =>
 (some ((a0.1, r1.1, ()), ())))
def Og (a0 : Za) : Option Ff :=
 (ob (Td a0.2.1 1 56) fun r1 =>
 (ob (Td a0.2.2.1 1 15) fun r2 =>
 (ob (Td a0.2.2.2.1 1 3) fun r3 =>
 (cond (a0.1 == 0)
 (cond (a0.2.1 == 0)
 (cond (a0.2.2.1 == 0)
 (some ((a0.2.2.2.1 == 0), ()))
 (some (false, ())))
 (some (false, ())))
 (cond (a0.1 == 1)
 (cond (a0.2.1 == 0)
 (cond (a0.2.2.1 == 0)
 (some ((a0.2.2.2.1 == 0), ()))
 (some (false, ())))
 (some (false, ())))
 (cond (a0.1 == 10)
 (cond (a0.2.1 == 0)
 (cond (a0.2.2.1 == 0)
 (some ((a0.2.2.2.1 == 0), ()))
 (some (false, ())))
 (some (false, ())))
 (cond (a0.1 == 2)
 (cond (a0.2.2.2.1 == 0)
 (cond r1.1
 (cond r2.1
 (some (true, ()))
 (some ((a0.2.2.1 == 0), ())))
 (cond (a0.2.1 == 0)
 (cond r2.1
 (cond r2.1
 (some (true, ()))
 (some ((a0.2.2.1 == 0), ())))
 (some (false, ())))
 (some (false, ()))))
 (some (false, ())))
 (cond (a0.1 == 3)
 (cond r3.1
 (cond (a0.2.1 == 0)
 (some ((a0.2.2.1 == 0), ()))
 (some (false, ())))
 (some (false, ())))
 (cond (a0.1 == 4)
 (cond r3.1
 (cond (a0.2.1 == 0)
 (some ((a0.2.2.1 == 0), ()))
 (some (false, ())))
 (some (false, ())))
 (cond (a0.1 == 5)
 (ob (Td a0.2.2.2.1 0 3) fun r4 =>
 (cond r4.1
 (cond (a0.2.1 == 0)
 (some ((a0.2.2.1 == 0), ()))
 (some (false, ())))
 (some (false, ()))))
 (cond (a0.1 == 9)
 (ob (Td a0.2.2.2.1 0 3) fun r5 =>
 (cond r5.1
 (cond (a0.2.1 == 0)
 (some ((a0.2.2.1 == 0), ()))
 (some (false, ())))
 (some (false, ()))))
 (cond (a0.1 == 6)
 (cond r1.1
 (cond r2.1
 (some ((a0.2.2.2.1 == 0), ()))
 (some (false, ())))
 (some (false, ())))
 (cond (a0.1 == 7)
 (cond r1.1
 (cond r3.1
 (some ((a0.2.2.1 == 0), ()))
 (some (false, ())))
 (some (false, ())))
 (cond (a0.1 == 8)
 (cond r2.1
 (cond (a0.2.1 == 0)
 (some ((a0.2.2.2.1 == 0), ()))
 (some (false, ())))
 (some (false, ())))
 (some (false, ()))))))))))))))))
def Rj (t1 : Unit) (t3 : Int) (t4 : Int) (b1 : Qa) : Option (MF ⊕ (((Unit × Ee) × Ol) ⊕ (Ff × Unit))) :=
 (ob (Pd b1.2.1 t3) fun x40 =>
 (cond (decide (t4 < ((ln x40 : Nat) : Int)))
 (ob (Pd b1.2.1 t3) fun x41 =>
 (ob (Pd x41 t4) fun x42 =>
 (ob (Og x42) fun r43 =>
 (cond (!r43.1)
 (some (.inr (.inr ((false, ()), ()))))
 (cond (x42.1 == 1)
 (cond (t3 == 0)
 (some (.inr (.inr ((false, ()), ()))))
 (cond (x42.1 != 9)
 (cond (decide (x42.2.2.2.1 ≥ ((ln b1.2.1 : Nat) : Int)))
 (some (.inr (.inr ((false, ()), ()))))
 (some (.inl (((), t3, (wr .i64 (t4 + 1)), ()), (b1, ())))))
 (some (.inl (((), t3, (wr .i64 (t4 + 1)), ()), (b1, ()))))))
 (cond (x42.1 != 9)
 (cond (decide (x42.2.2.2.1 ≥ ((ln b1.2.1 : Nat) : Int)))
 (some (.inr (.inr ((false, ()), ()))))
 (some (.inl (((), t3, (wr .i64 (t4 + 1)), ()), (b1, ())))))
 (some (.inl (((), t3, (wr .i64 (t4 + 1)), ()), (b1, ()))))))))))
 (some (.inr (.inl (((), t3, ()), (b1, ())))))))
def Yf := Cb fun x : MF => Rj x.1.1 x.1.2.1 x.1.2.2.1 x.2.1
def Qj (t1 : Unit) (t3 : Int) (b1 : Qa) : Option (((Unit × Ee) × Ol) ⊕ ((Om × Ol) ⊕ (Ff × Unit))) :=
 (cond (decide (t3 < ((ln b1.2.1 : Nat) : Int)))
 (ob (Pd b1.2.1 t3) fun x31 =>
 (cond (((ln x31 : Nat) : Int) != b1.1)
 (some (.inr (.inr ((false, ()), ()))))
 (ob (Yf (((), t3, 0, ()), (b1, ()))) (se (fun y44 => (some (.inl (((), (wr .i64 (y44.1.2.1 + 1)), ()), (y44.2.1, ()))))) (fun z45 => (some (.inr (.inr ((z45.1.1, ()), ())))))))))
 (some (.inr (.inl (((), ()), (b1, ()))))))
def Xf := Cb fun x : ((Unit × Ee) × Ol) => Qj x.1.1 x.1.2.1 x.2.1
def Fi (a0 : Qa) : Option Ff :=
 (ob (Xf (((), 0, ()), (a0, ()))) (se (fun y46 => (ob (Td y46.2.1.1 1 32) fun r48 =>
 (cond r48.1
 (ob (Td ((ln y46.2.1.2.1 : Nat) : Int) 1 4) fun r49 =>
 (some (r49.1, ())))
 (some (false, ()))))) (fun z47 => (some (z47.1.1, ())))))
def Wg (a0 : Int) : Option Ff :=
 (cond (decide (a0 ≥ 1))
 (some ((decide (a0 ≤ 56)), ()))
 (some (false, ())))
def Xg (a0 : Int) : Option Ff :=
 (cond (decide (a0 ≥ 1))
 (some ((decide (a0 ≤ 15)), ()))
 (some (false, ())))
def Fh (a0 : Int) : Option Ff :=
 (cond (decide (a0 ≥ 1))
 (some ((decide (a0 ≤ 3)), ()))
 (some (false, ())))
def Lg (a0 : Za) : Option Ff :=
 (cond (a0.1 == 0)
 (cond (a0.2.1 == 0)
 (cond (a0.2.2.1 == 0)
 (some ((a0.2.2.2.1 == 0), ()))
 (some (false, ())))
 (some (false, ())))
 (cond (a0.1 == 1)
 (cond (a0.2.1 == 0)
 (cond (a0.2.2.1 == 0)
 (some ((a0.2.2.2.1 == 0), ()))
 (some (false, ())))
 (some (false, ())))
 (cond (a0.1 == 10)
 (cond (a0.2.1 == 0)
 (cond (a0.2.2.1 == 0)
 (some ((a0.2.2.2.1 == 0), ()))
 (some (false, ())))
 (some (false, ())))
 (cond (a0.1 == 2)
 (cond (a0.2.2.2.1 == 0)
 (cond (a0.2.1 == 0)
 (cond (a0.2.2.1 == 0)
 (cond (a0.2.1 != 0)
 (some (true, ()))
 (some ((a0.2.2.1 != 0), ())))
 (ob (Xg a0.2.2.1) fun r1 =>
 (cond r1.1
 (cond (a0.2.1 != 0)
 (some (true, ()))
 (some ((a0.2.2.1 != 0), ())))
 (some (false, ())))))
 (ob (Wg a0.2.1) fun r2 =>
 (cond r2.1
 (cond (a0.2.2.1 == 0)
 (cond (a0.2.1 != 0)
 (some (true, ()))
 (some ((a0.2.2.1 != 0), ())))
 (ob (Xg a0.2.2.1) fun r3 =>
 (cond r3.1
 (cond (a0.2.1 != 0)
 (some (true, ()))
 (some ((a0.2.2.1 != 0), ())))
 (some (false, ())))))
 (some (false, ())))))
 (some (false, ())))
 (cond (a0.1 == 3)
 (cond (a0.2.1 == 0)
 (cond (a0.2.2.1 == 0)
 (ob (Fh a0.2.2.2.1) fun r4 =>
 (some (r4.1, ())))
 (some (false, ())))
 (some (false, ())))
 (cond (a0.1 == 4)
 (cond (a0.2.1 == 0)
 (cond (a0.2.2.1 == 0)
 (ob (Fh a0.2.2.2.1) fun r5 =>
 (some (r5.1, ())))
 (some (false, ())))
 (some (false, ())))
 (cond (a0.1 == 5)
 (cond (a0.2.1 == 0)
 (cond (a0.2.2.1 == 0)
 (cond (decide (a0.2.2.2.1 ≥ 0))
 (some ((decide (a0.2.2.2.1 ≤ 3)), ()))
 (some (false, ())))
 (some (false, ())))
 (some (false, ())))
 (cond (a0.1 == 9)
 (cond (a0.2.1 == 0)
 (cond (a0.2.2.1 == 0)
 (cond (decide (a0.2.2.2.1 ≥ 0))
 (some ((decide (a0.2.2.2.1 ≤ 3)), ()))
 (some (false, ())))
 (some (false, ())))
 (some (false, ())))
 (cond (a0.1 == 6)
 (ob (Wg a0.2.1) fun r6 =>
 (cond r6.1
 (ob (Xg a0.2.2.1) fun r7 =>
 (cond r7.1
 (some ((a0.2.2.2.1 == 0), ()))
 (some (false, ()))))
 (some (false, ()))))
 (cond (a0.1 == 7)
 (ob (Wg a0.2.1) fun r8 =>
 (cond r8.1
 (cond (a0.2.2.1 == 0)
 (ob (Fh a0.2.2.2.1) fun r9 =>
 (some (r9.1, ())))
 (some (false, ())))
 (some (false, ()))))
 (cond (a0.1 == 8)
 (cond (a0.2.1 == 0)
 (ob (Xg a0.2.2.1) fun r10 =>
 (cond r10.1
 (some ((a0.2.2.2.1 == 0), ()))
 (some (false, ()))))
 (some (false, ())))
 (some (false, ())))))))))))))
def Nj (t1 : Unit) (t3 : Int) (t28 : Rf) (t29 : Int) (t30 : Int) (t40 : Dg) (t41 : Int) (t42 : Int) (b1 : Qa) : Option (((Unit × (Int × (Rf × CA))) × Ol) ⊕ (((Unit × Vm) × Ol) ⊕ (Ff × Unit))) :=
 (cond (decide (t42 < t41))
 (ob (Pd t40 t42) fun x24 =>
 (ob (Lg x24) fun r25 =>
 (cond (!r25.1)
 (some (.inr (.inr ((false, ()), ()))))
 (cond (t3 == 0)
 (cond (x24.1 == 1)
 (some (.inr (.inr ((false, ()), ()))))
 (cond (x24.1 != 9)
 (cond (decide (x24.2.2.2.1 ≥ ((ln b1.2.1 : Nat) : Int)))
 (some (.inr (.inr ((false, ()), ()))))
 (some (.inl (((), t3, t28, t29, t30, t40, t41, (wr .i64 (t42 + 1)), ()), (b1, ())))))
 (some (.inl (((), t3, t28, t29, t30, t40, t41, (wr .i64 (t42 + 1)), ()), (b1, ()))))))
 (cond (x24.1 != 9)
 (cond (decide (x24.2.2.2.1 ≥ ((ln b1.2.1 : Nat) : Int)))
 (some (.inr (.inr ((false, ()), ()))))
 (some (.inl (((), t3, t28, t29, t30, t40, t41, (wr .i64 (t42 + 1)), ()), (b1, ())))))
 (some (.inl (((), t3, t28, t29, t30, t40, t41, (wr .i64 (t42 + 1)), ()), (b1, ())))))))))
 (some (.inr (.inl (((), t28, t29, t30, ()), (b1, ()))))))
def Tf := Cb fun x : ((Unit × (Int × (Rf × CA))) × Ol) => Nj x.1.1 x.1.2.1 x.1.2.2.1 x.1.2.2.2.1 x.1.2.2.2.2.1 x.1.2.2.2.2.2.1 x.1.2.2.2.2.2.2.1 x.1.2.2.2.2.2.2.2.1 x.2.1
def Mj (t1 : Unit) (t28 : Rf) (t29 : Int) (t30 : Int) (b1 : Qa) : Option (((Unit × Vm) × Ol) ⊕ Rw) :=
 (cond (decide (t30 < t29))
 (ob (Pd t28 t30) fun x19 =>
 (cond (((ln x19 : Nat) : Int) != b1.1)
 (some (.inr (.inr ((false, ()), ()))))
 (ob (Tf (((), t30, t28, t29, t30, x19, ((ln x19 : Nat) : Int), 0, ()), (b1, ()))) (se (fun y26 => (some (.inl (((), y26.1.2.1, y26.1.2.2.1, (wr .i64 (y26.1.2.2.2.1 + 1)), ()), (y26.2.1, ()))))) (fun z27 => (some (.inr (.inr ((z27.1.1, ()), ())))))))))
 (some (.inr (.inl ((), ())))))
def Sf := Cb fun x : ((Unit × Vm) × Ol) => Mj x.1.1 x.1.2.1 x.1.2.2.1 x.1.2.2.2.1 x.2.1
def Gk (a0 : Qa) : Option Ff :=
 (cond (decide (a0.1 < 1))
 (some (false, ()))
 (cond (decide (a0.1 > 32))
 (some (false, ()))
 (cond (decide (((ln a0.2.1 : Nat) : Int) < 1))
 (some (false, ()))
 (cond (decide (((ln a0.2.1 : Nat) : Int) > 4))
 (some (false, ()))
 (ob (Sf (((), a0.2.1, ((ln a0.2.1 : Nat) : Int), 0, ()), (a0, ()))) (se (fun y28 => (some (true, ()))) (fun z29 => (some (z29.1.1, ())))))))))
def Di (a0 : Za) (a1 : Za) : Option Ff :=
 (cond (a0.1 != a1.1)
 (some (false, ()))
 (cond (a0.2.1 != a1.2.1)
 (some (false, ()))
 (cond (a0.2.2.1 != a1.2.2.1)
 (some (false, ()))
 (cond (a0.2.2.2.1 != a1.2.2.2.1)
 (some (false, ()))
 (some (true, ()))))))
def Zq (t0 : Dg) (t1 : Dg) (t5 : Int) : Option (Qw ⊕ Rw) :=
 (cond (decide (t5 < ((ln t0 : Nat) : Int)))
 (ob (Pd t0 t5) fun x7 =>
 (ob (Pd t1 t5) fun x8 =>
 (ob (Di x7 x8) fun r9 =>
 (cond (!r9.1)
 (some (.inr (.inr ((false, ()), ()))))
 (some (.inl ((t0, t1, (wr .i64 (t5 + 1)), ()), ())))))))
 (some (.inr (.inl ((), ())))))
def Wk := Cb fun x : Qw => Zq x.1.1 x.1.2.1 x.1.2.2.1
def Gh (a0 : Dg) (a1 : Dg) : Option Ff :=
 (cond (((ln a0 : Nat) : Int) != ((ln a1 : Nat) : Int))
 (some (false, ()))
 (ob (Wk ((a0, a1, 0, ()), ())) (se (fun y10 => (some (true, ()))) (fun z11 => (some (z11.1.1, ()))))))
def Iq (t0 : Rf) (t1 : Rf) (t5 : Int) : Option (Sw ⊕ Rw) :=
 (cond (decide (t5 < ((ln t0 : Nat) : Int)))
 (ob (Pd t0 t5) fun x7 =>
 (ob (Pd t1 t5) fun x8 =>
 (ob (Gh x7 x8) fun r9 =>
 (cond (!r9.1)
 (some (.inr (.inr ((false, ()), ()))))
 (some (.inl ((t0, t1, (wr .i64 (t5 + 1)), ()), ())))))))
 (some (.inr (.inl ((), ())))))
def Xj := Cb fun x : Sw => Iq x.1.1 x.1.2.1 x.1.2.2.1
def Li (a0 : Rf) (a1 : Rf) : Option Ff :=
 (cond (((ln a0 : Nat) : Int) != ((ln a1 : Nat) : Int))
 (some (false, ()))
 (ob (Xj ((a0, a1, 0, ()), ())) (se (fun y10 => (some (true, ()))) (fun z11 => (some (z11.1.1, ()))))))
def Hk (a0 : Qa) (a1 : Qa) : Option Ff :=
 (cond (a0.1 != a1.1)
 (some (false, ()))
 (ob (Li a0.2.1 a1.2.1) fun r1 =>
 (cond (!r1.1)
 (some (false, ()))
 (some (true, ())))))
def Jr (t0 : Gf) (t1 : Int) (t5 : (List Gf)) (t6 : Int) (t7 : Int) : Option (((Gf × (Int × ((List Gf) × Pe))) × Unit) ⊕ ((((List Gf) × Unit) × Unit) ⊕ Om)) :=
 (cond (decide (t7 ≤ ((ln t0 : Nat) : Int)))
 (cond (t7 == ((ln t0 : Nat) : Int))
 (cond (Ae (ln t0) t6 t7)
 (cond (bl (ln t5 + ln ([(Fd t0 (tn t6) (tn t7))] : List Gf)) Zi)
 (some (.inl ((t0, t1, (ap t5 ([(Fd t0 (tn t6) (tn t7))] : List Gf)), (wr .i64 (t7 + 1)), (wr .i64 (t7 + 1)), ()), ())))
 none)
 none)
 (ob (Pd t0 t7) fun c3 =>
 (cond (((UInt8.toNat c3 : Nat) : Int) == t1)
 (cond (Ae (ln t0) t6 t7)
 (cond (bl (ln t5 + ln ([(Fd t0 (tn t6) (tn t7))] : List Gf)) Zi)
 (some (.inl ((t0, t1, (ap t5 ([(Fd t0 (tn t6) (tn t7))] : List Gf)), (wr .i64 (t7 + 1)), (wr .i64 (t7 + 1)), ()), ())))
 none)
 none)
 (some (.inl ((t0, t1, t5, t6, (wr .i64 (t7 + 1)), ()), ()))))))
 (some (.inr (.inl ((t5, ()), ())))))
def Mh := Cb fun x : ((Gf × (Int × ((List Gf) × Pe))) × Unit) => Jr x.1.1 x.1.2.1 x.1.2.2.1 x.1.2.2.2.1 x.1.2.2.2.2.1
def Tl (a0 : Gf) (a1 : Int) : Option ((List Gf) × Unit) :=
 (ob (Mh ((a0, a1, [], 0, 0, ()), ())) (se (fun y4 => (some (y4.1.1, ()))) (fun z5 => none)))
def Nl : Option ((List Gf) × Unit) :=
 (ob (Tl Rm 32) fun r1 =>
 (some (r1.1, ())))
def Mf (a0 : Int) : Option (Gf × Unit) :=
 (ob (Td a0 1 56) fun r1 =>
 (cond (!r1.1)
 (some ([], ()))
 (ob Nl fun r2 =>
 (cond (Th (ln r2.1) (wr .i64 (a0 - 1)))
 (ob r2.1[(tn (wr .i64 (a0 - 1)))]? fun x3 =>
 (some (x3, ())))
 none))))
def Ye (a0 : Int) (a1 : Int) : Option (Gf × Unit) :=
 (ob (Td a0 1 56) fun r1 =>
 (cond (!r1.1)
 (some ([], ()))
 (ob (Td a1 0 15) fun r2 =>
 (cond (!r2.1)
 (some ([], ()))
 (cond ((Ww .i64 a1 2) != 0)
 (some ([], ()))
 (cond (decide (a0 ≤ 26))
 (cond (decide ((Wi .i64 a1 2) > 0))
 (some ((Be ([(wr .u8 (wr .i64 (64 + a0)))] : List Int)), ()))
 (cond (decide (a0 ≤ 36))
 (cond (decide ((Wi .i64 a1 2) > 0))
 (cond (Ae (ln Od) (wr .i64 (a0 - 27)) (wr .i64 (a0 - 26)))
 (some ((Fd Od (tn (wr .i64 (a0 - 27))) (tn (wr .i64 (a0 - 26)))), ()))
 none)
 (cond (decide (a0 ≤ 36))
 (ob (Mf a0) fun r3 =>
 (some (r3.1, ())))
 (cond (a0 == 37)
 (some (([10] : List UInt8), ()))
 (cond (a0 == 40)
 (some (([9] : List UInt8), ()))
 (cond (a0 == 41)
 (some (([32] : List UInt8), ()))
 (cond (a0 == 42)
 (cond (decide ((Wi .i64 a1 2) > 0))
 (some (([95] : List UInt8), ()))
 (cond (a0 == 42)
 (some (([45] : List UInt8), ()))
 (cond (a0 == 43)
 (cond (decide ((Wi .i64 a1 2) > 0))
 (some (([43] : List UInt8), ()))
 (cond (a0 == 43)
 (some (([61] : List UInt8), ()))
 (some ([], ()))))
 (cond (a0 == 43)
 (some (([61] : List UInt8), ()))
 (some ([], ()))))))
 (cond (a0 == 42)
 (some (([45] : List UInt8), ()))
 (cond (a0 == 43)
 (cond (decide ((Wi .i64 a1 2) > 0))
 (some (([43] : List UInt8), ()))
 (cond (a0 == 43)
 (some (([61] : List UInt8), ()))
 (some ([], ()))))
 (cond (a0 == 43)
 (some (([61] : List UInt8), ()))
 (some ([], ())))))))))))
 (cond (decide (a0 ≤ 36))
 (ob (Mf a0) fun r4 =>
 (some (r4.1, ())))
 (cond (a0 == 37)
 (some (([10] : List UInt8), ()))
 (cond (a0 == 40)
 (some (([9] : List UInt8), ()))
 (cond (a0 == 41)
 (some (([32] : List UInt8), ()))
 (cond (a0 == 42)
 (cond (decide ((Wi .i64 a1 2) > 0))
 (some (([95] : List UInt8), ()))
 (cond (a0 == 42)
 (some (([45] : List UInt8), ()))
 (cond (a0 == 43)
 (cond (decide ((Wi .i64 a1 2) > 0))
 (some (([43] : List UInt8), ()))
 (cond (a0 == 43)
 (some (([61] : List UInt8), ()))
 (some ([], ()))))
 (cond (a0 == 43)
 (some (([61] : List UInt8), ()))
 (some ([], ()))))))
 (cond (a0 == 42)
 (some (([45] : List UInt8), ()))
 (cond (a0 == 43)
 (cond (decide ((Wi .i64 a1 2) > 0))
 (some (([43] : List UInt8), ()))
 (cond (a0 == 43)
 (some (([61] : List UInt8), ()))
 (some ([], ()))))
 (cond (a0 == 43)
 (some (([61] : List UInt8), ()))
 (some ([], ()))))))))))))
 (cond (decide (a0 ≤ 36))
 (cond (decide ((Wi .i64 a1 2) > 0))
 (cond (Ae (ln Od) (wr .i64 (a0 - 27)) (wr .i64 (a0 - 26)))
 (some ((Fd Od (tn (wr .i64 (a0 - 27))) (tn (wr .i64 (a0 - 26)))), ()))
 none)
 (cond (decide (a0 ≤ 36))
 (ob (Mf a0) fun r5 =>
 (some (r5.1, ())))
 (cond (a0 == 37)
 (some (([10] : List UInt8), ()))
 (cond (a0 == 40)
 (some (([9] : List UInt8), ()))
 (cond (a0 == 41)
 (some (([32] : List UInt8), ()))
 (cond (a0 == 42)
 (cond (decide ((Wi .i64 a1 2) > 0))
 (some (([95] : List UInt8), ()))
 (cond (a0 == 42)
 (some (([45] : List UInt8), ()))
 (cond (a0 == 43)
 (cond (decide ((Wi .i64 a1 2) > 0))
 (some (([43] : List UInt8), ()))
 (cond (a0 == 43)
 (some (([61] : List UInt8), ()))
 (some ([], ()))))
 (cond (a0 == 43)
 (some (([61] : List UInt8), ()))
 (some ([], ()))))))
 (cond (a0 == 42)
 (some (([45] : List UInt8), ()))
 (cond (a0 == 43)
 (cond (decide ((Wi .i64 a1 2) > 0))
 (some (([43] : List UInt8), ()))
 (cond (a0 == 43)
 (some (([61] : List UInt8), ()))
 (some ([], ()))))
 (cond (a0 == 43)
 (some (([61] : List UInt8), ()))
 (some ([], ())))))))))))
 (cond (decide (a0 ≤ 36))
 (ob (Mf a0) fun r6 =>
 (some (r6.1, ())))
 (cond (a0 == 37)
 (some (([10] : List UInt8), ()))
 (cond (a0 == 40)
 (some (([9] : List UInt8), ()))
 (cond (a0 == 41)
 (some (([32] : List UInt8), ()))
 (cond (a0 == 42)
 (cond (decide ((Wi .i64 a1 2) > 0))
 (some (([95] : List UInt8), ()))
 (cond (a0 == 42)
 (some (([45] : List UInt8), ()))
 (cond (a0 == 43)
 (cond (decide ((Wi .i64 a1 2) > 0))
 (some (([43] : List UInt8), ()))
 (cond (a0 == 43)
 (some (([61] : List UInt8), ()))
 (some ([], ()))))
 (cond (a0 == 43)
 (some (([61] : List UInt8), ()))
 (some ([], ()))))))
 (cond (a0 == 42)
 (some (([45] : List UInt8), ()))
 (cond (a0 == 43)
 (cond (decide ((Wi .i64 a1 2) > 0))
 (some (([43] : List UInt8), ()))
 (cond (a0 == 43)
 (some (([61] : List UInt8), ()))
 (some ([], ()))))
 (cond (a0 == 43)
 (some (([61] : List UInt8), ()))
 (some ([], ())))))))))))))))))
def Ue (t0 : Int) (t4 : Int) (t5 : Int) : Option (((Int × Pe) × Unit) ⊕ (((Int × Ee) × Unit) ⊕ (Pe × Unit))) :=
 (cond (decide (t5 ≤ 56))
 (ob (Ye t5 t4) fun r13 =>
 (cond (r13.1 == (Be ([t0] : List Int)))
 (some (.inr (.inr ((t5, t4, ()), ()))))
 (some (.inl ((t0, t4, (wr .i64 (t5 + 1)), ()), ())))))
 (some (.inr (.inl ((t0, t4, ()), ())))))
def Qc := Cb fun x : ((Int × Pe) × Unit) => Ue x.1.1 x.1.2.1 x.1.2.2.1
def Zc (t0 : Int) (t4 : Int) : Option (((Int × Ee) × Unit) ⊕ (Om ⊕ (Pe × Unit))) :=
 (cond (decide (t4 ≤ 2))
 (ob (Qc ((t0, t4, 1, ()), ())) (se (fun y14 => (some (.inl ((y14.1.1, (wr .i64 (y14.1.2.1 + 2)), ()), ())))) (fun z15 => (some (.inr (.inr (z15.1, ())))))))
 (some (.inr (.inl ((), ())))))
def Sj := Cb fun x : ((Int × Ee) × Unit) => Zc x.1.1 x.1.2.1
def Cn (a0 : Int) : Option Pe :=
 (ob (Sj ((a0, 0, ()), ())) (se (fun y16 => (some (0, 0, ()))) (fun z17 => (some z17.1))))
def Jj (a0 : Za) : Option Ff :=
 (ob (Og a0) fun r1 =>
 (cond r1.1
 (cond (a0.1 == 6)
 (some (true, ()))
 (some ((a0.1 == 7), ())))
 (some (false, ()))))
def Dn (a0 : Za) : Option (Za × Unit) :=
 (ob (Jj a0) fun r1 =>
 (cond (!r1.1)
 (some (a0, ()))
 (some ((2, a0.2.1, 0, 0, ()), ()))))
def Tg (t1 : Int) (t2 : Int) (t3 : Unit) (t7 : Int) (b3 : Qa) : Option (XH ⊕ (Om ⊕ Xl)) :=
 (cond (decide (t7 < b3.1))
 (ob (Fi b3) fun r11 =>
 (cond r11.1
 (ob (Td t1 0 56) fun r12 =>
 (cond r12.1
 (ob (Pd b3.2.1 0) fun x13 =>
 (ob (Pd x13 t7) fun x14 =>
 (cond (decide (t1 > 0))
 (ob (Dn x14) fun r15 =>
 (cond (r15.1.1 == 2)
 (cond (r15.1.2.1 == t1)
 (cond (r15.1.2.2.1 == t2)
 (some (.inr (.inr ((t7, ()), ()))))
 (some (.inl ((t1, t2, (), (wr .i64 (t7 + 1)), ()), (b3, ())))))
 (some (.inl ((t1, t2, (), (wr .i64 (t7 + 1)), ()), (b3, ())))))
 (some (.inl ((t1, t2, (), (wr .i64 (t7 + 1)), ()), (b3, ()))))))
 (cond (x14.1 == 2)
 (cond (x14.2.1 == t1)
 (cond (x14.2.2.1 == t2)
 (some (.inr (.inr ((t7, ()), ()))))
 (some (.inl ((t1, t2, (), (wr .i64 (t7 + 1)), ()), (b3, ())))))
 (some (.inl ((t1, t2, (), (wr .i64 (t7 + 1)), ()), (b3, ())))))
 (some (.inl ((t1, t2, (), (wr .i64 (t7 + 1)), ()), (b3, ()))))))))
 (some (.inr (.inl ((), ()))))))
 (some (.inr (.inl ((), ()))))))
 (some (.inr (.inl ((), ())))))
def Ze := Cb fun x : XH => Tg x.1.1 x.1.2.1 x.1.2.2.1 x.1.2.2.2.1 x.2.1
def Ii (a0 : Qa) (a1 : Int) (a2 : Int) : Option Ee :=
 (ob (Ze ((a1, a2, (), 0, ()), (a0, ()))) (se (fun y16 => (some ((-1), ()))) (fun z17 => (some (z17.1.1, ())))))
def Ml (a0 : Qa) (a1 : Int) (a2 : Int) : Option (Qf × Unit) :=
 (ob (Cn a1) fun r1 =>
 (cond (r1.1 == 0)
 (some ([], ()))
 (ob (Ii a0 r1.1 r1.2.1) fun r2 =>
 (cond (decide (r2.1 ≥ 0))
 (some (([(a2, r2.1, true, ()), (a2, r2.1, false, ())] : List Qe), ()))
 (ob (Ii a0 r1.1 0) fun r3 =>
 (ob (Ii a0 0 r1.2.1) fun r4 =>
 (cond (decide (r3.1 < 0))
 (some ([], ()))
 (cond (decide (r4.1 < 0))
 (some ([], ()))
 (cond (r1.2.1 == 0)
 (some ([], ()))
 (some (([(a2, r4.1, true, ()), (a2, r3.1, true, ()), (a2, r3.1, false, ()), (a2, r4.1, false, ())] : List Qe), ())))))))))))
def strings_Split (a b : List UInt8) : Option (List Gf × Unit) := Gy a b
def Bb (a0 : Int) : Option (Gf × Unit) :=
 (cond (decide (a0 < 1))
 (some ([], ()))
 (cond (decide (a0 > 56))
 (some ([], ()))
 (ob (strings_Split Rm ([32] : List UInt8)) fun r1 =>
 (cond (Th (ln r1.1) (wr .i64 (a0 - 1)))
 (ob r1.1[(tn (wr .i64 (a0 - 1)))]? fun x2 =>
 (some (x2, ())))
 none))))
def We (a0 : Int) (a1 : Int) : Option (Gf × Unit) :=
 (ob (Wg a0) fun r1 =>
 (cond (!r1.1)
 (some ([], ()))
 (cond (a1 != 0)
 (cond (a1 != 2)
 (some ([], ()))
 (cond (decide (a0 ≤ 26))
 (cond (a1 == 2)
 (some ((Be ([(wr .u8 (wr .i64 ((wr .i64 (65 + a0)) - 1)))] : List Int)), ()))
 (cond (decide (a0 ≤ 26))
 (ob (Bb a0) fun r2 =>
 (some (r2.1, ())))
 (cond (decide (a0 ≤ 36))
 (cond (a1 == 2)
 (cond (Ae (ln Od) (wr .i64 (a0 - 27)) (wr .i64 (a0 - 26)))
 (some ((Fd Od (tn (wr .i64 (a0 - 27))) (tn (wr .i64 (a0 - 26)))), ()))
 none)
 (cond (decide (a0 ≤ 36))
 (ob (Bb a0) fun r3 =>
 (some (r3.1, ())))
 (ob (Bb a0) fun r4 =>
 (cond (r4.1 == Le)
 (some (([10] : List UInt8), ()))
 (cond (r4.1 == ([116, 97, 98] : List UInt8))
 (some (([9] : List UInt8), ()))
 (cond (r4.1 == Me)
 (some (([32] : List UInt8), ()))
 (cond (r4.1 == Ke)
 (cond (a1 == 2)
 (some (([95] : List UInt8), ()))
 (some (([45] : List UInt8), ())))
 (cond (r4.1 == Je)
 (cond (a1 == 2)
 (some (([43] : List UInt8), ()))
 (some (([61] : List UInt8), ())))
 (some ([], ()))))))))))
 (cond (decide (a0 ≤ 36))
 (ob (Bb a0) fun r5 =>
 (some (r5.1, ())))
 (ob (Bb a0) fun r6 =>
 (cond (r6.1 == Le)
 (some (([10] : List UInt8), ()))
 (cond (r6.1 == ([116, 97, 98] : List UInt8))
 (some (([9] : List UInt8), ()))
 (cond (r6.1 == Me)
 (some (([32] : List UInt8), ()))
 (cond (r6.1 == Ke)
 (cond (a1 == 2)
 (some (([95] : List UInt8), ()))
 (some (([45] : List UInt8), ())))
 (cond (r6.1 == Je)
 (cond (a1 == 2)
 (some (([43] : List UInt8), ()))
 (some (([61] : List UInt8), ())))
 (some ([], ()))))))))))))
 (cond (decide (a0 ≤ 26))
 (ob (Bb a0) fun r7 =>
 (some (r7.1, ())))
 (cond (decide (a0 ≤ 36))
 (cond (a1 == 2)
 (cond (Ae (ln Od) (wr .i64 (a0 - 27)) (wr .i64 (a0 - 26)))
 (some ((Fd Od (tn (wr .i64 (a0 - 27))) (tn (wr .i64 (a0 - 26)))), ()))
 none)
 (cond (decide (a0 ≤ 36))
 (ob (Bb a0) fun r8 =>
 (some (r8.1, ())))
 (ob (Bb a0) fun r9 =>
 (cond (r9.1 == Le)
 (some (([10] : List UInt8), ()))
 (cond (r9.1 == ([116, 97, 98] : List UInt8))
 (some (([9] : List UInt8), ()))
 (cond (r9.1 == Me)
 (some (([32] : List UInt8), ()))
 (cond (r9.1 == Ke)
 (cond (a1 == 2)
 (some (([95] : List UInt8), ()))
 (some (([45] : List UInt8), ())))
 (cond (r9.1 == Je)
 (cond (a1 == 2)
 (some (([43] : List UInt8), ()))
 (some (([61] : List UInt8), ())))
 (some ([], ()))))))))))
 (cond (decide (a0 ≤ 36))
 (ob (Bb a0) fun r10 =>
 (some (r10.1, ())))
 (ob (Bb a0) fun r11 =>
 (cond (r11.1 == Le)
 (some (([10] : List UInt8), ()))
 (cond (r11.1 == ([116, 97, 98] : List UInt8))
 (some (([9] : List UInt8), ()))
 (cond (r11.1 == Me)
 (some (([32] : List UInt8), ()))
 (cond (r11.1 == Ke)
 (cond (a1 == 2)
 (some (([95] : List UInt8), ()))
 (some (([45] : List UInt8), ())))
 (cond (r11.1 == Je)
 (cond (a1 == 2)
 (some (([43] : List UInt8), ()))
 (some (([61] : List UInt8), ())))
 (some ([], ())))))))))))))
 (cond (decide (a0 ≤ 26))
 (cond (a1 == 2)
 (some ((Be ([(wr .u8 (wr .i64 ((wr .i64 (65 + a0)) - 1)))] : List Int)), ()))
 (cond (decide (a0 ≤ 26))
 (ob (Bb a0) fun r12 =>
 (some (r12.1, ())))
 (cond (decide (a0 ≤ 36))
 (cond (a1 == 2)
 (cond (Ae (ln Od) (wr .i64 (a0 - 27)) (wr .i64 (a0 - 26)))
 (some ((Fd Od (tn (wr .i64 (a0 - 27))) (tn (wr .i64 (a0 - 26)))), ()))
 none)
 (cond (decide (a0 ≤ 36))
 (ob (Bb a0) fun r13 =>
 (some (r13.1, ())))
 (ob (Bb a0) fun r14 =>
 (cond (r14.1 == Le)
 (some (([10] : List UInt8), ()))
 (cond (r14.1 == ([116, 97, 98] : List UInt8))
 (some (([9] : List UInt8), ()))
 (cond (r14.1 == Me)
 (some (([32] : List UInt8), ()))
 (cond (r14.1 == Ke)
 (cond (a1 == 2)
 (some (([95] : List UInt8), ()))
 (some (([45] : List UInt8), ())))
 (cond (r14.1 == Je)
 (cond (a1 == 2)
 (some (([43] : List UInt8), ()))
 (some (([61] : List UInt8), ())))
 (some ([], ()))))))))))
 (cond (decide (a0 ≤ 36))
 (ob (Bb a0) fun r15 =>
 (some (r15.1, ())))
 (ob (Bb a0) fun r16 =>
 (cond (r16.1 == Le)
 (some (([10] : List UInt8), ()))
 (cond (r16.1 == ([116, 97, 98] : List UInt8))
 (some (([9] : List UInt8), ()))
 (cond (r16.1 == Me)
 (some (([32] : List UInt8), ()))
 (cond (r16.1 == Ke)
 (cond (a1 == 2)
 (some (([95] : List UInt8), ()))
 (some (([45] : List UInt8), ())))
 (cond (r16.1 == Je)
 (cond (a1 == 2)
 (some (([43] : List UInt8), ()))
 (some (([61] : List UInt8), ())))
 (some ([], ()))))))))))))
 (cond (decide (a0 ≤ 26))
 (ob (Bb a0) fun r17 =>
 (some (r17.1, ())))
 (cond (decide (a0 ≤ 36))
 (cond (a1 == 2)
 (cond (Ae (ln Od) (wr .i64 (a0 - 27)) (wr .i64 (a0 - 26)))
 (some ((Fd Od (tn (wr .i64 (a0 - 27))) (tn (wr .i64 (a0 - 26)))), ()))
 none)
 (cond (decide (a0 ≤ 36))
 (ob (Bb a0) fun r18 =>
 (some (r18.1, ())))
 (ob (Bb a0) fun r19 =>
 (cond (r19.1 == Le)
 (some (([10] : List UInt8), ()))
 (cond (r19.1 == ([116, 97, 98] : List UInt8))
 (some (([9] : List UInt8), ()))
 (cond (r19.1 == Me)
 (some (([32] : List UInt8), ()))
 (cond (r19.1 == Ke)
 (cond (a1 == 2)
 (some (([95] : List UInt8), ()))
 (some (([45] : List UInt8), ())))
 (cond (r19.1 == Je)
 (cond (a1 == 2)
 (some (([43] : List UInt8), ()))
 (some (([61] : List UInt8), ())))
 (some ([], ()))))))))))
 (cond (decide (a0 ≤ 36))
 (ob (Bb a0) fun r20 =>
 (some (r20.1, ())))
 (ob (Bb a0) fun r21 =>
 (cond (r21.1 == Le)
 (some (([10] : List UInt8), ()))
 (cond (r21.1 == ([116, 97, 98] : List UInt8))
 (some (([9] : List UInt8), ()))
 (cond (r21.1 == Me)
 (some (([32] : List UInt8), ()))
 (cond (r21.1 == Ke)
 (cond (a1 == 2)
 (some (([95] : List UInt8), ()))
 (some (([45] : List UInt8), ())))
 (cond (r21.1 == Je)
 (cond (a1 == 2)
 (some (([43] : List UInt8), ()))
 (some (([61] : List UInt8), ())))
 (some ([], ())))))))))))))))
def Re (t0 : Int) (t5 : Int) (t6 : Int) (t7 : (List Int)) (t8 : Int) (t9 : Int) : Option (((Int × (Int × Ut)) × Unit) ⊕ ((Ut × Unit) ⊕ (Pe × Unit))) :=
 (cond (decide (t6 ≤ 56))
 (ob (We t6 t5) fun r16 =>
 (cond (r16.1 == (Be ([t0] : List Int)))
 (some (.inr (.inr ((t6, t5, ()), ()))))
 (some (.inl ((t0, t5, (wr .i64 (t6 + 1)), t7, t8, t9, ()), ())))))
 (some (.inr (.inl ((t0, t7, t8, t9, ()), ())))))
def Pc := Cb fun x : ((Int × (Int × Ut)) × Unit) => Re x.1.1 x.1.2.1 x.1.2.2.1 x.1.2.2.2.1 x.1.2.2.2.2.1 x.1.2.2.2.2.2.1
def Yc (t0 : Int) (t7 : (List Int)) (t8 : Int) (t9 : Int) : Option ((Ut × Unit) ⊕ (Om ⊕ (Pe × Unit))) :=
 (cond (decide (t9 < t8))
 (cond (Th (ln t7) t9)
 (ob t7[(tn t9)]? fun x13 =>
 (ob (Pc ((t0, x13, 1, t7, t8, t9, ()), ())) (se (fun y17 => (some (.inl ((y17.1.1, y17.1.2.1, y17.1.2.2.1, (wr .i64 (y17.1.2.2.2.1 + 1)), ()), ())))) (fun z18 => (some (.inr (.inr (z18.1, ()))))))))
 none)
 (some (.inr (.inl ((), ())))))
def Oj := Cb fun x : (Ut × Unit) => Yc x.1.1 x.1.2.1 x.1.2.2.1 x.1.2.2.2.1
def Xm (a0 : Int) : Option Pe :=
 (ob (Oj ((a0, ([0, 2] : List Int), ((ln ([0, 2] : List Int) : Nat) : Int), 0, ()), ())) (se (fun y19 => (some (0, 0, ()))) (fun z20 => (some z20.1))))
def Ej (a0 : Za) : Option Ff :=
 (ob (Lg a0) fun r1 =>
 (cond r1.1
 (cond (a0.1 == 6)
 (some (true, ()))
 (some ((a0.1 == 7), ())))
 (some (false, ()))))
def Ym (a0 : Za) : Option (Za × Unit) :=
 (ob (Ej a0) fun r1 =>
 (cond (!r1.1)
 (some (a0, ()))
 (some ((2, a0.2.1, 0, 0, ()), ()))))
def Ki (t1 : Int) (t2 : Int) (t12 : Dg) (t13 : Int) (t14 : Int) : Option ((CA × Unit) ⊕ (Om ⊕ Xl)) :=
 (cond (decide (t14 < t13))
 (ob (Pd t12 t14) fun x6 =>
 (cond (t1 != 0)
 (ob (Ym x6) fun r7 =>
 (cond (r7.1.1 == 2)
 (cond (r7.1.2.1 == t1)
 (cond (r7.1.2.2.1 == t2)
 (some (.inr (.inr ((t14, ()), ()))))
 (some (.inl ((t1, t2, t12, t13, (wr .i64 (t14 + 1)), ()), ()))))
 (some (.inl ((t1, t2, t12, t13, (wr .i64 (t14 + 1)), ()), ()))))
 (some (.inl ((t1, t2, t12, t13, (wr .i64 (t14 + 1)), ()), ())))))
 (cond (x6.1 == 2)
 (cond (x6.2.1 == t1)
 (cond (x6.2.2.1 == t2)
 (some (.inr (.inr ((t14, ()), ()))))
 (some (.inl ((t1, t2, t12, t13, (wr .i64 (t14 + 1)), ()), ()))))
 (some (.inl ((t1, t2, t12, t13, (wr .i64 (t14 + 1)), ()), ()))))
 (some (.inl ((t1, t2, t12, t13, (wr .i64 (t14 + 1)), ()), ()))))))
 (some (.inr (.inl ((), ())))))
def Qg := Cb fun x : (CA × Unit) => Ki x.1.1 x.1.2.1 x.1.2.2.1 x.1.2.2.2.1 x.1.2.2.2.2.1
def Gi (a0 : Qa) (a1 : Int) (a2 : Int) : Option Ee :=
 (ob (Pd a0.2.1 0) fun x1 =>
 (ob (Qg ((a1, a2, x1, ((ln x1 : Nat) : Int), 0, ()), ())) (se (fun y8 => (some ((-1), ()))) (fun z9 => (some (z9.1.1, ()))))))
def Fj (a0 : Qa) (a1 : Int) (a2 : Int) : Option (Qf × Ff) :=
 (ob (Xm a1) fun r1 =>
 (cond (r1.1 == 0)
 (some ([], false, ()))
 (ob (Gi a0 r1.1 r1.2.1) fun r2 =>
 (cond (decide (r2.1 ≥ 0))
 (some (([(a2, r2.1, true, ()), (a2, r2.1, false, ())] : List Qe), true, ()))
 (ob (Gi a0 r1.1 0) fun r3 =>
 (ob (Gi a0 0 r1.2.1) fun r4 =>
 (cond (r1.2.1 == 0)
 (some ([], false, ()))
 (cond (decide (r3.1 < 0))
 (some ([], false, ()))
 (cond (decide (r4.1 < 0))
 (some ([], false, ()))
 (some (([(a2, r4.1, true, ()), (a2, r3.1, true, ()), (a2, r3.1, false, ()), (a2, r4.1, false, ())] : List Qe), true, ())))))))))))
def Pg (t1 : Gf) (t2 : Unit) (t6 : Qf) (t7 : Int) (b2 : Qa) : Option NF :=
 (cond (decide (t7 < ((ln t1 : Nat) : Int)))
 (ob (Pd t1 t7) fun c8 =>
 (ob (Fj b2 ((UInt8.toNat c8 : Nat) : Int) t7) fun r9 =>
 (cond (!r9.2.1)
 (some (.inr (.inr (([], false, ()), ()))))
 (cond (bl (ln t6 + ln r9.1) Zi)
 (some (.inl ((t1, (), (ap t6 r9.1), (wr .i64 (t7 + 1)), ()), (b2, ()))))
 none))))
 (some (.inr (.inl ((t6, ()), ())))))
def Eh := Cb fun x : BA => Pg x.1.1 x.1.2.1 x.1.2.2.1 x.1.2.2.2.1 x.2.1
def Ag (a0 : Qa) (a1 : Gf) : Option (Qf × Ff) :=
 (ob (Gk a0) fun r1 =>
 (cond (!r1.1)
 (some ([], false, ()))
 (cond (decide (((ln a1 : Nat) : Int) > 60))
 (some ([], false, ()))
 (ob (Eh ((a1, (), [], 0, ()), (a0, ()))) (se (fun y10 => (cond (decide (((ln y10.1.1 : Nat) : Int) > 64))
 (some ([], false, ()))
 (some (y10.1.1, true, ())))) (fun z11 => (some z11.1)))))))
def Vf (t0 : Dg) (t1 : Int) (t5 : Int) : Option (Tw ⊕ (((Dg × Ee) × Unit) ⊕ Om)) :=
 (cond (decide (t5 < ((ln t0 : Nat) : Int)))
 (cond (Th (ln t0) t5)
 (ob t0[(tn t5)]? fun x9 =>
 (cond (Th (ln (ls t0 (tn t5) (t1, x9.2))) t5)
 (ob (ls t0 (tn t5) (t1, x9.2))[(tn t5)]? fun x10 =>
 (cond (Th (ln (ls (ls t0 (tn t5) (t1, x9.2)) (tn t5) (x10.1, (wr .i64 (t1 + 1)), x10.2.2))) t5)
 (ob (ls (ls t0 (tn t5) (t1, x9.2)) (tn t5) (x10.1, (wr .i64 (t1 + 1)), x10.2.2))[(tn t5)]? fun x11 =>
 (cond (Th (ln (ls (ls (ls t0 (tn t5) (t1, x9.2)) (tn t5) (x10.1, (wr .i64 (t1 + 1)), x10.2.2)) (tn t5) (x11.1, x11.2.1, (wr .i64 ((wr .i64 (t1 + 1)) + 1)), x11.2.2.2))) t5)
 (ob (ls (ls (ls t0 (tn t5) (t1, x9.2)) (tn t5) (x10.1, (wr .i64 (t1 + 1)), x10.2.2)) (tn t5) (x11.1, x11.2.1, (wr .i64 ((wr .i64 (t1 + 1)) + 1)), x11.2.2.2))[(tn t5)]? fun x12 =>
 (some (.inl (((ls (ls (ls (ls t0 (tn t5) (t1, x9.2)) (tn t5) (x10.1, (wr .i64 (t1 + 1)), x10.2.2)) (tn t5) (x11.1, x11.2.1, (wr .i64 ((wr .i64 (t1 + 1)) + 1)), x11.2.2.2)) (tn t5) (x12.1, x12.2.1, x12.2.2.1, (wr .i64 ((wr .i64 ((wr .i64 (t1 + 1)) + 1)) + 1)), x12.2.2.2.2)), (wr .i64 ((wr .i64 ((wr .i64 ((wr .i64 (t1 + 1)) + 1)) + 1)) + 1)), (wr .i64 (t5 + 1)), ()), ()))))
 none))
 none))
 none))
 none)
 (some (.inr (.inl ((t0, t1, ()), ())))))
def Lj := Cb fun x : Tw => Vf x.1.1 x.1.2.1 x.1.2.2.1
def Nk (a0 : Dg) (a1 : Int) : Option (Dg × Ee) :=
 (ob (Lj ((a0, a1, 0, ()), ())) (se (fun y13 => (some (y13.1.1, (y13.1.2.1, ())))) (fun z14 => none)))
def Cf (t0 : Rf) (t1 : Int) (t5 : Int) : Option ((Vm × Unit) ⊕ (((Rf × Ee) × Unit) ⊕ Om)) :=
 (cond (decide (t5 < ((ln t0 : Nat) : Int)))
 (cond (Th (ln t0) t5)
 (ob t0[(tn t5)]? fun x5 =>
 (ob (Nk x5 t1) fun r6 =>
 (some (.inl (((ls t0 (tn t5) r6.1), r6.2.1, (wr .i64 (t5 + 1)), ()), ())))))
 none)
 (some (.inr (.inl ((t0, t1, ()), ())))))
def Yi := Cb fun x : (Vm × Unit) => Cf x.1.1 x.1.2.1 x.1.2.2.1
def Pj (a0 : Rf) (a1 : Int) : Option (Rf × Ee) :=
 (ob (Yi ((a0, a1, 0, ()), ())) (se (fun y7 => (some (y7.1.1, (y7.1.2.1, ())))) (fun z8 => none)))
def Ni (a0 : Qa) (a1 : Int) : Option (Qa × Ee) :=
 (ob (Pj a0.2.1 a1) fun r1 =>
 (some ((a0.1, r1.1, ()), (r1.2.1, ()))))
def Uf (t0 : Dg) (t1 : Int) (t5 : Int) : Option (Tw ⊕ (Xl ⊕ Xl)) :=
 (cond (decide (t5 < ((ln t0 : Nat) : Int)))
 (ob (Pd t0 t5) fun x9 =>
 (cond (x9.1 != t1)
 (some (.inr (.inr (((-1), ()), ()))))
 (ob (Pd t0 t5) fun x10 =>
 (cond (x10.2.1 != (wr .i64 (t1 + 1)))
 (some (.inr (.inr (((-1), ()), ()))))
 (ob (Pd t0 t5) fun x11 =>
 (cond (x11.2.2.1 != (wr .i64 ((wr .i64 (t1 + 1)) + 1)))
 (some (.inr (.inr (((-1), ()), ()))))
 (ob (Pd t0 t5) fun x12 =>
 (cond (x12.2.2.2.1 != (wr .i64 ((wr .i64 ((wr .i64 (t1 + 1)) + 1)) + 1)))
 (some (.inr (.inr (((-1), ()), ()))))
 (some (.inl ((t0, (wr .i64 ((wr .i64 ((wr .i64 ((wr .i64 (t1 + 1)) + 1)) + 1)) + 1)), (wr .i64 (t5 + 1)), ()), ())))))))))))
 (some (.inr (.inl ((t1, ()), ())))))
def Zn := Cb fun x : Tw => Uf x.1.1 x.1.2.1 x.1.2.2.1
def Qn (a0 : Dg) (a1 : Int) : Option Ee :=
 (ob (Zn ((a0, a1, 0, ()), ())) (se (fun y13 => (some (y13.1.1, ()))) (fun z14 => (some (z14.1.1, ())))))
def Bf (t0 : Rf) (t1 : Int) (t5 : Int) : Option ((Vm × Unit) ⊕ (Xl ⊕ Xl)) :=
 (cond (decide (t5 < ((ln t0 : Nat) : Int)))
 (ob (Pd t0 t5) fun x5 =>
 (ob (Qn x5 t1) fun r6 =>
 (cond (decide (r6.1 < 0))
 (some (.inr (.inr (((-1), ()), ()))))
 (some (.inl ((t0, r6.1, (wr .i64 (t5 + 1)), ()), ()))))))
 (some (.inr (.inl ((t1, ()), ())))))
def Rn := Cb fun x : (Vm × Unit) => Bf x.1.1 x.1.2.1 x.1.2.2.1
def Tm (a0 : Rf) (a1 : Int) : Option Ee :=
 (ob (Rn ((a0, a1, 0, ()), ())) (se (fun y7 => (some (y7.1.1, ()))) (fun z8 => (some (z8.1.1, ())))))
def Fo (a0 : Qa) (a1 : Int) : Option Ee :=
 (ob (Tm a0.2.1 a1) fun r1 =>
 (cond (decide (r1.1 < 0))
 (some ((-1), ()))
 (some (r1.1, ()))))
def Sg (t1 : Gf) (t2 : Unit) (t6 : Qf) (t7 : Int) (b2 : Qa) : Option NF :=
 (cond (decide (t7 < ((ln t1 : Nat) : Int)))
 (ob (Pd t1 t7) fun c6 =>
 (ob (Ml b2 ((UInt8.toNat c6 : Nat) : Int) t7) fun r7 =>
 (cond (((ln r7.1 : Nat) : Int) == 0)
 (some (.inr (.inr (([], false, ()), ()))))
 (cond (bl (ln t6 + ln r7.1) Zi)
 (some (.inl ((t1, (), (ap t6 r7.1), (wr .i64 (t7 + 1)), ()), (b2, ()))))
 none))))
 (some (.inr (.inl ((t6, ()), ())))))
def Lh := Cb fun x : BA => Sg x.1.1 x.1.2.1 x.1.2.2.1 x.1.2.2.2.1 x.2.1
def Kh (a0 : Qa) (a1 : Gf) : Option (Qf × Ff) :=
 (ob (Fi a0) fun r1 =>
 (cond (!r1.1)
 (some ([], false, ()))
 (cond (decide (((ln a1 : Nat) : Int) > 60))
 (some ([], false, ()))
 (ob (Lh ((a1, (), [], 0, ()), (a0, ()))) (se (fun y8 => (cond (decide (((ln y8.1.1 : Nat) : Int) > 64))
 (some ([], false, ()))
 (some (y8.1.1, true, ())))) (fun z9 => (some z9.1)))))))
def Xi (a0 : Qe) (a1 : Qe) : Option Ff :=
 (cond (a0.1 != a1.1)
 (some (false, ()))
 (cond (a0.2.1 != a1.2.1)
 (some (false, ()))
 (cond (a0.2.2.1 != a1.2.2.1)
 (some (false, ()))
 (some (true, ())))))
def Es (t0 : Qf) (t1 : Qf) (t5 : Int) : Option (((Qf × (Qf × Ee)) × Unit) ⊕ Rw) :=
 (cond (decide (t5 < ((ln t0 : Nat) : Int)))
 (ob (Pd t0 t5) fun x7 =>
 (ob (Pd t1 t5) fun x8 =>
 (ob (Xi x7 x8) fun r9 =>
 (cond (!r9.1)
 (some (.inr (.inr ((false, ()), ()))))
 (some (.inl ((t0, t1, (wr .i64 (t5 + 1)), ()), ())))))))
 (some (.inr (.inl ((), ())))))
def Gl := Cb fun x : ((Qf × (Qf × Ee)) × Unit) => Es x.1.1 x.1.2.1 x.1.2.2.1
def Mg (a0 : Qf) (a1 : Qf) : Option Ff :=
 (cond (((ln a0 : Nat) : Int) != ((ln a1 : Nat) : Int))
 (some (false, ()))
 (ob (Gl ((a0, a1, 0, ()), ())) (se (fun y10 => (some (true, ()))) (fun z11 => (some (z11.1.1, ()))))))
def Jg (t0 : Qf) (t1 : Int) (t5 : Int) : Option (Uw ⊕ (((Qf × Ee) × Unit) ⊕ Om)) :=
 (cond (decide (t5 < ((ln t0 : Nat) : Int)))
 (cond (Th (ln t0) t5)
 (ob t0[(tn t5)]? fun x7 =>
 (cond (Th (ln (ls t0 (tn t5) (t1, x7.2))) t5)
 (ob (ls t0 (tn t5) (t1, x7.2))[(tn t5)]? fun x8 =>
 (cond ((3 : Int) == 0)
 none
 (cond (Th (ln (ls (ls t0 (tn t5) (t1, x7.2)) (tn t5) (x8.1, (wr .i64 (t1 + 1)), x8.2.2))) t5)
 (ob (ls (ls t0 (tn t5) (t1, x7.2)) (tn t5) (x8.1, (wr .i64 (t1 + 1)), x8.2.2))[(tn t5)]? fun x9 =>
 (some (.inl (((ls (ls (ls t0 (tn t5) (t1, x7.2)) (tn t5) (x8.1, (wr .i64 (t1 + 1)), x8.2.2)) (tn t5) (x9.1, x9.2.1, ((Int.tmod (wr .i64 ((wr .i64 (t1 + 1)) + 1)) 3) == 0), x9.2.2.2)), (wr .i64 ((wr .i64 ((wr .i64 (t1 + 1)) + 1)) + 1)), (wr .i64 (t5 + 1)), ()), ()))))
 none)))
 none))
 none)
 (some (.inr (.inl ((t0, t1, ()), ())))))
def Zj := Cb fun x : Uw => Jg x.1.1 x.1.2.1 x.1.2.2.1
def Hl (a0 : Qf) (a1 : Int) : Option (Qf × Ee) :=
 (ob (Zj ((a0, a1, 0, ()), ())) (se (fun y10 => (some (y10.1.1, (y10.1.2.1, ())))) (fun z11 => none)))
def Ig (t0 : Qf) (t1 : Int) (t5 : Int) : Option (Uw ⊕ (Xl ⊕ Xl)) :=
 (cond (decide (t5 < ((ln t0 : Nat) : Int)))
 (ob (Pd t0 t5) fun x7 =>
 (cond (x7.1 != t1)
 (some (.inr (.inr (((-1), ()), ()))))
 (ob (Pd t0 t5) fun x8 =>
 (cond (x8.2.1 != (wr .i64 (t1 + 1)))
 (some (.inr (.inr (((-1), ()), ()))))
 (ob (Pd t0 t5) fun x9 =>
 (cond ((3 : Int) == 0)
 none
 (cond (x9.2.2.1 != ((Int.tmod (wr .i64 ((wr .i64 (t1 + 1)) + 1)) 3) == 0))
 (some (.inr (.inr (((-1), ()), ()))))
 (some (.inl ((t0, (wr .i64 ((wr .i64 ((wr .i64 (t1 + 1)) + 1)) + 1)), (wr .i64 (t5 + 1)), ()), ()))))))))))
 (some (.inr (.inl ((t1, ()), ())))))
def Yj := Cb fun x : Uw => Ig x.1.1 x.1.2.1 x.1.2.2.1
def Mi (a0 : Qf) (a1 : Int) : Option Ee :=
 (ob (Yj ((a0, a1, 0, ()), ())) (se (fun y10 => (some (y10.1.1, ()))) (fun z11 => (some (z11.1.1, ())))))
def Af (a0 : Qa) (a1 : Gf) : Option Ff :=
 (cond (decide (((ln a1 : Nat) : Int) > 1048576))
 (some (true, ()))
 (ob (Ik a0 1048576) fun r1 =>
 (cond (decide (r1.1 < 0))
 (some (true, ()))
 (ob (Hf a0) fun r2 =>
 (ob (Kh r2.1 a1) fun r3 =>
 (ob (Hf a0) fun r4 =>
 (ob (Ag r4.1 a1) fun r5 =>
 (ob (Mg r5.1 r3.1) fun r6 =>
 (cond (!r6.1)
 (some (false, ()))
 (cond (r5.2.1 != r3.2.1)
 (some (false, ()))
 (ob (Hf a0) fun r7 =>
 (ob (Hk r4.1 r7.1) fun r8 =>
 (cond (!r8.1)
 (some (false, ()))
 (ob (Ni r4.1 1) fun r9 =>
 (cond (decide (r9.2.1 < 0))
 (some (false, ()))
 (ob (Mg r5.1 r3.1) fun r10 =>
 (cond (!r10.1)
 (some (false, ()))
 (cond (r5.2.1 != r3.2.1)
 (some (false, ()))
 (ob (Hl r5.1 1) fun r11 =>
 (ob (Mi r11.1 1) fun r12 =>
 (cond (decide (r12.1 < 0))
 (some (false, ()))
 (cond (r12.1 != r11.2.1)
 (some (false, ()))
 (ob (Hf a0) fun r13 =>
 (ob (Ag r13.1 a1) fun r14 =>
 (ob (Mg r14.1 r3.1) fun r15 =>
 (cond (!r15.1)
 (some (false, ()))
 (cond (r14.2.1 != r3.2.1)
 (some (false, ()))
 (ob (Mi r11.1 1) fun r16 =>
 (cond (decide (r16.1 < 0))
 (some (false, ()))
 (cond (r16.1 != r11.2.1)
 (some (false, ()))
 (some (true, ()))))))))))))))))))))))))))))))))
end
theorem Hy (a : (List Za)) (hr : Zk (.sl Ta) a) (l : Nat) (hl : l ≤ Dc) : Hh a (l : Int) = some (Zv (Ab (.sl Ta) a) l, ()) := EO (e := Ta) (F := Hh) a hr l hl rfl rfl
theorem Nw (a : (List (List Za))) (hr : Zk (.sl (.sl Ta)) a) (l : Nat) (hl : l ≤ Dc) : Oi a (l : Int) = some (Zv (Ab (.sl (.sl Ta)) a) l, ()) := PO (e := (.sl Ta)) (f := Hh) (F := Oi) a hr l hl Hy rfl
theorem Xy (a : Qa) (hr : Zk Ra a) (l : Nat) (hl : l ≤ Dc) : Ik a (l : Int) = some (Zv (Ab Ra a) l, ()) := by
 unfold Ik
 have hs : Ab Ra a = Ab (.sl (.sl Ta)) a.2.1 := by simp only [Ab, Nat.add_zero, js, jt]
 rw [Nw a.2.1 hr.2.1 (l) (by omega)]
 simp only [jb]
 by_cases h0 : Ab (.sl (.sl Ta)) a.2.1 ≤ l
 case neg => rw [Xn h0, Xn (by omega)]; rfl
 rw [Hp h0, Xa (by omega)]
 simp only [cond_false]
 rw [Hp (by omega), hs]
 try simp only [Nat.sub_sub, jt]
theorem Yy (a : Za) (hz : Ab Ta a ≤ Dc) : Ei a = some (a, ()) := by
 unfold Ei
 rfl
theorem Jy (a : (List Za)) (hz : Ab (.sl Ta) a ≤ Dc) : Gj a = some (a, ()) := ZJ (e := Ta) _ _ (f := Ei) a hz Yy rfl
theorem Ow (a : (List (List Za))) (hz : Ab (.sl (.sl Ta)) a ≤ Dc) : Il a = some (a, ()) := ZJ (e := (.sl Ta)) _ _ (f := Gj) a hz Jy rfl
theorem Zy (a : Qa) (hz : Ab Ra a ≤ Dc) : Hf a = some (a, ()) := by
 unfold Hf
 have hs : Ab Ra a = Ab (.sl (.sl Ta)) a.2.1 := by simp only [Ab, Nat.add_zero, js, jt]
 rw [Ow a.2.1 (by omega)]
 simp only [jb]
theorem Oy (a : Za) (hz : Ab Ta a ≤ Zd) : Di a a = some (true, ()) := by
 unfold Di
 have hs : Ab Ta a = 0 := by simp only [Ab, Nat.add_zero, js, jt]
 simp only [bne_self_eq_false', cond_false, jg, jb]
theorem Kx (a : (List Za)) (hz : Ab (.sl Ta) a ≤ Zd) : Gh a a = some (true, ()) := DI (e := Ta) (f := Di) (F := Gh) a hz Oy rfl
theorem Aw (a : (List (List Za))) (hz : Ab (.sl (.sl Ta)) a ≤ Zd) : Li a a = some (true, ()) := DI (e := (.sl Ta)) (f := Gh) (F := Li) a hz Kx rfl
theorem Qy (a : Qa) (hz : Ab Ra a ≤ Zd) : Hk a a = some (true, ()) := by
 unfold Hk
 have hs : Ab Ra a = Ab (.sl (.sl Ta)) a.2.1 := by simp only [Ab, Nat.add_zero, js, jt]
 simp only [bne_self_eq_false', cond_false, jg, jb, Aw a.2.1 (by omega)]
theorem MA (a : Qe) (hz : Ab Yd a ≤ Zd) : Xi a a = some (true, ()) := by
 unfold Xi
 have hs : Ab Yd a = 0 := by simp only [Ab, Nat.add_zero, js, jt]
 simp only [bne_self_eq_false', cond_false, jg, jb]
theorem Py (a : (List Qe)) (hz : Ab (.sl Yd) a ≤ Zd) : Mg a a = some (true, ()) := DI (e := Yd) (f := Xi) (F := Mg) a hz MA rfl
theorem Dv (a : (List Za)) (k : Nat) (hk : k + 8 * Ab (.sl Ta) a ≤ Zd) : ∃ (a' : (List Za)) (k' : Nat), k ≤ k' ∧ k' ≤ k + 8 * Ab (.sl Ta) a ∧ Nk a (k : Int) = some (a', ((k' : Int), ())) ∧ Qn a' (k : Int) = some ((k' : Int), ()) ∧ kf (.sl Ta) a a' := UA (e := Ta) (RM := Vf) (RH := Uf) (fun _ _ => rfl) (fun _ _ => rfl) (by
 have h40 : Zd = 1099511627776 := rfl
 intro o k i hi hB
 have hw : jz .i64 (((k : Nat) : Int) + 1) = (((k + 1) : Nat) : Int) ∧ jz .i64 ((((k + 1) : Nat) : Int) + 1) = (((k + 2) : Nat) : Int) ∧ jz .i64 ((((k + 2) : Nat) : Int) + 1) = (((k + 3) : Nat) : Int) ∧ jz .i64 ((((k + 3) : Nat) : Int) + 1) = (((k + 4) : Nat) : Int) := ⟨Ed (by omega), Ed (by omega), Ed (by omega), Ed (by omega)⟩
 obtain ⟨w0, w1, w2, w3⟩ := hw
 refine ⟨(((k : Nat) : Int), (((k + 1) : Nat) : Int), (((k + 2) : Nat) : Int), (((k + 3) : Nat) : Int), ()), k + 4, by omega, by omega, ?_, ?_⟩
 ·simp only [Vf]
  rw [Sa (show (i : Int) < (ja o : Int) by omega)]
  simp only [w0, w1, w2, w3, cond_true, Ap, j6, Sa hi, jn, je hi, qj hi, jb, List.set_set, z3, cond_false]
 ·intro o2 hi2 h2
  simp only [Uf]
  rw [Sa (show (i : Int) < (ja o2 : Int) by omega), Pf hi2, h2]
  simp only [w0, w1, w2, w3, cond_true, jb, bne_self_eq_false', cond_false, z3]) (by
 intro o k
 simp only [Vf]
 rw [Xa (by omega)]
 rfl) (by
 intro o k
 simp only [Uf]
 rw [Xa (by omega)]
 rfl) a k hk
theorem Ku (a : (List (List Za))) (k : Nat) (hk : k + 8 * Ab (.sl (.sl Ta)) a ≤ Zd) : ∃ (a' : (List (List Za))) (k' : Nat), k ≤ k' ∧ k' ≤ k + 8 * Ab (.sl (.sl Ta)) a ∧ Pj a (k : Int) = some (a', ((k' : Int), ())) ∧ Tm a' (k : Int) = some ((k' : Int), ()) ∧ kf (.sl (.sl Ta)) a a' := UA (e := (.sl Ta)) (RM := Cf) (RH := Bf) (fun _ _ => rfl) (fun _ _ => rfl) (by
 have h40 : Zd = 1099511627776 := rfl
 intro o k i hi hB
 obtain ⟨y0, k0, g0, i0, m0, n0, _⟩ := Dv o[i] k (by omega)
 have d0 : decide ((k0 : Int) < 0) = false := Xa (by omega)
 refine ⟨y0, k0, by omega, by omega, ?_, ?_⟩
 ·simp only [Cf]
  rw [Sa (show (i : Int) < (ja o : Int) by omega)]
  simp only [m0, cond_true, Ap, j6, Sa hi, jn, je hi, qj hi, jb, List.set_set, z3, cond_false]
 ·intro o2 hi2 h2
  simp only [Bf]
  rw [Sa (show (i : Int) < (ja o2 : Int) by omega), Pf hi2, h2]
  simp only [n0, d0, cond_true, jb, bne_self_eq_false', cond_false, z3]) (by
 intro o k
 simp only [Cf]
 rw [Xa (by omega)]
 rfl) (by
 intro o k
 simp only [Bf]
 rw [Xa (by omega)]
 rfl) a k hk
theorem Hw (a : Qa) (k : Nat) (hk : k + 8 * Ab Ra a ≤ Zd) : ∃ (a' : Qa) (k' : Nat), k ≤ k' ∧ k' ≤ k + 8 * Ab Ra a ∧ Ni a (k : Int) = some (a', ((k' : Int), ())) ∧ Fo a' (k : Int) = some ((k' : Int), ()) ∧ kf Ra a a' := by
 have h40 : Zd = 1099511627776 := rfl
 have hs : Ab Ra a = Ab (.sl (.sl Ta)) a.2.1 := by simp only [Ab, Nat.add_zero, js, jt]
 obtain ⟨x0, k0, g0, i0, m0, n0, f0⟩ := Ku a.2.1 k (by omega)
 refine ⟨(a.1, x0, ()), k0, by omega, by omega, ?_, ?_, Cv _ _, f0, rfl⟩
 ·unfold Ni
  simp only [m0, jb]
 ·unfold Fo
  simp only [n0, jb]
  rw [Xa (by omega)]
  simp only [cond_false]
theorem Gw (a : (List Qe)) (k : Nat) (hk : k + 8 * Ab (.sl Yd) a ≤ Zd) : ∃ (a' : (List Qe)) (k' : Nat), k ≤ k' ∧ k' ≤ k + 8 * Ab (.sl Yd) a ∧ Hl a (k : Int) = some (a', ((k' : Int), ())) ∧ Mi a' (k : Int) = some ((k' : Int), ()) ∧ kf (.sl Yd) a a' := UA (e := Yd) (RM := Jg) (RH := Ig) (fun _ _ => rfl) (fun _ _ => rfl) (by
 have h40 : Zd = 1099511627776 := rfl
 intro o k i hi hB
 have hw : jz .i64 (((k : Nat) : Int) + 1) = (((k + 1) : Nat) : Int) ∧ jz .i64 ((((k + 1) : Nat) : Int) + 1) = (((k + 2) : Nat) : Int) ∧ jz .i64 ((((k + 2) : Nat) : Int) + 1) = (((k + 3) : Nat) : Int) := ⟨Ed (by omega), Ed (by omega), Ed (by omega)⟩
 obtain ⟨w0, w1, w2⟩ := hw
 refine ⟨(((k : Nat) : Int), (((k + 1) : Nat) : Int), (Int.tmod (((k + 2) : Nat) : Int) 3 == 0), ()), k + 3, by omega, by omega, ?_, ?_⟩
 ·simp only [Jg]
  rw [Sa (show (i : Int) < (ja o : Int) by omega)]
  simp only [w0, w1, w2, cond_true, Ap, j6, Sa hi, jn, je hi, qj hi, jb, List.set_set, z3, cond_false]
 ·intro o2 hi2 h2
  simp only [Ig]
  rw [Sa (show (i : Int) < (ja o2 : Int) by omega), Pf hi2, h2]
  simp only [w0, w1, w2, cond_true, jb, bne_self_eq_false', cond_false, z3]) (by
 intro o k
 simp only [Jg]
 rw [Xa (by omega)]
 rfl) (by
 intro o k
 simp only [Ig]
 rw [Xa (by omega)]
 rfl) a k hk
def Tb (k c m n : Int) : Prop :=
 ((k = 0 ∨ k = 1 ∨ k = 10) ∧ c = 0 ∧ m = 0 ∧ n = 0) ∨
 (k = 2 ∧ n = 0 ∧ (c = 0 ∨ 1 ≤ c ∧ c ≤ 56) ∧ (m = 0 ∨ 1 ≤ m ∧ m ≤ 15) ∧ (c ≠ 0 ∨ m ≠ 0)) ∨
 ((k = 3 ∨ k = 4) ∧ c = 0 ∧ m = 0 ∧ 1 ≤ n ∧ n ≤ 3) ∨
 ((k = 5 ∨ k = 9) ∧ c = 0 ∧ m = 0 ∧ 0 ≤ n ∧ n ≤ 3) ∨
 (k = 6 ∧ 1 ≤ c ∧ c ≤ 56 ∧ 1 ≤ m ∧ m ≤ 15 ∧ n = 0) ∨
 (k = 7 ∧ 1 ≤ c ∧ c ≤ 56 ∧ m = 0 ∧ 1 ≤ n ∧ n ≤ 3) ∨
 (k = 8 ∧ c = 0 ∧ 1 ≤ m ∧ m ≤ 15 ∧ n = 0)
noncomputable def Ge (a : Za) : Bool := open Classical in decide (Tb a.1 a.2.1 a.2.2.1 a.2.2.2.1)
theorem Ya (a : Za) : Ge a = true ↔ Tb a.1 a.2.1 a.2.2.1 a.2.2.2.1 := by simp [Ge]
theorem Bg (c : Int) : Wg c = some (decide (1 ≤ c ∧ c ≤ 56), ()) := by
 simp only [Wg, Qh, Rh]
 apply Kb; simp only [Rb, decide_eq_true_eq, Np, Pp, jq, and_false, false_and, or_false, false_or, and_true, true_and, not_true_eq_false, not_false_eq_true]; try omega
theorem Zo (c : Int) : Xg c = some (decide (1 ≤ c ∧ c ≤ 15), ()) := by
 simp only [Xg, Qh, Rh]
 apply Kb; simp only [Rb, decide_eq_true_eq, Np, Pp, jq, and_false, false_and, or_false, false_or, and_true, true_and, not_true_eq_false, not_false_eq_true]; try omega
theorem Eo (c : Int) : Fh c = some (decide (1 ≤ c ∧ c ≤ 3), ()) := by
 simp only [Fh, Qh, Rh]
 apply Kb; simp only [Rb, decide_eq_true_eq, Np, Pp, jq, and_false, false_and, or_false, false_or, and_true, true_and, not_true_eq_false, not_false_eq_true]; try omega
theorem Nd (c a b : Int) : Td c a b = some (decide (a ≤ c ∧ c ≤ b), ()) := by
 simp only [Td, Qh, Rh]
 apply Kb; simp only [Rb, decide_eq_true_eq, Np, Pp, jq, and_false, false_and, or_false, false_or, and_true, true_and, not_true_eq_false, not_false_eq_true]; try omega
theorem On (a : Za) : Lg a = some (Ge a, ()) := by
 obtain ⟨k, c, m, n, u⟩ := a
 have key : ∀ k c m n : Int, Lg (k, c, m, n, u) = some (Ge (k, c, m, n, u), ()) := by
  intro k c m n
  simp only [Lg, Bg, Zo, Eo, Nd, jb, Qh, Rh]
  by_cases h0 : k = 0
  ·subst h0; apply Kb; rw [Ya]; simp [Tb, Rb]; try omega
  by_cases h1 : k = 1
  ·subst h1; apply Kb; rw [Ya]; simp [Tb, Rb]; try omega
  by_cases h2 : k = 2
  ·subst h2; apply Kb; rw [Ya]; simp [Tb, Rb]; intro hn; (repeat' split) <;> omega
  by_cases h3 : k = 3
  ·subst h3; apply Kb; rw [Ya]; simp [Tb, Rb]; try omega
  by_cases h4 : k = 4
  ·subst h4; apply Kb; rw [Ya]; simp [Tb, Rb]; try omega
  by_cases h5 : k = 5
  ·subst h5; apply Kb; rw [Ya]; simp [Tb, Rb]; try omega
  by_cases h6 : k = 6
  ·subst h6; apply Kb; rw [Ya]; simp [Tb, Rb]; try omega
  by_cases h7 : k = 7
  ·subst h7; apply Kb; rw [Ya]; simp [Tb, Rb]; try omega
  by_cases h8 : k = 8
  ·subst h8; apply Kb; rw [Ya]; simp [Tb, Rb]; try omega
  by_cases h9 : k = 9
  ·subst h9; apply Kb; rw [Ya]; simp [Tb, Rb]; try omega
  by_cases h10 : k = 10
  ·subst h10; apply Kb; rw [Ya]; simp [Tb, Rb]; try omega
  have g : ∀ j : Int, (k == j) = decide (k = j) := fun j => by rw [ql]; simp
  apply Kb; rw [Ya]; simp [Tb, Rb, h0, h1, h2, h3, h4, h5, h6, h7, h8, h9, h10]
 exact key k c m n
theorem Wn (a : Za) : Og a = some (Ge a, ()) := by
 obtain ⟨k, c, m, n, u⟩ := a
 have key : ∀ k c m n : Int, Og (k, c, m, n, u) = some (Ge (k, c, m, n, u), ()) := by
  intro k c m n
  simp only [Og, Bg, Zo, Eo, Nd, jb, Qh, Rh]
  by_cases h0 : k = 0
  ·subst h0; apply Kb; rw [Ya]; simp [Tb, Rb]; try omega
  by_cases h1 : k = 1
  ·subst h1; apply Kb; rw [Ya]; simp [Tb, Rb]; try omega
  by_cases h2 : k = 2
  ·subst h2; apply Kb; rw [Ya]; simp [Tb, Rb]; intro hn; (repeat' split) <;> omega
  by_cases h3 : k = 3
  ·subst h3; apply Kb; rw [Ya]; simp [Tb, Rb]; try omega
  by_cases h4 : k = 4
  ·subst h4; apply Kb; rw [Ya]; simp [Tb, Rb]; try omega
  by_cases h5 : k = 5
  ·subst h5; apply Kb; rw [Ya]; simp [Tb, Rb]; try omega
  by_cases h6 : k = 6
  ·subst h6; apply Kb; rw [Ya]; simp [Tb, Rb]; try omega
  by_cases h7 : k = 7
  ·subst h7; apply Kb; rw [Ya]; simp [Tb, Rb]; try omega
  by_cases h8 : k = 8
  ·subst h8; apply Kb; rw [Ya]; simp [Tb, Rb]; try omega
  by_cases h9 : k = 9
  ·subst h9; apply Kb; rw [Ya]; simp [Tb, Rb]; try omega
  by_cases h10 : k = 10
  ·subst h10; apply Kb; rw [Ya]; simp [Tb, Rb]; try omega
  have g : ∀ j : Int, (k == j) = decide (k = j) := fun j => by rw [ql]; simp
  apply Kb; rw [Ya]; simp [Tb, Rb, h0, h1, h2, h3, h4, h5, h6, h7, h8, h9, h10]
 exact key k c m n
noncomputable def Dk (nl : Nat) (i : Nat) (a : Za) : Bool := Ge a && !(((i : Int) == 0) && (a.1 == 1)) && !((a.1 != 9) && decide (a.2.2.2.1 ≥ (nl : Int)))
noncomputable def Fg (keys : Int) (nl : Nat) (i : Nat) (l : List Za) : Bool := ((ja l : Int) == keys) && Ti (fun _ a => Dk nl i a) 0 l
noncomputable def Kd (m : Qa) : Bool :=
 decide (1 ≤ m.1 ∧ m.1 ≤ 32) && decide (1 ≤ m.2.1.length ∧ m.2.1.length ≤ 4) && Ti (fun i l => Fg m.1 m.2.1.length i l) 0 m.2.1
theorem Ft (m : Qa) (i : Nat) (l : List Za) (L : List (List Za)) (n : Int) (t : Int) (hl : l.length < 9223372036854775807) :
 Tf (((), (i : Int), L, n, t, l, (l.length : Int), (0 : Int), ()), (m, ())) =
  some (cond (Ti (fun _ a => Dk m.2.1.length i a) 0 l) (.inl (((), L, n, t, ()), (m, ()))) (.inr ((false, ()), ()))) := by
 unfold Tf
 refine Io (step := _) l (fun _ a => Dk m.2.1.length i a) (fun j => (((), (i : Int), L, n, t, l, (l.length : Int), j, ()), (m, ()))) _ _ ?_ ?_ hl
 ·intro k hk
  simp only [Nj]
  rw [Sa (show (k : Int) < (l.length : Int) by omega), Pf hk]
  simp only [cond_true, jb, Dk, On]
  cases Ge l[k] <;> cases ((i : Int) == 0) <;> cases (l[k].1 == 1) <;> cases (l[k].1 != 9) <;> cases decide (l[k].2.2.2.1 ≥ (m.2.1.length : Int)) <;> rfl
 ·simp [Nj]
theorem Gt (m : Qa) (hz : Ab Ra m ≤ Dc) : Gk m = some (Kd m, ()) := by
 have h20 : Dc = 1048576 := rfl
 have hz' : m.2.1.length + (List.map (Ab (.sl Ta)) m.2.1).sum ≤ Dc := by
  have : Ab Ra m = Ab (.sl (.sl Ta)) m.2.1 := by simp only [Ab, Nat.add_zero, js]
  rw [this] at hz; exact hz
 have hl : ∀ k (hk : k < m.2.1.length), m.2.1[k].length ≤ Dc := by
  intro k hk
  have := En (f := Ab (.sl Ta)) hk
  have h2 : m.2.1[k].length ≤ Ab (.sl Ta) m.2.1[k] := Nat.le_add_right _ _
  omega
 have hloop : Sf (((), m.2.1, ((ja m.2.1 : Nat) : Int), (0 : Int), ()), (m, ())) =
  some (cond (Ti (fun i l => Fg m.1 m.2.1.length i l) 0 m.2.1) (.inl ((), ())) (.inr ((false, ()), ()))) := by
  unfold Sf
  refine Io (step := _) m.2.1 (fun i l => Fg m.1 m.2.1.length i l) (fun j => (((), m.2.1, ((ja m.2.1 : Nat) : Int), j, ()), (m, ()))) _ _ ?_ ?_ (by omega)
  ·intro k hk
   have := hl k hk
   simp only [Mj]
   rw [Sa (show (k : Int) < (m.2.1.length : Int) by omega), Pf hk]
   simp only [cond_true, jb, Fg]
   rw [Ft m k _ _ _ _ (by omega)]
   show (cond (!((m.2.1[k].length : Int) == m.1)) _ _) = _
   cases ((m.2.1[k].length : Int) == m.1) <;> cases Ti (fun _ a => Dk m.2.1.length k a) 0 m.2.1[k] <;> rfl
  ·simp [Mj]
 unfold Gk
 rw [hloop]
 simp only [jb, Nv, Qh, Rh]
 apply Kb
 simp only [Rb, Kd, jd, decide_eq_true_eq, jq, and_false, false_or, and_true, or_false]
 generalize Ti (fun i l => Fg m.1 m.2.1.length i l) 0 m.2.1 = b
 constructor
 ·rintro ⟨h1, h2, h3, h4, h5⟩; exact ⟨⟨by omega, by omega⟩, h5⟩
 ·rintro ⟨⟨h1, h2⟩, h5⟩; exact ⟨by omega, by omega, by omega, by omega, h5⟩
theorem Pt (m : Qa) (i : Nat) (hi : i < m.2.1.length) (hl : m.2.1[i].length < 9223372036854775807) :
 Yf (((), (i : Int), (0 : Int), ()), (m, ())) =
  some (cond (Ti (fun _ a => Dk m.2.1.length i a) 0 m.2.1[i]) (.inl (((), (i : Int), ()), (m, ()))) (.inr ((false, ()), ()))) := by
 unfold Yf
 refine Io (step := _) m.2.1[i] (fun _ a => Dk m.2.1.length i a) (fun j => (((), (i : Int), j, ()), (m, ()))) _ _ ?_ ?_ hl
 ·intro k hk
  simp only [Rj]
  rw [Pf hi]
  simp only [jb]
  rw [Sa (show (k : Int) < (m.2.1[i].length : Int) by omega), Pf hk]
  simp only [cond_true, jb, Dk, Wn]
  cases Ge m.2.1[i][k] <;> cases ((i : Int) == 0) <;> cases (m.2.1[i][k].1 == 1) <;> cases (m.2.1[i][k].1 != 9) <;> cases decide (m.2.1[i][k].2.2.2.1 ≥ (m.2.1.length : Int)) <;> rfl
 ·simp [Rj, Pf hi]
theorem Qk (m : Qa) (hz : Ab Ra m ≤ Dc) : Fi m = some (Kd m, ()) := by
 have h20 : Dc = 1048576 := rfl
 have hz' : m.2.1.length + (List.map (Ab (.sl Ta)) m.2.1).sum ≤ Dc := by
  have : Ab Ra m = Ab (.sl (.sl Ta)) m.2.1 := by simp only [Ab, Nat.add_zero, js]
  rw [this] at hz; exact hz
 have hl : ∀ k (hk : k < m.2.1.length), m.2.1[k].length ≤ Dc := by
  intro k hk
  have := En (f := Ab (.sl Ta)) hk
  have h2 : m.2.1[k].length ≤ Ab (.sl Ta) m.2.1[k] := Nat.le_add_right _ _
  omega
 have hloop : Xf (((), (0 : Int), ()), (m, ())) =
  some (cond (Ti (fun i l => Fg m.1 m.2.1.length i l) 0 m.2.1) (.inl (((), ()), (m, ()))) (.inr ((false, ()), ()))) := by
  unfold Xf
  refine Io (step := _) m.2.1 (fun i l => Fg m.1 m.2.1.length i l) (fun j => (((), j, ()), (m, ()))) _ _ ?_ ?_ (by omega)
  ·intro k hk
   have := hl k hk
   simp only [Qj]
   rw [Sa (show (k : Int) < (m.2.1.length : Int) by omega), Pf hk]
   simp only [cond_true, jb, Fg]
   rw [Pt m k hk (by omega)]
   show (cond (!((m.2.1[k].length : Int) == m.1)) _ _) = _
   cases ((m.2.1[k].length : Int) == m.1) <;> cases Ti (fun _ a => Dk m.2.1.length k a) 0 m.2.1[k] <;> rfl
  ·simp [Qj]
 unfold Fi
 rw [hloop]
 simp only [jb, Nv, Qh, Rh, Nd]
 apply Kb
 simp only [Rb, Kd, jd, decide_eq_true_eq, jq, and_false, false_or, and_true, or_false]
 generalize Ti (fun i l => Fg m.1 m.2.1.length i l) 0 m.2.1 = b
 constructor
 ·rintro ⟨h1, h2, h3⟩; exact ⟨⟨by omega, by omega⟩, h1⟩
 ·rintro ⟨⟨h1, h2⟩, h5⟩; exact ⟨h5, by omega, by omega⟩
structure Xs (m : Qa) : Prop where
 k1 : 1 ≤ m.1
 k2 : m.1 ≤ 32
 l1 : 1 ≤ m.2.1.length
 l2 : m.2.1.length ≤ 4
 row : ∀ i (h : i < m.2.1.length), (m.2.1[i].length : Int) = m.1
 act : ∀ i (h : i < m.2.1.length) k (hk : k < m.2.1[i].length), Dk m.2.1.length i m.2.1[i][k] = true
theorem Qv {m : Qa} (h : Kd m = true) : Xs m := by
 simp only [Kd, jd, decide_eq_true_eq] at h
 obtain ⟨⟨h1, h2⟩, h3⟩ := h
 rw [Nq] at h3
 refine ⟨h1.1, h1.2, h2.1, h2.2, fun i hi => ?_, fun i hi k hk => ?_⟩
 ·have := h3 i hi
  simp only [js, Fg, jd, beq_iff_eq] at this
  exact this.1
 ·have := h3 i hi
  simp only [js, Fg, jd, beq_iff_eq] at this
  have := Nq.1 this.2 k hk
  simpa using this
noncomputable def Xh (a : Za) : Bool := Ge a && ((a.1 == 6) || (a.1 == 7))
noncomputable def Nh (a : Za) : Za := cond (Xh a) (2, a.2.1, 0, 0, ()) a
theorem Cs (a : Za) : Ej a = some (Xh a, ()) := by
 unfold Ej Xh
 rw [On]
 cases Ge a <;> cases (a.1 == 6) <;> rfl
theorem Is (a : Za) : Jj a = some (Xh a, ()) := by
 unfold Jj Xh
 rw [Wn]
 cases Ge a <;> cases (a.1 == 6) <;> rfl
theorem Dw (a : Za) : Ym a = some (Nh a, ()) := by
 unfold Ym Nh
 rw [Cs]
 cases Xh a <;> rfl
theorem Lw (a : Za) : Dn a = some (Nh a, ()) := by
 unfold Dn Nh
 rw [Is]
 cases Xh a <;> rfl
noncomputable def Yq (c d : Int) (a : Za) : Bool :=
 (((cond (c != 0) (Nh a) a).1 == 2) && ((cond (c != 0) (Nh a) a).2.1 == c)) && ((cond (c != 0) (Nh a) a).2.2.1 == d)
def Wq {α : Type} (p : α → Bool) : Nat → List α → Int
 | _, [] => -1
 | k, x :: xs => cond (p x) (k : Int) (Wq p (k + 1) xs)
noncomputable def Uc (m : Qa) (c d : Int) : Int := Wq (Yq c d) 0 (m.2.1.getD 0 [])
theorem GI {α : Type} {xs : List α} (h : 0 < xs.length) (d : α) : Pd xs (0 : Int) = some (xs.getD 0 d) := by
 cases xs with
 | nil => simp at h
 | cons x xs => rfl
theorem Po {α : Type} (p : α → Bool) : ∀ (xs : List α) (k : Nat), (match Dj (fun k (_ : Unit) x => cond (p x) (.inr (k : Int)) (.inl ())) k () xs with | .inl _ => (-1 : Int) | .inr r => r) = Wq p k xs
 | [], _ => rfl
 | x :: xs, k => by
  simp only [Dj, Wq]
  cases p x with
  | true => rfl
  | false => exact Po p xs (k + 1)
theorem Ht (c d : Int) (row : List Za) (hn : row.length < 9223372036854775807) :
 ∃ z, Qg ((c, d, row, (row.length : Int), (0 : Int), ()), ()) = some z ∧ (match z with | .inl _ => (-1 : Int) | .inr r => r.1.1) = Wq (Yq c d) 0 row := by
 unfold Qg
 refine ⟨_, Am (step := fun x : ((Int × (Int × ((List Za) × (Int × (Int × Unit))))) × Unit) => Ki x.1.1 x.1.2.1 x.1.2.2.1 x.1.2.2.2.1 x.1.2.2.2.2.1)
  row (fun k (_ : Unit) x => cond (Yq c d x) (.inr (k : Int)) (.inl ())) (fun _ k => ((c, d, row, (row.length : Int), k, ()), ())) (fun _ => .inl ((), ())) (fun r => .inr ((r, ()), ())) (fun _ _ => True) ?_ ?_ hn () trivial, ?_⟩
 ·intro k hk s _
  refine ⟨?_, fun _ _ => trivial⟩
  simp only [Ki]
  rw [Sa (show (k : Int) < (row.length : Int) by omega), Pf hk]
  simp only [cond_true, jb, Dw, Yq]
  cases (c != 0) with
  | true =>
   simp only [cond_true]
   cases ((Nh row[k]).1 == 2) <;> cases ((Nh row[k]).2.1 == c) <;> cases ((Nh row[k]).2.2.1 == d) <;> rfl
  | false =>
   simp only [cond_false]
   cases (row[k].1 == 2) <;> cases (row[k].2.1 == c) <;> cases (row[k].2.2.1 == d) <;> rfl
 ·intro s _
  simp only [Ki]
  rw [Xa (by omega)]; rfl
 ·rw [← Po]
  cases Dj (fun k (_ : Unit) x => cond (Yq c d x) (.inr (k : Int)) (.inl ())) 0 () row <;> rfl
theorem Bv {m : Qa} (hm : Xs m) (c d : Int) : Gi m c d = some (Uc m c d, ()) := by
 unfold Gi Uc
 have h1 := hm.l1
 have hk2 := hm.k2
 have hrow := hm.row 0 (by omega)
 have h0 : Pd m.2.1 (0 : Int) = some (m.2.1.getD 0 []) := GI (by omega) []
 have hlen : (m.2.1.getD 0 []).length < 9223372036854775807 := by
  have : m.2.1.getD 0 [] = m.2.1[0] := by simp [qf, show 0 < m.2.1.length by omega]
  rw [this]; omega
 rw [h0]
 simp only [jb]
 obtain ⟨z, e, hz⟩ := Ht c d _ hlen
 rw [e, ← hz]
 cases z <;> rfl
theorem Jv (m : Qa) (c d : Int) (hz : Ab Ra m ≤ Dc) : Ii m c d = some (cond (Kd m && decide (0 ≤ c ∧ c ≤ 56)) (Uc m c d) (-1), ()) := by
 unfold Ii
 have stop : (Kd m && decide (0 ≤ c ∧ c ≤ 56)) = false → Ze ((c, d, (), (0 : Int), ()), (m, ())) = some (.inl ((), ())) := by
  intro h
  unfold Ze
  rw [Ju]
  simp only [Tg, Qk m hz, Nd, jb]
  by_cases h0 : 0 < m.1
  ·rw [Sa h0]
   cases hv : Kd m with
   | false => rfl
   | true => rw [hv, jk] at h; rw [h]; rfl
  ·rw [Xa h0]; rfl
 cases hc : (Kd m && decide (0 ≤ c ∧ c ≤ 56)) with
 | false => rw [stop hc]; rfl
 | true =>
  simp only [jd] at hc
  obtain ⟨hv, hcc⟩ := hc
  have hm := Qv hv
  have h1 := hm.l1
  have hk2 := hm.k2
  have hrow := hm.row 0 (by omega)
  have hget : m.2.1.getD 0 [] = m.2.1[0] := by simp [qf, show 0 < m.2.1.length by omega]
  have hlen : (m.2.1.getD 0 []).length < 9223372036854775807 := by rw [hget]; omega
  have h0 : Pd m.2.1 (0 : Int) = some (m.2.1.getD 0 []) := GI (by omega) []
  have hcp : (decide (c > 0)) = (c != 0) := by
   have : 0 ≤ c ∧ c ≤ 56 := by simpa using hcc
   rw [ql]; simp; omega
  have hl := Am (step := fun x : ((Int × (Int × (Unit × (Int × Unit)))) × (Qa × Unit)) => Tg x.1.1 x.1.2.1 x.1.2.2.1 x.1.2.2.2.1 x.2.1)
   (m.2.1.getD 0 []) (fun k (_ : Unit) x => cond (Yq c d x) (.inr (k : Int)) (.inl ())) (fun _ k => ((c, d, (), k, ()), (m, ()))) (fun _ => .inl ((), ())) (fun r => .inr ((r, ()), ())) (fun _ _ => True) (by
    intro k hk s _
    refine ⟨?_, fun _ _ => trivial⟩
    have hk' : (k : Int) < m.1 := by rw [hget] at hk; omega
    simp only [Tg]
    rw [Sa hk', Qk m hz, hv, h0]
    simp only [cond_true, jb, Nd, hcc, hcp]
    rw [Pf hk]
    simp only [jb, Lw, Yq]
    generalize (m.2.1.getD 0 [])[k] = a
    cases (c != 0) with
    | true =>
     simp only [cond_true]
     cases ((Nh a).1 == 2) <;> cases ((Nh a).2.1 == c) <;> cases ((Nh a).2.2.1 == d) <;> rfl
    | false =>
     simp only [cond_false]
     cases (a.1 == 2) <;> cases (a.2.1 == c) <;> cases (a.2.2.1 == d) <;> rfl) (by
    intro s _
    simp only [Tg]
    rw [Xa (by rw [hget]; omega)]; rfl) hlen () trivial
  unfold Ze
  erw [hl]
  simp only [cond_true, Uc]
  rw [← Po]
  cases Dj (fun k (_ : Unit) x => cond (Yq c d x) (.inr (k : Int)) (.inl ())) 0 () (m.2.1.getD 0 []) <;> rfl

def AB {X R : Type} (step : X → Option (X ⊕ R)) : Nat → X → Option R
 | 0, _ => none
 | n + 1, x => match step x with
  | some (.inl y) => AB step n y
  | some (.inr r) => some r
  | none => none
theorem Pz {X R : Type} {step : X → Option (X ⊕ R)} : ∀ (n : Nat) {x : X} {r : R}, AB step n x = some r → Cb step x = some r
 | 0, _, _, h => by simp [AB] at h
 | n + 1, x, r, h => by
  unfold AB at h
  cases hs : step x with
  | none => rw [hs] at h; simp at h
  | some z =>
   rw [hs] at h
   rw [Wb hs]
   cases z with
   | inl y => exact Pz n h
   | inr r' => exact h
def Ao : List (List UInt8) := [[97], [98], [99], [100], [101], [102], [103], [104], [105], [106], [107], [108], [109], [110], [111], [112], [113], [114], [115], [116], [117], [118], [119], [120], [121], [122], [49], [50], [51], [52], [53], [54], [55], [56], [57], [48], [101, 110, 116, 101, 114], [101, 115, 99], [98, 97, 99, 107], [116, 97, 98], [115, 112, 97, 99, 101], [109, 105, 110, 117, 115], [101, 113, 117, 97, 108], [108, 101, 102, 116], [114, 105, 103, 104, 116], [117, 112], [100, 111, 119, 110], [102, 49], [102, 50], [102, 51], [102, 52], [102, 53], [102, 54], [102, 55], [102, 56], [102, 57]]
def HF : List (List UInt8) := [[], [97], [98], [99], [100], [101], [102], [103], [104], [105], [106], [107], [108], [109], [110], [111], [112], [113], [114], [115], [116], [117], [118], [119], [120], [121], [122], [49], [50], [51], [52], [53], [54], [55], [56], [57], [48], [10], [], [], [9], [32], [45], [61], [], [], [], [], [], [], [], [], [], [], [], [], []]
def IF : List (List UInt8) := [[], [65], [66], [67], [68], [69], [70], [71], [72], [73], [74], [75], [76], [77], [78], [79], [80], [81], [82], [83], [84], [85], [86], [87], [88], [89], [90], [33], [64], [35], [36], [37], [94], [38], [42], [40], [41], [10], [], [], [9], [32], [95], [43], [], [], [], [], [], [], [], [], [], [], [], [], []]
theorem GB : Nl = some (Ao, ()) := by
 unfold Nl Tl Mh
 erw [Pz 400 (r := .inl ((Ao, ()), ())) (by kernel_rfl)]
 rfl
theorem RA : strings_Split Rm [32] = some (Ao, ()) := by kernel_rfl
def Tp (c : Int) : List UInt8 := cond (decide (1 ≤ c ∧ c ≤ 56)) (Ao.getD (c - 1).toNat []) []
theorem RB : Ao.length = 56 := by decide +kernel
theorem Lz {c : Int} (h : 1 ≤ c ∧ c ≤ 56) : Ao[(c - 1).toNat]? = some (Tp c) ∧ Th Ao.length (c - 1) = true := by
 have hl : (c - 1).toNat < Ao.length := by rw [RB]; omega
 constructor
 ·unfold Tp
  rw [Sa h, cond_true, qf, je hl]; rfl
 ·have : c - 1 = (((c - 1).toNat : Nat) : Int) := by omega
  rw [this, Ap]; exact Sa hl
theorem Nn (c : Int) : Bb c = some (Tp c, ()) := by
 unfold Bb
 by_cases h1 : c < 1
 ·rw [Sa h1]; unfold Tp; rw [Xa (show ¬ (1 ≤ c ∧ c ≤ 56) by omega)]; rfl
 rw [Xa h1]
 by_cases h2 : c > 56
 ·rw [Sa h2]; unfold Tp; rw [Xa (show ¬ (1 ≤ c ∧ c ≤ 56) by omega)]; rfl
 rw [Xa h2, RA]
 obtain ⟨e1, e2⟩ := Lz (c := c) (by omega)
 simp only [cond_false, jb]
 rw [Pr (by omega) (by omega), e1, e2]
 rfl
theorem Vn (c : Int) : Mf c = some (Tp c, ()) := by
 unfold Mf
 rw [Nd]
 by_cases h : 1 ≤ c ∧ c ≤ 56
 ·rw [Sa h, GB]
  obtain ⟨e1, e2⟩ := Lz h
  simp only [jg, cond_false, jb]
  rw [Pr (by omega) (by omega), e1, e2]
  rfl
 ·rw [Xa h]; unfold Tp; rw [Xa h]; rfl
def Ch (c m : Int) : List UInt8 := cond (m == 0) (HF.getD c.toNat []) (cond (m == 2) (IF.getD c.toNat []) [])
theorem Jx {c : Int} (h : ¬ (1 ≤ c ∧ c ≤ 56)) (m : Int) : Ch c m = [] := by
 have h0 : HF.getD c.toNat [] = [] ∧ IF.getD c.toNat [] = [] := by
  by_cases hc : c < 1
  ·rw [show c.toNat = 0 by omega]; exact ⟨rfl, rfl⟩
  ·have l0 : HF.length = 57 := by decide +kernel
   have l2 : IF.length = 57 := by decide +kernel
   rw [qf, qf, List.getElem?_eq_none (by omega), List.getElem?_eq_none (by omega)]
   exact ⟨rfl, rfl⟩
 unfold Ch
 rw [h0.1, h0.2]
 cases m == 0 <;> cases m == 2 <;> rfl
theorem PA : ∀ c : Fin 57, We (c.val : Int) 0 = some (Ch c.val 0, ()) := by
 intro c
 simp only [We, Bg, Nn, jb]
 revert c
 decide +kernel
theorem QA : ∀ c : Fin 57, We (c.val : Int) 2 = some (Ch c.val 2, ()) := by
 intro c
 simp only [We, Bg, Nn, jb]
 revert c
 decide +kernel
theorem EB : ∀ c : Fin 57, Ye (c.val : Int) 0 = some (Ch c.val 0, ()) := by
 intro c
 simp only [Ye, Nd, Vn, jb]
 revert c
 decide +kernel
theorem FB : ∀ c : Fin 57, Ye (c.val : Int) 2 = some (Ch c.val 2, ()) := by
 intro c
 simp only [Ye, Nd, Vn, jb]
 revert c
 decide +kernel
theorem Yo (c m : Int) : We c m = some (Ch c m, ()) := by
 by_cases hc : 1 ≤ c ∧ c ≤ 56
 ·by_cases h0 : m = 0
  ·subst h0
   have := PA ⟨c.toNat, by omega⟩
   rwa [show ((⟨c.toNat, by omega⟩ : Fin 57).val : Int) = c by show ((c.toNat : Nat) : Int) = c; omega] at this
  ·by_cases h2 : m = 2
   ·subst h2
    have := QA ⟨c.toNat, by omega⟩
    rwa [show ((⟨c.toNat, by omega⟩ : Fin 57).val : Int) = c by show ((c.toNat : Nat) : Int) = c; omega] at this
   ·have e : Ch c m = [] := by
     unfold Ch
     rw [show (m == 0) = false by simpa using h0, show (m == 2) = false by simpa using h2]; rfl
    rw [e]
    unfold We
    rw [Bg, Sa hc, show (m != 0) = true by simpa using h0, show (m != 2) = true by simpa using h2]
    rfl
 ·rw [Jx hc]
  unfold We
  rw [Bg, Xa hc]
  rfl
theorem ME : ∀ m : Fin 16, m.val ≠ 0 → m.val ≠ 2 → (Ww .i64 (m.val : Int) 2 != 0) = true := by decide +kernel
theorem Gp (c m : Int) : Ye c m = some (Ch c m, ()) := by
 by_cases hc : 1 ≤ c ∧ c ≤ 56
 ·by_cases h0 : m = 0
  ·subst h0
   have := EB ⟨c.toNat, by omega⟩
   rwa [show ((⟨c.toNat, by omega⟩ : Fin 57).val : Int) = c by show ((c.toNat : Nat) : Int) = c; omega] at this
  ·by_cases h2 : m = 2
   ·subst h2
    have := FB ⟨c.toNat, by omega⟩
    rwa [show ((⟨c.toNat, by omega⟩ : Fin 57).val : Int) = c by show ((c.toNat : Nat) : Int) = c; omega] at this
   ·have e : Ch c m = [] := by
     unfold Ch
     rw [show (m == 0) = false by simpa using h0, show (m == 2) = false by simpa using h2]; rfl
    rw [e]
    unfold Ye
    rw [Nd, Sa hc, Nd]
    by_cases hm : 0 ≤ m ∧ m ≤ 15
    ·have := ME ⟨m.toNat, by omega⟩ (by show m.toNat ≠ 0; omega) (by show m.toNat ≠ 2; omega)
     rw [show ((⟨m.toNat, by omega⟩ : Fin 16).val : Int) = m by show ((m.toNat : Nat) : Int) = m; omega] at this
     rw [Sa hm, this]
     rfl
    ·rw [Xa hm]; rfl
 ·rw [Jx hc]
  unfold Ye
  rw [Nd, Xa hc]
  rfl
def Hg (s : List UInt8) (m : Int) : Nat → Nat → Option Nat
 | 0, _ => none
 | n + 1, c => cond (Ch (c : Int) m == s) (some c) (Hg s m n (c + 1))
def Lb (ch : Int) : Pe :=
 match Hg (Be [ch]) 0 56 1 with
 | some k => ((k : Int), 0, ())
 | none => match Hg (Be [ch]) 2 56 1 with
  | some k => ((k : Int), 2, ())
  | none => (0, 0, ())
theorem Qm (ch m : Int) : ∀ (n c : Nat), c + n = 57 → Qc ((ch, m, (c : Int), ()), ()) = some (match Hg (Be [ch]) m n c with | some k => .inr (((k : Int), m, ()), ()) | none => .inl ((ch, m, ()), ()))
 | 0, c, h => by
  have hs : Ue ch m (c : Int) = some (.inr (.inl ((ch, m, ()), ()))) := by
   unfold Ue
   rw [Xa (by omega)]; rfl
  unfold Qc
  rw [Wb hs]
  rfl
 | n + 1, c, h => by
  cases hb : (Ch (c : Int) m == Be [ch]) with
  | true =>
   have hs : Ue ch m (c : Int) = some (.inr (.inr (((c : Int), m, ()), ()))) := by
    unfold Ue
    rw [Sa (by omega), Gp]
    simp only [cond_true, jb, hb]
   unfold Qc
   rw [Wb hs]
   simp only [Hg, hb, cond_true]
   rfl
  | false =>
   have hs : Ue ch m (c : Int) = some (.inl ((ch, m, ((c + 1 : Nat) : Int), ()), ())) := by
    unfold Ue
    rw [Sa (by omega), Gp, Ed (by omega)]
    simp only [cond_true, jb, hb]
    rfl
   have ih := Qm ch m n (c + 1) (by omega)
   unfold Qc at ih ⊢
   rw [Wb hs]
   simp only [Hg, hb, cond_false]
   exact ih
theorem Pm (ch m : Int) (l : List Int) (u v : Int) : ∀ (n c : Nat), c + n = 57 → Pc ((ch, m, (c : Int), l, u, v, ()), ()) = some (match Hg (Be [ch]) m n c with | some k => .inr (((k : Int), m, ()), ()) | none => .inl ((ch, l, u, v, ()), ()))
 | 0, c, h => by
  have hs : Re ch m (c : Int) l u v = some (.inr (.inl ((ch, l, u, v, ()), ()))) := by
   unfold Re
   rw [Xa (by omega)]; rfl
  unfold Pc
  rw [Wb hs]
  rfl
 | n + 1, c, h => by
  cases hb : (Ch (c : Int) m == Be [ch]) with
  | true =>
   have hs : Re ch m (c : Int) l u v = some (.inr (.inr (((c : Int), m, ()), ()))) := by
    unfold Re
    rw [Sa (by omega), Yo]
    simp only [cond_true, jb, hb]
   unfold Pc
   rw [Wb hs]
   simp only [Hg, hb, cond_true]
   rfl
  | false =>
   have hs : Re ch m (c : Int) l u v = some (.inl ((ch, m, ((c + 1 : Nat) : Int), l, u, v, ()), ())) := by
    unfold Re
    rw [Sa (by omega), Yo, Ed (by omega)]
    simp only [cond_true, jb, hb]
    rfl
   have ih := Pm ch m l u v n (c + 1) (by omega)
   unfold Pc at ih ⊢
   rw [Wb hs]
   simp only [Hg, hb, cond_false]
   exact ih
theorem Kw (ch : Int) : Cn ch = some (Lb ch) := by
 have i0 := Qm ch 0 56 1 rfl
 have i2 := Qm ch 2 56 1 rfl
 unfold Cn Lb
 unfold Sj
 cases h0 : Hg (Be [ch]) 0 56 1 with
 | some k =>
  rw [h0] at i0
  have hs : Zc ch 0 = some (.inr (.inr (((k : Int), 0, ()), ()))) := by
   unfold Zc
   rw [Sa (by omega), show Qc ((ch, 0, (1 : Int), ()), ()) = _ from i0]; rfl
  rw [Wb hs]; rfl
 | none =>
  rw [h0] at i0
  have hs : Zc ch 0 = some (.inl ((ch, 2, ()), ())) := by
   unfold Zc
   rw [Sa (by omega), show Qc ((ch, 0, (1 : Int), ()), ()) = _ from i0]; rfl
  rw [Wb hs]
  cases h2 : Hg (Be [ch]) 2 56 1 with
  | some k =>
   rw [h2] at i2
   have hs2 : Zc ch 2 = some (.inr (.inr (((k : Int), 2, ()), ()))) := by
    unfold Zc
    rw [Sa (by omega), show Qc ((ch, 2, (1 : Int), ()), ()) = _ from i2]; rfl
   show jy (Cb _ ((ch, 2, ()), ())) _ = _
   rw [Wb hs2]; rfl
  | none =>
   rw [h2] at i2
   have hs2 : Zc ch 2 = some (.inl ((ch, 4, ()), ())) := by
    unfold Zc
    rw [Sa (by omega), show Qc ((ch, 2, (1 : Int), ()), ()) = _ from i2]; rfl
   have hs4 : Zc ch 4 = some (.inr (.inl ((), ()))) := by
    unfold Zc
    rw [Xa (by omega)]; rfl
   show jy (Cb _ ((ch, 2, ()), ())) _ = _
   rw [Wb hs2]
   show jy (Cb _ ((ch, 4, ()), ())) _ = _
   rw [Wb hs4]; rfl
theorem Cw (ch : Int) : Xm ch = some (Lb ch) := by
 have i0 := Pm ch 0 [0, 2] 2 0 56 1 rfl
 have i2 := Pm ch 2 [0, 2] 2 1 56 1 rfl
 unfold Xm Lb
 unfold Oj
 cases h0 : Hg (Be [ch]) 0 56 1 with
 | some k =>
  rw [h0] at i0
  have hs : Yc ch [0, 2] 2 0 = some (.inr (.inr (((k : Int), 0, ()), ()))) := by
   unfold Yc
   show jy (Pc ((ch, 0, ((1 : Nat) : Int), [0, 2], 2, 0, ()), ())) _ = _
   rw [i0]; rfl
  show jy (Cb _ ((ch, [0, 2], 2, 0, ()), ())) _ = _
  rw [Wb hs]; rfl
 | none =>
  rw [h0] at i0
  have hs : Yc ch [0, 2] 2 0 = some (.inl ((ch, [0, 2], 2, 1, ()), ())) := by
   unfold Yc
   show jy (Pc ((ch, 0, ((1 : Nat) : Int), [0, 2], 2, 0, ()), ())) _ = _
   rw [i0]; rfl
  show jy (Cb _ ((ch, [0, 2], 2, 0, ()), ())) _ = _
  rw [Wb hs]
  cases h2 : Hg (Be [ch]) 2 56 1 with
  | some k =>
   rw [h2] at i2
   have hs2 : Yc ch [0, 2] 2 1 = some (.inr (.inr (((k : Int), 2, ()), ()))) := by
    unfold Yc
    show jy (Pc ((ch, 2, ((1 : Nat) : Int), [0, 2], 2, 1, ()), ())) _ = _
    rw [i2]; rfl
   show jy (Cb _ ((ch, [0, 2], 2, 1, ()), ())) _ = _
   rw [Wb hs2]; rfl
  | none =>
   rw [h2] at i2
   have hs2 : Yc ch [0, 2] 2 1 = some (.inl ((ch, [0, 2], 2, 2, ()), ())) := by
    unfold Yc
    show jy (Pc ((ch, 2, ((1 : Nat) : Int), [0, 2], 2, 1, ()), ())) _ = _
    rw [i2]; rfl
   have hs4 : Yc ch [0, 2] 2 2 = some (.inr (.inl ((), ()))) := by
    unfold Yc
    rfl
   show jy (Cb _ ((ch, [0, 2], 2, 1, ()), ())) _ = _
   rw [Wb hs2]
   show jy (Cb _ ((ch, [0, 2], 2, 2, ()), ())) _ = _
   rw [Wb hs4]; rfl
theorem Et {s : List UInt8} {m : Int} : ∀ {n c k : Nat}, Hg s m n c = some k → c ≤ k ∧ k < c + n
 | 0, _, _, h => by simp [Hg] at h
 | n + 1, c, k, h => by
  simp only [Hg] at h
  cases hb : (Ch (c : Int) m == s) with
  | true => rw [hb] at h; simp at h; omega
  | false =>
   rw [hb] at h
   have := Et (n := n) (c := c + 1) h
   omega
theorem KE (ch : Int) : 0 ≤ (Lb ch).1 ∧ (Lb ch).1 ≤ 56 := by
 unfold Lb
 cases h0 : Hg (Be [ch]) 0 56 1 with
 | some k => have := Et h0; exact ⟨by show (0 : Int) ≤ (k : Int); omega, by show (k : Int) ≤ 56; omega⟩
 | none =>
  cases h2 : Hg (Be [ch]) 2 56 1 with
  | some k => have := Et h2; exact ⟨by show (0 : Int) ≤ (k : Int); omega, by show (k : Int) ≤ 56; omega⟩
  | none => exact ⟨by decide, by decide⟩
noncomputable def Ci (m : Qa) (ch t : Int) : List Qe :=
 cond ((Lb ch).1 == 0) []
  (cond (decide (Uc m (Lb ch).1 (Lb ch).2.1 ≥ 0)) [(t, Uc m (Lb ch).1 (Lb ch).2.1, true, ()), (t, Uc m (Lb ch).1 (Lb ch).2.1, false, ())]
   (cond ((Lb ch).2.1 == 0 || decide (Uc m (Lb ch).1 0 < 0) || decide (Uc m 0 (Lb ch).2.1 < 0)) []
    [(t, Uc m 0 (Lb ch).2.1, true, ()), (t, Uc m (Lb ch).1 0, true, ()), (t, Uc m (Lb ch).1 0, false, ()), (t, Uc m 0 (Lb ch).2.1, false, ())]))
noncomputable def Em (m : Qa) (ch : Int) : Bool :=
 cond ((Lb ch).1 == 0) false
  (cond (decide (Uc m (Lb ch).1 (Lb ch).2.1 ≥ 0)) true
   (cond ((Lb ch).2.1 == 0 || decide (Uc m (Lb ch).1 0 < 0) || decide (Uc m 0 (Lb ch).2.1 < 0)) false true))
theorem Wm (m : Qa) (ch t : Int) : (Ci m ch t).length ≤ 4 ∧ (((ja (Ci m ch t) : Nat) : Int) == 0) = !Em m ch := by
 unfold Ci Em
 cases (Lb ch).1 == 0 with
 | true => exact ⟨by simp, by simp⟩
 | false =>
  cases decide (Uc m (Lb ch).1 (Lb ch).2.1 ≥ 0) with
  | true => exact ⟨by simp, by simp⟩
  | false =>
   cases ((Lb ch).2.1 == 0 || decide (Uc m (Lb ch).1 0 < 0) || decide (Uc m 0 (Lb ch).2.1 < 0)) with
   | true => exact ⟨by simp, by simp⟩
   | false => exact ⟨by simp, by simp⟩
theorem Ds {m : Qa} (hm : Xs m) (ch t : Int) : Fj m ch t = some (Ci m ch t, Em m ch, ()) := by
 unfold Fj Ci Em
 rw [Cw]
 simp only [jb, Bv hm]
 cases (Lb ch).1 == 0 with
 | true => rfl
 | false =>
  cases decide (Uc m (Lb ch).1 (Lb ch).2.1 ≥ 0) with
  | true => rfl
  | false => cases (Lb ch).2.1 == 0 <;> cases decide (Uc m (Lb ch).1 0 < 0) <;> cases decide (Uc m 0 (Lb ch).2.1 < 0) <;> rfl
theorem Qu {m : Qa} (hz : Ab Ra m ≤ Dc) (hv : Kd m = true) (ch t : Int) : Ml m ch t = some (Ci m ch t, ()) := by
 have hb := KE ch
 unfold Ml Ci
 rw [Kw]
 simp only [jb, Jv _ _ _ hz, hv, Sa hb, Sa (show (0 : Int) ≤ 0 ∧ (0 : Int) ≤ 56 by omega), Bool.and_self, cond_true]
 cases (Lb ch).1 == 0 with
 | true => rfl
 | false =>
  cases decide (Uc m (Lb ch).1 (Lb ch).2.1 ≥ 0) with
  | true => rfl
  | false => cases (Lb ch).2.1 == 0 <;> cases decide (Uc m (Lb ch).1 0 < 0) <;> cases decide (Uc m 0 (Lb ch).2.1 < 0) <;> rfl
noncomputable def Ms (m : Qa) (k : Nat) (l : List Qe) (c : UInt8) : List Qe ⊕ Unit :=
 cond (Em m ((c.toNat : Nat) : Int)) (.inl (jf l (Ci m ((c.toNat : Nat) : Int) (k : Int)))) (.inr ())
noncomputable def Bu (m : Qa) (s : List UInt8) : List Qe × (Bool × Unit) :=
 cond (!Kd m || decide (((ja s : Nat) : Int) > 60)) ([], false, ())
  (match Dj (Ms m) 0 [] s with
   | .inl l => cond (decide (((ja l : Nat) : Int) > 64)) ([], false, ()) (l, true, ())
   | .inr _ => ([], false, ()))
theorem Gz {m : Qa} {k : Nat} {l l' : List Qe} {c : UInt8} (h : Ms m k l c = .inl l') (hl : l.length ≤ 4 * k) : l'.length ≤ 4 * (k + 1) := by
 unfold Ms at h
 cases hc : Em m ((c.toNat : Nat) : Int) with
 | false => rw [hc] at h; simp at h
 | true =>
  rw [hc] at h
  simp only [cond_true, Sum.inl.injEq] at h
  subst h
  have := (Wm m ((c.toNat : Nat) : Int) (k : Int)).1
  have e : (jf l (Ci m ((c.toNat : Nat) : Int) (k : Int))).length = l.length + (Ci m ((c.toNat : Nat) : Int) (k : Int)).length := by simp
  omega
theorem Bs (m : Qa) (s : List UInt8) (hz : Ab Ra m ≤ Dc) : Ag m s = some (Bu m s) := by
 unfold Ag Bu
 rw [Gt m hz]
 cases hv : Kd m with
 | false => rfl
 | true =>
  have hm := Qv hv
  by_cases h60 : ((ja s : Nat) : Int) > 60
  ·rw [Sa h60]; rfl
  have hl := Am (step := fun x : (((List UInt8) × (Unit × ((List Qe) × (Int × Unit)))) × (Qa × Unit)) => Pg x.1.1 x.1.2.1 x.1.2.2.1 x.1.2.2.2.1 x.2.1)
   s (Ms m) (fun l k => ((s, (), l, k, ()), (m, ()))) (fun l => .inl ((l, ()), ())) (fun _ => .inr (([], false, ()), ())) (fun k l => l.length ≤ 4 * k) (by
    intro k hk l hi
    refine ⟨?_, fun l' h => Gz h hi⟩
    simp only [Pg]
    rw [Sa (show (k : Int) < ((ja s : Nat) : Int) by omega), Pf hk]
    simp only [cond_true, jb, Ds hm, Ms]
    cases Em m ((s[k].toNat : Nat) : Int) with
    | false => rfl
    | true =>
     have := (Wm m ((s[k].toNat : Nat) : Int) (k : Int)).1
     simp only [jg, cond_false, cond_true]
     rw [show jw (ja l + ja (Ci m ((s[k].toNat : Nat) : Int) (k : Int))) Zi = true from ji (by rw [Vx]; omega)]
     rfl) (by
    intro l _
    simp only [Pg]
    rw [Xa (by omega)]; rfl) (by omega) [] (by simp)
  rw [Xa h60]
  unfold Eh
  simp only [jb, jg, cond_false]
  erw [hl]
  cases Dj (Ms m) 0 [] s with
  | inr _ => rfl
  | inl l =>
   simp only [jb, qg]
   show (cond (decide (((ja l : Nat) : Int) > 64)) _ _) = some (cond (decide (((ja l : Nat) : Int) > 64)) _ _)
   cases decide (((ja l : Nat) : Int) > 64) <;> rfl
theorem Hs (m : Qa) (s : List UInt8) (hz : Ab Ra m ≤ Dc) : Kh m s = some (Bu m s) := by
 unfold Kh Bu
 rw [Qk m hz]
 cases hv : Kd m with
 | false => rfl
 | true =>
  by_cases h60 : ((ja s : Nat) : Int) > 60
  ·rw [Sa h60]; rfl
  have hl := Am (step := fun x : (((List UInt8) × (Unit × ((List Qe) × (Int × Unit)))) × (Qa × Unit)) => Sg x.1.1 x.1.2.1 x.1.2.2.1 x.1.2.2.2.1 x.2.1)
   s (Ms m) (fun l k => ((s, (), l, k, ()), (m, ()))) (fun l => .inl ((l, ()), ())) (fun _ => .inr (([], false, ()), ())) (fun k l => l.length ≤ 4 * k) (by
    intro k hk l hi
    refine ⟨?_, fun l' h => Gz h hi⟩
    simp only [Sg]
    rw [Sa (show (k : Int) < ((ja s : Nat) : Int) by omega), Pf hk]
    simp only [cond_true, jb, Qu hz hv, Ms, (Wm m _ _).2]
    cases Em m ((s[k].toNat : Nat) : Int) with
    | false => rfl
    | true =>
     have := (Wm m ((s[k].toNat : Nat) : Int) (k : Int)).1
     simp only [jg, cond_false, cond_true]
     rw [show jw (ja l + ja (Ci m ((s[k].toNat : Nat) : Int) (k : Int))) Zi = true from ji (by rw [Vx]; omega)]
     rfl) (by
    intro l _
    simp only [Sg]
    rw [Xa (by omega)]; rfl) (by omega) [] (by simp)
  rw [Xa h60]
  unfold Lh
  simp only [jb, jg, cond_false]
  erw [hl]
  cases Dj (Ms m) 0 [] s with
  | inr _ => rfl
  | inl l =>
   simp only [jb, qg]
   show (cond (decide (((ja l : Nat) : Int) > 64)) _ _) = some (cond (decide (((ja l : Nat) : Int) > 64)) _ _)
   cases decide (((ja l : Nat) : Int) > 64) <;> rfl
theorem YF (m : Qa) (s : List UInt8) : (Bu m s).1.length ≤ 64 := by
 unfold Bu
 cases (!Kd m || decide (((ja s : Nat) : Int) > 60)) with
 | true => simp
 | false =>
  simp only [cond_false]
  cases Dj (Ms m) 0 [] s with
  | inr _ => simp
  | inl l =>
   by_cases h : ((ja l : Nat) : Int) > 64
   ·simp only [Sa h, cond_true]; simp
   ·simp only [Xa h, cond_false]; omega
theorem Vu (m : Qa) (s : List UInt8) (_ : Zk Ra m) (_ : Zk .s s) (hz : Ab Ra m ≤ Dc) (hs : Ab .s s ≤ Dc) :
 ∃ w0 w1, Kh m s = some (w0, w1, ()) ∧ Ag m s = some (w0, w1, ()) ∧ Ab (.sl Yd) w0 ≤ 1 * Dc := by
 have h20 : Dc = 1048576 := rfl
 refine ⟨_, _, Hs m s hz, Bs m s hz, ?_⟩
 have := YF m s
 have e : Ab (.sl Yd) (Bu m s).1 = (Bu m s).1.length := Iy (e := Yd) rfl _
 show Ab (.sl Yd) (Bu m s).1 ≤ 1 * Dc
 omega
theorem Ew (a0 : Qa) (a1 : (List UInt8)) (hr0 : Zk Ra a0) (hr1 : Zk .s a1) : Af a0 a1 = some (true, ()) := by
 have h20 : Dc = 1048576 := rfl
 have h40 : Zd = 1099511627776 := rfl
 unfold Af
 by_cases l1 : ((ja a1 : Nat) : Int) > 1048576
 ·rw [Sa l1]; rfl
 rw [Xa l1]
 simp only [cond_false]
 have s0 := Xy a0 hr0 (1048576) (by omega)
 rw [show ((1048576 : Nat) : Int) = 1048576 from rfl] at s0
 rw [s0]
 simp only [jb]
 by_cases z0 : Ab Ra a0 ≤ 1048576
 case neg => rw [Xn z0]; rfl
 rw [Hp z0, Xa (by omega)]
 simp only [cond_false]
 have hz0 : Ab Ra a0 ≤ Dc := by omega
 have hz1 : Ab .s a1 ≤ Dc := by show ja a1 ≤ Dc; omega
 obtain ⟨w0, w1, e1, e2, b0⟩ := Vu a0 a1 hr0 hr1 hz0 hz1
 obtain ⟨x0, k0, g0, i0, m0, n0, _⟩ := Hw a0 1 (by omega)
 rw [show ((1 : Nat) : Int) = 1 from rfl] at m0 n0
 have d0 : decide ((k0 : Int) < 0) = false := Xa (by omega)
 obtain ⟨x1, k1, g1, i1, m1, n1, _⟩ := Gw w0 1 (by omega)
 rw [show ((1 : Nat) : Int) = 1 from rfl] at m1 n1
 have d1 : decide ((k1 : Int) < 0) = false := Xa (by omega)
 simp only [e1, e2, Zy a0 hz0, Qy a0 (by omega), Py w0 (by omega), m0, d0, m1, d1, n1, jb, bne_self_eq_false', jg, cond_false]
end KF
