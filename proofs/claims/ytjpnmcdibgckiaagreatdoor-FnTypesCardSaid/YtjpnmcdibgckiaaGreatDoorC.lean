/- An evaluator of Go functions on plain data, its soundness, and plain laws on what the functions compute, part 3 (conditions: as each lemma tells). -/
import Derived.Test.YtjpnmcdibgckiaaGreatDoorB
import Derived.LoopN
import Derived.ChangeArms
import Derived.ChangeStays
import Derived.ChangeSame
import Derived.WideShapes
import Derived.RowKit
import Derived.Handed
import Derived.JoinedOf
import Derived.Lib.Split
import Derived.Lib.Join
import Derived.Lib.ItoaNum
import Derived.Lib.IndexMore
import Derived.Lib.Bytealg
import Derived.Lib.Atoi
import Derived.Shelf.Sort.Plain
import Derived.Shelf.Slices.In.SortNone2
import Derived.Shelf.LaysM
import Derived.Shelf.Strings.Split
import Derived.Shelf.Strings.OnBuilder
import Derived.Shelf.Strconv.Itoa3
import Derived.LaidLaws
import Derived.LaidHandle
import Derived.Lib.LaidTab
import Derived.IntWalk
set_option linter.unusedSimpArgs false
set_option linter.unusedVariables false
namespace KF
open Go
open List renaming length → ja, getElem?_eq_getElem → je, append → jf, mem_append → jl, mem_cons → jp, mem_cons_of_mem → jr, length_cons → jw, set → j5, length_nil → j6, mem_singleton → qb, length_append → qc, getElem?_append_left → qe, getElem?_append_right → qf, getD_eq_getElem?_getD → qg, getElem_mem → qn, mem_of_mem_drop → qo, getElem_of_mem → qp, mem_map → qq, length_drop → qr, length_take → qs, mem_cons_self → qu
open Option renaming bind_some → jb, bind → jz, map_some → qa, bind_eq_some_iff → qd
open Option.some renaming injEq → jc
open Bool renaming and_eq_true → jd, not_true → jg, true_and → jk, false_eq_true → jq, not_false → j7, not_eq_true → j8, false_and → qk, and_self → ql, eq_iff_iff → qt
open Prod.mk renaming injEq → jh
open Nat renaming ble_eq_true_of_le → ji, mul_le_mul_right → jm, le_refl → jo, zero_add → js, add_assoc → jt, eq_of_beq_eq_true → ju, ble → jx, le_trans → j9, lt_of_lt_of_le → qi, testBit_two_pow → qj, xor_lt_two_pow → qm
open Int renaming toNat_natCast → jn, eq_ofNat_of_zero_le → jv, toNat → jy
open Go.IntKind renaming wrap → j4
open Sum renaming elim_inl → qh
open Result renaming andThen_ok → qv
open Sem renaming run_bind → qw
theorem U0 {s : AS} : ∀ {td : TD} {d : D} {x : T td.ty} {m : Ii}, Zd s td d = some (x, m) → (Wo td x).isAgg = d.isAgg := by
 intro td
 cases td with
 | data τ =>
  intro d x m h
  simp only [Zd] at h
  split at h
  ·rename_i y hy
   simp only [jc, jh] at h
   obtain ⟨rfl, _⟩ := h
   have hs := (Kg (w := default) (σ := fun _ => undef) (O := fun _ => False) (hp := fun _ => none) hy).1
   rw [hs.isAgg]
   cases τ <;> rfl
  ·simp at h
 | own id e dp =>
  intro d x m h
  cases d <;> simp [Zd] at h <;> rfl
 | ptr id p =>
  intro d x m h
  cases d <;> simp [Zd] at h <;> rfl
 | hol id e p τ td =>
  intro d x m h
  cases d <;> simp [Zd] at h <;> rfl
 | arr id e =>
  intro d x m h
  cases d <;> first | rfl | (simp [Zd] at h; done)
 | mov id e =>
  intro d x m h
  cases d <;> simp [Zd] at h <;> rfl
 | pr a b =>
  intro d x m h
  simp only [Zd] at h
  cases d with
  | t τ v => cases τ <;> simp [D.fst] at h <;> rfl
  | pr u v => rfl
  | _ => simp [D.fst] at h
 | un =>
  intro d x m h
  simp only [Zd] at h
  split at h
  ·rename_i y hy
   have hs := (Kg (w := default) (σ := fun _ => undef) (O := fun _ => False) (hp := fun _ => none) hy).1
   rw [hs.isAgg]
   rfl
  ·simp at h
def CE (m m' : Ii) : Prop := ∀ p, p ∈ m → p ∈ m'
section
variable {w : World} {s : AS} {σ σ' : Nat → Value} {O O' : Nat → Prop} {hp' : Nat → Option Ia} {m : Ii}
structure TOk (s : AS) (σ σ' : Nat → Value) (hp' : Nat → Option Ia) (m : Ii) : Prop where
 isS : ∀ j i, (j, some i) ∈ m → σ' j = σ i
 isN : ∀ j, (j, none) ∈ m → σ' j = .slice none 0 0
 isB : ∀ j i ρ d, (j, some i) ∈ m → hp' j = some (.box ρ d) → ∃ d', s.heap i = some (.box ρ d')
 isR : ∀ j i Ga r, (j, some i) ∈ m → hp' j = some Ga → Ga.rowN = some r → ∃ blk', s.heap i = some blk' ∧ blk'.rowN = some r
theorem IH (hT : TOk s σ σ' hp' m) (hO : ∀ b, b < w.heap.size → ¬ O b → ¬ O' b) : ∀ {td : TD} {d : D} {x : T td.ty} {m0 : Ii} {cs : List Value}, Zd s td d = some (x, m0) → CE m0 m → Ua w O s.heap σ d cs →
 Ua w O' hp' σ' (Wo td x) cs := by
 intro td
 induction td with
 | data τ =>
  intro d x m0 cs h hm hr
  simp only [Zd] at h
  split at h
  ·rename_i y hy
   simp only [jc, jh] at h
   obtain ⟨rfl, _⟩ := h
   exact Oa.stable (fun _ _ _ => rfl) hO ((Kg hy).2 _ hr)
  ·simp at h
 | own id' e dp =>
  intro d x m0 cs h hm hr
  cases d with
  | own id =>
   simp only [Zd] at h
   split at h
   ·rename_i e' dp' xs hb
    split at h
    ·rename_i q hq
     subst q
     simp only [Ea] at h
     obtain ⟨_, h⟩ := h
     simp only [jc, jh] at h
     obtain ⟨rfl, rfl⟩ := h
     obtain ⟨v, hcs, h1, hv⟩ := hr
     refine ⟨v, hcs, h1, fun _ _ _ _ => ?_⟩
     rw [hT.isS id' id (hm _ (by simp))]
     exact hv _ _ hb rfl
    ·simp at h
   ·simp at h
  | nil =>
   simp only [Zd, jc, jh] at h
   obtain ⟨rfl, rfl⟩ := h
   simp only [Ua] at hr
   exact ⟨_, hr, rfl, fun _ _ _ _ => (hT.isN id' (hm _ (by simp))).symm⟩
  | _ => simp [Zd] at h
 | hol id' e p τ td _ =>
  intro d x m0 cs h hm hr
  cases d with
  | own id =>
   simp only [Zd] at h
   split at h
   ·rename_i e' xs i x1 p' τ' d' hb
    split at h
    ·simp only [Ea] at h
     obtain ⟨_, h⟩ := h
     split at h
     ·rename_i y m1 h1
      simp only [Ea] at h
      obtain ⟨_, h⟩ := h
      simp only [jc, jh] at h
      obtain ⟨rfl, rfl⟩ := h
      obtain ⟨v, hcs, h1, hv⟩ := hr
      refine ⟨v, hcs, h1, fun _ _ _ _ => ?_⟩
      rw [hT.isS id' id (hm _ (by simp))]
      exact hv _ _ hb rfl
     ·simp at h
    ·simp at h
   ·simp at h
  | _ => simp [Zd] at h
 | arr id' e =>
  intro d x m0 cs h hm hr
  cases d with
  | eptr id i q =>
   cases i with
   | succ i => simp [Zd] at h
   | zero =>
    cases q with
    | cons _ _ => simp [Zd] at h
    | nil =>
     simp only [Zd] at h
     split at h
     ·rename_i e' xs hb
      split at h
      ·rename_i q hq
       subst q
       simp only [jc, jh] at h
       obtain ⟨rfl, rfl⟩ := h
       obtain ⟨v, hcs, h1, hv⟩ := hr
       refine ⟨v, hcs, h1, fun blk' e2 n2 hb' hr' => ?_⟩
       obtain ⟨blk0, hb0, hr0⟩ := hT.isR id' id blk' _ (hm _ (by simp)) hb' hr'
       rw [hT.isS id' id (hm _ (by simp))]
       exact hv _ _ _ hb0 hr0
      ·simp at h
     ·simp at h
  | _ => simp [Zd] at h
 | mov id' e =>
  intro d x m0 cs h hm hr
  cases d with
  | own id =>
   simp only [Zd] at h
   split at h
   ·rename_i e' xs hb
    split at h
    ·rename_i q hq
     subst q
     simp only [jc, jh] at h
     obtain ⟨rfl, rfl⟩ := h
     obtain ⟨v, hcs, h1, hv⟩ := hr
     refine ⟨v, hcs, h1, fun _ _ _ _ => ?_⟩
     rw [hT.isS id' id (hm _ (by simp))]
     exact hv _ _ hb rfl
    ·simp at h
   ·rename_i e' xs k hb
    split at h
    ·rename_i q hq
     subst q
     simp only [jc, jh] at h
     obtain ⟨rfl, rfl⟩ := h
     obtain ⟨v, hcs, h1, hv⟩ := hr
     refine ⟨v, hcs, h1, fun _ _ _ _ => ?_⟩
     rw [hT.isS id' id (hm _ (by simp))]
     exact hv _ _ hb rfl
    ·simp at h
   ·simp at h
  | _ => simp [Zd] at h
 | ptr id' p =>
  intro d x m0 cs h hm hr
  cases d with
  | ptr id q =>
   simp only [Zd, Ea] at h
   obtain ⟨hpq, h⟩ := h
   simp only [jc, jh] at h
   obtain ⟨_, rfl⟩ := h
   have hpq' : p = q := by simpa using hpq
   subst hpq'
   obtain ⟨v, hcs, h1, hv⟩ := hr
   refine ⟨v, hcs, h1, fun ρ d hb => ?_⟩
   obtain ⟨d', hd'⟩ := hT.isB id' id ρ d (hm _ (by simp)) hb
   rw [hT.isS id' id (hm _ (by simp))]
   exact hv ρ d' hd'
  | _ => simp [Zd] at h
 | pr a b iha ihb =>
  intro d x m0 cs h hm hr
  simp only [Zd] at h
  split at h
  ·rename_i d1 d2 h1 h2
   split at h
   ·rename_i u l v l' h3 h4
    simp only [jc, jh] at h
    obtain ⟨rfl, rfl⟩ := h
    have key : ∃ c1 c2, cs = c1 ++ c2 ∧ Ua w O s.heap σ d1 c1 ∧ Ua w O s.heap σ d2 c2 := by
     cases d with
     | t τ v =>
      cases τ with
      | p t1 t2 =>
       simp only [D.fst, D.snd, jc] at h1 h2
       subst h1; subst h2
       exact hr
      | _ => simp [D.fst] at h1
     | pr d1' d2' =>
      simp only [D.fst, D.snd, jc] at h1 h2
      subst h1; subst h2
      exact hr
     | _ => simp [D.fst] at h1
    obtain ⟨c1, c2, hc, r1, r2⟩ := key
    exact ⟨c1, c2, hc, iha h3 (fun p hp => hm p (List.mem_append_left _ hp)) r1, ihb h4 (fun p hp => hm p (List.mem_append_right _ hp)) r2⟩
   ·simp at h
  ·simp at h
 | un =>
  intro d x m0 cs h hm hr
  simp only [Zd] at h
  split at h
  ·rename_i y hy
   exact (Kg hy).2 _ hr
  ·simp at h
theorem B5 (hT : TOk s σ σ' hp' m) (hO : ∀ b, b < w.heap.size → ¬ O b → ¬ O' b) {td : TD} {d : D} {x : T td.ty} {m0 : Ii} {v : Value} (h : Zd s td d = some (x, m0)) (hm : CE m0 m) (hr : Rc w O s.heap σ d v) :
 Rc w O' hp' σ' (Wo td x) v := by
 have hne : Fe w O s.heap σ d v := by
  cases d with
  | und => cases td <;> simp [Zd, Fi, D.fst] at h
  | anyv => cases td <;> simp [Zd, Fi, D.fst] at h
  | tup ds => cases td <;> simp [Zd, Fi, D.fst] at h
  | _ => exact hr
 refine Tv ?_
 unfold Fe at hne ⊢
 rw [U0 h]
 split
 ·rename_i ha
  rw [if_pos ha] at hne
  obtain ⟨cs, h1, h2⟩ := hne
  exact ⟨cs, h1, IH hT hO h hm h2⟩
 ·rename_i ha
  rw [if_neg ha] at hne
  exact IH hT hO h hm hne
def VP (s : AS) (m : Ii) (j : Nat) (Ga : Ia) : Prop :=
 ((j, none) ∈ m ∧ ∃ e dp, Ga = .row e dp ([] : List (T e))) ∨
 ∃ i, (j, some i) ∈ m ∧ ((∃ e dp dp' xs, Ga = .row e dp xs ∧ s.heap i = some (.row e dp' xs) ∧ (dp' = dp ∨ e.flat = true)) ∨
  (∃ ρ d td x m0, Ga = .box ρ (Wo td x) ∧ s.heap i = some (.box ρ d) ∧ Zd s td d = some (x, m0) ∧ CE m0 m ∧ Ya ρ (Wo td x)) ∨
  (∃ e xs k x p τ d td y m0, Ga = .hol e xs k x p τ (Wo td y) ∧ s.heap i = some (.hol e xs k x p τ d) ∧ Zd s td d = some (y, m0) ∧ CE m0 m ∧ Ya τ (Wo td y)) ∨
  ∃ e xs k, Ga = .mov e xs k ∧ (s.heap i = some (.mov e xs k) ∨ (s.heap i = some (.row e true xs) ∧ k = 0)))
theorem PI : ∀ {td : TD} {d : D} {x : T td.ty} {m0 : Ii}, Zd s td d = some (x, m0) → CE m0 m → ∀ p, p ∈ Du td x → ∃ Ga, p.2 = some Ga ∧ VP s m p.1 Ga := by
 intro td
 induction td with
 | own id' e dp =>
  intro d x m0 h hm p hp
  simp only [Du, qb] at hp
  subst hp
  cases d with
  | own id =>
   simp only [Zd] at h
   split at h
   ·rename_i e' dp' xs hb
    split at h
    ·rename_i q hq
     subst q
     simp only [Ea] at h
     obtain ⟨hc, h⟩ := h
     simp only [jc, jh] at h
     obtain ⟨rfl, rfl⟩ := h
     refine ⟨_, rfl, .inr ⟨id, hm _ (by simp), .inl ⟨_, dp, dp', _, rfl, hb, ?_⟩⟩⟩
     simpa using hc
    ·simp at h
   ·simp at h
  | nil =>
   simp only [Zd, jc, jh] at h
   obtain ⟨rfl, rfl⟩ := h
   exact ⟨_, rfl, .inl ⟨hm _ (by simp), e, dp, rfl⟩⟩
  | _ => simp [Zd] at h
 | hol id' e pth τ td ih =>
  intro d x m0 h hm p hp
  cases d with
  | own id =>
   simp only [Zd] at h
   split at h
   ·rename_i e' xs i x1 p' τ' d' hb
    split at h
    ·rename_i q1 q2 hq1 hq2
     subst q1
     obtain rfl := De hq2
     simp only [Ea] at h
     obtain ⟨hpp, h⟩ := h
     have hpp : pth = p' := by simpa using hpp
     subst hpp
     split at h
     ·rename_i y m1 h1
      simp only [Ea] at h
      obtain ⟨hsh, h⟩ := h
      simp only [jc, jh] at h
      obtain ⟨rfl, rfl⟩ := h
      simp only [Du] at hp
      rcases jp.1 hp with rfl | hp
      ·exact ⟨_, rfl, .inr ⟨id, hm _ (by simp), .inr (.inr (.inl ⟨_, _, i, _, _, _, d', td, y, m1, by simp only [jn], hb, h1, fun p hp => hm p (jr _ hp), Ik hsh⟩))⟩⟩
      ·exact ih h1 (fun p hp => hm p (jr _ hp)) p hp
     ·simp at h
    ·simp at h
   ·simp at h
  | _ => simp [Zd] at h
 | pr a b iha ihb =>
  intro d x m0 h hm p hp
  simp only [Zd] at h
  split at h
  ·split at h
   ·rename_i u l v l' h3 h4
    simp only [jc, jh] at h
    obtain ⟨rfl, rfl⟩ := h
    simp only [Du] at hp
    rcases jl.1 hp with hp | hp
    ·exact iha h3 (fun p hp => hm p (List.mem_append_left _ hp)) p hp
    ·exact ihb h4 (fun p hp => hm p (List.mem_append_right _ hp)) p hp
   ·simp at h
  ·simp at h
 | arr id' e =>
  intro d x m0 h hm p hp
  simp only [Du, qb] at hp
  subst hp
  cases d with
  | eptr id i q =>
   cases i with
   | succ i => simp [Zd] at h
   | zero =>
    cases q with
    | cons _ _ => simp [Zd] at h
    | nil =>
     simp only [Zd] at h
     split at h
     ·rename_i e' xs hb
      split at h
      ·rename_i q hq
       subst q
       simp only [jc, jh] at h
       obtain ⟨rfl, rfl⟩ := h
       exact ⟨_, rfl, .inr ⟨id, hm _ (by simp), .inl ⟨_, true, true, _, rfl, hb, .inl rfl⟩⟩⟩
      ·simp at h
     ·simp at h
  | _ => simp [Zd] at h
 | mov id' e =>
  intro d x m0 h hm p hp
  simp only [Du, qb] at hp
  subst hp
  cases d with
  | own id =>
   simp only [Zd] at h
   split at h
   ·rename_i e' xs hb
    split at h
    ·rename_i q hq
     subst q
     simp only [jc, jh] at h
     obtain ⟨rfl, rfl⟩ := h
     exact ⟨_, rfl, .inr ⟨id, hm _ (by simp), .inr (.inr (.inr ⟨_, _, 0, rfl, .inr ⟨hb, rfl⟩⟩))⟩⟩
    ·simp at h
   ·rename_i e' xs k hb
    split at h
    ·rename_i q hq
     subst q
     simp only [jc, jh] at h
     obtain ⟨rfl, rfl⟩ := h
     exact ⟨_, rfl, .inr ⟨id, hm _ (by simp), .inr (.inr (.inr ⟨_, _, k, by simp only [jn], .inl hb⟩))⟩⟩
    ·simp at h
   ·simp at h
  | _ => simp [Zd] at h
 | _ => intro d x m0 h hm p hp; simp [Du] at hp
theorem AU : ∀ {l : List (Tmp × TD)} {x : T (Ft.tyT l)} {m0 : Ii}, UX s l = some (x, m0) → CE m0 m →
 (∀ t d', Gb (TL l x) t = some d' → ∃ td d y m1, Gb s.tm t = some d ∧ Zd s td d = some (y, m1) ∧ CE m1 m ∧ d' = Wo td y) ∧ (∀ p, p ∈ HM l x → ∃ Ga, p.2 = some Ga ∧ VP s m p.1 Ga)
 | [], x, m0, h, hm => ⟨by simp [TL, Gb], by simp [HM]⟩
 | (t0, td) :: r, x, m0, h, hm => by
  simp only [UX] at h
  split at h
  ·rename_i d hd
   split at h
   ·rename_i y m1 z m2 h1 h2
    simp only [jc, jh] at h
    obtain ⟨rfl, rfl⟩ := h
    have hm1 : CE m1 m := fun p hp => hm p (List.mem_append_left _ hp)
    obtain ⟨i1, i2⟩ := AU h2 (fun p hp => hm p (List.mem_append_right _ hp))
    refine ⟨fun t d' ht => ?_, fun p hp => ?_⟩
    ·simp only [TL] at ht
     rw [Mc] at ht
     split at ht
     ·rename_i e
      subst e
      simp only [jc] at ht
      exact ⟨td, d, y, m1, hd, h1, hm1, ht.symm⟩
     ·exact i1 t d' ht
    ·simp only [HM] at hp
     rcases jl.1 hp with hp | hp
     ·exact PI h1 hm1 p hp
     ·exact i2 p hp
   ·simp at h
  ·simp at h
theorem ZT : ∀ {l : List (Nat × Ty × TD)} {x : T (Ft.tyB l)} {m0 m' : Ii}, YQ s l m0 = some (x, m') → CE m' m →
 CE m0 m ∧ ∀ p, p ∈ SL l x → ∃ Ga, p.2 = some Ga ∧ VP s m p.1 Ga
 | [], x, m0, m', h, hm => by
  simp only [YQ, jc, jh] at h
  obtain ⟨_, rfl⟩ := h
  exact ⟨hm, by simp [SL]⟩
 | (id', ρ, td) :: r, x, m0, m', h, hm => by
  simp only [YQ] at h
  split at h
  ·rename_i id hid
   split at h
   ·rename_i ρ' d hb
    split at h
    ·rename_i q hq
     obtain rfl := q.down
     split at h
     ·rename_i y m1 h1
      simp only [Ea] at h
      obtain ⟨hsh, h⟩ := h
      split at h
      ·rename_i z m2 h2
       simp only [jc, jh] at h
       obtain ⟨rfl, rfl⟩ := h
       obtain ⟨i1, i2⟩ := ZT h2 hm
       have hm0 : CE m0 m := fun p hp => i1 p (List.mem_append_left _ hp)
       have hm1 : CE m1 m := fun p hp => i1 p (List.mem_append_right _ hp)
       refine ⟨hm0, fun p hp => ?_⟩
       simp only [SL] at hp
       rcases jp.1 hp with rfl | hp
       ·exact ⟨_, rfl, .inr ⟨id, hm0 _ (Zq hid), .inr (.inl ⟨_, d, td, y, m1, rfl, hb, h1, hm1, Ik hsh⟩)⟩⟩
       ·rcases jl.1 hp with hp | hp
        ·exact PI h1 hm1 p hp
        ·exact i2 p hp
      ·simp at h
     ·simp at h
    ·simp at h
   ·simp at h
  ·simp at h
end
theorem RD : ∀ {m : Ii}, Zy m = true → ∀ j i, (j, some i) ∈ m → (j < 500000 ∧ i < 500000) ∨ j = i
 | [], _, _, _, h => by simp at h
 | (j0, some i0) :: r, hp, j, i, h => by
  simp only [Zy, jd, Bool.or_eq_true] at hp
  rcases jp.1 h with e | h
  ·simp only [jh, jc] at e
   obtain ⟨rfl, rfl⟩ := e
   rcases hp.1 with h1 | h1
   ·rw [Nat.blt_eq, Nat.blt_eq] at h1; exact .inl h1
   ·exact .inr (ju h1)
  ·exact RD hp.2 j i h
 | (j0, none) :: r, hp, j, i, h => by
  simp only [Zy, jd] at hp
  rcases jp.1 h with e | h
  ·simp at e
  ·exact RD hp.2 j i h
theorem QD : ∀ {m : Ii}, Zy m = true → ∀ j, (j, none) ∈ m → j < 500000
 | [], _, _, h => by simp at h
 | (j0, some i0) :: r, hp, j, h => by
  simp only [Zy, jd] at hp
  rcases jp.1 h with e | h
  ·simp at e
  ·exact QD hp.2 j h
 | (j0, none) :: r, hp, j, h => by
  simp only [Zy, jd] at hp
  rcases jp.1 h with e | h
  ·simp only [jh, and_true] at e
   subst e
   have := hp.1
   rwa [Nat.blt_eq] at this
  ·exact QD hp.2 j h
theorem LV {m : Ii} (h : (m.all fun x => m.all fun y => Rx x y) = true) {x y : Nat × Option Nat} (hx : x ∈ m) (hy : y ∈ m) : Rx x y = true :=
 List.all_eq_true.1 (List.all_eq_true.1 h x hx) y hy
theorem L6 {m : Ii} (h : (m.all fun x => m.all fun y => Rx x y) = true) {j : Nat} {a c : Option Nat} (hx : (j, a) ∈ m) (hy : (j, c) ∈ m) : a = c := by
 have := LV h hx hy
 unfold Rx at this
 cases a with
 | none => cases c with
  | none => rfl
  | some c => simp at this
 | some a => cases c with
  | none => simp at this
  | some c => simpa [Nat.beq_eq] using this
theorem M6 {m : Ii} (h : (m.all fun x => m.all fun y => Rx x y) = true) {j j' i : Nat} (hx : (j, some i) ∈ m) (hy : (j', some i) ∈ m) : j = j' := by
 have := LV h hx hy
 unfold Rx at this
 simpa using this
theorem UN {α : Type} {j : Nat} {a : α} : ∀ {m : List (Nat × α)}, (j, a) ∈ m → ∃ c, Gb m j = some c ∧ (j, c) ∈ m
 | [], h => by simp at h
 | (j0, a0) :: r, h => by
  rw [Mc]
  by_cases hj : j0 = j
  ·subst hj; exact ⟨a0, by simp, by simp⟩
  ·rw [if_neg hj]
   rcases jp.1 h with e | h
   ·simp only [jh] at e
    exact absurd e.1.symm hj
   ·obtain ⟨c, h1, h2⟩ := UN h
    exact ⟨c, h1, jr _ h2⟩
theorem Ar {m : Ii} (h : (m.all fun x => m.all fun y => Rx x y) = true) {j : Nat} {a : Option Nat} (hx : (j, a) ∈ m) : Gb m j = some a := by
 obtain ⟨c, h1, h2⟩ := UN hx
 rw [h1, L6 h hx h2]
section
variable {n0 : Nat} {A : Fx} {O0 : Nat → Prop} {w0 w : World} {s : AS} {σ : Nat → Value} {φ : Nat → List Nat} {a : Act}
theorem JH (h : Sa n0 A O0 w0 s σ φ a w) {p : Ft} {x : p.X} (he : ext p s = some x) : ∃ σ' φ', Sa n0 A O0 w0 (AA p x s.n) σ' φ' a w := by
 unfold ext at he
 split at he
 ·rename_i x1 m1 h1
  split at he
  ·rename_i x2 m h2
   simp only [Ea] at he
   obtain ⟨hmo, he⟩ := he
   simp only [jc] at he
   subst he
   simp only [B9, jd] at hmo
   obtain ⟨hn1, hpo⟩ := hmo
   obtain ⟨hm1, hB⟩ := ZT h2 (fun p hp => hp)
   obtain ⟨hT1, hT2⟩ := AU h1 hm1
   let σ' : Nat → Value := fun j => match Gb m j with
    | some (some i) => σ i
    | some none => .slice none 0 0
    | none => σ j
   let φ' : Nat → List Nat := fun j => match Gb m j with
    | some (some i) => φ i
    | _ => []
   have hσs : ∀ j i, (j, some i) ∈ m → σ' j = σ i ∧ φ' j = φ i := fun j i hj => by
    have := Ar hn1 hj
    simp only [σ', φ', this, and_self]
   have hσn : ∀ j, (j, none) ∈ m → σ' j = .slice none 0 0 ∧ φ' j = [] := fun j hj => by
    have := Ar hn1 hj
    simp only [σ', φ', this, and_self]
   have hent : ∀ j Ga, (AA p (x1, x2) s.n).heap j = some Ga → VP s m j Ga := by
    intro j Ga hj
    have hmem := AS.heap_mem hj
    simp only [AA] at hmem
    rcases jl.1 hmem with hmem | hmem
    ·obtain ⟨blk', e, hE⟩ := hT2 _ hmem
     simp only [jc] at e
     subst e
     exact hE
    ·obtain ⟨blk', e, hE⟩ := hB _ hmem
     simp only [jc] at e
     subst e
     exact hE
   have hlive : ∀ j Ga, (AA p (x1, x2) s.n).heap j = some Ga → φ' j = [] ∨ ∃ i blk0, (j, some i) ∈ m ∧ s.heap i = some blk0 ∧ φ' j = φ i := by
    intro j Ga hj
    rcases hent j Ga hj with ⟨hn, _⟩ | ⟨i, hi, ⟨e, dp, dp', xs, _, hb, _⟩ | ⟨ρ, d, td, y, m0, _, hb, _⟩ | ⟨e, xs, k, x, p, τ, d, td, y, m0, _, hb, _⟩ | ⟨e, xs, k, _, hb | ⟨hb, _⟩⟩⟩
    ·exact .inl (hσn j hn).2
    ·exact .inr ⟨i, _, hi, hb, (hσs j i hi).2⟩
    ·exact .inr ⟨i, _, hi, hb, (hσs j i hi).2⟩
    ·exact .inr ⟨i, _, hi, hb, (hσs j i hi).2⟩
    ·exact .inr ⟨i, _, hi, hb, (hσs j i hi).2⟩
    ·exact .inr ⟨i, _, hi, hb, (hσs j i hi).2⟩
   have hOO : ∀ b, b < w.heap.size → ¬ OO O0 s φ b → ¬ OO O0 (AA p (x1, x2) s.n) φ' b := by
    rintro b _ hno (ho | ⟨j, Ga, hj, hm⟩)
    ·exact hno (.inl ho)
    ·rcases hlive j Ga hj with hφ | ⟨i, blk0, _, hb, hφ⟩
     ·rw [hφ] at hm; simp at hm
     ·rw [hφ] at hm; exact hno (.inr ⟨i, blk0, hb, hm⟩)
   have hTOk : TOk s σ σ' (AA p (x1, x2) s.n).heap m := by
    refine ⟨fun j i hj => (hσs j i hj).1, fun j hj => (hσn j hj).1, fun j i ρ d hj hb => ?_, fun j i Ga r hj hb hr => ?_⟩
    rcases hent j _ hb with ⟨hn, e, dp, hh⟩ | ⟨i', hi', ⟨e, dp, dp', xs, hh, _⟩ | ⟨ρ', d', td, y, m0, hh, hb', _⟩ | ⟨e, xs, k, x, p, τ, d', td, y, m0, hh, _⟩ | ⟨e, xs, k, hh, _⟩⟩
    ·simp at hh
    ·simp at hh
    ·simp only [Ia.box.injEq] at hh
     have e1 := Ar hn1 hj
     have e2 := Ar hn1 hi'
     rw [e1] at e2
     simp only [jc] at e2
     subst e2
     exact ⟨d', by rw [hb', hh.1]⟩
    ·simp at hh
    ·simp at hh
    ·have e1 := Ar hn1 hj
     rcases hent j _ hb with ⟨hn, _⟩ | ⟨i', hi', hx⟩
     ·have e2 := Ar hn1 hn
      rw [e1] at e2
      simp at e2
     ·have e2 := Ar hn1 hi'
      rw [e1] at e2
      simp only [jc] at e2
      subst e2
      rcases hx with ⟨e, dp, dp', xs, rfl, hb', _⟩ | ⟨ρ', d', td, y, m0, rfl, _⟩ | ⟨e, xs, k, x, p, τ, d', td, y, m0, rfl, hb', _⟩ | ⟨e, xs, k, rfl, hb' | ⟨hb', _⟩⟩
      ·exact ⟨_, hb', hr⟩
      ·simp [Ia.rowN] at hr
      ·exact ⟨_, hb', hr⟩
      ·exact ⟨_, hb', hr⟩
      ·exact ⟨_, hb', hr⟩
   refine ⟨σ', φ', h.sz, h.df, ?_, ?_, ?_, ?_, ?_, h.o0, h.fr, ?_, h.iv0, h.ivw⟩
   ·intro t d' hd
    obtain ⟨td, d, y, m0, g1, g2, g3, g4⟩ := hT1 t d' hd
    obtain ⟨v, hv, hr⟩ := h.tm t d g1
    rw [g4]
    exact ⟨v, hv, B5 hTOk hOO g2 g3 hr⟩
   ·intro j Ga hj
    rcases hent j Ga hj with ⟨hn, e, dp, rfl⟩ | ⟨i, hi, ⟨e, dp, dp', xs, rfl, hb, hd⟩ | ⟨ρ, d, td, y, m0, rfl, hb, hex, hsub, hsh⟩ | ⟨e, xs, k, x, p, τ, d, td, y, m0, rfl, hb, hex, hsub, hsh⟩ | ⟨e, xs, k, rfl, hb⟩⟩
    ·rw [Pj, (hσn j hn).1, (hσn j hn).2]
     exact ⟨by simp, .inl ⟨rfl, rfl, rfl⟩⟩
    ·rw [Pj, (hσs j i hi).1, (hσs j i hi).2]
     have hrow := Pj.1 (h.hp i _ hb)
     have hst : ∀ dq, Nh w (OO O0 s φ) dq e xs (σ i) (φ i) → Nh w (OO O0 (AA p (x1, x2) s.n) φ') dq e xs (σ i) (φ i) := by
      rintro dq ⟨hm, g | ⟨bl, off, cap, cur, et, Fs, g1, hh, g2, g3, g4, hF, hel⟩⟩
      ·exact ⟨hm, .inl g⟩
      ·exact ⟨hm, .inr ⟨bl, off, cap, cur, et, Fs, g1, hh, g2, g3, g4, hF, hel.stable (fun _ _ _ => rfl) hOO (fun _ _ => rfl)⟩⟩
     rcases hd with rfl | hf
     ·exact hst _ hrow
     ·have hup := hrow.up
      rw [hf, Bool.or_true] at hup
      cases dp with
      | true => exact hst _ hup
      | false =>
       cases dp' with
       | false => exact hst _ hrow
       | true =>
        have hown := UH (h.hp i _ hb) (.inl rfl)
        exact hst _ (Pj.1 (JN (O := OO O0 s φ) (hp := s.heap) hown hf))
    ·rw [(hσs j i hi).2]
     obtain ⟨_, b, cur, et, g1, hh, hF, hr, hsz⟩ := h.hp i _ hb
     exact ⟨hsh, b, cur, et, by rw [(hσs j i hi).1]; exact g1, hh, hF, IH hTOk hOO hex hsub hr, hsz⟩
    ·rw [(hσs j i hi).2]
     obtain ⟨_, g1, g2, g3, bl, off, cap, cur, et, g4, g5, g6, g7, hr, hw⟩ := h.hp i _ hb
     refine ⟨hsh, g1, g2, g3, bl, off, cap, cur, et, by rw [(hσs j i hi).1]; exact g4, g5, g6, g7, IH hTOk hOO hex hsub hr, fun w' c' h1 h2 h3 y Fy x' h4 h5 => ?_⟩
     rw [(hσs j i hi).1]
     exact hw w' c' h1 h2 h3 y Fy x' h4 h5
    ·rw [(hσs j i hi).2]
     have hm0 : Kc w (OO O0 s φ) s.heap σ i (.mov e xs k) (φ i) := by
      rcases hb with hb | ⟨hb, rfl⟩
      ·exact h.hp i _ hb
      ·exact KS (h.hp i _ hb)
     obtain ⟨hlen, ⟨g1, g2, g3⟩ | ⟨bl, off, cap, cur, et, Fs, g1, g⟩⟩ := hm0
     ·exact ⟨hlen, .inl ⟨by rw [(hσs j i hi).1]; exact g1, g2, g3⟩⟩
     ·exact ⟨hlen, .inr ⟨bl, off, cap, cur, et, Fs, by rw [(hσs j i hi).1]; exact g1, g⟩⟩
   ·intro j Ga hj
    rcases hlive j Ga hj with hφ | ⟨i, blk0, _, hb, hφ⟩
    ·rw [hφ]; exact List.nodup_nil
    ·rw [hφ]; exact h.nodup i blk0 hb
   ·intro j j' Ga blk' hne hj hj' b hb hb'
    rcases hlive j Ga hj with hφ | ⟨i, blk0, hi, hbi, hφ⟩
    ·rw [hφ] at hb; simp at hb
    ·rcases hlive j' blk' hj' with hφ' | ⟨i', blk0', hi', hbi', hφ'⟩
     ·rw [hφ'] at hb'; simp at hb'
     ·rw [hφ] at hb
      rw [hφ'] at hb'
      by_cases hii : i = i'
      ·subst hii
       exact hne (M6 hn1 hi hi')
      ·exact h.disj i i' blk0 blk0' hii hbi hbi' b hb hb'
   ·intro j Ga hj b hb
    rcases hlive j Ga hj with hφ | ⟨i, blk0, _, hbi, hφ⟩
    ·rw [hφ] at hb; simp at hb
    ·rw [hφ] at hb; exact h.fresh i blk0 hbi b hb
   ·intro j v hv
    have hlow := A.low j v hv
    show σ' j = v
    simp only [σ']
    split
    ·rename_i i hg
     rcases RD hpo j i (Zq hg) with ⟨hj, _⟩ | rfl
     ·omega
     ·exact h.pin _ v hv
    ·rename_i hg
     have := QD hpo j (Zq hg)
     omega
    ·exact h.pin j v hv
  ·simp at he
 ·simp at he
end
def Zad : Ex → Exit
 | .normal => .normal
 | .exit id => .exit id
 | .ret => .ret
def Vx {X R : Type} (step : X → Option (X ⊕ R)) : Nat → X → R → Prop
 | 0, _, _ => False
 | n + 1, x, r => step x = some (.inr r) ∨ ∃ x', step x = some (.inl x') ∧ Vx step n x' r
def Kd : Code → List Code
 | .seq a b => Kd a ++ Kd b
 | .cond _ a b => Kd a ++ Kd b
 | .block _ c => Kd c
 | .loop c => c :: Kd c
 | _ => []
def Mb (G : Ie) (L : List (Nat × Wa)) (b : Code) : Prop :=
 ∀ r ls, Si b = some r → Gb L r = some ls → ∀ x y, ls.F x = some y → ∃ m, Vx (EB G L ls b) m x y
section
variable {P : Program} {n0 : Nat} {A : Fx} {O0 : Nat → Prop} {w0 : World} {G : Ie} {L : List (Nat × Wa)}
theorem HL (hG : Hi P A.I G) (hfz : G.fz = true → ∀ b, ¬ A.A b) (hm : P.follows .mixedOrders = true) : ∀ (c : Code), (∀ b, b ∈ Kd c → Mb G L b) → ∀ {Out : Type} {k : Ex → AS → Option Out} {out : Out} {s : AS} {σ : Nat → Value} {φ : Nat → List Nat} {a : Act} {w : World} {Q : Exit → Act → World → Prop},
 Gp G L c s k = some out → Sa n0 A O0 w0 s σ φ a w → (∀ e s σ φ a w, k e s = some out → Sa n0 A O0 w0 s σ φ a w → Q (Zad e) a w) → c.wp P Q a w := by
 intro c
 induction c with
 | skip =>
  intro _ Out k out s σ φ a w Q he h hQ
  simp only [Gp] at he
  exact wp_skip (hQ .normal s σ φ a w he h)
 | region id ops draw =>
  intro _ Out k out s σ φ a w Q he h hQ
  simp only [Gp] at he
  split at he
  ·rename_i s1 h1
   obtain ⟨φ1, hc⟩ := Gz hfz h h1
   refine X2 (k := fun s' => match JB G.fz G.att (1000 * id + 999) s' with
    | some s' => k .normal s'
    | none => none) hG hfz hm hc he fun a w ⟨s', σ', φ', h2, h3⟩ => ?_
   simp only at h2
   split at h2
   ·rename_i s2 h4
    obtain ⟨φ2, hc2⟩ := Gz hfz h3 h4
    exact hQ .normal _ σ' φ2 a w h2 hc2
   ·simp at h2
  ·simp at he
 | seq x y ihx ihy =>
  intro hL Out k out s σ φ a w Q he h hQ
  simp only [Gp] at he
  refine wp_seq (ihx (fun b hb => hL b (by simp [Kd, hb])) he h fun e s' σ' φ' a' w' hk h' => ?_)
  cases e with
  | normal => exact ihy (fun b hb => hL b (by simp [Kd, hb])) hk h' hQ
  | exit j => exact hQ (.exit j) s' σ' φ' a' w' hk h'
  | ret => exact hQ .ret s' σ' φ' a' w' hk h'
 | cond x y z ihy ihz =>
  intro hL Out k out s σ φ a w Q he h hQ
  cases x with
  | tmp t =>
   simp only [Gp] at he
   split at he
   ·rename_i β hd
    have hs := h.same hd
    obtain ⟨v, hv, hr⟩ := h.tm t _ hd
    rw [Ih] at hr
    subst hr
    have hev : a.eval (.tmp t) = .bool β := by
     simp only [Act.eval]
     rw [Array.getD_eq_getD_getElem?, hv]
     rfl
    refine wp_cond_split hev (fun hb => ?_) (fun hb => ?_)
    ·subst hb
     simp only [cond_true] at he
     exact ihy (fun b hb => hL b (by simp [Kd, hb])) he hs hQ
    ·subst hb
     simp only [cond_false] at he
     exact ihz (fun b hb => hL b (by simp [Kd, hb])) he hs hQ
   ·simp at he
  | const cv =>
   cases cv with
   | bool β =>
    simp only [Gp] at he
    refine wp_cond_split (show a.eval (.const (.bool β)) = .bool β from rfl) (fun hb => ?_) (fun hb => ?_)
    ·subst hb
     simp only [cond_true] at he
     exact ihy (fun b hb => hL b (by simp [Kd, hb])) he h hQ
    ·subst hb
     simp only [cond_false] at he
     exact ihz (fun b hb => hL b (by simp [Kd, hb])) he h hQ
   | _ => simp [Gp] at he
  | _ => simp [Gp] at he
 | block id c ih =>
  intro hL Out k out s σ φ a w Q he h hQ
  simp only [Gp] at he
  refine wp_block (ih (fun b hb => hL b (by simpa [Kd] using hb)) he h fun e s' σ' φ' a' w' hk h' => ?_)
  cases e with
  | normal => exact hQ .normal s' σ' φ' a' w' hk h'
  | exit j =>
   simp only [Zad, Exit.inBlock]
   cases hb : Nat.beq j id with
   | true =>
    rw [if_pos (ju hb)]
    simp only [hb, cond_true] at hk
    exact hQ .normal s' σ' φ' a' w' hk h'
   | false =>
    rw [if_neg (fun e => by rw [e, Nat.beq_refl] at hb; simp at hb)]
    simp only [hb, cond_false] at hk
    exact hQ (.exit j) s' σ' φ' a' w' hk h'
  | ret => exact hQ .ret s' σ' φ' a' w' hk h'
 | exit id =>
  intro _ Out k out s σ φ a w Q he h hQ
  simp only [Gp] at he
  exact wp_exit (hQ (.exit id) s σ φ a w he h)
 | ret =>
  intro _ Out k out s σ φ a w Q he h hQ
  simp only [Gp] at he
  exact wp_ret (hQ .ret s σ φ a w he h)
 | loop c ih =>
  intro hL Out k out s σ φ a w Q he h hQ
  simp only [Gp] at he
  split at he
  ·rename_i r hr
   split at he
   ·rename_i ls hls
    split at he
    ·rename_i x hx
     simp only [Ea] at he
     obtain ⟨hn, he⟩ := he
     have hn := ju hn
     rw [qd] at he
     obtain ⟨y, hy, he⟩ := he
     obtain ⟨m, hit⟩ := hL c (by simp [Kd]) r ls hr hls x y hy
     obtain ⟨σ1, φ1, h1⟩ := JH h hx
     rw [hn] at h1 he
     refine wp_loop_rounds m ?_
     have key : ∀ (m : Nat) (x : ls.inT.X) (σ : Nat → Value) (φ : Nat → List Nat) (a : Act) (w : World), Vx (EB G L ls c) m x y → Sa n0 A O0 w0 (AA ls.inT x ls.n) σ φ a w → Code.rounds P c Q m a w := by
      intro m
      induction m with
      | zero => intro x σ φ a w hit _; exact hit.elim
      | succ m ihm =>
       intro x σ φ a w hit h
       rw [rounds_succ]
       have body : ∀ z, EB G L ls c x = some z → (z = .inr y ∨ ∃ x', z = .inl x' ∧ Vx (EB G L ls c) m x' y) → c.wp P (Exit.then (Code.rounds P c Q m) Q) a w := by
        intro z hz hzy
        unfold EB at hz
        refine ih (fun b hb => hL b (by simp [Kd, hb])) hz h fun e s' σ' φ' a' w' hk h' => ?_
        simp only [Ea] at hk
        obtain ⟨hn', hk⟩ := hk
        have hn' := ju hn'
        cases e with
        | normal =>
         simp only at hk
         split at hk
         ·rename_i x' hx'
          simp only [jc] at hk
          obtain ⟨σ2, φ2, h2⟩ := JH h' hx'
          rw [hn'] at h2
          rcases hzy with hzy | ⟨x'', hzy, hit'⟩
          ·rw [hzy] at hk; simp at hk
          ·rw [hzy] at hk
           simp only [Sum.inl.injEq] at hk
           subst hk
           exact ihm x' σ2 φ2 a' w' hit' h2
         ·simp at hk
        | exit j =>
         simp only [Ea] at hk
         obtain ⟨hj, hk⟩ := hk
         have hj := ju hj
         split at hk
         ·rename_i y' hy'
          simp only [jc] at hk
          obtain ⟨σ2, φ2, h2⟩ := JH h' hy'
          rw [hn'] at h2
          rcases hzy with hzy | ⟨x'', hzy, _⟩
          ·rw [hzy] at hk
           simp only [Sum.inr.injEq] at hk
           subst hk
           simp only [qh] at he
           show Q (.exit j) a' w'
           rw [hj]
           exact hQ (.exit ls.exitId) _ σ2 φ2 a' w' he h2
          ·rw [hzy] at hk; simp at hk
         ·simp at hk
        | ret =>
         simp only at hk
         split at hk
         ·rename_i y' hy'
          simp only [jc] at hk
          obtain ⟨σ2, φ2, h2⟩ := JH h' hy'
          rw [hn'] at h2
          rcases hzy with hzy | ⟨x'', hzy, _⟩
          ·rw [hzy] at hk
           simp only [Sum.inr.injEq] at hk
           subst hk
           simp only [Sum.elim_inr] at he
           exact hQ .ret _ σ2 φ2 a' w' he h2
          ·rw [hzy] at hk; simp at hk
         ·simp at hk
       rcases hit with hit | ⟨x', hit, hit'⟩
       ·exact body _ hit (.inl rfl)
       ·exact body _ hit (.inr ⟨x', rfl, hit'⟩)
     exact key m x σ1 φ1 a w hit h1
    ·simp at he
   ·simp at he
  ·simp at he
 | _ => intros; rename_i he _ _; simp [Gp] at he
end
theorem Oc.mono {w : World} {O O' : Nat → Prop} (hO : ∀ b, O' b → O b) : ∀ {rt : Ty} {r : T rt} {fr : List Bool} {vs : List Value} {F : List Nat}, Oc w O rt r fr vs F → Oc w O' rt r fr vs F
 | .u, _, [], [], _, h => h
 | .p x y, r, f :: fr, v :: vs, F, h => by
  obtain ⟨cs, F1, F2, hv, hF, h1, h2⟩ := h
  refine ⟨cs, F1, F2, hv, hF, ?_, Oc.mono hO h2⟩
  cases f with
  | true => exact h1
  | false =>
   simp only [jq, if_false] at h1 ⊢
   exact ⟨h1.1.weaken hO, h1.2⟩
 | .u, _, _ :: _, _, _, h => by simp [Oc] at h
 | .u, _, [], _ :: _, _, h => by simp [Oc] at h
 | .p _ _, _, [], _, _, h => by simp [Oc] at h
 | .p _ _, _, _ :: _, [], _, h => by simp [Oc] at h
 | .i _, _, fr, vs, _, h => by simp [Oc] at h
 | .b, _, fr, vs, _, h => by simp [Oc] at h
 | .o, _, fr, vs, _, h => by simp [Oc] at h
 | .s, _, fr, vs, _, h => by simp [Oc] at h
 | .sl _, _, fr, vs, _, h => by simp [Oc] at h
section
variable {P : Program} {n0 : Nat} {A : Fx} {O0 : Nat → Prop} {w0 w : World} {s : AS} {σ : Nat → Value} {φ : Nat → List Nat} {a : Act} {G : Ie} {L : List (Nat × Wa)}
def RU (w : World) (O : Nat → Prop) (hp : Nat → Option Ia) (σ : Nat → Value) : D → List Value → Prop
 | .pr a b, v :: vs => Rc w O hp σ a v ∧ RU w O hp σ b vs
 | .un, [] => True
 | _, _ => False
def CG (tmps : Array Value) : ResultVar → Sem Value
 | .tmp t => pure (tmps.getD t undef)
 | .cell a t => do loadVar t (← asAddr (tmps.getD a undef))
theorem Lw (hG : EnvTy P G) (h : Sa n0 A O0 w0 s σ φ a w) : ∀ {rs : List ResultVar} {d : D}, Sq G s rs = some d → ∃ vs, (rs.mapM (CG a.tmps)).run P w = .ok vs w ∧ RU w (OO O0 s φ) s.heap σ d vs
 | [], d, he => by
  simp only [Sq, jc] at he
  subst he
  exact ⟨[], by simp, trivial⟩
 | .tmp t :: r, d, he => by
  simp only [Sq] at he
  split at he
  ·rename_i d1 d2 h1 h2
   simp only [jc] at he
   subst he
   obtain ⟨vs, hvs, hr⟩ := Lw hG h h2
   obtain ⟨v, hv, hru⟩ := h.tm t d1 h1
   have hg : a.tmps.getD t undef = v := by rw [Array.getD_eq_getD_getElem?, hv]; rfl
   refine ⟨v :: vs, ?_, hru, hr⟩
   rw [List.mapM_cons]
   simp only [CG, qw, Sem.run_pure, qv, hvs, hg]
  ·simp at he
 | .cell t ty :: r, d, he => by
  simp only [Sq] at he
  split at he
  ·rename_i id d2 h1 h2
   split at he
   ·rename_i ρ d1 τ hb hty
    split at he
    ·rename_i q hq
     obtain rfl := q.down
     simp only [jc] at he
     subst he
     obtain ⟨vs, hvs, hr⟩ := Lw hG h h2
     obtain ⟨v, hv, hru⟩ := h.tm t _ h1
     have hg : a.tmps.getD t undef = v := by rw [Array.getD_eq_getD_getElem?, hv]; rfl
     rw [Vm] at hru
     obtain ⟨b, hσ, hv'⟩ := hru.2 _ _ hb
     obtain ⟨hs, b', cur, et, hσ', hh, hF, hrep, hsz⟩ := h.hp id _ hb
     rw [hσ] at hσ'
     simp at hσ'
     subst hσ'
     have hl := Ao (P := P) (hG.ty _ _ hty) (off := 0) hh (by omega)
     have hseg : Vc cur 0 ρ.size = cur.toList := by rw [← hsz]; exact Qab cur
     rw [hseg] at hl
     refine ⟨Cd ρ cur.toList :: vs, ?_, Wm hs hrep, hr⟩
     rw [List.mapM_cons]
     have hoff : Za ρ [] = 0 := rfl
     rw [hoff] at hv'
     subst hv'
     simp only [CG, qw, Sem.run_pure, qv, hvs, hg, asAddr, hl]
    ·simp at he
   ·simp at he
  ·simp at he
theorem TH (h : Sa n0 A O0 w0 s σ φ a w) : ∀ {rt : Ty} {fr : List Bool} {d : D} {r : T rt} {l : List Nat} {vs : List Value}, Zf s rt fr d = some (r, l) → RU w (OO O0 s φ) s.heap σ d vs →
 Oc w (OO O0 s φ) rt r fr vs (Da φ l) ∧ ∀ j, j ∈ l → ∃ b, s.heap j = some b
 | .u, [], .un, r, l, vs, he, hr => by
  simp only [Zf, jc, jh] at he
  obtain ⟨_, rfl⟩ := he
  cases vs with
  | nil => exact ⟨by simp [Oc, Da], by simp⟩
  | cons v vs => simp [RU] at hr
 | .p x y, f :: fr, .pr d1 d2, r, l, vs, he, hr => by
  cases vs with
  | nil => simp [RU] at hr
  | cons v vs =>
   simp only [Zf] at he
   split at he
   ·rename_i u l1 z l2 h1 h2
    simp only [jc, jh] at he
    obtain ⟨rfl, rfl⟩ := he
    obtain ⟨g1, g2⟩ := TH h h2 hr.2
    cases f with
    | true =>
     simp only [cond_true] at h1
     obtain ⟨hrep, hv⟩ := Ee (Xi h1) hr.1
     obtain ⟨ho, hl⟩ := Ql h h1 hrep
     refine ⟨⟨_, Da φ l1, Da φ l2, hv, Id, ?_, g1⟩, ?_⟩
     ·simpa using ho
     ·intro j hj
      rcases jl.1 hj with hj | hj
      ·exact hl j hj
      ·exact g2 j hj
    | false =>
     simp only [cond_false] at h1
     split at h1
     ·rename_i u' hu
      simp only [jc, jh] at h1
      obtain ⟨rfl, rfl⟩ := h1
      obtain ⟨hs, hvw⟩ := Kg (w := w) (O := OO O0 s φ) (hp := s.heap) (σ := σ) hu
      obtain ⟨hrep, hv⟩ := Ee hs hr.1
      refine ⟨⟨_, [], Da φ l2, hv, by simp [Da], ?_, g1⟩, by simpa using g2⟩
      simpa using hvw _ hrep
     ·simp at h1
   ·simp at he
 | .u, _ :: _, d, _, _, _, he, _ => by cases d <;> simp [Zf] at he
 | .u, [], .und, _, _, _, he, _ => by simp [Zf] at he
 | .u, [], .anyv, _, _, _, he, _ => by simp [Zf] at he
 | .u, [], .t _ _, _, _, _, he, _ => by simp [Zf] at he
 | .u, [], .nil, _, _, _, he, _ => by simp [Zf] at he
 | .u, [], .own _, _, _, _, he, _ => by simp [Zf] at he
 | .u, [], .ptr _ _, _, _, _, he, _ => by simp [Zf] at he
 | .u, [], .eptr _ _ _, _, _, _, he, _ => by simp [Zf] at he
 | .u, [], .rp _ _, _, _, _, he, _ => by simp [Zf] at he
 | .u, [], .pr _ _, _, _, _, he, _ => by simp [Zf] at he
 | .u, [], .tup _, _, _, _, he, _ => by simp [Zf] at he
 | .p _ _, [], d, _, _, _, he, _ => by cases d <;> simp [Zf] at he
 | .p _ _, _ :: _, .und, _, _, _, he, _ => by simp [Zf] at he
 | .p _ _, _ :: _, .anyv, _, _, _, he, _ => by simp [Zf] at he
 | .p _ _, _ :: _, .t _ _, _, _, _, he, _ => by simp [Zf] at he
 | .p _ _, _ :: _, .nil, _, _, _, he, _ => by simp [Zf] at he
 | .p _ _, _ :: _, .own _, _, _, _, he, _ => by simp [Zf] at he
 | .p _ _, _ :: _, .ptr _ _, _, _, _, he, _ => by simp [Zf] at he
 | .p _ _, _ :: _, .eptr _ _ _, _, _, _, he, _ => by simp [Zf] at he
 | .p _ _, _ :: _, .rp _ _, _, _, _, he, _ => by simp [Zf] at he
 | .p _ _, _ :: _, .un, _, _, _, he, _ => by simp [Zf] at he
 | .p _ _, _ :: _, .tup _, _, _, _, he, _ => by simp [Zf] at he
 | .i _, fr, d, _, _, _, he, _ => by cases fr <;> cases d <;> simp [Zf] at he
 | .b, fr, d, _, _, _, he, _ => by cases fr <;> cases d <;> simp [Zf] at he
 | .o, fr, d, _, _, _, he, _ => by cases fr <;> cases d <;> simp [Zf] at he
 | .s, fr, d, _, _, _, he, _ => by cases fr <;> cases d <;> simp [Zf] at he
 | .sl _, fr, d, _, _, _, he, _ => by cases fr <;> cases d <;> simp [Zf] at he
theorem Cx {fn : Func} {vs : List Value} (h : (fn.results.toList.mapM (CG a.tmps)).run P w = .ok vs w) : (results fn a.tmps).run P w = .ok (Cy vs) w := by
 unfold results
 rw [Array.mapM_eq_mapM_toList]
 simp only [map_eq_pure_bind, bind_assoc, pure_bind, qw, Sem.run_pure]
 show (Sem.run P (List.mapM (CG a.tmps) fn.results.toList) w).andThen (fun vs w' => Result.ok (if h : vs.toArray.size = 1 then vs.toArray[0] else Value.tuple vs.toArray) w') = _
 rw [h]
 simp only [qv]
 congr 1
 cases vs with
 | nil => rfl
 | cons v vs => cases vs <;> rfl
end
def Ty.npar : Ty → Nat
 | .p _ y => y.npar + 1
 | _ => 0
theorem GB {w : World} {O : Nat → Prop} : ∀ {pt : Ty} {x : T pt} {args : List Value}, Fg w O pt x args → args.length = pt.npar
 | .u, _, [], _ => rfl
 | .p x y, v, a :: r, h => by simp [Ty.npar, GB h.2]
 | .u, _, _ :: _, h => by simp [Fg] at h
 | .p _ _, _, [], h => by simp [Fg] at h
 | .i _, _, l, h => by simp [Fg] at h
 | .b, _, l, h => by simp [Fg] at h
 | .o, _, l, h => by simp [Fg] at h
 | .s, _, l, h => by simp [Fg] at h
 | .sl _, _, l, h => by simp [Fg] at h
theorem PD {w : World} {O : Nat → Prop} {hp : Nat → Option Ia} {σ : Nat → Value} : ∀ {pt : Ty} {x : T pt} {args : List Value} {n t : Nat} {d : D}, Fg w O pt x args → Gb (Rq pt x n) t = some d →
 ∃ j v, t = n + j ∧ args[j]? = some v ∧ Rc w O hp σ d v
 | .p x y, v, a :: r, n, t, d, h, hd => by
  simp only [Rq] at hd
  rw [Mc] at hd
  split at hd
  ·rename_i e
   simp only [jc] at hd
   subst hd
   obtain ⟨⟨cs, ha, hv⟩, _⟩ := h
   refine ⟨0, a, by omega, rfl, ?_⟩
   rw [ha]
   exact Wm (τ := x) (by simp [Ya]) hv
  ·obtain ⟨j, v', h1, h2, h3⟩ := PD (hp := hp) (σ := σ) h.2 hd
   exact ⟨j + 1, v', by omega, by simpa using h2, h3⟩
 | .p _ _, _, [], _, _, _, h, _ => by simp [Fg] at h
 | .u, _, _, _, _, _, _, hd => by simp [Rq, Gb] at hd
 | .i _, _, _, _, _, _, h, _ => by simp [Fg] at h
 | .b, _, _, _, _, _, h, _ => by simp [Fg] at h
 | .o, _, _, _, _, _, h, _ => by simp [Fg] at h
 | .s, _, _, _, _, _, h, _ => by simp [Fg] at h
 | .sl _, _, _, _, _, _, h, _ => by simp [Fg] at h
section
variable {P : Program} {G : Ie} {L : List (Nat × Wa)}
variable {I : Cg}
def HN (I : Cg) : Fx := ⟨fun _ => False, fun _ => none, fun _ _ h => by simp at h, I, fun _ h => h.elim⟩
theorem F7 (hG : Hi P I G) (hm : P.follows .mixedOrders = true) {f : FuncId} {fn : Func} {c : Code} (hf : P.funcs[f]? = some fn) (hb : fn.body = some c) (hname : (fn.name == "runtime.NumGoroutine") = false)
 (hL : ∀ b, b ∈ Kd c → Mb G L b) {pt rt : Ty} {fr : List Bool} {F : T pt → Option (T rt)} (hn : pt.npar ≤ fn.ntmps) (hF : ∀ x r, F x = some r → L0 G L fn pt rt fr x = some r) : Ah P I f (.pu pt rt fr F) := by
 refine ⟨⟨fn, hf, hname, by rw [hb]; rfl⟩, ?_⟩
 intro O w x r args hx hargs hO hI hB
 have he := hF x r hx
 unfold L0 at he
 rw [hb] at he
 simp only at he
 refine calls_of_wp hf hb ?_
 have hlen := GB hargs
 have hc : Sa w.heap.size (HN I) O w ⟨fn.ntmps, Rq pt x 0, []⟩ (fun _ => undef) (fun _ => []) { tmps := args.toArray ++ Array.replicate (fn.ntmps - args.toArray.size) undef, defers := [] } w := by
  have hh : ∀ id, AS.heap ⟨fn.ntmps, Rq pt x 0, []⟩ id = none := fun id => rfl
  refine ⟨?_, rfl, ?_, ?_, ?_, ?_, ?_, hO, ⟨rfl, rfl, rfl, jo _, fun _ _ _ => rfl⟩, ?_, hB, hI⟩
  ·simp; omega
  ·intro t d hd
   have hOO : OO O ⟨fn.ntmps, Rq pt x 0, []⟩ (fun _ => []) = O := by
    funext b
    simp [OO, hh]
   rw [hOO]
   obtain ⟨j, v, h1, h2, h3⟩ := PD hargs hd
   refine ⟨v, ?_, h3⟩
   have hj : j < args.length := (List.getElem?_eq_some_iff.1 h2).1
   have : t = j := by omega
   subst this
   rw [Array.getElem?_append_left (by simpa using hj)]
   simpa using h2
  ·intro id Ga hb; rw [hh] at hb; simp at hb
  ·intro id Ga hb; rw [hh] at hb; simp at hb
  ·intro id id' Ga blk' _ hb; rw [hh] at hb; simp at hb
  ·intro id Ga hb; rw [hh] at hb; simp at hb
  ·intro id v hv; simp [HN] at hv
 refine HL (A := HN I) hG (fun _ _ h => h) hm c hL he hc ?_
 intro e s σ φ a w' hk h
 have Qh : (match Sq G s fn.results.toList with
  | some d => match Zf s rt fr d with
   | some (r, l) => bif Qf l then some r else none
   | none => none
  | none => none) = some r → a.defers = [] ∧ ∃ v, (results fn a.tmps).run P w' = .ok v w' ∧ Sp (fun v w' => ∃ vs Fr, v = Cy vs ∧ Bv w w' (fun _ => False) ∧ Oc w' (fun b => O b ∨ b ∈ Fr) rt r fr vs Fr ∧ Fr.Nodup ∧ ∀ b ∈ Fr, w.heap.size ≤ b) (.returned v) w' := by
  intro hk
  split at hk
  ·rename_i d hd
   split at hk
   ·rename_i r' l hr
    simp only [Ea] at hk
    obtain ⟨hnd, hk⟩ := hk
    simp only [jc] at hk
    subst hk
    have hnd := Hh hnd
    obtain ⟨vs, hvs, hru⟩ := Lw hG.toEnvTy h hd
    obtain ⟨hR, hlive⟩ := TH h hr hru
    refine ⟨h.df, _, Cx hvs, vs, Da φ l, rfl, ⟨h.fr.size, fun b hb _ => h.fr.block b hb (fun h => h), h.fr.os, h.fr.tape, h.fr.output⟩, hR.mono ?_, Tf h hnd hlive, ?_⟩
    ·rintro b (hb | hb)
     ·exact .inl hb
     ·obtain ⟨j, hj, hm'⟩ := Bb.1 hb
      obtain ⟨Ga, hbj⟩ := hlive j hj
      exact .inr ⟨j, Ga, hbj, hm'⟩
    ·intro b hb
     obtain ⟨j, hj, hm'⟩ := Bb.1 hb
     obtain ⟨Ga, hbj⟩ := hlive j hj
     exact (h.fresh j Ga hbj b hm').resolve_right (fun h => h)
   ·simp at hk
  ·simp at hk
 cases e with
 | normal => exact Qh hk
 | ret => exact Qh hk
 | exit j => simp at hk
end
theorem Nz {φ : Nat → List Nat} : ∀ {L : List Nat}, (Da φ L).Nodup → ∀ {i j b : Nat}, i ∈ L → j ∈ L → i ≠ j → b ∈ φ i → b ∉ φ j
 | [], _, _, _, _, h, _, _, _ => by simp at h
 | x :: L, hn, i, j, b, hi, hj, hne, hb => by
  intro hb'
  have hx : Da φ (x :: L) = φ x ++ Da φ L := by simp [Da]
  rw [hx, List.nodup_append] at hn
  rcases jp.1 hi with e1 | q1
  ·rcases jp.1 hj with e2 | q2
   ·exact hne (e1.trans e2.symm)
   ·exact hn.2.2 b (e1 ▸ hb) b (Bb.2 ⟨j, q2, hb'⟩) rfl
  ·rcases jp.1 hj with e2 | q2
   ·exact hn.2.2 b (e2 ▸ hb') b (Bb.2 ⟨i, q1, hb⟩) rfl
   ·exact Nz hn.2.1 q1 q2 hne hb hb'
section
variable {P : Program} {G : Ie} {L : List (Nat × Wa)} {I : Cg}
end
def Yy : (pt : Ty) → T pt → Nat → Nat → List (Nat × D) × List (Nat × Option Ia) × Nat
 | .p x y, v, t, n => match Sd x v.1 n with
  | (d, l, m) => match Yy y v.2 (t + 1) m with
   | (tm, l', m') => ((t, d) :: tm, l ++ l', m')
 | _, _, _, n => ([], [], n)
def HQ (G : Ie) (L : List (Nat × Wa)) (fn : Func) (pt rt : Ty) (fr : List Bool) (x : T pt) : Option (T rt) :=
 match fn.body with
 | some c => match Yy pt x 0 400000 with
  | (tm, rows, _) => Gp G L c ⟨fn.ntmps, tm, rows⟩ fun e s => match e with
   | .exit _ => none
   | _ => match Sq G s fn.results.toList with
    | some d => match Zf s rt fr d with
     | some (r, l) => bif Qf l then some r else none
     | none => none
    | none => none
 | none => none
def GQ (G : Ie) (L : List (Nat × Wa)) (fn : Func) (vw cv : Bool) (τ pt rt : Ty) (fr : List Bool) (x0 : T τ) (x : T pt) : Option (T τ × T rt) :=
 match fn.body with
 | some c => match (bif vw then (D.t τ x0, [], 400000) else Sd τ x0 400000) with
  | (d0, rows, m) => match (bif cv then Yy pt x 1 m else (Rq pt x 1, [], m)) with
   | (tm, rows2, m2) => bif jx m2 500000 then Gp G L c ⟨fn.ntmps, (0, .ptr 500000 []) :: tm, (500000, some (.box τ d0)) :: (rows ++ rows2)⟩ fun e s => match e with
    | .exit _ => none
    | _ => match s.heap 500000, Sq G s fn.results.toList with
     | some (.box τ' d1), some d => match Ty.dec τ' τ, (bif vw then (match Fi d1 τ with
      | some y => some (y, [])
      | none => none) else Wb s d1 τ), Zf s rt fr d with
      | some _, some (x', l0), some (r, l) => bif Qf (500000 :: (l0 ++ l)) then some (x', r) else none
      | _, _, _ => none
     | _, _ => none
    else none
 | none => none
theorem VF {w : World} : ∀ {pt : Ty} {x : T pt} {args : List Value} {F : List Nat}, Df w pt x args F → args.length = pt.npar
 | .u, _, [], _, _ => rfl
 | .p x y, v, a :: r, F, h => by
  obtain ⟨cs, F1, F2, _, _, _, h⟩ := h
  simp [Ty.npar, VF h]
 | .u, _, _ :: _, _, h => by simp [Df] at h
 | .p _ _, _, [], _, h => by simp [Df] at h
 | .i _, _, l, _, h => by simp [Df] at h
 | .b, _, l, _, h => by simp [Df] at h
 | .o, _, l, _, h => by simp [Df] at h
 | .s, _, l, _, h => by simp [Df] at h
 | .sl _, _, l, _, h => by simp [Df] at h
theorem Df.lt {w : World} : ∀ {pt : Ty} {x : T pt} {args : List Value} {F : List Nat}, Df w pt x args F → ∀ b, b ∈ F → b < w.heap.size
 | .u, _, [], F, h, b, hb => by simp only [Df] at h; subst h; simp at hb
 | .p x y, v, a :: r, F, h, b, hb => by
  obtain ⟨cs, F1, F2, _, rfl, ho, h⟩ := h
  rcases jl.1 hb with hb | hb
  ·exact ho.lt b hb
  ·exact Df.lt h b hb
 | .u, _, _ :: _, _, h, _, _ => by simp [Df] at h
 | .p _ _, _, [], _, h, _, _ => by simp [Df] at h
 | .i _, _, l, _, h, _, _ => by simp [Df] at h
 | .b, _, l, _, h, _, _ => by simp [Df] at h
 | .o, _, l, _, h, _, _ => by simp [Df] at h
 | .s, _, l, _, h, _, _ => by simp [Df] at h
 | .sl _, _, l, _, h, _, _ => by simp [Df] at h
theorem BK {w : World} : ∀ {pt : Ty} {x : T pt} {args : List Value} {F : List Nat} {t n m : Nat} {tm : List (Nat × D)} {l : List (Nat × Option Ia)}, Yy pt x t n = (tm, l, m) → Df w pt x args F →
 n ≤ m ∧ (∀ p, p ∈ l → n ≤ p.1 ∧ p.1 < m) ∧ ∃ (ψ : Nat → List Nat) (ν : Nat → Value), Da ψ (l.map (·.1)) = F ∧ (∀ p, p ∈ l → ∃ e xs, p.2 = some (.row e true xs) ∧ Rb w (.sl e) xs [ν p.1] (ψ p.1)) ∧
  ∀ (hp' : Nat → Option Ia) (σ' : Nat → Value) (O' : Nat → Prop), (∀ p, p ∈ l → σ' p.1 = ν p.1) → ∀ t' d, Gb tm t' = some d → ∃ j v, t' = t + j ∧ args[j]? = some v ∧ Rc w O' hp' σ' d v
 | .u, x, [], F, t, n, m, tm, l, he, h => by
  simp only [Yy, jh] at he
  obtain ⟨rfl, rfl, rfl⟩ := he
  simp only [Df] at h
  exact ⟨jo _, by simp, fun _ => [], fun _ => undef, by simp [Da, h], by simp, fun _ _ _ _ t' d hd => by simp [Gb] at hd⟩
 | .p t1 t2, x, a :: r, F, t, n, m, tm, l, he, h => by
  obtain ⟨cs, F1, F2, ha, hF, ho, hr⟩ := h
  simp only [Yy] at he
  rcases ho1 : Sd t1 x.1 n with ⟨d1, l1, m1⟩
  rcases ho2 : Yy t2 x.2 (t + 1) m1 with ⟨tm2, l2, m2⟩
  rw [ho1] at he
  simp only at he
  rw [ho2] at he
  simp only [jh] at he
  obtain ⟨rfl, rfl, rfl⟩ := he
  obtain ⟨a1, a2, a3, ψ1, ν1, a4, a5, a6⟩ := Ur ho1 ho
  obtain ⟨b1, b2, ψ2, ν2, b4, b5, b6⟩ := BK ho2 hr
  refine ⟨by omega, ?_, fun id => if id < m1 then ψ1 id else ψ2 id, fun id => if id < m1 then ν1 id else ν2 id, ?_, ?_, ?_⟩
  ·intro p hp
   rcases jl.1 hp with hp | hp
   ·have := a2 p hp; omega
   ·have := b2 p hp; omega
  ·rw [List.map_append, Id, hF, ← a4, ← b4]
   congr 1
   ·exact Zi fun id hid => by
     obtain ⟨p, hp, rfl⟩ := qq.1 hid
     rw [if_pos (a2 p hp).2]
   ·exact Zi fun id hid => by
     obtain ⟨p, hp, rfl⟩ := qq.1 hid
     rw [if_neg (by have := b2 p hp; omega)]
  ·intro p hp
   rcases jl.1 hp with hp | hp
   ·simp only [if_pos (a2 p hp).2]; exact a5 p hp
   ·have : ¬ p.1 < m1 := by have := b2 p hp; omega
    simp only [if_neg this]; exact b5 p hp
  ·intro hp' σ' O' hσ t' d hd
   rw [Mc] at hd
   split at hd
   ·rename_i e
    simp only [jc] at hd
    subst hd
    refine ⟨0, a, by omega, rfl, ?_⟩
    rw [ha]
    refine Wm a3 (a6 w hp' σ' O' fun p hp => ?_)
    have h1 := hσ p (List.mem_append_left _ hp)
    simp only [if_pos (a2 p hp).2] at h1
    exact h1
   ·obtain ⟨j, v, h1, h2, h3⟩ := b6 hp' σ' O' (fun p hp => by
     have h1 := hσ p (List.mem_append_right _ hp)
     have h2 : ¬ p.1 < m1 := by have := b2 p hp; omega
     simp only [if_neg h2] at h1
     exact h1) t' d hd
    exact ⟨j + 1, v, by omega, by simpa using h2, h3⟩
 | .u, _, _ :: _, _, _, _, _, _, _, _, h => by simp [Df] at h
 | .p _ _, _, [], _, _, _, _, _, _, _, h => by simp [Df] at h
 | .i _, _, l, _, _, _, _, _, _, _, h => by simp [Df] at h
 | .b, _, l, _, _, _, _, _, _, _, h => by simp [Df] at h
 | .o, _, l, _, _, _, _, _, _, _, h => by simp [Df] at h
 | .s, _, l, _, _, _, _, _, _, _, h => by simp [Df] at h
 | .sl _, _, l, _, _, _, _, _, _, _, h => by simp [Df] at h
section
variable {P : Program} {G : Ie} {L : List (Nat × Wa)} {I : Cg}
theorem D7 (hG : Hi P I G) (hfz : G.fz = false) (hm : P.follows .mixedOrders = true) {f : FuncId} {fn : Func} {c : Code} (hf : P.funcs[f]? = some fn) (hb : fn.body = some c) (hname : (fn.name == "runtime.NumGoroutine") = false)
 (hL : ∀ b, b ∈ Kd c → Mb G L b) {pt rt : Ty} {fr : List Bool} {F : T pt → Option (T rt)} (hn : pt.npar ≤ fn.ntmps) (hF : ∀ x r, F x = some r → HQ G L fn pt rt fr x = some r) :
 Ah P I f (.co pt rt fr F) := by
 refine ⟨⟨fn, hf, hname, by rw [hb]; rfl⟩, ?_⟩
 intro O w x r F0 args hx hargs hF0 hO hI hB hFB
 have he := hF x r hx
 unfold HQ at he
 rw [hb] at he
 simp only at he
 rcases hop : Yy pt x 0 400000 with ⟨tm, rows, m⟩
 rw [hop] at he
 simp only at he
 obtain ⟨_, hids, ψ, ν, hbl, hrows, hrep⟩ := BK hop hargs
 refine calls_of_wp hf hb ?_
 have hlen := VF hargs
 have hmem : ∀ id Ga, AS.heap ⟨fn.ntmps, tm, rows⟩ id = some Ga → id ∈ rows.map (·.1) ∧ ∃ e xs, Ga = .row e true xs ∧ Rb w (.sl e) xs [ν id] (ψ id) := by
  intro id Ga hb
  have hm := AS.heap_mem hb
  obtain ⟨e, xs, h1, h2⟩ := hrows _ hm
  simp only [jc] at h1
  exact ⟨List.mem_map_of_mem (f := (·.1)) hm, e, xs, h1, h2⟩
 have hF0' : (Da ψ (rows.map (·.1))).Nodup := by rw [hbl]; exact hF0
 let A : Fx := ⟨(· ∈ F0), fun _ => none, fun _ _ h => by simp at h, I, hFB⟩
 have hOO : OO (fun b => O b ∨ b ∈ F0) ⟨fn.ntmps, tm, rows⟩ ψ = (fun b => O b ∨ b ∈ F0) := by
  funext b
  refine propext ⟨fun h => ?_, .inl⟩
  rcases h with h | ⟨id, Ga, hb, hm⟩
  ·exact h
  ·refine .inr ?_
   rw [← hbl]
   exact Bb.2 ⟨id, (hmem id Ga hb).1, hm⟩
 have hc : Sa w.heap.size A (fun b => O b ∨ b ∈ F0) w ⟨fn.ntmps, tm, rows⟩ ν ψ { tmps := args.toArray ++ Array.replicate (fn.ntmps - args.toArray.size) undef, defers := [] } w := by
  refine ⟨?_, rfl, ?_, ?_, ?_, ?_, ?_, ?_, ⟨rfl, rfl, rfl, jo _, fun _ _ _ => rfl⟩, ?_, hB, hI⟩
  ·simp; omega
  ·intro t d hd
   rw [hOO]
   obtain ⟨j, v, h1, h2, h3⟩ := hrep (AS.heap ⟨fn.ntmps, tm, rows⟩) ν (fun b => O b ∨ b ∈ F0) (fun _ _ => rfl) t d hd
   refine ⟨v, ?_, h3⟩
   have hj : j < args.length := (List.getElem?_eq_some_iff.1 h2).1
   have : t = j := by omega
   subst this
   rw [Array.getElem?_append_left (by simpa using hj)]
   simpa using h2
  ·intro id Ga hb
   obtain ⟨_, e, xs, rfl, h2⟩ := hmem id Ga hb
   exact h2
  ·intro id Ga hb
   have hi := (hmem id Ga hb).1
   have : (ψ id).Sublist (Da ψ (rows.map (·.1))) := by
    unfold Da
    exact List.sublist_flatten_of_mem (List.mem_map_of_mem hi)
   exact this.nodup hF0'
  ·intro id id' Ga blk' hne hb hb' b hm
   exact Nz hF0' (hmem id Ga hb).1 (hmem id' blk' hb').1 hne hm
  ·intro id Ga hb b hm
   refine .inr ?_
   show b ∈ F0
   rw [← hbl]
   exact Bb.2 ⟨id, (hmem id Ga hb).1, hm⟩
  ·rintro b (hb | hb)
   ·exact hO b hb
   ·exact hargs.lt b hb
  ·intro id v hv; simp [A] at hv
 refine HL (A := A) hG (fun h => by rw [hfz] at h; simp at h) hm c hL he hc ?_
 intro e s σ φ a w' hk h
 have Qh : (match Sq G s fn.results.toList with
  | some d => match Zf s rt fr d with
   | some (r, l) => bif Qf l then some r else none
   | none => none
  | none => none) = some r → a.defers = [] ∧ ∃ v, (results fn a.tmps).run P w' = .ok v w' ∧ Sp (fun v w' => ∃ vs Fr, v = Cy vs ∧ Bv w w' (· ∈ F0) ∧
  Oc w' (fun b => O b ∨ b ∈ F0 ∨ b ∈ Fr) rt r fr vs Fr ∧ Fr.Nodup ∧ ∀ b ∈ Fr, w.heap.size ≤ b ∨ b ∈ F0) (.returned v) w' := by
  intro hk
  split at hk
  ·rename_i d hd
   split at hk
   ·rename_i r' l hr
    simp only [Ea] at hk
    obtain ⟨hnd, hk⟩ := hk
    simp only [jc] at hk
    subst hk
    have hnd := Hh hnd
    obtain ⟨vs, hvs, hru⟩ := Lw hG.toEnvTy h hd
    obtain ⟨hR, hlive⟩ := TH h hr hru
    refine ⟨h.df, _, Cx hvs, vs, Da φ l, rfl, ⟨h.fr.size, fun b hb hno => h.fr.block b hb hno, h.fr.os, h.fr.tape, h.fr.output⟩, hR.mono ?_, Tf h hnd hlive, ?_⟩
    ·rintro b (hb | hb | hb)
     ·exact .inl (.inl hb)
     ·exact .inl (.inr hb)
     ·obtain ⟨j, hj, hm'⟩ := Bb.1 hb
      obtain ⟨Ga, hbj⟩ := hlive j hj
      exact .inr ⟨j, Ga, hbj, hm'⟩
    ·intro b hb
     obtain ⟨j, hj, hm'⟩ := Bb.1 hb
     obtain ⟨Ga, hbj⟩ := hlive j hj
     exact h.fresh j Ga hbj b hm'
   ·simp at hk
  ·simp at hk
 cases e with
 | normal => exact Qh hk
 | ret => exact Qh hk
 | exit j => simp at hk
theorem C7 (hG : Hi P I G) (hfz : G.fz = false) (hm : P.follows .mixedOrders = true) {f : FuncId} {fn : Func} {c : Code} (hf : P.funcs[f]? = some fn) (hb : fn.body = some c) (hname : (fn.name == "runtime.NumGoroutine") = false)
 (hL : ∀ b, b ∈ Kd c → Mb G L b) {vw cv : Bool} {τ pt rt : Ty} {fr : List Bool} {F : T τ → T pt → Option (T τ × T rt)} (hn : pt.npar + 1 ≤ fn.ntmps) (hF : ∀ x0 x r, F x0 x = some r → GQ G L fn vw cv τ pt rt fr x0 x = some r) :
 Ah P I f (.bx vw cv τ pt rt fr F) := by
 refine ⟨⟨fn, hf, hname, by rw [hb]; rfl⟩, ?_⟩
 intro O w x0 x r b cur et F0 F2 args hx hh hsz hcont hargs hnd hO hI hB hFB
 have he := hF x0 x r hx
 unfold GQ at he
 rw [hb] at he
 simp only at he
 rcases hop : (bif vw then (D.t τ x0, [], 400000) else Sd τ x0 400000) with ⟨d0, rows, m⟩
 rw [hop] at he
 simp only at he
 rcases hop2 : (bif cv then Yy pt x 1 m else (Rq pt x 1, [], m)) with ⟨tm, rows2, m2⟩
 rw [hop2] at he
 simp only [Ea] at he
 obtain ⟨hm2, he⟩ := he
 have hm2 := Nat.le_of_ble_eq_true hm2
 have hlt : b < w.heap.size := (Array.getElem?_eq_some_iff.1 hh).1
 have k1 : 400000 ≤ m ∧ (∀ p, p ∈ rows → 400000 ≤ p.1 ∧ p.1 < m) ∧ Ya τ d0 ∧ (∀ c, c ∈ F0 → c < w.heap.size) ∧ ∃ (ψ : Nat → List Nat) (ν : Nat → Value), Da ψ (rows.map (·.1)) = F0 ∧ (∀ p, p ∈ rows → ∃ e xs, p.2 = some (.row e true xs) ∧ Rb w (.sl e) xs [ν p.1] (ψ p.1)) ∧
  ∀ (hp' : Nat → Option Ia) (σ' : Nat → Value), (∀ p, p ∈ rows → σ' p.1 = ν p.1) → Ua w (fun c => O c ∨ c ∈ b :: (F0 ++ F2)) hp' σ' d0 cur.toList := by
  cases vw with
  | true =>
   simp only [cond_true, jh] at hop
   obtain ⟨rfl, rfl, rfl⟩ := hop
   simp only [if_true] at hcont
   obtain ⟨hv, rfl⟩ := hcont
   refine ⟨jo _, by simp, by simp [Ya], by simp, fun _ => [], fun _ => undef, by simp [Da], by simp, fun hp' σ' _ => Oa.weaken (fun c hc => ?_) hv⟩
   rcases hc with hc | hc
   ·exact .inl hc
   ·rcases jp.1 hc with rfl | hc
    ·exact .inr (.inl rfl)
    ·exact .inr (.inr (by simpa using hc))
  | false =>
   simp only [cond_false] at hop
   simp only [jq, if_false] at hcont
   obtain ⟨a1, a2, a3, ψ1, ν1, a4, a5, a6⟩ := Ur hop hcont
   exact ⟨a1, a2, a3, fun c hc => hcont.lt c hc, ψ1, ν1, a4, a5, fun hp' σ' h => a6 w hp' σ' _ h⟩
 obtain ⟨hnm, hids, hsh, hF0lt, ψ1, ν1, hbl1, hrows1, hrep1⟩ := k1
 have k2 : m ≤ m2 ∧ (∀ p, p ∈ rows2 → m ≤ p.1 ∧ p.1 < m2) ∧ args.length = pt.npar ∧ (∀ c, c ∈ F2 → c < w.heap.size) ∧ ∃ (ψ : Nat → List Nat) (ν : Nat → Value), Da ψ (rows2.map (·.1)) = F2 ∧ (∀ p, p ∈ rows2 → ∃ e xs, p.2 = some (.row e true xs) ∧ Rb w (.sl e) xs [ν p.1] (ψ p.1)) ∧
  ∀ (hp' : Nat → Option Ia) (σ' : Nat → Value), (∀ p, p ∈ rows2 → σ' p.1 = ν p.1) → ∀ t' d, Gb tm t' = some d → ∃ j v, t' = 1 + j ∧ args[j]? = some v ∧ Rc w (fun c => O c ∨ c ∈ b :: (F0 ++ F2)) hp' σ' d v := by
  cases cv with
  | true =>
   simp only [cond_true] at hop2
   simp only [if_true] at hargs
   obtain ⟨a1, a2, ψ2, ν2, a4, a5, a6⟩ := BK hop2 hargs
   exact ⟨a1, a2, VF hargs, hargs.lt, ψ2, ν2, a4, a5, fun hp' σ' h => a6 hp' σ' _ h⟩
  | false =>
   simp only [cond_false, jh] at hop2
   obtain ⟨rfl, rfl, rfl⟩ := hop2
   simp only [jq, if_false] at hargs
   obtain ⟨hv, rfl⟩ := hargs
   refine ⟨jo _, by simp, GB hv, by simp, fun _ => [], fun _ => undef, by simp [Da], by simp, fun hp' σ' _ t' d hd => ?_⟩
   have : (fun c => O c ∨ c ∈ b :: (F0 ++ [])) = (fun c => O c ∨ c = b ∨ c ∈ F0) := by
    funext c; simp
   rw [this]
   exact PD hv hd
 obtain ⟨hmm, hids2, hlen, hF2lt, ψ2, ν2, hbl2, hrows2, hrep2⟩ := k2
 refine calls_of_wp hf hb ?_
 let ψ : Nat → List Nat := fun id => if id = 500000 then [b] else if id < m then ψ1 id else ψ2 id
 let ν : Nat → Value := fun id => if id = 500000 then .pointer (some ⟨b, 0, none⟩) else if id < m then ν1 id else ν2 id
 have hψ0 : ψ 500000 = [b] := if_pos rfl
 have hν0 : ν 500000 = .pointer (some ⟨b, 0, none⟩) := if_pos rfl
 have hψ1 : ∀ p, p ∈ rows → ψ p.1 = ψ1 p.1 ∧ ν p.1 = ν1 p.1 := fun p hp => by
  have h1 := hids p hp
  have h2 : ¬ p.1 = 500000 := by omega
  simp only [ψ, ν, if_neg h2, if_pos h1.2, and_self]
 have hψ2 : ∀ p, p ∈ rows2 → ψ p.1 = ψ2 p.1 ∧ ν p.1 = ν2 p.1 := fun p hp => by
  have h1 := hids2 p hp
  have h2 : ¬ p.1 = 500000 := by omega
  have h3 : ¬ p.1 < m := by omega
  simp only [ψ, ν, if_neg h2, if_neg h3, and_self]
 let s0 : AS := ⟨fn.ntmps, (0, .ptr 500000 []) :: tm, (500000, some (.box τ d0)) :: (rows ++ rows2)⟩
 have hbx : s0.heap 500000 = some (.box τ d0) := by simp [s0, AS.heap, Mc]
 have hmem : ∀ id Ga, s0.heap id = some Ga → (id = 500000 ∧ Ga = .box τ d0) ∨ (id ≠ 500000 ∧ id ∈ (rows ++ rows2).map (·.1) ∧ ∃ e xs, Ga = .row e true xs ∧ Rb w (.sl e) xs [ν id] (ψ id)) := by
  intro id Ga hb
  by_cases hid : id = 500000
  ·subst hid
   rw [hbx] at hb
   simp only [jc] at hb
   exact .inl ⟨rfl, hb.symm⟩
  ·have hm := AS.heap_mem hb
   simp only [s0, jp, jh, hid, false_and, false_or] at hm
   refine .inr ⟨hid, List.mem_map_of_mem (f := (·.1)) hm, ?_⟩
   rcases jl.1 hm with hm | hm
   ·obtain ⟨e, xs, h1, h2⟩ := hrows1 _ hm
    simp only [jc] at h1
    exact ⟨e, xs, h1, by rw [(hψ1 _ hm).1, (hψ1 _ hm).2]; exact h2⟩
   ·obtain ⟨e, xs, h1, h2⟩ := hrows2 _ hm
    simp only [jc] at h1
    exact ⟨e, xs, h1, by rw [(hψ2 _ hm).1, (hψ2 _ hm).2]; exact h2⟩
 have hblr : Da ψ ((rows ++ rows2).map (·.1)) = F0 ++ F2 := by
  rw [List.map_append, Id, ← hbl1, ← hbl2]
  congr 1
  ·exact Zi fun id hid => by
    obtain ⟨p, hp, rfl⟩ := qq.1 hid
    exact (hψ1 p hp).1
  ·exact Zi fun id hid => by
    obtain ⟨p, hp, rfl⟩ := qq.1 hid
    exact (hψ2 p hp).1
 have hbl : Da ψ (500000 :: (rows ++ rows2).map (·.1)) = b :: (F0 ++ F2) := by
  have : Da ψ (500000 :: (rows ++ rows2).map (·.1)) = ψ 500000 ++ Da ψ ((rows ++ rows2).map (·.1)) := by simp only [Da, List.map_cons, List.flatten_cons]
  rw [this, hψ0, hblr]; rfl
 have hndB : (Da ψ (500000 :: (rows ++ rows2).map (·.1))).Nodup := by rw [hbl]; exact hnd
 have hidin : ∀ id Ga, s0.heap id = some Ga → id ∈ 500000 :: (rows ++ rows2).map (·.1) := by
  intro id Ga hb
  rcases hmem id Ga hb with ⟨rfl, _⟩ | ⟨_, h, _⟩
  ·exact qu
  ·exact jr _ h
 let A : Fx := ⟨(· ∈ b :: (F0 ++ F2)), fun id => if id = 500000 then some (.pointer (some ⟨b, 0, none⟩)) else none, fun id v h => by
  split at h
  ·omega
  ·simp at h, I, hFB⟩
 have hOO : OO (fun c => O c ∨ c ∈ b :: (F0 ++ F2)) s0 ψ = (fun c => O c ∨ c ∈ b :: (F0 ++ F2)) := by
  funext c
  refine propext ⟨fun h => ?_, .inl⟩
  rcases h with h | ⟨id, Ga, hb, hm⟩
  ·exact h
  ·refine .inr ?_
   rw [← hbl]
   exact Bb.2 ⟨id, hidin id Ga hb, hm⟩
 have hc : Sa w.heap.size A (fun c => O c ∨ c ∈ b :: (F0 ++ F2)) w s0 ν ψ { tmps := (.pointer (some ⟨b, 0, none⟩) :: args).toArray ++ Array.replicate (fn.ntmps - (Value.pointer (some ⟨b, 0, none⟩) :: args).toArray.size) undef, defers := [] } w := by
  refine ⟨?_, rfl, ?_, ?_, ?_, ?_, ?_, ?_, ⟨rfl, rfl, rfl, jo _, fun _ _ _ => rfl⟩, ?_, hB, hI⟩
  ·simp [s0]; omega
  ·intro t d hd
   rw [hOO]
   simp only [s0] at hd
   rw [Mc] at hd
   split at hd
   ·rename_i e
    subst e
    simp only [jc] at hd
    subst hd
    refine ⟨.pointer (some ⟨b, 0, none⟩), by rw [Array.getElem?_append_left (by simp)]; simp, ?_⟩
    rw [Vm]
    exact ⟨rfl, fun ρ d _ => ⟨b, hν0, by simp [Za]⟩⟩
   ·obtain ⟨j, v, h1, h2, h3⟩ := hrep2 s0.heap ν (fun p hp => (hψ2 p hp).2) t d hd
    refine ⟨v, ?_, h3⟩
    have hj : j < args.length := (List.getElem?_eq_some_iff.1 h2).1
    have : t = j + 1 := by omega
    subst this
    rw [Array.getElem?_append_left (by simpa using hj)]
    simpa using h2
  ·intro id Ga hb
   rw [hOO]
   rcases hmem id Ga hb with ⟨rfl, rfl⟩ | ⟨_, _, e, xs, rfl, h2⟩
   ·exact ⟨hsh, b, cur, et, hν0, hh, hψ0, hrep1 _ _ fun p hp => (hψ1 p hp).2, hsz⟩
   ·exact h2
  ·intro id Ga hb
   have hi := hidin id Ga hb
   have : (ψ id).Sublist (Da ψ (500000 :: (rows ++ rows2).map (·.1))) := by
    unfold Da
    exact List.sublist_flatten_of_mem (List.mem_map_of_mem hi)
   exact this.nodup hndB
  ·intro id id' Ga blk' hne hb hb' c hm
   exact Nz hndB (hidin id Ga hb) (hidin id' blk' hb') hne hm
  ·intro id Ga hb c hm
   refine .inr ?_
   show c ∈ b :: (F0 ++ F2)
   rw [← hbl]
   exact Bb.2 ⟨id, hidin id Ga hb, hm⟩
  ·rintro c (hc | hc)
   ·exact hO c hc
   ·rcases jp.1 hc with rfl | hc
    ·exact hlt
    ·rcases jl.1 hc with hc | hc
     ·exact hF0lt c hc
     ·exact hF2lt c hc
  ·intro id v hv
   simp only [A] at hv
   split at hv
   ·rename_i e
    subst e
    simp only [jc] at hv
    exact hν0.trans hv
   ·simp at hv
 refine HL (A := A) hG (fun h => by rw [hfz] at h; simp at h) hm c hL he hc ?_
 intro e s σ φ a w' hk h
 have Qh : (match s.heap 500000, Sq G s fn.results.toList with
  | some (.box τ' d1), some d => match Ty.dec τ' τ, (bif vw then (match Fi d1 τ with
   | some y => some (y, [])
   | none => none) else Wb s d1 τ), Zf s rt fr d with
   | some _, some (x', l0), some (r, l) => bif Qf (500000 :: (l0 ++ l)) then some (x', r) else none
   | _, _, _ => none
  | _, _ => none) = some r → a.defers = [] ∧ ∃ v, (results fn a.tmps).run P w' = .ok v w' ∧ Sp (fun v w' => ∃ vs cur' et' F1 Fr, v = Cy vs ∧ Bv w w' (· ∈ b :: (F0 ++ F2)) ∧ w'.heap[b]? = some (.cells cur' et' (0, 0)) ∧ cur'.size = τ.size ∧
  (if vw then Oa w' (fun c => O c ∨ c ∈ b :: (F0 ++ F2) ∨ c ∈ Fr) τ r.1 cur'.toList ∧ F1 = [] else Rb w' τ r.1 cur'.toList F1) ∧
  Oc w' (fun c => O c ∨ c ∈ b :: (F0 ++ F2) ∨ c ∈ F1 ∨ c ∈ Fr) rt r.2 fr vs Fr ∧ (b :: (F1 ++ Fr)).Nodup ∧ ∀ c ∈ F1 ++ Fr, w.heap.size ≤ c ∨ c ∈ F0 ++ F2) (.returned v) w' := by
  intro hk
  split at hk
  ·rename_i τ' d1 d hbx' hd
   split at hk
   ·rename_i q x' l0 r' l hq hx' hr
    obtain rfl := De hq
    simp only [Ea] at hk
    obtain ⟨hnd', hk⟩ := hk
    simp only [jc] at hk
    subst hk
    have hnd' := Hh hnd'
    obtain ⟨hsh', b', cur', et', hσ', hh', hF', hr0, hsz'⟩ := h.hp 500000 _ hbx'
    have hpin : σ 500000 = .pointer (some ⟨b, 0, none⟩) := h.pin 500000 _ (show (if (500000 : Nat) = 500000 then some (Value.pointer (some ⟨b, 0, none⟩)) else none) = _ from if_pos rfl)
    rw [hpin] at hσ'
    simp only [Value.pointer.injEq, jc, Addr.mk.injEq, and_true] at hσ'
    subst hσ'
    have hkl : (∀ j, j ∈ l0 → ∃ Ga, s.heap j = some Ga) ∧ (if vw then Oa w' (OO (fun c => O c ∨ c ∈ b :: (F0 ++ F2)) s φ) τ' x' cur'.toList ∧ l0 = [] else Rb w' τ' x' cur'.toList (Da φ l0)) := by
     cases vw with
     | true =>
      simp only [cond_true] at hx'
      split at hx'
      ·rename_i y hy
       simp only [jc, jh] at hx'
       obtain ⟨rfl, rfl⟩ := hx'
       exact ⟨by simp, by simp only [if_true]; exact ⟨(Kg hy).2 _ hr0, trivial⟩⟩
      ·simp at hx'
     | false =>
      simp only [cond_false] at hx'
      obtain ⟨g1, g2⟩ := Ql h hx' hr0
      exact ⟨g2, by simpa using g1⟩
    obtain ⟨hlive0, hx1⟩ := hkl
    obtain ⟨vs, hvs, hru⟩ := Lw hG.toEnvTy h hd
    obtain ⟨hR, hlive⟩ := TH h hr hru
    have hall : ∀ j, j ∈ 500000 :: (l0 ++ l) → ∃ Ga, s.heap j = some Ga := by
     intro j hj
     rcases jp.1 hj with rfl | hj
     ·exact ⟨_, hbx'⟩
     ·rcases jl.1 hj with hj | hj
      ·exact hlive0 j hj
      ·exact hlive j hj
    have hbk : Da φ (500000 :: (l0 ++ l)) = b :: (Da φ l0 ++ Da φ l) := by
     have : Da φ (500000 :: (l0 ++ l)) = φ 500000 ++ Da φ (l0 ++ l) := by simp only [Da, List.map_cons, List.flatten_cons]
     rw [this, hF', Id]; rfl
    have hbn := Tf h hnd' hall
    rw [hbk] at hbn
    have hinOO : ∀ c, c ∈ Da φ l0 ++ Da φ l → OO (fun c => O c ∨ c ∈ b :: (F0 ++ F2)) s φ c := by
     intro c hc
     rw [← Id] at hc
     obtain ⟨j, hj, hm'⟩ := Bb.1 hc
     obtain ⟨Ga, hbj⟩ := hall j (jr _ hj)
     exact .inr ⟨j, Ga, hbj, hm'⟩
    refine ⟨h.df, _, Cx hvs, vs, cur', et', Da φ l0, Da φ l, rfl, ⟨h.fr.size, fun c hc hno => h.fr.block c hc hno, h.fr.os, h.fr.tape, h.fr.output⟩, hh', hsz', ?_, hR.mono ?_, hbn, ?_⟩
    ·cases vw with
     | true =>
      simp only [if_true] at hx1 ⊢
      refine ⟨hx1.1.weaken ?_, by rw [hx1.2]; simp [Da]⟩
      rintro c (hc | hc | hc)
      ·exact .inl (.inl hc)
      ·exact .inl (.inr hc)
      ·exact hinOO c (List.mem_append_right _ hc)
     | false => simpa using hx1
    ·rintro c (hc | hc | hc | hc)
     ·exact .inl (.inl hc)
     ·exact .inl (.inr hc)
     ·exact hinOO c (List.mem_append_left _ hc)
     ·exact hinOO c (List.mem_append_right _ hc)
    ·intro c hcm
     have hcb : c ≠ b := by
      rintro rfl
      exact (List.nodup_cons.1 hbn).1 hcm
     rw [← Id] at hcm
     obtain ⟨j, hj, hm'⟩ := Bb.1 hcm
     obtain ⟨Ga, hbj⟩ := hall j (jr _ hj)
     rcases h.fresh j Ga hbj c hm' with h1 | h1
     ·exact .inl h1
     ·have h1 : c ∈ b :: (F0 ++ F2) := h1
      rcases jp.1 h1 with h1 | h1
      ·exact absurd h1 hcb
      ·exact .inr h1
   ·simp at hk
  ·simp at hk
 cases e with
 | normal => exact Qh hk
 | ret => exact Qh hk
 | exit j => simp at hk
def IQ (G : Ie) (L : List (Nat × Wa)) (fn : Func) (pt τ : Ty) (x : T pt) : Option (T τ) :=
 match fn.body with
 | some c => Gp G L c ⟨fn.ntmps, Rq pt x 0, []⟩ fun e s => match e with
  | .exit _ => none
  | _ => match Sq G s fn.results.toList with
   | some (.pr (.ptr id []) .un) => match s.heap id with
    | some (.box τ' d) => match Ty.dec τ' τ, Fi d τ with
     | some _, some y => some y
     | _, _ => none
    | _ => none
   | _ => none
 | none => none
theorem E7 (hG : Hi P I G) (hm : P.follows .mixedOrders = true) {f : FuncId} {fn : Func} {c : Code} (hf : P.funcs[f]? = some fn) (hb : fn.body = some c) (hname : (fn.name == "runtime.NumGoroutine") = false)
 (hL : ∀ b, b ∈ Kd c → Mb G L b) {pt τ : Ty} {F : T pt → Option (T τ)} (hn : pt.npar ≤ fn.ntmps) (hF : ∀ x r, F x = some r → IQ G L fn pt τ x = some r) : Ah P I f (.nw pt τ F) := by
 refine ⟨⟨fn, hf, hname, by rw [hb]; rfl⟩, ?_⟩
 intro O w x r args hx hargs hO hI hB
 have he := hF x r hx
 unfold IQ at he
 rw [hb] at he
 simp only at he
 refine calls_of_wp hf hb ?_
 have hlen := GB hargs
 have hc : Sa w.heap.size (HN I) O w ⟨fn.ntmps, Rq pt x 0, []⟩ (fun _ => undef) (fun _ => []) { tmps := args.toArray ++ Array.replicate (fn.ntmps - args.toArray.size) undef, defers := [] } w := by
  have hh : ∀ id, AS.heap ⟨fn.ntmps, Rq pt x 0, []⟩ id = none := fun id => rfl
  refine ⟨?_, rfl, ?_, ?_, ?_, ?_, ?_, hO, ⟨rfl, rfl, rfl, jo _, fun _ _ _ => rfl⟩, ?_, hB, hI⟩
  ·simp; omega
  ·intro t d hd
   have hOO : OO O ⟨fn.ntmps, Rq pt x 0, []⟩ (fun _ => []) = O := by
    funext b
    simp [OO, hh]
   rw [hOO]
   obtain ⟨j, v, h1, h2, h3⟩ := PD hargs hd
   refine ⟨v, ?_, h3⟩
   have hj : j < args.length := (List.getElem?_eq_some_iff.1 h2).1
   have : t = j := by omega
   subst this
   rw [Array.getElem?_append_left (by simpa using hj)]
   simpa using h2
  ·intro id Ga hb; rw [hh] at hb; simp at hb
  ·intro id Ga hb; rw [hh] at hb; simp at hb
  ·intro id id' Ga blk' _ hb; rw [hh] at hb; simp at hb
  ·intro id Ga hb; rw [hh] at hb; simp at hb
  ·intro id v hv; simp [HN] at hv
 refine HL (A := HN I) hG (fun _ _ h => h) hm c hL he hc ?_
 intro e s σ φ a w' hk h
 have Qh : (match Sq G s fn.results.toList with
  | some (.pr (.ptr id []) .un) => match s.heap id with
   | some (.box τ' d) => match Ty.dec τ' τ, Fi d τ with
    | some _, some y => some y
    | _, _ => none
   | _ => none
  | _ => none) = some r → a.defers = [] ∧ ∃ v, (results fn a.tmps).run P w' = .ok v w' ∧ Sp (fun v w' => ∃ b cur et, v = .pointer (some ⟨b, 0, none⟩) ∧ Bv w w' (fun _ => False) ∧ w.heap.size ≤ b ∧ w'.heap[b]? = some (.cells cur et (0, 0)) ∧ cur.size = τ.size ∧ Oa w' (fun c => O c ∨ c = b) τ r cur.toList) (.returned v) w' := by
  intro hk
  split at hk
  ·rename_i id hd
   split at hk
   ·rename_i τ' d hbx
    split at hk
    ·rename_i q y hq hy
     obtain rfl := De hq
     simp only [jc] at hk
     subst hk
     obtain ⟨vs, hvs, hru⟩ := Lw hG.toEnvTy h hd
     cases vs with
     | nil => simp [RU] at hru
     | cons v vs =>
      obtain ⟨h1, h2⟩ := hru
      cases vs with
      | cons _ _ => simp [RU] at h2
      | nil =>
       obtain ⟨_, b, cur, et, hσ, hh, hφ, hr0, hsz⟩ := h.hp id _ hbx
       rw [Vm] at h1
       obtain ⟨b', hσ', hv⟩ := h1.2 _ _ hbx
       rw [hσ] at hσ'
       simp only [Value.pointer.injEq, jc, Addr.mk.injEq, and_true] at hσ'
       subst hσ'
       have hmem : b ∈ φ id := by rw [hφ]; simp
       refine ⟨h.df, _, Cx hvs, b, cur, et, by simp only [Cy, hv, Za], ⟨h.fr.size, fun b hb _ => h.fr.block b hb (fun h => h), h.fr.os, h.fr.tape, h.fr.output⟩, (h.fresh id _ hbx b hmem).resolve_right (fun h => h), hh, hsz, ?_⟩
       refine Oa.weaken ?_ ((Kg hy).2 _ hr0)
       rintro c (hc | rfl)
       ·exact .inl hc
       ·exact .inr ⟨id, _, hbx, hmem⟩
    ·simp at hk
   ·simp at hk
  ·simp at hk
 cases e with
 | normal => exact Qh hk
 | ret => exact Qh hk
 | exit j => simp at hk
end
open Go Go.WideShapes
def RK : (τ : Ty) → T τ → Prop
 | .i k, n => k.has n
 | .b, _ => True
 | .o, _ => True
 | .s, x => ja x ≤ Gi
 | .sl e, xs => ja xs ≤ Gi ∧ ∀ i (h : i < ja xs), RK e (List.get xs ⟨i, h⟩)
 | .u, _ => True
 | .p x y, v => RK x v.1 ∧ RK y v.2
def Ty.pos : Ty → Bool
 | .sl e => e.pos && Nat.blt 0 e.size
 | .p x y => x.pos && y.pos
 | .o => false
 | _ => true
section
variable {H : Type} {enc : TypeId × Value → H} {P : Program} {w : World} {base : Nat} {spare : Nat → Bool} {held : Bool}
theorem Mm {τ : Ty} {t : TypeId} (h : Od P τ t = true) : P.cellsOf t = τ.size := by
 obtain ⟨i, h1, h2, _⟩ := Tok.size h
 simp [Program.cellsOf, h1, h2]
theorem Zaa {k : IntKind} {n : Int} (h : (Lit.int k n).wf = true) : k.has n := by
 simpa [Lit.wf, IntKind.has] using h
theorem Rad {a : Addr} {n : Nat} (h : n ≠ 0) : a.add n = ⟨a.block, a.off + n, none⟩ := by
 simp [Addr.add, h]
theorem WE {a : Addr} {n : Nat} {cs : List Value} (h : w.cells? base a n = some cs) (hn : 0 < n) :
 ∃ cur et fr, a = ⟨a.block, a.off, none⟩ ∧ w.heap[a.block]? = some (.cells cur et fr) ∧ a.off + n ≤ cur.size ∧ cs = Vc cur a.off n := by
 unfold World.cells? at h
 split at h
 ·have hlen : cs.length = n := by simpa using mapM_some_length h
  have hget : ∀ i, i < n → w.cell? (a.add i) = cs[i]? := fun i hi => mapM_some_get h i i (by simp [hi])
  have h0 := hget 0 hn
  have ha : a.add 0 = a := by simp [Addr.add]
  rw [ha] at h0
  have hc0 : cs[0]? = some (cs[0]'(by omega)) := je (by omega)
  rw [hc0] at h0
  unfold World.cell? at h0
  split at h0
  ·rename_i cur et fr hb
   have hsp : a.spot = none := by
    cases hs : a.spot with
    | none => rfl
    | some x => simp [hs] at h0
   have hcell : ∀ i, i < n → cur[a.off + i]? = cs[i]? := by
    intro i hi
    have := hget i hi
    by_cases hi0 : i = 0
    ·subst hi0
     rw [ha] at this
     unfold World.cell? at this
     rw [hb] at this
     simpa [hsp] using this
    ·rw [Rad hi0] at this
     unfold World.cell? at this
     simp only at this
     rw [hb] at this
     simpa using this
   refine ⟨cur, et, fr, by cases a; simp_all, hb, ?_, ?_⟩
   ·have h1 := hcell (n - 1) (by omega)
    rw [je (by omega)] at h1
    have := (Array.getElem?_eq_some_iff.1 h1).1
    omega
   ·apply List.ext_getElem?
    intro i
    by_cases hi : i < n
    ·rw [Ae _ _ _ _ hi, hcell i hi]
    ·rw [List.getElem?_eq_none (by omega), List.getElem?_eq_none]
     simp [Vc]; omega
  ·simp at h0
 ·simp at h
theorem W9 {fs : List Field} {o : Nat} (h : Hf P .u fs o = true) : fs = [] := by
 cases fs <;> simp_all [Hf]
theorem ER {x y : Ty} {fs : List Field} {o : Nat} (h : Hf P (.p x y) fs o = true) : ∃ f r, fs = f :: r ∧ f.offset = o ∧ Od P x f.type = true ∧ Hf P y r (o + x.size) = true := by
 cases fs with
 | nil => simp [Hf] at h
 | cons f r =>
  simp only [Hf, jd] at h
  exact ⟨f, r, rfl, ju h.1.1.1, h.1.2, h.2⟩
theorem LQ {x y : Ty} {t : TypeId} (h : Od P (.p x y) t = true) : ∃ fs, P.underlying t = some (.struct fs) ∧ Hf P (.p x y) fs.toList 0 = true := by
 simp only [Od, jd] at h
 obtain ⟨_, h⟩ := h
 split at h
 ·rename_i fs hfs
  refine ⟨fs, hfs, ?_⟩
  split at h
  ·rename_i f r hr
   rw [hr]
   simpa [Hf] using h
  ·simp at h
 ·simp at h
theorem MQ {t : TypeId} (h : Od P .u t = true) : ∃ fs, P.underlying t = some (.struct fs) ∧ fs.size = 0 := by
 simp only [Od, jd] at h
 obtain ⟨_, h⟩ := h
 split at h
 ·rename_i fs hfs
  exact ⟨fs, hfs, ju h⟩
 ·simp at h
mutual
theorem KG (hO : ∀ b, ¬ (fun _ : Nat => False) b) : ∀ (τ : Ty) (t : TypeId) (n : Nat) (cs : List Value) (x : DataW H × List MemPlace), Od P τ t = true → τ.pos = true →
 DataW.trod enc P w base spare held n t cs = some x → ∃ y : T τ, Oa w (fun _ => False) τ y cs ∧ RK τ y
 | .i k, t, n, cs, x, ht, _, h => by
  obtain ⟨m, h1, _, h2⟩ := DataW.trod_int (Tok.i ht) h
  exact ⟨m, h1, Zaa h2⟩
 | .b, t, n, cs, x, ht, _, h => by
  obtain ⟨m, h1, _⟩ := DataW.trod_bool (Tok.b ht) h
  exact ⟨m, h1, trivial⟩
 | .o, t, n, cs, x, ht, hp, h => by simp [Ty.pos] at hp
 | .s, t, n, cs, x, ht, _, h => by
  obtain ⟨m, h1, _, h2⟩ := DataW.trod_string (Tok.s ht) h
  refine ⟨m.data.toList, ?_, ?_⟩
  ·show cs = [.string ⟨List.toArray m.data.toList⟩]
   rw [h1]
  ·show m.data.toList.length ≤ Gi
   have : m.size = m.data.toList.length := Array.length_toList.symm
   unfold maxLen at h2
   unfold Gi
   omega
 | .sl e, t, n, cs, x, ht, hp, h => by
  obtain ⟨et, hu, he⟩ := Tok.sl ht
  simp only [Ty.pos, jd] at hp
  have hpos : 0 < e.size := by simpa using hp.2
  rcases DataW.trod_slice hu h with ⟨h1, _⟩ | ⟨a, len, cap, elems, rest, m, _, h1, _, _, h2, h3, h4, h5, _, _⟩
  ·exact ⟨([] : List (T e)), ⟨none, 0, h1, jo _, Nat.zero_le _, .inl rfl⟩, ⟨Nat.zero_le _, fun i hi => absurd hi (Nat.not_lt_zero i)⟩⟩
  ·rw [Mm he] at h5
   have hone : ∀ i, i < len → ∃ y : T e, ∃ cs', w.cells? base (a.add (i * e.size)) e.size = some cs' ∧ Oa w (fun _ => False) e y cs' ∧ RK e y := by
    intro i hi
    have := h5 i hi
    rw [je (by omega), qd] at this
    obtain ⟨cs', hc, hy⟩ := this
    obtain ⟨y, hv, hr⟩ := KG hO e et m cs' _ he hp.1 hy
    exact ⟨y, cs', hc, hv, hr⟩
   let ys : List (T e) := List.ofFn fun i : Fin len => Classical.choose (hone i.1 i.2)
   have hlen : ys.length = len := by simp [ys]
   have hy : ∀ i (h : i < ys.length), ∃ cs', w.cells? base (a.add (i * e.size)) e.size = some cs' ∧ Oa w (fun _ => False) e (ys.get ⟨i, h⟩) cs' ∧ RK e (ys.get ⟨i, h⟩) := by
    intro i hi
    have := Classical.choose_spec (hone i (by omega))
    simpa [ys] using this
   have hmax : len ≤ Gi := by unfold maxLen at h3; unfold Gi; omega
   refine ⟨ys, ⟨some a, cap, by rw [h1, hlen], by rw [hlen]; exact h2, by rw [hlen]; exact hmax, ?_⟩, by rw [hlen]; exact hmax, fun i hi => (hy i hi).choose_spec.2.2⟩
   by_cases hl0 : len = 0
   ·left
    exact List.eq_nil_of_length_eq_zero (by omega)
   ·right
    obtain ⟨cs0, hc0, _⟩ := hy 0 (by omega)
    have ha0 : a.add (0 * e.size) = a := by simp [Addr.add]
    rw [ha0] at hc0
    obtain ⟨cur, et', fr, ha, hb, _, _⟩ := WE hc0 hpos
    have hadd : ∀ i, (a.add (i * e.size)).block = a.block ∧ (a.add (i * e.size)).off = a.off + i * e.size := by
     intro i
     unfold Addr.add
     split
     ·rename_i hz; simp [hz]
     ·exact ⟨rfl, rfl⟩
    refine ⟨a.block, a.off, cur, et', fr, by rw [← ha], fun h => h, hb, ?_, ?_⟩
    ·obtain ⟨cs1, hc1, _⟩ := hy (len - 1) (by omega)
     obtain ⟨cur1, et1, fr1, _, hb1, hs1, _⟩ := WE hc1 hpos
     rw [(hadd _).1, hb] at hb1
     simp only [jc, Obj.cells.injEq] at hb1
     rw [(hadd _).2, ← hb1.1] at hs1
     have : len * e.size = (len - 1) * e.size + e.size := by
      rw [← Nat.succ_mul]; congr 1; omega
     show a.off + ys.length * e.size ≤ cur.size
     rw [hlen]
     omega
    ·intro i hi
     obtain ⟨cs1, hc1, hv, _⟩ := hy i hi
     obtain ⟨cur1, et1, fr1, _, hb1, _, hs1⟩ := WE hc1 hpos
     rw [(hadd _).1, hb] at hb1
     simp only [jc, Obj.cells.injEq] at hb1
     rw [(hadd _).2, ← hb1.1] at hs1
     rw [← hs1]
     exact hv
 | .u, t, n, cs, x, ht, _, h => by
  obtain ⟨fs, hu, hz⟩ := MQ ht
  obtain ⟨xs, m, _, _, hl, _⟩ := DataW.trod_struct hu h
  rw [Mm ht] at hl
  exact ⟨(), List.eq_nil_of_length_eq_zero hl, trivial⟩
 | .p a c2, t, n, cs, x, ht, hp, h => by
  obtain ⟨fs, hu, hf⟩ := LQ ht
  obtain ⟨xs, m, _, _, hl, _, hget⟩ := DataW.trod_struct hu h
  rw [Mm ht] at hl
  have := DI hO (.p a c2) fs.toList 0 m cs hf hp (by simpa using hl) (by
   intro i f hi
   have := hget i f (by simpa using hi)
   have hlt : i < xs.length := by
    have : i < fs.toList.length := (List.getElem?_eq_some_iff.1 hi).1
    simp at this; omega
   exact ⟨_, this.trans (je hlt)⟩)
  simpa using this
termination_by τ => (sizeOf τ, 1)
theorem DI (hO : ∀ b, ¬ (fun _ : Nat => False) b) : ∀ (τ : Ty) (fs : List Field) (o m : Nat) (cs : List Value), Hf P τ fs o = true → τ.pos = true → cs.length = o + τ.size →
 (∀ (i : Nat) (f : Field), fs[i]? = some f → ∃ x, DataW.trod enc P w base spare held m f.type ((cs.drop f.offset).take (P.cellsOf f.type)) = some x) →
 ∃ y : T τ, Oa w (fun _ => False) τ y (cs.drop o) ∧ RK τ y
 | .p a c2, fs, o, m, cs, hf, hp, hl, hx => by
  obtain ⟨f, r, rfl, ho, ht, hr⟩ := ER hf
  simp only [Ty.pos, jd] at hp
  simp only [Ty.size] at hl
  obtain ⟨z, hz⟩ := hx 0 f rfl
  rw [Mm ht, ho] at hz
  obtain ⟨y1, hv1, hr1⟩ := KG hO a f.type m _ z ht hp.1 hz
  obtain ⟨y2, hv2, hr2⟩ := DI hO c2 r (o + a.size) m cs hr hp.2 (by omega) (fun i f' hi => hx (i + 1) f' (by simpa using hi))
  refine ⟨(y1, y2), ⟨(cs.drop o).take a.size, cs.drop (o + a.size), ?_, hv1, hv2⟩, hr1, hr2⟩
  rw [← List.drop_drop, List.take_append_drop]
 | .u, fs, o, m, cs, _, _, hl, _ => ⟨(), by simp only [Oa, Ty.size] at hl ⊢; exact List.drop_of_length_le (by omega), trivial⟩
 | .i _, fs, o, m, cs, hf, _, _, _ => by simp [Hf] at hf
 | .b, fs, o, m, cs, hf, _, _, _ => by simp [Hf] at hf
 | .o, fs, o, m, cs, hf, _, _, _ => by simp [Hf] at hf
 | .s, fs, o, m, cs, hf, _, _, _ => by simp [Hf] at hf
 | .sl _, fs, o, m, cs, hf, _, _, _ => by simp [Hf] at hf
termination_by τ => (sizeOf τ, 0)
end
end
open Go Go.WideShapes Go.ChangeShapes
def Xj (P : Program) : Ty → List TypeId → Bool
 | .p x y, t :: ts => Od P x t && x.pos && Xj P y ts
 | .u, [] => true
 | _, _ => false
section
variable {H : Type} {enc : TypeId × Value → H} {P : Program} {w : World} {base : Nat} {spare : Nat → Bool} {held : Bool}
theorem YZ {τ : Ty} {t : TypeId} {v : Value} {r : Reach} {b0 : Nat} (ht : Od P τ t = true) (h : Value.okWide P w r b0 t v) : v = Cd τ v.cells.toList := by
 have key : ∀ {τ : Ty}, τ.isAgg = false → v.cells = #[v] → v = Cd τ v.cells.toList := by
  intro τ h1 h2
  rw [h2]; simp [Cd, h1]
 cases τ with
 | i k =>
  obtain ⟨n, rfl⟩ := okWide_int (Tok.i ht) h
  exact key rfl rfl
 | b =>
  obtain ⟨n, rfl⟩ := okWide_bool (Tok.b ht) h
  exact key rfl rfl
 | o =>
  refine key rfl ?_
  obtain ⟨et, hu⟩ := Tok.o ht
  unfold Value.okWide at h
  rw [hu] at h
  cases v with
  | agg cs => simp [Cell.okWide, Cell.ok, hu] at h
  | _ => rfl
 | s =>
  refine key rfl ?_
  have hu := Tok.s ht
  unfold Value.okWide at h
  rw [hu] at h
  cases v with
  | agg cs => simp [Cell.okWide, Cell.ok, hu] at h
  | _ => rfl
 | sl e =>
  refine key rfl ?_
  obtain ⟨et, hu, _⟩ := Tok.sl ht
  unfold Value.okWide at h
  rw [hu] at h
  cases v with
  | agg cs => simp [Cell.okWide, Cell.ok, hu] at h
  | _ => rfl
 | u =>
  obtain ⟨fs, hu, _⟩ := MQ ht
  obtain ⟨cs, rfl, _⟩ := okWide_struct hu h
  simp [Cd, Ty.isAgg, Value.cells]
 | p x y =>
  obtain ⟨fs, hu, _⟩ := LQ ht
  obtain ⟨cs, rfl, _⟩ := okWide_struct hu h
  simp [Cd, Ty.isAgg, Value.cells]
theorem JG : ∀ {pt : Ty} {ts : List TypeId} {vs : List Value} {ds : List (DataW H)} {ps : List MemPlace}, Xj P pt ts = true → DataW.TrodAll enc P w 0 spare held ts vs ds ps →
 (∀ (j : Nat) t v, ts[j]? = some t → vs[j]? = some v → Value.okWide P w .any base t v) → ∃ x : T pt, Fg w (fun _ => False) pt x vs ∧ RK pt x
 | .p x y, t :: ts, v :: vs, d :: ds, ps, hp, h, hv => by
  simp only [Xj, jd] at hp
  obtain ⟨p, q, ⟨n, h1⟩, h2, _⟩ := h
  obtain ⟨a, ha, hra⟩ := KG (fun _ h => h) x t n _ _ hp.1.1 hp.1.2 h1
  obtain ⟨b, hb, hrb⟩ := JG hp.2 h2 fun j t' v' h1 h2 => hv (j + 1) t' v' (by simpa using h1) (by simpa using h2)
  exact ⟨(a, b), ⟨⟨_, YZ hp.1.1 (hv 0 t v rfl rfl), ha⟩, hb⟩, hra, hrb⟩
 | .u, [], [], [], _, _, _, _ => ⟨(), trivial, trivial⟩
 | .p _ _, [], _, _, _, hp, _, _ => by simp [Xj] at hp
 | .u, _ :: _, _, _, _, hp, _, _ => by simp [Xj] at hp
 | .i _, _, _, _, _, hp, _, _ => by simp [Xj] at hp
 | .b, _, _, _, _, hp, _, _ => by simp [Xj] at hp
 | .o, _, _, _, _, hp, _, _ => by simp [Xj] at hp
 | .s, _, _, _, _, hp, _, _ => by simp [Xj] at hp
 | .sl _, _, _, _, _, hp, _, _ => by simp [Xj] at hp
 | .p _ _, _ :: _, [], _, _, _, h, _ => by simp [DataW.TrodAll] at h
 | .p _ _, _ :: _, _ :: _, [], _, _, h, _ => by simp [DataW.TrodAll] at h
 | .u, [], _ :: _, _, _, _, h, _ => by simp [DataW.TrodAll] at h
 | .u, [], [], _ :: _, _, _, h, _ => by simp [DataW.TrodAll] at h
def QG (P : Program) (t : TypeId) : Prop := ∃ τ : Ty, Od P τ t = true ∧ τ.pos = true
theorem FR : ∀ {τ : Ty} {fs : List Field} {o : Nat}, Hf P τ fs o = true → τ.pos = true →
 (∀ f ∈ fs, QG P f.type) ∧ τ.size = (fs.map fun f => P.cellsOf f.type).sum ∧ ∀ (j : Nat) f, fs[j]? = some f → f.offset = o + ((fs.take j).map fun f => P.cellsOf f.type).sum
 | .u, fs, o, h, _ => by
  rw [W9 h]
  simp [Ty.size]
 | .p x y, fs, o, h, hp => by
  obtain ⟨f, r, rfl, ho, ht, hr⟩ := ER h
  simp only [Ty.pos, jd] at hp
  obtain ⟨h1, h2, h3⟩ := FR hr hp.2
  refine ⟨?_, ?_, ?_⟩
  ·intro g hg
   rcases jp.1 hg with rfl | hg
   ·exact ⟨x, ht, hp.1⟩
   ·exact h1 g hg
  ·simp [Ty.size, Mm ht, h2]
  ·intro j g hj
   cases j with
   | zero => simp at hj; subst hj; simp [ho]
   | succ j =>
    have := h3 j g (by simpa using hj)
    simp [this, Mm ht, jt]
 | .i _, fs, o, h, _ => by simp [Hf] at h
 | .b, fs, o, h, _ => by simp [Hf] at h
 | .o, fs, o, h, _ => by simp [Hf] at h
 | .s, fs, o, h, _ => by simp [Hf] at h
 | .sl _, fs, o, h, _ => by simp [Hf] at h
theorem Sx {t : TypeId} {u : TypeDesc} (h : QG P t) (hu : P.underlying t = some u) : (∃ k, u = .int k) ∨ u = .bool ∨ u = .string ∨ (∃ e, u = .slice e ∧ QG P e ∧ 0 < P.cellsOf e) ∨ ∃ fs, u = .struct fs := by
 obtain ⟨τ, ht, hp⟩ := h
 cases τ with
 | i k => rw [Tok.i ht] at hu; exact .inl ⟨k, (Option.some.inj hu).symm⟩
 | b => rw [Tok.b ht] at hu; exact .inr (.inl (Option.some.inj hu).symm)
 | o => simp [Ty.pos] at hp
 | s => rw [Tok.s ht] at hu; exact .inr (.inr (.inl (Option.some.inj hu).symm))
 | sl e =>
  obtain ⟨et, h1, h2⟩ := Tok.sl ht
  rw [h1] at hu
  simp only [Ty.pos, jd] at hp
  exact .inr (.inr (.inr (.inl ⟨et, (Option.some.inj hu).symm, ⟨e, h2, hp.1⟩, by rw [Mm h2]; simpa using hp.2⟩)))
 | u => obtain ⟨fs, h1, _⟩ := MQ ht; rw [h1] at hu; exact .inr (.inr (.inr (.inr ⟨fs, (Option.some.inj hu).symm⟩)))
 | p x y => obtain ⟨fs, h1, _⟩ := LQ ht; rw [h1] at hu; exact .inr (.inr (.inr (.inr ⟨fs, (Option.some.inj hu).symm⟩)))
theorem FY : Kids P (QG P) := by
 refine ⟨?_, ?_, ?_, ?_, ?_⟩
 ·intro t e ht hu
  rcases Sx ht hu with ⟨k, h⟩ | h | h | ⟨e', h, _⟩ | ⟨fs, h⟩ <;> simp at h
 ·intro t e ht hu
  rcases Sx ht hu with ⟨k, h⟩ | h | h | ⟨e', h, h2, _⟩ | ⟨fs, h⟩ <;> simp at h
  rw [h]; exact h2
 ·intro t e n ht hu
  rcases Sx ht hu with ⟨k, h⟩ | h | h | ⟨e', h, _⟩ | ⟨fs, h⟩ <;> simp at h
 ·intro t fs ht hu
  obtain ⟨τ, ht, hp⟩ := ht
  cases τ with
  | i k => rw [Tok.i ht] at hu; simp at hu
  | b => rw [Tok.b ht] at hu; simp at hu
  | o => simp [Ty.pos] at hp
  | s => rw [Tok.s ht] at hu; simp at hu
  | sl e => obtain ⟨et, h1, _⟩ := Tok.sl ht; rw [h1] at hu; simp at hu
  | u =>
   obtain ⟨fs', h1, h2⟩ := MQ ht
   rw [h1] at hu
   simp only [jc, TypeDesc.struct.injEq] at hu
   subst hu
   have : fs'.toList = [] := by simpa using h2
   rw [Mm ht, this]
   simp [Ty.size]
  | p x y =>
   obtain ⟨fs', h1, h2⟩ := LQ ht
   rw [h1] at hu
   simp only [jc, TypeDesc.struct.injEq] at hu
   subst hu
   obtain ⟨a, b, c⟩ := FR h2 hp
   exact ⟨a, by rw [Mm ht, b], fun j f hj => by simpa using c j f hj⟩
 ·intro t k e ht hu
  rcases Sx ht hu with ⟨k, h⟩ | h | h | ⟨e', h, _⟩ | ⟨fs, h⟩ <;> simp at h
theorem NI : ∀ {pt : Ty} {ts : List TypeId}, Xj P pt ts = true → ∀ t ∈ ts, QG P t
 | .p x y, t :: ts, h, t', ht => by
  simp only [Xj, jd] at h
  rcases jp.1 ht with rfl | ht
  ·exact ⟨x, h.1.1, h.1.2⟩
  ·exact NI h.2 t' ht
 | .u, [], _, _, ht => by simp at ht
 | .p _ _, [], _, _, ht => by simp at ht
 | .u, _ :: _, h, _, _ => by simp [Xj] at h
 | .i _, _, h, _, _ => by simp [Xj] at h
 | .b, _, h, _, _ => by simp [Xj] at h
 | .o, _, h, _, _ => by simp [Xj] at h
 | .s, _, h, _, _ => by simp [Xj] at h
 | .sl _, _, h, _, _ => by simp [Xj] at h
theorem LE {w' : World} {sp' : Nat → Bool} : ∀ {ts : List TypeId} {vs : List Value} {ds : List (DataW H)} {ps : List MemPlace}, (∀ t ∈ ts, QG P t) →
 DataW.TrodAll enc P w 0 (fun _ => true) true ts vs ds ps → (∀ p ∈ ps, w.sameAt w' p) → (∀ p ∈ ps, sp' p.block = true) → DataW.TrodAll enc P w' 0 sp' true ts vs ds ps
 | [], [], [], _, _, h, _, _ => h
 | t :: ts, v :: vs, d :: ds, ps, hp, h, h1, h2 => by
  obtain ⟨p, q, ⟨n, ha⟩, hb, rfl⟩ := h
  refine ⟨p, q, ⟨n, DataW.trod_stays FY ?_ (fun h => by simp at h) (hp t (by simp)) ha (fun z hz => h1 z (List.mem_append_left _ hz)) (fun z hz => h2 z (List.mem_append_left _ hz))⟩,
   LE (fun t ht => hp t (by simp [ht])) hb (fun z hz => h1 z (List.mem_append_right _ hz)) (fun z hz => h2 z (List.mem_append_right _ hz)), rfl⟩
  intro t e ht hu
  rcases Sx ht hu with ⟨k, h⟩ | h | h | ⟨e', h, _, h2⟩ | ⟨fs, h⟩ <;> simp at h
  rw [h]; exact h2
 | [], _ :: _, _, _, _, h, _, _ => by simp [DataW.TrodAll] at h
 | [], [], _ :: _, _, _, h, _, _ => by simp [DataW.TrodAll] at h
 | _ :: _, [], _, _, _, h, _, _ => by simp [DataW.TrodAll] at h
 | _ :: _, _ :: _, [], _, _, h, _, _ => by simp [DataW.TrodAll] at h
theorem RI : ∀ {ts : List TypeId} {vs : List Value} {ds : List (DataW H)} {ps : List MemPlace}, DataW.TrodAll enc P w base spare held ts vs ds ps → ds.length = ts.length
 | [], [], [], _, _ => rfl
 | _ :: _, _ :: _, _ :: _, _, h => by
  obtain ⟨_, _, _, h, _⟩ := h
  simp [RI h]
 | [], _ :: _, _, _, h => by simp [DataW.TrodAll] at h
 | [], [], _ :: _, _, h => by simp [DataW.TrodAll] at h
 | _ :: _, [], _, _, h => by simp [DataW.TrodAll] at h
 | _ :: _, _ :: _, [], _, h => by simp [DataW.TrodAll] at h
theorem Bv.but {w w' : World} (h : Bv w w' fun _ => False) (may : MemPlace → Prop) : w.keptBut w' may := by
 refine ⟨h.os, h.output, fun i hi => ?_⟩
 rw [h.block i hi (fun h => h)]
 cases w.heap[i]? with
 | none => rfl
 | some o =>
  cases o with
  | cells c t fr => exact ⟨rfl, rfl, rfl, fun _ _ => rfl⟩
  | map es clock => exact .inr ⟨rfl, rfl⟩
  | _ => rfl
end
noncomputable def Nb {X R : Type} (step : X → Option (X ⊕ R)) (x : X) : Option R :=
 open Classical in if h : ∃ m y, Vx step m x y then some h.choose_spec.choose else none
theorem Vx.det {X R : Type} {step : X → Option (X ⊕ R)} : ∀ {m n : Nat} {x : X} {y z : R}, Vx step m x y → Vx step n x z → y = z
 | 0, _, _, _, _, h, _ => h.elim
 | _ + 1, 0, _, _, _, _, h => h.elim
 | m + 1, n + 1, x, y, z, h, h' => by
  rcases h with h | ⟨x1, h, h1⟩ <;> rcases h' with h' | ⟨x2, h', h2⟩
  ·rw [h] at h'; simpa using h'
  ·rw [h] at h'; simp at h'
  ·rw [h] at h'; simp at h'
  ·rw [h] at h'
   simp only [jc, Sum.inl.injEq] at h'
   subst h'
   exact Vx.det h1 h2
theorem AB {X R : Type} {step : X → Option (X ⊕ R)} {x : X} {y : R} : Nb step x = some y ↔ ∃ m, Vx step m x y := by
 unfold Nb
 constructor
 ·intro h
  split at h
  ·rename_i hh
   simp only [jc] at h
   exact ⟨_, h ▸ hh.choose_spec.choose_spec⟩
  ·simp at h
 ·rintro ⟨m, h⟩
  have hh : ∃ m y, Vx step m x y := ⟨m, y, h⟩
  rw [dif_pos hh]
  exact congrArg some (Vx.det hh.choose_spec.choose_spec h)
theorem Xy {X R : Type} {step : X → Option (X ⊕ R)} (x : X) : Nb step x = (step x).bind (Sum.elim (Nb step) some) := by
 apply Option.ext
 intro y
 rw [AB]
 constructor
 ·rintro ⟨m, h⟩
  cases m with
  | zero => exact h.elim
  | succ m =>
   rcases h with h | ⟨x', h, h'⟩
   ·simp [h]
   ·simp [h, AB.2 ⟨m, h'⟩]
 ·intro h
  rw [qd] at h
  obtain ⟨z, hz, h⟩ := h
  cases z with
  | inl x' =>
   obtain ⟨m, hm⟩ := AB.1 h
   exact ⟨m + 1, .inr ⟨x', hz, hm⟩⟩
  | inr z =>
   simp only [Sum.elim_inr, jc] at h
   subst h
   exact ⟨1, .inl hz⟩
def lp (fn : Func) (i : Nat) : Code := (Kd (fn.body.getD .skip)).getD i .skip
theorem UO {G : Ie} {L : List (Nat × Wa)} {fn : Func} {i r : Nat} {ls : Wa} {R : ls.inT.X → Option (ls.inT.X ⊕ (ls.outT.X ⊕ ls.retT.X))}
 (h1 : Si (lp fn i) = some r) (h2 : (Gb L r) = some ls) (h3 : ls.F = Nb R) (h4 : ∀ x, EB G L ls (lp fn i) x = R x) : Mb G L (lp fn i) := by
 intro r' ls' hr hl x y hy
 rw [h1] at hr
 simp only [jc] at hr
 subst hr
 rw [h2] at hl
 simp only [jc] at hl
 subst hl
 rw [h3] at hy
 obtain ⟨m, hm⟩ := AB.1 hy
 have : EB G L ls (lp fn i) = R := funext h4
 rw [this]
 exact ⟨m, hm⟩
theorem CB {G : Ie} {L : List (Nat × Wa)} {fn : Func} {k : Nat} (hk : Nat.beq (Kd (fn.body.getD .skip)).length k = true) (h : ∀ i, i < k → Mb G L (lp fn i)) :
 ∀ b, b ∈ Kd (fn.body.getD .skip) → Mb G L b := by
 intro b hb
 obtain ⟨i, hi, rfl⟩ := List.mem_iff_getElem.1 hb
 have := h i (by rw [← ju hk]; exact hi)
 unfold lp at this
 rwa [qg, je hi] at this
theorem Ra {p : Nat → Prop} : ∀ i, i < 0 → p i := fun i h => absurd h (Nat.not_lt_zero i)
theorem Va {p : Nat → Prop} {k : Nat} (h : p k) (hr : ∀ i, i < k → p i) : ∀ i, i < k + 1 → p i := by
 intro i hi
 rcases Nat.lt_or_eq_of_le (Nat.lt_succ_iff.1 hi) with hi | rfl
 ·exact hr i hi
 ·exact h
section
variable {P : Program}
theorem A5 {l : List (Nat × Ty)} {fs : List (Nat × Ta)} {m : List (Nat × Nat)} {z : Bool} {ar : List (Nat × Ty × Nat)} {mv ml : List Nat}
 (h : ((l.all fun x => Od P x.2 x.1) && (ar.all fun x => ZI P x.1 x.2.1 x.2.2)) = true) : EnvTy P ⟨l, fs, m, z, ar, mv, ml⟩ := by
 simp only [jd] at h
 exact ⟨fun t τ ht => List.all_eq_true.1 h.1 (t, τ) (Zq ht), fun t e n ht => List.all_eq_true.1 h.2 (t, e, n) (Zq ht)⟩
theorem EO {I : Cg} {l : List (Nat × Ty)} {m : List (Nat × Nat)} {z : Bool} {ar : List (Nat × Ty × Nat)} {mv ml : List Nat}
 (h : ((l.all fun x => Od P x.2 x.1) && (ar.all fun x => ZI P x.1 x.2.1 x.2.2)) = true) : Hi P I ⟨l, [], m, z, ar, mv, ml⟩ :=
 { toEnvTy := A5 h, fn := fun f sem h => by simp [Gb] at h }
theorem Hi.cons {I : Cg} {l : List (Nat × Ty)} {fs : List (Nat × Ta)} {m : List (Nat × Nat)} {z : Bool} {ar : List (Nat × Ty × Nat)} {mv ml : List Nat} {f : Nat} {sem : Ta} (hs : Ah P I f sem)
 (h : Hi P I ⟨l, fs, m, z, ar, mv, ml⟩) : Hi P I ⟨l, (f, sem) :: fs, m, z, ar, mv, ml⟩ :=
 { toEnvTy := ⟨h.ty, h.ar⟩, fn := fun g s hg => by
    simp only [Mc] at hg
    split at hg
    ·rename_i e
     simp only [jc] at hg
     subst e; subst hg
     exact hs
    ·exact h.fn g s hg }
theorem OA {fn : Func} (h : fn.body.isSome = true) : fn.body = some (fn.body.getD .skip) := by
 cases hb : fn.body with
 | none => rw [hb] at h; simp at h
 | some c => rfl
variable {I : Cg} {G : Ie} {L : List (Nat × Wa)}
theorem EG (hG : Hi P I G) (hm : P.follows .mixedOrders = true) {f : FuncId} {fn : Func} {k : Nat} {pt rt : Ty} {fr : List Bool} {F : T pt → Option (T rt)} (hf : P.funcs[f]? = some fn)
 (hb : (fn.body.isSome && !(fn.name == "runtime.NumGoroutine") && jx pt.npar fn.ntmps && Nat.beq (Kd (fn.body.getD .skip)).length k) = true)
 (hL : ∀ i, i < k → Mb G L (lp fn i)) (hF : ∀ x, L0 G L fn pt rt fr x = F x) : Ah P I f (.pu pt rt fr F) := by
 simp only [jd, Bool.not_eq_true'] at hb
 exact F7 hG hm hf (OA hb.1.1.1) hb.1.1.2 (CB hb.2 hL) (Nat.le_of_ble_eq_true hb.1.2) fun x r h => (hF x).trans h
theorem E3 (hG : Hi P I G) (hfz : G.fz = false) (hm : P.follows .mixedOrders = true) {f : FuncId} {fn : Func} {k : Nat} {pt rt : Ty} {fr : List Bool} {F : T pt → Option (T rt)} (hf : P.funcs[f]? = some fn)
 (hb : (fn.body.isSome && !(fn.name == "runtime.NumGoroutine") && jx pt.npar fn.ntmps && Nat.beq (Kd (fn.body.getD .skip)).length k) = true)
 (hL : ∀ i, i < k → Mb G L (lp fn i)) (hF : ∀ x, HQ G L fn pt rt fr x = F x) : Ah P I f (.co pt rt fr F) := by
 simp only [jd, Bool.not_eq_true'] at hb
 exact D7 hG hfz hm hf (OA hb.1.1.1) hb.1.1.2 (CB hb.2 hL) (Nat.le_of_ble_eq_true hb.1.2) fun x r h => (hF x).trans h
theorem C3 (hG : Hi P I G) (hfz : G.fz = false) (hm : P.follows .mixedOrders = true) {f : FuncId} {fn : Func} {k : Nat} {vw cv : Bool} {τ pt rt : Ty} {fr : List Bool} {F : T τ → T pt → Option (T τ × T rt)} (hf : P.funcs[f]? = some fn)
 (hb : (fn.body.isSome && !(fn.name == "runtime.NumGoroutine") && jx (pt.npar + 1) fn.ntmps && Nat.beq (Kd (fn.body.getD .skip)).length k) = true)
 (hL : ∀ i, i < k → Mb G L (lp fn i)) (hF : ∀ x0 x, GQ G L fn vw cv τ pt rt fr x0 x = F x0 x) : Ah P I f (.bx vw cv τ pt rt fr F) := by
 simp only [jd, Bool.not_eq_true'] at hb
 exact C7 hG hfz hm hf (OA hb.1.1.1) hb.1.1.2 (CB hb.2 hL) (Nat.le_of_ble_eq_true hb.1.2) fun x0 x r h => (hF x0 x).trans h
theorem G3 (hG : Hi P I G) (hm : P.follows .mixedOrders = true) {f : FuncId} {fn : Func} {k : Nat} {pt τ : Ty} {F : T pt → Option (T τ)} (hf : P.funcs[f]? = some fn)
 (hb : (fn.body.isSome && !(fn.name == "runtime.NumGoroutine") && jx pt.npar fn.ntmps && Nat.beq (Kd (fn.body.getD .skip)).length k) = true)
 (hL : ∀ i, i < k → Mb G L (lp fn i)) (hF : ∀ x, IQ G L fn pt τ x = F x) : Ah P I f (.nw pt τ F) := by
 simp only [jd, Bool.not_eq_true'] at hb
 exact E7 hG hm hf (OA hb.1.1.1) hb.1.1.2 (CB hb.2 hL) (Nat.le_of_ble_eq_true hb.1.2) fun x r h => (hF x).trans h
end
abbrev Ye : Ty := .p (.i .i64) (.p (.sl (.i .i64)) .u)
abbrev Jd : Ty := .p (.i .i64) (.p .o .u)
def hd (h : T .o) : Value := .slice h.1 h.2.1 h.2.2
section
variable {P : Program} {w w' : World}
theorem U2 {x : T Ye} {cs : List Value} {F : List Nat} (h : Rb w Ye x cs F) : ∃ h : T .o, cs = [.int .i64 x.1, hd h] ∧ Rb w (.sl (.i .i64)) x.2.1 [hd h] F := by
 obtain ⟨c1, c2, F1, F2, rfl, rfl, ⟨rfl, rfl⟩, c3, c4, F3, F4, rfl, rfl, h3, rfl, rfl⟩ := h
 have h3' := h3
 obtain ⟨_, ⟨e1, _, _⟩ | ⟨bl, off, cap, cur, et, Fs, e1, _⟩⟩ := h3
 ·subst e1
  exact ⟨(none, 0, 0), rfl, by simpa [hd] using h3'⟩
 ·subst e1
  exact ⟨(some ⟨bl, off, none⟩, ja x.2.1, cap), rfl, by simpa [hd] using h3'⟩
theorem Bae {x : T Ye} {h : T .o} {F : List Nat} (ho : Rb w (.sl (.i .i64)) x.2.1 [hd h] F) : Rb w Ye x [.int .i64 x.1, hd h] F :=
 ⟨[.int .i64 x.1], [hd h], [], F, rfl, rfl, ⟨rfl, rfl⟩, [hd h], [], F, [], by simp, by simp, ho, rfl, rfl⟩
theorem YV (x : T Jd) (O : Nat → Prop) : Oa w O Jd x [.int .i64 x.1, hd x.2.1] :=
 ⟨[.int .i64 x.1], [hd x.2.1], rfl, rfl, [hd x.2.1], [], by simp, rfl, rfl⟩
theorem AN {x : T Jd} {O : Nat → Prop} {cs : List Value} (h : Oa w O Jd x cs) : cs = [.int .i64 x.1, hd x.2.1] := by
 obtain ⟨c1, c2, rfl, rfl, c3, c4, rfl, rfl, rfl⟩ := h
 rfl
abbrev TK := T Ye × T Jd × List Nat
def ZW (w : World) (p : TK) : Prop := p.2.1.1 = p.1.1 ∧ Rb w (.sl (.i .i64)) p.1.2.1 [hd p.2.1.2.1] p.2.2
theorem V6 {l : List (T Ye)} {cs : List Value} {F : List Nat} (h : Rb w (.sl Ye) l cs F) :
 ∃ Q : List TK, Q.map (·.1) = l ∧ Oa w (fun _ => False) (.sl Jd) (Q.map (·.2.1)) cs ∧ (∀ p ∈ Q, ZW w p) ∧ (Q.map (·.2.2)).flatten.Sublist F := by
 obtain ⟨hm, ⟨rfl, rfl, rfl⟩ | ⟨bl, off, cap, cur, et, Fs, rfl, hh, h1, h2, h3, rfl, hl, hv⟩⟩ := h
 ·exact ⟨[], rfl, ⟨none, 0, rfl, jo _, hm, .inl rfl⟩, by simp, by simp⟩
 ·have key : ∀ i : Fin (ja l), ∃ h : T .o, Vc cur (off + i.val * Ye.size) Ye.size = [.int .i64 (List.get l i).1, hd h] ∧ Rb w (.sl (.i .i64)) (List.get l i).2.1 [hd h] (Fs.getD i.val []) :=
   fun i => U2 (hv i.val i.isLt)
  have ⟨g, hg⟩ := Classical.axiomOfChoice key
  let Q : List TK := List.ofFn fun i : Fin (ja l) => (List.get l i, ((List.get l i).1, g i, ()), Fs.getD i.val [])
  have hQ : ∀ i (hi : i < ja l), Q[i]'(by simp [Q]; exact hi) = (List.get l ⟨i, hi⟩, ((List.get l ⟨i, hi⟩).1, g ⟨i, hi⟩, ()), Fs.getD i []) := fun i hi => by simp [Q]
  have hQl : Q.length = ja l := by simp [Q]
  refine ⟨Q, ?_, ?_, ?_, ?_⟩
  ·apply List.ext_getElem
   ·simp [hQl]
   ·intro i h1 h2
    rw [List.getElem_map, hQ i h2]; rfl
  ·have hlen : ja (Q.map (·.2.1)) = ja l := by simp [hQl]
   refine ⟨_, cap, by rw [hlen], by rw [hlen]; exact h1, by rw [hlen]; exact hm, .inr ⟨bl, off, cur, et, _, rfl, fun h => h, hh, ?_, fun i hi => ?_⟩⟩
   ·rw [hlen]
    have := jm Ye.size h1
    exact j9 (Nat.add_le_add_left this _) h3
   ·have hi' : i < ja l := by rw [← hlen]; exact hi
    have e : List.get (Q.map (·.2.1)) ⟨i, hi⟩ = ((List.get l ⟨i, hi'⟩).1, g ⟨i, hi'⟩, ()) := by
     show (Q.map (·.2.1))[i] = _
     rw [List.getElem_map, hQ i hi']
    rw [e]
    have := (hg ⟨i, hi'⟩).1
    show Oa w _ Jd _ (Vc cur (off + i * Ye.size) Ye.size)
    rw [this]
    exact YV (((List.get l ⟨i, hi'⟩).1, g ⟨i, hi'⟩, ()) : T Jd) _
  ·intro p hp
   obtain ⟨i, hi, rfl⟩ := qp hp
   have hi' : i < ja l := by rw [← hQl]; exact hi
   rw [hQ i hi']
   exact ⟨rfl, (hg ⟨i, hi'⟩).2⟩
  ·have e : Q.map (·.2.2) = Fs := by
    apply List.ext_getElem
    ·simp [hQl, hl]
    ·intro i h1 h2
     have hi' : i < ja l := by rw [← hl]; exact h2
     rw [List.getElem_map, hQ i hi']
     simp [List.getD, je h2]
   rw [e]
   exact List.sublist_cons_self _ _
theorem G7 {Q : List TK} {cs : List Value} {F : List Nat} (h : Rb w (.sl Jd) (Q.map (·.2.1)) cs F) (hQ : ∀ p ∈ Q, ZW w p) :
 ∃ F', Rb w (.sl Ye) (Q.map (·.1)) cs F' ∧ (∀ b, b ∈ F' → b ∈ F ∨ b ∈ (Q.map (·.2.2)).flatten) ∧ ((∀ b, b ∈ F → b ∉ (Q.map (·.2.2)).flatten) → F.Nodup → (Q.map (·.2.2)).flatten.Nodup → F'.Nodup) := by
 obtain ⟨hm, ⟨rfl, hn, rfl⟩ | ⟨bl, off, cap, cur, et, Fs, rfl, hh, h1, h2, h3, rfl, hl, hv⟩⟩ := h
 ·have : Q = [] := List.map_eq_nil_iff.1 hn
  subst this
  exact ⟨[], ⟨hm, .inl ⟨rfl, rfl, rfl⟩⟩, by simp, by simp⟩
 ·have hlen : ja (Q.map (·.2.1)) = Q.length := by simp
  have hlen1 : ja (Q.map (·.1)) = Q.length := by simp
  rw [hlen] at hm h1 hl
  refine ⟨bl :: (Q.map (·.2.2)).flatten, ⟨by rw [hlen1]; exact hm, .inr ⟨bl, off, cap, cur, et, Q.map (·.2.2), by rw [hlen1]; simp, hh, by rw [hlen1]; exact h1, h2, h3, rfl, by simp, fun i hi => ?_⟩⟩, ?_, ?_⟩
  ·have hi' : i < Q.length := by rw [← hlen1]; exact hi
   have hv' := hv i (by rw [hlen]; exact hi')
   have e0 : List.get (Q.map (·.2.1)) ⟨i, by rw [hlen]; exact hi'⟩ = Q[i].2.1 := by
    show (Q.map (·.2.1))[i]'_ = _
    rw [List.getElem_map]
   have e1 : List.get (Q.map (·.1)) ⟨i, hi⟩ = Q[i].1 := by
    show (Q.map (·.1))[i]'_ = _
    rw [List.getElem_map]
   rw [e0] at hv'
   rw [e1]
   have hF0 : ∀ b, b ∈ Fs.getD i [] → False := by
    intro b hb
    obtain ⟨c1, c2, F1, F2, _, hF, ⟨_, rfl⟩, c3, c4, F3, F4, _, rfl, ⟨_, rfl⟩, _, rfl⟩ := hv'
    rw [hF] at hb; simp at hb
   have hcs := AN (Rb.view (O := fun _ => False) hv' (fun b hb h => h))
   have hok := hQ Q[i] (qn hi')
   have e2 : (Q.map (·.2.2)).getD i [] = Q[i].2.2 := by
    simp [List.getD, je hi']
   rw [e2]
   show Rb w Ye _ (Vc cur (off + i * Jd.size) Jd.size) _
   rw [hcs, hok.1]
   exact Bae hok.2
  ·intro b hb
   rcases jp.1 hb with rfl | hb
   ·exact .inl (by simp)
   ·exact .inr hb
  ·intro hdj _ hnd
   exact List.nodup_cons.2 ⟨hdj bl (by simp), hnd⟩
end
def Kj (same : T Ye → T Ye → Bool) : T Ye → List (T Ye) → List (T Ye)
 | _, [] => []
 | a, x :: r => cond (same a x) (Kj same x r) (x :: Kj same x r)
def Rz (same : T Ye → T Ye → Bool) : T Ye → List TK → List TK
 | _, [] => []
 | a, x :: r => cond (same a x.1) (Rz same x.1 r) (x :: Rz same x.1 r)
def ED (c : T Jd → T Jd → Option Bool) : T Jd → List (T Jd) → Option (List (T Jd))
 | _, [] => some []
 | a, x :: r => jz (c a x) fun b => jz (ED c x r) fun q => some (cond b q (x :: q))
theorem CJ (same : T Ye → T Ye → Bool) : ∀ (Q : List TK) (a : T Ye), (Rz same a Q).map (·.1) = Kj same a (Q.map (·.1))
 | [], _ => rfl
 | x :: r, a => by
  simp only [Rz, Kj, List.map_cons]
  cases same a x.1 with
  | true => simp only [cond_true]; exact CJ same r x.1
  | false => simp only [cond_false, List.map_cons]; rw [CJ same r x.1]
theorem DJ (same : T Ye → T Ye → Bool) : ∀ (Q : List TK) (a : T Ye), (Rz same a Q).Sublist Q
 | [], _ => .slnil
 | x :: r, a => by
  simp only [Rz]
  cases same a x.1 with
  | true => exact (DJ same r x.1).cons x
  | false => exact (DJ same r x.1).cons_cons x
theorem ST {same : T Ye → T Ye → Bool} {c : T Jd → T Jd → Option Bool} {R : T Ye → T Jd → Prop} (hc : ∀ a ao b bo, R a ao → R b bo → c ao bo = some (same a b)) :
 ∀ (Q : List TK) (a : T Ye) (ao : T Jd), R a ao → (∀ p ∈ Q, R p.1 p.2.1) → ED c ao (Q.map (·.2.1)) = some ((Rz same a Q).map (·.2.1))
 | [], _, _, _, _ => rfl
 | x :: r, a, ao, h, hq => by
  have hx := hq x (by simp)
  simp only [List.map_cons, ED, Rz, hc _ _ _ _ h hx, jb]
  rw [ST hc r x.1 x.2.1 hx (fun p hp => hq p (by simp [hp]))]
  simp only [jb]
  cases same a x.1 <;> rfl
theorem KT {α : Type} {a b : List (List α)} (h : a.Sublist b) : a.flatten.Sublist b.flatten := by
 induction h with
 | slnil => simp
 | cons x _ ih => rw [List.flatten_cons]; exact ih.trans (List.sublist_append_right _ _)
 | cons_cons x _ ih => rw [List.flatten_cons, List.flatten_cons]; exact (List.Sublist.refl x).append ih
def IA (x : T Ye) : Bool := jx (ja x.2.1) Jb
noncomputable def MX (same : T Ye → T Ye → Bool) (a : T Ye) (l : List (T Ye)) : Option (List (T Ye) × Unit) :=
 bif jx (ja l) Jb && (IA a && l.all IA) then some (Kj same a l, ()) else none
theorem Z9 {w : World} {O O' : Nat → Prop} {xs ys : List Int} {v : Value} (h1 : Oa w O (.sl (.i .i64)) xs [v]) (h2 : Oa w O' (.sl (.i .i64)) ys [v]) : xs = ys := by
 obtain ⟨a, cap, e1, _, _, h1⟩ := h1
 obtain ⟨a', cap', e2, _, _, h2⟩ := h2
 rw [e1] at e2
 simp only [List.cons.injEq, Value.slice.injEq, and_true] at e2
 obtain ⟨rfl, hlen, rfl⟩ := e2
 have hlen' : xs.length = ys.length := hlen
 rcases h1 with h1 | ⟨bl, off, cur, et, fr, ha, _, hh, hs, hv⟩
 ·have h1' : xs = [] := h1
  subst h1'
  exact (List.eq_nil_of_length_eq_zero (by simpa using hlen'.symm)).symm
 ·rcases h2 with h2 | ⟨bl', off', cur', et', fr', ha', _, hh', hs', hv'⟩
  ·have h2' : ys = [] := h2
   subst h2'
   exact List.eq_nil_of_length_eq_zero (by simpa using hlen')
  ·rw [ha] at ha'
   simp only [jc, Addr.mk.injEq, and_true] at ha'
   obtain ⟨rfl, rfl⟩ := ha'
   rw [hh] at hh'
   simp only [jc] at hh'
   injection hh' with e3 _ _
   subst e3
   apply List.ext_getElem hlen'
   intro i h1 h2
   have p1 := hv i h1
   have p2 := hv' i h2
   have p1' : Vc cur (off + i * 1) 1 = [Value.int .i64 xs[i]] := p1
   have p2' : Vc cur (off + i * 1) 1 = [Value.int .i64 ys[i]] := p2
   rw [p1'] at p2'
   simpa using p2'
open Classical in
noncomputable def ZE (w : World) (h : T .o) : Option (List Int) :=
 if hx : ∃ xs : List Int, Oa w (fun _ => False) (.sl (.i .i64)) xs [hd h] ∧ ja xs ≤ Jb then some hx.choose else none
theorem YN {w : World} {h : T .o} {xs : List Int} (hc : ZE w h = some xs) : Oa w (fun _ => False) (.sl (.i .i64)) xs [hd h] ∧ ja xs ≤ Jb := by
 unfold ZE at hc
 split at hc
 ·rename_i hx
  simp only [jc] at hc
  rw [← hc]; exact hx.choose_spec
 ·simp at hc
theorem UT {w : World} {h : T .o} {xs : List Int} (hv : Oa w (fun _ => False) (.sl (.i .i64)) xs [hd h]) (hl : ja xs ≤ Jb) : ZE w h = some xs := by
 unfold ZE
 have hx : ∃ xs : List Int, Oa w (fun _ => False) (.sl (.i .i64)) xs [hd h] ∧ ja xs ≤ Jb := ⟨xs, hv, hl⟩
 rw [dif_pos hx]
 rw [Z9 hx.choose_spec.1 hv]
noncomputable def WQ (w : World) (same : T Ye → T Ye → Bool) (a b : T Jd) : Option Bool :=
 jz (ZE w a.2.1) fun u => jz (ZE w b.2.1) fun v => some (same (a.1, u, ()) (b.1, v, ()))
@[reducible] noncomputable def NN (c : T Jd → T Jd → Option Bool) : Ta := .pu (.p Jd (.p Jd .u)) (.p .b .u) [true] (fun x => jz (c x.1 x.2.1) fun b => some (b, ()))
theorem HZ {w w2 : World} (h : ∀ b, b < w.heap.size → w2.heap[b]? = w.heap[b]?) {τ : Ty} {x : T τ} {cs : List Value} {O : Nat → Prop} (hv : Oa w O τ x cs) : Oa w2 O τ x cs :=
 Oa.stable (fun b _ hb => h b hb) (fun _ _ h => h) hv
theorem D3 {P : Program} {I0 : Cg} {f f2 : FuncId} {SR : T (.p Ye (.p Ye .u)) → Option (T (.p .b .u))} {same : T Ye → T Ye → Bool}
 (hSR : ∀ a b : T Ye, ja a.2.1 ≤ Jb → ja b.2.1 ≤ Jb → SR (a, b, ()) = some (same a b, ()))
 (h2 : Ah P I0 f2 (.pu (.p Ye (.p Ye .u)) (.p .b .u) [true] SR))
 (h : ∀ (I : Cg) (c : T Jd → T Jd → Option Bool), Ah P I f2 (NN c) → ∃ FO, Ah P I f (.pu (.p Jd (.p (.sl Jd) .u)) (.p (.sl Jd) .u) [true] FO) ∧
  ∀ (a : T Jd) (l r : List (T Jd)), ja l ≤ Jb → ED c a l = some r → FO (a, l, ()) = some (r, ())) :
 Ah P I0 f (.co (.p Ye (.p (.sl Ye) .u)) (.p (.sl Ye) .u) [true] (fun x => MX same x.1 x.2.1)) := by
 have hE : Aw P f := by
  have hS0 : Ah P I0 f2 (NN fun _ _ => none) := ⟨h2.1, fun O w x r args hF => by simp at hF⟩
  obtain ⟨FO, hs, _⟩ := h I0 _ hS0
  exact hs.1
 refine ⟨hE, ?_⟩
 intro O w x r F0 args hF hA hnd hO hI hbase hF0
 obtain ⟨a, l, u⟩ := x
 match args, hA with
 | [a1, a2], hA =>
 obtain ⟨cs1, F1, F2', rfl, rfl, ho1, cs2, F2, F3, rfl, rfl, ho2, hF3⟩ := hA
 have hF3' : F3 = [] := hF3
 subst hF3'
 rw [List.append_nil] at *
 simp only [MX] at hF
 cases hsm : (jx (ja l) Jb && (IA a && l.all IA)) with
 | false => rw [hsm] at hF; simp at hF
 | true =>
 rw [hsm] at hF
 simp only [cond_true, jc] at hF
 subst hF
 simp only [jd, List.all_eq_true, IA] at hsm
 have hl1 : ja l ≤ Jb := Nat.le_of_ble_eq_true hsm.1
 have hl2 : ja a.2.1 ≤ Jb := Nat.le_of_ble_eq_true hsm.2.1
 have hl3 : ∀ x ∈ l, ja x.2.1 ≤ Jb := fun x hx => Nat.le_of_ble_eq_true (hsm.2.2 x hx)
 obtain ⟨ah, rfl, hoa⟩ := U2 ho1
 obtain ⟨Q, rfl, hvQ, hokQ, hsub⟩ := V6 ho2
 let I : Cg := ⟨w.heap.size, fun w2 => w.heap.size ≤ w2.heap.size ∧ ∀ b, b < w.heap.size → w2.heap[b]? = w.heap[b]?, fun w1 w2 hb h1 => by
  refine ⟨?_, fun b hlt => (hb b hlt).trans (h1.2 b hlt)⟩
  rcases Nat.eq_zero_or_pos w.heap.size with h0 | h0
  ·omega
  ·have e := (hb (w.heap.size - 1) (by omega)).trans (h1.2 (w.heap.size - 1) (by omega))
   rw [Array.getElem?_eq_getElem (show w.heap.size - 1 < w.heap.size by omega)] at e
   have := (Array.getElem?_eq_some_iff.1 e).1
   omega⟩
 have hS : Ah P I f2 (NN (WQ w same)) := by
  refine ⟨h2.1, ?_⟩
  intro O2 w2 x2 r2 args2 hF2 hA2 hO2 hI2 hb2
  obtain ⟨p, q, u2⟩ := x2
  match args2, hA2 with
  | [b1, b2], hA2 =>
  obtain ⟨⟨c1, rfl, hv1⟩, ⟨c2, rfl, hv2⟩, _⟩ := hA2
  simp only [WQ] at hF2
  cases hu : ZE w p.2.1 with
  | none => rw [hu] at hF2; simp at hF2
  | some xu =>
   cases hv : ZE w q.2.1 with
   | none => rw [hu, hv] at hF2; simp at hF2
   | some xv =>
    rw [hu, hv] at hF2
    simp only [jb, jc] at hF2
    subst hF2
    obtain ⟨hxu, lxu⟩ := YN hu
    obtain ⟨hxv, lxv⟩ := YN hv
    have e1 := AN hv1
    have e2 := AN hv2
    subst e1; subst e2
    have mk : ∀ (p : T Jd) (xs : List Int), Oa w (fun _ => False) (.sl (.i .i64)) xs [hd p.2.1] → Oa w2 (fun _ => False) Ye (p.1, xs, ()) [.int .i64 p.1, hd p.2.1] := fun p xs hx =>
     ⟨[.int .i64 p.1], [hd p.2.1], rfl, rfl, [hd p.2.1], [], by simp, HZ hI2.2 hx, rfl⟩
    have hc := h2.2 (fun _ => False) w2 ((p.1, xu, ()), (q.1, xv, ()), ()) (same (p.1, xu, ()) (q.1, xv, ()), ()) [Cd Jd [.int .i64 p.1, hd p.2.1], Cd Jd [.int .i64 q.1, hd q.2.1]]
     (hSR _ _ lxu lxv) ⟨⟨_, rfl, mk p xu hxu⟩, ⟨_, rfl, mk q xv hxv⟩, trivial⟩ (fun b h => h.elim) (I0.st _ _ (fun b hb => hI2.2 b (qi hb hbase)) hI) (j9 hbase hI2.1)
    refine hc.mono ?_
    intro e w3 hR
    cases e with
    | returned v =>
     obtain ⟨vs, Fr, hvs, hK, hR, hn, hfr⟩ := hR
     exact ⟨vs, Fr, hvs, hK, hR.all rfl, hn, hfr⟩
    | panicked _ => exact hR
    | outgrown => exact hR
 obtain ⟨FO, hs, hFO⟩ := h I (WQ w same) hS
 have hrel : ∀ a ao b bo, (fun (x : T Ye) (y : T Jd) => y.1 = x.1 ∧ Oa w (fun _ => False) (.sl (.i .i64)) x.2.1 [hd y.2.1] ∧ ja x.2.1 ≤ Jb) a ao →
  (fun (x : T Ye) (y : T Jd) => y.1 = x.1 ∧ Oa w (fun _ => False) (.sl (.i .i64)) x.2.1 [hd y.2.1] ∧ ja x.2.1 ≤ Jb) b bo → WQ w same ao bo = some (same a b) := by
  rintro a ao b bo ⟨e1, v1, l1⟩ ⟨e2, v2, l2⟩
  simp only [WQ, UT v1 l1, UT v2 l2, jb, e1, e2]
 have hch := ST (R := fun (x : T Ye) (y : T Jd) => y.1 = x.1 ∧ Oa w (fun _ => False) (.sl (.i .i64)) x.2.1 [hd y.2.1] ∧ ja x.2.1 ≤ Jb) hrel Q a (a.1, ah, ())
  ⟨rfl, Rb.view hoa fun b _ h => h, hl2⟩ (fun p hp => ⟨(hokQ p hp).1, Rb.view (hokQ p hp).2 fun b _ h => h, hl3 p.1 (List.mem_map_of_mem hp)⟩)
 have hFO' := hFO (a.1, ah, ()) (Q.map (·.2.1)) _ (by simpa using hl1) hch
 have hc := hs.2 (fun _ => False) w ((a.1, ah, ()), Q.map (·.2.1), ()) ((Rz same a Q).map (·.2.1), ()) [Cd Jd [.int .i64 a.1, hd ah], Cd (.sl Jd) cs2] hFO'
  ⟨⟨_, rfl, YV ((a.1, ah, ()) : T Jd) _⟩, ⟨_, rfl, hvQ⟩, trivial⟩ (fun b h => h.elim) ⟨jo _, fun _ _ => rfl⟩ (jo _)
 refine hc.mono ?_
 intro e w3 hR
 cases e with
 | panicked _ => exact hR
 | outgrown => exact hR
 | returned v =>
  obtain ⟨vs, Fr, hvs, hK, hR, hn, hfr⟩ := hR
  match vs, hR with
  | [v1], hR =>
  obtain ⟨cs, G1, G2, rfl, rfl, hown, hG2⟩ := hR
  have hG2' : G2 = [] := hG2
  subst hG2'
  rw [List.append_nil] at *
  simp only [if_true] at hown
  have hlt : ∀ b, b ∈ F2 → b < w.heap.size := fun b hb => ho2.lt b hb
  have hsubQ := DJ same Q a
  have hok3 : ∀ p ∈ Rz same a Q, ZW w3 p := fun p hp => by
   have h0 := hokQ p (hsubQ.mem hp)
   exact ⟨h0.1, Rb.stable h0.2 fun b hb => hK.block b (h0.2.lt b hb) (fun h => h)⟩
  obtain ⟨F', ho', hm', hnd'⟩ := G7 hown hok3
  have hsub2 : ((Rz same a Q).map (·.2.2)).flatten.Sublist F2 := by
   refine List.Sublist.trans ?_ hsub
   exact KT (hsubQ.map _)
  have hndF2 : F2.Nodup := (List.nodup_append.1 hnd).2.1
  have hnF' : F'.Nodup := hnd' (fun b hb hb2 => by
   have h3 := hfr b hb
   have h4 := hlt b (hsub2.mem hb2)
   omega) hn (hsub2.nodup hndF2)
  refine ⟨[Cd (.sl Jd) cs], F', hvs, ⟨hK.size, fun b hb _ => hK.block b hb (fun h => h), hK.os, hK.tape, hK.output⟩, ⟨cs, F', [], rfl, by simp, ?_, rfl⟩, hnF', ?_⟩
  ·simp only [if_true]
   rw [← CJ]
   exact ho'
  ·intro b hb
   rcases hm' b hb with hb | hb
   ·exact .inl (hfr b hb)
   ·exact .inr (List.mem_append_right _ (hsub2.mem hb))
noncomputable def G9 (xs : List Int) : Option (List Int × Unit) := bif jx (ja xs) Jb then some (List.mergeSort xs (fun x y => decide (x ≤ y)), ()) else none
def B3 (n : Nat) : Bool := jx n 1048576
noncomputable def OS (x y : List UInt8) : Option (List (List UInt8) × Unit) :=
 bif B3 (ja x) && jx 1 (ja y) then some (Lib.split x y, ()) else none
theorem Rab {cur : Array Value} {k : Nat} {v : Value} (h : Vc cur k 1 = [v]) : cur[k]? = some v := by
 have := congrArg (·[0]?) h
 simp only [Ae cur k 1 0 (by omega)] at this
 simpa using this
theorem IV {cur : Array Value} {k : Nat} {v : Value} (h : cur[k]? = some v) : Vc cur k 1 = [v] := by
 apply List.ext_getElem?
 intro j
 by_cases hj : j = 0
 ·subst hj; rw [Ae cur k 1 0 (by omega)]; simpa using h
 ·have hk : k < cur.size := (Array.getElem?_eq_some_iff.1 h).1
  have hl : (Vc cur k 1).length = 1 := Yc (by omega)
  rw [List.getElem?_eq_none (by omega), List.getElem?_eq_none (by simp; omega)]
theorem YY {P : Program} {ρ : Go.Shelf.Ren} {f : FuncId} {I : Cg} (L : Go.Proofs.Lays.n191 P ρ) (hf : ρ.f 191 = f) : Ah P I f (.io (.sl (.i .i64)) .u .u [] (fun x0 _ => G9 x0)) := by
 subst hf
 refine ⟨⟨_, L.f191, rfl, rfl⟩, ?_⟩
 intro O w x0 x r cs0 F0 args hF ho hnd hA hO _ _ _
 match args, hA with
 | [], _ =>
 simp only [G9] at hF
 cases hl : jx (ja x0) Jb with
 | false => rw [hl] at hF; simp at hF
 | true =>
 rw [hl] at hF
 simp only [cond_true, jc] at hF
 subst hF
 have hlim : Jb = 1073741824 := rfl
 have hx : ja x0 ≤ Jb := Nat.le_of_ble_eq_true hl
 have ho0 := ho
 obtain ⟨hm, ⟨rfl, hn, rfl⟩ | ⟨bl, off, cap, cur, et, Fs, rfl, hh, h1, h2, h3, rfl, hlen, hv⟩⟩ := ho
 ·have hn' : x0 = [] := hn
  subst hn'
  refine (Go.Proofs.Any.sort_Ints_none L none 0 w).mono ?_
  rintro e w' ⟨rfl, rfl⟩
  refine ⟨[], [], [], rfl, ⟨jo _, fun _ _ _ => rfl, rfl, rfl, rfl⟩, ?_, by simp, rfl, List.nodup_nil, by simp⟩
  show Rb w' (.sl (.i .i64)) (List.mergeSort ([] : List Int) _) _ _
  simpa using ho0
 ·have hcell : ∀ i (hi : i < x0.length), cur[off + i]? = some (.int .i64 x0[i]) := by
   intro i hi
   have := (hv i hi).1
   have e : Vc cur (off + i * 1) 1 = [Value.int .i64 x0[i]] := this
   rw [Nat.mul_one] at e
   exact Rab e
  have hFs : ∀ b, b ∈ Fs.flatten → False := by
   intro b hb
   obtain ⟨l, hl, hb⟩ := List.mem_flatten.1 hb
   obtain ⟨i, hi, rfl⟩ := qp hl
   have := (hv i (by rw [← hlen]; exact hi)).2
   rw [qg, je hi] at this
   simp only [Option.getD_some] at this
   rw [this] at hb; simp at hb
  have hH : Go.Sort.Holds (Value.int .i64) w bl off x0.toArray := by
   intro j hj
   have hj' : j < x0.length := by simpa using hj
   refine ⟨?_, ?_⟩
   ·unfold World.cell?
    simp only [hh]
    rw [hcell j hj']
    simp [getElem!_pos, hj']
   ·unfold World.frozen?
    simp [hh]
  have hbl : bl < w.heap.size := (Array.getElem?_eq_some_iff.1 hh).1
  refine (Go.Proofs.Any.sort_Ints L bl off cap x0 w hH hbl (by omega)).mono ?_
  rintro e w' ⟨rfl, n, os, rfl⟩
  generalize hzs : (x0.mergeSort fun x y => decide (x ≤ y)) = zs
  have hzl : zs.length = x0.length := by rw [← hzs]; exact List.length_mergeSort _
  have hheap : ∀ b, b < w.heap.size → (Go.Sort.grow (Go.Sort.putRow (Value.int .i64) (Go.Sort.ahead w n) bl off zs.toArray) os).heap[b]? = if bl = b then (w.heap[b]?).map (Go.Sort.onCells (Go.Sort.putCells (Value.int .i64) off zs.toArray)) else w.heap[b]? := by
   intro b hb
   simp only [Go.Sort.grow, Go.Sort.putRow, Go.Sort.mapBlock, Go.Sort.ahead]
   rw [Array.getElem?_append_left (by simpa using hb), Array.getElem?_modify]
  refine ⟨[], bl :: Fs.flatten, [], rfl, ⟨?_, ?_, rfl, rfl, rfl⟩, ?_, fun b hb => .inr hb, rfl, by simpa using hnd, by simp⟩
  ·simp only [Go.Sort.grow, Array.size_append, Go.Sort.size_putRow, Go.Sort.ahead]
   omega
  ·intro b hb hno
   have hne : bl ≠ b := fun e => hno (by rw [e]; simp)
   rw [hheap b hb, if_neg hne]
  ·have hcs : ([.slice (some ⟨bl, off, none⟩) (ja x0) cap] : List Value) = [.slice (some ⟨bl, off, none⟩) (ja (zs : List Int)) cap] := by rw [hzl]
   show Rb _ (.sl (.i .i64)) (zs : List Int) _ _
   rw [hcs]
   refine ⟨by show zs.length ≤ Gi; rw [hzl]; exact hm, .inr ⟨bl, off, cap, _, et, Fs, rfl, (hheap bl hbl).trans (by rw [if_pos rfl, hh]; rfl), by show zs.length ≤ cap; rw [hzl]; exact h1, h2, by simpa [Go.Sort.putCells] using h3, rfl, by show Fs.length = zs.length; rw [hzl]; exact hlen, fun i hi => ?_⟩⟩
   have hi' : i < zs.length := hi
   have hi2 : i < x0.length := by omega
   refine ⟨?_, ?_⟩
   ·show Vc _ (off + i * 1) 1 = [Value.int .i64 zs[i]]
    rw [Nat.mul_one]
    apply IV
    simp only [Go.Sort.putCells, Array.getElem?_mapIdx, hcell i hi2, qa]
    rw [if_pos ⟨by omega, by simp; omega⟩, show off + i - off = i by omega]
    simp [getElem!_pos, hi']
   ·exact (hv i hi2).2
theorem XC (w : World) (o : Obj) : (w.alloc o).heap = w.heap.push o := rfl
theorem IT {P : Program} {ρ : Go.Shelf.Ren} {f : FuncId} {I : Cg} (L : Go.Proofs.LaysM.n146 P ρ) (hf : ρ.f 146 = f)
 (hI : ∀ w, I.p w → ∃ m, w.cell? ⟨ρ.g 1, 0, none⟩ = some (.int .i64 m)) : Ah P I f (.pu (.p .s (.p .s .u)) (.p (.sl .s) .u) [true] (fun x => OS x.1 x.2.1)) := by
 subst hf
 refine ⟨⟨_, L.f146, rfl, rfl⟩, ?_⟩
 intro O w x r args hF hA hO hi hb
 match args, hA with
 | [a, b], hA =>
  obtain ⟨⟨ca, rfl, hca⟩, ⟨cb, rfl, hcb⟩, _⟩ := hA
  have hca' : ca = [.string ⟨List.toArray x.1⟩] := hca
  have hcb' : cb = [.string ⟨List.toArray x.2.1⟩] := hcb
  subst hca'; subst hcb'
  simp only [OS, B3] at hF
  cases h1 : jx (ja x.1) 1048576 with
  | false => rw [h1] at hF; simp at hF
  | true =>
  cases h2 : jx 1 (ja x.2.1) with
  | false => rw [h1, h2] at hF; simp at hF
  | true =>
  rw [h1, h2] at hF
  simp only [Bool.and_true, cond_true, jc] at hF
  subst hF
  have h1' := Nat.le_of_ble_eq_true h1
  have h2' := Nat.le_of_ble_eq_true h2
  obtain ⟨m, hm⟩ := hI w hi
  have hs1 : (⟨List.toArray x.1⟩ : ByteArray).size = ja x.1 := by show (List.toArray x.1).size = _; simp
  have hs2 : (⟨List.toArray x.2.1⟩ : ByteArray).size = ja x.2.1 := by show (List.toArray x.2.1).size = _; simp
  have hd : (Lib.splitB ⟨List.toArray x.2.1⟩ 0 (Lib.countB ⟨List.toArray x.1⟩ ⟨List.toArray x.2.1⟩) ⟨List.toArray x.1⟩).map (fun z => z.data.toList) = Lib.split x.1 x.2.1 := by
   rw [Lib.splitB_data]; rfl
  have hlen := Lib.splitB_all ⟨List.toArray x.2.1⟩ (by omega) 0 _ ⟨List.toArray x.1⟩ rfl
  have hle := Lib.countB_le ⟨List.toArray x.2.1⟩ (by omega) _ ⟨List.toArray x.1⟩ (jo _)
  obtain ⟨zs, hz⟩ : ∃ zs, Lib.splitB ⟨List.toArray x.2.1⟩ 0 (Lib.countB ⟨List.toArray x.1⟩ ⟨List.toArray x.2.1⟩) ⟨List.toArray x.1⟩ = zs := ⟨_, rfl⟩
  rw [hz] at hlen hd
  obtain ⟨n, hcn⟩ : ∃ n, Lib.countB ⟨List.toArray x.1⟩ ⟨List.toArray x.2.1⟩ = n := ⟨_, rfl⟩
  rw [hcn] at hlen hle
  have hn : (Lib.split x.1 x.2.1).length = n + 1 := by rw [← hd, List.length_map, hlen]
  refine (Go.Proofs.Any.strings_Split { L with } L.i9 ⟨List.toArray x.1⟩ ⟨List.toArray x.2.1⟩ m w (by omega) hm (by omega)).mono ?_
  rintro e w' ⟨rfl, rfl⟩
  rw [hz]
  refine ⟨[.slice (some ⟨w.heap.size, 0, none⟩) (n + 1) (n + 1)], [w.heap.size], by rw [hcn]; rfl, ⟨?_, ?_, rfl, rfl, rfl⟩, ?_, by simp, by simp⟩
  ·rw [XC]; simp
  ·intro b hb _
   rw [XC]
   simp [Array.getElem?_push_lt hb, Array.getElem?_eq_getElem hb]
  ·refine ⟨[.slice (some ⟨w.heap.size, 0, none⟩) (n + 1) (n + 1)], [w.heap.size], [], rfl, rfl, ?_, rfl⟩
   show Rb _ (.sl .s) (Lib.split x.1 x.2.1) _ _
   refine ⟨by rw [hn]; unfold Gi; omega, .inr ⟨w.heap.size, 0, n + 1, (zs.map Value.string).toArray, ρ.t 9, List.replicate (n + 1) [], ?_, ?_, by omega, by unfold Gi; omega, ?_, ?_, ?_, ?_⟩⟩
   ·rw [hn]
   ·rw [XC]; simp
   ·simp [Ty.size, hlen]
   ·simp
   ·simp [hn]
   ·intro i hi
    have hi' : i < n + 1 := by omega
    have hiz : i < zs.length := by omega
    refine ⟨?_, by simp [qg, List.getElem?_replicate, hi']⟩
    show Vc _ (0 + i * 1) 1 = _
    apply IV
    have : (Lib.split x.1 x.2.1)[i]'hi = (zs[i]).data.toList := by simp [← hd]
    show _ = some (Value.string ⟨List.toArray ((Lib.split x.1 x.2.1)[i]'hi)⟩)
    rw [this]
    simp [hiz]
open Go Go.WideShapes Go.ChangeShapes
def XZ : DataW Unit → List Value
 | .lit (.int k n) => [.int k n]
 | .lit (.bool b) => [.bool b]
 | .agg l => cellsDs l
 | _ => []
where cellsDs : List (DataW Unit) → List Value
 | [] => []
 | d :: r => XZ d ++ cellsDs r
def Waa (d : DataW Unit) : Obj → Obj
 | .cells _ t frozen => .cells (XZ d).toArray t frozen
 | o => o
def Xaa (P : Program) (h : Array Obj) (x : String × DataW Unit) : Array Obj :=
 match P.globalNamed x.1 with
 | some g => h.modify g (Waa x.2)
 | none => h
noncomputable def A9 (P : Program) (os : Os) (laid : List (String × DataW Unit)) : World :=
 let w := World.holding P os ⟨#[], #[], []⟩
 { w with heap := laid.foldl (Xaa P) w.heap }
def N5 (g : Nat) : Cg := ⟨g + 1, fun w => ∃ m, w.cell? ⟨g, 0, none⟩ = some (.int .i64 m), fun w w' hb h => by
 obtain ⟨m, hm⟩ := h
 refine ⟨m, ?_⟩
 unfold World.cell? at hm ⊢
 rw [hb g (Nat.lt_succ_self g)]
 exact hm⟩
theorem V0 {g : Nat} {w : World} (h : (N5 g).p w) : (N5 g).base ≤ w.heap.size := by
 obtain ⟨m, hm⟩ := h
 unfold World.cell? at hm
 have : g < w.heap.size := by
  apply Classical.byContradiction
  intro hn
  simp only [Array.getElem?_eq_none (show w.heap.size ≤ g by omega)] at hm
  simp at hm
 exact this
theorem GE {P : Program} {l : List (String × DataW Unit)} {w : World} (h : (l.filter fun x => x.2.handleName?.isSome) = []) : laidMetH P l w = laidMet P l w := by
 unfold laidMetH
 rw [h]
section
variable {H : Type} {enc : TypeId × Value → H}
theorem XH {a : Assume} {C : Checked} {os : Os} {f : FuncId} {fn : Func} {s : ChangeSpec} {conds : List PathCond} {apart fresh handsOn again : Bool} {X : World → Array Value → Prop}
 (hX : ∀ (w w' : World) (args : Array Value), w.heap = w'.heap → X w args → X w' args)
 (own : ownKnob C.prog.godebug = none) (started : os.Started) (noInit : C.prog.inits.idxOf? f = none) (hfn : C.prog.funcs[f]? = some fn)
 (witness : ∃ (w : World) (tape : Tape) (i : Input), w.os = os ∧ (w.forCall tape i).Shaped C.prog ∧ i.vars = [] ∧ Input.okWide C.prog (w.forCall tape i) .any w.heap.size f i ∧
  ((s.pre enc C.prog fn conds apart (w.forCall tape i).memory i.args ∧ X (w.forCall tape i).memory i.args) ∧ sizedMet enc C.prog fn (OpenSpec.ofChange s) apart (w.forCall tape i).memory i.args) ∧ a.holds C.prog (lone (Frame.enter C.prog f i.args .normal) [] (w.forCall tape i)))
 (contract : ∀ (W : World) (base : Nat) (args : Array Value) (ds gs : List (DataW H)) (before : List MemPlace),
  (∀ (j : Nat) t v, fn.params[j]? = some t → args[j]? = some v → Value.okWide C.prog W .any base t v) →
  DataW.Whole enc C.prog fn.params.toList s.vars apart W args.toList ds gs before →
  conds.all (PathCond.test C.prog ⟨fn.params.toList, ds, s.plain.varTypes C.prog, gs⟩) = true →
  (DataW.weightsEach C.prog (fn.params.toList ++ s.plain.varTypes C.prog) (ds ++ gs)).all (· ≤ reachBytes) = true → W.ShapedOpen C.prog → X W args →
  a.holds C.prog (lone (Frame.enter C.prog f args .normal) [] W) →
  Calls C.prog f args W fun e W' => ∃ v, e = .returned v ∧ s.post enc C.prog fn apart fresh handsOn again W args v W') :
 ReturnsInHanded a C os f .any (fun w args => (s.pre enc C.prog fn conds apart w args ∧ X w args) ∧ sizedMet enc C.prog fn (OpenSpec.ofChange s) apart w args) (s.post enc C.prog fn apart fresh handsOn again) := by
 refine returnsInHanded_of_calls own started noInit witness ?_
 intro w tape i _ hsh _ hok hpre hholds
 obtain ⟨_, _, _, fn', hfn', _, _, _, _, hval⟩ := hok
 have e : fn' = fn := Option.some.inj (hfn'.symm.trans hfn)
 subst e
 obtain ⟨⟨⟨ds, gs, before, hw, hc⟩, hx⟩, hz⟩ := hpre
 have hw' := DataW.Whole.of_heap (w' := w.forCall tape i) (by rfl) hw
 refine (contract (w.forCall tape i) w.heap.size i.args ds gs before hval hw' hc (hz.weights hw) hsh (hX _ _ _ (by rfl) hx) hholds).mono fun e W' ⟨v, he, hp⟩ => ?_
 subst he
 exact ChangeSpec.post_blind hp
theorem QR {C : Checked} {os : Os} {f : FuncId} {fn : Func} {s : ChangeSpec} {apart fresh handsOn again : Bool} {pt : Ty} {fl : Bool} {F : T pt → Option (Bool × Unit)} {tb : TypeId} {I : Cg} {laid : List (String × DataW Unit)}
 (own : ownKnob C.prog.godebug = none) (started : os.Started) (noInit : C.prog.inits.idxOf? f = none) (hfn : C.prog.funcs[f]? = some fn)
 (witness : ∃ (w : World) (tape : Tape) (i : Input), w.os = os ∧ (w.forCall tape i).Shaped C.prog ∧ i.vars = [] ∧ Input.okWide C.prog (w.forCall tape i) .any w.heap.size f i ∧
  ((s.pre enc C.prog fn [] apart (w.forCall tape i).memory i.args ∧ laidMetH C.prog laid (w.forCall tape i).memory) ∧ sizedMet enc C.prog fn (OpenSpec.ofChange s) apart (w.forCall tape i).memory i.args) ∧ ({} : Assume).holds C.prog (lone (Frame.enter C.prog f i.args .normal) [] (w.forCall tape i)))
 (hvars : s.vars = []) (hs : ∀ ds : List (DataW H), ds.length = fn.params.toList.length → s.fn H ds = { results := [.lit (.bool true)], args := ds })
 (hp : Xj C.prog pt fn.params.toList = true) (hr : fn.resultTypes = #[tb]) (htb : C.prog.underlying tb = some .bool)
 (hsound : Ah C.prog I f (.pu pt (.p .b .u) [fl] F)) (hF : ∀ x, RK pt x → F x = some (true, ()))
 (hI : ∀ W : World, W.ShapedOpen C.prog → laidMetH C.prog laid W → I.p W ∧ I.base ≤ W.heap.size) (hnh : (laid.filter fun x => x.2.handleName?.isSome) = []) :
 ReturnsInHanded {} C os f .any (fun w args => (s.pre enc C.prog fn [] apart w args ∧ laidMetH C.prog laid w) ∧ sizedMet enc C.prog fn (OpenSpec.ofChange s) apart w args) (s.post enc C.prog fn apart fresh handsOn again) := by
 refine XH (X := fun w _ => laidMetH C.prog laid w) (fun _ _ _ hh h => by
  rw [GE hnh] at h ⊢
  exact h.of_heap hh) own started noInit hfn witness ?_
 intro W b0 args ds gs before hval hW _ _ hsh hX _
 have hW0 := hW
 obtain ⟨p, q, hA, hV, hps, hfz, hnd⟩ := hW
 rw [hvars] at hV
 have hgs : gs = [] ∧ q = [] := by
  cases gs with
  | nil => exact ⟨rfl, hV⟩
  | cons _ _ => exact hV.elim
 obtain ⟨rfl, rfl⟩ := hgs
 simp only [List.append_nil] at hps
 subst hps
 obtain ⟨x, hx, hrx⟩ := JG (base := b0) hp hA fun j t v h1 h2 => hval j t v (by simpa using h1) (by simpa using h2)
 have hcall := hsound.2 (fun _ => False) W x (true, ()) args.toList (hF x hrx) hx (fun _ h => h.elim) (hI W hsh hX).1 (hI W hsh hX).2
 refine hcall.mono fun e W' hret => ?_
 cases e with
 | returned v =>
  obtain ⟨vs, Fr, hv, hk, hR, _, _⟩ := hret
  have hvt : v = .bool true := by
   cases vs with
   | nil => simp [Oc] at hR
   | cons a r =>
    obtain ⟨cs, F1, F2, ha, _, hown, hrest⟩ := hR
    cases r with
    | cons _ _ => simp [Oc] at hrest
    | nil =>
     have hcs : cs = [.bool true] := by
      cases fl with
      | true => exact hown.1
      | false => exact hown.1
     rw [hv, Cy, ha, hcs]
     rfl
  subst hvt
  refine ⟨_, rfl, ?_⟩
  have hsp := hs ds (RI hA)
  have hlt : ∀ z ∈ before, z.block < W.heap.size := hW0.lt
  have hsame : ∀ z ∈ before, W.sameAt W' z := by
   intro z hz
   have hb := hk.block z.block (hlt z hz) (fun h => h)
   cases z with
   | cell b off =>
    show W'.cell? _ = W.cell? _
    simp only [World.cell?]
    rw [show W'.heap[b]? = W.heap[b]? from hb]
   | map b => exact hb
  have hargs : ∀ sp : Nat → Bool, (∀ z ∈ before, sp z.block = true) → DataW.TrodAll enc C.prog W' 0 sp true fn.params.toList args.toList ds before :=
   fun sp h => LE (NI hp) hA hsame h
  have hres : ∀ (b : Nat) (sp : Nat → Bool) (hd : Bool), DataW.TrodAll enc C.prog W' b sp hd fn.resultTypes.toList ((Value.bool true).resultList fn.resultTypes.size) [.lit (.bool true)] [] := by
   intro b sp hd
   rw [hr]
   exact trodAll_mk1 (Go.RowKit.shut_bool htb true)
  have hold : ∀ z ∈ before, (fun b => decide (b < W.heap.size)) z.block = true := fun z hz => by simpa using hlt z hz
  refine ⟨ds, [], before, [], before, [], hW0, ?_, ?_, ?_, hk.but _, fun _ => ⟨?_, ds.cons (.lit (.bool true)), [], before, ⟨before, [], ?_, ?_, by simp, ?_, ?_⟩, fun z hz _ => hz⟩⟩
  ·rw [List.append_nil, hsp]; exact hres _ _ _
  ·rw [List.append_nil, hsp]; exact hargs _ hold
  ·rw [List.append_nil, hsp, hvars]; rfl
  ·intro j t r hj hv
   rw [hr] at hj hv
   match j, hj, hv with
   | 0, hj, hv =>
    simp only [List.getElem?_toArray, List.getElem?_cons_zero, jc] at hj
    simp [Value.resultList] at hv
    subst hj; subst hv
    exact Go.RowKit.okWide_bool_mk htb true
  ·exact trodAll_append (hargs _ (fun _ _ => rfl)) (hres _ _ _)
  ·rw [hvars]; rfl
  ·intro b off hz
   have := hfz b off hz
   unfold World.frozen? at this ⊢
   rw [show W'.heap[b]? = W.heap[b]? from hk.block b (hlt _ hz) (fun h => h)]
   exact this
  ·exact hnd
 | _ => exact hret.elim
end
def Bc {α S R : Type} (g : Nat → S → α → S ⊕ R) : Nat → S → List α → S ⊕ R
 | _, s, [] => .inl s
 | k, s, x :: xs => match g k s x with
  | .inl s' => Bc g (k + 1) s' xs
  | .inr r => .inr r
section
variable {X R : Type} {step : X → Option (X ⊕ R)}
theorem Pb {x : X} {z : Option (X ⊕ R)} (h : step x = z) : Nb step x = z.bind (Sum.elim (Nb step) some) := by
 rw [Xy, h]
theorem BT {α S R' : Type} (xs : List α) (g : Nat → S → α → S ⊕ R') (I : Nat → S → X) (out : S → R) (ex : R' → R) (Cg : Nat → S → Prop)
 (h : ∀ k (hk : k < xs.length) s, Cg k s → step (I k s) = some (match g k s xs[k] with | .inl s' => .inl (I (k + 1) s') | .inr r => .inr (ex r)) ∧ ∀ s', g k s xs[k] = .inl s' → Cg (k + 1) s')
 (he : ∀ s, Cg xs.length s → step (I xs.length s) = some (.inr (out s))) (s0 : S) (h0 : Cg 0 s0) :
 Nb step (I 0 s0) = some (match Bc g 0 s0 xs with | .inl s => out s | .inr r => ex r) := by
 have key : ∀ (ys : List α) (k : Nat) (s : S), xs.drop k = ys → k ≤ xs.length → Cg k s → Nb step (I k s) = some (match Bc g k s ys with | .inl s => out s | .inr r => ex r) := by
  intro ys
  induction ys with
  | nil =>
   intro k s hd hle hi
   have : k = xs.length := by
    have := congrArg ja hd
    simp at this
    omega
   subst this
   rw [Pb (he s hi)]
   rfl
  | cons y ys ih =>
   intro k s hd hle hi
   have hk : k < xs.length := by
    have := congrArg ja hd
    simp at this
    omega
   have hy : xs[k] = y := by
    have := congrArg (·[0]?) hd
    simp [List.getElem?_drop, je hk] at this
    exact this
   obtain ⟨h1, h2⟩ := h k hk s hi
   rw [Pb h1]
   rw [hy] at h2 ⊢
   simp only [Bc]
   cases hg : g k s y with
   | inl s' =>
    simp only [jb, qh]
    refine ih (k + 1) s' ?_ hk (h2 s' hg)
    rw [← List.drop_drop, hd]
    rfl
   | inr r => rfl
 exact key xs 0 s0 rfl (Nat.zero_le _) h0
theorem TO (I : Nat → X) (n : Nat) (out : R) (h : ∀ k, k < n → step (I k) = some (.inl (I (k + 1)))) (he : step (I n) = some (.inr out)) : Nb step (I 0) = some out := by
 have key : ∀ m k, m + k = n → Nb step (I k) = some out := by
  intro m
  induction m with
  | zero =>
   intro k hk
   have : k = n := by omega
   subst this
   rw [Pb he]; rfl
  | succ m ih =>
   intro k hk
   rw [Pb (h k (by omega))]
   exact ih (k + 1) (by omega)
 exact key n 0 (by omega)
end
theorem Qd {n : Int} (h1 : -9223372036854775808 ≤ n) (h2 : n ≤ 9223372036854775807) : j4 .i64 n = n := IntWalk.i64_in n ⟨h1, h2⟩
theorem Vd {k : Nat} (h : k < 9223372036854775807) : j4 .i64 ((k : Int) + 1) = ((k + 1 : Nat) : Int) := by
 rw [Qd (by omega) (by omega)]; omega
theorem Yak {n : Int} (h1 : 0 ≤ n) (h2 : n ≤ 255) : j4 .u8 n = n := IntWalk.u8_in n ⟨h1, h2⟩
section
variable {α : Type}
theorem Y9 (xs : List α) (k : Nat) : Wc xs (k : Int) = xs[k]? := by simp [Wc]
theorem Dc {xs : List α} {k : Nat} (h : k < xs.length) : Wc xs (k : Int) = some xs[k] := by rw [Y9, je h]
theorem J5 (x : α) (xs : List α) : Wc (x :: xs) 0 = some x := rfl
theorem Vu (n k : Nat) : Bj n (k : Int) = decide (k < n) := by
 simp [Bj]
theorem Ba {p : Prop} [Decidable p] (h : p) : decide p = true := decide_eq_true h
theorem Aa {p : Prop} [Decidable p] (h : ¬ p) : decide p = false := decide_eq_false h
end
theorem Uh : Jb = 1073741824 := rfl
def Ib : (τ : Ty) → T τ → Nat
 | .i _, _ => 0
 | .b, _ => 0
 | .o, _ => 0
 | .s, x => ja x
 | .sl e, xs => ja xs + (List.map (Ib e) xs).sum
 | .u, _ => 0
 | .p a c, v => Ib a v.1 + Ib c v.2
def Ty.hasS : Ty → Bool
 | .s => true
 | .sl e => e.hasS
 | .p x y => x.hasS || y.hasS
 | _ => false
def Ja : Nat := 1048576
theorem Rs {α : Type} {f : α → Nat} {xs : List α} {k : Nat} (hk : k < xs.length) : f xs[k] ≤ (xs.map f).sum := by
 induction xs generalizing k with
 | nil => simp at hk
 | cons x xs ih =>
  cases k with
  | zero => simp
  | succ k =>
   have := ih (k := k) (by simpa using hk)
   simp only [List.getElem_cons_succ, List.map_cons, List.sum_cons]
   omega
theorem NK : ∀ {τ : Ty} (_ : (τ.flat && !τ.hasS) = true) {x : T τ}, Ib τ x = 0
 | .i _, _, _ => rfl
 | .b, _, _ => rfl
 | .o, _, _ => rfl
 | .s, h, _ => by simp [Ty.hasS] at h
 | .sl _, h, _ => by simp [Ty.flat] at h
 | .u, _, _ => rfl
 | .p a c, h, x => by
  simp only [Ty.flat, Ty.hasS, jd, Bool.not_eq_true', Bool.or_eq_false_iff] at h
  simp only [Ib]
  rw [NK (τ := a) (by simp [h.1.1, h.2.1]), NK (τ := c) (by simp [h.1.2, h.2.2])]
theorem As {e : Ty} (h : (e.flat && !e.hasS) = true) (xs : List (T e)) : Ib (.sl e) xs = ja xs := by
 simp only [Ib]
 have : List.map (Ib e) xs = List.replicate xs.length 0 := by
  apply List.ext_getElem
  ·simp
  ·intro i h1 h2
   simp [NK h]
 rw [this]
 simp
theorem Dk {α : Type} (b : Bool) (x y : α) : cond b (some x) (some y) = some (cond b x y) := by cases b <;> rfl
theorem Ek {α : Type} (b : Bool) (x y : α) : cond b (x, ()) (y, ()) = (cond b x y, ()) := by cases b <;> rfl
theorem Uc (b x y : Bool) : (cond b x y = true) ↔ ((b = true ∧ x = true) ∨ (¬ b = true ∧ y = true)) := by cases b <;> simp
theorem R9 {a b : Bool} (h : a = true ↔ b = true) : a = b := qt.2 h
theorem Hc {a b : Bool} (h : a = true ↔ b = true) : some (a, ()) = some (b, ()) := by rw [R9 h]
theorem ZC (a b : Int) : ((a == b) = true) ↔ a = b := by simp
theorem AD (a b : Int) : ((a != b) = true) ↔ ¬ a = b := by simp
def Td {α : Type} (p : Nat → α → Bool) : Nat → List α → Bool
 | _, [] => true
 | k, x :: xs => p k x && Td p (k + 1) xs
theorem Gh {X R : Type} {step : X → Option (X ⊕ R)} {α : Type} (xs : List α) (p : Nat → α → Bool) (I : Int → X) (yes no : R)
 (h : ∀ k (hk : k < xs.length), step (I (k : Int)) = some (cond (p k xs[k]) (.inl (I (j4 .i64 ((k : Int) + 1)))) (.inr no)))
 (he : step (I (xs.length : Int)) = some (.inr yes)) (hn : xs.length < 9223372036854775807) :
 Nb step (I 0) = some (cond (Td p 0 xs) yes no) := by
 have key : ∀ (ys : List α) (k : Nat), xs.drop k = ys → k ≤ xs.length → Nb step (I (k : Int)) = some (cond (Td p k ys) yes no) := by
  intro ys
  induction ys with
  | nil =>
   intro k hd hle
   have : k = xs.length := by
    have := congrArg ja hd
    simp at this
    omega
   subst this
   rw [Pb he]
   rfl
  | cons y ys ih =>
   intro k hd hle
   have hk : k < xs.length := by
    have := congrArg ja hd
    simp at this
    omega
   have hy : xs[k] = y := by
    have := congrArg (·[0]?) hd
    simp [List.getElem?_drop, je hk] at this
    exact this
   have hd' : xs.drop (k + 1) = ys := by rw [← List.drop_drop, hd]; rfl
   rw [Pb (h k hk), hy]
   simp only [Td]
   cases hc : p k y with
   | true =>
    simp only [cond_true, jk, jb, qh]
    rw [← ih (k + 1) hd' hk, Vd (by omega)]
   | false => rfl
 have := key xs 0 rfl (Nat.zero_le _)
 simpa using this
theorem Br {α : Type} {p : Nat → α → Bool} : ∀ {xs : List α} {k : Nat}, Td p k xs = true ↔ ∀ j (hj : j < xs.length), p (k + j) xs[j] = true
 | [], _ => by simp [Td]
 | x :: xs, k => by
  simp only [Td, jd, Br (xs := xs)]
  constructor
  ·rintro ⟨h1, h2⟩ j hj
   cases j with
   | zero => exact h1
   | succ j => simpa [jt, Nat.add_comm 1 j] using h2 j (by simpa using hj)
  ·intro h
   refine ⟨h 0 (by simp), fun j hj => ?_⟩
   have := h (j + 1) (by simpa using hj)
   rw [jt, Nat.add_comm 1 j]
   exact this
theorem DO {α β γ : Type} (b : Bool) (x : α) (y : β) (f : α → γ) (g : β → γ) : Sum.elim f g (cond b (.inl x) (.inr y)) = cond b (f x) (g y) := by cases b <;> rfl
def Ic {α S : Type} (g : Nat → S → α → S) : Nat → S → List α → S
 | _, s, [] => s
 | k, s, x :: xs => Ic g (k + 1) (g k s x) xs
theorem BF {α : Type} {xs ys : List α} {y : α} {k : Nat} (hd : xs.drop k = y :: ys) : ∃ hk : k < xs.length, xs[k] = y ∧ xs.drop (k + 1) = ys := by
 have hk : k < xs.length := by
  have := congrArg ja hd
  simp at this
  omega
 refine ⟨hk, ?_, by rw [← List.drop_drop, hd]; rfl⟩
 have := congrArg (·[0]?) hd
 simp [List.getElem?_drop, je hk] at this
 exact this
theorem FJ {α : Type} {xs : List α} {k : Nat} (hd : xs.drop k = []) (hk : k ≤ xs.length) : k = xs.length := by
 have := congrArg ja hd
 simp at this
 omega
theorem Ui {X R : Type} {step : X → Option (X ⊕ R)} {α S : Type} (xs : List α) (g : Nat → S → α → S) (I : S → Int → X) (out : S → R) (Cg : Nat → S → Prop)
 (h : ∀ k (hk : k < xs.length) s, Cg k s → step (I s (k : Int)) = some (.inl (I (g k s xs[k]) (j4 .i64 ((k : Int) + 1)))) ∧ Cg (k + 1) (g k s xs[k]))
 (he : ∀ s, Cg xs.length s → step (I s (xs.length : Int)) = some (.inr (out s))) (hn : xs.length < 9223372036854775807) (s0 : S) (h0 : Cg 0 s0) :
 Nb step (I s0 0) = some (out (Ic g 0 s0 xs)) ∧ Cg xs.length (Ic g 0 s0 xs) := by
 have key : ∀ (ys : List α) (k : Nat) (s : S), xs.drop k = ys → k ≤ xs.length → Cg k s → Nb step (I s (k : Int)) = some (out (Ic g k s ys)) ∧ Cg xs.length (Ic g k s ys) := by
  intro ys
  induction ys with
  | nil =>
   intro k s hd hle hi
   have := FJ hd hle
   subst this
   rw [Pb (he s hi)]
   exact ⟨rfl, hi⟩
  | cons y ys ih =>
   intro k s hd hle hi
   obtain ⟨hk, hy, hd'⟩ := BF hd
   obtain ⟨h1, h2⟩ := h k hk s hi
   rw [Pb h1, hy, Vd (by omega)]
   rw [hy] at h2
   exact ih (k + 1) _ hd' hk h2
 have := key xs 0 s0 rfl (Nat.zero_le _) h0
 simpa using this
theorem Vi {X R : Type} {step : X → Option (X ⊕ R)} {α S R' : Type} (xs : List α) (g : Nat → S → α → S ⊕ R') (I : S → Int → X) (out : S → R) (ex : R' → R) (Cg : Nat → S → Prop)
 (h : ∀ k (hk : k < xs.length) s, Cg k s → step (I s (k : Int)) = some (match g k s xs[k] with | .inl s' => .inl (I s' (j4 .i64 ((k : Int) + 1))) | .inr r => .inr (ex r)) ∧ ∀ s', g k s xs[k] = .inl s' → Cg (k + 1) s')
 (he : ∀ s, Cg xs.length s → step (I s (xs.length : Int)) = some (.inr (out s))) (hn : xs.length < 9223372036854775807) (s0 : S) (h0 : Cg 0 s0) :
 Nb step (I s0 0) = some (match Bc g 0 s0 xs with | .inl s => out s | .inr r => ex r) := by
 have := BT (step := step) xs g (fun k s => I s (k : Int)) out ex Cg (fun k hk s hi => by
  obtain ⟨h1, h2⟩ := h k hk s hi
  refine ⟨?_, h2⟩
  rw [h1, Vd (by omega)]) he s0 h0
 simpa using this
theorem z3 : ((3 : Int) == 0) = false := rfl
theorem Dr {n lo hi : Nat} (h1 : lo ≤ hi) (h2 : hi ≤ n) : Pd n (lo : Int) (hi : Int) = true := by
 simp [Pd]; omega
section
variable {α β : Type}
end
abbrev int : Ty := .i .i64
abbrev Aj : Ty := .i .u8
abbrev Be : Ty := (.p int (.p int .u))
abbrev Ab : Type := (Int × (Int × Unit))
abbrev Tb : Ty := (.p int (.p (.sl int) .u))
abbrev Ca : Type := (Int × ((List Int) × Unit))
abbrev Co : Ty := (.p int (.p int (.p .b .u)))
abbrev Na : Type := (Int × (Int × (Bool × Unit)))
abbrev Tc : Ty := (.p int Be)
abbrev Yb : Type := (Int × Ab)
abbrev Je : Type := ((List (List Int)) × ((List Int) × Unit))
abbrev Ag : Ty := (.p (.sl Aj) Be)
abbrev Cc : Type := ((List Int) × Ab)
abbrev Xb : Ty := (.p int Tc)
abbrev Ka : Type := (Int × Yb)
abbrev Mi : Type := (Bool × Yb)
abbrev Wh : Ty := (.p int (.p Tb .u))
abbrev Mf : Type := (Int × (Ca × Unit))
abbrev Ck : Ty := (.p int (.p Xb .u))
abbrev Ma : Type := (Int × (Ka × Unit))
abbrev Ry : Type := (Int × (Int × (Int × (Int × Ca))))
abbrev Pa : Ty := (.p int (.p (.sl (.sl Xb)) .u))
abbrev Ha : Type := (Int × ((List (List Ka)) × Unit))
abbrev Rl : Type := ((List Ab) × (Int × ((List Na) × (Int × (Int × (Int × ((List Na) × Unit)))))))
abbrev Sc : Ty := (.p Pa (.p (.sl (.sl Tc)) (.p int (.p (.sl Ck) (.p int (.p .b .u))))))
abbrev Lb : Type := (Ha × ((List (List Yb)) × (Int × ((List Ma) × (Int × (Bool × Unit))))))
abbrev We : Ty := (.p Sc (.p Tc (.p (.sl Co) Xb)))
abbrev Ub : Type := (Lb × (Yb × ((List Na) × Ka)))
abbrev SK : Type := (Na × (Ry × (Rl × (Ub × Ab))))
abbrev RG : Type := Na
abbrev TB : Type := Yb
def Hy : List UInt8 := [97, 32, 98, 32, 99, 32, 100, 32, 101, 32, 102, 32, 103, 32, 104, 32, 105, 32, 106, 32, 107, 32, 108, 32, 109, 32, 110, 32, 111, 32, 112, 32, 113, 32, 114, 32, 115, 32, 116, 32, 117, 32, 118, 32, 119, 32, 120, 32, 121, 32, 122, 32, 49, 32, 50, 32, 51, 32, 52, 32, 53, 32, 54, 32, 55, 32, 56, 32, 57, 32, 48, 32, 101, 110, 116, 101, 114, 32, 101, 115, 99, 32, 98, 97, 99, 107, 32, 116, 97, 98, 32, 115, 112, 97, 99, 101, 32, 109, 105, 110, 117, 115, 32, 101, 113, 117, 97, 108, 32, 108, 101, 102, 116, 32, 114, 105, 103, 104, 116, 32, 117, 112, 32, 100, 111, 119, 110, 32, 102, 49, 32, 102, 50, 32, 102, 51, 32, 102, 52, 32, 102, 53, 32, 102, 54, 32, 102, 55, 32, 102, 56, 32, 102, 57]
def Gy : List UInt8 := [67, 83, 65, 71]
def Iy : List UInt8 := [109, 97, 99, 114, 111]
def Bl : List UInt8 := [110, 111, 110, 101]
def Zr : List UInt8 := [112, 97, 115, 115]
def Qp : List UInt8 := [111, 110, 99, 101, 58]
def Rp : List UInt8 := [109, 97, 99, 114, 111, 58]
def Pp : List UInt8 := [99, 97, 112, 115]
def Og : List UInt8 := [115, 112, 97, 99, 101]
def Mg : List UInt8 := [109, 105, 110, 117, 115]
def Lg : List UInt8 := [101, 113, 117, 97, 108]
def Ng : List UInt8 := [101, 110, 116, 101, 114]
def KE : List UInt8 := [111, 110, 99, 101, 58, 83]
def JE : List UInt8 := [67, 83, 45, 97]
def Pg : List UInt8 := [33, 64, 35, 36, 37, 94, 38, 42, 40, 41]
noncomputable section
open Option renaming bind → ob
open Go.IntKind renaming wrap → wr
open Int renaming toNat → tn
open List renaming length → ln, append → ap, set → ls
open Sum renaming elim → se
open Nat renaming ble → bl
abbrev Kh : Type := Int × Unit
abbrev Ze : Type := Bool × Unit
abbrev Ni : Type := Unit × Unit
abbrev Ad : Type := List UInt8
abbrev Bg : Type := List Int
abbrev Nm : Type := Ha × Unit
abbrev Jl : Type := List Na
abbrev Io : Type := List Ca
abbrev Sy : Type := List Ab
abbrev Sl : Type := List Ka
abbrev Tt : Type := List Ma
abbrev Ut : Type := List Mf
abbrev L8 : Type := Unit × Ab
abbrev SG : Type := Unit × Kh
abbrev AX : Type := Bg × Ab
abbrev Uw : Type := Ze × Unit
abbrev TG : Type := Ha × Nm
abbrev SC : Type := Lb × Unit
abbrev Vt : Type := Ca × Unit
abbrev WI : Type := Ca × Vt
abbrev M8 : Type := (Kh × Unit) ⊕ Ni
abbrev Cv : Type := List Ad
abbrev Tl : Type := Ad × Unit
abbrev AQ : Type := Sy × Ab
abbrev UG : Type := Int × (Jl × Ab)
abbrev LA : Type := List Yb
abbrev TC : Type := Ni ⊕ (Kh × Unit)
abbrev VG : Type := Bg × Unit
abbrev N8 : Type := Unit × Ni
abbrev BX : Type := Int × Ze
abbrev XG : Type := Ni ⊕ Uw
abbrev WK : Type := (List Sl) × Ab
abbrev CX : Type := Bg × Kh
abbrev O8 : Type := Jl × Unit
abbrev P8 : Type := Int × ((List Sl) × (Int × (Int × (Sl × Ab))))
abbrev Vw : Type := Ad × Kh
abbrev YG : Type := Ka × Unit
abbrev UC : Type := Ab × Unit
abbrev XK : Type := Yb × Unit
abbrev Uai : Type := Unit × (Ut × Unit)
abbrev Q8 : Type := Ub × Unit
abbrev ZG : Type := Io × Unit
abbrev R8 : Type := (Ad × (Int × (Cv × Ab))) × Unit
abbrev S8 : Type := (Ad × (Unit × (Jl × Kh))) × Nm
abbrev T8 : Type := Unit × AX
abbrev Bs : Type := List LA
abbrev NA : Type := Int × AX
abbrev Vai : Type := Ut × Ze
abbrev YK : Type := Tt × Ab
abbrev MA : Type := (Int × YK) × Unit
abbrev U8 : Type := (ZG × Unit) ⊕ Ni
abbrev CQ : Type := Cv × Kh
abbrev DQ : Type := Cv × Unit
abbrev V8 : Type := ((Unit × (Unit × VG)) × WI) ⊕ Ni
abbrev AH : Type := Cc × Nm
abbrev Wai : Type := Int × SG
abbrev BQ : Type := (Int × Wai) × Nm
abbrev BH : Type := Bg × AX
abbrev DX : Type := (Unit × Uai) × (Ub × Q8)
abbrev EQ : Type := Sy × (LA × Ab)
abbrev EX : Type := Jl × Ze
abbrev Xai : Type := (N8 × TG) ⊕ Ni
abbrev LZ : Type := (Tl × Unit) ⊕ Ni
abbrev OQ : Type := (VG × Unit) ⊕ Ni
abbrev MZ : Type := BX × Unit
abbrev NZ : Type := Ut × Ab
abbrev UK : Type := (Ad × SG) × Nm
abbrev VK : Type := (Int × Vw) × Unit
abbrev OZ : Type := (Unit × (Ad × (Unit × (Io × (Int × NA))))) × WI
abbrev UB : Type := Cc × Unit
abbrev Oh : Ub := (((0, [], ()), [], 0, [], 0, false, ()), (0, 0, 0, ()), [], 0, 0, 0, 0, ())
abbrev PZ : Lb := ((0, [], ()), [], 0, [], 0, false, ())
def Jg (a0 : Int) (a1 : Int) (a2 : Int) : Option Ze :=
 (cond (decide (a0 ≥ a1))
 (some ((decide (a0 ≤ a2)), ()))
 (some (false, ())))
def Ol (a0 : Bg) : Option VG :=
 (cond (bl (ln ([] : List Int) + ln a0) Jb)
 (some ((ap [] a0), ()))
 none)
def Mq (a0 : Ca) : Option Vt :=
 (ob (Ol a0.2.1) fun r1 =>
 (some ((a0.1, r1.1, ()), ())))
def Wl (t3 : Io) (t6 : Ut) (t7 : Int) (t8 : Int) : Option (((Io × NZ) × Unit) ⊕ U8) :=
 (cond (decide (t8 < t7))
 (ob (Wc t6 t8) fun x7 =>
 (ob (Mq x7.2.1) fun r8 =>
 (cond (bl (ln t3 + ln ([r8.1] : List Ca)) Jb)
 (some (.inl (((ap t3 ([r8.1] : List Ca)), t6, t7, (wr .i64 (t8 + 1)), ()), ())))
 none)))
 (some (.inr (.inl ((t3, ()), ())))))
def Rn := Nb fun x : ((Io × NZ) × Unit) => Wl x.1.1 x.1.2.1 x.1.2.2.1 x.1.2.2.2.1
def Es (a0 : Ut) : Option ZG :=
 (ob (Rn (([], a0, ((ln a0 : Nat) : Int), 0, ()), ())) (se (fun y9 => (some (y9.1.1, ()))) (fun z10 => none)))
def Qj (a0 : Ka) : Option Ze :=
 (ob (Jg a0.2.1 1 56) fun r1 =>
 (ob (Jg a0.2.2.1 1 15) fun r2 =>
 (ob (Jg a0.2.2.2.1 1 3) fun r3 =>
 (cond (a0.1 == 0)
 (cond (a0.2.1 == 0)
 (cond (a0.2.2.1 == 0)
 (some ((a0.2.2.2.1 == 0), ()))
 (some (false, ())))
 (some (false, ())))
 (cond (a0.1 == 1)
 (cond (a0.2.1 == 0)
 (cond (a0.2.2.1 == 0)
 (some ((a0.2.2.2.1 == 0), ()))
 (some (false, ())))
 (some (false, ())))
 (cond (a0.1 == 10)
 (cond (a0.2.1 == 0)
 (cond (a0.2.2.1 == 0)
 (some ((a0.2.2.2.1 == 0), ()))
 (some (false, ())))
 (some (false, ())))
 (cond (a0.1 == 2)
 (cond (a0.2.2.2.1 == 0)
 (cond r1.1
 (cond r2.1
 (some (true, ()))
 (some ((a0.2.2.1 == 0), ())))
 (cond (a0.2.1 == 0)
 (cond r2.1
 (cond r2.1
 (some (true, ()))
 (some ((a0.2.2.1 == 0), ())))
 (some (false, ())))
 (some (false, ()))))
 (some (false, ())))
 (cond (a0.1 == 3)
 (cond r3.1
 (cond (a0.2.1 == 0)
 (some ((a0.2.2.1 == 0), ()))
 (some (false, ())))
 (some (false, ())))
 (cond (a0.1 == 4)
 (cond r3.1
 (cond (a0.2.1 == 0)
 (some ((a0.2.2.1 == 0), ()))
 (some (false, ())))
 (some (false, ())))
 (cond (a0.1 == 5)
 (ob (Jg a0.2.2.2.1 0 3) fun r4 =>
 (cond r4.1
 (cond (a0.2.1 == 0)
 (some ((a0.2.2.1 == 0), ()))
 (some (false, ())))
 (some (false, ()))))
 (cond (a0.1 == 9)
 (ob (Jg a0.2.2.2.1 0 3) fun r5 =>
 (cond r5.1
 (cond (a0.2.1 == 0)
 (some ((a0.2.2.1 == 0), ()))
 (some (false, ())))
 (some (false, ()))))
 (cond (a0.1 == 6)
 (cond r1.1
 (cond r2.1
 (some ((a0.2.2.2.1 == 0), ()))
 (some (false, ())))
 (some (false, ())))
 (cond (a0.1 == 7)
 (cond r1.1
 (cond r3.1
 (some ((a0.2.2.1 == 0), ()))
 (some (false, ())))
 (some (false, ())))
 (cond (a0.1 == 8)
 (cond r2.1
 (cond (a0.2.1 == 0)
 (some ((a0.2.2.2.1 == 0), ()))
 (some (false, ())))
 (some (false, ())))
 (some (false, ()))))))))))))))))
def At (t1 : Unit) (t3 : Int) (t4 : Int) (b1 : Ha) : Option ((L8 × Nm) ⊕ ((SG × Nm) ⊕ Uw)) :=
 (ob (Wc b1.2.1 t3) fun x40 =>
 (cond (decide (t4 < ((ln x40 : Nat) : Int)))
 (ob (Wc b1.2.1 t3) fun x41 =>
 (ob (Wc x41 t4) fun x42 =>
 (ob (Qj x42) fun r43 =>
 (cond (!r43.1)
 (some (.inr (.inr ((false, ()), ()))))
 (cond (x42.1 == 1)
 (cond (t3 == 0)
 (some (.inr (.inr ((false, ()), ()))))
 (cond (x42.1 != 9)
 (cond (decide (x42.2.2.2.1 ≥ ((ln b1.2.1 : Nat) : Int)))
 (some (.inr (.inr ((false, ()), ()))))
 (some (.inl (((), t3, (wr .i64 (t4 + 1)), ()), (b1, ())))))
 (some (.inl (((), t3, (wr .i64 (t4 + 1)), ()), (b1, ()))))))
 (cond (x42.1 != 9)
 (cond (decide (x42.2.2.2.1 ≥ ((ln b1.2.1 : Nat) : Int)))
 (some (.inr (.inr ((false, ()), ()))))
 (some (.inl (((), t3, (wr .i64 (t4 + 1)), ()), (b1, ())))))
 (some (.inl (((), t3, (wr .i64 (t4 + 1)), ()), (b1, ()))))))))))
 (some (.inr (.inl (((), t3, ()), (b1, ())))))))
def Zj := Nb fun x : (L8 × Nm) => At x.1.1 x.1.2.1 x.1.2.2.1 x.2.1
def Zs (t1 : Unit) (t3 : Int) (b1 : Ha) : Option ((SG × Nm) ⊕ ((Ni × Nm) ⊕ Uw)) :=
 (cond (decide (t3 < ((ln b1.2.1 : Nat) : Int)))
 (ob (Wc b1.2.1 t3) fun x31 =>
 (cond (((ln x31 : Nat) : Int) != b1.1)
 (some (.inr (.inr ((false, ()), ()))))
 (ob (Zj (((), t3, 0, ()), (b1, ()))) (se (fun y44 => (some (.inl (((), (wr .i64 (y44.1.2.1 + 1)), ()), (y44.2.1, ()))))) (fun z45 => (some (.inr (.inr ((z45.1.1, ()), ())))))))))
 (some (.inr (.inl (((), ()), (b1, ()))))))
def Yj := Nb fun x : (SG × Nm) => Zs x.1.1 x.1.2.1 x.2.1
def Ei (a0 : Ha) : Option Ze :=
 (ob (Yj (((), 0, ()), (a0, ()))) (se (fun y46 => (ob (Jg y46.2.1.1 1 32) fun r48 =>
 (cond r48.1
 (ob (Jg ((ln y46.2.1.2.1 : Nat) : Int) 1 4) fun r49 =>
 (some (r49.1, ())))
 (some (false, ()))))) (fun z47 => (some (z47.1.1, ())))))
def Fk (a0 : Int) : Option Ze :=
 (cond (decide (a0 ≥ 1))
 (some ((decide (a0 ≤ 56)), ()))
 (some (false, ())))
def Rm (a0 : Int) : Option Ze :=
 (cond (decide (a0 ≥ 1))
 (some ((decide (a0 ≤ 15)), ()))
 (some (false, ())))
def Wn (a0 : Int) : Option Ze :=
 (cond (decide (a0 ≥ 1))
 (some ((decide (a0 ≤ 3)), ()))
 (some (false, ())))
def Ai (a0 : Ka) : Option Ze :=
 (cond (a0.1 == 0)
 (cond (a0.2.1 == 0)
 (cond (a0.2.2.1 == 0)
 (some ((a0.2.2.2.1 == 0), ()))
 (some (false, ())))
 (some (false, ())))
 (cond (a0.1 == 1)
 (cond (a0.2.1 == 0)
 (cond (a0.2.2.1 == 0)
 (some ((a0.2.2.2.1 == 0), ()))
 (some (false, ())))
 (some (false, ())))
 (cond (a0.1 == 10)
 (cond (a0.2.1 == 0)
 (cond (a0.2.2.1 == 0)
 (some ((a0.2.2.2.1 == 0), ()))
 (some (false, ())))
 (some (false, ())))
 (cond (a0.1 == 2)
 (cond (a0.2.2.2.1 == 0)
 (cond (a0.2.1 == 0)
 (cond (a0.2.2.1 == 0)
 (cond (a0.2.1 != 0)
 (some (true, ()))
 (some ((a0.2.2.1 != 0), ())))
 (ob (Rm a0.2.2.1) fun r1 =>
 (cond r1.1
 (cond (a0.2.1 != 0)
 (some (true, ()))
 (some ((a0.2.2.1 != 0), ())))
 (some (false, ())))))
 (ob (Fk a0.2.1) fun r2 =>
 (cond r2.1
 (cond (a0.2.2.1 == 0)
 (cond (a0.2.1 != 0)
 (some (true, ()))
 (some ((a0.2.2.1 != 0), ())))
 (ob (Rm a0.2.2.1) fun r3 =>
 (cond r3.1
 (cond (a0.2.1 != 0)
 (some (true, ()))
 (some ((a0.2.2.1 != 0), ())))
 (some (false, ())))))
 (some (false, ())))))
 (some (false, ())))
 (cond (a0.1 == 3)
 (cond (a0.2.1 == 0)
 (cond (a0.2.2.1 == 0)
 (ob (Wn a0.2.2.2.1) fun r4 =>
 (some (r4.1, ())))
 (some (false, ())))
 (some (false, ())))
 (cond (a0.1 == 4)
 (cond (a0.2.1 == 0)
 (cond (a0.2.2.1 == 0)
 (ob (Wn a0.2.2.2.1) fun r5 =>
 (some (r5.1, ())))
 (some (false, ())))
 (some (false, ())))
 (cond (a0.1 == 5)
 (cond (a0.2.1 == 0)
 (cond (a0.2.2.1 == 0)
 (cond (decide (a0.2.2.2.1 ≥ 0))
 (some ((decide (a0.2.2.2.1 ≤ 3)), ()))
 (some (false, ())))
 (some (false, ())))
 (some (false, ())))
 (cond (a0.1 == 9)
 (cond (a0.2.1 == 0)
 (cond (a0.2.2.1 == 0)
 (cond (decide (a0.2.2.2.1 ≥ 0))
 (some ((decide (a0.2.2.2.1 ≤ 3)), ()))
 (some (false, ())))
 (some (false, ())))
 (some (false, ())))
 (cond (a0.1 == 6)
 (ob (Fk a0.2.1) fun r6 =>
 (cond r6.1
 (ob (Rm a0.2.2.1) fun r7 =>
 (cond r7.1
 (some ((a0.2.2.2.1 == 0), ()))
 (some (false, ()))))
 (some (false, ()))))
 (cond (a0.1 == 7)
 (ob (Fk a0.2.1) fun r8 =>
 (cond r8.1
 (cond (a0.2.2.1 == 0)
 (ob (Wn a0.2.2.2.1) fun r9 =>
 (some (r9.1, ())))
 (some (false, ())))
 (some (false, ()))))
 (cond (a0.1 == 8)
 (cond (a0.2.1 == 0)
 (ob (Rm a0.2.2.1) fun r10 =>
 (cond r10.1
 (some ((a0.2.2.2.1 == 0), ()))
 (some (false, ()))))
 (some (false, ())))
 (some (false, ())))))))))))))
def Us (t1 : Unit) (t3 : Int) (t28 : (List Sl)) (t29 : Int) (t30 : Int) (t40 : Sl) (t41 : Int) (t42 : Int) (b1 : Ha) : Option (((Unit × P8) × Nm) ⊕ (((Unit × WK) × Nm) ⊕ Uw)) :=
 (cond (decide (t42 < t41))
 (ob (Wc t40 t42) fun x24 =>
 (ob (Ai x24) fun r25 =>
 (cond (!r25.1)
 (some (.inr (.inr ((false, ()), ()))))
 (cond (t3 == 0)
 (cond (x24.1 == 1)
 (some (.inr (.inr ((false, ()), ()))))
 (cond (x24.1 != 9)
 (cond (decide (x24.2.2.2.1 ≥ ((ln b1.2.1 : Nat) : Int)))
 (some (.inr (.inr ((false, ()), ()))))
 (some (.inl (((), t3, t28, t29, t30, t40, t41, (wr .i64 (t42 + 1)), ()), (b1, ())))))
 (some (.inl (((), t3, t28, t29, t30, t40, t41, (wr .i64 (t42 + 1)), ()), (b1, ()))))))
 (cond (x24.1 != 9)
 (cond (decide (x24.2.2.2.1 ≥ ((ln b1.2.1 : Nat) : Int)))
 (some (.inr (.inr ((false, ()), ()))))
 (some (.inl (((), t3, t28, t29, t30, t40, t41, (wr .i64 (t42 + 1)), ()), (b1, ())))))
 (some (.inl (((), t3, t28, t29, t30, t40, t41, (wr .i64 (t42 + 1)), ()), (b1, ())))))))))
 (some (.inr (.inl (((), t28, t29, t30, ()), (b1, ()))))))
def Wj := Nb fun x : ((Unit × P8) × Nm) => Us x.1.1 x.1.2.1 x.1.2.2.1 x.1.2.2.2.1 x.1.2.2.2.2.1 x.1.2.2.2.2.2.1 x.1.2.2.2.2.2.2.1 x.1.2.2.2.2.2.2.2.1 x.2.1
def Ts (t1 : Unit) (t28 : (List Sl)) (t29 : Int) (t30 : Int) (b1 : Ha) : Option (((Unit × WK) × Nm) ⊕ XG) :=
 (cond (decide (t30 < t29))
 (ob (Wc t28 t30) fun x19 =>
 (cond (((ln x19 : Nat) : Int) != b1.1)
 (some (.inr (.inr ((false, ()), ()))))
 (ob (Wj (((), t30, t28, t29, t30, x19, ((ln x19 : Nat) : Int), 0, ()), (b1, ()))) (se (fun y26 => (some (.inl (((), y26.1.2.1, y26.1.2.2.1, (wr .i64 (y26.1.2.2.2.1 + 1)), ()), (y26.2.1, ()))))) (fun z27 => (some (.inr (.inr ((z27.1.1, ()), ())))))))))
 (some (.inr (.inl ((), ())))))
def Vj := Nb fun x : ((Unit × WK) × Nm) => Ts x.1.1 x.1.2.1 x.1.2.2.1 x.1.2.2.2.1 x.2.1
def Bi (a0 : Ha) : Option Ze :=
 (cond (decide (a0.1 < 1))
 (some (false, ()))
 (cond (decide (a0.1 > 32))
 (some (false, ()))
 (cond (decide (((ln a0.2.1 : Nat) : Int) < 1))
 (some (false, ()))
 (cond (decide (((ln a0.2.1 : Nat) : Int) > 4))
 (some (false, ()))
 (ob (Vj (((), a0.2.1, ((ln a0.2.1 : Nat) : Int), 0, ()), (a0, ()))) (se (fun y28 => (some (true, ()))) (fun z29 => (some (z29.1.1, ())))))))))
def Jw (a0 : Bg) : Option Ze :=
 (some ((decide (((ln a0 : Nat) : Int) > 1048576)), ()))
def Qw (t0 : Bg) (t3 : Int) (t4 : Int) : Option (UB ⊕ ((CX × Unit) ⊕ Ni)) :=
 (cond (decide (t4 < ((ln t0 : Nat) : Int)))
 (cond (decide (t4 < 4000))
 (ob (Wc t0 t4) fun x3 =>
 (some (.inl ((t0, (Rg .i64 (wr .i64 ((wr .i64 ((wr .i64 (t3 * 131)) + (wr .i64 x3))) + 7)) 1073741823), (wr .i64 (t4 + 1)), ()), ()))))
 (some (.inr (.inl ((t0, t3, ()), ())))))
 (some (.inr (.inl ((t0, t3, ()), ())))))
def Dt := Nb fun x : UB => Qw x.1.1 x.1.2.1 x.1.2.2.1
def Dz (a0 : Bg) : Option Cc :=
 (ob (Dt ((a0, (wr .i64 (10729 + ((ln a0 : Nat) : Int))), 0, ()), ())) (se (fun y4 => (some (y4.1.1, 0, y4.1.2.1, ()))) (fun z5 => none)))
def Pt (a0 : Bg) (a1 : Int) : Option Cc :=
 (ob (Dz a0) fun r1 =>
 (some (r1.1, r1.2.1, (wr .i64 (r1.2.2.1 + (wr .i64 (7919 * a1)))), r1.2.2.2)))
def Jk (a0 : Cc) : Option (Cc × Kh) :=
 (cond (decide ((0 : Int) ≤ 33))
 (cond (decide ((0 : Int) ≤ 45))
 (cond (decide (a0.2.1 < ((ln a0.1 : Nat) : Int)))
 (ob (Wc a0.1 a0.2.1) fun x1 =>
 (some ((a0.1, (wr .i64 (a0.2.1 + 1)), (wr .i64 ((wr .i64 (a0.2.2.1 * 6364136223846793005)) + 1442695040888963407)), a0.2.2.2), ((Rg .i64 (wr .i64 ((Rg .i64 (Cj .i64 (BA .i64 (wr .i64 ((wr .i64 (a0.2.2.1 * 6364136223846793005)) + 1442695040888963407)) 33) (BA .i64 (wr .i64 ((wr .i64 (a0.2.2.1 * 6364136223846793005)) + 1442695040888963407)) 45)) 255) + (wr .i64 x1))) 255), ()))))
 (some ((a0.1, a0.2.1, (wr .i64 ((wr .i64 (a0.2.2.1 * 6364136223846793005)) + 1442695040888963407)), a0.2.2.2), ((Rg .i64 (Cj .i64 (BA .i64 (wr .i64 ((wr .i64 (a0.2.2.1 * 6364136223846793005)) + 1442695040888963407)) 33) (BA .i64 (wr .i64 ((wr .i64 (a0.2.2.1 * 6364136223846793005)) + 1442695040888963407)) 45)) 255), ()))))
 none)
 none)
def Zg (a0 : Cc) (a1 : Int) : Option (Cc × Kh) :=
 (cond (decide (a1 ≤ 0))
 (some (a0, (0, ())))
 (cond (decide (a1 ≤ 256))
 (ob (Jk a0) fun r1 =>
 (cond (a1 == 0)
 none
 (some (r1.1, ((Int.tmod r1.2.1 a1), ())))))
 (ob (Jk a0) fun r2 =>
 (ob (Jk r2.1) fun r3 =>
 (ob (Jk r3.1) fun r4 =>
 (ob (Jk r4.1) fun r5 =>
 (cond (a1 == 0)
 none
 (some (r5.1, ((Int.tmod (wr .i64 ((wr .i64 ((wr .i64 ((wr .i64 (r2.2.1 * 16777216)) + (wr .i64 (r3.2.1 * 65536)))) + (wr .i64 (r4.2.1 * 256)))) + r5.2.1)) a1), ()))))))))))
def Ot (a0 : Cc) (a1 : Cv) : Option (Cc × Tl) :=
 (ob (Zg a0 ((ln a1 : Nat) : Int)) fun r1 =>
 (cond (Bj (ln a1) r1.2.1)
 (ob a1[(tn r1.2.1)]? fun x2 =>
 (some (r1.1, (x2, ()))))
 none))
def Rj (t0 : Cv) (t1 : Ad) (t5 : Bg) (t6 : Int) : Option (((Cv × (Ad × CX)) × Unit) ⊕ OQ) :=
 (cond (decide (t6 < ((ln t0 : Nat) : Int)))
 (cond (decide (t6 > 0))
 (cond (bl (ln t5 + ln (Xd t1)) Jb)
 (ob (Wc t0 t6) fun x5 =>
 (cond (bl (ln (ap t5 (Xd t1)) + ln (Xd x5)) Jb)
 (some (.inl ((t0, t1, (ap (ap t5 (Xd t1)) (Xd x5)), (wr .i64 (t6 + 1)), ()), ())))
 none))
 none)
 (ob (Wc t0 t6) fun x6 =>
 (cond (bl (ln t5 + ln (Xd x6)) Jb)
 (some (.inl ((t0, t1, (ap t5 (Xd x6)), (wr .i64 (t6 + 1)), ()), ())))
 none)))
 (some (.inr (.inl ((t5, ()), ())))))
def Ak := Nb fun x : ((Cv × (Ad × CX)) × Unit) => Rj x.1.1 x.1.2.1 x.1.2.2.1 x.1.2.2.2.1
def Mp (a0 : Cv) (a1 : Ad) : Option Tl :=
 (ob (Ak ((a0, a1, [], 0, ()), ())) (se (fun y7 => (some ((Pf y7.1.1), ()))) (fun z8 => none)))
def Fj (t0 : Ad) (t1 : Int) (t5 : Cv) (t6 : Int) (t7 : Int) : Option (R8 ⊕ ((DQ × Unit) ⊕ Ni)) :=
 (cond (decide (t7 ≤ ((ln t0 : Nat) : Int)))
 (cond (t7 == ((ln t0 : Nat) : Int))
 (cond (Pd (ln t0) t6 t7)
 (cond (bl (ln t5 + ln ([(Xa t0 (tn t6) (tn t7))] : List Ad)) Jb)
 (some (.inl ((t0, t1, (ap t5 ([(Xa t0 (tn t6) (tn t7))] : List Ad)), (wr .i64 (t7 + 1)), (wr .i64 (t7 + 1)), ()), ())))
 none)
 none)
 (ob (Wc t0 t7) fun c3 =>
 (cond (((UInt8.toNat c3 : Nat) : Int) == t1)
 (cond (Pd (ln t0) t6 t7)
 (cond (bl (ln t5 + ln ([(Xa t0 (tn t6) (tn t7))] : List Ad)) Jb)
 (some (.inl ((t0, t1, (ap t5 ([(Xa t0 (tn t6) (tn t7))] : List Ad)), (wr .i64 (t7 + 1)), (wr .i64 (t7 + 1)), ()), ())))
 none)
 none)
 (some (.inl ((t0, t1, t5, t6, (wr .i64 (t7 + 1)), ()), ()))))))
 (some (.inr (.inl ((t5, ()), ())))))
def Eg := Nb fun x : R8 => Fj x.1.1 x.1.2.1 x.1.2.2.1 x.1.2.2.2.1 x.1.2.2.2.2.1
def Ug (a0 : Ad) (a1 : Int) : Option DQ :=
 (ob (Eg ((a0, a1, [], 0, 0, ()), ())) (se (fun y4 => (some (y4.1.1, ()))) (fun z5 => none)))
def Yv : Option DQ :=
 (ob (Ug Hy 32) fun r1 =>
 (some (r1.1, ())))
def Gf (a0 : Int) : Option Tl :=
 (ob (Jg a0 1 56) fun r1 =>
 (cond (!r1.1)
 (some ([], ()))
 (ob Yv fun r2 =>
 (cond (Bj (ln r2.1) (wr .i64 (a0 - 1)))
 (ob r2.1[(tn (wr .i64 (a0 - 1)))]? fun x3 =>
 (some (x3, ())))
 none))))
def Tq (t0 : Ad) (t3 : Int) : Option ((Vw × Unit) ⊕ TC) :=
 (cond (decide (t3 ≤ 56))
 (ob (Gf t3) fun r3 =>
 (cond (r3.1 == t0)
 (some (.inr (.inr ((t3, ()), ()))))
 (some (.inl ((t0, (wr .i64 (t3 + 1)), ()), ())))))
 (some (.inr (.inl ((), ())))))
def Dj := Nb fun x : (Vw × Unit) => Tq x.1.1 x.1.2.1
def Xm (a0 : Ad) : Option Kh :=
 (ob (Dj ((a0, 1, ()), ())) (se (fun y4 => (some (0, ()))) (fun z5 => (some (z5.1.1, ())))))
def Im (t0 : Int) (t3 : Ad) (t4 : Int) : Option (VK ⊕ (((Int × Tl) × Unit) ⊕ Ni)) :=
 (cond (t4 != 0)
 (cond ((10 : Int) == 0)
 none
 (cond (decide ((Int.tmod t4 10) < 0))
 (cond (bl (ln (Pf ([(wr .u8 (wr .i64 (48 + (wr .i64 (0 - (Int.tmod t4 10))))))] : List Int)) + ln t3) Jb)
 (cond ((10 : Int) == 0)
 none
 (some (.inl ((t0, (ap (Pf ([(wr .u8 (wr .i64 (48 + (wr .i64 (0 - (Int.tmod t4 10))))))] : List Int)) t3), (wr .i64 (Int.tdiv t4 10)), ()), ()))))
 none)
 (cond (bl (ln (Pf ([(wr .u8 (wr .i64 (48 + (Int.tmod t4 10))))] : List Int)) + ln t3) Jb)
 (cond ((10 : Int) == 0)
 none
 (some (.inl ((t0, (ap (Pf ([(wr .u8 (wr .i64 (48 + (Int.tmod t4 10))))] : List Int)) t3), (wr .i64 (Int.tdiv t4 10)), ()), ()))))
 none)))
 (some (.inr (.inl ((t0, t3, ()), ())))))
def Dg := Nb fun x : VK => Im x.1.1 x.1.2.1 x.1.2.2.1
def Hd (a0 : Int) : Option Tl :=
 (cond (a0 == 0)
 (some (([48] : List UInt8), ()))
 (ob (Dg ((a0, [], a0, ()), ())) (se (fun y1 => (cond (decide (y1.1.1 < 0))
 (cond (bl (ln ([45] : List UInt8) + ln y1.1.2.1) Jb)
 (some ((ap ([45] : List UInt8) y1.1.2.1), ()))
 none)
 (some (y1.1.2.1, ())))) (fun z2 => none))))
def Sj (t0 : Ad) (t4 : Ad) (t5 : Int) (t6 : Int) : Option (((Ad × (Ad × Ab)) × Unit) ⊕ (((Ad × Vw) × Unit) ⊕ MZ)) :=
 (cond (decide (t6 < ((ln t4 : Nat) : Int)))
 (ob (Wc t4 t6) fun c34 =>
 (cond (decide (((UInt8.toNat c34 : Nat) : Int) < 48))
 (some (.inr (.inr ((0, false, ()), ()))))
 (ob (Wc t4 t6) fun c35 =>
 (cond (decide (((UInt8.toNat c35 : Nat) : Int) > 57))
 (some (.inr (.inr ((0, false, ()), ()))))
 (ob (Wc t4 t6) fun c36 =>
 (some (.inl ((t0, t4, (wr .i64 ((wr .i64 ((wr .i64 (10 * t5)) + (wr .i64 ((UInt8.toNat c36 : Nat) : Int)))) - 48)), (wr .i64 (t6 + 1)), ()), ()))))))))
 (some (.inr (.inl ((t0, t4, t5, ()), ())))))
def Te := Nb fun x : ((Ad × (Ad × Ab)) × Unit) => Sj x.1.1 x.1.2.1 x.1.2.2.1 x.1.2.2.2.1
def Np (a0 : Ad) : Option BX :=
 (cond (decide (((ln a0 : Nat) : Int) > 0))
 (ob (Wc a0 0) fun c1 =>
 (cond (((UInt8.toNat c1 : Nat) : Int) == 45)
 (cond (Pd (ln a0) 1 ((ln a0 : Nat) : Int))
 (cond (decide (((ln (Xa a0 (tn 1) (tn ((ln a0 : Nat) : Int))) : Nat) : Int) < 1))
 (some (0, false, ()))
 (cond (decide (((ln (Xa a0 (tn 1) (tn ((ln a0 : Nat) : Int))) : Nat) : Int) > 9))
 (some (0, false, ()))
 (ob (Te ((a0, (Xa a0 (tn 1) (tn ((ln a0 : Nat) : Int))), 0, 0, ()), ())) (se (fun y11 => (cond (decide (((ln y11.1.2.1 : Nat) : Int) < ((ln y11.1.1 : Nat) : Int)))
 (ob (Hd (wr .i64 (0 - y11.1.2.2.1))) fun r13 =>
 (cond (r13.1 != y11.1.1)
 (some (0, false, ()))
 (some ((wr .i64 (0 - y11.1.2.2.1)), true, ()))))
 (ob (Hd y11.1.2.2.1) fun r14 =>
 (cond (r14.1 != y11.1.1)
 (some (0, false, ()))
 (some (y11.1.2.2.1, true, ())))))) (fun z12 => (some z12.1))))))
 none)
 (cond (decide (((ln a0 : Nat) : Int) < 1))
 (some (0, false, ()))
 (cond (decide (((ln a0 : Nat) : Int) > 9))
 (some (0, false, ()))
 (ob (Te ((a0, a0, 0, 0, ()), ())) (se (fun y24 => (cond (decide (((ln y24.1.2.1 : Nat) : Int) < ((ln y24.1.1 : Nat) : Int)))
 (ob (Hd (wr .i64 (0 - y24.1.2.2.1))) fun r26 =>
 (cond (r26.1 != y24.1.1)
 (some (0, false, ()))
 (some ((wr .i64 (0 - y24.1.2.2.1)), true, ()))))
 (ob (Hd y24.1.2.2.1) fun r27 =>
 (cond (r27.1 != y24.1.1)
 (some (0, false, ()))
 (some (y24.1.2.2.1, true, ())))))) (fun z25 => (some z25.1))))))))
 (cond (decide (((ln a0 : Nat) : Int) < 1))
 (some (0, false, ()))
 (cond (decide (((ln a0 : Nat) : Int) > 9))
 (some (0, false, ()))
 (ob (Te ((a0, a0, 0, 0, ()), ())) (se (fun y37 => (cond (decide (((ln y37.1.2.1 : Nat) : Int) < ((ln y37.1.1 : Nat) : Int)))
 (ob (Hd (wr .i64 (0 - y37.1.2.2.1))) fun r39 =>
 (cond (r39.1 != y37.1.1)
 (some (0, false, ()))
 (some ((wr .i64 (0 - y37.1.2.2.1)), true, ()))))
 (ob (Hd y37.1.2.2.1) fun r40 =>
 (cond (r40.1 != y37.1.1)
 (some (0, false, ()))
 (some (y37.1.2.2.1, true, ())))))) (fun z38 => (some z38.1)))))))
def Il (t0 : Int) (t3 : Ad) (t4 : Int) : Option (VK ⊕ LZ) :=
 (cond (decide (t4 < 4))
 (ob (Jg t0 1 15) fun r3 =>
 (cond r3.1
 (cond (decide (0 ≤ t4))
 (cond ((Rg .i64 (BA .i64 t0 t4) 1) == 1)
 (cond (Pd (ln Gy) t4 (wr .i64 (t4 + 1)))
 (cond (bl (ln t3 + ln (Xa Gy (tn t4) (tn (wr .i64 (t4 + 1))))) Jb)
 (some (.inl ((t0, (ap t3 (Xa Gy (tn t4) (tn (wr .i64 (t4 + 1))))), (wr .i64 (t4 + 1)), ()), ())))
 none)
 none)
 (some (.inl ((t0, t3, (wr .i64 (t4 + 1)), ()), ()))))
 none)
 (some (.inr (.inl ((t3, ()), ()))))))
 (some (.inr (.inl ((t3, ()), ())))))
def Ym := Nb fun x : VK => Il x.1.1 x.1.2.1 x.1.2.2.1
def Vh (a0 : Int) : Option Tl :=
 (ob (Ym ((a0, [], 0, ()), ())) (se (fun y4 => (some (y4.1.1, ()))) (fun z5 => none)))
def Km (t0 : Ad) (t3 : Int) : Option ((Vw × Unit) ⊕ TC) :=
 (cond (decide (t3 ≤ 15))
 (ob (Vh t3) fun r3 =>
 (cond (r3.1 == t0)
 (some (.inr (.inr ((t3, ()), ()))))
 (some (.inl ((t0, (wr .i64 (t3 + 1)), ()), ())))))
 (some (.inr (.inl ((), ())))))
def Jh := Nb fun x : (Vw × Unit) => Km x.1.1 x.1.2.1
def Ok (a0 : Ad) : Option Kh :=
 (ob (Jh ((a0, 1, ()), ())) (se (fun y4 => (some (0, ()))) (fun z5 => (some (z5.1.1, ())))))
def Hx (a0 : Int) (a1 : Ad) (a2 : Ad) : Option YG :=
 (ob (Np a2) fun r1 =>
 (cond (a1 == ([109, 111] : List UInt8))
 (some ((3, 0, 0, r1.1, ()), ()))
 (cond (a1 == ([116, 103] : List UInt8))
 (some ((4, 0, 0, r1.1, ()), ()))
 (cond (a1 == ([116, 111] : List UInt8))
 (some ((5, 0, 0, r1.1, ()), ()))
 (cond (a1 == Iy)
 (some ((9, 0, 0, r1.1, ()), ()))
 (ob (Ok a2) fun r2 =>
 (some ((a0, 0, r2.1, 0, ()), ()))))))))
def Rd (a0 : Ka) : Option Tl :=
 (ob (Qj a0) fun r1 =>
 (cond (!r1.1)
 (some ([], ()))
 (cond (a0.1 == 0)
 (some (Bl, ()))
 (cond (a0.1 == 1)
 (some (Zr, ()))
 (cond (a0.1 == 3)
 (ob (Hd a0.2.2.2.1) fun r2 =>
 (cond (bl (ln ([109, 111, 58] : List UInt8) + ln r2.1) Jb)
 (some ((ap ([109, 111, 58] : List UInt8) r2.1), ()))
 none))
 (cond (a0.1 == 4)
 (ob (Hd a0.2.2.2.1) fun r3 =>
 (cond (bl (ln ([116, 103, 58] : List UInt8) + ln r3.1) Jb)
 (some ((ap ([116, 103, 58] : List UInt8) r3.1), ()))
 none))
 (cond (a0.1 == 5)
 (ob (Hd a0.2.2.2.1) fun r4 =>
 (cond (bl (ln ([116, 111, 58] : List UInt8) + ln r4.1) Jb)
 (some ((ap ([116, 111, 58] : List UInt8) r4.1), ()))
 none))
 (cond (a0.1 == 6)
 (ob (Vh a0.2.2.1) fun r5 =>
 (cond (bl (ln r5.1 + ln ([47] : List UInt8)) Jb)
 (ob (Gf a0.2.1) fun r6 =>
 (cond (bl (ln (ap r5.1 ([47] : List UInt8)) + ln r6.1) Jb)
 (some ((ap (ap r5.1 ([47] : List UInt8)) r6.1), ()))
 none))
 none))
 (cond (a0.1 == 7)
 (ob (Hd a0.2.2.2.1) fun r7 =>
 (cond (bl (ln r7.1 + ln ([47] : List UInt8)) Jb)
 (ob (Gf a0.2.1) fun r8 =>
 (cond (bl (ln (ap r7.1 ([47] : List UInt8)) + ln r8.1) Jb)
 (some ((ap (ap r7.1 ([47] : List UInt8)) r8.1), ()))
 none))
 none))
 (cond (a0.1 == 8)
 (ob (Vh a0.2.2.1) fun r9 =>
 (cond (bl (ln Qp + ln r9.1) Jb)
 (some ((ap Qp r9.1), ()))
 none))
 (cond (a0.1 == 9)
 (ob (Hd a0.2.2.2.1) fun r10 =>
 (cond (bl (ln Rp + ln r10.1) Jb)
 (some ((ap Rp r10.1), ()))
 none))
 (cond (a0.1 == 10)
 (some (Pp, ()))
 (cond (a0.2.2.1 == 0)
 (ob (Gf a0.2.1) fun r11 =>
 (some (r11.1, ())))
 (ob (Vh a0.2.2.1) fun r12 =>
 (cond (bl (ln r12.1 + ln ([45] : List UInt8)) Jb)
 (ob (Gf a0.2.1) fun r13 =>
 (cond (bl (ln (ap r12.1 ([45] : List UInt8)) + ln r13.1) Jb)
 (some ((ap (ap r12.1 ([45] : List UInt8)) r13.1), ()))
 none))
 none)))))))))))))))
def Zo (a0 : Ad) : Option (Ka × Ze) :=
 (ob (Xm a0) fun r1 =>
 (ob (Ug a0 58) fun r2 =>
 (ob (Ug a0 47) fun r3 =>
 (ob (Ug a0 45) fun r4 =>
 (cond (a0 == Bl)
 (cond (a0 == [])
 (some ((0, 0, 0, 0, ()), false, ()))
 (ob (Rd (0, 0, 0, 0, ())) fun r5 =>
 (cond (r5.1 != a0)
 (some ((0, 0, 0, 0, ()), false, ()))
 (some ((0, 0, 0, 0, ()), true, ())))))
 (cond (a0 == Zr)
 (cond (a0 == [])
 (some ((0, 0, 0, 0, ()), false, ()))
 (ob (Rd (1, 0, 0, 0, ())) fun r6 =>
 (cond (r6.1 != a0)
 (some ((0, 0, 0, 0, ()), false, ()))
 (some ((1, 0, 0, 0, ()), true, ())))))
 (cond (a0 == Pp)
 (cond (a0 == [])
 (some ((0, 0, 0, 0, ()), false, ()))
 (ob (Rd (10, 0, 0, 0, ())) fun r7 =>
 (cond (r7.1 != a0)
 (some ((0, 0, 0, 0, ()), false, ()))
 (some ((10, 0, 0, 0, ()), true, ())))))
 (cond (((ln r2.1 : Nat) : Int) == 2)
 (cond (Bj (ln r2.1) 0)
 (ob r2.1[(tn 0)]? fun x8 =>
 (cond (Bj (ln r2.1) 1)
 (ob r2.1[(tn 1)]? fun x9 =>
 (ob (Hx 8 x8 x9) fun r10 =>
 (cond (a0 == [])
 (some ((0, 0, 0, 0, ()), false, ()))
 (ob (Rd r10.1) fun r11 =>
 (cond (r11.1 != a0)
 (some ((0, 0, 0, 0, ()), false, ()))
 (some (r10.1, true, ())))))))
 none))
 none)
 (cond (((ln r3.1 : Nat) : Int) == 2)
 (cond (Bj (ln r3.1) 0)
 (ob r3.1[(tn 0)]? fun x12 =>
 (ob (Np x12) fun r13 =>
 (cond (Bj (ln r3.1) 1)
 (ob r3.1[(tn 1)]? fun x14 =>
 (ob (Xm x14) fun r15 =>
 (cond (Bj (ln r3.1) 0)
 (ob r3.1[(tn 0)]? fun x16 =>
 (ob (Ok x16) fun r17 =>
 (cond r13.2.1
 (cond (Bj (ln r3.1) 1)
 (ob r3.1[(tn 1)]? fun x18 =>
 (ob (Xm x18) fun r19 =>
 (cond (a0 == [])
 (some ((0, 0, 0, 0, ()), false, ()))
 (ob (Rd (7, r19.1, 0, r13.1, ())) fun r20 =>
 (cond (r20.1 != a0)
 (some ((0, 0, 0, 0, ()), false, ()))
 (some ((7, r19.1, 0, r13.1, ()), true, ())))))))
 none)
 (cond (a0 == [])
 (some ((0, 0, 0, 0, ()), false, ()))
 (ob (Rd (6, r15.1, r17.1, 0, ())) fun r21 =>
 (cond (r21.1 != a0)
 (some ((0, 0, 0, 0, ()), false, ()))
 (some ((6, r15.1, r17.1, 0, ()), true, ()))))))))
 none)))
 none)))
 none)
 (cond (((ln r4.1 : Nat) : Int) == 2)
 (cond (Bj (ln r4.1) 1)
 (ob r4.1[(tn 1)]? fun x22 =>
 (ob (Xm x22) fun r23 =>
 (cond (Bj (ln r4.1) 0)
 (ob r4.1[(tn 0)]? fun x24 =>
 (ob (Ok x24) fun r25 =>
 (cond (a0 == [])
 (some ((0, 0, 0, 0, ()), false, ()))
 (ob (Rd (2, r23.1, r25.1, 0, ())) fun r26 =>
 (cond (r26.1 != a0)
 (some ((0, 0, 0, 0, ()), false, ()))
 (some ((2, r23.1, r25.1, 0, ()), true, ())))))))
 none)))
 none)
 (cond (a0 == [])
 (some ((0, 0, 0, 0, ()), false, ()))
 (ob (Rd (2, r1.1, 0, 0, ())) fun r27 =>
 (cond (r27.1 != a0)
 (some ((0, 0, 0, 0, ()), false, ()))
 (some ((2, r1.1, 0, 0, ()), true, ())))))))))))))))
def Bk (t2 : Unit) (t4 : Unit) (t5 : Sl) (t6 : Cv) (t7 : Int) (b2 : Ha) (b4 : Ha) : Option (((Unit × (Unit × (Sl × CQ))) × TG) ⊕ ((N8 × TG) ⊕ ((Unit × Ze) × Nm))) :=
 (cond (decide (t7 < ((ln t6 : Nat) : Int)))
 (cond (Bj (ln t6) t7)
 (ob t6[(tn t7)]? fun x11 =>
 (cond (x11 == ([124] : List UInt8))
 (cond (bl (ln b4.2.1 + ln ([t5] : List Sl)) Jb)
 (some (.inl (((), (), [], t6, (wr .i64 (t7 + 1)), ()), (b2, (((ln t5 : Nat) : Int), (ap b4.2.1 ([t5] : List Sl)), ()), ()))))
 none)
 (cond (Bj (ln t6) t7)
 (ob t6[(tn t7)]? fun x12 =>
 (ob (Zo x12) fun r13 =>
 (cond (!r13.2.1)
 (some (.inr (.inr (((), false, ()), ((0, [], ()), ())))))
 (cond (bl (ln t5 + ln ([r13.1] : List Ka)) Jb)
 (some (.inl (((), (), (ap t5 ([r13.1] : List Ka)), t6, (wr .i64 (t7 + 1)), ()), (b2, b4, ()))))
 none))))
 none)))
 none)
 (some (.inr (.inl (((), (), ()), (b2, b4, ()))))))
def Ml := Nb fun x : ((Unit × (Unit × (Sl × CQ))) × TG) => Bk x.1.1 x.1.2.1 x.1.2.2.1 x.1.2.2.2.1 x.1.2.2.2.2.1 x.2.1 x.2.2.1
def Ap (a0 : Ad) : Option (Ha × Ze) :=
 (ob (Ug a0 32) fun r1 =>
 (cond (bl (ln r1.1 + ln ([([124] : List UInt8)] : List Ad)) Jb)
 (ob (Ml (((), (), [], (ap r1.1 ([([124] : List UInt8)] : List Ad)), 0, ()), ((0, [], ()), (0, [], ()), ()))) (se (fun y14 => (ob (Ei y14.2.2.1) fun r16 =>
 (cond (!r16.1)
 (some ((0, [], ()), false, ()))
 (some (y14.2.2.1, true, ()))))) (fun z15 => (some (z15.2.1, z15.1.2.1, ())))))
 none))
def Wv (t0 : Unit) (t2 : Unit) (t3 : Cv) (t4 : Int) (b500000 : Cc) (b2 : Ha) : Option (((Unit × (Unit × CQ)) × AH) ⊕ (((Unit × (Unit × DQ)) × AH) ⊕ Ni)) :=
 (cond (decide (t4 > 0))
 (ob (Ot b500000 ([([97] : List UInt8), ([98] : List UInt8), ([122] : List UInt8), ([83, 45] : List UInt8), ([83, 47, 97] : List UInt8), ([67, 47, 113] : List UInt8), ([83, 45, 113] : List UInt8), ([49] : List UInt8), ([50] : List UInt8), Og, Mg, Lg, Ng, KE, ([83, 45, 49] : List UInt8), JE, Bl] : List Ad)) fun r4 =>
 (cond (bl (ln t3 + ln ([r4.2.1] : List Ad)) Jb)
 (some (.inl (((), (), (ap t3 ([r4.2.1] : List Ad)), (wr .i64 (t4 - 1)), ()), (r4.1, b2, ()))))
 none))
 (some (.inr (.inl (((), (), t3, ()), (b500000, b2, ()))))))
def Xr := Nb fun x : ((Unit × (Unit × CQ)) × AH) => Wv x.1.1 x.1.2.1 x.1.2.2.1 x.1.2.2.2.1 x.2.1 x.2.2.1
def Gx (a0 : Cc) : Option AH :=
 (ob (Zg a0 7) fun r1 =>
 (ob (Xr (((), (), [], (wr .i64 (2 + r1.2.1)), ()), (r1.1, (0, [], ()), ()))) (se (fun y5 => (ob (Mp y5.1.2.2.1 ([32] : List UInt8)) fun r7 =>
 (ob (Ap r7.1) fun r8 =>
 (some (y5.2.1, (r8.1, ())))))) (fun z6 => none))))
def Pu (t0 : Unit) (t5 : Ad) (t6 : Int) (b500000 : Cc) : Option (((Unit × Vw) × UB) ⊕ (((Unit × Tl) × UB) ⊕ Ni)) :=
 (cond (decide (t6 > 0))
 (ob (Ot b500000 ([([97] : List UInt8), ([98] : List UInt8), ([90] : List UInt8), ([122] : List UInt8), ([49] : List UInt8), ([48] : List UInt8), ([33] : List UInt8), ([41] : List UInt8), ([32] : List UInt8), ([45] : List UInt8), ([95] : List UInt8), ([61] : List UInt8), ([43] : List UInt8), ([10] : List UInt8), ([9] : List UInt8), ([113] : List UInt8), ([81] : List UInt8)] : List Ad)) fun r4 =>
 (cond (bl (ln t5 + ln r4.2.1) Jb)
 (some (.inl (((), (ap t5 r4.2.1), (wr .i64 (t6 - 1)), ()), (r4.1, ()))))
 none))
 (some (.inr (.inl (((), t5, ()), (b500000, ()))))))
def Fq := Nb fun x : ((Unit × Vw) × UB) => Pu x.1.1 x.1.2.1 x.1.2.2.1 x.2.1
def Vv (a0 : Cc) (a1 : Int) : Option (Cc × Tl) :=
 (ob (Zg a0 (wr .i64 (a1 + 1))) fun r1 =>
 (ob (Fq (((), [], r1.2.1, ()), (r1.1, ()))) (se (fun y5 => (some (y5.2.1, (y5.1.2.1, ())))) (fun z6 => none))))
def Yi (a0 : Int) (a1 : Int) : Option Tl :=
 (ob (Jg a0 1 56) fun r1 =>
 (cond (!r1.1)
 (some ([], ()))
 (ob (Jg a1 0 15) fun r2 =>
 (cond (!r2.1)
 (some ([], ()))
 (cond ((Gj .i64 a1 2) != 0)
 (some ([], ()))
 (cond (decide (a0 ≤ 26))
 (cond (decide ((Rg .i64 a1 2) > 0))
 (some ((Pf ([(wr .u8 (wr .i64 (64 + a0)))] : List Int)), ()))
 (cond (decide (a0 ≤ 36))
 (cond (decide ((Rg .i64 a1 2) > 0))
 (cond (Pd (ln Pg) (wr .i64 (a0 - 27)) (wr .i64 (a0 - 26)))
 (some ((Xa Pg (tn (wr .i64 (a0 - 27))) (tn (wr .i64 (a0 - 26)))), ()))
 none)
 (cond (decide (a0 ≤ 36))
 (ob (Gf a0) fun r3 =>
 (some (r3.1, ())))
 (cond (a0 == 37)
 (some (([10] : List UInt8), ()))
 (cond (a0 == 40)
 (some (([9] : List UInt8), ()))
 (cond (a0 == 41)
 (some (([32] : List UInt8), ()))
 (cond (a0 == 42)
 (cond (decide ((Rg .i64 a1 2) > 0))
 (some (([95] : List UInt8), ()))
 (cond (a0 == 42)
 (some (([45] : List UInt8), ()))
 (cond (a0 == 43)
 (cond (decide ((Rg .i64 a1 2) > 0))
 (some (([43] : List UInt8), ()))
 (cond (a0 == 43)
 (some (([61] : List UInt8), ()))
 (some ([], ()))))
 (cond (a0 == 43)
 (some (([61] : List UInt8), ()))
 (some ([], ()))))))
 (cond (a0 == 42)
 (some (([45] : List UInt8), ()))
 (cond (a0 == 43)
 (cond (decide ((Rg .i64 a1 2) > 0))
 (some (([43] : List UInt8), ()))
 (cond (a0 == 43)
 (some (([61] : List UInt8), ()))
 (some ([], ()))))
 (cond (a0 == 43)
 (some (([61] : List UInt8), ()))
 (some ([], ())))))))))))
 (cond (decide (a0 ≤ 36))
 (ob (Gf a0) fun r4 =>
 (some (r4.1, ())))
 (cond (a0 == 37)
 (some (([10] : List UInt8), ()))
 (cond (a0 == 40)
 (some (([9] : List UInt8), ()))
 (cond (a0 == 41)
 (some (([32] : List UInt8), ()))
 (cond (a0 == 42)
 (cond (decide ((Rg .i64 a1 2) > 0))
 (some (([95] : List UInt8), ()))
 (cond (a0 == 42)
 (some (([45] : List UInt8), ()))
 (cond (a0 == 43)
 (cond (decide ((Rg .i64 a1 2) > 0))
 (some (([43] : List UInt8), ()))
 (cond (a0 == 43)
 (some (([61] : List UInt8), ()))
 (some ([], ()))))
 (cond (a0 == 43)
 (some (([61] : List UInt8), ()))
 (some ([], ()))))))
 (cond (a0 == 42)
 (some (([45] : List UInt8), ()))
 (cond (a0 == 43)
 (cond (decide ((Rg .i64 a1 2) > 0))
 (some (([43] : List UInt8), ()))
 (cond (a0 == 43)
 (some (([61] : List UInt8), ()))
 (some ([], ()))))
 (cond (a0 == 43)
 (some (([61] : List UInt8), ()))
 (some ([], ()))))))))))))
 (cond (decide (a0 ≤ 36))
 (cond (decide ((Rg .i64 a1 2) > 0))
 (cond (Pd (ln Pg) (wr .i64 (a0 - 27)) (wr .i64 (a0 - 26)))
 (some ((Xa Pg (tn (wr .i64 (a0 - 27))) (tn (wr .i64 (a0 - 26)))), ()))
 none)
 (cond (decide (a0 ≤ 36))
 (ob (Gf a0) fun r5 =>
 (some (r5.1, ())))
 (cond (a0 == 37)
 (some (([10] : List UInt8), ()))
 (cond (a0 == 40)
 (some (([9] : List UInt8), ()))
 (cond (a0 == 41)
 (some (([32] : List UInt8), ()))
 (cond (a0 == 42)
 (cond (decide ((Rg .i64 a1 2) > 0))
 (some (([95] : List UInt8), ()))
 (cond (a0 == 42)
 (some (([45] : List UInt8), ()))
 (cond (a0 == 43)
 (cond (decide ((Rg .i64 a1 2) > 0))
 (some (([43] : List UInt8), ()))
 (cond (a0 == 43)
 (some (([61] : List UInt8), ()))
 (some ([], ()))))
 (cond (a0 == 43)
 (some (([61] : List UInt8), ()))
 (some ([], ()))))))
 (cond (a0 == 42)
 (some (([45] : List UInt8), ()))
 (cond (a0 == 43)
 (cond (decide ((Rg .i64 a1 2) > 0))
 (some (([43] : List UInt8), ()))
 (cond (a0 == 43)
 (some (([61] : List UInt8), ()))
 (some ([], ()))))
 (cond (a0 == 43)
 (some (([61] : List UInt8), ()))
 (some ([], ())))))))))))
 (cond (decide (a0 ≤ 36))
 (ob (Gf a0) fun r6 =>
 (some (r6.1, ())))
 (cond (a0 == 37)
 (some (([10] : List UInt8), ()))
 (cond (a0 == 40)
 (some (([9] : List UInt8), ()))
 (cond (a0 == 41)
 (some (([32] : List UInt8), ()))
 (cond (a0 == 42)
 (cond (decide ((Rg .i64 a1 2) > 0))
 (some (([95] : List UInt8), ()))
 (cond (a0 == 42)
 (some (([45] : List UInt8), ()))
 (cond (a0 == 43)
 (cond (decide ((Rg .i64 a1 2) > 0))
 (some (([43] : List UInt8), ()))
 (cond (a0 == 43)
 (some (([61] : List UInt8), ()))
 (some ([], ()))))
 (cond (a0 == 43)
 (some (([61] : List UInt8), ()))
 (some ([], ()))))))
 (cond (a0 == 42)
 (some (([45] : List UInt8), ()))
 (cond (a0 == 43)
 (cond (decide ((Rg .i64 a1 2) > 0))
 (some (([43] : List UInt8), ()))
 (cond (a0 == 43)
 (some (([61] : List UInt8), ()))
 (some ([], ()))))
 (cond (a0 == 43)
 (some (([61] : List UInt8), ()))
 (some ([], ())))))))))))))))))
def Ri (t0 : Int) (t4 : Int) (t5 : Int) : Option (((Int × Ab) × Unit) ⊕ (((Int × Kh) × Unit) ⊕ UC)) :=
 (cond (decide (t5 ≤ 56))
 (ob (Yi t5 t4) fun r13 =>
 (cond (r13.1 == (Pf ([t0] : List Int)))
 (some (.inr (.inr ((t5, t4, ()), ()))))
 (some (.inl ((t0, t4, (wr .i64 (t5 + 1)), ()), ())))))
 (some (.inr (.inl ((t0, t4, ()), ())))))
def Me := Nb fun x : ((Int × Ab) × Unit) => Ri x.1.1 x.1.2.1 x.1.2.2.1
def Kf (t0 : Int) (t4 : Int) : Option (((Int × Kh) × Unit) ⊕ (Ni ⊕ UC)) :=
 (cond (decide (t4 ≤ 2))
 (ob (Me ((t0, t4, 1, ()), ())) (se (fun y14 => (some (.inl ((y14.1.1, (wr .i64 (y14.1.2.1 + 2)), ()), ())))) (fun z15 => (some (.inr (.inr (z15.1, ())))))))
 (some (.inr (.inl ((), ())))))
def Bt := Nb fun x : ((Int × Kh) × Unit) => Kf x.1.1 x.1.2.1
def Bz (a0 : Int) : Option Ab :=
 (ob (Bt ((a0, 0, ()), ())) (se (fun y16 => (some (0, 0, ()))) (fun z17 => (some z17.1))))
def Ns (a0 : Ka) : Option Ze :=
 (ob (Qj a0) fun r1 =>
 (cond r1.1
 (cond (a0.1 == 6)
 (some (true, ()))
 (some ((a0.1 == 7), ())))
 (some (false, ()))))
def Cz (a0 : Ka) : Option YG :=
 (ob (Ns a0) fun r1 =>
 (cond (!r1.1)
 (some (a0, ()))
 (some ((2, a0.2.1, 0, 0, ()), ()))))
def Jm (t1 : Int) (t2 : Int) (t3 : Unit) (t7 : Int) (b3 : Ha) : Option (BQ ⊕ TC) :=
 (cond (decide (t7 < b3.1))
 (ob (Ei b3) fun r11 =>
 (cond r11.1
 (ob (Jg t1 0 56) fun r12 =>
 (cond r12.1
 (ob (Wc b3.2.1 0) fun x13 =>
 (ob (Wc x13 t7) fun x14 =>
 (cond (decide (t1 > 0))
 (ob (Cz x14) fun r15 =>
 (cond (r15.1.1 == 2)
 (cond (r15.1.2.1 == t1)
 (cond (r15.1.2.2.1 == t2)
 (some (.inr (.inr ((t7, ()), ()))))
 (some (.inl ((t1, t2, (), (wr .i64 (t7 + 1)), ()), (b3, ())))))
 (some (.inl ((t1, t2, (), (wr .i64 (t7 + 1)), ()), (b3, ())))))
 (some (.inl ((t1, t2, (), (wr .i64 (t7 + 1)), ()), (b3, ()))))))
 (cond (x14.1 == 2)
 (cond (x14.2.1 == t1)
 (cond (x14.2.2.1 == t2)
 (some (.inr (.inr ((t7, ()), ()))))
 (some (.inl ((t1, t2, (), (wr .i64 (t7 + 1)), ()), (b3, ())))))
 (some (.inl ((t1, t2, (), (wr .i64 (t7 + 1)), ()), (b3, ())))))
 (some (.inl ((t1, t2, (), (wr .i64 (t7 + 1)), ()), (b3, ()))))))))
 (some (.inr (.inl ((), ()))))))
 (some (.inr (.inl ((), ()))))))
 (some (.inr (.inl ((), ())))))
def Ej := Nb fun x : BQ => Jm x.1.1 x.1.2.1 x.1.2.2.1 x.1.2.2.2.1 x.2.1
def Xp (a0 : Ha) (a1 : Int) (a2 : Int) : Option Kh :=
 (ob (Ej ((a1, a2, (), 0, ()), (a0, ()))) (se (fun y16 => (some ((-1), ()))) (fun z17 => (some (z17.1.1, ())))))
def Bo (a0 : Ha) (a1 : Int) (a2 : Int) : Option O8 :=
 (ob (Bz a1) fun r1 =>
 (cond (r1.1 == 0)
 (some ([], ()))
 (ob (Xp a0 r1.1 r1.2.1) fun r2 =>
 (cond (decide (r2.1 ≥ 0))
 (some (([(a2, r2.1, true, ()), (a2, r2.1, false, ())] : List Na), ()))
 (ob (Xp a0 r1.1 0) fun r3 =>
 (ob (Xp a0 0 r1.2.1) fun r4 =>
 (cond (decide (r3.1 < 0))
 (some ([], ()))
 (cond (decide (r4.1 < 0))
 (some ([], ()))
 (cond (r1.2.1 == 0)
 (some ([], ()))
 (some (([(a2, r4.1, true, ()), (a2, r3.1, true, ()), (a2, r3.1, false, ()), (a2, r4.1, false, ())] : List Na), ())))))))))))
def Fh (t1 : Ad) (t2 : Unit) (t5 : Int) (b2 : Ha) : Option (UK ⊕ ((Ni × Nm) ⊕ Uw)) :=
 (cond (decide (t5 < ((ln t1 : Nat) : Int)))
 (ob (Wc t1 t5) fun c5 =>
 (ob (Bo b2 ((UInt8.toNat c5 : Nat) : Int) 0) fun r6 =>
 (cond (((ln r6.1 : Nat) : Int) == 0)
 (some (.inr (.inr ((false, ()), ()))))
 (some (.inl ((t1, (), (wr .i64 (t5 + 1)), ()), (b2, ())))))))
 (some (.inr (.inl (((), ()), (b2, ()))))))
def Hl := Nb fun x : UK => Fh x.1.1 x.1.2.1 x.1.2.2.1 x.2.1
def Uv (a0 : Ha) (a1 : Ad) : Option Ze :=
 (ob (Hl ((a1, (), 0, ()), (a0, ()))) (se (fun y7 => (ob (Ei y7.2.1) fun r9 =>
 (some (r9.1, ())))) (fun z8 => (some (z8.1.1, ())))))
def Dx (a0 : Cc) (a1 : Int) : Option (Cc × Ze) :=
 (ob (Zg a0 a1) fun r1 =>
 (some (r1.1, ((r1.2.1 == 0), ()))))
def Qu (t0 : Unit) (t3 : Unit) (t5 : Ad) (t6 : Ad) (t7 : Int) (b500000 : Cc) (b3 : Ha) : Option (((Unit × (Unit × (Ad × Vw))) × AH) ⊕ (((Unit × Tl) × UB) ⊕ Ni)) :=
 (cond (decide (t7 < ((ln t5 : Nat) : Int)))
 (cond (Pd (ln t5) t7 (wr .i64 (t7 + 1)))
 (ob (Uv b3 (Xa t5 (tn t7) (tn (wr .i64 (t7 + 1))))) fun r6 =>
 (cond r6.1
 (cond (Pd (ln t5) t7 (wr .i64 (t7 + 1)))
 (cond (bl (ln t6 + ln (Xa t5 (tn t7) (tn (wr .i64 (t7 + 1))))) Jb)
 (some (.inl (((), (), t5, (ap t6 (Xa t5 (tn t7) (tn (wr .i64 (t7 + 1))))), (wr .i64 (t7 + 1)), ()), (b500000, b3, ()))))
 none)
 none)
 (ob (Dx b500000 12) fun r7 =>
 (cond r7.2.1
 (cond (Pd (ln t5) t7 (wr .i64 (t7 + 1)))
 (cond (bl (ln t6 + ln (Xa t5 (tn t7) (tn (wr .i64 (t7 + 1))))) Jb)
 (some (.inl (((), (), t5, (ap t6 (Xa t5 (tn t7) (tn (wr .i64 (t7 + 1))))), (wr .i64 (t7 + 1)), ()), (r7.1, b3, ()))))
 none)
 none)
 (some (.inl (((), (), t5, t6, (wr .i64 (t7 + 1)), ()), (r7.1, b3, ()))))))))
 none)
 (some (.inr (.inl (((), t6, ()), (b500000, ()))))))
def Gq := Nb fun x : ((Unit × (Unit × (Ad × Vw))) × AH) => Qu x.1.1 x.1.2.1 x.1.2.2.1 x.1.2.2.2.1 x.1.2.2.2.2.1 x.2.1 x.2.2.1
def Xv (a0 : Cc) (a1 : Ha) : Option (Cc × Tl) :=
 (ob (Vv a0 6) fun r1 =>
 (ob (Gq (((), (), r1.2.1, [], 0, ()), (r1.1, a1, ()))) (se (fun y8 => (some (y8.2.1, (y8.1.2.1, ())))) (fun z9 => none))))
def Vq (a0 : Bg) : Option (Ha × Tl) :=
 (ob (Pt a0 15) fun r1 =>
 (ob (Gx r1) fun r2 =>
 (ob (Xv r2.1 r2.2.1) fun r3 =>
 (some (r2.2.1, r3.2.1, ())))))
def Ps (a0 : Cc) (a1 : Bg) : Option (Cc × Kh) :=
 (ob (Zg a0 ((ln a1 : Nat) : Int)) fun r1 =>
 (cond (Bj (ln a1) r1.2.1)
 (ob a1[(tn r1.2.1)]? fun x2 =>
 (some (r1.1, (x2, ()))))
 none))
def Pw (a0 : Cc) : Option (Cc × XK) :=
 (ob (Zg a0 9) fun r1 =>
 (ob (Ps r1.1 ([0, 0, 3, 6] : List Int)) fun r2 =>
 (ob (Zg r2.1 3) fun r3 =>
 (some (r3.1, (((wr .i64 (1 + r1.2.1)), r2.2.1, r3.2.1, ()), ()))))))
def Uq (a0 : Bg) : Option XK :=
 (ob (Pt a0 9) fun r1 =>
 (ob (Pw r1) fun r2 =>
 (some (r2.2.1, ()))))
def strings_Split (a b : List UInt8) : Option (List Ad × Unit) := OS a b
def Ec (a0 : Int) : Option Tl :=
 (cond (decide (a0 < 1))
 (some ([], ()))
 (cond (decide (a0 > 56))
 (some ([], ()))
 (ob (strings_Split Hy ([32] : List UInt8)) fun r1 =>
 (cond (Bj (ln r1.1) (wr .i64 (a0 - 1)))
 (ob r1.1[(tn (wr .i64 (a0 - 1)))]? fun x2 =>
 (some (x2, ())))
 none))))
def Lh (a0 : Int) (a1 : Int) : Option Tl :=
 (ob (Fk a0) fun r1 =>
 (cond (!r1.1)
 (some ([], ()))
 (cond (a1 != 0)
 (cond (a1 != 2)
 (some ([], ()))
 (cond (decide (a0 ≤ 26))
 (cond (a1 == 2)
 (some ((Pf ([(wr .u8 (wr .i64 ((wr .i64 (65 + a0)) - 1)))] : List Int)), ()))
 (cond (decide (a0 ≤ 26))
 (ob (Ec a0) fun r2 =>
 (some (r2.1, ())))
 (cond (decide (a0 ≤ 36))
 (cond (a1 == 2)
 (cond (Pd (ln Pg) (wr .i64 (a0 - 27)) (wr .i64 (a0 - 26)))
 (some ((Xa Pg (tn (wr .i64 (a0 - 27))) (tn (wr .i64 (a0 - 26)))), ()))
 none)
 (cond (decide (a0 ≤ 36))
 (ob (Ec a0) fun r3 =>
 (some (r3.1, ())))
 (ob (Ec a0) fun r4 =>
 (cond (r4.1 == Ng)
 (some (([10] : List UInt8), ()))
 (cond (r4.1 == ([116, 97, 98] : List UInt8))
 (some (([9] : List UInt8), ()))
 (cond (r4.1 == Og)
 (some (([32] : List UInt8), ()))
 (cond (r4.1 == Mg)
 (cond (a1 == 2)
 (some (([95] : List UInt8), ()))
 (some (([45] : List UInt8), ())))
 (cond (r4.1 == Lg)
 (cond (a1 == 2)
 (some (([43] : List UInt8), ()))
 (some (([61] : List UInt8), ())))
 (some ([], ()))))))))))
 (cond (decide (a0 ≤ 36))
 (ob (Ec a0) fun r5 =>
 (some (r5.1, ())))
 (ob (Ec a0) fun r6 =>
 (cond (r6.1 == Ng)
 (some (([10] : List UInt8), ()))
 (cond (r6.1 == ([116, 97, 98] : List UInt8))
 (some (([9] : List UInt8), ()))
 (cond (r6.1 == Og)
 (some (([32] : List UInt8), ()))
 (cond (r6.1 == Mg)
 (cond (a1 == 2)
 (some (([95] : List UInt8), ()))
 (some (([45] : List UInt8), ())))
 (cond (r6.1 == Lg)
 (cond (a1 == 2)
 (some (([43] : List UInt8), ()))
 (some (([61] : List UInt8), ())))
 (some ([], ()))))))))))))
 (cond (decide (a0 ≤ 26))
 (ob (Ec a0) fun r7 =>
 (some (r7.1, ())))
 (cond (decide (a0 ≤ 36))
 (cond (a1 == 2)
 (cond (Pd (ln Pg) (wr .i64 (a0 - 27)) (wr .i64 (a0 - 26)))
 (some ((Xa Pg (tn (wr .i64 (a0 - 27))) (tn (wr .i64 (a0 - 26)))), ()))
 none)
 (cond (decide (a0 ≤ 36))
 (ob (Ec a0) fun r8 =>
 (some (r8.1, ())))
 (ob (Ec a0) fun r9 =>
 (cond (r9.1 == Ng)
 (some (([10] : List UInt8), ()))
 (cond (r9.1 == ([116, 97, 98] : List UInt8))
 (some (([9] : List UInt8), ()))
 (cond (r9.1 == Og)
 (some (([32] : List UInt8), ()))
 (cond (r9.1 == Mg)
 (cond (a1 == 2)
 (some (([95] : List UInt8), ()))
 (some (([45] : List UInt8), ())))
 (cond (r9.1 == Lg)
 (cond (a1 == 2)
 (some (([43] : List UInt8), ()))
 (some (([61] : List UInt8), ())))
 (some ([], ()))))))))))
 (cond (decide (a0 ≤ 36))
 (ob (Ec a0) fun r10 =>
 (some (r10.1, ())))
 (ob (Ec a0) fun r11 =>
 (cond (r11.1 == Ng)
 (some (([10] : List UInt8), ()))
 (cond (r11.1 == ([116, 97, 98] : List UInt8))
 (some (([9] : List UInt8), ()))
 (cond (r11.1 == Og)
 (some (([32] : List UInt8), ()))
 (cond (r11.1 == Mg)
 (cond (a1 == 2)
 (some (([95] : List UInt8), ()))
 (some (([45] : List UInt8), ())))
 (cond (r11.1 == Lg)
 (cond (a1 == 2)
 (some (([43] : List UInt8), ()))
 (some (([61] : List UInt8), ())))
 (some ([], ())))))))))))))
 (cond (decide (a0 ≤ 26))
 (cond (a1 == 2)
 (some ((Pf ([(wr .u8 (wr .i64 ((wr .i64 (65 + a0)) - 1)))] : List Int)), ()))
 (cond (decide (a0 ≤ 26))
 (ob (Ec a0) fun r12 =>
 (some (r12.1, ())))
 (cond (decide (a0 ≤ 36))
 (cond (a1 == 2)
 (cond (Pd (ln Pg) (wr .i64 (a0 - 27)) (wr .i64 (a0 - 26)))
 (some ((Xa Pg (tn (wr .i64 (a0 - 27))) (tn (wr .i64 (a0 - 26)))), ()))
 none)
 (cond (decide (a0 ≤ 36))
 (ob (Ec a0) fun r13 =>
 (some (r13.1, ())))
 (ob (Ec a0) fun r14 =>
 (cond (r14.1 == Ng)
 (some (([10] : List UInt8), ()))
 (cond (r14.1 == ([116, 97, 98] : List UInt8))
 (some (([9] : List UInt8), ()))
 (cond (r14.1 == Og)
 (some (([32] : List UInt8), ()))
 (cond (r14.1 == Mg)
 (cond (a1 == 2)
 (some (([95] : List UInt8), ()))
 (some (([45] : List UInt8), ())))
 (cond (r14.1 == Lg)
 (cond (a1 == 2)
 (some (([43] : List UInt8), ()))
 (some (([61] : List UInt8), ())))
 (some ([], ()))))))))))
 (cond (decide (a0 ≤ 36))
 (ob (Ec a0) fun r15 =>
 (some (r15.1, ())))
 (ob (Ec a0) fun r16 =>
 (cond (r16.1 == Ng)
 (some (([10] : List UInt8), ()))
 (cond (r16.1 == ([116, 97, 98] : List UInt8))
 (some (([9] : List UInt8), ()))
 (cond (r16.1 == Og)
 (some (([32] : List UInt8), ()))
 (cond (r16.1 == Mg)
 (cond (a1 == 2)
 (some (([95] : List UInt8), ()))
 (some (([45] : List UInt8), ())))
 (cond (r16.1 == Lg)
 (cond (a1 == 2)
 (some (([43] : List UInt8), ()))
 (some (([61] : List UInt8), ())))
 (some ([], ()))))))))))))
 (cond (decide (a0 ≤ 26))
 (ob (Ec a0) fun r17 =>
 (some (r17.1, ())))
 (cond (decide (a0 ≤ 36))
 (cond (a1 == 2)
 (cond (Pd (ln Pg) (wr .i64 (a0 - 27)) (wr .i64 (a0 - 26)))
 (some ((Xa Pg (tn (wr .i64 (a0 - 27))) (tn (wr .i64 (a0 - 26)))), ()))
 none)
 (cond (decide (a0 ≤ 36))
 (ob (Ec a0) fun r18 =>
 (some (r18.1, ())))
 (ob (Ec a0) fun r19 =>
 (cond (r19.1 == Ng)
 (some (([10] : List UInt8), ()))
 (cond (r19.1 == ([116, 97, 98] : List UInt8))
 (some (([9] : List UInt8), ()))
 (cond (r19.1 == Og)
 (some (([32] : List UInt8), ()))
 (cond (r19.1 == Mg)
 (cond (a1 == 2)
 (some (([95] : List UInt8), ()))
 (some (([45] : List UInt8), ())))
 (cond (r19.1 == Lg)
 (cond (a1 == 2)
 (some (([43] : List UInt8), ()))
 (some (([61] : List UInt8), ())))
 (some ([], ()))))))))))
 (cond (decide (a0 ≤ 36))
 (ob (Ec a0) fun r20 =>
 (some (r20.1, ())))
 (ob (Ec a0) fun r21 =>
 (cond (r21.1 == Ng)
 (some (([10] : List UInt8), ()))
 (cond (r21.1 == ([116, 97, 98] : List UInt8))
 (some (([9] : List UInt8), ()))
 (cond (r21.1 == Og)
 (some (([32] : List UInt8), ()))
 (cond (r21.1 == Mg)
 (cond (a1 == 2)
 (some (([95] : List UInt8), ()))
 (some (([45] : List UInt8), ())))
 (cond (r21.1 == Lg)
 (cond (a1 == 2)
 (some (([43] : List UInt8), ()))
 (some (([61] : List UInt8), ())))
 (some ([], ())))))))))))))))
def Oi (t0 : Int) (t5 : Int) (t6 : Int) (t7 : Bg) (t8 : Int) (t9 : Int) : Option (((Int × (Int × NA)) × Unit) ⊕ ((NA × Unit) ⊕ UC)) :=
 (cond (decide (t6 ≤ 56))
 (ob (Lh t6 t5) fun r16 =>
 (cond (r16.1 == (Pf ([t0] : List Int)))
 (some (.inr (.inr ((t6, t5, ()), ()))))
 (some (.inl ((t0, t5, (wr .i64 (t6 + 1)), t7, t8, t9, ()), ())))))
 (some (.inr (.inl ((t0, t7, t8, t9, ()), ())))))
def Le := Nb fun x : ((Int × (Int × NA)) × Unit) => Oi x.1.1 x.1.2.1 x.1.2.2.1 x.1.2.2.2.1 x.1.2.2.2.2.1 x.1.2.2.2.2.2.1
def Jf (t0 : Int) (t7 : Bg) (t8 : Int) (t9 : Int) : Option ((NA × Unit) ⊕ (Ni ⊕ UC)) :=
 (cond (decide (t9 < t8))
 (cond (Bj (ln t7) t9)
 (ob t7[(tn t9)]? fun x13 =>
 (ob (Le ((t0, x13, 1, t7, t8, t9, ()), ())) (se (fun y17 => (some (.inl ((y17.1.1, y17.1.2.1, y17.1.2.2.1, (wr .i64 (y17.1.2.2.2.1 + 1)), ()), ())))) (fun z18 => (some (.inr (.inr (z18.1, ()))))))))
 none)
 (some (.inr (.inl ((), ())))))
def Ws := Nb fun x : (NA × Unit) => Jf x.1.1 x.1.2.1 x.1.2.2.1 x.1.2.2.2.1
def Lv (a0 : Int) : Option Ab :=
 (ob (Ws ((a0, ([0, 2] : List Int), ((ln ([0, 2] : List Int) : Nat) : Int), 0, ()), ())) (se (fun y19 => (some (0, 0, ()))) (fun z20 => (some z20.1))))
def Kk (a0 : Ka) : Option Ze :=
 (ob (Ai a0) fun r1 =>
 (cond r1.1
 (cond (a0.1 == 6)
 (some (true, ()))
 (some ((a0.1 == 7), ())))
 (some (false, ()))))
def Ro (a0 : Ka) : Option YG :=
 (ob (Kk a0) fun r1 =>
 (cond (!r1.1)
 (some (a0, ()))
 (some ((2, a0.2.1, 0, 0, ()), ()))))
def Pq (t1 : Int) (t2 : Int) (t12 : Sl) (t13 : Int) (t14 : Int) : Option (((Int × (Int × (Sl × Ab))) × Unit) ⊕ TC) :=
 (cond (decide (t14 < t13))
 (ob (Wc t12 t14) fun x6 =>
 (cond (t1 != 0)
 (ob (Ro x6) fun r7 =>
 (cond (r7.1.1 == 2)
 (cond (r7.1.2.1 == t1)
 (cond (r7.1.2.2.1 == t2)
 (some (.inr (.inr ((t14, ()), ()))))
 (some (.inl ((t1, t2, t12, t13, (wr .i64 (t14 + 1)), ()), ()))))
 (some (.inl ((t1, t2, t12, t13, (wr .i64 (t14 + 1)), ()), ()))))
 (some (.inl ((t1, t2, t12, t13, (wr .i64 (t14 + 1)), ()), ())))))
 (cond (x6.1 == 2)
 (cond (x6.2.1 == t1)
 (cond (x6.2.2.1 == t2)
 (some (.inr (.inr ((t14, ()), ()))))
 (some (.inl ((t1, t2, t12, t13, (wr .i64 (t14 + 1)), ()), ()))))
 (some (.inl ((t1, t2, t12, t13, (wr .i64 (t14 + 1)), ()), ()))))
 (some (.inl ((t1, t2, t12, t13, (wr .i64 (t14 + 1)), ()), ()))))))
 (some (.inr (.inl ((), ())))))
def Dm := Nb fun x : ((Int × (Int × (Sl × Ab))) × Unit) => Pq x.1.1 x.1.2.1 x.1.2.2.1 x.1.2.2.2.1 x.1.2.2.2.2.1
def Sm (a0 : Ha) (a1 : Int) (a2 : Int) : Option Kh :=
 (ob (Wc a0.2.1 0) fun x1 =>
 (ob (Dm ((a1, a2, x1, ((ln x1 : Nat) : Int), 0, ()), ())) (se (fun y8 => (some ((-1), ()))) (fun z9 => (some (z9.1.1, ()))))))
def Vn (a0 : Ha) (a1 : Int) (a2 : Int) : Option EX :=
 (ob (Lv a1) fun r1 =>
 (cond (r1.1 == 0)
 (some ([], false, ()))
 (ob (Sm a0 r1.1 r1.2.1) fun r2 =>
 (cond (decide (r2.1 ≥ 0))
 (some (([(a2, r2.1, true, ()), (a2, r2.1, false, ())] : List Na), true, ()))
 (ob (Sm a0 r1.1 0) fun r3 =>
 (ob (Sm a0 0 r1.2.1) fun r4 =>
 (cond (r1.2.1 == 0)
 (some ([], false, ()))
 (cond (decide (r3.1 < 0))
 (some ([], false, ()))
 (cond (decide (r4.1 < 0))
 (some ([], false, ()))
 (some (([(a2, r4.1, true, ()), (a2, r3.1, true, ()), (a2, r3.1, false, ()), (a2, r4.1, false, ())] : List Na), true, ())))))))))))
def Ul (t1 : Ad) (t2 : Unit) (t6 : Jl) (t7 : Int) (b2 : Ha) : Option (S8 ⊕ ((O8 × Unit) ⊕ (EX × Unit))) :=
 (cond (decide (t7 < ((ln t1 : Nat) : Int)))
 (ob (Wc t1 t7) fun c8 =>
 (ob (Vn b2 ((UInt8.toNat c8 : Nat) : Int) t7) fun r9 =>
 (cond (!r9.2.1)
 (some (.inr (.inr (([], false, ()), ()))))
 (cond (bl (ln t6 + ln r9.1) Jb)
 (some (.inl ((t1, (), (ap t6 r9.1), (wr .i64 (t7 + 1)), ()), (b2, ()))))
 none))))
 (some (.inr (.inl ((t6, ()), ())))))
def Pn := Nb fun x : S8 => Ul x.1.1 x.1.2.1 x.1.2.2.1 x.1.2.2.2.1 x.2.1
def On (a0 : Ha) (a1 : Ad) : Option EX :=
 (ob (Bi a0) fun r1 =>
 (cond (!r1.1)
 (some ([], false, ()))
 (cond (decide (((ln a1 : Nat) : Int) > 60))
 (some ([], false, ()))
 (ob (Pn ((a1, (), [], 0, ()), (a0, ()))) (se (fun y10 => (cond (decide (((ln y10.1.1 : Nat) : Int) > 64))
 (some ([], false, ()))
 (some (y10.1.1, true, ())))) (fun z11 => (some z11.1)))))))
def Dl (t2 : Unit) (t3 : Unit) (t10 : (List Sl)) (t11 : Int) (t12 : Int) (b2 : Ha) (b3 : Ha) : Option (((Unit × (Unit × WK)) × TG) ⊕ Xai) :=
 (cond (decide (t12 < t11))
 (ob (Wc t10 t12) fun x4 =>
 (cond (bl (ln ([] : List Ka) + ln x4) Jb)
 (cond (bl (ln b3.2.1 + ln ([(ap [] x4)] : List Sl)) Jb)
 (some (.inl (((), (), t10, t11, (wr .i64 (t12 + 1)), ()), (b2, (b3.1, (ap b3.2.1 ([(ap [] x4)] : List Sl)), ()), ()))))
 none)
 none))
 (some (.inr (.inl (((), (), ()), (b2, b3, ()))))))
def Pm := Nb fun x : ((Unit × (Unit × WK)) × TG) => Dl x.1.1 x.1.2.1 x.1.2.2.1 x.1.2.2.2.1 x.1.2.2.2.2.1 x.2.1 x.2.2.1
def Bm (a0 : Ha) : Option Nm :=
 (ob (Pm (((), (), a0.2.1, ((ln a0.2.1 : Nat) : Int), 0, ()), ((0, [], ()), (a0.1, [], ()), ()))) (se (fun y5 => (some (y5.2.2.1, ()))) (fun z6 => none)))
def Fl (t3 : Bs) (t6 : Bs) (t7 : Int) (t8 : Int) : Option (((Bs × (Bs × Ab)) × Unit) ⊕ (((Bs × Unit) × Unit) ⊕ Ni)) :=
 (cond (decide (t8 < t7))
 (ob (Wc t6 t8) fun x4 =>
 (cond (bl (ln ([] : List Yb) + ln x4) Jb)
 (cond (bl (ln t3 + ln ([(ap [] x4)] : List LA)) Jb)
 (some (.inl (((ap t3 ([(ap [] x4)] : List LA)), t6, t7, (wr .i64 (t8 + 1)), ()), ())))
 none)
 none))
 (some (.inr (.inl ((t3, ()), ())))))
def Qm := Nb fun x : ((Bs × (Bs × Ab)) × Unit) => Fl x.1.1 x.1.2.1 x.1.2.2.1 x.1.2.2.2.1
def Cm (a0 : Bs) : Option (Bs × Unit) :=
 (ob (Qm (([], a0, ((ln a0 : Nat) : Int), 0, ()), ())) (se (fun y5 => (some (y5.1.1, ()))) (fun z6 => none)))
def So (a0 : Int) (a1 : Int) : Option Kh :=
 (cond (decide (0 ≤ a1))
 (some ((Rg .i64 (BA .i64 a0 a1) 1), ()))
 none)
def Iq (t3 : Int) (t6 : Tt) (t7 : Int) (t8 : Int) : Option (MA ⊕ XG) :=
 (cond (decide (t8 < t7))
 (ob (Wc t6 t8) fun x7 =>
 (cond (decide (x7.1 < 0))
 (some (.inr (.inr ((false, ()), ()))))
 (cond (decide (x7.1 > 31))
 (some (.inr (.inr ((false, ()), ()))))
 (ob (So t3 x7.1) fun r8 =>
 (cond (r8.1 == 1)
 (some (.inr (.inr ((false, ()), ()))))
 (ob (Ai x7.2.1) fun r9 =>
 (cond (!r9.1)
 (some (.inr (.inr ((false, ()), ()))))
 (cond (x7.2.1.1 == 1)
 (some (.inr (.inr ((false, ()), ()))))
 (cond (x7.2.1.1 == 6)
 (some (.inr (.inr ((false, ()), ()))))
 (cond (x7.2.1.1 == 7)
 (some (.inr (.inr ((false, ()), ()))))
 (cond (decide (0 ≤ x7.1))
 (some (.inl (((Xe .i64 t3 (Ce .i64 1 x7.1)), t6, t7, (wr .i64 (t8 + 1)), ()), ())))
 none)))))))))))
 (some (.inr (.inl ((), ())))))
def Jr := Nb fun x : MA => Iq x.1.1 x.1.2.1 x.1.2.2.1 x.1.2.2.2.1
def Ti (a0 : Tt) : Option Ze :=
 (ob (Jr ((0, a0, ((ln a0 : Nat) : Int), 0, ()), ())) (se (fun y10 => (some (true, ()))) (fun z11 => (some (z11.1.1, ())))))
def Qq (t3 : Unit) (t7 : Sy) (t8 : Int) (t9 : Int) (b3 : Ab) : Option (((Unit × AQ) × UC) ⊕ TC) :=
 (cond (decide (t9 < t8))
 (ob (Wc t7 t9) fun x3 =>
 (cond (An Be x3 b3)
 (some (.inr (.inr ((t9, ()), ()))))
 (some (.inl (((), t7, t8, (wr .i64 (t9 + 1)), ()), (b3, ()))))))
 (some (.inr (.inl ((), ())))))
def Rr := Nb fun x : ((Unit × AQ) × UC) => Qq x.1.1 x.1.2.1 x.1.2.2.1 x.1.2.2.2.1 x.2.1
def Lt (a0 : Sy) (a1 : Ab) : Option Kh :=
 (ob (Rr (((), a0, ((ln a0 : Nat) : Int), 0, ()), (a1, ()))) (se (fun y4 => (some ((-1), ()))) (fun z5 => (some (z5.1.1, ())))))
def Uk (t3 : Sy) (t11 : LA) (t12 : Int) (t13 : Int) : Option ((EQ × Unit) ⊕ (((Sy × Unit) × Unit) ⊕ Uw)) :=
 (cond (decide (t13 < t12))
 (ob (Wc t11 t13) fun x10 =>
 (ob (Lt t3 x10.2) fun r11 =>
 (ob (Ai (2, x10.2.1, x10.2.2.1, 0, ())) fun r12 =>
 (cond (!r12.1)
 (some (.inr (.inr ((false, ()), ()))))
 (cond (x10.1 == 0)
 (cond (decide (r11.1 ≥ 0))
 (some (.inr (.inr ((false, ()), ()))))
 (cond (x10.1 == 1)
 (cond (bl (ln t3 + ln ([x10.2] : List Ab)) Jb)
 (some (.inl (((ap t3 ([x10.2] : List Ab)), t11, t12, (wr .i64 (t13 + 1)), ()), ())))
 none)
 (some (.inl ((t3, t11, t12, (wr .i64 (t13 + 1)), ()), ())))))
 (cond (x10.1 == 1)
 (cond (decide (r11.1 ≥ 0))
 (some (.inr (.inr ((false, ()), ()))))
 (cond (x10.1 == 1)
 (cond (bl (ln t3 + ln ([x10.2] : List Ab)) Jb)
 (some (.inl (((ap t3 ([x10.2] : List Ab)), t11, t12, (wr .i64 (t13 + 1)), ()), ())))
 none)
 (some (.inl ((t3, t11, t12, (wr .i64 (t13 + 1)), ()), ())))))
 (cond (x10.1 == 2)
 (cond (decide (r11.1 < 0))
 (some (.inr (.inr ((false, ()), ()))))
 (cond (Pd (ln t3) 0 r11.1)
 (cond (Pd (ln t3) (wr .i64 (r11.1 + 1)) ((ln t3 : Nat) : Int))
 (cond (bl (ln (Xa t3 (tn 0) (tn r11.1)) + ln (Xa t3 (tn (wr .i64 (r11.1 + 1))) (tn ((ln t3 : Nat) : Int)))) Jb)
 (some (.inl (((ap (Xa t3 (tn 0) (tn r11.1)) (Xa t3 (tn (wr .i64 (r11.1 + 1))) (tn ((ln t3 : Nat) : Int)))), t11, t12, (wr .i64 (t13 + 1)), ()), ())))
 none)
 none)
 none))
 (some (.inr (.inr ((false, ()), ())))))))))))
 (some (.inr (.inl ((t3, ()), ())))))
def Bq := Nb fun x : (EQ × Unit) => Uk x.1.1 x.1.2.1 x.1.2.2.1 x.1.2.2.2.1
def Kr (a0 : LA) : Option Ze :=
 (cond (decide (((ln a0 : Nat) : Int) > 8))
 (some (false, ()))
 (ob (Bq (([], a0, ((ln a0 : Nat) : Int), 0, ()), ())) (se (fun y13 => (some ((((ln y13.1.1 : Nat) : Int) == 0), ()))) (fun z14 => (some (z14.1.1, ()))))))
def Dn (t1 : Unit) (t35 : Bs) (t36 : Int) (t37 : Int) (b1 : Lb) : Option (((Unit × (Bs × Ab)) × SC) ⊕ ((Ni × SC) ⊕ Uw)) :=
 (cond (decide (t37 < t36))
 (ob (Wc t35 t37) fun x7 =>
 (ob (Kr x7) fun r8 =>
 (cond (!r8.1)
 (some (.inr (.inr ((false, ()), ()))))
 (some (.inl (((), t35, t36, (wr .i64 (t37 + 1)), ()), (b1, ())))))))
 (some (.inr (.inl (((), ()), (b1, ()))))))
def Uj := Nb fun x : ((Unit × (Bs × Ab)) × SC) => Dn x.1.1 x.1.2.1 x.1.2.2.1 x.1.2.2.2.1 x.2.1
def Vl (t1 : Unit) (t5 : Int) (t50 : Tt) (t51 : Int) (t52 : Int) (b1 : Lb) : Option (((Unit × (Int × YK)) × SC) ⊕ ((SG × SC) ⊕ Uw)) :=
 (cond (decide (t52 < t51))
 (ob (Wc t50 t52) fun x13 =>
 (cond (decide (x13.1 ≥ b1.1.1))
 (some (.inr (.inr ((false, ()), ()))))
 (cond (x13.2.1.1 != 9)
 (cond (decide (x13.2.1.2.2.2.1 ≥ t5))
 (some (.inr (.inr ((false, ()), ()))))
 (some (.inl (((), t5, t50, t51, (wr .i64 (t52 + 1)), ()), (b1, ())))))
 (some (.inl (((), t5, t50, t51, (wr .i64 (t52 + 1)), ()), (b1, ())))))))
 (some (.inr (.inl (((), t5, ()), (b1, ()))))))
def Hj := Nb fun x : ((Unit × (Int × YK)) × SC) => Vl x.1.1 x.1.2.1 x.1.2.2.1 x.1.2.2.2.1 x.1.2.2.2.2.1 x.2.1
def Lj (a0 : Lb) : Option Ze :=
 (ob (Bi a0.1) fun r1 =>
 (cond (!r1.1)
 (some (false, ()))
 (cond (decide (((ln a0.2.1 : Nat) : Int) > 4))
 (some (false, ()))
 (ob (Ti a0.2.2.2.1) fun r2 =>
 (cond (!r2.1)
 (some (false, ()))
 (cond (decide (a0.2.2.2.2.1 < 0))
 (some (false, ()))
 (cond (decide (a0.2.2.2.2.1 > 15))
 (some (false, ()))
 (ob (Uj (((), a0.2.1, ((ln a0.2.1 : Nat) : Int), 0, ()), (a0, ()))) (se (fun y9 => (ob (Hj (((), ((ln y9.2.1.1.2.1 : Nat) : Int), y9.2.1.2.2.2.1, ((ln y9.2.1.2.2.2.1 : Nat) : Int), 0, ()), (y9.2.1, ()))) (se (fun y14 => (cond (decide (y14.2.1.2.2.1 ≥ 0))
 (cond ((2 : Int) == 0)
 none
 (cond ((Int.tmod y14.2.1.2.2.1 2) == 0)
 (cond (decide (0 ≤ y14.1.2.1))
 (some ((decide (y14.2.1.2.2.1 < (Ce .i64 1 y14.1.2.1))), ()))
 none)
 (some (false, ()))))
 (some (false, ())))) (fun z15 => (some (z15.1.1, ())))))) (fun z10 => (some (z10.1.1, ()))))))))))))
def Lk (a0 : Ha) (a1 : Bs) : Option (Lb × Ze) :=
 (ob (Bm a0) fun r1 =>
 (ob (Cm a1) fun r2 =>
 (ob (Lj (r1.1, r2.1, 0, [], 0, false, ())) fun r3 =>
 (cond (!r3.1)
 (some (PZ, false, ()))
 (some ((r1.1, r2.1, 0, [], 0, false, ()), true, ()))))))
def Sh (a0 : Lb) : Option SC :=
 (ob (Bm a0.1) fun r1 =>
 (ob (Cm a0.2.1) fun r2 =>
 (cond (bl (ln ([] : List Ma) + ln a0.2.2.2.1) Jb)
 (some ((r1.1, r2.1, a0.2.2.1, (ap [] a0.2.2.2.1), a0.2.2.2.2), ()))
 none)))
def Jp (a0 : Yb) : Option Ze :=
 (cond (decide (a0.1 ≥ 1))
 (cond (decide (a0.1 ≤ 1000))
 (cond (decide (a0.2.1 ≥ 0))
 (cond (decide (a0.2.1 ≤ 1000))
 (cond (decide (a0.2.2.1 ≥ 0))
 (some ((decide (a0.2.2.1 ≤ 2)), ()))
 (some (false, ())))
 (some (false, ())))
 (some (false, ())))
 (some (false, ())))
 (some (false, ())))
def Hn (t3 : Int) (t6 : Tt) (t7 : Int) (t8 : Int) : Option (MA ⊕ M8) :=
 (cond (decide (t8 < t7))
 (ob (Wc t6 t8) fun x3 =>
 (cond (decide (0 ≤ x3.1))
 (some (.inl (((Xe .i64 t3 (Ce .i64 1 x3.1)), t6, t7, (wr .i64 (t8 + 1)), ()), ())))
 none))
 (some (.inr (.inl ((t3, ()), ())))))
def Uo := Nb fun x : MA => Hn x.1.1 x.1.2.1 x.1.2.2.1 x.1.2.2.2.1
def Pl (a0 : Tt) : Option Kh :=
 (ob (Uo ((0, a0, ((ln a0 : Nat) : Int), 0, ()), ())) (se (fun y4 => (some (y4.1.1, ()))) (fun z5 => none)))
def Ir (a0 : Na) : Option Ze :=
 (cond (decide (a0.1 ≥ 0))
 (cond (decide (a0.1 ≤ 1000000))
 (cond (decide (a0.2.1 ≥ 0))
 (some ((decide (a0.2.1 ≤ 31)), ()))
 (some (false, ())))
 (some (false, ())))
 (some (false, ())))
def Nq (t0 : Jl) (t1 : Int) (t11 : Jl) (t12 : Int) (t13 : Int) : Option (((Jl × UG) × Unit) ⊕ ((Kh × Unit) ⊕ MZ)) :=
 (cond (decide (t13 < t12))
 (ob (Wc t11 t13) fun x11 =>
 (ob (Ir x11) fun r12 =>
 (cond (!r12.1)
 (some (.inr (.inr ((0, false, ()), ()))))
 (cond (decide (t13 > 0))
 (ob (Wc t0 (wr .i64 (t13 - 1))) fun x13 =>
 (cond (decide (x13.1 > x11.1))
 (some (.inr (.inr ((0, false, ()), ()))))
 (ob (So t1 x11.2.1) fun r14 =>
 (cond (x11.2.2.1 == (r14.1 == 1))
 (some (.inr (.inr ((0, false, ()), ()))))
 (cond (decide (0 ≤ x11.2.1))
 (some (.inl ((t0, (Cj .i64 t1 (Ce .i64 1 x11.2.1)), t11, t12, (wr .i64 (t13 + 1)), ()), ())))
 none)))))
 (ob (So t1 x11.2.1) fun r15 =>
 (cond (x11.2.2.1 == (r15.1 == 1))
 (some (.inr (.inr ((0, false, ()), ()))))
 (cond (decide (0 ≤ x11.2.1))
 (some (.inl ((t0, (Cj .i64 t1 (Ce .i64 1 x11.2.1)), t11, t12, (wr .i64 (t13 + 1)), ()), ())))
 none)))))))
 (some (.inr (.inl ((t1, ()), ())))))
def Nr := Nb fun x : ((Jl × UG) × Unit) => Nq x.1.1 x.1.2.1 x.1.2.2.1 x.1.2.2.2.1 x.1.2.2.2.2.1
def Vp (a0 : Jl) (a1 : Int) : Option BX :=
 (cond (decide (((ln a0 : Nat) : Int) > 64))
 (some (0, false, ()))
 (ob (Nr ((a0, a1, a0, ((ln a0 : Nat) : Int), 0, ()), ())) (se (fun y16 => (some (y16.1.1, true, ()))) (fun z17 => (some z17.1)))))
def Em (t0 : Jl) (t1 : Int) (t2 : Int) (t11 : Jl) (t12 : Int) (t13 : Int) : Option (((Jl × (Int × UG)) × Unit) ⊕ (((Jl × Kh) × Unit) ⊕ Uw)) :=
 (cond (decide (t13 < t12))
 (ob (Wc t11 t13) fun x3 =>
 (cond (decide (x3.2.1 ≥ t2))
 (some (.inr (.inr ((false, ()), ()))))
 (some (.inl ((t0, t1, t2, t11, t12, (wr .i64 (t13 + 1)), ()), ())))))
 (some (.inr (.inl ((t0, t1, ()), ())))))
def Xn := Nb fun x : ((Jl × (Int × UG)) × Unit) => Em x.1.1 x.1.2.1 x.1.2.2.1 x.1.2.2.2.1 x.1.2.2.2.2.1 x.1.2.2.2.2.2.1
def Nk (a0 : Jl) (a1 : Int) (a2 : Int) : Option Ze :=
 (ob (Xn ((a0, a1, a2, a0, ((ln a0 : Nat) : Int), 0, ()), ())) (se (fun y4 => (ob (Vp y4.1.1 y4.1.2.1) fun r6 =>
 (some (r6.2.1, ())))) (fun z5 => (some (z5.1.1, ())))))
def Mk (a0 : Jl) (a1 : Int) : Option Ze :=
 (cond (((ln a0 : Nat) : Int) == 0)
 (some (true, ()))
 (ob (Wc a0 (wr .i64 (((ln a0 : Nat) : Int) - 1))) fun x1 =>
 (some ((decide (x1.1 ≤ a1)), ()))))
def Qn (a0 : Ub) : Option Ze :=
 (ob (Lj a0.1) fun r1 =>
 (cond (!r1.1)
 (some (false, ()))
 (ob (Jp a0.2.1) fun r2 =>
 (cond (!r2.1)
 (some (false, ()))
 (cond (decide (a0.2.2.2.1 < 0))
 (some (false, ()))
 (cond (decide (a0.2.2.2.1 > 1000000))
 (some (false, ()))
 (cond (decide (a0.2.2.2.2.1 < 0))
 (some (false, ()))
 (cond (decide (a0.2.2.2.2.1 > a0.2.2.2.1))
 (some (false, ()))
 (ob (Pl a0.1.2.2.2.1) fun r3 =>
 (ob (Nk a0.2.2.1 r3.1 a0.1.1.1) fun r4 =>
 (cond (!r4.1)
 (some (false, ()))
 (ob (Mk a0.2.2.1 a0.2.2.2.1) fun r5 =>
 (cond (!r5.1)
 (some (false, ()))
 (cond (decide (a0.2.2.2.2.2.1 ≥ 0))
 (cond (decide (a0.2.2.2.2.2.1 ≤ a0.1.1.1))
 (cond (decide (a0.2.2.2.2.2.2.1 ≥ 0))
 (some ((decide (a0.2.2.2.2.2.2.1 ≤ a0.2.2.2.1)), ()))
 (some (false, ())))
 (some (false, ())))
 (some (false, ()))))))))))))))))
def Kq (a0 : Lb) (a1 : Yb) : Option (Ub × Ze) :=
 (ob (Sh a0) fun r1 =>
 (ob (Qn (r1.1, a1, [], 0, 0, 0, 0, ())) fun r2 =>
 (cond (!r2.1)
 (some (Oh, false, ()))
 (some ((r1.1, a1, [], 0, 0, 0, 0, ()), true, ())))))
def Wk (a0 : Ub) : Option Q8 :=
 (ob (Sh a0.1) fun r1 =>
 (cond (bl (ln ([] : List Na) + ln a0.2.2.1) Jb)
 (some ((r1.1, a0.2.1, (ap [] a0.2.2.1), a0.2.2.2), ()))
 none))
def Hq (t1 : Int) (t8 : Tt) (t9 : Int) (t10 : Int) : Option (MA ⊕ TC) :=
 (cond (decide (t10 < t9))
 (ob (Wc t8 t10) fun x3 =>
 (cond (x3.1 == t1)
 (some (.inr (.inr ((t10, ()), ()))))
 (some (.inl ((t1, t8, t9, (wr .i64 (t10 + 1)), ()), ())))))
 (some (.inr (.inl ((), ())))))
def Hr := Nb fun x : MA => Hq x.1.1 x.1.2.1 x.1.2.2.1 x.1.2.2.2.1
def Zw (a0 : Lb) (a1 : Int) : Option Kh :=
 (ob (Hr ((a1, a0.2.2.2.1, ((ln a0.2.2.2.1 : Nat) : Int), 0, ()), ())) (se (fun y4 => (some ((-1), ()))) (fun z5 => (some (z5.1.1, ())))))
def sort_Ints (x0 : Bg) : Option VG := G9 x0
def Oq (t1 : Int) (t7 : Bg) (t8 : Int) (t9 : Int) : Option ((NA × Unit) ⊕ XG) :=
 (cond (decide (t9 < t8))
 (ob (Wc t7 t9) fun x3 =>
 (cond (x3 == t1)
 (some (.inr (.inr ((true, ()), ()))))
 (some (.inl ((t1, t7, t8, (wr .i64 (t9 + 1)), ()), ())))))
 (some (.inr (.inl ((), ())))))
def Pr := Nb fun x : (NA × Unit) => Oq x.1.1 x.1.2.1 x.1.2.2.1 x.1.2.2.2.1
def Kt (a0 : Bg) (a1 : Int) : Option Ze :=
 (ob (Pr ((a1, a0, ((ln a0 : Nat) : Int), 0, ()), ())) (se (fun y4 => (some (false, ()))) (fun z5 => (some (z5.1.1, ())))))
def To (t4 : Bg) (t11 : Bg) (t12 : Int) (t13 : Int) : Option ((BH × Unit) ⊕ OQ) :=
 (cond (decide (t13 < t12))
 (cond (Bj (ln t11) t13)
 (ob t11[(tn t13)]? fun x9 =>
 (cond (x9 != 0)
 (ob (Kt t4 x9) fun r10 =>
 (cond (!r10.1)
 (cond (bl (ln t4 + ln ([x9] : List Int)) Jb)
 (some (.inl (((ap t4 ([x9] : List Int)), t11, t12, (wr .i64 (t13 + 1)), ()), ())))
 none)
 (some (.inl ((t4, t11, t12, (wr .i64 (t13 + 1)), ()), ())))))
 (some (.inl ((t4, t11, t12, (wr .i64 (t13 + 1)), ()), ())))))
 none)
 (some (.inr (.inl ((t4, ()), ())))))
def Dq := Nb fun x : (BH × Unit) => To x.1.1 x.1.2.1 x.1.2.2.1 x.1.2.2.2.1
def Un (a0 : Bg) : Option VG :=
 (ob (Ol a0) fun r1 =>
 (ob (sort_Ints r1.1) fun r2 =>
 (ob (Dq (([], r2.1, ((ln r2.1 : Nat) : Int), 0, ()), ())) (se (fun y11 => (some (y11.1.1, ()))) (fun z12 => none)))))
def Gn (t2 : Unit) (t3 : Unit) (t4 : Bg) (t11 : Tt) (t12 : Int) (t13 : Int) (b2 : Ca) (b3 : Ca) : Option (((Unit × (Unit × (Bg × YK))) × WI) ⊕ V8) :=
 (cond (decide (t13 < t12))
 (ob (Wc t11 t13) fun x5 =>
 (cond (x5.2.1.1 == 2)
 (cond (bl (ln t4 + ln ([x5.2.1.2.1] : List Int)) Jb)
 (some (.inl (((), (), (ap t4 ([x5.2.1.2.1] : List Int)), t11, t12, (wr .i64 (t13 + 1)), ()), (b2, ((Xe .i64 b3.1 x5.2.1.2.2.1), b3.2.1, ()), ()))))
 none)
 (cond (x5.2.1.1 == 8)
 (cond (bl (ln t4 + ln ([x5.2.1.2.1] : List Int)) Jb)
 (some (.inl (((), (), (ap t4 ([x5.2.1.2.1] : List Int)), t11, t12, (wr .i64 (t13 + 1)), ()), (b2, ((Xe .i64 b3.1 x5.2.1.2.2.1), b3.2.1, ()), ()))))
 none)
 (cond (bl (ln t4 + ln ([x5.2.1.2.1] : List Int)) Jb)
 (some (.inl (((), (), (ap t4 ([x5.2.1.2.1] : List Int)), t11, t12, (wr .i64 (t13 + 1)), ()), (b2, b3, ()))))
 none))))
 (some (.inr (.inl (((), (), t4, ()), (b2, b3, ()))))))
def Po := Nb fun x : ((Unit × (Unit × (Bg × YK))) × WI) => Gn x.1.1 x.1.2.1 x.1.2.2.1 x.1.2.2.2.1 x.1.2.2.2.2.1 x.1.2.2.2.2.2.1 x.2.1 x.2.2.1
def Pc (a0 : Tt) : Option Vt :=
 (ob (Ti a0) fun r1 =>
 (cond (!r1.1)
 (some ((0, [], ()), ()))
 (ob (Po (((), (), [], a0, ((ln a0 : Nat) : Int), 0, ()), ((0, [], ()), (0, [], ()), ()))) (se (fun y6 => (ob (Un y6.1.2.2.1) fun r8 =>
 (some ((y6.2.2.1.1, r8.1, ()), ())))) (fun z7 => none)))))
def Jn (t0 : Bg) (t1 : Bg) (t12 : Int) (t13 : Int) : Option ((BH × Unit) ⊕ XG) :=
 (cond (decide (t13 < t12))
 (ob (Wc t0 t13) fun x5 =>
 (ob (Wc t1 t13) fun x6 =>
 (cond (x5 != x6)
 (some (.inr (.inr ((false, ()), ()))))
 (some (.inl ((t0, t1, t12, (wr .i64 (t13 + 1)), ()), ()))))))
 (some (.inr (.inl ((), ())))))
def Vo := Nb fun x : (BH × Unit) => Jn x.1.1 x.1.2.1 x.1.2.2.1 x.1.2.2.2.1
def Zt (a0 : Bg) (a1 : Bg) : Option Ze :=
 (cond (((ln a0 : Nat) : Int) != ((ln a1 : Nat) : Int))
 (some (false, ()))
 (ob (Vo ((a0, a1, ((ln a0 : Nat) : Int), 0, ()), ())) (se (fun y7 => (some (true, ()))) (fun z8 => (some (z8.1.1, ()))))))
def Xl (a0 : Ca) (a1 : Ca) : Option Ze :=
 (cond (a0.1 == a1.1)
 (ob (Zt a0.2.1 a1.2.1) fun r1 =>
 (some (r1.1, ())))
 (some (false, ())))
def Ji (a b : Ca) : Bool := (a.1 == b.1) && (a.2.1 == b.2.1)
def K8 (c : T Jd → T Jd → Option Bool) (a b : T Jd) : Option Ze := ob (c a b) fun x => some (x, ())
def Cw (c : T Jd → T Jd → Option Bool) (t2 : Unit) (t5 : (List (Int × ((T .o) × Unit)))) (t8 : (List (Int × ((T .o) × Unit)))) (t9 : Int) (t10 : Int) (b2 : (Int × ((T .o) × Unit))) : Option (((Unit × ((List (Int × ((T .o) × Unit))) × ((List (Int × ((T .o) × Unit))) × Ab))) × ((Int × ((T .o) × Unit)) × Unit)) ⊕ ((((List (Int × ((T .o) × Unit))) × Unit) × Unit) ⊕ Ni)) :=
 (cond (decide (t10 < t9))
 (ob (Wc t8 t10) fun x7 =>
 (ob (K8 c b2 x7) fun r8 =>
 (cond (!r8.1)
 (cond (bl (ln t5 + ln ([x7] : List (Int × ((T .o) × Unit)))) Jb)
 (some (.inl (((), (ap t5 ([x7] : List (Int × ((T .o) × Unit)))), t8, t9, (wr .i64 (t10 + 1)), ()), (x7, ()))))
 none)
 (some (.inl (((), t5, t8, t9, (wr .i64 (t10 + 1)), ()), (x7, ())))))))
 (some (.inr (.inl ((t5, ()), ())))))
def Tp (c : T Jd → T Jd → Option Bool) (x : ((Unit × ((List (Int × ((T .o) × Unit))) × ((List (Int × ((T .o) × Unit))) × Ab))) × ((Int × ((T .o) × Unit)) × Unit))) : Option ((((List (Int × ((T .o) × Unit))) × Unit) × Unit) ⊕ Ni) := Nb (fun x : ((Unit × ((List (Int × ((T .o) × Unit))) × ((List (Int × ((T .o) × Unit))) × Ab))) × ((Int × ((T .o) × Unit)) × Unit)) => Cw c x.1.1 x.1.2.1 x.1.2.2.1 x.1.2.2.2.1 x.1.2.2.2.2.1 x.2.1) x
def NX (c : T Jd → T Jd → Option Bool) (a0 : (Int × ((T .o) × Unit))) (a1 : (List (Int × ((T .o) × Unit)))) : Option ((List (Int × ((T .o) × Unit))) × Unit) :=
 (ob (Tp c (((), ([] : List (Int × ((T .o) × Unit))), a1, ((ln a1 : Nat) : Int), 0, ()), (a0, ()))) (se (fun y9 => (some (y9.1.1, ()))) (fun z10 => none)))
def Md (a0 : Ca) (a1 : List Ca) : Option ZG := MX Ji a0 a1
def Sr (a0 : Lb) (a1 : Int) : Option (Lb × ZG) :=
 (ob (Sh a0) fun r1 =>
 (ob (Zw a0 a1) fun r2 =>
 (cond (Pd (ln r1.1.2.2.2.1) 0 r2.1)
 (cond (Pd (ln r1.1.2.2.2.1) (wr .i64 (r2.1 + 1)) ((ln r1.1.2.2.2.1 : Nat) : Int))
 (cond (bl (ln (Xa r1.1.2.2.2.1 (tn 0) (tn r2.1)) + ln (Xa r1.1.2.2.2.1 (tn (wr .i64 (r2.1 + 1))) (tn ((ln r1.1.2.2.2.1 : Nat) : Int)))) Jb)
 (ob (Pc a0.2.2.2.1) fun r3 =>
 (ob (Pc (ap (Xa r1.1.2.2.2.1 (tn 0) (tn r2.1)) (Xa r1.1.2.2.2.1 (tn (wr .i64 (r2.1 + 1))) (tn ((ln r1.1.2.2.2.1 : Nat) : Int))))) fun r4 =>
 (ob (Md r3.1 ([r4.1] : List Ca)) fun r5 =>
 (some ((r1.1.1, r1.1.2.1, r1.1.2.2.1, (ap (Xa r1.1.2.2.2.1 (tn 0) (tn r2.1)) (Xa r1.1.2.2.2.1 (tn (wr .i64 (r2.1 + 1))) (tn ((ln r1.1.2.2.2.1 : Nat) : Int)))), r1.1.2.2.2.2), r5.1, ())))))
 none)
 none)
 none)))
def Fn (t5 : Int) (t21 : Tt) (t22 : Int) (t23 : Int) : Option (MA ⊕ M8) :=
 (cond (decide (t23 < t22))
 (ob (Wc t21 t23) fun x16 =>
 (cond (x16.2.1.1 == 3)
 (cond (decide (0 ≤ x16.2.1.2.2.2.1))
 (some (.inl (((Xe .i64 t5 (Ce .i64 1 x16.2.1.2.2.2.1)), t21, t22, (wr .i64 (t23 + 1)), ()), ())))
 none)
 (some (.inl ((t5, t21, t22, (wr .i64 (t23 + 1)), ()), ())))))
 (some (.inr (.inl ((t5, ()), ())))))
def Rh := Nb fun x : MA => Fn x.1.1 x.1.2.1 x.1.2.2.1 x.1.2.2.2.1
def Kp (a0 : Int) (a1 : Tt) : Option Kh :=
 (cond (decide (a0 ≥ 0))
 (cond (decide (a0 ≤ 15))
 (ob (Ti a1) fun r1 =>
 (cond (!r1.1)
 (some ((Xe .i64 1 a0), ()))
 (ob (Rh (((Xe .i64 1 a0), a1, ((ln a1 : Nat) : Int), 0, ()), ())) (se (fun y5 => (some (y5.1.1, ()))) (fun z6 => none)))))
 (ob (Ti a1) fun r7 =>
 (cond (!r7.1)
 (some (1, ()))
 (ob (Rh ((1, a1, ((ln a1 : Nat) : Int), 0, ()), ())) (se (fun y11 => (some (y11.1.1, ()))) (fun z12 => none))))))
 (ob (Ti a1) fun r13 =>
 (cond (!r13.1)
 (some (1, ()))
 (ob (Rh ((1, a1, ((ln a1 : Nat) : Int), 0, ()), ())) (se (fun y17 => (some (y17.1.1, ()))) (fun z18 => none))))))
def Zz (t1 : Int) (t2 : Int) (t3 : Unit) (t7 : Int) (b3 : Ha) : Option (BQ ⊕ TC) :=
 (cond (decide (t7 > 0))
 (ob (So t1 t7) fun r7 =>
 (cond (r7.1 == 1)
 (ob (Wc b3.2.1 t7) fun x8 =>
 (ob (Wc x8 t2) fun x9 =>
 (cond (x9.1 != 1)
 (some (.inr (.inr ((t7, ()), ()))))
 (some (.inl ((t1, t2, (), (wr .i64 (t7 - 1)), ()), (b3, ())))))))
 (some (.inl ((t1, t2, (), (wr .i64 (t7 - 1)), ()), (b3, ()))))))
 (some (.inr (.inl ((), ())))))
def Xg := Nb fun x : BQ => Zz x.1.1 x.1.2.1 x.1.2.2.1 x.1.2.2.2.1 x.2.1
def Qr (a0 : Ha) (a1 : Int) (a2 : Int) : Option Kh :=
 (ob (Xg ((a1, a2, (), (wr .i64 (((ln a0.2.1 : Nat) : Int) - 1)), ()), (a0, ()))) (se (fun y10 => (some (0, ()))) (fun z11 => (some (z11.1.1, ())))))
def Xz (a0 : Ha) (a1 : Int) (a2 : Int) : Option Kh :=
 (ob (Bi a0) fun r1 =>
 (cond (!r1.1)
 (some ((-1), ()))
 (cond (decide (a2 < 0))
 (some ((-1), ()))
 (cond (decide (a2 ≥ a0.1))
 (some ((-1), ()))
 (ob (Qr a0 a1 a2) fun r2 =>
 (some (r2.1, ())))))))
def Wt (a0 : Ha) (a1 : Int) (a2 : Int) : Option YG :=
 (ob (Xz a0 a1 a2) fun r1 =>
 (cond (decide (r1.1 < 0))
 (some ((0, 0, 0, 0, ()), ()))
 (ob (Wc a0.2.1 r1.1) fun x2 =>
 (ob (Wc x2 a2) fun x3 =>
 (some (x3, ()))))))
def Cn (t1 : Int) (t2 : Int) (t4 : Int) (t5 : Unit) (t12 : Int) (t26 : Jl) (t27 : Int) (t28 : Int) (b5 : Yb) : Option (((Int × (Int × (Int × (Unit × UG)))) × XK) ⊕ (((Int × (Int × Ni)) × XK) ⊕ UC)) :=
 (cond (decide (t28 < t27))
 (ob (Wc t26 t28) fun x10 =>
 (ob (Ir x10) fun r11 =>
 (cond (!r11.1)
 (some (.inr (.inr ((0, 0, ()), ()))))
 (cond (decide (x10.1 ≥ (wr .i64 (t2 + b5.1))))
 (some (.inr (.inr ((2, (wr .i64 (t2 + b5.1)), ()), ()))))
 (cond (x10.2.1 == t1)
 (cond (!x10.2.2.1)
 (some (.inr (.inr ((1, x10.1, ()), ()))))
 (cond (x10.2.1 == t1)
 (some (.inl ((t1, t2, t4, (), t12, t26, t27, (wr .i64 (t28 + 1)), ()), (b5, ()))))
 (cond x10.2.2.1
 (cond (b5.2.2.1 == 1)
 (some (.inr (.inr ((2, x10.1, ()), ()))))
 (cond (decide (0 ≤ x10.2.1))
 (some (.inl ((t1, t2, t4, (), (Xe .i64 t12 (Ce .i64 1 x10.2.1)), t26, t27, (wr .i64 (t28 + 1)), ()), (b5, ()))))
 none))
 (cond (b5.2.2.1 == 2)
 (ob (So t12 x10.2.1) fun r12 =>
 (cond (r12.1 == 1)
 (some (.inr (.inr ((2, x10.1, ()), ()))))
 (some (.inl ((t1, t2, t4, (), t12, t26, t27, (wr .i64 (t28 + 1)), ()), (b5, ()))))))
 (some (.inl ((t1, t2, t4, (), t12, t26, t27, (wr .i64 (t28 + 1)), ()), (b5, ()))))))))
 (cond (x10.2.1 == t1)
 (some (.inl ((t1, t2, t4, (), t12, t26, t27, (wr .i64 (t28 + 1)), ()), (b5, ()))))
 (cond x10.2.2.1
 (cond (b5.2.2.1 == 1)
 (some (.inr (.inr ((2, x10.1, ()), ()))))
 (cond (decide (0 ≤ x10.2.1))
 (some (.inl ((t1, t2, t4, (), (Xe .i64 t12 (Ce .i64 1 x10.2.1)), t26, t27, (wr .i64 (t28 + 1)), ()), (b5, ()))))
 none))
 (cond (b5.2.2.1 == 2)
 (ob (So t12 x10.2.1) fun r13 =>
 (cond (r13.1 == 1)
 (some (.inr (.inr ((2, x10.1, ()), ()))))
 (some (.inl ((t1, t2, t4, (), t12, t26, t27, (wr .i64 (t28 + 1)), ()), (b5, ()))))))
 (some (.inl ((t1, t2, t4, (), t12, t26, t27, (wr .i64 (t28 + 1)), ()), (b5, ()))))))))))))
 (some (.inr (.inl ((t2, t4, (), ()), (b5, ()))))))
def Lo := Nb fun x : ((Int × (Int × (Int × (Unit × UG)))) × XK) => Cn x.1.1 x.1.2.1 x.1.2.2.1 x.1.2.2.2.1 x.1.2.2.2.2.1 x.1.2.2.2.2.2.1 x.1.2.2.2.2.2.2.1 x.1.2.2.2.2.2.2.2.1 x.2.1
def Hp (a0 : Yb) (a1 : Int) (a2 : Int) (a3 : Jl) (a4 : Int) : Option Ab :=
 (ob (Jp a0) fun r1 =>
 (cond (!r1.1)
 (some (0, 0, ()))
 (cond (decide (a2 < 0))
 (some (0, 0, ()))
 (cond (decide (a2 > 1000000))
 (some (0, 0, ()))
 (ob (Lo ((a1, a2, a4, (), 0, a3, ((ln a3 : Nat) : Int), 0, ()), (a0, ()))) (se (fun y14 => (cond (decide (y14.1.2.1 ≥ (wr .i64 (y14.1.1 + y14.2.1.1))))
 (some (2, (wr .i64 (y14.1.1 + y14.2.1.1)), ()))
 (some (0, 0, ())))) (fun z15 => (some z15.1))))))))
def Ax (a0 : Ka) : Option YG :=
 (ob (Kk a0) fun r1 =>
 (cond (!r1.1)
 (some (a0, ()))
 (cond (a0.1 == 6)
 (some ((2, 0, a0.2.2.1, 0, ()), ()))
 (some ((3, 0, 0, a0.2.2.2.1, ()), ())))))
def Jq (a0 : Int) : Option Ze :=
 (cond (decide (a0 ≥ 1))
 (cond (decide (a0 ≤ 36))
 (some (true, ()))
 (cond (a0 == 39)
 (some (true, ()))
 (some ((a0 == 42), ()))))
 (cond (a0 == 39)
 (some (true, ()))
 (some ((a0 == 42), ()))))
def Tm (a0 : Lb) (a1 : Ka) : Option (Lb × YG) :=
 (cond (a1.1 == 2)
 (cond (a1.2.1 == 0)
 (some (a0, (a1, ())))
 (cond a0.2.2.2.2.2.1
 (ob (Jq a1.2.1) fun r1 =>
 (cond r1.1
 (cond (decide (a1.2.1 ≤ 26))
 (cond ((Gj .i64 (Xe .i64 a1.2.2.1 a0.2.2.2.2.1) 2) == 0)
 (some ((a0.1, a0.2.1, a0.2.2.1, a0.2.2.2.1, 0, r1.1, a0.2.2.2.2.2.2), ((a1.1, a1.2.1, 2, a1.2.2.2), ())))
 (some ((a0.1, a0.2.1, a0.2.2.1, a0.2.2.2.1, 0, r1.1, a0.2.2.2.2.2.2), ((a1.1, a1.2.1, (Xe .i64 a1.2.2.1 a0.2.2.2.2.1), a1.2.2.2), ()))))
 (some ((a0.1, a0.2.1, a0.2.2.1, a0.2.2.2.1, 0, r1.1, a0.2.2.2.2.2.2), ((a1.1, a1.2.1, (Xe .i64 a1.2.2.1 a0.2.2.2.2.1), a1.2.2.2), ()))))
 (some ((a0.1, a0.2.1, a0.2.2.1, a0.2.2.2.1, 0, r1.1, a0.2.2.2.2.2.2), ((a1.1, a1.2.1, (Xe .i64 a1.2.2.1 a0.2.2.2.2.1), a1.2.2.2), ())))))
 (some ((a0.1, a0.2.1, a0.2.2.1, a0.2.2.2.1, 0, false, a0.2.2.2.2.2.2), ((a1.1, a1.2.1, (Xe .i64 a1.2.2.1 a0.2.2.2.2.1), a1.2.2.2), ())))))
 (cond (a1.1 == 4)
 (cond (decide (0 ≤ a1.2.2.2.1))
 (some ((a0.1, a0.2.1, (Cj .i64 a0.2.2.1 (Ce .i64 1 a1.2.2.2.1)), a0.2.2.2), (a1, ())))
 none)
 (cond (a1.1 == 5)
 (cond (decide (0 ≤ a1.2.2.2.1))
 (some ((a0.1, a0.2.1, (Gj .i64 (Ce .i64 1 a1.2.2.2.1) 1), a0.2.2.2), (a1, ())))
 none)
 (cond (a1.1 == 8)
 (cond ((Rg .i64 a0.2.2.2.2.1 a1.2.2.1) == a1.2.2.1)
 (some ((a0.1, a0.2.1, a0.2.2.1, a0.2.2.2.1, (Gj .i64 a0.2.2.2.2.1 a1.2.2.1), a0.2.2.2.2.2), (a1, ())))
 (some ((a0.1, a0.2.1, a0.2.2.1, a0.2.2.2.1, (Xe .i64 a0.2.2.2.2.1 a1.2.2.1), a0.2.2.2.2.2), (a1, ()))))
 (cond (a1.1 == 10)
 (some ((a0.1, a0.2.1, a0.2.2.1, a0.2.2.2.1, a0.2.2.2.2.1, (!a0.2.2.2.2.2.1), a0.2.2.2.2.2.2), (a1, ())))
 (some (a0, (a1, ()))))))))
def Fm (t4 : Unit) (t5 : Unit) (t6 : Bg) (t15 : Sy) (t16 : Int) (t17 : Int) (b4 : Ca) (b5 : Ca) : Option (((Unit × (Unit × (Bg × AQ))) × WI) ⊕ V8) :=
 (cond (decide (t17 < t16))
 (ob (Wc t15 t17) fun x4 =>
 (cond (bl (ln t6 + ln ([x4.1] : List Int)) Jb)
 (some (.inl (((), (), (ap t6 ([x4.1] : List Int)), t15, t16, (wr .i64 (t17 + 1)), ()), (b4, ((Xe .i64 b5.1 x4.2.1), b5.2.1, ()), ()))))
 none))
 (some (.inr (.inl (((), (), t6, ()), (b4, b5, ()))))))
def Yn := Nb fun x : ((Unit × (Unit × (Bg × AQ))) × WI) => Fm x.1.1 x.1.2.1 x.1.2.2.1 x.1.2.2.2.1 x.1.2.2.2.2.1 x.1.2.2.2.2.2.1 x.2.1 x.2.2.1
def Ge (a0 : Ca) (a1 : Sy) : Option Vt :=
 (ob (Ol a0.2.1) fun r1 =>
 (ob (Yn (((), (), r1.1, a1, ((ln a1 : Nat) : Int), 0, ()), ((0, [], ()), (a0.1, [], ()), ()))) (se (fun y5 => (ob (Un y5.1.2.2.1) fun r7 =>
 (some ((y5.2.2.1.1, r7.1, ()), ())))) (fun z6 => none))))
def Ij (t5 : Unit) (t6 : Io) (t7 : Sy) (t22 : LA) (t23 : Int) (t24 : Int) (b5 : Ca) : Option (((Unit × (Io × EQ)) × Vt) ⊕ U8) :=
 (cond (decide (t24 < t23))
 (ob (Wc t22 t24) fun x25 =>
 (cond (x25.1 == 0)
 (cond (bl (ln ([] : List Ab) + ln t7) Jb)
 (cond (bl (ln (ap [] t7) + ln ([x25.2] : List Ab)) Jb)
 (ob (Ge b5 (ap (ap [] t7) ([x25.2] : List Ab))) fun r26 =>
 (cond (bl (ln t6 + ln ([r26.1] : List Ca)) Jb)
 (ob (Ge b5 t7) fun r27 =>
 (cond (bl (ln (ap t6 ([r26.1] : List Ca)) + ln ([r27.1] : List Ca)) Jb)
 (some (.inl (((), (ap (ap t6 ([r26.1] : List Ca)) ([r27.1] : List Ca)), t7, t22, t23, (wr .i64 (t24 + 1)), ()), (b5, ()))))
 none))
 none))
 none)
 none)
 (cond (x25.1 == 1)
 (cond (bl (ln t7 + ln ([x25.2] : List Ab)) Jb)
 (ob (Ge b5 (ap t7 ([x25.2] : List Ab))) fun r28 =>
 (cond (bl (ln t6 + ln ([r28.1] : List Ca)) Jb)
 (some (.inl (((), (ap t6 ([r28.1] : List Ca)), (ap t7 ([x25.2] : List Ab)), t22, t23, (wr .i64 (t24 + 1)), ()), (b5, ()))))
 none))
 none)
 (cond (x25.1 == 2)
 (ob (Lt t7 x25.2) fun r29 =>
 (cond (Pd (ln t7) 0 r29.1)
 (cond (Pd (ln t7) (wr .i64 (r29.1 + 1)) ((ln t7 : Nat) : Int))
 (cond (bl (ln (Xa t7 (tn 0) (tn r29.1)) + ln (Xa t7 (tn (wr .i64 (r29.1 + 1))) (tn ((ln t7 : Nat) : Int)))) Jb)
 (ob (Ge b5 (ap (Xa t7 (tn 0) (tn r29.1)) (Xa t7 (tn (wr .i64 (r29.1 + 1))) (tn ((ln t7 : Nat) : Int))))) fun r30 =>
 (cond (bl (ln t6 + ln ([r30.1] : List Ca)) Jb)
 (some (.inl (((), (ap t6 ([r30.1] : List Ca)), (ap (Xa t7 (tn 0) (tn r29.1)) (Xa t7 (tn (wr .i64 (r29.1 + 1))) (tn ((ln t7 : Nat) : Int)))), t22, t23, (wr .i64 (t24 + 1)), ()), (b5, ()))))
 none))
 none)
 none)
 none))
 (ob (Ge b5 t7) fun r31 =>
 (cond (bl (ln t6 + ln ([r31.1] : List Ca)) Jb)
 (some (.inl (((), (ap t6 ([r31.1] : List Ca)), t7, t22, t23, (wr .i64 (t24 + 1)), ()), (b5, ()))))
 none))))))
 (some (.inr (.inl ((t6, ()), ())))))
def Vk := Nb fun x : ((Unit × (Io × EQ)) × Vt) => Ij x.1.1 x.1.2.1 x.1.2.2.1 x.1.2.2.2.1 x.1.2.2.2.2.1 x.1.2.2.2.2.2.1 x.2.1
def Yh (a0 : Tt) (a1 : LA) : Option ZG :=
 (ob (Ti a0) fun r1 =>
 (cond (!r1.1)
 (some ([], ()))
 (ob (Kr a1) fun r2 =>
 (cond (!r2.1)
 (some ([], ()))
 (ob (Pc a0) fun r3 =>
 (ob (Vk (((), [], [], a1, ((ln a1 : Nat) : Int), 0, ()), (r3.1, ()))) (se (fun y32 => (some (y32.1.1, ()))) (fun z33 => none))))))))
def Tg (a0 : Lb) (a1 : Int) (a2 : Bool) : Option (Lb × ZG) :=
 (ob (Sh a0) fun r1 =>
 (ob (Kp a0.2.2.1 a0.2.2.2.1) fun r2 =>
 (ob (Qr a0.1 r2.1 a1) fun r3 =>
 (ob (Wc a0.1.2.1 r3.1) fun x4 =>
 (ob (Wc x4 a1) fun x5 =>
 (cond a2
 (ob (Ax x5) fun r6 =>
 (ob (Tm r1.1 r6.1) fun r7 =>
 (cond (bl (ln r7.1.2.2.2.1 + ln ([(a1, r7.2.1, ())] : List Ma)) Jb)
 (cond (r7.2.1.1 == 9)
 (cond (decide (r7.2.1.2.2.2.1 < ((ln a0.2.1 : Nat) : Int)))
 (ob (Wc a0.2.1 r7.2.1.2.2.2.1) fun x8 =>
 (ob (Yh (ap r7.1.2.2.2.1 ([(a1, r7.2.1, ())] : List Ma)) x8) fun r9 =>
 (ob (Pc (ap r7.1.2.2.2.1 ([(a1, r7.2.1, ())] : List Ma))) fun r10 =>
 (cond (bl (ln r9.1 + ln ([r10.1] : List Ca)) Jb)
 (ob (Pc a0.2.2.2.1) fun r11 =>
 (ob (Md r11.1 (ap r9.1 ([r10.1] : List Ca))) fun r12 =>
 (some ((r7.1.1, r7.1.2.1, r7.1.2.2.1, (ap r7.1.2.2.2.1 ([(a1, r7.2.1, ())] : List Ma)), r7.1.2.2.2.2), r12.1, ()))))
 none))))
 (ob (Pc (ap r7.1.2.2.2.1 ([(a1, r7.2.1, ())] : List Ma))) fun r13 =>
 (cond (bl (ln ([] : List Ca) + ln ([r13.1] : List Ca)) Jb)
 (ob (Pc a0.2.2.2.1) fun r14 =>
 (ob (Md r14.1 (ap [] ([r13.1] : List Ca))) fun r15 =>
 (some ((r7.1.1, r7.1.2.1, r7.1.2.2.1, (ap r7.1.2.2.2.1 ([(a1, r7.2.1, ())] : List Ma)), r7.1.2.2.2.2), r15.1, ()))))
 none)))
 (ob (Pc (ap r7.1.2.2.2.1 ([(a1, r7.2.1, ())] : List Ma))) fun r16 =>
 (cond (bl (ln ([] : List Ca) + ln ([r16.1] : List Ca)) Jb)
 (ob (Pc a0.2.2.2.1) fun r17 =>
 (ob (Md r17.1 (ap [] ([r16.1] : List Ca))) fun r18 =>
 (some ((r7.1.1, r7.1.2.1, r7.1.2.2.1, (ap r7.1.2.2.2.1 ([(a1, r7.2.1, ())] : List Ma)), r7.1.2.2.2.2), r18.1, ()))))
 none)))
 none)))
 (ob (Ro x5) fun r19 =>
 (ob (Tm r1.1 r19.1) fun r20 =>
 (cond (bl (ln r20.1.2.2.2.1 + ln ([(a1, r20.2.1, ())] : List Ma)) Jb)
 (cond (r20.2.1.1 == 9)
 (cond (decide (r20.2.1.2.2.2.1 < ((ln a0.2.1 : Nat) : Int)))
 (ob (Wc a0.2.1 r20.2.1.2.2.2.1) fun x21 =>
 (ob (Yh (ap r20.1.2.2.2.1 ([(a1, r20.2.1, ())] : List Ma)) x21) fun r22 =>
 (ob (Pc (ap r20.1.2.2.2.1 ([(a1, r20.2.1, ())] : List Ma))) fun r23 =>
 (cond (bl (ln r22.1 + ln ([r23.1] : List Ca)) Jb)
 (ob (Pc a0.2.2.2.1) fun r24 =>
 (ob (Md r24.1 (ap r22.1 ([r23.1] : List Ca))) fun r25 =>
 (some ((r20.1.1, r20.1.2.1, r20.1.2.2.1, (ap r20.1.2.2.2.1 ([(a1, r20.2.1, ())] : List Ma)), r20.1.2.2.2.2), r25.1, ()))))
 none))))
 (ob (Pc (ap r20.1.2.2.2.1 ([(a1, r20.2.1, ())] : List Ma))) fun r26 =>
 (cond (bl (ln ([] : List Ca) + ln ([r26.1] : List Ca)) Jb)
 (ob (Pc a0.2.2.2.1) fun r27 =>
 (ob (Md r27.1 (ap [] ([r26.1] : List Ca))) fun r28 =>
 (some ((r20.1.1, r20.1.2.1, r20.1.2.2.1, (ap r20.1.2.2.2.1 ([(a1, r20.2.1, ())] : List Ma)), r20.1.2.2.2.2), r28.1, ()))))
 none)))
 (ob (Pc (ap r20.1.2.2.2.1 ([(a1, r20.2.1, ())] : List Ma))) fun r29 =>
 (cond (bl (ln ([] : List Ca) + ln ([r29.1] : List Ca)) Jb)
 (ob (Pc a0.2.2.2.1) fun r30 =>
 (ob (Md r30.1 (ap [] ([r29.1] : List Ca))) fun r31 =>
 (some ((r20.1.1, r20.1.2.1, r20.1.2.2.1, (ap r20.1.2.2.2.1 ([(a1, r20.2.1, ())] : List Ma)), r20.1.2.2.2.2), r31.1, ()))))
 none)))
 none)))))))))
def Sg (a0 : Ub) : Option (Ub × (Io × Ze)) :=
 (cond (Bj (ln a0.2.2.1) 0)
 (ob a0.2.2.1[(tn 0)]? fun x1 =>
 (cond (Pd (ln a0.2.2.1) 1 ((ln a0.2.2.1 : Nat) : Int))
 (cond (!x1.2.2.1)
 (cond (a0.2.2.2.2.2.1 == (wr .i64 (x1.2.1 + 1)))
 (ob (Sr a0.1 x1.2.1) fun r2 =>
 (cond (bl (ln ([] : List Na) + ln (Xa a0.2.2.1 (tn 1) (tn ((ln a0.2.2.1 : Nat) : Int)))) Jb)
 (some ((r2.1, a0.2.1, (ap [] (Xa a0.2.2.1 (tn 1) (tn ((ln a0.2.2.1 : Nat) : Int)))), a0.2.2.2.1, (max a0.2.2.2.2.1 x1.1), a0.2.2.2.2.2.1, x1.1, a0.2.2.2.2.2.2.2), (r2.2.1, true, ())))
 none))
 (ob (Sr a0.1 x1.2.1) fun r3 =>
 (cond (bl (ln ([] : List Na) + ln (Xa a0.2.2.1 (tn 1) (tn ((ln a0.2.2.1 : Nat) : Int)))) Jb)
 (some ((r3.1, a0.2.1, (ap [] (Xa a0.2.2.1 (tn 1) (tn ((ln a0.2.2.1 : Nat) : Int)))), a0.2.2.2.1, (max a0.2.2.2.2.1 x1.1), a0.2.2.2.2.2), (r3.2.1, true, ())))
 none)))
 (ob (Kp a0.1.2.2.1 a0.1.2.2.2.1) fun r4 =>
 (ob (Wt a0.1.1 r4.1 x1.2.1) fun r5 =>
 (ob (Kk r5.1) fun r6 =>
 (cond r6.1
 (cond (a0.2.2.2.2.2.1 != (wr .i64 (x1.2.1 + 1)))
 (ob (Hp a0.2.1 x1.2.1 x1.1 (Xa a0.2.2.1 (tn 1) (tn ((ln a0.2.2.1 : Nat) : Int))) a0.2.2.2.1) fun r7 =>
 (cond (r7.1 == 0)
 (some (a0, ([], false, ())))
 (cond (r7.1 == 1)
 (ob (Tg a0.1 x1.2.1 false) fun r8 =>
 (cond (bl (ln ([] : List Na) + ln (Xa a0.2.2.1 (tn 1) (tn ((ln a0.2.2.1 : Nat) : Int)))) Jb)
 (some ((r8.1, a0.2.1, (ap [] (Xa a0.2.2.1 (tn 1) (tn ((ln a0.2.2.1 : Nat) : Int)))), a0.2.2.2.1, (max (max a0.2.2.2.2.1 x1.1) r7.2.1), (wr .i64 (x1.2.1 + 1)), x1.1, a0.2.2.2.2.2.2.2), (r8.2.1, true, ())))
 none))
 (cond (r7.1 == 2)
 (ob (Tg a0.1 x1.2.1 true) fun r9 =>
 (cond (bl (ln ([] : List Na) + ln (Xa a0.2.2.1 (tn 1) (tn ((ln a0.2.2.1 : Nat) : Int)))) Jb)
 (some ((r9.1, a0.2.1, (ap [] (Xa a0.2.2.1 (tn 1) (tn ((ln a0.2.2.1 : Nat) : Int)))), a0.2.2.2.1, (max (max a0.2.2.2.2.1 x1.1) r7.2.1), 0, a0.2.2.2.2.2.2), (r9.2.1, true, ())))
 none))
 (ob (Tg a0.1 x1.2.1 false) fun r10 =>
 (cond (bl (ln ([] : List Na) + ln (Xa a0.2.2.1 (tn 1) (tn ((ln a0.2.2.1 : Nat) : Int)))) Jb)
 (some ((r10.1, a0.2.1, (ap [] (Xa a0.2.2.1 (tn 1) (tn ((ln a0.2.2.1 : Nat) : Int)))), a0.2.2.2.1, (max (max a0.2.2.2.2.1 x1.1) r7.2.1), a0.2.2.2.2.2), (r10.2.1, true, ())))
 none))))))
 (cond (decide ((wr .i64 (x1.1 - a0.2.2.2.2.2.2.1)) ≥ a0.2.1.2.1))
 (ob (Hp a0.2.1 x1.2.1 x1.1 (Xa a0.2.2.1 (tn 1) (tn ((ln a0.2.2.1 : Nat) : Int))) a0.2.2.2.1) fun r11 =>
 (cond (r11.1 == 0)
 (some (a0, ([], false, ())))
 (cond (r11.1 == 1)
 (ob (Tg a0.1 x1.2.1 false) fun r12 =>
 (cond (bl (ln ([] : List Na) + ln (Xa a0.2.2.1 (tn 1) (tn ((ln a0.2.2.1 : Nat) : Int)))) Jb)
 (some ((r12.1, a0.2.1, (ap [] (Xa a0.2.2.1 (tn 1) (tn ((ln a0.2.2.1 : Nat) : Int)))), a0.2.2.2.1, (max (max a0.2.2.2.2.1 x1.1) r11.2.1), (wr .i64 (x1.2.1 + 1)), x1.1, a0.2.2.2.2.2.2.2), (r12.2.1, true, ())))
 none))
 (cond (r11.1 == 2)
 (ob (Tg a0.1 x1.2.1 true) fun r13 =>
 (cond (bl (ln ([] : List Na) + ln (Xa a0.2.2.1 (tn 1) (tn ((ln a0.2.2.1 : Nat) : Int)))) Jb)
 (some ((r13.1, a0.2.1, (ap [] (Xa a0.2.2.1 (tn 1) (tn ((ln a0.2.2.1 : Nat) : Int)))), a0.2.2.2.1, (max (max a0.2.2.2.2.1 x1.1) r11.2.1), 0, a0.2.2.2.2.2.2), (r13.2.1, true, ())))
 none))
 (ob (Tg a0.1 x1.2.1 false) fun r14 =>
 (cond (bl (ln ([] : List Na) + ln (Xa a0.2.2.1 (tn 1) (tn ((ln a0.2.2.1 : Nat) : Int)))) Jb)
 (some ((r14.1, a0.2.1, (ap [] (Xa a0.2.2.1 (tn 1) (tn ((ln a0.2.2.1 : Nat) : Int)))), a0.2.2.2.1, (max (max a0.2.2.2.2.1 x1.1) r11.2.1), a0.2.2.2.2.2), (r14.2.1, true, ())))
 none))))))
 (cond ((1 : Int) == 0)
 (some (a0, ([], false, ())))
 (cond ((1 : Int) == 1)
 (ob (Tg a0.1 x1.2.1 false) fun r15 =>
 (cond (bl (ln ([] : List Na) + ln (Xa a0.2.2.1 (tn 1) (tn ((ln a0.2.2.1 : Nat) : Int)))) Jb)
 (some ((r15.1, a0.2.1, (ap [] (Xa a0.2.2.1 (tn 1) (tn ((ln a0.2.2.1 : Nat) : Int)))), a0.2.2.2.1, (max (max a0.2.2.2.2.1 x1.1) x1.1), (wr .i64 (x1.2.1 + 1)), x1.1, a0.2.2.2.2.2.2.2), (r15.2.1, true, ())))
 none))
 (cond ((1 : Int) == 2)
 (ob (Tg a0.1 x1.2.1 true) fun r16 =>
 (cond (bl (ln ([] : List Na) + ln (Xa a0.2.2.1 (tn 1) (tn ((ln a0.2.2.1 : Nat) : Int)))) Jb)
 (some ((r16.1, a0.2.1, (ap [] (Xa a0.2.2.1 (tn 1) (tn ((ln a0.2.2.1 : Nat) : Int)))), a0.2.2.2.1, (max (max a0.2.2.2.2.1 x1.1) x1.1), 0, a0.2.2.2.2.2.2), (r16.2.1, true, ())))
 none))
 (ob (Tg a0.1 x1.2.1 false) fun r17 =>
 (cond (bl (ln ([] : List Na) + ln (Xa a0.2.2.1 (tn 1) (tn ((ln a0.2.2.1 : Nat) : Int)))) Jb)
 (some ((r17.1, a0.2.1, (ap [] (Xa a0.2.2.1 (tn 1) (tn ((ln a0.2.2.1 : Nat) : Int)))), a0.2.2.2.1, (max (max a0.2.2.2.2.1 x1.1) x1.1), a0.2.2.2.2.2), (r17.2.1, true, ())))
 none)))))))
 (ob (Tg a0.1 x1.2.1 false) fun r18 =>
 (cond (bl (ln ([] : List Na) + ln (Xa a0.2.2.1 (tn 1) (tn ((ln a0.2.2.1 : Nat) : Int)))) Jb)
 (some ((r18.1, a0.2.1, (ap [] (Xa a0.2.2.1 (tn 1) (tn ((ln a0.2.2.1 : Nat) : Int)))), a0.2.2.2.1, (max a0.2.2.2.2.1 x1.1), a0.2.2.2.2.2), (r18.2.1, true, ())))
 none)))))))
 none))
 none)
def Au (t0 : Ut) (t1 : Int) (t9 : (Io × Int)) (t10 : Int) (t11 : Int) : Option (((Ut × (Int × ((Io × Int) × Ab))) × Unit) ⊕ (((Ut × Unit) × Unit) ⊕ Ni)) :=
 (cond (decide (t11 < t10))
 (cond (Bj (ln t9.1) t11)
 (cond (Nat.beq (tn t11) (tn t9.2))
 (ob t9.1[(tn t11)]? fun x4 =>
 (cond (bl (ln t0 + ln ([(t1, x4, ())] : List Mf)) Jb)
 (some (.inl (((ap t0 ([(t1, x4, ())] : List Mf)), t1, (t9.1, ((((tn t11) + 1) : Nat) : Int)), t10, (wr .i64 (t11 + 1)), ()), ())))
 none))
 none)
 none)
 (some (.inr (.inl ((t0, ()), ())))))
def Mu := Nb fun x : ((Ut × (Int × ((Io × Int) × Ab))) × Unit) => Au x.1.1 x.1.2.1 x.1.2.2.1 x.1.2.2.2.1 x.1.2.2.2.2.1
def Nx (a0 : Ut) (a1 : Int) (a2 : Io) : Option (Ut × Unit) :=
 (ob (Mu ((a0, a1, (a2, 0), ((ln a2 : Nat) : Int), 0, ()), ())) (se (fun y5 => (some (y5.1.1, ()))) (fun z6 => none)))
def Yf (t6 : Unit) (t9 : Unit) (t10 : Ut) (b6 : Ub) (b9 : Ub) : Option (DX ⊕ (DX ⊕ Ni)) :=
 (cond (decide (((ln b9.2.2.1 : Nat) : Int) > 0))
 (ob (Sg b9) fun r25 =>
 (cond (!r25.2.2.1)
 (some (.inr (.inl (((), (), t10, ()), (b6, r25.1, ())))))
 (ob (Nx t10 r25.1.2.2.2.2.1 r25.2.1) fun r26 =>
 (some (.inl (((), (), r26.1, ()), (b6, r25.1, ())))))))
 (some (.inr (.inl (((), (), t10, ()), (b6, b9, ()))))))
def Ve := Nb fun x : DX => Yf x.1.1 x.1.2.1 x.1.2.2.1 x.2.1 x.2.2.1
def Lq (a0 : Ub) (a1 : Jl) (a2 : Int) : Option (Ub × Vai) :=
 (ob (Qn a0) fun r1 =>
 (cond (!r1.1)
 (some (Oh, [], false, ()))
 (cond (decide (a2 < a0.2.2.2.1))
 (some (Oh, [], false, ()))
 (cond (decide (a2 > 1000000))
 (some (Oh, [], false, ()))
 (cond (decide (((ln a1 : Nat) : Int) > 0))
 (ob (Wc a1 0) fun x2 =>
 (cond (decide (x2.1 < a0.2.2.2.1))
 (some (Oh, [], false, ()))
 (ob (Mk a1 a2) fun r3 =>
 (cond (!r3.1)
 (some (Oh, [], false, ()))
 (ob (Wk a0) fun r4 =>
 (cond (bl (ln r4.1.2.2.1 + ln a1) Jb)
 (ob (Pl a0.1.2.2.2.1) fun r5 =>
 (ob (Nk (ap r4.1.2.2.1 a1) r5.1 a0.1.1.1) fun r6 =>
 (cond (!r6.1)
 (some (Oh, [], false, ()))
 (ob (Ve (((), (), [], ()), (Oh, (r4.1.1, r4.1.2.1, (ap r4.1.2.2.1 a1), a2, r4.1.2.2.2.2), ()))) (se (fun y15 => (some (y15.2.2.1, y15.1.2.2.1, true, ()))) (fun z16 => none))))))
 none))))))
 (ob (Mk a1 a2) fun r17 =>
 (cond (!r17.1)
 (some (Oh, [], false, ()))
 (ob (Wk a0) fun r18 =>
 (cond (bl (ln r18.1.2.2.1 + ln a1) Jb)
 (ob (Pl a0.1.2.2.2.1) fun r19 =>
 (ob (Nk (ap r18.1.2.2.1 a1) r19.1 a0.1.1.1) fun r20 =>
 (cond (!r20.1)
 (some (Oh, [], false, ()))
 (ob (Ve (((), (), [], ()), (Oh, (r18.1.1, r18.1.2.1, (ap r18.1.2.2.1 a1), a2, r18.1.2.2.2.2), ()))) (se (fun y27 => (some (y27.2.2.1, y27.1.2.2.1, true, ()))) (fun z28 => none))))))
 none)))))))))
def En (t1 : Unit) (t14 : Bg) (t15 : Int) (t16 : Int) (b1 : Ca) : Option ((T8 × Vt) ⊕ XG) :=
 (cond (decide (t16 < t15))
 (ob (Wc t14 t16) fun x7 =>
 (ob (Fk x7) fun r8 =>
 (cond (!r8.1)
 (some (.inr (.inr ((false, ()), ()))))
 (cond (decide (t16 > 0))
 (ob (Wc b1.2.1 (wr .i64 (t16 - 1))) fun x9 =>
 (cond (decide (x9 ≥ x7))
 (some (.inr (.inr ((false, ()), ()))))
 (some (.inl (((), t14, t15, (wr .i64 (t16 + 1)), ()), (b1, ()))))))
 (some (.inl (((), t14, t15, (wr .i64 (t16 + 1)), ()), (b1, ()))))))))
 (some (.inr (.inl ((), ())))))
def No := Nb fun x : (T8 × Vt) => En x.1.1 x.1.2.1 x.1.2.2.1 x.1.2.2.2.1 x.2.1
def Ip (a0 : Ca) : Option Ze :=
 (cond (decide (a0.1 < 0))
 (some (false, ()))
 (cond (decide (a0.1 > 15))
 (some (false, ()))
 (ob (No (((), a0.2.1, ((ln a0.2.1 : Nat) : Int), 0, ()), (a0, ()))) (se (fun y10 => (some (true, ()))) (fun z11 => (some (z11.1.1, ())))))))
def Oo (t2 : Unit) (t5 : Bg) (t17 : Bg) (t18 : Int) (t19 : Int) (b2 : Ca) : Option (((Unit × BH) × Vt) ⊕ OQ) :=
 (cond (decide (t19 < t18))
 (ob (Wc t17 t19) fun x9 =>
 (ob (Kt b2.2.1 x9) fun r10 =>
 (cond (!r10.1)
 (cond (bl (ln t5 + ln ([x9] : List Int)) Jb)
 (some (.inl (((), (ap t5 ([x9] : List Int)), t17, t18, (wr .i64 (t19 + 1)), ()), (b2, ()))))
 none)
 (some (.inl (((), t5, t17, t18, (wr .i64 (t19 + 1)), ()), (b2, ())))))))
 (some (.inr (.inl ((t5, ()), ())))))
def Cq := Nb fun x : ((Unit × BH) × Vt) => Oo x.1.1 x.1.2.1 x.1.2.2.1 x.1.2.2.2.1 x.1.2.2.2.2.1 x.2.1
def Mv (a0 : Ca) (a1 : Ca) : Option VG :=
 (ob (Ip a0) fun r1 =>
 (cond (!r1.1)
 (some ([], ()))
 (ob (Ip a1) fun r2 =>
 (cond (!r2.1)
 (some ([], ()))
 (ob (Cq (((), [], a1.2.1, ((ln a1.2.1 : Nat) : Int), 0, ()), (a0, ()))) (se (fun y11 => (some (y11.1.1, ()))) (fun z12 => none)))))))
def Zl (t2 : Unit) (t5 : Ad) (t7 : Unit) (t10 : Io) (t11 : Int) (t12 : Int) (t18 : Bg) (t19 : Int) (t20 : Int) (b2 : Ca) (b7 : Ca) : Option (OZ ⊕ (((Unit × (Ad × (Unit × (Io × Ab)))) × WI) ⊕ Ni)) :=
 (cond (decide (t20 < t19))
 (cond (Bj (ln t18) t20)
 (ob t18[(tn t20)]? fun x27 =>
 (ob (Lh x27 b7.1) fun r28 =>
 (cond (bl (ln t5 + ln r28.1) Jb)
 (some (.inl (((), (ap t5 r28.1), (), t10, t11, t12, t18, t19, (wr .i64 (t20 + 1)), ()), (b2, b7, ()))))
 none)))
 none)
 (some (.inr (.inl (((), t5, (), t10, t11, t12, ()), (b2, b7, ()))))))
def Tn := Nb fun x : OZ => Zl x.1.1 x.1.2.1 x.1.2.2.1 x.1.2.2.2.1 x.1.2.2.2.2.1 x.1.2.2.2.2.2.1 x.1.2.2.2.2.2.2.1 x.1.2.2.2.2.2.2.2.1 x.1.2.2.2.2.2.2.2.2.1 x.2.1 x.2.2.1
def Yl (t2 : Unit) (t5 : Ad) (t10 : Io) (t11 : Int) (t12 : Int) (b2 : Ca) : Option (((Unit × (Ad × (Io × Ab))) × Vt) ⊕ LZ) :=
 (cond (decide (t12 < t11))
 (ob (Wc t10 t12) fun x21 =>
 (ob (Mv b2 x21) fun r22 =>
 (ob (Tn (((), t5, (), t10, t11, t12, r22.1, ((ln r22.1 : Nat) : Int), 0, ()), (b2, x21, ()))) (se (fun y29 => (some (.inl (((), y29.1.2.1, y29.1.2.2.2.1, y29.1.2.2.2.2.1, (wr .i64 (y29.1.2.2.2.2.2.1 + 1)), ()), (y29.2.2.1, ()))))) (fun z30 => (some (.inr (.inr ((), ())))))))))
 (some (.inr (.inl ((t5, ()), ())))))
def Sn := Nb fun x : ((Unit × (Ad × (Io × Ab))) × Vt) => Yl x.1.1 x.1.2.1 x.1.2.2.1 x.1.2.2.2.1 x.1.2.2.2.2.1 x.2.1
def Hs (a0 : Ca) (a1 : Io) : Option Tl :=
 (ob (Sn (((), [], a1, ((ln a1 : Nat) : Int), 0, ()), (a0, ()))) (se (fun y31 => (some (y31.1.1, ()))) (fun z32 => none)))
def Yt (a0 : Ha) (a1 : Yb) (a2 : Ad) : Option (Ad × Ze) :=
 (ob (On a0 a2) fun r1 =>
 (ob (Lk a0 []) fun r2 =>
 (cond (!r1.2.1)
 (some ([], false, ()))
 (cond (!r2.2.1)
 (some ([], false, ()))
 (ob (Kq r2.1 a1) fun r3 =>
 (cond (!r3.2.1)
 (some ([], false, ()))
 (ob (Lq r3.1 r1.1 ((ln a2 : Nat) : Int)) fun r4 =>
 (cond (!r4.2.2.1)
 (some ([], false, ()))
 (ob (Es r4.2.1) fun r5 =>
 (ob (Hs (0, [], ()) r5.1) fun r6 =>
 (some (r6.1, true, ()))))))))))))
def Ko (t1 : Ad) (t2 : Unit) (t5 : Int) (b2 : Ha) : Option (UK ⊕ XG) :=
 (cond (decide (t5 < ((ln t1 : Nat) : Int)))
 (ob (Wc t1 t5) fun c6 =>
 (ob (Vn b2 ((UInt8.toNat c6 : Nat) : Int) 0) fun r7 =>
 (cond (!r7.2.1)
 (some (.inr (.inr ((false, ()), ()))))
 (some (.inl ((t1, (), (wr .i64 (t5 + 1)), ()), (b2, ())))))))
 (some (.inr (.inl ((), ())))))
def Aq := Nb fun x : UK => Ko x.1.1 x.1.2.1 x.1.2.2.1 x.2.1
def Kv (a0 : Ha) (a1 : Ad) : Option Ze :=
 (ob (Bi a0) fun r1 =>
 (cond (!r1.1)
 (some (false, ()))
 (ob (Aq ((a1, (), 0, ()), (a0, ()))) (se (fun y8 => (some (true, ()))) (fun z9 => (some (z9.1.1, ())))))))
def Xt (a0 : Jl) : Option Ze :=
 (ob (Vp a0 0) fun r1 =>
 (some (r1.2.1, ())))
def Cs (a0 : Jl) : Option Kh :=
 (ob (Vp a0 0) fun r1 =>
 (some (r1.1, ())))
def Jt (a0 : Ha) (a1 : Int) (a2 : Int) : Option Kh :=
 (ob (Bi a0) fun r1 =>
 (cond (!r1.1)
 (some ((-1), ()))
 (cond (decide (a1 < 0))
 (some ((-1), ()))
 (cond (decide (a1 > 56))
 (some ((-1), ()))
 (ob (Sm a0 a1 a2) fun r2 =>
 (some (r2.1, ())))))))
def Xs (t3 : Unit) (t4 : Ad) (t7 : Bool) (t10 : Bool) (t11 : Int) (b3 : Ha) : Option (((Unit × (Ad × (Bool × (Bool × Kh)))) × Nm) ⊕ (((Bool × Ze) × Unit) ⊕ Uw)) :=
 (cond (decide (t11 < ((ln t4 : Nat) : Int)))
 (ob (Wc t4 t11) fun c41 =>
 (ob (Lv ((UInt8.toNat c41 : Nat) : Int)) fun r42 =>
 (ob (Jt b3 r42.1 r42.2.1) fun r43 =>
 (cond (decide (r43.1 ≥ 0))
 (ob (Wc b3.2.1 0) fun x44 =>
 (ob (Wc x44 r43.1) fun x45 =>
 (ob (Ro x45) fun r46 =>
 (cond (!(An Xb r46.1 (2, r42.1, r42.2.1, 0, ())))
 (some (.inr (.inr ((false, ()), ()))))
 (some (.inl (((), t4, t7, t10, (wr .i64 (t11 + 1)), ()), (b3, ()))))))))
 (some (.inl (((), t4, t7, t10, (wr .i64 (t11 + 1)), ()), (b3, ()))))))))
 (some (.inr (.inl ((t7, t10, ()), ())))))
def Th := Nb fun x : ((Unit × (Ad × (Bool × (Bool × Kh)))) × Nm) => Xs x.1.1 x.1.2.1 x.1.2.2.1 x.1.2.2.2.1 x.1.2.2.2.2.1 x.2.1
def Tr (a0 : Bg) : Option Ze :=
 (ob (Jw a0) fun r1 =>
 (cond r1.1
 (some (true, ()))
 (ob (Vq a0) fun r2 =>
 (ob (Uq a0) fun r3 =>
 (ob (On r2.1 r2.2.1) fun r4 =>
 (ob (Yt r2.1 r3.1 r2.2.1) fun r5 =>
 (ob (Kv r2.1 r2.2.1) fun r6 =>
 (cond (r4.2.1 != r5.2.1)
 (some (false, ()))
 (cond r4.2.1
 (cond (r5.1 != r2.2.1)
 (some (false, ()))
 (cond (!r6.1)
 (some (false, ()))
 (ob (Xt r4.1) fun r7 =>
 (cond (!r7.1)
 (some (false, ()))
 (ob (Cs r4.1) fun r8 =>
 (cond (r8.1 != 0)
 (some (false, ()))
 (ob (Th (((), r2.2.1, r4.2.1, r6.1, 0, ()), (r2.1, ()))) (se (fun y27 => (cond (!y27.1.2.1)
 (some (true, ()))
 (some (y27.1.1, ())))) (fun z28 => (some (z28.1.1, ())))))))))))
 (ob (Th (((), r2.2.1, r4.2.1, r6.1, 0, ()), (r2.1, ()))) (se (fun y47 => (cond (!y47.1.2.1)
 (some (true, ()))
 (some (y47.1.1, ())))) (fun z48 => (some (z48.1.1, ()))))))))))))))
end

def Zb (k c m n : Int) : Prop :=
 ((k = 0 ∨ k = 1 ∨ k = 10) ∧ c = 0 ∧ m = 0 ∧ n = 0) ∨
 (k = 2 ∧ n = 0 ∧ (c = 0 ∨ 1 ≤ c ∧ c ≤ 56) ∧ (m = 0 ∨ 1 ≤ m ∧ m ≤ 15) ∧ (c ≠ 0 ∨ m ≠ 0)) ∨
 ((k = 3 ∨ k = 4) ∧ c = 0 ∧ m = 0 ∧ 1 ≤ n ∧ n ≤ 3) ∨
 ((k = 5 ∨ k = 9) ∧ c = 0 ∧ m = 0 ∧ 0 ≤ n ∧ n ≤ 3) ∨
 (k = 6 ∧ 1 ≤ c ∧ c ≤ 56 ∧ 1 ≤ m ∧ m ≤ 15 ∧ n = 0) ∨
 (k = 7 ∧ 1 ≤ c ∧ c ≤ 56 ∧ m = 0 ∧ 1 ≤ n ∧ n ≤ 3) ∨
 (k = 8 ∧ c = 0 ∧ 1 ≤ m ∧ m ≤ 15 ∧ n = 0)
noncomputable def Ac (a : Ka) : Bool := open Classical in decide (Zb a.1 a.2.1 a.2.2.1 a.2.2.2.1)
theorem Db (a : Ka) : Ac a = true ↔ Zb a.1 a.2.1 a.2.2.1 a.2.2.2.1 := by simp [Ac]
theorem Pi (c : Int) : Fk c = some (decide (1 ≤ c ∧ c ≤ 56), ()) := by
 simp only [Fk, Dk, Ek]
 apply Hc; simp only [Uc, decide_eq_true_eq, ZC, AD, jq, and_false, false_and, or_false, false_or, and_true, true_and, not_true_eq_false, not_false_eq_true]; try omega
theorem FC (c : Int) : Rm c = some (decide (1 ≤ c ∧ c ≤ 15), ()) := by
 simp only [Rm, Dk, Ek]
 apply Hc; simp only [Uc, decide_eq_true_eq, ZC, AD, jq, and_false, false_and, or_false, false_or, and_true, true_and, not_true_eq_false, not_false_eq_true]; try omega
theorem VA (c : Int) : Wn c = some (decide (1 ≤ c ∧ c ≤ 3), ()) := by
 simp only [Wn, Dk, Ek]
 apply Hc; simp only [Uc, decide_eq_true_eq, ZC, AD, jq, and_false, false_and, or_false, false_or, and_true, true_and, not_true_eq_false, not_false_eq_true]; try omega
theorem Lf (c a b : Int) : Jg c a b = some (decide (a ≤ c ∧ c ≤ b), ()) := by
 simp only [Jg, Dk, Ek]
 apply Hc; simp only [Uc, decide_eq_true_eq, ZC, AD, jq, and_false, false_and, or_false, false_or, and_true, true_and, not_true_eq_false, not_false_eq_true]; try omega
theorem Mo (a : Ka) : Ai a = some (Ac a, ()) := by
 obtain ⟨k, c, m, n, u⟩ := a
 have key : ∀ k c m n : Int, Ai (k, c, m, n, u) = some (Ac (k, c, m, n, u), ()) := by
  intro k c m n
  simp only [Ai, Pi, FC, VA, Lf, jb, Dk, Ek]
  by_cases h0 : k = 0
  ·subst h0; apply Hc; rw [Db]; simp [Zb, Uc]; try omega
  by_cases h1 : k = 1
  ·subst h1; apply Hc; rw [Db]; simp [Zb, Uc]; try omega
  by_cases h2 : k = 2
  ·subst h2; apply Hc; rw [Db]; simp [Zb, Uc]; intro hn; (repeat' split) <;> omega
  by_cases h3 : k = 3
  ·subst h3; apply Hc; rw [Db]; simp [Zb, Uc]; try omega
  by_cases h4 : k = 4
  ·subst h4; apply Hc; rw [Db]; simp [Zb, Uc]; try omega
  by_cases h5 : k = 5
  ·subst h5; apply Hc; rw [Db]; simp [Zb, Uc]; try omega
  by_cases h6 : k = 6
  ·subst h6; apply Hc; rw [Db]; simp [Zb, Uc]; try omega
  by_cases h7 : k = 7
  ·subst h7; apply Hc; rw [Db]; simp [Zb, Uc]; try omega
  by_cases h8 : k = 8
  ·subst h8; apply Hc; rw [Db]; simp [Zb, Uc]; try omega
  by_cases h9 : k = 9
  ·subst h9; apply Hc; rw [Db]; simp [Zb, Uc]; try omega
  by_cases h10 : k = 10
  ·subst h10; apply Hc; rw [Db]; simp [Zb, Uc]; try omega
  have g : ∀ j : Int, (k == j) = decide (k = j) := fun j => by rw [qt]; simp
  apply Hc; rw [Db]; simp [Zb, Uc, h0, h1, h2, h3, h4, h5, h6, h7, h8, h9, h10]
 exact key k c m n
theorem Ou (a : Ka) : Qj a = some (Ac a, ()) := by
 obtain ⟨k, c, m, n, u⟩ := a
 have key : ∀ k c m n : Int, Qj (k, c, m, n, u) = some (Ac (k, c, m, n, u), ()) := by
  intro k c m n
  simp only [Qj, Pi, FC, VA, Lf, jb, Dk, Ek]
  by_cases h0 : k = 0
  ·subst h0; apply Hc; rw [Db]; simp [Zb, Uc]; try omega
  by_cases h1 : k = 1
  ·subst h1; apply Hc; rw [Db]; simp [Zb, Uc]; try omega
  by_cases h2 : k = 2
  ·subst h2; apply Hc; rw [Db]; simp [Zb, Uc]; intro hn; (repeat' split) <;> omega
  by_cases h3 : k = 3
  ·subst h3; apply Hc; rw [Db]; simp [Zb, Uc]; try omega
  by_cases h4 : k = 4
  ·subst h4; apply Hc; rw [Db]; simp [Zb, Uc]; try omega
  by_cases h5 : k = 5
  ·subst h5; apply Hc; rw [Db]; simp [Zb, Uc]; try omega
  by_cases h6 : k = 6
  ·subst h6; apply Hc; rw [Db]; simp [Zb, Uc]; try omega
  by_cases h7 : k = 7
  ·subst h7; apply Hc; rw [Db]; simp [Zb, Uc]; try omega
  by_cases h8 : k = 8
  ·subst h8; apply Hc; rw [Db]; simp [Zb, Uc]; try omega
  by_cases h9 : k = 9
  ·subst h9; apply Hc; rw [Db]; simp [Zb, Uc]; try omega
  by_cases h10 : k = 10
  ·subst h10; apply Hc; rw [Db]; simp [Zb, Uc]; try omega
  have g : ∀ j : Int, (k == j) = decide (k = j) := fun j => by rw [qt]; simp
  apply Hc; rw [Db]; simp [Zb, Uc, h0, h1, h2, h3, h4, h5, h6, h7, h8, h9, h10]
 exact key k c m n
noncomputable def Li (nl : Nat) (i : Nat) (a : Ka) : Bool := Ac a && !(((i : Int) == 0) && (a.1 == 1)) && !((a.1 != 9) && decide (a.2.2.2.1 ≥ (nl : Int)))
noncomputable def Xk (keys : Int) (nl : Nat) (i : Nat) (l : List Ka) : Bool := ((ja l : Int) == keys) && Td (fun _ a => Li nl i a) 0 l
noncomputable def Eb (m : Ha) : Bool :=
 decide (1 ≤ m.1 ∧ m.1 ≤ 32) && decide (1 ≤ m.2.1.length ∧ m.2.1.length ≤ 4) && Td (fun i l => Xk m.1 m.2.1.length i l) 0 m.2.1
theorem QJ (m : Ha) (i : Nat) (l : List Ka) (L : List (List Ka)) (n : Int) (t : Int) (hl : l.length < 9223372036854775807) :
 Wj (((), (i : Int), L, n, t, l, (l.length : Int), (0 : Int), ()), (m, ())) =
  some (cond (Td (fun _ a => Li m.2.1.length i a) 0 l) (.inl (((), L, n, t, ()), (m, ()))) (.inr ((false, ()), ()))) := by
 unfold Wj
 refine Gh (step := _) l (fun _ a => Li m.2.1.length i a) (fun j => (((), (i : Int), L, n, t, l, (l.length : Int), j, ()), (m, ()))) _ _ ?_ ?_ hl
 ·intro k hk
  simp only [Us]
  rw [Ba (show (k : Int) < (l.length : Int) by omega), Dc hk]
  simp only [cond_true, jb, Li, Mo]
  cases Ac l[k] <;> cases ((i : Int) == 0) <;> cases (l[k].1 == 1) <;> cases (l[k].1 != 9) <;> cases decide (l[k].2.2.2.1 ≥ (m.2.1.length : Int)) <;> rfl
 ·simp [Us]
theorem Tk (m : Ha) (hz : Ib Pa m ≤ Ja) : Bi m = some (Eb m, ()) := by
 have h20 : Ja = 1048576 := rfl
 have hz' : m.2.1.length + (List.map (Ib (.sl Xb)) m.2.1).sum ≤ Ja := by
  have : Ib Pa m = Ib (.sl (.sl Xb)) m.2.1 := by simp only [Ib, Nat.add_zero, js]
  rw [this] at hz; exact hz
 have hl : ∀ k (hk : k < m.2.1.length), m.2.1[k].length ≤ Ja := by
  intro k hk
  have := Rs (f := Ib (.sl Xb)) hk
  have h2 : m.2.1[k].length ≤ Ib (.sl Xb) m.2.1[k] := Nat.le_add_right _ _
  omega
 have hloop : Vj (((), m.2.1, ((ja m.2.1 : Nat) : Int), (0 : Int), ()), (m, ())) =
  some (cond (Td (fun i l => Xk m.1 m.2.1.length i l) 0 m.2.1) (.inl ((), ())) (.inr ((false, ()), ()))) := by
  unfold Vj
  refine Gh (step := _) m.2.1 (fun i l => Xk m.1 m.2.1.length i l) (fun j => (((), m.2.1, ((ja m.2.1 : Nat) : Int), j, ()), (m, ()))) _ _ ?_ ?_ (by omega)
  ·intro k hk
   have := hl k hk
   simp only [Ts]
   rw [Ba (show (k : Int) < (m.2.1.length : Int) by omega), Dc hk]
   simp only [cond_true, jb, Xk]
   rw [QJ m k _ _ _ _ (by omega)]
   show (cond (!((m.2.1[k].length : Int) == m.1)) _ _) = _
   cases ((m.2.1[k].length : Int) == m.1) <;> cases Td (fun _ a => Li m.2.1.length k a) 0 m.2.1[k] <;> rfl
  ·simp [Ts]
 unfold Bi
 rw [hloop]
 simp only [jb, DO, Dk, Ek]
 apply Hc
 simp only [Uc, Eb, jd, decide_eq_true_eq, jq, and_false, false_or, and_true, or_false]
 generalize Td (fun i l => Xk m.1 m.2.1.length i l) 0 m.2.1 = b
 constructor
 ·rintro ⟨h1, h2, h3, h4, h5⟩; exact ⟨⟨by omega, by omega⟩, h5⟩
 ·rintro ⟨⟨h1, h2⟩, h5⟩; exact ⟨by omega, by omega, by omega, by omega, h5⟩
theorem IK (m : Ha) (i : Nat) (hi : i < m.2.1.length) (hl : m.2.1[i].length < 9223372036854775807) :
 Zj (((), (i : Int), (0 : Int), ()), (m, ())) =
  some (cond (Td (fun _ a => Li m.2.1.length i a) 0 m.2.1[i]) (.inl (((), (i : Int), ()), (m, ()))) (.inr ((false, ()), ()))) := by
 unfold Zj
 refine Gh (step := _) m.2.1[i] (fun _ a => Li m.2.1.length i a) (fun j => (((), (i : Int), j, ()), (m, ()))) _ _ ?_ ?_ hl
 ·intro k hk
  simp only [At]
  rw [Dc hi]
  simp only [jb]
  rw [Ba (show (k : Int) < (m.2.1[i].length : Int) by omega), Dc hk]
  simp only [cond_true, jb, Li, Ou]
  cases Ac m.2.1[i][k] <;> cases ((i : Int) == 0) <;> cases (m.2.1[i][k].1 == 1) <;> cases (m.2.1[i][k].1 != 9) <;> cases decide (m.2.1[i][k].2.2.2.1 ≥ (m.2.1.length : Int)) <;> rfl
 ·simp [At, Dc hi]
theorem Al (m : Ha) (hz : Ib Pa m ≤ Ja) : Ei m = some (Eb m, ()) := by
 have h20 : Ja = 1048576 := rfl
 have hz' : m.2.1.length + (List.map (Ib (.sl Xb)) m.2.1).sum ≤ Ja := by
  have : Ib Pa m = Ib (.sl (.sl Xb)) m.2.1 := by simp only [Ib, Nat.add_zero, js]
  rw [this] at hz; exact hz
 have hl : ∀ k (hk : k < m.2.1.length), m.2.1[k].length ≤ Ja := by
  intro k hk
  have := Rs (f := Ib (.sl Xb)) hk
  have h2 : m.2.1[k].length ≤ Ib (.sl Xb) m.2.1[k] := Nat.le_add_right _ _
  omega
 have hloop : Yj (((), (0 : Int), ()), (m, ())) =
  some (cond (Td (fun i l => Xk m.1 m.2.1.length i l) 0 m.2.1) (.inl (((), ()), (m, ()))) (.inr ((false, ()), ()))) := by
  unfold Yj
  refine Gh (step := _) m.2.1 (fun i l => Xk m.1 m.2.1.length i l) (fun j => (((), j, ()), (m, ()))) _ _ ?_ ?_ (by omega)
  ·intro k hk
   have := hl k hk
   simp only [Zs]
   rw [Ba (show (k : Int) < (m.2.1.length : Int) by omega), Dc hk]
   simp only [cond_true, jb, Xk]
   rw [IK m k hk (by omega)]
   show (cond (!((m.2.1[k].length : Int) == m.1)) _ _) = _
   cases ((m.2.1[k].length : Int) == m.1) <;> cases Td (fun _ a => Li m.2.1.length k a) 0 m.2.1[k] <;> rfl
  ·simp [Zs]
 unfold Ei
 rw [hloop]
 simp only [jb, DO, Dk, Ek, Lf]
 apply Hc
 simp only [Uc, Eb, jd, decide_eq_true_eq, jq, and_false, false_or, and_true, or_false]
 generalize Td (fun i l => Xk m.1 m.2.1.length i l) 0 m.2.1 = b
 constructor
 ·rintro ⟨h1, h2, h3⟩; exact ⟨⟨by omega, by omega⟩, h1⟩
 ·rintro ⟨⟨h1, h2⟩, h5⟩; exact ⟨h5, by omega, by omega⟩
theorem VH {n : Nat} (h : n ≤ 62) : Ce .i64 1 (n : Int) = ((2 ^ n : Nat) : Int) := by
 unfold Ce
 have h1 : min (jy (n : Int)) (IntKind.bits .i64) = n := by
  show min (jy (n : Int)) 64 = n
  rw [jn]; omega
 rw [h1, Int.one_mul]
 have h2 : (2 : Int) ^ n = ((2 ^ n : Nat) : Int) := by simp
 have h3 : 2 ^ n ≤ 2 ^ 62 := Nat.pow_le_pow_right (by omega) h
 rw [h2]
 clear h1 h2
 generalize 2 ^ n = z at h3
 rw [Qd (by omega) (by omega)]
structure Qk (m : Ha) : Prop where
 k1 : 1 ≤ m.1
 k2 : m.1 ≤ 32
 l1 : 1 ≤ m.2.1.length
 l2 : m.2.1.length ≤ 4
 row : ∀ i (h : i < m.2.1.length), (m.2.1[i].length : Int) = m.1
 act : ∀ i (h : i < m.2.1.length) k (hk : k < m.2.1[i].length), Li m.2.1.length i m.2.1[i][k] = true
theorem Bf {m : Ha} (h : Eb m = true) : Qk m := by
 simp only [Eb, jd, decide_eq_true_eq] at h
 obtain ⟨⟨h1, h2⟩, h3⟩ := h
 rw [Br] at h3
 refine ⟨h1.1, h1.2, h2.1, h2.2, fun i hi => ?_, fun i hi k hk => ?_⟩
 ·have := h3 i hi
  simp only [js, Xk, jd, beq_iff_eq] at this
  exact this.1
 ·have := h3 i hi
  simp only [js, Xk, jd, beq_iff_eq] at this
  have := Br.1 this.2 k hk
  simpa using this
theorem DA {nl i : Nat} {a : Ka} (h : Li nl i a = true) : Ac a = true := by
 simp only [Li, jd] at h
 exact h.1.1
theorem OH {nl i : Nat} {a : Ka} (h : Li nl i a = true) (hk : a.1 ≠ 9) : a.2.2.2.1 < (nl : Int) := by
 simp only [Li, jd, Bool.not_eq_true', Bool.and_eq_false_iff] at h
 rcases h.2 with h | h
 ·simp at h; exact absurd h hk
 ·simpa using h
def Kl (m k : Int) : Int := Rg .i64 (BA .i64 m k) 1
theorem Bx (m : Int) {k : Int} (h : 0 ≤ k) : So m k = some (Kl m k, ()) := by
 unfold So
 rw [Ba h]; rfl
def Dar : Ka := (0, 0, 0, 0, ())
def Wf (L : List (List Ka)) (i k : Nat) : Ka := (L.getD i []).getD k Dar
theorem Mz {L : List (List Ka)} {i k : Nat} (hi : i < L.length) (hk : k < L[i].length) : Wf L i k = L[i][k] := by
 simp [Wf, qg, hi, hk]
theorem AY {α : Type} {L : List (List Ka)} {i k : Nat} (hi : i < L.length) (hk : k < L[i].length) (K : Ka → Option α) :
 (jz (Wc L (i : Int)) fun x => jz (Wc x (k : Int)) K) = K (Wf L i k) := by
 rw [Dc hi]
 simp only [jb]
 rw [Dc hk, Mz hi hk]
 rfl
def Xf (L : List (List Ka)) (on : Int) (k : Nat) : Nat → Nat
 | 0 => 0
 | n + 1 => cond ((Kl on ((n + 1 : Nat) : Int) == 1) && ((Wf L (n + 1) k).1 != 1)) (n + 1) (Xf L on k n)
theorem PF {L : List (List Ka)} {on : Int} {k : Nat} : ∀ n, Xf L on k n ≤ n
 | 0 => jo _
 | n + 1 => by
  simp only [Xf]
  cases ((Kl on ((n + 1 : Nat) : Int) == 1) && ((Wf L (n + 1) k).1 != 1)) with
  | true => exact jo _
  | false => exact Nat.le_succ_of_le (PF n)
theorem XA {m : Ha} (hm : Qk m) (on : Int) {k : Nat} (hk : (k : Int) < m.1) : ∀ n : Nat, n < m.2.1.length →
 Xg ((on, (k : Int), (), (n : Int), ()), (m, ())) = some (cond (Xf m.2.1 on k n == 0) (.inl ((), ())) (.inr ((((Xf m.2.1 on k n : Nat) : Int), ()), ())))
 | 0, _ => by
  unfold Xg
  rw [Xy]
  rfl
 | n + 1, h => by
  have hrow := hm.row (n + 1) h
  unfold Xg
  rw [Xy]
  simp only [Zz]
  rw [Ba (show (((n + 1 : Nat) : Int)) > 0 by omega), Bx on (show (0 : Int) ≤ ((n + 1 : Nat) : Int) by omega)]
  simp only [cond_true, jb]
  rw [AY h (by omega), Qd (by have := hm.l2; omega) (by have := hm.l2; omega), show (((n + 1 : Nat) : Int) - 1) = (n : Int) by omega]
  have ih := XA hm on hk n (by omega)
  unfold Xg at ih
  simp only [Xf]
  cases h1 : (Kl on ((n + 1 : Nat) : Int) == 1) with
  | false =>
   simp only [qk, cond_false, jb, qh]
   exact ih
  | true =>
   cases h2 : ((Wf m.2.1 (n + 1) k).1 != 1) with
   | true => rfl
   | false =>
    simp only [Bool.and_false, cond_true, cond_false, jb, qh]
    exact ih
theorem WA {m : Ha} (hm : Qk m) (on : Int) {k : Nat} (hk : (k : Int) < m.1) :
 Qr m on (k : Int) = some (((Xf m.2.1 on k (m.2.1.length - 1) : Nat) : Int), ()) := by
 have h1 := hm.l1
 have h2 := hm.l2
 unfold Qr
 rw [Qd (by omega) (by omega), show ((m.2.1.length : Int) - 1) = ((m.2.1.length - 1 : Nat) : Int) by omega, XA hm on hk _ (by omega)]
 cases h : (Xf m.2.1 on k (m.2.1.length - 1) == 0) with
 | false => rfl
 | true =>
  have h' : Xf m.2.1 on k (m.2.1.length - 1) = 0 := by simpa using h
  rw [h']; rfl
def Uf (m : Ha) (on : Int) (k : Nat) : Nat := Xf m.2.1 on k (m.2.1.length - 1)
theorem QF {m : Ha} (hm : Qk m) (on : Int) (k : Nat) : Uf m on k < m.2.1.length := by
 have := PF (L := m.2.1) (on := on) (k := k) (m.2.1.length - 1)
 have := hm.l1
 unfold Uf
 omega
noncomputable def Fd (a : Ka) : Bool := Ac a && ((a.1 == 6) || (a.1 == 7))
noncomputable def Rf (a : Ka) : Ka := cond (Fd a) (2, a.2.1, 0, 0, ()) a
noncomputable def CC (a : Ka) : Ka := cond (Fd a) (cond (a.1 == 6) (2, 0, a.2.2.1, 0, ()) (3, 0, 0, a.2.2.2.1, ())) a
theorem Vs (a : Ka) : Kk a = some (Fd a, ()) := by
 unfold Kk Fd
 rw [Mo]
 cases Ac a <;> cases (a.1 == 6) <;> rfl
theorem AI (a : Ka) : Ns a = some (Fd a, ()) := by
 unfold Ns Fd
 rw [Ou]
 cases Ac a <;> cases (a.1 == 6) <;> rfl
theorem Zx (a : Ka) : Ro a = some (Rf a, ()) := by
 unfold Ro Rf
 rw [Vs]
 cases Fd a <;> rfl
theorem RP (a : Ka) : Cz a = some (Rf a, ()) := by
 unfold Cz Rf
 rw [AI]
 cases Fd a <;> rfl
def K3 (a : Ka) : Bool := (a.1 == 3) || (a.1 == 4) || (a.1 == 5) || (a.1 == 7)
noncomputable def Nv (c d : Int) (a : Ka) : Bool :=
 (((cond (c != 0) (Rf a) a).1 == 2) && ((cond (c != 0) (Rf a) a).2.1 == c)) && ((cond (c != 0) (Rf a) a).2.2.1 == d)
def Gc {α : Type} (p : α → Bool) : Nat → List α → Int
 | _, [] => -1
 | k, x :: xs => cond (p x) (k : Int) (Gc p (k + 1) xs)
noncomputable def Qc (m : Ha) (c d : Int) : Int := Gc (Nv c d) 0 (m.2.1.getD 0 [])
theorem Dae {α : Type} {xs : List α} (h : 0 < xs.length) (d : α) : Wc xs (0 : Int) = some (xs.getD 0 d) := by
 cases xs with
 | nil => simp at h
 | cons x xs => rfl
theorem MB {α : Type} (p : α → Bool) : ∀ (xs : List α) (k : Nat), (match Bc (fun k (_ : Unit) x => cond (p x) (.inr (k : Int)) (.inl ())) k () xs with | .inl _ => (-1 : Int) | .inr r => r) = Gc p k xs
 | [], _ => rfl
 | x :: xs, k => by
  simp only [Bc, Gc]
  cases p x with
  | true => rfl
  | false => exact MB p xs (k + 1)
theorem TJ (c d : Int) (row : List Ka) (hn : row.length < 9223372036854775807) :
 ∃ z, Dm ((c, d, row, (row.length : Int), (0 : Int), ()), ()) = some z ∧ (match z with | .inl _ => (-1 : Int) | .inr r => r.1.1) = Gc (Nv c d) 0 row := by
 unfold Dm
 refine ⟨_, Vi (step := fun x : ((Int × (Int × ((List Ka) × (Int × (Int × Unit))))) × Unit) => Pq x.1.1 x.1.2.1 x.1.2.2.1 x.1.2.2.2.1 x.1.2.2.2.2.1)
  row (fun k (_ : Unit) x => cond (Nv c d x) (.inr (k : Int)) (.inl ())) (fun _ k => ((c, d, row, (row.length : Int), k, ()), ())) (fun _ => .inl ((), ())) (fun r => .inr ((r, ()), ())) (fun _ _ => True) ?_ ?_ hn () trivial, ?_⟩
 ·intro k hk s _
  refine ⟨?_, fun _ _ => trivial⟩
  simp only [Pq]
  rw [Ba (show (k : Int) < (row.length : Int) by omega), Dc hk]
  simp only [cond_true, jb, Zx, Nv]
  cases (c != 0) with
  | true =>
   simp only [cond_true]
   cases ((Rf row[k]).1 == 2) <;> cases ((Rf row[k]).2.1 == c) <;> cases ((Rf row[k]).2.2.1 == d) <;> rfl
  | false =>
   simp only [cond_false]
   cases (row[k].1 == 2) <;> cases (row[k].2.1 == c) <;> cases (row[k].2.2.1 == d) <;> rfl
 ·intro s _
  simp only [Pq]
  rw [Aa (by omega)]; rfl
 ·rw [← MB]
  cases Bc (fun k (_ : Unit) x => cond (Nv c d x) (.inr (k : Int)) (.inl ())) 0 () row <;> rfl
theorem GC {m : Ha} (hm : Qk m) (c d : Int) : Sm m c d = some (Qc m c d, ()) := by
 unfold Sm Qc
 have h1 := hm.l1
 have hk2 := hm.k2
 have hrow := hm.row 0 (by omega)
 have h0 : Wc m.2.1 (0 : Int) = some (m.2.1.getD 0 []) := Dae (by omega) []
 have hlen : (m.2.1.getD 0 []).length < 9223372036854775807 := by
  have : m.2.1.getD 0 [] = m.2.1[0] := by simp [qg, show 0 < m.2.1.length by omega]
  rw [this]; omega
 rw [h0]
 simp only [jb]
 obtain ⟨z, e, hz⟩ := TJ c d _ hlen
 rw [e, ← hz]
 cases z <;> rfl
theorem DN (m : Ha) (c d : Int) (hz : Ib Pa m ≤ Ja) : Jt m c d = some (cond (Eb m && decide (0 ≤ c ∧ c ≤ 56)) (Qc m c d) (-1), ()) := by
 unfold Jt
 rw [Tk m hz]
 cases hv : Eb m with
 | false => rfl
 | true =>
  simp only [jb, jg, cond_false, jk, GC (Bf hv)]
  by_cases h1 : c < 0
  ·rw [Ba h1, Aa (show ¬ (0 ≤ c ∧ c ≤ 56) by omega)]; rfl
  ·rw [Aa h1]
   by_cases h2 : c > 56
   ·rw [Ba h2, Aa (show ¬ (0 ≤ c ∧ c ≤ 56) by omega)]; rfl
   ·rw [Aa h2, Ba (show (0 ≤ c ∧ c ≤ 56) by omega)]; rfl
theorem PC (m : Ha) (c d : Int) (hz : Ib Pa m ≤ Ja) : Xp m c d = some (cond (Eb m && decide (0 ≤ c ∧ c ≤ 56)) (Qc m c d) (-1), ()) := by
 unfold Xp
 have stop : (Eb m && decide (0 ≤ c ∧ c ≤ 56)) = false → Ej ((c, d, (), (0 : Int), ()), (m, ())) = some (.inl ((), ())) := by
  intro h
  unfold Ej
  rw [Xy]
  simp only [Jm, Al m hz, Lf, jb]
  by_cases h0 : 0 < m.1
  ·rw [Ba h0]
   cases hv : Eb m with
   | false => rfl
   | true => rw [hv, jk] at h; rw [h]; rfl
  ·rw [Aa h0]; rfl
 cases hc : (Eb m && decide (0 ≤ c ∧ c ≤ 56)) with
 | false => rw [stop hc]; rfl
 | true =>
  simp only [jd] at hc
  obtain ⟨hv, hcc⟩ := hc
  have hm := Bf hv
  have h1 := hm.l1
  have hk2 := hm.k2
  have hrow := hm.row 0 (by omega)
  have hget : m.2.1.getD 0 [] = m.2.1[0] := by simp [qg, show 0 < m.2.1.length by omega]
  have hlen : (m.2.1.getD 0 []).length < 9223372036854775807 := by rw [hget]; omega
  have h0 : Wc m.2.1 (0 : Int) = some (m.2.1.getD 0 []) := Dae (by omega) []
  have hcp : (decide (c > 0)) = (c != 0) := by
   have : 0 ≤ c ∧ c ≤ 56 := by simpa using hcc
   rw [qt]; simp; omega
  have hl := Vi (step := fun x : ((Int × (Int × (Unit × (Int × Unit)))) × (Ha × Unit)) => Jm x.1.1 x.1.2.1 x.1.2.2.1 x.1.2.2.2.1 x.2.1)
   (m.2.1.getD 0 []) (fun k (_ : Unit) x => cond (Nv c d x) (.inr (k : Int)) (.inl ())) (fun _ k => ((c, d, (), k, ()), (m, ()))) (fun _ => .inl ((), ())) (fun r => .inr ((r, ()), ())) (fun _ _ => True) (by
    intro k hk s _
    refine ⟨?_, fun _ _ => trivial⟩
    have hk' : (k : Int) < m.1 := by rw [hget] at hk; omega
    simp only [Jm]
    rw [Ba hk', Al m hz, hv, h0]
    simp only [cond_true, jb, Lf, hcc, hcp]
    rw [Dc hk]
    simp only [jb, RP, Nv]
    generalize (m.2.1.getD 0 [])[k] = a
    cases (c != 0) with
    | true =>
     simp only [cond_true]
     cases ((Rf a).1 == 2) <;> cases ((Rf a).2.1 == c) <;> cases ((Rf a).2.2.1 == d) <;> rfl
    | false =>
     simp only [cond_false]
     cases (a.1 == 2) <;> cases (a.2.1 == c) <;> cases (a.2.2.1 == d) <;> rfl) (by
    intro s _
    simp only [Jm]
    rw [Aa (by rw [hget]; omega)]; rfl) hlen () trivial
  unfold Ej
  erw [hl]
  simp only [cond_true, Qc]
  rw [← MB]
  cases Bc (fun k (_ : Unit) x => cond (Nv c d x) (.inr (k : Int)) (.inl ())) 0 () (m.2.1.getD 0 []) <;> rfl
theorem BB {X R : Type} {s : X → Option (X ⊕ R)} (I : Nat → X → Prop) (Q : R → Prop)
 (h : ∀ n x, I n x → (∃ r, s x = some (.inr r) ∧ Q r) ∨ (∃ y m, m < n ∧ s x = some (.inl y) ∧ I m y)) : ∀ n x, I n x → ∃ r, Nb s x = some r ∧ Q r := by
 intro n
 induction n using Nat.strongRecOn with
 | _ n ih =>
  intro x hi
  rcases h n x hi with ⟨r, h1, hq⟩ | ⟨y, m, hm, h1, hi'⟩
  ·exact ⟨r, by rw [Pb h1]; rfl, hq⟩
  ·obtain ⟨r, g1, hq⟩ := ih m hm y hi'
   exact ⟨r, by rw [Pb h1]; exact g1, hq⟩
def FE {α β : Type} : α ⊕ β → Bool
 | .inl _ => true
 | .inr _ => false
noncomputable def Yu (s : Int) (x : Ma) : Bool := decide (0 ≤ x.1 ∧ x.1 ≤ 31) && (!(Kl s x.1 == 1) && (Ac x.2.1 && (!(x.2.1.1 == 1) && (!(x.2.1.1 == 6) && !(x.2.1.1 == 7)))))
noncomputable def Iv (s : Int) (x : Ma) : Int ⊕ Unit := cond (Yu s x) (.inl (Xe .i64 s (Ce .i64 1 x.1))) (.inr ())
noncomputable def ZX (l : List Ma) : Int ⊕ Unit := Bc (fun _ s x => Iv s x) 0 0 l
noncomputable def Qe (l : List Ma) : Bool := FE (ZX l)
theorem Ds (l : List Ma) (hn : l.length ≤ Ja) : Ti l = some (Qe l, ()) := by
 have h20 : Ja = 1048576 := rfl
 have hl := Vi (step := fun x => Iq x.1.1 x.1.2.1 x.1.2.2.1 x.1.2.2.2.1) l (fun _ s x => Iv s x) (fun s i => ((s, l, ((ja l : Nat) : Int), i, ()), ()))
  (fun _ => .inl ((), ())) (fun _ => .inr ((false, ()), ())) (fun _ _ => True) (by
   intro k hk s _
   refine ⟨?_, fun _ _ => trivial⟩
   simp only [Iq]
   rw [Ba (show (k : Int) < (ja l : Int) by omega), Dc hk]
   simp only [cond_true, jb]
   generalize l[k] = x
   simp only [Iv, Yu, Mo, jb]
   by_cases h1 : 0 ≤ x.1
   ·rw [Aa (show ¬ x.1 < 0 by omega), Bx s h1]
    by_cases h2 : x.1 ≤ 31
    ·rw [Aa (show ¬ x.1 > 31 by omega), Ba (show 0 ≤ x.1 ∧ x.1 ≤ 31 from ⟨h1, h2⟩), Ba h1]
     simp only [jb, cond_false]
     cases Kl s x.1 == 1 <;> cases Ac x.2.1 <;> cases x.2.1.1 == 1 <;> cases x.2.1.1 == 6 <;> cases x.2.1.1 == 7 <;> rfl
    ·rw [Ba (show x.1 > 31 by omega), Aa (show ¬ (0 ≤ x.1 ∧ x.1 ≤ 31) by omega)]; rfl
   ·rw [Ba (show x.1 < 0 by omega), Aa (show ¬ (0 ≤ x.1 ∧ x.1 ≤ 31) by omega)]; rfl)
  (by
   intro s _
   simp only [Iq]
   rw [Aa (by omega)]; rfl) (by omega) 0 trivial
 unfold Ti Jr
 erw [hl]
 show jz (some _) _ = _
 simp only [jb, Qe, ZX]
 cases Bc (fun x s x => Iv s x) 0 0 l <;> rfl
structure Et (x : Ma) : Prop where
 lo : 0 ≤ x.1
 hi : x.1 ≤ 31
 act : Ac x.2.1 = true
 n1 : x.2.1.1 ≠ 1
 n6 : x.2.1.1 ≠ 6
 n7 : x.2.1.1 ≠ 7
theorem P2 {s : Int} {x : Ma} (h : Yu s x = true) : Et x ∧ Kl s x.1 ≠ 1 := by
 simp only [Yu, jd, decide_eq_true_eq, Bool.not_eq_true', beq_eq_false_iff_ne] at h
 exact ⟨⟨h.1.1, h.1.2, h.2.2.1, h.2.2.2.1, h.2.2.2.2.1, h.2.2.2.2.2⟩, h.2.1⟩
theorem HR : ∀ {l : List Ma} {k : Nat} {s : Int}, FE (Bc (fun _ s x => Iv s x) k s l) = true → ∀ x ∈ l, Et x
 | [], _, _, _, x, hx => by simp at hx
 | y :: l, k, s, h, x, hx => by
  simp only [Bc, Iv] at h
  cases hc : Yu s y with
  | false => rw [hc] at h; simp [FE] at h
  | true =>
   rw [hc] at h
   simp only [cond_true] at h
   rcases jp.1 hx with rfl | hx
   ·exact (P2 hc).1
   ·exact HR h x hx
theorem Wu {l : List Ma} (h : Qe l = true) : ∀ x ∈ l, Et x := HR h
def Bu (l : List Ma) : Int := Ic (fun _ s (x : Ma) => Xe .i64 s (Ce .i64 1 x.1)) 0 0 l
theorem Yz (l : List Ma) (hn : l.length ≤ Ja) (hx : ∀ x ∈ l, Et x) : Pl l = some (Bu l, ()) := by
 have h20 : Ja = 1048576 := rfl
 have hl := (Ui (step := fun x => Hn x.1.1 x.1.2.1 x.1.2.2.1 x.1.2.2.2.1) l (fun _ s (x : Ma) => Xe .i64 s (Ce .i64 1 x.1)) (fun s i => ((s, l, ((ja l : Nat) : Int), i, ()), ()))
  (fun s => .inl ((s, ()), ())) (fun _ _ => True) (by
   intro k hk s _
   refine ⟨?_, trivial⟩
   simp only [Hn]
   rw [Ba (show (k : Int) < (ja l : Int) by omega), Dc hk]
   simp only [cond_true, jb]
   rw [Ba (hx _ (qn hk)).lo]; rfl)
  (by
   intro s _
   simp only [Hn]
   rw [Aa (by omega)]; rfl) (by omega) 0 trivial).1
 unfold Pl Uo
 erw [hl]
 rfl
end KF
