/- An evaluator of Go functions on plain data, its soundness, and plain laws on what the functions compute, part 3 (conditions: as each lemma tells). -/
import Derived.Test.YtjpnmcdibgckiaaGreatDoorB
import Derived.LoopN
import Derived.ChangeArms
import Derived.ChangeStays
import Derived.ChangeSame
import Derived.WideShapes
import Derived.RowKit
import Derived.Handed
import Derived.JoinedOf
import Derived.Lib.Split
import Derived.Lib.Join
import Derived.Lib.ItoaNum
import Derived.Shelf.Sort.Plain
import Derived.Shelf.Slices.In.SortNone2
import Derived.Shelf.LaysM
import Derived.Shelf.Strings.Split
import Derived.Shelf.Strings.OnBuilder
import Derived.Shelf.Strconv.Itoa3
import Derived.LaidLaws
import Derived.LaidHandle
import Derived.Lib.LaidTab
import Derived.IntWalk
set_option linter.unusedSimpArgs false
set_option linter.unusedVariables false
namespace KF
open Go
open List renaming length → ja, getElem?_eq_getElem → je, append → jf, mem_append → jl, mem_cons → jp, mem_cons_of_mem → jr, length_cons → jw, set → j5, length_nil → j7, mem_singleton → qc, length_append → qd, getElem?_append_left → qf, getElem?_append_right → qg, getD_eq_getElem?_getD → qh, getElem_mem → qp, mem_of_mem_drop → qq, getElem_of_mem → qr, mem_map → qs, length_drop → qt, mem_cons_self → qv
open Option renaming bind_some → jb, bind → jz, map_some → qb, bind_eq_some_iff → qe
open Option.some renaming injEq → jc
open Bool renaming and_eq_true → jd, not_true → jg, true_and → jk, false_eq_true → jq, not_false → j8, not_eq_true → j9, false_and → qm, and_self → qn, eq_iff_iff → qu
open Prod.mk renaming injEq → jh
open Nat renaming ble_eq_true_of_le → ji, mul_le_mul_right → jm, le_refl → jo, zero_add → js, add_assoc → jt, eq_of_beq_eq_true → ju, ble → jx, le_trans → qa, lt_of_lt_of_le → qj, pow_le_pow_right → qk, testBit_two_pow → ql, xor_lt_two_pow → qo
open Int renaming toNat_natCast → jn, eq_ofNat_of_zero_le → jv, toNat → jy
open Go.IntKind renaming wrap → j4
open Sum renaming elim → j6, elim_inl → qi
open Result renaming andThen_ok → qw
open Sem renaming run_bind → qx
theorem V4 {s : AS} : ∀ {td : TD} {d : D} {x : T td.ty} {m : Ji}, Xd s td d = some (x, m) → (Kq td x).isAgg = d.isAgg := by
 intro td
 cases td with
 | data τ =>
  intro d x m h
  simp only [Xd] at h
  split at h
  ·rename_i y hy
   simp only [jc, jh] at h
   obtain ⟨rfl, _⟩ := h
   have hs := (Pg (w := default) (σ := fun _ => undef) (O := fun _ => False) (hp := fun _ => none) hy).1
   rw [hs.isAgg]
   cases τ <;> rfl
  ·simp at h
 | own id e dp =>
  intro d x m h
  cases d <;> simp [Xd] at h <;> rfl
 | ptr id p =>
  intro d x m h
  cases d <;> simp [Xd] at h <;> rfl
 | hol id e p τ td =>
  intro d x m h
  cases d <;> simp [Xd] at h <;> rfl
 | arr id e =>
  intro d x m h
  cases d <;> first | rfl | (simp [Xd] at h; done)
 | mov id e =>
  intro d x m h
  cases d <;> simp [Xd] at h <;> rfl
 | pr a b =>
  intro d x m h
  simp only [Xd] at h
  cases d with
  | t τ v => cases τ <;> simp [D.fst] at h <;> rfl
  | pr u v => rfl
  | _ => simp [D.fst] at h
 | un =>
  intro d x m h
  simp only [Xd] at h
  split at h
  ·rename_i y hy
   have hs := (Pg (w := default) (σ := fun _ => undef) (O := fun _ => False) (hp := fun _ => none) hy).1
   rw [hs.isAgg]
   rfl
  ·simp at h
def IH (m m' : Ji) : Prop := ∀ p, p ∈ m → p ∈ m'
section
variable {w : World} {s : AS} {σ σ' : Nat → Value} {O O' : Nat → Prop} {hp' : Nat → Option Ja} {m : Ji}
structure TOk (s : AS) (σ σ' : Nat → Value) (hp' : Nat → Option Ja) (m : Ji) : Prop where
 isS : ∀ j i, (j, some i) ∈ m → σ' j = σ i
 isN : ∀ j, (j, none) ∈ m → σ' j = .slice none 0 0
 isB : ∀ j i ρ d, (j, some i) ∈ m → hp' j = some (.box ρ d) → ∃ d', s.heap i = some (.box ρ d')
 isR : ∀ j i Ga r, (j, some i) ∈ m → hp' j = some Ga → Ga.rowN = some r → ∃ blk', s.heap i = some blk' ∧ blk'.rowN = some r
theorem LK (hT : TOk s σ σ' hp' m) (hO : ∀ b, b < w.heap.size → ¬ O b → ¬ O' b) : ∀ {td : TD} {d : D} {x : T td.ty} {m0 : Ji} {cs : List Value}, Xd s td d = some (x, m0) → IH m0 m → Ya w O s.heap σ d cs →
 Ya w O' hp' σ' (Kq td x) cs := by
 intro td
 induction td with
 | data τ =>
  intro d x m0 cs h hm hr
  simp only [Xd] at h
  split at h
  ·rename_i y hy
   simp only [jc, jh] at h
   obtain ⟨rfl, _⟩ := h
   exact Sa.stable (fun _ _ _ => rfl) hO ((Pg hy).2 _ hr)
  ·simp at h
 | own id' e dp =>
  intro d x m0 cs h hm hr
  cases d with
  | own id =>
   simp only [Xd] at h
   split at h
   ·rename_i e' dp' xs hb
    split at h
    ·rename_i q hq
     subst q
     simp only [Ha] at h
     obtain ⟨_, h⟩ := h
     simp only [jc, jh] at h
     obtain ⟨rfl, rfl⟩ := h
     obtain ⟨v, hcs, h1, hv⟩ := hr
     refine ⟨v, hcs, h1, fun _ _ _ _ => ?_⟩
     rw [hT.isS id' id (hm _ (by simp))]
     exact hv _ _ hb rfl
    ·simp at h
   ·simp at h
  | nil =>
   simp only [Xd, jc, jh] at h
   obtain ⟨rfl, rfl⟩ := h
   simp only [Ya] at hr
   exact ⟨_, hr, rfl, fun _ _ _ _ => (hT.isN id' (hm _ (by simp))).symm⟩
  | _ => simp [Xd] at h
 | hol id' e p τ td _ =>
  intro d x m0 cs h hm hr
  cases d with
  | own id =>
   simp only [Xd] at h
   split at h
   ·rename_i e' xs i x1 p' τ' d' hb
    split at h
    ·simp only [Ha] at h
     obtain ⟨_, h⟩ := h
     split at h
     ·rename_i y m1 h1
      simp only [Ha] at h
      obtain ⟨_, h⟩ := h
      simp only [jc, jh] at h
      obtain ⟨rfl, rfl⟩ := h
      obtain ⟨v, hcs, h1, hv⟩ := hr
      refine ⟨v, hcs, h1, fun _ _ _ _ => ?_⟩
      rw [hT.isS id' id (hm _ (by simp))]
      exact hv _ _ hb rfl
     ·simp at h
    ·simp at h
   ·simp at h
  | _ => simp [Xd] at h
 | arr id' e =>
  intro d x m0 cs h hm hr
  cases d with
  | eptr id i q =>
   cases i with
   | succ i => simp [Xd] at h
   | zero =>
    cases q with
    | cons _ _ => simp [Xd] at h
    | nil =>
     simp only [Xd] at h
     split at h
     ·rename_i e' xs hb
      split at h
      ·rename_i q hq
       subst q
       simp only [jc, jh] at h
       obtain ⟨rfl, rfl⟩ := h
       obtain ⟨v, hcs, h1, hv⟩ := hr
       refine ⟨v, hcs, h1, fun blk' e2 n2 hb' hr' => ?_⟩
       obtain ⟨blk0, hb0, hr0⟩ := hT.isR id' id blk' _ (hm _ (by simp)) hb' hr'
       rw [hT.isS id' id (hm _ (by simp))]
       exact hv _ _ _ hb0 hr0
      ·simp at h
     ·simp at h
  | _ => simp [Xd] at h
 | mov id' e =>
  intro d x m0 cs h hm hr
  cases d with
  | own id =>
   simp only [Xd] at h
   split at h
   ·rename_i e' xs hb
    split at h
    ·rename_i q hq
     subst q
     simp only [jc, jh] at h
     obtain ⟨rfl, rfl⟩ := h
     obtain ⟨v, hcs, h1, hv⟩ := hr
     refine ⟨v, hcs, h1, fun _ _ _ _ => ?_⟩
     rw [hT.isS id' id (hm _ (by simp))]
     exact hv _ _ hb rfl
    ·simp at h
   ·rename_i e' xs k hb
    split at h
    ·rename_i q hq
     subst q
     simp only [jc, jh] at h
     obtain ⟨rfl, rfl⟩ := h
     obtain ⟨v, hcs, h1, hv⟩ := hr
     refine ⟨v, hcs, h1, fun _ _ _ _ => ?_⟩
     rw [hT.isS id' id (hm _ (by simp))]
     exact hv _ _ hb rfl
    ·simp at h
   ·simp at h
  | _ => simp [Xd] at h
 | ptr id' p =>
  intro d x m0 cs h hm hr
  cases d with
  | ptr id q =>
   simp only [Xd, Ha] at h
   obtain ⟨hpq, h⟩ := h
   simp only [jc, jh] at h
   obtain ⟨_, rfl⟩ := h
   have hpq' : p = q := by simpa using hpq
   subst hpq'
   obtain ⟨v, hcs, h1, hv⟩ := hr
   refine ⟨v, hcs, h1, fun ρ d hb => ?_⟩
   obtain ⟨d', hd'⟩ := hT.isB id' id ρ d (hm _ (by simp)) hb
   rw [hT.isS id' id (hm _ (by simp))]
   exact hv ρ d' hd'
  | _ => simp [Xd] at h
 | pr a b iha ihb =>
  intro d x m0 cs h hm hr
  simp only [Xd] at h
  split at h
  ·rename_i d1 d2 h1 h2
   split at h
   ·rename_i u l v l' h3 h4
    simp only [jc, jh] at h
    obtain ⟨rfl, rfl⟩ := h
    have key : ∃ c1 c2, cs = c1 ++ c2 ∧ Ya w O s.heap σ d1 c1 ∧ Ya w O s.heap σ d2 c2 := by
     cases d with
     | t τ v =>
      cases τ with
      | p t1 t2 =>
       simp only [D.fst, D.snd, jc] at h1 h2
       subst h1; subst h2
       exact hr
      | _ => simp [D.fst] at h1
     | pr d1' d2' =>
      simp only [D.fst, D.snd, jc] at h1 h2
      subst h1; subst h2
      exact hr
     | _ => simp [D.fst] at h1
    obtain ⟨c1, c2, hc, r1, r2⟩ := key
    exact ⟨c1, c2, hc, iha h3 (fun p hp => hm p (List.mem_append_left _ hp)) r1, ihb h4 (fun p hp => hm p (List.mem_append_right _ hp)) r2⟩
   ·simp at h
  ·simp at h
 | un =>
  intro d x m0 cs h hm hr
  simp only [Xd] at h
  split at h
  ·rename_i y hy
   exact (Pg hy).2 _ hr
  ·simp at h
theorem W8 (hT : TOk s σ σ' hp' m) (hO : ∀ b, b < w.heap.size → ¬ O b → ¬ O' b) {td : TD} {d : D} {x : T td.ty} {m0 : Ji} {v : Value} (h : Xd s td d = some (x, m0)) (hm : IH m0 m) (hr : Yc w O s.heap σ d v) :
 Yc w O' hp' σ' (Kq td x) v := by
 have hne : Be w O s.heap σ d v := by
  cases d with
  | und => cases td <;> simp [Xd, Wi, D.fst] at h
  | anyv => cases td <;> simp [Xd, Wi, D.fst] at h
  | tup ds => cases td <;> simp [Xd, Wi, D.fst] at h
  | _ => exact hr
 refine Oy ?_
 unfold Be at hne ⊢
 rw [V4 h]
 split
 ·rename_i ha
  rw [if_pos ha] at hne
  obtain ⟨cs, h1, h2⟩ := hne
  exact ⟨cs, h1, LK hT hO h hm h2⟩
 ·rename_i ha
  rw [if_neg ha] at hne
  exact LK hT hO h hm hne
def AT (s : AS) (m : Ji) (j : Nat) (Ga : Ja) : Prop :=
 ((j, none) ∈ m ∧ ∃ e dp, Ga = .row e dp ([] : List (T e))) ∨
 ∃ i, (j, some i) ∈ m ∧ ((∃ e dp dp' xs, Ga = .row e dp xs ∧ s.heap i = some (.row e dp' xs) ∧ (dp' = dp ∨ e.flat = true)) ∨
  (∃ ρ d td x m0, Ga = .box ρ (Kq td x) ∧ s.heap i = some (.box ρ d) ∧ Xd s td d = some (x, m0) ∧ IH m0 m ∧ Gb ρ (Kq td x)) ∨
  (∃ e xs k x p τ d td y m0, Ga = .hol e xs k x p τ (Kq td y) ∧ s.heap i = some (.hol e xs k x p τ d) ∧ Xd s td d = some (y, m0) ∧ IH m0 m ∧ Gb τ (Kq td y)) ∨
  ∃ e xs k, Ga = .mov e xs k ∧ (s.heap i = some (.mov e xs k) ∨ (s.heap i = some (.row e true xs) ∧ k = 0)))
theorem SL : ∀ {td : TD} {d : D} {x : T td.ty} {m0 : Ji}, Xd s td d = some (x, m0) → IH m0 m → ∀ p, p ∈ Bx td x → ∃ Ga, p.2 = some Ga ∧ AT s m p.1 Ga := by
 intro td
 induction td with
 | own id' e dp =>
  intro d x m0 h hm p hp
  simp only [Bx, qc] at hp
  subst hp
  cases d with
  | own id =>
   simp only [Xd] at h
   split at h
   ·rename_i e' dp' xs hb
    split at h
    ·rename_i q hq
     subst q
     simp only [Ha] at h
     obtain ⟨hc, h⟩ := h
     simp only [jc, jh] at h
     obtain ⟨rfl, rfl⟩ := h
     refine ⟨_, rfl, .inr ⟨id, hm _ (by simp), .inl ⟨_, dp, dp', _, rfl, hb, ?_⟩⟩⟩
     simpa using hc
    ·simp at h
   ·simp at h
  | nil =>
   simp only [Xd, jc, jh] at h
   obtain ⟨rfl, rfl⟩ := h
   exact ⟨_, rfl, .inl ⟨hm _ (by simp), e, dp, rfl⟩⟩
  | _ => simp [Xd] at h
 | hol id' e pth τ td ih =>
  intro d x m0 h hm p hp
  cases d with
  | own id =>
   simp only [Xd] at h
   split at h
   ·rename_i e' xs i x1 p' τ' d' hb
    split at h
    ·rename_i q1 q2 hq1 hq2
     subst q1
     obtain rfl := Ge hq2
     simp only [Ha] at h
     obtain ⟨hpp, h⟩ := h
     have hpp : pth = p' := by simpa using hpp
     subst hpp
     split at h
     ·rename_i y m1 h1
      simp only [Ha] at h
      obtain ⟨hsh, h⟩ := h
      simp only [jc, jh] at h
      obtain ⟨rfl, rfl⟩ := h
      simp only [Bx] at hp
      rcases jp.1 hp with rfl | hp
      ·exact ⟨_, rfl, .inr ⟨id, hm _ (by simp), .inr (.inr (.inl ⟨_, _, i, _, _, _, d', td, y, m1, by simp only [jn], hb, h1, fun p hp => hm p (jr _ hp), Ok hsh⟩))⟩⟩
      ·exact ih h1 (fun p hp => hm p (jr _ hp)) p hp
     ·simp at h
    ·simp at h
   ·simp at h
  | _ => simp [Xd] at h
 | pr a b iha ihb =>
  intro d x m0 h hm p hp
  simp only [Xd] at h
  split at h
  ·split at h
   ·rename_i u l v l' h3 h4
    simp only [jc, jh] at h
    obtain ⟨rfl, rfl⟩ := h
    simp only [Bx] at hp
    rcases jl.1 hp with hp | hp
    ·exact iha h3 (fun p hp => hm p (List.mem_append_left _ hp)) p hp
    ·exact ihb h4 (fun p hp => hm p (List.mem_append_right _ hp)) p hp
   ·simp at h
  ·simp at h
 | arr id' e =>
  intro d x m0 h hm p hp
  simp only [Bx, qc] at hp
  subst hp
  cases d with
  | eptr id i q =>
   cases i with
   | succ i => simp [Xd] at h
   | zero =>
    cases q with
    | cons _ _ => simp [Xd] at h
    | nil =>
     simp only [Xd] at h
     split at h
     ·rename_i e' xs hb
      split at h
      ·rename_i q hq
       subst q
       simp only [jc, jh] at h
       obtain ⟨rfl, rfl⟩ := h
       exact ⟨_, rfl, .inr ⟨id, hm _ (by simp), .inl ⟨_, true, true, _, rfl, hb, .inl rfl⟩⟩⟩
      ·simp at h
     ·simp at h
  | _ => simp [Xd] at h
 | mov id' e =>
  intro d x m0 h hm p hp
  simp only [Bx, qc] at hp
  subst hp
  cases d with
  | own id =>
   simp only [Xd] at h
   split at h
   ·rename_i e' xs hb
    split at h
    ·rename_i q hq
     subst q
     simp only [jc, jh] at h
     obtain ⟨rfl, rfl⟩ := h
     exact ⟨_, rfl, .inr ⟨id, hm _ (by simp), .inr (.inr (.inr ⟨_, _, 0, rfl, .inr ⟨hb, rfl⟩⟩))⟩⟩
    ·simp at h
   ·rename_i e' xs k hb
    split at h
    ·rename_i q hq
     subst q
     simp only [jc, jh] at h
     obtain ⟨rfl, rfl⟩ := h
     exact ⟨_, rfl, .inr ⟨id, hm _ (by simp), .inr (.inr (.inr ⟨_, _, k, by simp only [jn], .inl hb⟩))⟩⟩
    ·simp at h
   ·simp at h
  | _ => simp [Xd] at h
 | _ => intro d x m0 h hm p hp; simp [Bx] at hp
theorem SX : ∀ {l : List (Tmp × TD)} {x : T (Fw.tyT l)} {m0 : Ji}, D2 s l = some (x, m0) → IH m0 m →
 (∀ t d', Lb (DP l x) t = some d' → ∃ td d y m1, Lb s.tm t = some d ∧ Xd s td d = some (y, m1) ∧ IH m1 m ∧ d' = Kq td y) ∧ (∀ p, p ∈ PP l x → ∃ Ga, p.2 = some Ga ∧ AT s m p.1 Ga)
 | [], x, m0, h, hm => ⟨by simp [DP, Lb], by simp [PP]⟩
 | (t0, td) :: r, x, m0, h, hm => by
  simp only [D2] at h
  split at h
  ·rename_i d hd
   split at h
   ·rename_i y m1 z m2 h1 h2
    simp only [jc, jh] at h
    obtain ⟨rfl, rfl⟩ := h
    have hm1 : IH m1 m := fun p hp => hm p (List.mem_append_left _ hp)
    obtain ⟨i1, i2⟩ := SX h2 (fun p hp => hm p (List.mem_append_right _ hp))
    refine ⟨fun t d' ht => ?_, fun p hp => ?_⟩
    ·simp only [DP] at ht
     rw [Nc] at ht
     split at ht
     ·rename_i e
      subst e
      simp only [jc] at ht
      exact ⟨td, d, y, m1, hd, h1, hm1, ht.symm⟩
     ·exact i1 t d' ht
    ·simp only [PP] at hp
     rcases jl.1 hp with hp | hp
     ·exact SL h1 hm1 p hp
     ·exact i2 p hp
   ·simp at h
  ·simp at h
theorem RX : ∀ {l : List (Nat × Ty × TD)} {x : T (Fw.tyB l)} {m0 m' : Ji}, PU s l m0 = some (x, m') → IH m' m →
 IH m0 m ∧ ∀ p, p ∈ CP l x → ∃ Ga, p.2 = some Ga ∧ AT s m p.1 Ga
 | [], x, m0, m', h, hm => by
  simp only [PU, jc, jh] at h
  obtain ⟨_, rfl⟩ := h
  exact ⟨hm, by simp [CP]⟩
 | (id', ρ, td) :: r, x, m0, m', h, hm => by
  simp only [PU] at h
  split at h
  ·rename_i id hid
   split at h
   ·rename_i ρ' d hb
    split at h
    ·rename_i q hq
     obtain rfl := q.down
     split at h
     ·rename_i y m1 h1
      simp only [Ha] at h
      obtain ⟨hsh, h⟩ := h
      split at h
      ·rename_i z m2 h2
       simp only [jc, jh] at h
       obtain ⟨rfl, rfl⟩ := h
       obtain ⟨i1, i2⟩ := RX h2 hm
       have hm0 : IH m0 m := fun p hp => i1 p (List.mem_append_left _ hp)
       have hm1 : IH m1 m := fun p hp => i1 p (List.mem_append_right _ hp)
       refine ⟨hm0, fun p hp => ?_⟩
       simp only [CP] at hp
       rcases jp.1 hp with rfl | hp
       ·exact ⟨_, rfl, .inr ⟨id, hm0 _ (Tt hid), .inr (.inl ⟨_, d, td, y, m1, rfl, hb, h1, hm1, Ok hsh⟩)⟩⟩
       ·rcases jl.1 hp with hp | hp
        ·exact SL h1 hm1 p hp
        ·exact i2 p hp
      ·simp at h
     ·simp at h
    ·simp at h
   ·simp at h
  ·simp at h
end
theorem VG : ∀ {m : Ji}, VB m = true → ∀ j i, (j, some i) ∈ m → (j < 500000 ∧ i < 500000) ∨ j = i
 | [], _, _, _, h => by simp at h
 | (j0, some i0) :: r, hp, j, i, h => by
  simp only [VB, jd, Bool.or_eq_true] at hp
  rcases jp.1 h with e | h
  ·simp only [jh, jc] at e
   obtain ⟨rfl, rfl⟩ := e
   rcases hp.1 with h1 | h1
   ·rw [Nat.blt_eq, Nat.blt_eq] at h1; exact .inl h1
   ·exact .inr (ju h1)
  ·exact VG hp.2 j i h
 | (j0, none) :: r, hp, j, i, h => by
  simp only [VB, jd] at hp
  rcases jp.1 h with e | h
  ·simp at e
  ·exact VG hp.2 j i h
theorem UG : ∀ {m : Ji}, VB m = true → ∀ j, (j, none) ∈ m → j < 500000
 | [], _, _, h => by simp at h
 | (j0, some i0) :: r, hp, j, h => by
  simp only [VB, jd] at hp
  rcases jp.1 h with e | h
  ·simp at e
  ·exact UG hp.2 j h
 | (j0, none) :: r, hp, j, h => by
  simp only [VB, jd] at hp
  rcases jp.1 h with e | h
  ·simp only [jh, and_true] at e
   subst e
   have := hp.1
   rwa [Nat.blt_eq] at this
  ·exact UG hp.2 j h
theorem EZ {m : Ji} (h : (m.all fun x => m.all fun y => RA x y) = true) {x y : Nat × Option Nat} (hx : x ∈ m) (hy : y ∈ m) : RA x y = true :=
 List.all_eq_true.1 (List.all_eq_true.1 h x hx) y hy
theorem X9 {m : Ji} (h : (m.all fun x => m.all fun y => RA x y) = true) {j : Nat} {a c : Option Nat} (hx : (j, a) ∈ m) (hy : (j, c) ∈ m) : a = c := by
 have := EZ h hx hy
 unfold RA at this
 cases a with
 | none => cases c with
  | none => rfl
  | some c => simp at this
 | some a => cases c with
  | none => simp at this
  | some c => simpa [Nat.beq_eq] using this
theorem Y9 {m : Ji} (h : (m.all fun x => m.all fun y => RA x y) = true) {j j' i : Nat} (hx : (j, some i) ∈ m) (hy : (j', some i) ∈ m) : j = j' := by
 have := EZ h hx hy
 unfold RA at this
 simpa using this
theorem HR {α : Type} {j : Nat} {a : α} : ∀ {m : List (Nat × α)}, (j, a) ∈ m → ∃ c, Lb m j = some c ∧ (j, c) ∈ m
 | [], h => by simp at h
 | (j0, a0) :: r, h => by
  rw [Nc]
  by_cases hj : j0 = j
  ·subst hj; exact ⟨a0, by simp, by simp⟩
  ·rw [if_neg hj]
   rcases jp.1 h with e | h
   ·simp only [jh] at e
    exact absurd e.1.symm hj
   ·obtain ⟨c, h1, h2⟩ := HR h
    exact ⟨c, h1, jr _ h2⟩
theorem Ut {m : Ji} (h : (m.all fun x => m.all fun y => RA x y) = true) {j : Nat} {a : Option Nat} (hx : (j, a) ∈ m) : Lb m j = some a := by
 obtain ⟨c, h1, h2⟩ := HR hx
 rw [h1, X9 h hx h2]
section
variable {n0 : Nat} {A : Fx} {O0 : Nat → Prop} {w0 w : World} {s : AS} {σ : Nat → Value} {φ : Nat → List Nat} {a : Act}
theorem NK (h : Xa n0 A O0 w0 s σ φ a w) {p : Fw} {x : p.X} (he : ext p s = some x) : ∃ σ' φ', Xa n0 A O0 w0 (SC p x s.n) σ' φ' a w := by
 unfold ext at he
 split at he
 ·rename_i x1 m1 h1
  split at he
  ·rename_i x2 m h2
   simp only [Ha] at he
   obtain ⟨hmo, he⟩ := he
   simp only [jc] at he
   subst he
   simp only [Iac, jd] at hmo
   obtain ⟨hn1, hpo⟩ := hmo
   obtain ⟨hm1, hB⟩ := RX h2 (fun p hp => hp)
   obtain ⟨hT1, hT2⟩ := SX h1 hm1
   let σ' : Nat → Value := fun j => match Lb m j with
    | some (some i) => σ i
    | some none => .slice none 0 0
    | none => σ j
   let φ' : Nat → List Nat := fun j => match Lb m j with
    | some (some i) => φ i
    | _ => []
   have hσs : ∀ j i, (j, some i) ∈ m → σ' j = σ i ∧ φ' j = φ i := fun j i hj => by
    have := Ut hn1 hj
    simp only [σ', φ', this, and_self]
   have hσn : ∀ j, (j, none) ∈ m → σ' j = .slice none 0 0 ∧ φ' j = [] := fun j hj => by
    have := Ut hn1 hj
    simp only [σ', φ', this, and_self]
   have hent : ∀ j Ga, (SC p (x1, x2) s.n).heap j = some Ga → AT s m j Ga := by
    intro j Ga hj
    have hmem := AS.heap_mem hj
    simp only [SC] at hmem
    rcases jl.1 hmem with hmem | hmem
    ·obtain ⟨blk', e, hE⟩ := hT2 _ hmem
     simp only [jc] at e
     subst e
     exact hE
    ·obtain ⟨blk', e, hE⟩ := hB _ hmem
     simp only [jc] at e
     subst e
     exact hE
   have hlive : ∀ j Ga, (SC p (x1, x2) s.n).heap j = some Ga → φ' j = [] ∨ ∃ i blk0, (j, some i) ∈ m ∧ s.heap i = some blk0 ∧ φ' j = φ i := by
    intro j Ga hj
    rcases hent j Ga hj with ⟨hn, _⟩ | ⟨i, hi, ⟨e, dp, dp', xs, _, hb, _⟩ | ⟨ρ, d, td, y, m0, _, hb, _⟩ | ⟨e, xs, k, x, p, τ, d, td, y, m0, _, hb, _⟩ | ⟨e, xs, k, _, hb | ⟨hb, _⟩⟩⟩
    ·exact .inl (hσn j hn).2
    ·exact .inr ⟨i, _, hi, hb, (hσs j i hi).2⟩
    ·exact .inr ⟨i, _, hi, hb, (hσs j i hi).2⟩
    ·exact .inr ⟨i, _, hi, hb, (hσs j i hi).2⟩
    ·exact .inr ⟨i, _, hi, hb, (hσs j i hi).2⟩
    ·exact .inr ⟨i, _, hi, hb, (hσs j i hi).2⟩
   have hOO : ∀ b, b < w.heap.size → ¬ OO O0 s φ b → ¬ OO O0 (SC p (x1, x2) s.n) φ' b := by
    rintro b _ hno (ho | ⟨j, Ga, hj, hm⟩)
    ·exact hno (.inl ho)
    ·rcases hlive j Ga hj with hφ | ⟨i, blk0, _, hb, hφ⟩
     ·rw [hφ] at hm; simp at hm
     ·rw [hφ] at hm; exact hno (.inr ⟨i, blk0, hb, hm⟩)
   have hTOk : TOk s σ σ' (SC p (x1, x2) s.n).heap m := by
    refine ⟨fun j i hj => (hσs j i hj).1, fun j hj => (hσn j hj).1, fun j i ρ d hj hb => ?_, fun j i Ga r hj hb hr => ?_⟩
    rcases hent j _ hb with ⟨hn, e, dp, hh⟩ | ⟨i', hi', ⟨e, dp, dp', xs, hh, _⟩ | ⟨ρ', d', td, y, m0, hh, hb', _⟩ | ⟨e, xs, k, x, p, τ, d', td, y, m0, hh, _⟩ | ⟨e, xs, k, hh, _⟩⟩
    ·simp at hh
    ·simp at hh
    ·simp only [Ja.box.injEq] at hh
     have e1 := Ut hn1 hj
     have e2 := Ut hn1 hi'
     rw [e1] at e2
     simp only [jc] at e2
     subst e2
     exact ⟨d', by rw [hb', hh.1]⟩
    ·simp at hh
    ·simp at hh
    ·have e1 := Ut hn1 hj
     rcases hent j _ hb with ⟨hn, _⟩ | ⟨i', hi', hx⟩
     ·have e2 := Ut hn1 hn
      rw [e1] at e2
      simp at e2
     ·have e2 := Ut hn1 hi'
      rw [e1] at e2
      simp only [jc] at e2
      subst e2
      rcases hx with ⟨e, dp, dp', xs, rfl, hb', _⟩ | ⟨ρ', d', td, y, m0, rfl, _⟩ | ⟨e, xs, k, x, p, τ, d', td, y, m0, rfl, hb', _⟩ | ⟨e, xs, k, rfl, hb' | ⟨hb', _⟩⟩
      ·exact ⟨_, hb', hr⟩
      ·simp [Ja.rowN] at hr
      ·exact ⟨_, hb', hr⟩
      ·exact ⟨_, hb', hr⟩
      ·exact ⟨_, hb', hr⟩
   refine ⟨σ', φ', h.sz, h.df, ?_, ?_, ?_, ?_, ?_, h.o0, h.fr, ?_, h.iv0, h.ivw⟩
   ·intro t d' hd
    obtain ⟨td, d, y, m0, g1, g2, g3, g4⟩ := hT1 t d' hd
    obtain ⟨v, hv, hr⟩ := h.tm t d g1
    rw [g4]
    exact ⟨v, hv, W8 hTOk hOO g2 g3 hr⟩
   ·intro j Ga hj
    rcases hent j Ga hj with ⟨hn, e, dp, rfl⟩ | ⟨i, hi, ⟨e, dp, dp', xs, rfl, hb, hd⟩ | ⟨ρ, d, td, y, m0, rfl, hb, hex, hsub, hsh⟩ | ⟨e, xs, k, x, p, τ, d, td, y, m0, rfl, hb, hex, hsub, hsh⟩ | ⟨e, xs, k, rfl, hb⟩⟩
    ·rw [Vj, (hσn j hn).1, (hσn j hn).2]
     exact ⟨by simp, .inl ⟨rfl, rfl, rfl⟩⟩
    ·rw [Vj, (hσs j i hi).1, (hσs j i hi).2]
     have hrow := Vj.1 (h.hp i _ hb)
     have hst : ∀ dq, Lh w (OO O0 s φ) dq e xs (σ i) (φ i) → Lh w (OO O0 (SC p (x1, x2) s.n) φ') dq e xs (σ i) (φ i) := by
      rintro dq ⟨hm, g | ⟨bl, off, cap, cur, et, Fs, g1, hh, g2, g3, g4, hF, hel⟩⟩
      ·exact ⟨hm, .inl g⟩
      ·exact ⟨hm, .inr ⟨bl, off, cap, cur, et, Fs, g1, hh, g2, g3, g4, hF, hel.stable (fun _ _ _ => rfl) hOO (fun _ _ => rfl)⟩⟩
     rcases hd with rfl | hf
     ·exact hst _ hrow
     ·have hup := hrow.up
      rw [hf, Bool.or_true] at hup
      cases dp with
      | true => exact hst _ hup
      | false =>
       cases dp' with
       | false => exact hst _ hrow
       | true =>
        have hown := UK (h.hp i _ hb) (.inl rfl)
        exact hst _ (Vj.1 (TQ (O := OO O0 s φ) (hp := s.heap) hown hf))
    ·rw [(hσs j i hi).2]
     obtain ⟨_, b, cur, et, g1, hh, hF, hr, hsz⟩ := h.hp i _ hb
     exact ⟨hsh, b, cur, et, by rw [(hσs j i hi).1]; exact g1, hh, hF, LK hTOk hOO hex hsub hr, hsz⟩
    ·rw [(hσs j i hi).2]
     obtain ⟨_, g1, g2, g3, bl, off, cap, cur, et, g4, g5, g6, g7, hr, hw⟩ := h.hp i _ hb
     refine ⟨hsh, g1, g2, g3, bl, off, cap, cur, et, by rw [(hσs j i hi).1]; exact g4, g5, g6, g7, LK hTOk hOO hex hsub hr, fun w' c' h1 h2 h3 y Fy x' h4 h5 => ?_⟩
     rw [(hσs j i hi).1]
     exact hw w' c' h1 h2 h3 y Fy x' h4 h5
    ·rw [(hσs j i hi).2]
     have hm0 : Lc w (OO O0 s φ) s.heap σ i (.mov e xs k) (φ i) := by
      rcases hb with hb | ⟨hb, rfl⟩
      ·exact h.hp i _ hb
      ·exact EW (h.hp i _ hb)
     obtain ⟨hlen, ⟨g1, g2, g3⟩ | ⟨bl, off, cap, cur, et, Fs, g1, g⟩⟩ := hm0
     ·exact ⟨hlen, .inl ⟨by rw [(hσs j i hi).1]; exact g1, g2, g3⟩⟩
     ·exact ⟨hlen, .inr ⟨bl, off, cap, cur, et, Fs, by rw [(hσs j i hi).1]; exact g1, g⟩⟩
   ·intro j Ga hj
    rcases hlive j Ga hj with hφ | ⟨i, blk0, _, hb, hφ⟩
    ·rw [hφ]; exact List.nodup_nil
    ·rw [hφ]; exact h.nodup i blk0 hb
   ·intro j j' Ga blk' hne hj hj' b hb hb'
    rcases hlive j Ga hj with hφ | ⟨i, blk0, hi, hbi, hφ⟩
    ·rw [hφ] at hb; simp at hb
    ·rcases hlive j' blk' hj' with hφ' | ⟨i', blk0', hi', hbi', hφ'⟩
     ·rw [hφ'] at hb'; simp at hb'
     ·rw [hφ] at hb
      rw [hφ'] at hb'
      by_cases hii : i = i'
      ·subst hii
       exact hne (Y9 hn1 hi hi')
      ·exact h.disj i i' blk0 blk0' hii hbi hbi' b hb hb'
   ·intro j Ga hj b hb
    rcases hlive j Ga hj with hφ | ⟨i, blk0, _, hbi, hφ⟩
    ·rw [hφ] at hb; simp at hb
    ·rw [hφ] at hb; exact h.fresh i blk0 hbi b hb
   ·intro j v hv
    have hlow := A.low j v hv
    show σ' j = v
    simp only [σ']
    split
    ·rename_i i hg
     rcases VG hpo j i (Tt hg) with ⟨hj, _⟩ | rfl
     ·omega
     ·exact h.pin _ v hv
    ·rename_i hg
     have := UG hpo j (Tt hg)
     omega
    ·exact h.pin j v hv
  ·simp at he
 ·simp at he
end
def Zag : Ex → Exit
 | .normal => .normal
 | .exit id => .exit id
 | .ret => .ret
def WA {X R : Type} (step : X → Option (X ⊕ R)) : Nat → X → R → Prop
 | 0, _, _ => False
 | n + 1, x, r => step x = some (.inr r) ∨ ∃ x', step x = some (.inl x') ∧ WA step n x' r
def Vd : Code → List Code
 | .seq a b => Vd a ++ Vd b
 | .cond _ a b => Vd a ++ Vd b
 | .block _ c => Vd c
 | .loop c => c :: Vd c
 | _ => []
def Cb (G : Le) (L : List (Nat × Ra)) (b : Code) : Prop :=
 ∀ r ls, Zi b = some r → Lb L r = some ls → ∀ x y, ls.F x = some y → ∃ m, WA (EE G L ls b) m x y
section
variable {P : Program} {n0 : Nat} {A : Fx} {O0 : Nat → Prop} {w0 : World} {G : Le} {L : List (Nat × Ra)}
theorem OU (hG : Ij P A.I G) (hfz : G.fz = true → ∀ b, ¬ A.A b) (hm : P.follows .mixedOrders = true) : ∀ (c : Code), (∀ b, b ∈ Vd c → Cb G L b) → ∀ {Out : Type} {k : Ex → AS → Option Out} {out : Out} {s : AS} {σ : Nat → Value} {φ : Nat → List Nat} {a : Act} {w : World} {Q : Exit → Act → World → Prop},
 Ps G L c s k = some out → Xa n0 A O0 w0 s σ φ a w → (∀ e s σ φ a w, k e s = some out → Xa n0 A O0 w0 s σ φ a w → Q (Zag e) a w) → c.wp P Q a w := by
 intro c
 induction c with
 | skip =>
  intro _ Out k out s σ φ a w Q he h hQ
  simp only [Ps] at he
  exact wp_skip (hQ .normal s σ φ a w he h)
 | region id ops draw =>
  intro _ Out k out s σ φ a w Q he h hQ
  simp only [Ps] at he
  split at he
  ·rename_i s1 h1
   obtain ⟨φ1, hc⟩ := XB hfz h h1
   refine X6 (k := fun s' => match ME G.fz G.att (1000 * id + 999) s' with
    | some s' => k .normal s'
    | none => none) hG hfz hm hc he fun a w ⟨s', σ', φ', h2, h3⟩ => ?_
   simp only at h2
   split at h2
   ·rename_i s2 h4
    obtain ⟨φ2, hc2⟩ := XB hfz h3 h4
    exact hQ .normal _ σ' φ2 a w h2 hc2
   ·simp at h2
  ·simp at he
 | seq x y ihx ihy =>
  intro hL Out k out s σ φ a w Q he h hQ
  simp only [Ps] at he
  refine wp_seq (ihx (fun b hb => hL b (by simp [Vd, hb])) he h fun e s' σ' φ' a' w' hk h' => ?_)
  cases e with
  | normal => exact ihy (fun b hb => hL b (by simp [Vd, hb])) hk h' hQ
  | exit j => exact hQ (.exit j) s' σ' φ' a' w' hk h'
  | ret => exact hQ .ret s' σ' φ' a' w' hk h'
 | cond x y z ihy ihz =>
  intro hL Out k out s σ φ a w Q he h hQ
  cases x with
  | tmp t =>
   simp only [Ps] at he
   split at he
   ·rename_i β hd
    have hs := h.same hd
    obtain ⟨v, hv, hr⟩ := h.tm t _ hd
    rw [Ch] at hr
    subst hr
    have hev : a.eval (.tmp t) = .bool β := by
     simp only [Act.eval]
     rw [Array.getD_eq_getD_getElem?, hv]
     rfl
    refine wp_cond_split hev (fun hb => ?_) (fun hb => ?_)
    ·subst hb
     simp only [cond_true] at he
     exact ihy (fun b hb => hL b (by simp [Vd, hb])) he hs hQ
    ·subst hb
     simp only [cond_false] at he
     exact ihz (fun b hb => hL b (by simp [Vd, hb])) he hs hQ
   ·simp at he
  | const cv =>
   cases cv with
   | bool β =>
    simp only [Ps] at he
    refine wp_cond_split (show a.eval (.const (.bool β)) = .bool β from rfl) (fun hb => ?_) (fun hb => ?_)
    ·subst hb
     simp only [cond_true] at he
     exact ihy (fun b hb => hL b (by simp [Vd, hb])) he h hQ
    ·subst hb
     simp only [cond_false] at he
     exact ihz (fun b hb => hL b (by simp [Vd, hb])) he h hQ
   | _ => simp [Ps] at he
  | _ => simp [Ps] at he
 | block id c ih =>
  intro hL Out k out s σ φ a w Q he h hQ
  simp only [Ps] at he
  refine wp_block (ih (fun b hb => hL b (by simpa [Vd] using hb)) he h fun e s' σ' φ' a' w' hk h' => ?_)
  cases e with
  | normal => exact hQ .normal s' σ' φ' a' w' hk h'
  | exit j =>
   simp only [Zag, Exit.inBlock]
   cases hb : Nat.beq j id with
   | true =>
    rw [if_pos (ju hb)]
    simp only [hb, cond_true] at hk
    exact hQ .normal s' σ' φ' a' w' hk h'
   | false =>
    rw [if_neg (fun e => by rw [e, Nat.beq_refl] at hb; simp at hb)]
    simp only [hb, cond_false] at hk
    exact hQ (.exit j) s' σ' φ' a' w' hk h'
  | ret => exact hQ .ret s' σ' φ' a' w' hk h'
 | exit id =>
  intro _ Out k out s σ φ a w Q he h hQ
  simp only [Ps] at he
  exact wp_exit (hQ (.exit id) s σ φ a w he h)
 | ret =>
  intro _ Out k out s σ φ a w Q he h hQ
  simp only [Ps] at he
  exact wp_ret (hQ .ret s σ φ a w he h)
 | loop c ih =>
  intro hL Out k out s σ φ a w Q he h hQ
  simp only [Ps] at he
  split at he
  ·rename_i r hr
   split at he
   ·rename_i ls hls
    split at he
    ·rename_i x hx
     simp only [Ha] at he
     obtain ⟨hn, he⟩ := he
     have hn := ju hn
     rw [qe] at he
     obtain ⟨y, hy, he⟩ := he
     obtain ⟨m, hit⟩ := hL c (by simp [Vd]) r ls hr hls x y hy
     obtain ⟨σ1, φ1, h1⟩ := NK h hx
     rw [hn] at h1 he
     refine wp_loop_rounds m ?_
     have key : ∀ (m : Nat) (x : ls.inT.X) (σ : Nat → Value) (φ : Nat → List Nat) (a : Act) (w : World), WA (EE G L ls c) m x y → Xa n0 A O0 w0 (SC ls.inT x ls.n) σ φ a w → Code.rounds P c Q m a w := by
      intro m
      induction m with
      | zero => intro x σ φ a w hit _; exact hit.elim
      | succ m ihm =>
       intro x σ φ a w hit h
       rw [rounds_succ]
       have body : ∀ z, EE G L ls c x = some z → (z = .inr y ∨ ∃ x', z = .inl x' ∧ WA (EE G L ls c) m x' y) → c.wp P (Exit.then (Code.rounds P c Q m) Q) a w := by
        intro z hz hzy
        unfold EE at hz
        refine ih (fun b hb => hL b (by simp [Vd, hb])) hz h fun e s' σ' φ' a' w' hk h' => ?_
        simp only [Ha] at hk
        obtain ⟨hn', hk⟩ := hk
        have hn' := ju hn'
        cases e with
        | normal =>
         simp only at hk
         split at hk
         ·rename_i x' hx'
          simp only [jc] at hk
          obtain ⟨σ2, φ2, h2⟩ := NK h' hx'
          rw [hn'] at h2
          rcases hzy with hzy | ⟨x'', hzy, hit'⟩
          ·rw [hzy] at hk; simp at hk
          ·rw [hzy] at hk
           simp only [Sum.inl.injEq] at hk
           subst hk
           exact ihm x' σ2 φ2 a' w' hit' h2
         ·simp at hk
        | exit j =>
         simp only [Ha] at hk
         obtain ⟨hj, hk⟩ := hk
         have hj := ju hj
         split at hk
         ·rename_i y' hy'
          simp only [jc] at hk
          obtain ⟨σ2, φ2, h2⟩ := NK h' hy'
          rw [hn'] at h2
          rcases hzy with hzy | ⟨x'', hzy, _⟩
          ·rw [hzy] at hk
           simp only [Sum.inr.injEq] at hk
           subst hk
           simp only [qi] at he
           show Q (.exit j) a' w'
           rw [hj]
           exact hQ (.exit ls.exitId) _ σ2 φ2 a' w' he h2
          ·rw [hzy] at hk; simp at hk
         ·simp at hk
        | ret =>
         simp only at hk
         split at hk
         ·rename_i y' hy'
          simp only [jc] at hk
          obtain ⟨σ2, φ2, h2⟩ := NK h' hy'
          rw [hn'] at h2
          rcases hzy with hzy | ⟨x'', hzy, _⟩
          ·rw [hzy] at hk
           simp only [Sum.inr.injEq] at hk
           subst hk
           simp only [Sum.elim_inr] at he
           exact hQ .ret _ σ2 φ2 a' w' he h2
          ·rw [hzy] at hk; simp at hk
         ·simp at hk
       rcases hit with hit | ⟨x', hit, hit'⟩
       ·exact body _ hit (.inl rfl)
       ·exact body _ hit (.inr ⟨x', rfl, hit'⟩)
     exact key m x σ1 φ1 a w hit h1
    ·simp at he
   ·simp at he
  ·simp at he
 | _ => intros; rename_i he _ _; simp [Ps] at he
end
theorem Vc.mono {w : World} {O O' : Nat → Prop} (hO : ∀ b, O' b → O b) : ∀ {rt : Ty} {r : T rt} {fr : List Bool} {vs : List Value} {F : List Nat}, Vc w O rt r fr vs F → Vc w O' rt r fr vs F
 | .u, _, [], [], _, h => h
 | .p x y, r, f :: fr, v :: vs, F, h => by
  obtain ⟨cs, F1, F2, hv, hF, h1, h2⟩ := h
  refine ⟨cs, F1, F2, hv, hF, ?_, Vc.mono hO h2⟩
  cases f with
  | true => exact h1
  | false =>
   simp only [jq, if_false] at h1 ⊢
   exact ⟨h1.1.weaken hO, h1.2⟩
 | .u, _, _ :: _, _, _, h => by simp [Vc] at h
 | .u, _, [], _ :: _, _, h => by simp [Vc] at h
 | .p _ _, _, [], _, _, h => by simp [Vc] at h
 | .p _ _, _, _ :: _, [], _, h => by simp [Vc] at h
 | .i _, _, fr, vs, _, h => by simp [Vc] at h
 | .b, _, fr, vs, _, h => by simp [Vc] at h
 | .o, _, fr, vs, _, h => by simp [Vc] at h
 | .s, _, fr, vs, _, h => by simp [Vc] at h
 | .sl _, _, fr, vs, _, h => by simp [Vc] at h
section
variable {P : Program} {n0 : Nat} {A : Fx} {O0 : Nat → Prop} {w0 w : World} {s : AS} {σ : Nat → Value} {φ : Nat → List Nat} {a : Act} {G : Le} {L : List (Nat × Ra)}
def RU (w : World) (O : Nat → Prop) (hp : Nat → Option Ja) (σ : Nat → Value) : D → List Value → Prop
 | .pr a b, v :: vs => Yc w O hp σ a v ∧ RU w O hp σ b vs
 | .un, [] => True
 | _, _ => False
def IJ (tmps : Array Value) : ResultVar → Sem Value
 | .tmp t => pure (tmps.getD t undef)
 | .cell a t => do loadVar t (← asAddr (tmps.getD a undef))
theorem AD (hG : EnvTy P G) (h : Xa n0 A O0 w0 s σ φ a w) : ∀ {rs : List ResultVar} {d : D}, Ax G s rs = some d → ∃ vs, (rs.mapM (IJ a.tmps)).run P w = .ok vs w ∧ RU w (OO O0 s φ) s.heap σ d vs
 | [], d, he => by
  simp only [Ax, jc] at he
  subst he
  exact ⟨[], by simp, trivial⟩
 | .tmp t :: r, d, he => by
  simp only [Ax] at he
  split at he
  ·rename_i d1 d2 h1 h2
   simp only [jc] at he
   subst he
   obtain ⟨vs, hvs, hr⟩ := AD hG h h2
   obtain ⟨v, hv, hru⟩ := h.tm t d1 h1
   have hg : a.tmps.getD t undef = v := by rw [Array.getD_eq_getD_getElem?, hv]; rfl
   refine ⟨v :: vs, ?_, hru, hr⟩
   rw [List.mapM_cons]
   simp only [IJ, qx, Sem.run_pure, qw, hvs, hg]
  ·simp at he
 | .cell t ty :: r, d, he => by
  simp only [Ax] at he
  split at he
  ·rename_i id d2 h1 h2
   split at he
   ·rename_i ρ d1 τ hb hty
    split at he
    ·rename_i q hq
     obtain rfl := q.down
     simp only [jc] at he
     subst he
     obtain ⟨vs, hvs, hr⟩ := AD hG h h2
     obtain ⟨v, hv, hru⟩ := h.tm t _ h1
     have hg : a.tmps.getD t undef = v := by rw [Array.getD_eq_getD_getElem?, hv]; rfl
     rw [Mq] at hru
     obtain ⟨b, hσ, hv'⟩ := hru.2 _ _ hb
     obtain ⟨hs, b', cur, et, hσ', hh, hF, hrep, hsz⟩ := h.hp id _ hb
     rw [hσ] at hσ'
     simp at hσ'
     subst hσ'
     have hl := Dp (P := P) (hG.ty _ _ hty) (off := 0) hh (by omega)
     have hseg : Ad cur 0 ρ.size = cur.toList := by rw [← hsz]; exact Rae cur
     rw [hseg] at hl
     refine ⟨Ed ρ cur.toList :: vs, ?_, On hs hrep, hr⟩
     rw [List.mapM_cons]
     have hoff : Jb ρ [] = 0 := rfl
     rw [hoff] at hv'
     subst hv'
     simp only [IJ, qx, Sem.run_pure, qw, hvs, hg, asAddr, hl]
    ·simp at he
   ·simp at he
  ·simp at he
theorem TK (h : Xa n0 A O0 w0 s σ φ a w) : ∀ {rt : Ty} {fr : List Bool} {d : D} {r : T rt} {l : List Nat} {vs : List Value}, Zf s rt fr d = some (r, l) → RU w (OO O0 s φ) s.heap σ d vs →
 Vc w (OO O0 s φ) rt r fr vs (Ea φ l) ∧ ∀ j, j ∈ l → ∃ b, s.heap j = some b
 | .u, [], .un, r, l, vs, he, hr => by
  simp only [Zf, jc, jh] at he
  obtain ⟨_, rfl⟩ := he
  cases vs with
  | nil => exact ⟨by simp [Vc, Ea], by simp⟩
  | cons v vs => simp [RU] at hr
 | .p x y, f :: fr, .pr d1 d2, r, l, vs, he, hr => by
  cases vs with
  | nil => simp [RU] at hr
  | cons v vs =>
   simp only [Zf] at he
   split at he
   ·rename_i u l1 z l2 h1 h2
    simp only [jc, jh] at he
    obtain ⟨rfl, rfl⟩ := he
    obtain ⟨g1, g2⟩ := TK h h2 hr.2
    cases f with
    | true =>
     simp only [cond_true] at h1
     obtain ⟨hrep, hv⟩ := Ae (Bj h1) hr.1
     obtain ⟨ho, hl⟩ := Am h h1 hrep
     refine ⟨⟨_, Ea φ l1, Ea φ l2, hv, Kd, ?_, g1⟩, ?_⟩
     ·simpa using ho
     ·intro j hj
      rcases jl.1 hj with hj | hj
      ·exact hl j hj
      ·exact g2 j hj
    | false =>
     simp only [cond_false] at h1
     split at h1
     ·rename_i u' hu
      simp only [jc, jh] at h1
      obtain ⟨rfl, rfl⟩ := h1
      obtain ⟨hs, hvw⟩ := Pg (w := w) (O := OO O0 s φ) (hp := s.heap) (σ := σ) hu
      obtain ⟨hrep, hv⟩ := Ae hs hr.1
      refine ⟨⟨_, [], Ea φ l2, hv, by simp [Ea], ?_, g1⟩, by simpa using g2⟩
      simpa using hvw _ hrep
     ·simp at h1
   ·simp at he
 | .u, _ :: _, d, _, _, _, he, _ => by cases d <;> simp [Zf] at he
 | .u, [], .und, _, _, _, he, _ => by simp [Zf] at he
 | .u, [], .anyv, _, _, _, he, _ => by simp [Zf] at he
 | .u, [], .t _ _, _, _, _, he, _ => by simp [Zf] at he
 | .u, [], .nil, _, _, _, he, _ => by simp [Zf] at he
 | .u, [], .own _, _, _, _, he, _ => by simp [Zf] at he
 | .u, [], .ptr _ _, _, _, _, he, _ => by simp [Zf] at he
 | .u, [], .eptr _ _ _, _, _, _, he, _ => by simp [Zf] at he
 | .u, [], .rp _ _, _, _, _, he, _ => by simp [Zf] at he
 | .u, [], .pr _ _, _, _, _, he, _ => by simp [Zf] at he
 | .u, [], .tup _, _, _, _, he, _ => by simp [Zf] at he
 | .p _ _, [], d, _, _, _, he, _ => by cases d <;> simp [Zf] at he
 | .p _ _, _ :: _, .und, _, _, _, he, _ => by simp [Zf] at he
 | .p _ _, _ :: _, .anyv, _, _, _, he, _ => by simp [Zf] at he
 | .p _ _, _ :: _, .t _ _, _, _, _, he, _ => by simp [Zf] at he
 | .p _ _, _ :: _, .nil, _, _, _, he, _ => by simp [Zf] at he
 | .p _ _, _ :: _, .own _, _, _, _, he, _ => by simp [Zf] at he
 | .p _ _, _ :: _, .ptr _ _, _, _, _, he, _ => by simp [Zf] at he
 | .p _ _, _ :: _, .eptr _ _ _, _, _, _, he, _ => by simp [Zf] at he
 | .p _ _, _ :: _, .rp _ _, _, _, _, he, _ => by simp [Zf] at he
 | .p _ _, _ :: _, .un, _, _, _, he, _ => by simp [Zf] at he
 | .p _ _, _ :: _, .tup _, _, _, _, he, _ => by simp [Zf] at he
 | .i _, fr, d, _, _, _, he, _ => by cases fr <;> cases d <;> simp [Zf] at he
 | .b, fr, d, _, _, _, he, _ => by cases fr <;> cases d <;> simp [Zf] at he
 | .o, fr, d, _, _, _, he, _ => by cases fr <;> cases d <;> simp [Zf] at he
 | .s, fr, d, _, _, _, he, _ => by cases fr <;> cases d <;> simp [Zf] at he
 | .sl _, fr, d, _, _, _, he, _ => by cases fr <;> cases d <;> simp [Zf] at he
theorem SE {fn : Func} {vs : List Value} (h : (fn.results.toList.mapM (IJ a.tmps)).run P w = .ok vs w) : (results fn a.tmps).run P w = .ok (VC vs) w := by
 unfold results
 rw [Array.mapM_eq_mapM_toList]
 simp only [map_eq_pure_bind, bind_assoc, pure_bind, qx, Sem.run_pure]
 show (Sem.run P (List.mapM (IJ a.tmps) fn.results.toList) w).andThen (fun vs w' => Result.ok (if h : vs.toArray.size = 1 then vs.toArray[0] else Value.tuple vs.toArray) w') = _
 rw [h]
 simp only [qw]
 congr 1
 cases vs with
 | nil => rfl
 | cons v vs => cases vs <;> rfl
end
def Ty.npar : Ty → Nat
 | .p _ y => y.npar + 1
 | _ => 0
theorem VJ {w : World} {O : Nat → Prop} : ∀ {pt : Ty} {x : T pt} {args : List Value}, Eg w O pt x args → args.length = pt.npar
 | .u, _, [], _ => rfl
 | .p x y, v, a :: r, h => by simp [Ty.npar, VJ h.2]
 | .u, _, _ :: _, h => by simp [Eg] at h
 | .p _ _, _, [], h => by simp [Eg] at h
 | .i _, _, l, h => by simp [Eg] at h
 | .b, _, l, h => by simp [Eg] at h
 | .o, _, l, h => by simp [Eg] at h
 | .s, _, l, h => by simp [Eg] at h
 | .sl _, _, l, h => by simp [Eg] at h
theorem IN {w : World} {O : Nat → Prop} {hp : Nat → Option Ja} {σ : Nat → Value} : ∀ {pt : Ty} {x : T pt} {args : List Value} {n t : Nat} {d : D}, Eg w O pt x args → Lb (FA pt x n) t = some d →
 ∃ j v, t = n + j ∧ args[j]? = some v ∧ Yc w O hp σ d v
 | .p x y, v, a :: r, n, t, d, h, hd => by
  simp only [FA] at hd
  rw [Nc] at hd
  split at hd
  ·rename_i e
   simp only [jc] at hd
   subst hd
   obtain ⟨⟨cs, ha, hv⟩, _⟩ := h
   refine ⟨0, a, by omega, rfl, ?_⟩
   rw [ha]
   exact On (τ := x) (by simp [Gb]) hv
  ·obtain ⟨j, v', h1, h2, h3⟩ := IN (hp := hp) (σ := σ) h.2 hd
   exact ⟨j + 1, v', by omega, by simpa using h2, h3⟩
 | .p _ _, _, [], _, _, _, h, _ => by simp [Eg] at h
 | .u, _, _, _, _, _, _, hd => by simp [FA, Lb] at hd
 | .i _, _, _, _, _, _, h, _ => by simp [Eg] at h
 | .b, _, _, _, _, _, h, _ => by simp [Eg] at h
 | .o, _, _, _, _, _, h, _ => by simp [Eg] at h
 | .s, _, _, _, _, _, h, _ => by simp [Eg] at h
 | .sl _, _, _, _, _, _, h, _ => by simp [Eg] at h
section
variable {P : Program} {G : Le} {L : List (Nat × Ra)}
variable {I : Cg}
def O9 (I : Cg) : Fx := ⟨fun _ => False, fun _ => none, fun _ _ h => by simp at h, I, fun _ h => h.elim⟩
theorem Laa (hG : Ij P I G) (hm : P.follows .mixedOrders = true) {f : FuncId} {fn : Func} {c : Code} (hf : P.funcs[f]? = some fn) (hb : fn.body = some c) (hname : (fn.name == "runtime.NumGoroutine") = false)
 (hL : ∀ b, b ∈ Vd c → Cb G L b) {pt rt : Ty} {fr : List Bool} {F : T pt → Option (T rt)} (hn : pt.npar ≤ fn.ntmps) (hF : ∀ x r, F x = some r → Q4 G L fn pt rt fr x = some r) : Mh P I f (.pu pt rt fr F) := by
 refine ⟨⟨fn, hf, hname, by rw [hb]; rfl⟩, ?_⟩
 intro O w x r args hx hargs hO hI hB
 have he := hF x r hx
 unfold Q4 at he
 rw [hb] at he
 simp only at he
 refine calls_of_wp hf hb ?_
 have hlen := VJ hargs
 have hc : Xa w.heap.size (O9 I) O w ⟨fn.ntmps, FA pt x 0, []⟩ (fun _ => undef) (fun _ => []) { tmps := args.toArray ++ Array.replicate (fn.ntmps - args.toArray.size) undef, defers := [] } w := by
  have hh : ∀ id, AS.heap ⟨fn.ntmps, FA pt x 0, []⟩ id = none := fun id => rfl
  refine ⟨?_, rfl, ?_, ?_, ?_, ?_, ?_, hO, ⟨rfl, rfl, rfl, jo _, fun _ _ _ => rfl⟩, ?_, hB, hI⟩
  ·simp; omega
  ·intro t d hd
   have hOO : OO O ⟨fn.ntmps, FA pt x 0, []⟩ (fun _ => []) = O := by
    funext b
    simp [OO, hh]
   rw [hOO]
   obtain ⟨j, v, h1, h2, h3⟩ := IN hargs hd
   refine ⟨v, ?_, h3⟩
   have hj : j < args.length := (List.getElem?_eq_some_iff.1 h2).1
   have : t = j := by omega
   subst this
   rw [Array.getElem?_append_left (by simpa using hj)]
   simpa using h2
  ·intro id Ga hb; rw [hh] at hb; simp at hb
  ·intro id Ga hb; rw [hh] at hb; simp at hb
  ·intro id id' Ga blk' _ hb; rw [hh] at hb; simp at hb
  ·intro id Ga hb; rw [hh] at hb; simp at hb
  ·intro id v hv; simp [O9] at hv
 refine OU (A := O9 I) hG (fun _ _ h => h) hm c hL he hc ?_
 intro e s σ φ a w' hk h
 have Hh : (match Ax G s fn.results.toList with
  | some d => match Zf s rt fr d with
   | some (r, l) => bif Of l then some r else none
   | none => none
  | none => none) = some r → a.defers = [] ∧ ∃ v, (results fn a.tmps).run P w' = .ok v w' ∧ Xu (fun v w' => ∃ vs Fr, v = VC vs ∧ Yy w w' (fun _ => False) ∧ Vc w' (fun b => O b ∨ b ∈ Fr) rt r fr vs Fr ∧ Fr.Nodup ∧ ∀ b ∈ Fr, w.heap.size ≤ b) (.returned v) w' := by
  intro hk
  split at hk
  ·rename_i d hd
   split at hk
   ·rename_i r' l hr
    simp only [Ha] at hk
    obtain ⟨hnd, hk⟩ := hk
    simp only [jc] at hk
    subst hk
    have hnd := Bh hnd
    obtain ⟨vs, hvs, hru⟩ := AD hG.toEnvTy h hd
    obtain ⟨hR, hlive⟩ := TK h hr hru
    refine ⟨h.df, _, SE hvs, vs, Ea φ l, rfl, ⟨h.fr.size, fun b hb _ => h.fr.block b hb (fun h => h), h.fr.os, h.fr.tape, h.fr.output⟩, hR.mono ?_, Rf h hnd hlive, ?_⟩
    ·rintro b (hb | hb)
     ·exact .inl hb
     ·obtain ⟨j, hj, hm'⟩ := Ib.1 hb
      obtain ⟨Ga, hbj⟩ := hlive j hj
      exact .inr ⟨j, Ga, hbj, hm'⟩
    ·intro b hb
     obtain ⟨j, hj, hm'⟩ := Ib.1 hb
     obtain ⟨Ga, hbj⟩ := hlive j hj
     exact (h.fresh j Ga hbj b hm').resolve_right (fun h => h)
   ·simp at hk
  ·simp at hk
 cases e with
 | normal => exact Hh hk
 | ret => exact Hh hk
 | exit j => simp at hk
end
theorem EC {φ : Nat → List Nat} : ∀ {L : List Nat}, (Ea φ L).Nodup → ∀ {i j b : Nat}, i ∈ L → j ∈ L → i ≠ j → b ∈ φ i → b ∉ φ j
 | [], _, _, _, _, h, _, _, _ => by simp at h
 | x :: L, hn, i, j, b, hi, hj, hne, hb => by
  intro hb'
  have hx : Ea φ (x :: L) = φ x ++ Ea φ L := by simp [Ea]
  rw [hx, List.nodup_append] at hn
  rcases jp.1 hi with e1 | q1
  ·rcases jp.1 hj with e2 | q2
   ·exact hne (e1.trans e2.symm)
   ·exact hn.2.2 b (e1 ▸ hb) b (Ib.2 ⟨j, q2, hb'⟩) rfl
  ·rcases jp.1 hj with e2 | q2
   ·exact hn.2.2 b (e2 ▸ hb') b (Ib.2 ⟨i, q1, hb⟩) rfl
   ·exact EC hn.2.1 q1 q2 hne hb hb'
section
variable {P : Program} {G : Le} {L : List (Nat × Ra)} {I : Cg}
end
def UB : (pt : Ty) → T pt → Nat → Nat → List (Nat × D) × List (Nat × Option Ja) × Nat
 | .p x y, v, t, n => match Rd x v.1 n with
  | (d, l, m) => match UB y v.2 (t + 1) m with
   | (tm, l', m') => ((t, d) :: tm, l ++ l', m')
 | _, _, _, n => ([], [], n)
def ST (G : Le) (L : List (Nat × Ra)) (fn : Func) (pt rt : Ty) (fr : List Bool) (x : T pt) : Option (T rt) :=
 match fn.body with
 | some c => match UB pt x 0 400000 with
  | (tm, rows, _) => Ps G L c ⟨fn.ntmps, tm, rows⟩ fun e s => match e with
   | .exit _ => none
   | _ => match Ax G s fn.results.toList with
    | some d => match Zf s rt fr d with
     | some (r, l) => bif Of l then some r else none
     | none => none
    | none => none
 | none => none
def RT (G : Le) (L : List (Nat × Ra)) (fn : Func) (vw cv : Bool) (τ pt rt : Ty) (fr : List Bool) (x0 : T τ) (x : T pt) : Option (T τ × T rt) :=
 match fn.body with
 | some c => match (bif vw then (D.t τ x0, [], 400000) else Rd τ x0 400000) with
  | (d0, rows, m) => match (bif cv then UB pt x 1 m else (FA pt x 1, [], m)) with
   | (tm, rows2, m2) => bif jx m2 500000 then Ps G L c ⟨fn.ntmps, (0, .ptr 500000 []) :: tm, (500000, some (.box τ d0)) :: (rows ++ rows2)⟩ fun e s => match e with
    | .exit _ => none
    | _ => match s.heap 500000, Ax G s fn.results.toList with
     | some (.box τ' d1), some d => match Ty.dec τ' τ, (bif vw then (match Wi d1 τ with
      | some y => some (y, [])
      | none => none) else Xb s d1 τ), Zf s rt fr d with
      | some _, some (x', l0), some (r, l) => bif Of (500000 :: (l0 ++ l)) then some (x', r) else none
      | _, _, _ => none
     | _, _ => none
    else none
 | none => none
theorem DJ {w : World} : ∀ {pt : Ty} {x : T pt} {args : List Value} {F : List Nat}, Ff w pt x args F → args.length = pt.npar
 | .u, _, [], _, _ => rfl
 | .p x y, v, a :: r, F, h => by
  obtain ⟨cs, F1, F2, _, _, _, h⟩ := h
  simp [Ty.npar, DJ h]
 | .u, _, _ :: _, _, h => by simp [Ff] at h
 | .p _ _, _, [], _, h => by simp [Ff] at h
 | .i _, _, l, _, h => by simp [Ff] at h
 | .b, _, l, _, h => by simp [Ff] at h
 | .o, _, l, _, h => by simp [Ff] at h
 | .s, _, l, _, h => by simp [Ff] at h
 | .sl _, _, l, _, h => by simp [Ff] at h
theorem Ff.lt {w : World} : ∀ {pt : Ty} {x : T pt} {args : List Value} {F : List Nat}, Ff w pt x args F → ∀ b, b ∈ F → b < w.heap.size
 | .u, _, [], F, h, b, hb => by simp only [Ff] at h; subst h; simp at hb
 | .p x y, v, a :: r, F, h, b, hb => by
  obtain ⟨cs, F1, F2, _, rfl, ho, h⟩ := h
  rcases jl.1 hb with hb | hb
  ·exact ho.lt b hb
  ·exact Ff.lt h b hb
 | .u, _, _ :: _, _, h, _, _ => by simp [Ff] at h
 | .p _ _, _, [], _, h, _, _ => by simp [Ff] at h
 | .i _, _, l, _, h, _, _ => by simp [Ff] at h
 | .b, _, l, _, h, _, _ => by simp [Ff] at h
 | .o, _, l, _, h, _, _ => by simp [Ff] at h
 | .s, _, l, _, h, _, _ => by simp [Ff] at h
 | .sl _, _, l, _, h, _, _ => by simp [Ff] at h
theorem JN {w : World} : ∀ {pt : Ty} {x : T pt} {args : List Value} {F : List Nat} {t n m : Nat} {tm : List (Nat × D)} {l : List (Nat × Option Ja)}, UB pt x t n = (tm, l, m) → Ff w pt x args F →
 n ≤ m ∧ (∀ p, p ∈ l → n ≤ p.1 ∧ p.1 < m) ∧ ∃ (ψ : Nat → List Nat) (ν : Nat → Value), Ea ψ (l.map (·.1)) = F ∧ (∀ p, p ∈ l → ∃ e xs, p.2 = some (.row e true xs) ∧ Ub w (.sl e) xs [ν p.1] (ψ p.1)) ∧
  ∀ (hp' : Nat → Option Ja) (σ' : Nat → Value) (O' : Nat → Prop), (∀ p, p ∈ l → σ' p.1 = ν p.1) → ∀ t' d, Lb tm t' = some d → ∃ j v, t' = t + j ∧ args[j]? = some v ∧ Yc w O' hp' σ' d v
 | .u, x, [], F, t, n, m, tm, l, he, h => by
  simp only [UB, jh] at he
  obtain ⟨rfl, rfl, rfl⟩ := he
  simp only [Ff] at h
  exact ⟨jo _, by simp, fun _ => [], fun _ => undef, by simp [Ea, h], by simp, fun _ _ _ _ t' d hd => by simp [Lb] at hd⟩
 | .p t1 t2, x, a :: r, F, t, n, m, tm, l, he, h => by
  obtain ⟨cs, F1, F2, ha, hF, ho, hr⟩ := h
  simp only [UB] at he
  rcases ho1 : Rd t1 x.1 n with ⟨d1, l1, m1⟩
  rcases ho2 : UB t2 x.2 (t + 1) m1 with ⟨tm2, l2, m2⟩
  rw [ho1] at he
  simp only at he
  rw [ho2] at he
  simp only [jh] at he
  obtain ⟨rfl, rfl, rfl⟩ := he
  obtain ⟨a1, a2, a3, ψ1, ν1, a4, a5, a6⟩ := Ju ho1 ho
  obtain ⟨b1, b2, ψ2, ν2, b4, b5, b6⟩ := JN ho2 hr
  refine ⟨by omega, ?_, fun id => if id < m1 then ψ1 id else ψ2 id, fun id => if id < m1 then ν1 id else ν2 id, ?_, ?_, ?_⟩
  ·intro p hp
   rcases jl.1 hp with hp | hp
   ·have := a2 p hp; omega
   ·have := b2 p hp; omega
  ·rw [List.map_append, Kd, hF, ← a4, ← b4]
   congr 1
   ·exact Ej fun id hid => by
     obtain ⟨p, hp, rfl⟩ := qs.1 hid
     rw [if_pos (a2 p hp).2]
   ·exact Ej fun id hid => by
     obtain ⟨p, hp, rfl⟩ := qs.1 hid
     rw [if_neg (by have := b2 p hp; omega)]
  ·intro p hp
   rcases jl.1 hp with hp | hp
   ·simp only [if_pos (a2 p hp).2]; exact a5 p hp
   ·have : ¬ p.1 < m1 := by have := b2 p hp; omega
    simp only [if_neg this]; exact b5 p hp
  ·intro hp' σ' O' hσ t' d hd
   rw [Nc] at hd
   split at hd
   ·rename_i e
    simp only [jc] at hd
    subst hd
    refine ⟨0, a, by omega, rfl, ?_⟩
    rw [ha]
    refine On a3 (a6 w hp' σ' O' fun p hp => ?_)
    have h1 := hσ p (List.mem_append_left _ hp)
    simp only [if_pos (a2 p hp).2] at h1
    exact h1
   ·obtain ⟨j, v, h1, h2, h3⟩ := b6 hp' σ' O' (fun p hp => by
     have h1 := hσ p (List.mem_append_right _ hp)
     have h2 : ¬ p.1 < m1 := by have := b2 p hp; omega
     simp only [if_neg h2] at h1
     exact h1) t' d hd
    exact ⟨j + 1, v, by omega, by simpa using h2, h3⟩
 | .u, _, _ :: _, _, _, _, _, _, _, _, h => by simp [Ff] at h
 | .p _ _, _, [], _, _, _, _, _, _, _, h => by simp [Ff] at h
 | .i _, _, l, _, _, _, _, _, _, _, h => by simp [Ff] at h
 | .b, _, l, _, _, _, _, _, _, _, h => by simp [Ff] at h
 | .o, _, l, _, _, _, _, _, _, _, h => by simp [Ff] at h
 | .s, _, l, _, _, _, _, _, _, _, h => by simp [Ff] at h
 | .sl _, _, l, _, _, _, _, _, _, _, h => by simp [Ff] at h
section
variable {P : Program} {G : Le} {L : List (Nat × Ra)} {I : Cg}
theorem Kaa (hG : Ij P I G) (hfz : G.fz = false) (hm : P.follows .mixedOrders = true) {f : FuncId} {fn : Func} {c : Code} (hf : P.funcs[f]? = some fn) (hb : fn.body = some c) (hname : (fn.name == "runtime.NumGoroutine") = false)
 (hL : ∀ b, b ∈ Vd c → Cb G L b) {pt rt : Ty} {fr : List Bool} {F : T pt → Option (T rt)} (hn : pt.npar ≤ fn.ntmps) (hF : ∀ x r, F x = some r → ST G L fn pt rt fr x = some r) :
 Mh P I f (.co pt rt fr F) := by
 refine ⟨⟨fn, hf, hname, by rw [hb]; rfl⟩, ?_⟩
 intro O w x r F0 args hx hargs hF0 hO hI hB hFB
 have he := hF x r hx
 unfold ST at he
 rw [hb] at he
 simp only at he
 rcases hop : UB pt x 0 400000 with ⟨tm, rows, m⟩
 rw [hop] at he
 simp only at he
 obtain ⟨_, hids, ψ, ν, hbl, hrows, hrep⟩ := JN hop hargs
 refine calls_of_wp hf hb ?_
 have hlen := DJ hargs
 have hmem : ∀ id Ga, AS.heap ⟨fn.ntmps, tm, rows⟩ id = some Ga → id ∈ rows.map (·.1) ∧ ∃ e xs, Ga = .row e true xs ∧ Ub w (.sl e) xs [ν id] (ψ id) := by
  intro id Ga hb
  have hm := AS.heap_mem hb
  obtain ⟨e, xs, h1, h2⟩ := hrows _ hm
  simp only [jc] at h1
  exact ⟨List.mem_map_of_mem (f := (·.1)) hm, e, xs, h1, h2⟩
 have hF0' : (Ea ψ (rows.map (·.1))).Nodup := by rw [hbl]; exact hF0
 let A : Fx := ⟨(· ∈ F0), fun _ => none, fun _ _ h => by simp at h, I, hFB⟩
 have hOO : OO (fun b => O b ∨ b ∈ F0) ⟨fn.ntmps, tm, rows⟩ ψ = (fun b => O b ∨ b ∈ F0) := by
  funext b
  refine propext ⟨fun h => ?_, .inl⟩
  rcases h with h | ⟨id, Ga, hb, hm⟩
  ·exact h
  ·refine .inr ?_
   rw [← hbl]
   exact Ib.2 ⟨id, (hmem id Ga hb).1, hm⟩
 have hc : Xa w.heap.size A (fun b => O b ∨ b ∈ F0) w ⟨fn.ntmps, tm, rows⟩ ν ψ { tmps := args.toArray ++ Array.replicate (fn.ntmps - args.toArray.size) undef, defers := [] } w := by
  refine ⟨?_, rfl, ?_, ?_, ?_, ?_, ?_, ?_, ⟨rfl, rfl, rfl, jo _, fun _ _ _ => rfl⟩, ?_, hB, hI⟩
  ·simp; omega
  ·intro t d hd
   rw [hOO]
   obtain ⟨j, v, h1, h2, h3⟩ := hrep (AS.heap ⟨fn.ntmps, tm, rows⟩) ν (fun b => O b ∨ b ∈ F0) (fun _ _ => rfl) t d hd
   refine ⟨v, ?_, h3⟩
   have hj : j < args.length := (List.getElem?_eq_some_iff.1 h2).1
   have : t = j := by omega
   subst this
   rw [Array.getElem?_append_left (by simpa using hj)]
   simpa using h2
  ·intro id Ga hb
   obtain ⟨_, e, xs, rfl, h2⟩ := hmem id Ga hb
   exact h2
  ·intro id Ga hb
   have hi := (hmem id Ga hb).1
   have : (ψ id).Sublist (Ea ψ (rows.map (·.1))) := by
    unfold Ea
    exact List.sublist_flatten_of_mem (List.mem_map_of_mem hi)
   exact this.nodup hF0'
  ·intro id id' Ga blk' hne hb hb' b hm
   exact EC hF0' (hmem id Ga hb).1 (hmem id' blk' hb').1 hne hm
  ·intro id Ga hb b hm
   refine .inr ?_
   show b ∈ F0
   rw [← hbl]
   exact Ib.2 ⟨id, (hmem id Ga hb).1, hm⟩
  ·rintro b (hb | hb)
   ·exact hO b hb
   ·exact hargs.lt b hb
  ·intro id v hv; simp [A] at hv
 refine OU (A := A) hG (fun h => by rw [hfz] at h; simp at h) hm c hL he hc ?_
 intro e s σ φ a w' hk h
 have Hh : (match Ax G s fn.results.toList with
  | some d => match Zf s rt fr d with
   | some (r, l) => bif Of l then some r else none
   | none => none
  | none => none) = some r → a.defers = [] ∧ ∃ v, (results fn a.tmps).run P w' = .ok v w' ∧ Xu (fun v w' => ∃ vs Fr, v = VC vs ∧ Yy w w' (· ∈ F0) ∧
  Vc w' (fun b => O b ∨ b ∈ F0 ∨ b ∈ Fr) rt r fr vs Fr ∧ Fr.Nodup ∧ ∀ b ∈ Fr, w.heap.size ≤ b ∨ b ∈ F0) (.returned v) w' := by
  intro hk
  split at hk
  ·rename_i d hd
   split at hk
   ·rename_i r' l hr
    simp only [Ha] at hk
    obtain ⟨hnd, hk⟩ := hk
    simp only [jc] at hk
    subst hk
    have hnd := Bh hnd
    obtain ⟨vs, hvs, hru⟩ := AD hG.toEnvTy h hd
    obtain ⟨hR, hlive⟩ := TK h hr hru
    refine ⟨h.df, _, SE hvs, vs, Ea φ l, rfl, ⟨h.fr.size, fun b hb hno => h.fr.block b hb hno, h.fr.os, h.fr.tape, h.fr.output⟩, hR.mono ?_, Rf h hnd hlive, ?_⟩
    ·rintro b (hb | hb | hb)
     ·exact .inl (.inl hb)
     ·exact .inl (.inr hb)
     ·obtain ⟨j, hj, hm'⟩ := Ib.1 hb
      obtain ⟨Ga, hbj⟩ := hlive j hj
      exact .inr ⟨j, Ga, hbj, hm'⟩
    ·intro b hb
     obtain ⟨j, hj, hm'⟩ := Ib.1 hb
     obtain ⟨Ga, hbj⟩ := hlive j hj
     exact h.fresh j Ga hbj b hm'
   ·simp at hk
  ·simp at hk
 cases e with
 | normal => exact Hh hk
 | ret => exact Hh hk
 | exit j => simp at hk
theorem Jaa (hG : Ij P I G) (hfz : G.fz = false) (hm : P.follows .mixedOrders = true) {f : FuncId} {fn : Func} {c : Code} (hf : P.funcs[f]? = some fn) (hb : fn.body = some c) (hname : (fn.name == "runtime.NumGoroutine") = false)
 (hL : ∀ b, b ∈ Vd c → Cb G L b) {vw cv : Bool} {τ pt rt : Ty} {fr : List Bool} {F : T τ → T pt → Option (T τ × T rt)} (hn : pt.npar + 1 ≤ fn.ntmps) (hF : ∀ x0 x r, F x0 x = some r → RT G L fn vw cv τ pt rt fr x0 x = some r) :
 Mh P I f (.bx vw cv τ pt rt fr F) := by
 refine ⟨⟨fn, hf, hname, by rw [hb]; rfl⟩, ?_⟩
 intro O w x0 x r b cur et F0 F2 args hx hh hsz hcont hargs hnd hO hI hB hFB
 have he := hF x0 x r hx
 unfold RT at he
 rw [hb] at he
 simp only at he
 rcases hop : (bif vw then (D.t τ x0, [], 400000) else Rd τ x0 400000) with ⟨d0, rows, m⟩
 rw [hop] at he
 simp only at he
 rcases hop2 : (bif cv then UB pt x 1 m else (FA pt x 1, [], m)) with ⟨tm, rows2, m2⟩
 rw [hop2] at he
 simp only [Ha] at he
 obtain ⟨hm2, he⟩ := he
 have hm2 := Nat.le_of_ble_eq_true hm2
 have hlt : b < w.heap.size := (Array.getElem?_eq_some_iff.1 hh).1
 have k1 : 400000 ≤ m ∧ (∀ p, p ∈ rows → 400000 ≤ p.1 ∧ p.1 < m) ∧ Gb τ d0 ∧ (∀ c, c ∈ F0 → c < w.heap.size) ∧ ∃ (ψ : Nat → List Nat) (ν : Nat → Value), Ea ψ (rows.map (·.1)) = F0 ∧ (∀ p, p ∈ rows → ∃ e xs, p.2 = some (.row e true xs) ∧ Ub w (.sl e) xs [ν p.1] (ψ p.1)) ∧
  ∀ (hp' : Nat → Option Ja) (σ' : Nat → Value), (∀ p, p ∈ rows → σ' p.1 = ν p.1) → Ya w (fun c => O c ∨ c ∈ b :: (F0 ++ F2)) hp' σ' d0 cur.toList := by
  cases vw with
  | true =>
   simp only [cond_true, jh] at hop
   obtain ⟨rfl, rfl, rfl⟩ := hop
   simp only [if_true] at hcont
   obtain ⟨hv, rfl⟩ := hcont
   refine ⟨jo _, by simp, by simp [Gb], by simp, fun _ => [], fun _ => undef, by simp [Ea], by simp, fun hp' σ' _ => Sa.weaken (fun c hc => ?_) hv⟩
   rcases hc with hc | hc
   ·exact .inl hc
   ·rcases jp.1 hc with rfl | hc
    ·exact .inr (.inl rfl)
    ·exact .inr (.inr (by simpa using hc))
  | false =>
   simp only [cond_false] at hop
   simp only [jq, if_false] at hcont
   obtain ⟨a1, a2, a3, ψ1, ν1, a4, a5, a6⟩ := Ju hop hcont
   exact ⟨a1, a2, a3, fun c hc => hcont.lt c hc, ψ1, ν1, a4, a5, fun hp' σ' h => a6 w hp' σ' _ h⟩
 obtain ⟨hnm, hids, hsh, hF0lt, ψ1, ν1, hbl1, hrows1, hrep1⟩ := k1
 have k2 : m ≤ m2 ∧ (∀ p, p ∈ rows2 → m ≤ p.1 ∧ p.1 < m2) ∧ args.length = pt.npar ∧ (∀ c, c ∈ F2 → c < w.heap.size) ∧ ∃ (ψ : Nat → List Nat) (ν : Nat → Value), Ea ψ (rows2.map (·.1)) = F2 ∧ (∀ p, p ∈ rows2 → ∃ e xs, p.2 = some (.row e true xs) ∧ Ub w (.sl e) xs [ν p.1] (ψ p.1)) ∧
  ∀ (hp' : Nat → Option Ja) (σ' : Nat → Value), (∀ p, p ∈ rows2 → σ' p.1 = ν p.1) → ∀ t' d, Lb tm t' = some d → ∃ j v, t' = 1 + j ∧ args[j]? = some v ∧ Yc w (fun c => O c ∨ c ∈ b :: (F0 ++ F2)) hp' σ' d v := by
  cases cv with
  | true =>
   simp only [cond_true] at hop2
   simp only [if_true] at hargs
   obtain ⟨a1, a2, ψ2, ν2, a4, a5, a6⟩ := JN hop2 hargs
   exact ⟨a1, a2, DJ hargs, hargs.lt, ψ2, ν2, a4, a5, fun hp' σ' h => a6 hp' σ' _ h⟩
  | false =>
   simp only [cond_false, jh] at hop2
   obtain ⟨rfl, rfl, rfl⟩ := hop2
   simp only [jq, if_false] at hargs
   obtain ⟨hv, rfl⟩ := hargs
   refine ⟨jo _, by simp, VJ hv, by simp, fun _ => [], fun _ => undef, by simp [Ea], by simp, fun hp' σ' _ t' d hd => ?_⟩
   have : (fun c => O c ∨ c ∈ b :: (F0 ++ [])) = (fun c => O c ∨ c = b ∨ c ∈ F0) := by
    funext c; simp
   rw [this]
   exact IN hv hd
 obtain ⟨hmm, hids2, hlen, hF2lt, ψ2, ν2, hbl2, hrows2, hrep2⟩ := k2
 refine calls_of_wp hf hb ?_
 let ψ : Nat → List Nat := fun id => if id = 500000 then [b] else if id < m then ψ1 id else ψ2 id
 let ν : Nat → Value := fun id => if id = 500000 then .pointer (some ⟨b, 0, none⟩) else if id < m then ν1 id else ν2 id
 have hψ0 : ψ 500000 = [b] := if_pos rfl
 have hν0 : ν 500000 = .pointer (some ⟨b, 0, none⟩) := if_pos rfl
 have hψ1 : ∀ p, p ∈ rows → ψ p.1 = ψ1 p.1 ∧ ν p.1 = ν1 p.1 := fun p hp => by
  have h1 := hids p hp
  have h2 : ¬ p.1 = 500000 := by omega
  simp only [ψ, ν, if_neg h2, if_pos h1.2, and_self]
 have hψ2 : ∀ p, p ∈ rows2 → ψ p.1 = ψ2 p.1 ∧ ν p.1 = ν2 p.1 := fun p hp => by
  have h1 := hids2 p hp
  have h2 : ¬ p.1 = 500000 := by omega
  have h3 : ¬ p.1 < m := by omega
  simp only [ψ, ν, if_neg h2, if_neg h3, and_self]
 let s0 : AS := ⟨fn.ntmps, (0, .ptr 500000 []) :: tm, (500000, some (.box τ d0)) :: (rows ++ rows2)⟩
 have hbx : s0.heap 500000 = some (.box τ d0) := by simp [s0, AS.heap, Nc]
 have hmem : ∀ id Ga, s0.heap id = some Ga → (id = 500000 ∧ Ga = .box τ d0) ∨ (id ≠ 500000 ∧ id ∈ (rows ++ rows2).map (·.1) ∧ ∃ e xs, Ga = .row e true xs ∧ Ub w (.sl e) xs [ν id] (ψ id)) := by
  intro id Ga hb
  by_cases hid : id = 500000
  ·subst hid
   rw [hbx] at hb
   simp only [jc] at hb
   exact .inl ⟨rfl, hb.symm⟩
  ·have hm := AS.heap_mem hb
   simp only [s0, jp, jh, hid, false_and, false_or] at hm
   refine .inr ⟨hid, List.mem_map_of_mem (f := (·.1)) hm, ?_⟩
   rcases jl.1 hm with hm | hm
   ·obtain ⟨e, xs, h1, h2⟩ := hrows1 _ hm
    simp only [jc] at h1
    exact ⟨e, xs, h1, by rw [(hψ1 _ hm).1, (hψ1 _ hm).2]; exact h2⟩
   ·obtain ⟨e, xs, h1, h2⟩ := hrows2 _ hm
    simp only [jc] at h1
    exact ⟨e, xs, h1, by rw [(hψ2 _ hm).1, (hψ2 _ hm).2]; exact h2⟩
 have hblr : Ea ψ ((rows ++ rows2).map (·.1)) = F0 ++ F2 := by
  rw [List.map_append, Kd, ← hbl1, ← hbl2]
  congr 1
  ·exact Ej fun id hid => by
    obtain ⟨p, hp, rfl⟩ := qs.1 hid
    exact (hψ1 p hp).1
  ·exact Ej fun id hid => by
    obtain ⟨p, hp, rfl⟩ := qs.1 hid
    exact (hψ2 p hp).1
 have hbl : Ea ψ (500000 :: (rows ++ rows2).map (·.1)) = b :: (F0 ++ F2) := by
  have : Ea ψ (500000 :: (rows ++ rows2).map (·.1)) = ψ 500000 ++ Ea ψ ((rows ++ rows2).map (·.1)) := by simp only [Ea, List.map_cons, List.flatten_cons]
  rw [this, hψ0, hblr]; rfl
 have hndB : (Ea ψ (500000 :: (rows ++ rows2).map (·.1))).Nodup := by rw [hbl]; exact hnd
 have hidin : ∀ id Ga, s0.heap id = some Ga → id ∈ 500000 :: (rows ++ rows2).map (·.1) := by
  intro id Ga hb
  rcases hmem id Ga hb with ⟨rfl, _⟩ | ⟨_, h, _⟩
  ·exact qv
  ·exact jr _ h
 let A : Fx := ⟨(· ∈ b :: (F0 ++ F2)), fun id => if id = 500000 then some (.pointer (some ⟨b, 0, none⟩)) else none, fun id v h => by
  split at h
  ·omega
  ·simp at h, I, hFB⟩
 have hOO : OO (fun c => O c ∨ c ∈ b :: (F0 ++ F2)) s0 ψ = (fun c => O c ∨ c ∈ b :: (F0 ++ F2)) := by
  funext c
  refine propext ⟨fun h => ?_, .inl⟩
  rcases h with h | ⟨id, Ga, hb, hm⟩
  ·exact h
  ·refine .inr ?_
   rw [← hbl]
   exact Ib.2 ⟨id, hidin id Ga hb, hm⟩
 have hc : Xa w.heap.size A (fun c => O c ∨ c ∈ b :: (F0 ++ F2)) w s0 ν ψ { tmps := (.pointer (some ⟨b, 0, none⟩) :: args).toArray ++ Array.replicate (fn.ntmps - (Value.pointer (some ⟨b, 0, none⟩) :: args).toArray.size) undef, defers := [] } w := by
  refine ⟨?_, rfl, ?_, ?_, ?_, ?_, ?_, ?_, ⟨rfl, rfl, rfl, jo _, fun _ _ _ => rfl⟩, ?_, hB, hI⟩
  ·simp [s0]; omega
  ·intro t d hd
   rw [hOO]
   simp only [s0] at hd
   rw [Nc] at hd
   split at hd
   ·rename_i e
    subst e
    simp only [jc] at hd
    subst hd
    refine ⟨.pointer (some ⟨b, 0, none⟩), by rw [Array.getElem?_append_left (by simp)]; simp, ?_⟩
    rw [Mq]
    exact ⟨rfl, fun ρ d _ => ⟨b, hν0, by simp [Jb]⟩⟩
   ·obtain ⟨j, v, h1, h2, h3⟩ := hrep2 s0.heap ν (fun p hp => (hψ2 p hp).2) t d hd
    refine ⟨v, ?_, h3⟩
    have hj : j < args.length := (List.getElem?_eq_some_iff.1 h2).1
    have : t = j + 1 := by omega
    subst this
    rw [Array.getElem?_append_left (by simpa using hj)]
    simpa using h2
  ·intro id Ga hb
   rw [hOO]
   rcases hmem id Ga hb with ⟨rfl, rfl⟩ | ⟨_, _, e, xs, rfl, h2⟩
   ·exact ⟨hsh, b, cur, et, hν0, hh, hψ0, hrep1 _ _ fun p hp => (hψ1 p hp).2, hsz⟩
   ·exact h2
  ·intro id Ga hb
   have hi := hidin id Ga hb
   have : (ψ id).Sublist (Ea ψ (500000 :: (rows ++ rows2).map (·.1))) := by
    unfold Ea
    exact List.sublist_flatten_of_mem (List.mem_map_of_mem hi)
   exact this.nodup hndB
  ·intro id id' Ga blk' hne hb hb' c hm
   exact EC hndB (hidin id Ga hb) (hidin id' blk' hb') hne hm
  ·intro id Ga hb c hm
   refine .inr ?_
   show c ∈ b :: (F0 ++ F2)
   rw [← hbl]
   exact Ib.2 ⟨id, hidin id Ga hb, hm⟩
  ·rintro c (hc | hc)
   ·exact hO c hc
   ·rcases jp.1 hc with rfl | hc
    ·exact hlt
    ·rcases jl.1 hc with hc | hc
     ·exact hF0lt c hc
     ·exact hF2lt c hc
  ·intro id v hv
   simp only [A] at hv
   split at hv
   ·rename_i e
    subst e
    simp only [jc] at hv
    exact hν0.trans hv
   ·simp at hv
 refine OU (A := A) hG (fun h => by rw [hfz] at h; simp at h) hm c hL he hc ?_
 intro e s σ φ a w' hk h
 have Hh : (match s.heap 500000, Ax G s fn.results.toList with
  | some (.box τ' d1), some d => match Ty.dec τ' τ, (bif vw then (match Wi d1 τ with
   | some y => some (y, [])
   | none => none) else Xb s d1 τ), Zf s rt fr d with
   | some _, some (x', l0), some (r, l) => bif Of (500000 :: (l0 ++ l)) then some (x', r) else none
   | _, _, _ => none
  | _, _ => none) = some r → a.defers = [] ∧ ∃ v, (results fn a.tmps).run P w' = .ok v w' ∧ Xu (fun v w' => ∃ vs cur' et' F1 Fr, v = VC vs ∧ Yy w w' (· ∈ b :: (F0 ++ F2)) ∧ w'.heap[b]? = some (.cells cur' et' (0, 0)) ∧ cur'.size = τ.size ∧
  (if vw then Sa w' (fun c => O c ∨ c ∈ b :: (F0 ++ F2) ∨ c ∈ Fr) τ r.1 cur'.toList ∧ F1 = [] else Ub w' τ r.1 cur'.toList F1) ∧
  Vc w' (fun c => O c ∨ c ∈ b :: (F0 ++ F2) ∨ c ∈ F1 ∨ c ∈ Fr) rt r.2 fr vs Fr ∧ (b :: (F1 ++ Fr)).Nodup ∧ ∀ c ∈ F1 ++ Fr, w.heap.size ≤ c ∨ c ∈ F0 ++ F2) (.returned v) w' := by
  intro hk
  split at hk
  ·rename_i τ' d1 d hbx' hd
   split at hk
   ·rename_i q x' l0 r' l hq hx' hr
    obtain rfl := Ge hq
    simp only [Ha] at hk
    obtain ⟨hnd', hk⟩ := hk
    simp only [jc] at hk
    subst hk
    have hnd' := Bh hnd'
    obtain ⟨hsh', b', cur', et', hσ', hh', hF', hr0, hsz'⟩ := h.hp 500000 _ hbx'
    have hpin : σ 500000 = .pointer (some ⟨b, 0, none⟩) := h.pin 500000 _ (show (if (500000 : Nat) = 500000 then some (Value.pointer (some ⟨b, 0, none⟩)) else none) = _ from if_pos rfl)
    rw [hpin] at hσ'
    simp only [Value.pointer.injEq, jc, Addr.mk.injEq, and_true] at hσ'
    subst hσ'
    have hkl : (∀ j, j ∈ l0 → ∃ Ga, s.heap j = some Ga) ∧ (if vw then Sa w' (OO (fun c => O c ∨ c ∈ b :: (F0 ++ F2)) s φ) τ' x' cur'.toList ∧ l0 = [] else Ub w' τ' x' cur'.toList (Ea φ l0)) := by
     cases vw with
     | true =>
      simp only [cond_true] at hx'
      split at hx'
      ·rename_i y hy
       simp only [jc, jh] at hx'
       obtain ⟨rfl, rfl⟩ := hx'
       exact ⟨by simp, by simp only [if_true]; exact ⟨(Pg hy).2 _ hr0, trivial⟩⟩
      ·simp at hx'
     | false =>
      simp only [cond_false] at hx'
      obtain ⟨g1, g2⟩ := Am h hx' hr0
      exact ⟨g2, by simpa using g1⟩
    obtain ⟨hlive0, hx1⟩ := hkl
    obtain ⟨vs, hvs, hru⟩ := AD hG.toEnvTy h hd
    obtain ⟨hR, hlive⟩ := TK h hr hru
    have hall : ∀ j, j ∈ 500000 :: (l0 ++ l) → ∃ Ga, s.heap j = some Ga := by
     intro j hj
     rcases jp.1 hj with rfl | hj
     ·exact ⟨_, hbx'⟩
     ·rcases jl.1 hj with hj | hj
      ·exact hlive0 j hj
      ·exact hlive j hj
    have hbk : Ea φ (500000 :: (l0 ++ l)) = b :: (Ea φ l0 ++ Ea φ l) := by
     have : Ea φ (500000 :: (l0 ++ l)) = φ 500000 ++ Ea φ (l0 ++ l) := by simp only [Ea, List.map_cons, List.flatten_cons]
     rw [this, hF', Kd]; rfl
    have hbn := Rf h hnd' hall
    rw [hbk] at hbn
    have hinOO : ∀ c, c ∈ Ea φ l0 ++ Ea φ l → OO (fun c => O c ∨ c ∈ b :: (F0 ++ F2)) s φ c := by
     intro c hc
     rw [← Kd] at hc
     obtain ⟨j, hj, hm'⟩ := Ib.1 hc
     obtain ⟨Ga, hbj⟩ := hall j (jr _ hj)
     exact .inr ⟨j, Ga, hbj, hm'⟩
    refine ⟨h.df, _, SE hvs, vs, cur', et', Ea φ l0, Ea φ l, rfl, ⟨h.fr.size, fun c hc hno => h.fr.block c hc hno, h.fr.os, h.fr.tape, h.fr.output⟩, hh', hsz', ?_, hR.mono ?_, hbn, ?_⟩
    ·cases vw with
     | true =>
      simp only [if_true] at hx1 ⊢
      refine ⟨hx1.1.weaken ?_, by rw [hx1.2]; simp [Ea]⟩
      rintro c (hc | hc | hc)
      ·exact .inl (.inl hc)
      ·exact .inl (.inr hc)
      ·exact hinOO c (List.mem_append_right _ hc)
     | false => simpa using hx1
    ·rintro c (hc | hc | hc | hc)
     ·exact .inl (.inl hc)
     ·exact .inl (.inr hc)
     ·exact hinOO c (List.mem_append_left _ hc)
     ·exact hinOO c (List.mem_append_right _ hc)
    ·intro c hcm
     have hcb : c ≠ b := by
      rintro rfl
      exact (List.nodup_cons.1 hbn).1 hcm
     rw [← Kd] at hcm
     obtain ⟨j, hj, hm'⟩ := Ib.1 hcm
     obtain ⟨Ga, hbj⟩ := hall j (jr _ hj)
     rcases h.fresh j Ga hbj c hm' with h1 | h1
     ·exact .inl h1
     ·have h1 : c ∈ b :: (F0 ++ F2) := h1
      rcases jp.1 h1 with h1 | h1
      ·exact absurd h1 hcb
      ·exact .inr h1
   ·simp at hk
  ·simp at hk
 cases e with
 | normal => exact Hh hk
 | ret => exact Hh hk
 | exit j => simp at hk
end
open Go Go.WideShapes
def Ew : (τ : Ty) → T τ → Prop
 | .i k, n => k.has n
 | .b, _ => True
 | .o, _ => True
 | .s, x => ja x ≤ Ii
 | .sl e, xs => ja xs ≤ Ii ∧ ∀ i (h : i < ja xs), Ew e (List.get xs ⟨i, h⟩)
 | .u, _ => True
 | .p x y, v => Ew x v.1 ∧ Ew y v.2
def Ty.pos : Ty → Bool
 | .sl e => e.pos && Nat.blt 0 e.size
 | .p x y => x.pos && y.pos
 | .o => false
 | _ => true
section
variable {H : Type} {enc : TypeId × Value → H} {P : Program} {w : World} {base : Nat} {spare : Nat → Bool} {held : Bool}
theorem En {τ : Ty} {t : TypeId} (h : Od P τ t = true) : P.cellsOf t = τ.size := by
 obtain ⟨i, h1, h2, _⟩ := Tok.size h
 simp [Program.cellsOf, h1, h2]
theorem Fae {k : IntKind} {n : Int} (h : (Lit.int k n).wf = true) : k.has n := by
 simpa [Lit.wf, IntKind.has] using h
theorem Sag {a : Addr} {n : Nat} (h : n ≠ 0) : a.add n = ⟨a.block, a.off + n, none⟩ := by
 simp [Addr.add, h]
theorem BI {a : Addr} {n : Nat} {cs : List Value} (h : w.cells? base a n = some cs) (hn : 0 < n) :
 ∃ cur et fr, a = ⟨a.block, a.off, none⟩ ∧ w.heap[a.block]? = some (.cells cur et fr) ∧ a.off + n ≤ cur.size ∧ cs = Ad cur a.off n := by
 unfold World.cells? at h
 split at h
 ·have hlen : cs.length = n := by simpa using mapM_some_length h
  have hget : ∀ i, i < n → w.cell? (a.add i) = cs[i]? := fun i hi => mapM_some_get h i i (by simp [hi])
  have h0 := hget 0 hn
  have ha : a.add 0 = a := by simp [Addr.add]
  rw [ha] at h0
  have hc0 : cs[0]? = some (cs[0]'(by omega)) := je (by omega)
  rw [hc0] at h0
  unfold World.cell? at h0
  split at h0
  ·rename_i cur et fr hb
   have hsp : a.spot = none := by
    cases hs : a.spot with
    | none => rfl
    | some x => simp [hs] at h0
   have hcell : ∀ i, i < n → cur[a.off + i]? = cs[i]? := by
    intro i hi
    have := hget i hi
    by_cases hi0 : i = 0
    ·subst hi0
     rw [ha] at this
     unfold World.cell? at this
     rw [hb] at this
     simpa [hsp] using this
    ·rw [Sag hi0] at this
     unfold World.cell? at this
     simp only at this
     rw [hb] at this
     simpa using this
   refine ⟨cur, et, fr, by cases a; simp_all, hb, ?_, ?_⟩
   ·have h1 := hcell (n - 1) (by omega)
    rw [je (by omega)] at h1
    have := (Array.getElem?_eq_some_iff.1 h1).1
    omega
   ·apply List.ext_getElem?
    intro i
    by_cases hi : i < n
    ·rw [Yd _ _ _ _ hi, hcell i hi]
    ·rw [List.getElem?_eq_none (by omega), List.getElem?_eq_none]
     simp [Ad]; omega
  ·simp at h0
 ·simp at h
theorem Wac {fs : List Field} {o : Nat} (h : Gf P .u fs o = true) : fs = [] := by
 cases fs <;> simp_all [Gf]
theorem TU {x y : Ty} {fs : List Field} {o : Nat} (h : Gf P (.p x y) fs o = true) : ∃ f r, fs = f :: r ∧ f.offset = o ∧ Od P x f.type = true ∧ Gf P y r (o + x.size) = true := by
 cases fs with
 | nil => simp [Gf] at h
 | cons f r =>
  simp only [Gf, jd] at h
  exact ⟨f, r, rfl, ju h.1.1.1, h.1.2, h.2⟩
theorem VT {x y : Ty} {t : TypeId} (h : Od P (.p x y) t = true) : ∃ fs, P.underlying t = some (.struct fs) ∧ Gf P (.p x y) fs.toList 0 = true := by
 simp only [Od, jd] at h
 obtain ⟨_, h⟩ := h
 split at h
 ·rename_i fs hfs
  refine ⟨fs, hfs, ?_⟩
  split at h
  ·rename_i f r hr
   rw [hr]
   simpa [Gf] using h
  ·simp at h
 ·simp at h
theorem WT {t : TypeId} (h : Od P .u t = true) : ∃ fs, P.underlying t = some (.struct fs) ∧ fs.size = 0 := by
 simp only [Od, jd] at h
 obtain ⟨_, h⟩ := h
 split at h
 ·rename_i fs hfs
  exact ⟨fs, hfs, ju h⟩
 ·simp at h
mutual
theorem UJ (hO : ∀ b, ¬ (fun _ : Nat => False) b) : ∀ (τ : Ty) (t : TypeId) (n : Nat) (cs : List Value) (x : DataW H × List MemPlace), Od P τ t = true → τ.pos = true →
 DataW.trod enc P w base spare held n t cs = some x → ∃ y : T τ, Sa w (fun _ => False) τ y cs ∧ Ew τ y
 | .i k, t, n, cs, x, ht, _, h => by
  obtain ⟨m, h1, _, h2⟩ := DataW.trod_int (Tok.i ht) h
  exact ⟨m, h1, Fae h2⟩
 | .b, t, n, cs, x, ht, _, h => by
  obtain ⟨m, h1, _⟩ := DataW.trod_bool (Tok.b ht) h
  exact ⟨m, h1, trivial⟩
 | .o, t, n, cs, x, ht, hp, h => by simp [Ty.pos] at hp
 | .s, t, n, cs, x, ht, _, h => by
  obtain ⟨m, h1, _, h2⟩ := DataW.trod_string (Tok.s ht) h
  refine ⟨m.data.toList, ?_, ?_⟩
  ·show cs = [.string ⟨List.toArray m.data.toList⟩]
   rw [h1]
  ·show m.data.toList.length ≤ Ii
   have : m.size = m.data.toList.length := Array.length_toList.symm
   unfold maxLen at h2
   unfold Ii
   omega
 | .sl e, t, n, cs, x, ht, hp, h => by
  obtain ⟨et, hu, he⟩ := Tok.sl ht
  simp only [Ty.pos, jd] at hp
  have hpos : 0 < e.size := by simpa using hp.2
  rcases DataW.trod_slice hu h with ⟨h1, _⟩ | ⟨a, len, cap, elems, rest, m, _, h1, _, _, h2, h3, h4, h5, _, _⟩
  ·exact ⟨([] : List (T e)), ⟨none, 0, h1, jo _, Nat.zero_le _, .inl rfl⟩, ⟨Nat.zero_le _, fun i hi => absurd hi (Nat.not_lt_zero i)⟩⟩
  ·rw [En he] at h5
   have hone : ∀ i, i < len → ∃ y : T e, ∃ cs', w.cells? base (a.add (i * e.size)) e.size = some cs' ∧ Sa w (fun _ => False) e y cs' ∧ Ew e y := by
    intro i hi
    have := h5 i hi
    rw [je (by omega), qe] at this
    obtain ⟨cs', hc, hy⟩ := this
    obtain ⟨y, hv, hr⟩ := UJ hO e et m cs' _ he hp.1 hy
    exact ⟨y, cs', hc, hv, hr⟩
   let ys : List (T e) := List.ofFn fun i : Fin len => Classical.choose (hone i.1 i.2)
   have hlen : ys.length = len := by simp [ys]
   have hy : ∀ i (h : i < ys.length), ∃ cs', w.cells? base (a.add (i * e.size)) e.size = some cs' ∧ Sa w (fun _ => False) e (ys.get ⟨i, h⟩) cs' ∧ Ew e (ys.get ⟨i, h⟩) := by
    intro i hi
    have := Classical.choose_spec (hone i (by omega))
    simpa [ys] using this
   have hmax : len ≤ Ii := by unfold maxLen at h3; unfold Ii; omega
   refine ⟨ys, ⟨some a, cap, by rw [h1, hlen], by rw [hlen]; exact h2, by rw [hlen]; exact hmax, ?_⟩, by rw [hlen]; exact hmax, fun i hi => (hy i hi).choose_spec.2.2⟩
   by_cases hl0 : len = 0
   ·left
    exact List.eq_nil_of_length_eq_zero (by omega)
   ·right
    obtain ⟨cs0, hc0, _⟩ := hy 0 (by omega)
    have ha0 : a.add (0 * e.size) = a := by simp [Addr.add]
    rw [ha0] at hc0
    obtain ⟨cur, et', fr, ha, hb, _, _⟩ := BI hc0 hpos
    have hadd : ∀ i, (a.add (i * e.size)).block = a.block ∧ (a.add (i * e.size)).off = a.off + i * e.size := by
     intro i
     unfold Addr.add
     split
     ·rename_i hz; simp [hz]
     ·exact ⟨rfl, rfl⟩
    refine ⟨a.block, a.off, cur, et', fr, by rw [← ha], fun h => h, hb, ?_, ?_⟩
    ·obtain ⟨cs1, hc1, _⟩ := hy (len - 1) (by omega)
     obtain ⟨cur1, et1, fr1, _, hb1, hs1, _⟩ := BI hc1 hpos
     rw [(hadd _).1, hb] at hb1
     simp only [jc, Obj.cells.injEq] at hb1
     rw [(hadd _).2, ← hb1.1] at hs1
     have : len * e.size = (len - 1) * e.size + e.size := by
      rw [← Nat.succ_mul]; congr 1; omega
     show a.off + ys.length * e.size ≤ cur.size
     rw [hlen]
     omega
    ·intro i hi
     obtain ⟨cs1, hc1, hv, _⟩ := hy i hi
     obtain ⟨cur1, et1, fr1, _, hb1, _, hs1⟩ := BI hc1 hpos
     rw [(hadd _).1, hb] at hb1
     simp only [jc, Obj.cells.injEq] at hb1
     rw [(hadd _).2, ← hb1.1] at hs1
     rw [← hs1]
     exact hv
 | .u, t, n, cs, x, ht, _, h => by
  obtain ⟨fs, hu, hz⟩ := WT ht
  obtain ⟨xs, m, _, _, hl, _⟩ := DataW.trod_struct hu h
  rw [En ht] at hl
  exact ⟨(), List.eq_nil_of_length_eq_zero hl, trivial⟩
 | .p a c2, t, n, cs, x, ht, hp, h => by
  obtain ⟨fs, hu, hf⟩ := VT ht
  obtain ⟨xs, m, _, _, hl, _, hget⟩ := DataW.trod_struct hu h
  rw [En ht] at hl
  have := GL hO (.p a c2) fs.toList 0 m cs hf hp (by simpa using hl) (by
   intro i f hi
   have := hget i f (by simpa using hi)
   have hlt : i < xs.length := by
    have : i < fs.toList.length := (List.getElem?_eq_some_iff.1 hi).1
    simp at this; omega
   exact ⟨_, this.trans (je hlt)⟩)
  simpa using this
termination_by τ => (sizeOf τ, 1)
theorem GL (hO : ∀ b, ¬ (fun _ : Nat => False) b) : ∀ (τ : Ty) (fs : List Field) (o m : Nat) (cs : List Value), Gf P τ fs o = true → τ.pos = true → cs.length = o + τ.size →
 (∀ (i : Nat) (f : Field), fs[i]? = some f → ∃ x, DataW.trod enc P w base spare held m f.type ((cs.drop f.offset).take (P.cellsOf f.type)) = some x) →
 ∃ y : T τ, Sa w (fun _ => False) τ y (cs.drop o) ∧ Ew τ y
 | .p a c2, fs, o, m, cs, hf, hp, hl, hx => by
  obtain ⟨f, r, rfl, ho, ht, hr⟩ := TU hf
  simp only [Ty.pos, jd] at hp
  simp only [Ty.size] at hl
  obtain ⟨z, hz⟩ := hx 0 f rfl
  rw [En ht, ho] at hz
  obtain ⟨y1, hv1, hr1⟩ := UJ hO a f.type m _ z ht hp.1 hz
  obtain ⟨y2, hv2, hr2⟩ := GL hO c2 r (o + a.size) m cs hr hp.2 (by omega) (fun i f' hi => hx (i + 1) f' (by simpa using hi))
  refine ⟨(y1, y2), ⟨(cs.drop o).take a.size, cs.drop (o + a.size), ?_, hv1, hv2⟩, hr1, hr2⟩
  rw [← List.drop_drop, List.take_append_drop]
 | .u, fs, o, m, cs, _, _, hl, _ => ⟨(), by simp only [Sa, Ty.size] at hl ⊢; exact List.drop_of_length_le (by omega), trivial⟩
 | .i _, fs, o, m, cs, hf, _, _, _ => by simp [Gf] at hf
 | .b, fs, o, m, cs, hf, _, _, _ => by simp [Gf] at hf
 | .o, fs, o, m, cs, hf, _, _, _ => by simp [Gf] at hf
 | .s, fs, o, m, cs, hf, _, _, _ => by simp [Gf] at hf
 | .sl _, fs, o, m, cs, hf, _, _, _ => by simp [Gf] at hf
termination_by τ => (sizeOf τ, 0)
end
end
open Go Go.WideShapes Go.ChangeShapes
def Hk (P : Program) : Ty → List TypeId → Bool
 | .p x y, t :: ts => Od P x t && x.pos && Hk P y ts
 | .u, [] => true
 | _, _ => false
section
variable {H : Type} {enc : TypeId × Value → H} {P : Program} {w : World} {base : Nat} {spare : Nat → Bool} {held : Bool}
theorem B4 {τ : Ty} {t : TypeId} {v : Value} {r : Reach} {b0 : Nat} (ht : Od P τ t = true) (h : Value.okWide P w r b0 t v) : v = Ed τ v.cells.toList := by
 have key : ∀ {τ : Ty}, τ.isAgg = false → v.cells = #[v] → v = Ed τ v.cells.toList := by
  intro τ h1 h2
  rw [h2]; simp [Ed, h1]
 cases τ with
 | i k =>
  obtain ⟨n, rfl⟩ := okWide_int (Tok.i ht) h
  exact key rfl rfl
 | b =>
  obtain ⟨n, rfl⟩ := okWide_bool (Tok.b ht) h
  exact key rfl rfl
 | o =>
  refine key rfl ?_
  obtain ⟨et, hu⟩ := Tok.o ht
  unfold Value.okWide at h
  rw [hu] at h
  cases v with
  | agg cs => simp [Cell.okWide, Cell.ok, hu] at h
  | _ => rfl
 | s =>
  refine key rfl ?_
  have hu := Tok.s ht
  unfold Value.okWide at h
  rw [hu] at h
  cases v with
  | agg cs => simp [Cell.okWide, Cell.ok, hu] at h
  | _ => rfl
 | sl e =>
  refine key rfl ?_
  obtain ⟨et, hu, _⟩ := Tok.sl ht
  unfold Value.okWide at h
  rw [hu] at h
  cases v with
  | agg cs => simp [Cell.okWide, Cell.ok, hu] at h
  | _ => rfl
 | u =>
  obtain ⟨fs, hu, _⟩ := WT ht
  obtain ⟨cs, rfl, _⟩ := okWide_struct hu h
  simp [Ed, Ty.isAgg, Value.cells]
 | p x y =>
  obtain ⟨fs, hu, _⟩ := VT ht
  obtain ⟨cs, rfl, _⟩ := okWide_struct hu h
  simp [Ed, Ty.isAgg, Value.cells]
theorem TJ : ∀ {pt : Ty} {ts : List TypeId} {vs : List Value} {ds : List (DataW H)} {ps : List MemPlace}, Hk P pt ts = true → DataW.TrodAll enc P w 0 spare held ts vs ds ps →
 (∀ (j : Nat) t v, ts[j]? = some t → vs[j]? = some v → Value.okWide P w .any base t v) → ∃ x : T pt, Eg w (fun _ => False) pt x vs ∧ Ew pt x
 | .p x y, t :: ts, v :: vs, d :: ds, ps, hp, h, hv => by
  simp only [Hk, jd] at hp
  obtain ⟨p, q, ⟨n, h1⟩, h2, _⟩ := h
  obtain ⟨a, ha, hra⟩ := UJ (fun _ h => h) x t n _ _ hp.1.1 hp.1.2 h1
  obtain ⟨b, hb, hrb⟩ := TJ hp.2 h2 fun j t' v' h1 h2 => hv (j + 1) t' v' (by simpa using h1) (by simpa using h2)
  exact ⟨(a, b), ⟨⟨_, B4 hp.1.1 (hv 0 t v rfl rfl), ha⟩, hb⟩, hra, hrb⟩
 | .u, [], [], [], _, _, _, _ => ⟨(), trivial, trivial⟩
 | .p _ _, [], _, _, _, hp, _, _ => by simp [Hk] at hp
 | .u, _ :: _, _, _, _, hp, _, _ => by simp [Hk] at hp
 | .i _, _, _, _, _, hp, _, _ => by simp [Hk] at hp
 | .b, _, _, _, _, hp, _, _ => by simp [Hk] at hp
 | .o, _, _, _, _, hp, _, _ => by simp [Hk] at hp
 | .s, _, _, _, _, hp, _, _ => by simp [Hk] at hp
 | .sl _, _, _, _, _, hp, _, _ => by simp [Hk] at hp
 | .p _ _, _ :: _, [], _, _, _, h, _ => by simp [DataW.TrodAll] at h
 | .p _ _, _ :: _, _ :: _, [], _, _, h, _ => by simp [DataW.TrodAll] at h
 | .u, [], _ :: _, _, _, _, h, _ => by simp [DataW.TrodAll] at h
 | .u, [], [], _ :: _, _, _, h, _ => by simp [DataW.TrodAll] at h
def ZJ (P : Program) (t : TypeId) : Prop := ∃ τ : Ty, Od P τ t = true ∧ τ.pos = true
theorem UU : ∀ {τ : Ty} {fs : List Field} {o : Nat}, Gf P τ fs o = true → τ.pos = true →
 (∀ f ∈ fs, ZJ P f.type) ∧ τ.size = (fs.map fun f => P.cellsOf f.type).sum ∧ ∀ (j : Nat) f, fs[j]? = some f → f.offset = o + ((fs.take j).map fun f => P.cellsOf f.type).sum
 | .u, fs, o, h, _ => by
  rw [Wac h]
  simp [Ty.size]
 | .p x y, fs, o, h, hp => by
  obtain ⟨f, r, rfl, ho, ht, hr⟩ := TU h
  simp only [Ty.pos, jd] at hp
  obtain ⟨h1, h2, h3⟩ := UU hr hp.2
  refine ⟨?_, ?_, ?_⟩
  ·intro g hg
   rcases jp.1 hg with rfl | hg
   ·exact ⟨x, ht, hp.1⟩
   ·exact h1 g hg
  ·simp [Ty.size, En ht, h2]
  ·intro j g hj
   cases j with
   | zero => simp at hj; subst hj; simp [ho]
   | succ j =>
    have := h3 j g (by simpa using hj)
    simp [this, En ht, jt]
 | .i _, fs, o, h, _ => by simp [Gf] at h
 | .b, fs, o, h, _ => by simp [Gf] at h
 | .o, fs, o, h, _ => by simp [Gf] at h
 | .s, fs, o, h, _ => by simp [Gf] at h
 | .sl _, fs, o, h, _ => by simp [Gf] at h
theorem SA {t : TypeId} {u : TypeDesc} (h : ZJ P t) (hu : P.underlying t = some u) : (∃ k, u = .int k) ∨ u = .bool ∨ u = .string ∨ (∃ e, u = .slice e ∧ ZJ P e ∧ 0 < P.cellsOf e) ∨ ∃ fs, u = .struct fs := by
 obtain ⟨τ, ht, hp⟩ := h
 cases τ with
 | i k => rw [Tok.i ht] at hu; exact .inl ⟨k, (Option.some.inj hu).symm⟩
 | b => rw [Tok.b ht] at hu; exact .inr (.inl (Option.some.inj hu).symm)
 | o => simp [Ty.pos] at hp
 | s => rw [Tok.s ht] at hu; exact .inr (.inr (.inl (Option.some.inj hu).symm))
 | sl e =>
  obtain ⟨et, h1, h2⟩ := Tok.sl ht
  rw [h1] at hu
  simp only [Ty.pos, jd] at hp
  exact .inr (.inr (.inr (.inl ⟨et, (Option.some.inj hu).symm, ⟨e, h2, hp.1⟩, by rw [En h2]; simpa using hp.2⟩)))
 | u => obtain ⟨fs, h1, _⟩ := WT ht; rw [h1] at hu; exact .inr (.inr (.inr (.inr ⟨fs, (Option.some.inj hu).symm⟩)))
 | p x y => obtain ⟨fs, h1, _⟩ := VT ht; rw [h1] at hu; exact .inr (.inr (.inr (.inr ⟨fs, (Option.some.inj hu).symm⟩)))
theorem N2 : Kids P (ZJ P) := by
 refine ⟨?_, ?_, ?_, ?_, ?_⟩
 ·intro t e ht hu
  rcases SA ht hu with ⟨k, h⟩ | h | h | ⟨e', h, _⟩ | ⟨fs, h⟩ <;> simp at h
 ·intro t e ht hu
  rcases SA ht hu with ⟨k, h⟩ | h | h | ⟨e', h, h2, _⟩ | ⟨fs, h⟩ <;> simp at h
  rw [h]; exact h2
 ·intro t e n ht hu
  rcases SA ht hu with ⟨k, h⟩ | h | h | ⟨e', h, _⟩ | ⟨fs, h⟩ <;> simp at h
 ·intro t fs ht hu
  obtain ⟨τ, ht, hp⟩ := ht
  cases τ with
  | i k => rw [Tok.i ht] at hu; simp at hu
  | b => rw [Tok.b ht] at hu; simp at hu
  | o => simp [Ty.pos] at hp
  | s => rw [Tok.s ht] at hu; simp at hu
  | sl e => obtain ⟨et, h1, _⟩ := Tok.sl ht; rw [h1] at hu; simp at hu
  | u =>
   obtain ⟨fs', h1, h2⟩ := WT ht
   rw [h1] at hu
   simp only [jc, TypeDesc.struct.injEq] at hu
   subst hu
   have : fs'.toList = [] := by simpa using h2
   rw [En ht, this]
   simp [Ty.size]
  | p x y =>
   obtain ⟨fs', h1, h2⟩ := VT ht
   rw [h1] at hu
   simp only [jc, TypeDesc.struct.injEq] at hu
   subst hu
   obtain ⟨a, b, c⟩ := UU h2 hp
   exact ⟨a, by rw [En ht, b], fun j f hj => by simpa using c j f hj⟩
 ·intro t k e ht hu
  rcases SA ht hu with ⟨k, h⟩ | h | h | ⟨e', h, _⟩ | ⟨fs, h⟩ <;> simp at h
theorem RL : ∀ {pt : Ty} {ts : List TypeId}, Hk P pt ts = true → ∀ t ∈ ts, ZJ P t
 | .p x y, t :: ts, h, t', ht => by
  simp only [Hk, jd] at h
  rcases jp.1 ht with rfl | ht
  ·exact ⟨x, h.1.1, h.1.2⟩
  ·exact RL h.2 t' ht
 | .u, [], _, _, ht => by simp at ht
 | .p _ _, [], _, _, ht => by simp at ht
 | .u, _ :: _, h, _, _ => by simp [Hk] at h
 | .i _, _, h, _, _ => by simp [Hk] at h
 | .b, _, h, _, _ => by simp [Hk] at h
 | .o, _, h, _, _ => by simp [Hk] at h
 | .s, _, h, _, _ => by simp [Hk] at h
 | .sl _, _, h, _, _ => by simp [Hk] at h
theorem NH {w' : World} {sp' : Nat → Bool} : ∀ {ts : List TypeId} {vs : List Value} {ds : List (DataW H)} {ps : List MemPlace}, (∀ t ∈ ts, ZJ P t) →
 DataW.TrodAll enc P w 0 (fun _ => true) true ts vs ds ps → (∀ p ∈ ps, w.sameAt w' p) → (∀ p ∈ ps, sp' p.block = true) → DataW.TrodAll enc P w' 0 sp' true ts vs ds ps
 | [], [], [], _, _, h, _, _ => h
 | t :: ts, v :: vs, d :: ds, ps, hp, h, h1, h2 => by
  obtain ⟨p, q, ⟨n, ha⟩, hb, rfl⟩ := h
  refine ⟨p, q, ⟨n, DataW.trod_stays N2 ?_ (fun h => by simp at h) (hp t (by simp)) ha (fun z hz => h1 z (List.mem_append_left _ hz)) (fun z hz => h2 z (List.mem_append_left _ hz))⟩,
   NH (fun t ht => hp t (by simp [ht])) hb (fun z hz => h1 z (List.mem_append_right _ hz)) (fun z hz => h2 z (List.mem_append_right _ hz)), rfl⟩
  intro t e ht hu
  rcases SA ht hu with ⟨k, h⟩ | h | h | ⟨e', h, _, h2⟩ | ⟨fs, h⟩ <;> simp at h
  rw [h]; exact h2
 | [], _ :: _, _, _, _, h, _, _ => by simp [DataW.TrodAll] at h
 | [], [], _ :: _, _, _, h, _, _ => by simp [DataW.TrodAll] at h
 | _ :: _, [], _, _, _, h, _, _ => by simp [DataW.TrodAll] at h
 | _ :: _, _ :: _, [], _, _, h, _, _ => by simp [DataW.TrodAll] at h
theorem UL : ∀ {ts : List TypeId} {vs : List Value} {ds : List (DataW H)} {ps : List MemPlace}, DataW.TrodAll enc P w base spare held ts vs ds ps → ds.length = ts.length
 | [], [], [], _, _ => rfl
 | _ :: _, _ :: _, _ :: _, _, h => by
  obtain ⟨_, _, _, h, _⟩ := h
  simp [UL h]
 | [], _ :: _, _, _, h => by simp [DataW.TrodAll] at h
 | [], [], _ :: _, _, h => by simp [DataW.TrodAll] at h
 | _ :: _, [], _, _, h => by simp [DataW.TrodAll] at h
 | _ :: _, _ :: _, [], _, h => by simp [DataW.TrodAll] at h
theorem Yy.but {w w' : World} (h : Yy w w' fun _ => False) (may : MemPlace → Prop) : w.keptBut w' may := by
 refine ⟨h.os, h.output, fun i hi => ?_⟩
 rw [h.block i hi (fun h => h)]
 cases w.heap[i]? with
 | none => rfl
 | some o =>
  cases o with
  | cells c t fr => exact ⟨rfl, rfl, rfl, fun _ _ => rfl⟩
  | map es clock => exact .inr ⟨rfl, rfl⟩
  | _ => rfl
end
noncomputable def Za {X R : Type} (step : X → Option (X ⊕ R)) (x : X) : Option R :=
 open Classical in if h : ∃ m y, WA step m x y then some h.choose_spec.choose else none
theorem WA.det {X R : Type} {step : X → Option (X ⊕ R)} : ∀ {m n : Nat} {x : X} {y z : R}, WA step m x y → WA step n x z → y = z
 | 0, _, _, _, _, h, _ => h.elim
 | _ + 1, 0, _, _, _, _, h => h.elim
 | m + 1, n + 1, x, y, z, h, h' => by
  rcases h with h | ⟨x1, h, h1⟩ <;> rcases h' with h' | ⟨x2, h', h2⟩
  ·rw [h] at h'; simpa using h'
  ·rw [h] at h'; simp at h'
  ·rw [h] at h'; simp at h'
  ·rw [h] at h'
   simp only [jc, Sum.inl.injEq] at h'
   subst h'
   exact WA.det h1 h2
theorem AE {X R : Type} {step : X → Option (X ⊕ R)} {x : X} {y : R} : Za step x = some y ↔ ∃ m, WA step m x y := by
 unfold Za
 constructor
 ·intro h
  split at h
  ·rename_i hh
   simp only [jc] at h
   exact ⟨_, h ▸ hh.choose_spec.choose_spec⟩
  ·simp at h
 ·rintro ⟨m, h⟩
  have hh : ∃ m y, WA step m x y := ⟨m, y, h⟩
  rw [dif_pos hh]
  exact congrArg some (WA.det hh.choose_spec.choose_spec h)
theorem Gv {X R : Type} {step : X → Option (X ⊕ R)} (x : X) : Za step x = (step x).bind (j6 (Za step) some) := by
 apply Option.ext
 intro y
 rw [AE]
 constructor
 ·rintro ⟨m, h⟩
  cases m with
  | zero => exact h.elim
  | succ m =>
   rcases h with h | ⟨x', h, h'⟩
   ·simp [h]
   ·simp [h, AE.2 ⟨m, h'⟩]
 ·intro h
  rw [qe] at h
  obtain ⟨z, hz, h⟩ := h
  cases z with
  | inl x' =>
   obtain ⟨m, hm⟩ := AE.1 h
   exact ⟨m + 1, .inr ⟨x', hz, hm⟩⟩
  | inr z =>
   simp only [Sum.elim_inr, jc] at h
   subst h
   exact ⟨1, .inl hz⟩
def lp (fn : Func) (i : Nat) : Code := (Vd (fn.body.getD .skip)).getD i .skip
theorem TR {G : Le} {L : List (Nat × Ra)} {fn : Func} {i r : Nat} {ls : Ra} {R : ls.inT.X → Option (ls.inT.X ⊕ (ls.outT.X ⊕ ls.retT.X))}
 (h1 : Zi (lp fn i) = some r) (h2 : (Lb L r) = some ls) (h3 : ls.F = Za R) (h4 : ∀ x, EE G L ls (lp fn i) x = R x) : Cb G L (lp fn i) := by
 intro r' ls' hr hl x y hy
 rw [h1] at hr
 simp only [jc] at hr
 subst hr
 rw [h2] at hl
 simp only [jc] at hl
 subst hl
 rw [h3] at hy
 obtain ⟨m, hm⟩ := AE.1 hy
 have : EE G L ls (lp fn i) = R := funext h4
 rw [this]
 exact ⟨m, hm⟩
theorem AJ {G : Le} {L : List (Nat × Ra)} {fn : Func} {k : Nat} (hk : Nat.beq (Vd (fn.body.getD .skip)).length k = true) (h : ∀ i, i < k → Cb G L (lp fn i)) :
 ∀ b, b ∈ Vd (fn.body.getD .skip) → Cb G L b := by
 intro b hb
 obtain ⟨i, hi, rfl⟩ := List.mem_iff_getElem.1 hb
 have := h i (by rw [← ju hk]; exact hi)
 unfold lp at this
 rwa [qh, je hi] at this
theorem Oa {p : Nat → Prop} : ∀ i, i < 0 → p i := fun i h => absurd h (Nat.not_lt_zero i)
theorem La {p : Nat → Prop} {k : Nat} (h : p k) (hr : ∀ i, i < k → p i) : ∀ i, i < k + 1 → p i := by
 intro i hi
 rcases Nat.lt_or_eq_of_le (Nat.lt_succ_iff.1 hi) with hi | rfl
 ·exact hr i hi
 ·exact h
section
variable {P : Program}
theorem V8 {l : List (Nat × Ty)} {fs : List (Nat × Na)} {m : List (Nat × Nat)} {z : Bool} {ar : List (Nat × Ty × Nat)} {mv ml : List Nat}
 (h : ((l.all fun x => Od P x.2 x.1) && (ar.all fun x => DM P x.1 x.2.1 x.2.2)) = true) : EnvTy P ⟨l, fs, m, z, ar, mv, ml⟩ := by
 simp only [jd] at h
 exact ⟨fun t τ ht => List.all_eq_true.1 h.1 (t, τ) (Tt ht), fun t e n ht => List.all_eq_true.1 h.2 (t, e, n) (Tt ht)⟩
theorem NR {I : Cg} {l : List (Nat × Ty)} {m : List (Nat × Nat)} {z : Bool} {ar : List (Nat × Ty × Nat)} {mv ml : List Nat}
 (h : ((l.all fun x => Od P x.2 x.1) && (ar.all fun x => DM P x.1 x.2.1 x.2.2)) = true) : Ij P I ⟨l, [], m, z, ar, mv, ml⟩ :=
 { toEnvTy := V8 h, fn := fun f sem h => by simp [Lb] at h }
theorem Ij.cons {I : Cg} {l : List (Nat × Ty)} {fs : List (Nat × Na)} {m : List (Nat × Nat)} {z : Bool} {ar : List (Nat × Ty × Nat)} {mv ml : List Nat} {f : Nat} {sem : Na} (hs : Mh P I f sem)
 (h : Ij P I ⟨l, fs, m, z, ar, mv, ml⟩) : Ij P I ⟨l, (f, sem) :: fs, m, z, ar, mv, ml⟩ :=
 { toEnvTy := ⟨h.ty, h.ar⟩, fn := fun g s hg => by
    simp only [Nc] at hg
    split at hg
    ·rename_i e
     simp only [jc] at hg
     subst e; subst hg
     exact hs
    ·exact h.fn g s hg }
theorem ZH {fn : Func} (h : fn.body.isSome = true) : fn.body = some (fn.body.getD .skip) := by
 cases hb : fn.body with
 | none => rw [hb] at h; simp at h
 | some c => rfl
variable {I : Cg} {G : Le} {L : List (Nat × Ra)}
theorem LJ (hG : Ij P I G) (hm : P.follows .mixedOrders = true) {f : FuncId} {fn : Func} {k : Nat} {pt rt : Ty} {fr : List Bool} {F : T pt → Option (T rt)} (hf : P.funcs[f]? = some fn)
 (hb : (fn.body.isSome && !(fn.name == "runtime.NumGoroutine") && jx pt.npar fn.ntmps && Nat.beq (Vd (fn.body.getD .skip)).length k) = true)
 (hL : ∀ i, i < k → Cb G L (lp fn i)) (hF : ∀ x, Q4 G L fn pt rt fr x = F x) : Mh P I f (.pu pt rt fr F) := by
 simp only [jd, Bool.not_eq_true'] at hb
 exact Laa hG hm hf (ZH hb.1.1.1) hb.1.1.2 (AJ hb.2 hL) (Nat.le_of_ble_eq_true hb.1.2) fun x r h => (hF x).trans h
theorem C7 (hG : Ij P I G) (hfz : G.fz = false) (hm : P.follows .mixedOrders = true) {f : FuncId} {fn : Func} {k : Nat} {pt rt : Ty} {fr : List Bool} {F : T pt → Option (T rt)} (hf : P.funcs[f]? = some fn)
 (hb : (fn.body.isSome && !(fn.name == "runtime.NumGoroutine") && jx pt.npar fn.ntmps && Nat.beq (Vd (fn.body.getD .skip)).length k) = true)
 (hL : ∀ i, i < k → Cb G L (lp fn i)) (hF : ∀ x, ST G L fn pt rt fr x = F x) : Mh P I f (.co pt rt fr F) := by
 simp only [jd, Bool.not_eq_true'] at hb
 exact Kaa hG hfz hm hf (ZH hb.1.1.1) hb.1.1.2 (AJ hb.2 hL) (Nat.le_of_ble_eq_true hb.1.2) fun x r h => (hF x).trans h
theorem A7 (hG : Ij P I G) (hfz : G.fz = false) (hm : P.follows .mixedOrders = true) {f : FuncId} {fn : Func} {k : Nat} {vw cv : Bool} {τ pt rt : Ty} {fr : List Bool} {F : T τ → T pt → Option (T τ × T rt)} (hf : P.funcs[f]? = some fn)
 (hb : (fn.body.isSome && !(fn.name == "runtime.NumGoroutine") && jx (pt.npar + 1) fn.ntmps && Nat.beq (Vd (fn.body.getD .skip)).length k) = true)
 (hL : ∀ i, i < k → Cb G L (lp fn i)) (hF : ∀ x0 x, RT G L fn vw cv τ pt rt fr x0 x = F x0 x) : Mh P I f (.bx vw cv τ pt rt fr F) := by
 simp only [jd, Bool.not_eq_true'] at hb
 exact Jaa hG hfz hm hf (ZH hb.1.1.1) hb.1.1.2 (AJ hb.2 hL) (Nat.le_of_ble_eq_true hb.1.2) fun x0 x r h => (hF x0 x).trans h
end
abbrev Ze : Ty := .p (.i .i64) (.p (.sl (.i .i64)) .u)
abbrev Ld : Ty := .p (.i .i64) (.p .o .u)
def hd (h : T .o) : Value := .slice h.1 h.2.1 h.2.2
section
variable {P : Program} {w w' : World}
theorem W6 {x : T Ze} {cs : List Value} {F : List Nat} (h : Ub w Ze x cs F) : ∃ h : T .o, cs = [.int .i64 x.1, hd h] ∧ Ub w (.sl (.i .i64)) x.2.1 [hd h] F := by
 obtain ⟨c1, c2, F1, F2, rfl, rfl, ⟨rfl, rfl⟩, c3, c4, F3, F4, rfl, rfl, h3, rfl, rfl⟩ := h
 have h3' := h3
 obtain ⟨_, ⟨e1, _, _⟩ | ⟨bl, off, cap, cur, et, Fs, e1, _⟩⟩ := h3
 ·subst e1
  exact ⟨(none, 0, 0), rfl, by simpa [hd] using h3'⟩
 ·subst e1
  exact ⟨(some ⟨bl, off, none⟩, ja x.2.1, cap), rfl, by simpa [hd] using h3'⟩
theorem Aah {x : T Ze} {h : T .o} {F : List Nat} (ho : Ub w (.sl (.i .i64)) x.2.1 [hd h] F) : Ub w Ze x [.int .i64 x.1, hd h] F :=
 ⟨[.int .i64 x.1], [hd h], [], F, rfl, rfl, ⟨rfl, rfl⟩, [hd h], [], F, [], by simp, by simp, ho, rfl, rfl⟩
theorem QZ (x : T Ld) (O : Nat → Prop) : Sa w O Ld x [.int .i64 x.1, hd x.2.1] :=
 ⟨[.int .i64 x.1], [hd x.2.1], rfl, rfl, [hd x.2.1], [], by simp, rfl, rfl⟩
theorem KQ {x : T Ld} {O : Nat → Prop} {cs : List Value} (h : Sa w O Ld x cs) : cs = [.int .i64 x.1, hd x.2.1] := by
 obtain ⟨c1, c2, rfl, rfl, c3, c4, rfl, rfl, rfl⟩ := h
 rfl
abbrev AO := T Ze × T Ld × List Nat
def D1 (w : World) (p : AO) : Prop := p.2.1.1 = p.1.1 ∧ Ub w (.sl (.i .i64)) p.1.2.1 [hd p.2.1.2.1] p.2.2
theorem Daa {l : List (T Ze)} {cs : List Value} {F : List Nat} (h : Ub w (.sl Ze) l cs F) :
 ∃ Q : List AO, Q.map (·.1) = l ∧ Sa w (fun _ => False) (.sl Ld) (Q.map (·.2.1)) cs ∧ (∀ p ∈ Q, D1 w p) ∧ (Q.map (·.2.2)).flatten.Sublist F := by
 obtain ⟨hm, ⟨rfl, rfl, rfl⟩ | ⟨bl, off, cap, cur, et, Fs, rfl, hh, h1, h2, h3, rfl, hl, hv⟩⟩ := h
 ·exact ⟨[], rfl, ⟨none, 0, rfl, jo _, hm, .inl rfl⟩, by simp, by simp⟩
 ·have key : ∀ i : Fin (ja l), ∃ h : T .o, Ad cur (off + i.val * Ze.size) Ze.size = [.int .i64 (List.get l i).1, hd h] ∧ Ub w (.sl (.i .i64)) (List.get l i).2.1 [hd h] (Fs.getD i.val []) :=
   fun i => W6 (hv i.val i.isLt)
  have ⟨g, hg⟩ := Classical.axiomOfChoice key
  let Q : List AO := List.ofFn fun i : Fin (ja l) => (List.get l i, ((List.get l i).1, g i, ()), Fs.getD i.val [])
  have hQ : ∀ i (hi : i < ja l), Q[i]'(by simp [Q]; exact hi) = (List.get l ⟨i, hi⟩, ((List.get l ⟨i, hi⟩).1, g ⟨i, hi⟩, ()), Fs.getD i []) := fun i hi => by simp [Q]
  have hQl : Q.length = ja l := by simp [Q]
  refine ⟨Q, ?_, ?_, ?_, ?_⟩
  ·apply List.ext_getElem
   ·simp [hQl]
   ·intro i h1 h2
    rw [List.getElem_map, hQ i h2]; rfl
  ·have hlen : ja (Q.map (·.2.1)) = ja l := by simp [hQl]
   refine ⟨_, cap, by rw [hlen], by rw [hlen]; exact h1, by rw [hlen]; exact hm, .inr ⟨bl, off, cur, et, _, rfl, fun h => h, hh, ?_, fun i hi => ?_⟩⟩
   ·rw [hlen]
    have := jm Ze.size h1
    exact qa (Nat.add_le_add_left this _) h3
   ·have hi' : i < ja l := by rw [← hlen]; exact hi
    have e : List.get (Q.map (·.2.1)) ⟨i, hi⟩ = ((List.get l ⟨i, hi'⟩).1, g ⟨i, hi'⟩, ()) := by
     show (Q.map (·.2.1))[i] = _
     rw [List.getElem_map, hQ i hi']
    rw [e]
    have := (hg ⟨i, hi'⟩).1
    show Sa w _ Ld _ (Ad cur (off + i * Ze.size) Ze.size)
    rw [this]
    exact QZ (((List.get l ⟨i, hi'⟩).1, g ⟨i, hi'⟩, ()) : T Ld) _
  ·intro p hp
   obtain ⟨i, hi, rfl⟩ := qr hp
   have hi' : i < ja l := by rw [← hQl]; exact hi
   rw [hQ i hi']
   exact ⟨rfl, (hg ⟨i, hi'⟩).2⟩
  ·have e : Q.map (·.2.2) = Fs := by
    apply List.ext_getElem
    ·simp [hQl, hl]
    ·intro i h1 h2
     have hi' : i < ja l := by rw [← hl]; exact h2
     rw [List.getElem_map, hQ i hi']
     simp [List.getD, je h2]
   rw [e]
   exact List.sublist_cons_self _ _
theorem Maa {Q : List AO} {cs : List Value} {F : List Nat} (h : Ub w (.sl Ld) (Q.map (·.2.1)) cs F) (hQ : ∀ p ∈ Q, D1 w p) :
 ∃ F', Ub w (.sl Ze) (Q.map (·.1)) cs F' ∧ (∀ b, b ∈ F' → b ∈ F ∨ b ∈ (Q.map (·.2.2)).flatten) ∧ ((∀ b, b ∈ F → b ∉ (Q.map (·.2.2)).flatten) → F.Nodup → (Q.map (·.2.2)).flatten.Nodup → F'.Nodup) := by
 obtain ⟨hm, ⟨rfl, hn, rfl⟩ | ⟨bl, off, cap, cur, et, Fs, rfl, hh, h1, h2, h3, rfl, hl, hv⟩⟩ := h
 ·have : Q = [] := List.map_eq_nil_iff.1 hn
  subst this
  exact ⟨[], ⟨hm, .inl ⟨rfl, rfl, rfl⟩⟩, by simp, by simp⟩
 ·have hlen : ja (Q.map (·.2.1)) = Q.length := by simp
  have hlen1 : ja (Q.map (·.1)) = Q.length := by simp
  rw [hlen] at hm h1 hl
  refine ⟨bl :: (Q.map (·.2.2)).flatten, ⟨by rw [hlen1]; exact hm, .inr ⟨bl, off, cap, cur, et, Q.map (·.2.2), by rw [hlen1]; simp, hh, by rw [hlen1]; exact h1, h2, h3, rfl, by simp, fun i hi => ?_⟩⟩, ?_, ?_⟩
  ·have hi' : i < Q.length := by rw [← hlen1]; exact hi
   have hv' := hv i (by rw [hlen]; exact hi')
   have e0 : List.get (Q.map (·.2.1)) ⟨i, by rw [hlen]; exact hi'⟩ = Q[i].2.1 := by
    show (Q.map (·.2.1))[i]'_ = _
    rw [List.getElem_map]
   have e1 : List.get (Q.map (·.1)) ⟨i, hi⟩ = Q[i].1 := by
    show (Q.map (·.1))[i]'_ = _
    rw [List.getElem_map]
   rw [e0] at hv'
   rw [e1]
   have hF0 : ∀ b, b ∈ Fs.getD i [] → False := by
    intro b hb
    obtain ⟨c1, c2, F1, F2, _, hF, ⟨_, rfl⟩, c3, c4, F3, F4, _, rfl, ⟨_, rfl⟩, _, rfl⟩ := hv'
    rw [hF] at hb; simp at hb
   have hcs := KQ (Ub.view (O := fun _ => False) hv' (fun b hb h => h))
   have hok := hQ Q[i] (qp hi')
   have e2 : (Q.map (·.2.2)).getD i [] = Q[i].2.2 := by
    simp [List.getD, je hi']
   rw [e2]
   show Ub w Ze _ (Ad cur (off + i * Ld.size) Ld.size) _
   rw [hcs, hok.1]
   exact Aah hok.2
  ·intro b hb
   rcases jp.1 hb with rfl | hb
   ·exact .inl (by simp)
   ·exact .inr hb
  ·intro hdj _ hnd
   exact List.nodup_cons.2 ⟨hdj bl (by simp), hnd⟩
end
def Yp (same : T Ze → T Ze → Bool) : T Ze → List (T Ze) → List (T Ze)
 | _, [] => []
 | a, x :: r => cond (same a x) (Yp same x r) (x :: Yp same x r)
def IC (same : T Ze → T Ze → Bool) : T Ze → List AO → List AO
 | _, [] => []
 | a, x :: r => cond (same a x.1) (IC same x.1 r) (x :: IC same x.1 r)
def HG (c : T Ld → T Ld → Option Bool) : T Ld → List (T Ld) → Option (List (T Ld))
 | _, [] => some []
 | a, x :: r => jz (c a x) fun b => jz (HG c x r) fun q => some (cond b q (x :: q))
theorem IM (same : T Ze → T Ze → Bool) : ∀ (Q : List AO) (a : T Ze), (IC same a Q).map (·.1) = Yp same a (Q.map (·.1))
 | [], _ => rfl
 | x :: r, a => by
  simp only [IC, Yp, List.map_cons]
  cases same a x.1 with
  | true => simp only [cond_true]; exact IM same r x.1
  | false => simp only [cond_false, List.map_cons]; rw [IM same r x.1]
theorem JM (same : T Ze → T Ze → Bool) : ∀ (Q : List AO) (a : T Ze), (IC same a Q).Sublist Q
 | [], _ => .slnil
 | x :: r, a => by
  simp only [IC]
  cases same a x.1 with
  | true => exact (JM same r x.1).cons x
  | false => exact (JM same r x.1).cons_cons x
theorem MX {same : T Ze → T Ze → Bool} {c : T Ld → T Ld → Option Bool} {R : T Ze → T Ld → Prop} (hc : ∀ a ao b bo, R a ao → R b bo → c ao bo = some (same a b)) :
 ∀ (Q : List AO) (a : T Ze) (ao : T Ld), R a ao → (∀ p ∈ Q, R p.1 p.2.1) → HG c ao (Q.map (·.2.1)) = some ((IC same a Q).map (·.2.1))
 | [], _, _, _, _ => rfl
 | x :: r, a, ao, h, hq => by
  have hx := hq x (by simp)
  simp only [List.map_cons, HG, IC, hc _ _ _ _ h hx, jb]
  rw [MX hc r x.1 x.2.1 hx (fun p hp => hq p (by simp [hp]))]
  simp only [jb]
  cases same a x.1 <;> rfl
theorem CX {α : Type} {a b : List (List α)} (h : a.Sublist b) : a.flatten.Sublist b.flatten := by
 induction h with
 | slnil => simp
 | cons x _ ih => rw [List.flatten_cons]; exact ih.trans (List.sublist_append_right _ _)
 | cons_cons x _ ih => rw [List.flatten_cons, List.flatten_cons]; exact (List.Sublist.refl x).append ih
def BD (x : T Ze) : Bool := jx (ja x.2.1) Ab
noncomputable def X1 (same : T Ze → T Ze → Bool) (a : T Ze) (l : List (T Ze)) : Option (List (T Ze) × Unit) :=
 bif jx (ja l) Ab && (BD a && l.all BD) then some (Yp same a l, ()) else none
theorem Zac {w : World} {O O' : Nat → Prop} {xs ys : List Int} {v : Value} (h1 : Sa w O (.sl (.i .i64)) xs [v]) (h2 : Sa w O' (.sl (.i .i64)) ys [v]) : xs = ys := by
 obtain ⟨a, cap, e1, _, _, h1⟩ := h1
 obtain ⟨a', cap', e2, _, _, h2⟩ := h2
 rw [e1] at e2
 simp only [List.cons.injEq, Value.slice.injEq, and_true] at e2
 obtain ⟨rfl, hlen, rfl⟩ := e2
 have hlen' : xs.length = ys.length := hlen
 rcases h1 with h1 | ⟨bl, off, cur, et, fr, ha, _, hh, hs, hv⟩
 ·have h1' : xs = [] := h1
  subst h1'
  exact (List.eq_nil_of_length_eq_zero (by simpa using hlen'.symm)).symm
 ·rcases h2 with h2 | ⟨bl', off', cur', et', fr', ha', _, hh', hs', hv'⟩
  ·have h2' : ys = [] := h2
   subst h2'
   exact List.eq_nil_of_length_eq_zero (by simpa using hlen')
  ·rw [ha] at ha'
   simp only [jc, Addr.mk.injEq, and_true] at ha'
   obtain ⟨rfl, rfl⟩ := ha'
   rw [hh] at hh'
   simp only [jc] at hh'
   injection hh' with e3 _ _
   subst e3
   apply List.ext_getElem hlen'
   intro i h1 h2
   have p1 := hv i h1
   have p2 := hv' i h2
   have p1' : Ad cur (off + i * 1) 1 = [Value.int .i64 xs[i]] := p1
   have p2' : Ad cur (off + i * 1) 1 = [Value.int .i64 ys[i]] := p2
   rw [p1'] at p2'
   simpa using p2'
open Classical in
noncomputable def EI (w : World) (h : T .o) : Option (List Int) :=
 if hx : ∃ xs : List Int, Sa w (fun _ => False) (.sl (.i .i64)) xs [hd h] ∧ ja xs ≤ Ab then some hx.choose else none
theorem JR {w : World} {h : T .o} {xs : List Int} (hc : EI w h = some xs) : Sa w (fun _ => False) (.sl (.i .i64)) xs [hd h] ∧ ja xs ≤ Ab := by
 unfold EI at hc
 split at hc
 ·rename_i hx
  simp only [jc] at hc
  rw [← hc]; exact hx.choose_spec
 ·simp at hc
theorem OX {w : World} {h : T .o} {xs : List Int} (hv : Sa w (fun _ => False) (.sl (.i .i64)) xs [hd h]) (hl : ja xs ≤ Ab) : EI w h = some xs := by
 unfold EI
 have hx : ∃ xs : List Int, Sa w (fun _ => False) (.sl (.i .i64)) xs [hd h] ∧ ja xs ≤ Ab := ⟨xs, hv, hl⟩
 rw [dif_pos hx]
 rw [Zac hx.choose_spec.1 hv]
noncomputable def LU (w : World) (same : T Ze → T Ze → Bool) (a b : T Ld) : Option Bool :=
 jz (EI w a.2.1) fun u => jz (EI w b.2.1) fun v => some (same (a.1, u, ()) (b.1, v, ()))
@[reducible] noncomputable def YQ (c : T Ld → T Ld → Option Bool) : Na := .pu (.p Ld (.p Ld .u)) (.p .b .u) [true] (fun x => jz (c x.1 x.2.1) fun b => some (b, ()))
theorem O3 {w w2 : World} (h : ∀ b, b < w.heap.size → w2.heap[b]? = w.heap[b]?) {τ : Ty} {x : T τ} {cs : List Value} {O : Nat → Prop} (hv : Sa w O τ x cs) : Sa w2 O τ x cs :=
 Sa.stable (fun b _ hb => h b hb) (fun _ _ h => h) hv
theorem B7 {P : Program} {I0 : Cg} {f f2 : FuncId} {SR : T (.p Ze (.p Ze .u)) → Option (T (.p .b .u))} {same : T Ze → T Ze → Bool}
 (hSR : ∀ a b : T Ze, ja a.2.1 ≤ Ab → ja b.2.1 ≤ Ab → SR (a, b, ()) = some (same a b, ()))
 (h2 : Mh P I0 f2 (.pu (.p Ze (.p Ze .u)) (.p .b .u) [true] SR))
 (h : ∀ (I : Cg) (c : T Ld → T Ld → Option Bool), Mh P I f2 (YQ c) → ∃ FO, Mh P I f (.pu (.p Ld (.p (.sl Ld) .u)) (.p (.sl Ld) .u) [true] FO) ∧
  ∀ (a : T Ld) (l r : List (T Ld)), ja l ≤ Ab → HG c a l = some r → FO (a, l, ()) = some (r, ())) :
 Mh P I0 f (.co (.p Ze (.p (.sl Ze) .u)) (.p (.sl Ze) .u) [true] (fun x => X1 same x.1 x.2.1)) := by
 have hE : Xy P f := by
  have hS0 : Mh P I0 f2 (YQ fun _ _ => none) := ⟨h2.1, fun O w x r args hF => by simp at hF⟩
  obtain ⟨FO, hs, _⟩ := h I0 _ hS0
  exact hs.1
 refine ⟨hE, ?_⟩
 intro O w x r F0 args hF hA hnd hO hI hbase hF0
 obtain ⟨a, l, u⟩ := x
 match args, hA with
 | [a1, a2], hA =>
 obtain ⟨cs1, F1, F2', rfl, rfl, ho1, cs2, F2, F3, rfl, rfl, ho2, hF3⟩ := hA
 have hF3' : F3 = [] := hF3
 subst hF3'
 rw [List.append_nil] at *
 simp only [X1] at hF
 cases hsm : (jx (ja l) Ab && (BD a && l.all BD)) with
 | false => rw [hsm] at hF; simp at hF
 | true =>
 rw [hsm] at hF
 simp only [cond_true, jc] at hF
 subst hF
 simp only [jd, List.all_eq_true, BD] at hsm
 have hl1 : ja l ≤ Ab := Nat.le_of_ble_eq_true hsm.1
 have hl2 : ja a.2.1 ≤ Ab := Nat.le_of_ble_eq_true hsm.2.1
 have hl3 : ∀ x ∈ l, ja x.2.1 ≤ Ab := fun x hx => Nat.le_of_ble_eq_true (hsm.2.2 x hx)
 obtain ⟨ah, rfl, hoa⟩ := W6 ho1
 obtain ⟨Q, rfl, hvQ, hokQ, hsub⟩ := Daa ho2
 let I : Cg := ⟨w.heap.size, fun w2 => w.heap.size ≤ w2.heap.size ∧ ∀ b, b < w.heap.size → w2.heap[b]? = w.heap[b]?, fun w1 w2 hb h1 => by
  refine ⟨?_, fun b hlt => (hb b hlt).trans (h1.2 b hlt)⟩
  rcases Nat.eq_zero_or_pos w.heap.size with h0 | h0
  ·omega
  ·have e := (hb (w.heap.size - 1) (by omega)).trans (h1.2 (w.heap.size - 1) (by omega))
   rw [Array.getElem?_eq_getElem (show w.heap.size - 1 < w.heap.size by omega)] at e
   have := (Array.getElem?_eq_some_iff.1 e).1
   omega⟩
 have hS : Mh P I f2 (YQ (LU w same)) := by
  refine ⟨h2.1, ?_⟩
  intro O2 w2 x2 r2 args2 hF2 hA2 hO2 hI2 hb2
  obtain ⟨p, q, u2⟩ := x2
  match args2, hA2 with
  | [b1, b2], hA2 =>
  obtain ⟨⟨c1, rfl, hv1⟩, ⟨c2, rfl, hv2⟩, _⟩ := hA2
  simp only [LU] at hF2
  cases hu : EI w p.2.1 with
  | none => rw [hu] at hF2; simp at hF2
  | some xu =>
   cases hv : EI w q.2.1 with
   | none => rw [hu, hv] at hF2; simp at hF2
   | some xv =>
    rw [hu, hv] at hF2
    simp only [jb, jc] at hF2
    subst hF2
    obtain ⟨hxu, lxu⟩ := JR hu
    obtain ⟨hxv, lxv⟩ := JR hv
    have e1 := KQ hv1
    have e2 := KQ hv2
    subst e1; subst e2
    have mk : ∀ (p : T Ld) (xs : List Int), Sa w (fun _ => False) (.sl (.i .i64)) xs [hd p.2.1] → Sa w2 (fun _ => False) Ze (p.1, xs, ()) [.int .i64 p.1, hd p.2.1] := fun p xs hx =>
     ⟨[.int .i64 p.1], [hd p.2.1], rfl, rfl, [hd p.2.1], [], by simp, O3 hI2.2 hx, rfl⟩
    have hc := h2.2 (fun _ => False) w2 ((p.1, xu, ()), (q.1, xv, ()), ()) (same (p.1, xu, ()) (q.1, xv, ()), ()) [Ed Ld [.int .i64 p.1, hd p.2.1], Ed Ld [.int .i64 q.1, hd q.2.1]]
     (hSR _ _ lxu lxv) ⟨⟨_, rfl, mk p xu hxu⟩, ⟨_, rfl, mk q xv hxv⟩, trivial⟩ (fun b h => h.elim) (I0.st _ _ (fun b hb => hI2.2 b (qj hb hbase)) hI) (qa hbase hI2.1)
    refine hc.mono ?_
    intro e w3 hR
    cases e with
    | returned v =>
     obtain ⟨vs, Fr, hvs, hK, hR, hn, hfr⟩ := hR
     exact ⟨vs, Fr, hvs, hK, hR.all rfl, hn, hfr⟩
    | panicked _ => exact hR
    | outgrown => exact hR
 obtain ⟨FO, hs, hFO⟩ := h I (LU w same) hS
 have hrel : ∀ a ao b bo, (fun (x : T Ze) (y : T Ld) => y.1 = x.1 ∧ Sa w (fun _ => False) (.sl (.i .i64)) x.2.1 [hd y.2.1] ∧ ja x.2.1 ≤ Ab) a ao →
  (fun (x : T Ze) (y : T Ld) => y.1 = x.1 ∧ Sa w (fun _ => False) (.sl (.i .i64)) x.2.1 [hd y.2.1] ∧ ja x.2.1 ≤ Ab) b bo → LU w same ao bo = some (same a b) := by
  rintro a ao b bo ⟨e1, v1, l1⟩ ⟨e2, v2, l2⟩
  simp only [LU, OX v1 l1, OX v2 l2, jb, e1, e2]
 have hch := MX (R := fun (x : T Ze) (y : T Ld) => y.1 = x.1 ∧ Sa w (fun _ => False) (.sl (.i .i64)) x.2.1 [hd y.2.1] ∧ ja x.2.1 ≤ Ab) hrel Q a (a.1, ah, ())
  ⟨rfl, Ub.view hoa fun b _ h => h, hl2⟩ (fun p hp => ⟨(hokQ p hp).1, Ub.view (hokQ p hp).2 fun b _ h => h, hl3 p.1 (List.mem_map_of_mem hp)⟩)
 have hFO' := hFO (a.1, ah, ()) (Q.map (·.2.1)) _ (by simpa using hl1) hch
 have hc := hs.2 (fun _ => False) w ((a.1, ah, ()), Q.map (·.2.1), ()) ((IC same a Q).map (·.2.1), ()) [Ed Ld [.int .i64 a.1, hd ah], Ed (.sl Ld) cs2] hFO'
  ⟨⟨_, rfl, QZ ((a.1, ah, ()) : T Ld) _⟩, ⟨_, rfl, hvQ⟩, trivial⟩ (fun b h => h.elim) ⟨jo _, fun _ _ => rfl⟩ (jo _)
 refine hc.mono ?_
 intro e w3 hR
 cases e with
 | panicked _ => exact hR
 | outgrown => exact hR
 | returned v =>
  obtain ⟨vs, Fr, hvs, hK, hR, hn, hfr⟩ := hR
  match vs, hR with
  | [v1], hR =>
  obtain ⟨cs, G1, G2, rfl, rfl, hown, hG2⟩ := hR
  have hG2' : G2 = [] := hG2
  subst hG2'
  rw [List.append_nil] at *
  simp only [if_true] at hown
  have hlt : ∀ b, b ∈ F2 → b < w.heap.size := fun b hb => ho2.lt b hb
  have hsubQ := JM same Q a
  have hok3 : ∀ p ∈ IC same a Q, D1 w3 p := fun p hp => by
   have h0 := hokQ p (hsubQ.mem hp)
   exact ⟨h0.1, Ub.stable h0.2 fun b hb => hK.block b (h0.2.lt b hb) (fun h => h)⟩
  obtain ⟨F', ho', hm', hnd'⟩ := Maa hown hok3
  have hsub2 : ((IC same a Q).map (·.2.2)).flatten.Sublist F2 := by
   refine List.Sublist.trans ?_ hsub
   exact CX (hsubQ.map _)
  have hndF2 : F2.Nodup := (List.nodup_append.1 hnd).2.1
  have hnF' : F'.Nodup := hnd' (fun b hb hb2 => by
   have h3 := hfr b hb
   have h4 := hlt b (hsub2.mem hb2)
   omega) hn (hsub2.nodup hndF2)
  refine ⟨[Ed (.sl Ld) cs], F', hvs, ⟨hK.size, fun b hb _ => hK.block b hb (fun h => h), hK.os, hK.tape, hK.output⟩, ⟨cs, F', [], rfl, by simp, ?_, rfl⟩, hnF', ?_⟩
  ·simp only [if_true]
   rw [← IM]
   exact ho'
  ·intro b hb
   rcases hm' b hb with hb | hb
   ·exact .inl (hfr b hb)
   ·exact .inr (List.mem_append_right _ (hsub2.mem hb))
noncomputable def srt (xs : List Int) : Option (List Int × Unit) := bif jx (ja xs) Ab then some (List.mergeSort xs (fun x y => decide (x ≤ y)), ()) else none
def Z6 (n : Nat) : Bool := jx n 1048576
noncomputable def KW (x y : List UInt8) : Option (List (List UInt8) × Unit) :=
 bif Z6 (ja x) && jx 1 (ja y) then some (Lib.split x y, ()) else none
theorem Sae {cur : Array Value} {k : Nat} {v : Value} (h : Ad cur k 1 = [v]) : cur[k]? = some v := by
 have := congrArg (·[0]?) h
 simp only [Yd cur k 1 0 (by omega)] at this
 simpa using this
theorem CZ {cur : Array Value} {k : Nat} {v : Value} (h : cur[k]? = some v) : Ad cur k 1 = [v] := by
 apply List.ext_getElem?
 intro j
 by_cases hj : j = 0
 ·subst hj; rw [Yd cur k 1 0 (by omega)]; simpa using h
 ·have hk : k < cur.size := (Array.getElem?_eq_some_iff.1 h).1
  have hl : (Ad cur k 1).length = 1 := Cd (by omega)
  rw [List.getElem?_eq_none (by omega), List.getElem?_eq_none (by simp; omega)]
theorem C3 {P : Program} {ρ : Go.Shelf.Ren} {f : FuncId} {I : Cg} (L : Go.Proofs.Lays.n191 P ρ) (hf : ρ.f 191 = f) : Mh P I f (.io (.sl (.i .i64)) .u .u [] (fun x0 _ => srt x0)) := by
 subst hf
 refine ⟨⟨_, L.f191, rfl, rfl⟩, ?_⟩
 intro O w x0 x r cs0 F0 args hF ho hnd hA hO _ _ _
 match args, hA with
 | [], _ =>
 simp only [srt] at hF
 cases hl : jx (ja x0) Ab with
 | false => rw [hl] at hF; simp at hF
 | true =>
 rw [hl] at hF
 simp only [cond_true, jc] at hF
 subst hF
 have hlim : Ab = 1073741824 := rfl
 have hx : ja x0 ≤ Ab := Nat.le_of_ble_eq_true hl
 have ho0 := ho
 obtain ⟨hm, ⟨rfl, hn, rfl⟩ | ⟨bl, off, cap, cur, et, Fs, rfl, hh, h1, h2, h3, rfl, hlen, hv⟩⟩ := ho
 ·have hn' : x0 = [] := hn
  subst hn'
  refine (Go.Proofs.Any.sort_Ints_none L none 0 w).mono ?_
  rintro e w' ⟨rfl, rfl⟩
  refine ⟨[], [], [], rfl, ⟨jo _, fun _ _ _ => rfl, rfl, rfl, rfl⟩, ?_, by simp, rfl, List.nodup_nil, by simp⟩
  show Ub w' (.sl (.i .i64)) (List.mergeSort ([] : List Int) _) _ _
  simpa using ho0
 ·have hcell : ∀ i (hi : i < x0.length), cur[off + i]? = some (.int .i64 x0[i]) := by
   intro i hi
   have := (hv i hi).1
   have e : Ad cur (off + i * 1) 1 = [Value.int .i64 x0[i]] := this
   rw [Nat.mul_one] at e
   exact Sae e
  have hFs : ∀ b, b ∈ Fs.flatten → False := by
   intro b hb
   obtain ⟨l, hl, hb⟩ := List.mem_flatten.1 hb
   obtain ⟨i, hi, rfl⟩ := qr hl
   have := (hv i (by rw [← hlen]; exact hi)).2
   rw [qh, je hi] at this
   simp only [Option.getD_some] at this
   rw [this] at hb; simp at hb
  have hH : Go.Sort.Holds (Value.int .i64) w bl off x0.toArray := by
   intro j hj
   have hj' : j < x0.length := by simpa using hj
   refine ⟨?_, ?_⟩
   ·unfold World.cell?
    simp only [hh]
    rw [hcell j hj']
    simp [getElem!_pos, hj']
   ·unfold World.frozen?
    simp [hh]
  have hbl : bl < w.heap.size := (Array.getElem?_eq_some_iff.1 hh).1
  refine (Go.Proofs.Any.sort_Ints L bl off cap x0 w hH hbl (by omega)).mono ?_
  rintro e w' ⟨rfl, n, os, rfl⟩
  generalize hzs : (x0.mergeSort fun x y => decide (x ≤ y)) = zs
  have hzl : zs.length = x0.length := by rw [← hzs]; exact List.length_mergeSort _
  have hheap : ∀ b, b < w.heap.size → (Go.Sort.grow (Go.Sort.putRow (Value.int .i64) (Go.Sort.ahead w n) bl off zs.toArray) os).heap[b]? = if bl = b then (w.heap[b]?).map (Go.Sort.onCells (Go.Sort.putCells (Value.int .i64) off zs.toArray)) else w.heap[b]? := by
   intro b hb
   simp only [Go.Sort.grow, Go.Sort.putRow, Go.Sort.mapBlock, Go.Sort.ahead]
   rw [Array.getElem?_append_left (by simpa using hb), Array.getElem?_modify]
  refine ⟨[], bl :: Fs.flatten, [], rfl, ⟨?_, ?_, rfl, rfl, rfl⟩, ?_, fun b hb => .inr hb, rfl, by simpa using hnd, by simp⟩
  ·simp only [Go.Sort.grow, Array.size_append, Go.Sort.size_putRow, Go.Sort.ahead]
   omega
  ·intro b hb hno
   have hne : bl ≠ b := fun e => hno (by rw [e]; simp)
   rw [hheap b hb, if_neg hne]
  ·have hcs : ([.slice (some ⟨bl, off, none⟩) (ja x0) cap] : List Value) = [.slice (some ⟨bl, off, none⟩) (ja (zs : List Int)) cap] := by rw [hzl]
   show Ub _ (.sl (.i .i64)) (zs : List Int) _ _
   rw [hcs]
   refine ⟨by show zs.length ≤ Ii; rw [hzl]; exact hm, .inr ⟨bl, off, cap, _, et, Fs, rfl, (hheap bl hbl).trans (by rw [if_pos rfl, hh]; rfl), by show zs.length ≤ cap; rw [hzl]; exact h1, h2, by simpa [Go.Sort.putCells] using h3, rfl, by show Fs.length = zs.length; rw [hzl]; exact hlen, fun i hi => ?_⟩⟩
   have hi' : i < zs.length := hi
   have hi2 : i < x0.length := by omega
   refine ⟨?_, ?_⟩
   ·show Ad _ (off + i * 1) 1 = [Value.int .i64 zs[i]]
    rw [Nat.mul_one]
    apply CZ
    simp only [Go.Sort.putCells, Array.getElem?_mapIdx, hcell i hi2, qb]
    rw [if_pos ⟨by omega, by simp; omega⟩, show off + i - off = i by omega]
    simp [getElem!_pos, hi']
   ·exact (hv i hi2).2
theorem AG (w : World) (o : Obj) : (w.alloc o).heap = w.heap.push o := rfl
theorem BX {P : Program} {ρ : Go.Shelf.Ren} {f : FuncId} {I : Cg} (L : Go.Proofs.LaysM.n146 P ρ) (hf : ρ.f 146 = f)
 (hI : ∀ w, I.p w → ∃ m, w.cell? ⟨ρ.g 1, 0, none⟩ = some (.int .i64 m)) : Mh P I f (.pu (.p .s (.p .s .u)) (.p (.sl .s) .u) [true] (fun x => KW x.1 x.2.1)) := by
 subst hf
 refine ⟨⟨_, L.f146, rfl, rfl⟩, ?_⟩
 intro O w x r args hF hA hO hi hb
 match args, hA with
 | [a, b], hA =>
  obtain ⟨⟨ca, rfl, hca⟩, ⟨cb, rfl, hcb⟩, _⟩ := hA
  have hca' : ca = [.string ⟨List.toArray x.1⟩] := hca
  have hcb' : cb = [.string ⟨List.toArray x.2.1⟩] := hcb
  subst hca'; subst hcb'
  simp only [KW, Z6] at hF
  cases h1 : jx (ja x.1) 1048576 with
  | false => rw [h1] at hF; simp at hF
  | true =>
  cases h2 : jx 1 (ja x.2.1) with
  | false => rw [h1, h2] at hF; simp at hF
  | true =>
  rw [h1, h2] at hF
  simp only [Bool.and_true, cond_true, jc] at hF
  subst hF
  have h1' := Nat.le_of_ble_eq_true h1
  have h2' := Nat.le_of_ble_eq_true h2
  obtain ⟨m, hm⟩ := hI w hi
  have hs1 : (⟨List.toArray x.1⟩ : ByteArray).size = ja x.1 := by show (List.toArray x.1).size = _; simp
  have hs2 : (⟨List.toArray x.2.1⟩ : ByteArray).size = ja x.2.1 := by show (List.toArray x.2.1).size = _; simp
  have hd : (Lib.splitB ⟨List.toArray x.2.1⟩ 0 (Lib.countB ⟨List.toArray x.1⟩ ⟨List.toArray x.2.1⟩) ⟨List.toArray x.1⟩).map (fun z => z.data.toList) = Lib.split x.1 x.2.1 := by
   rw [Lib.splitB_data]; rfl
  have hlen := Lib.splitB_all ⟨List.toArray x.2.1⟩ (by omega) 0 _ ⟨List.toArray x.1⟩ rfl
  have hle := Lib.countB_le ⟨List.toArray x.2.1⟩ (by omega) _ ⟨List.toArray x.1⟩ (jo _)
  obtain ⟨zs, hz⟩ : ∃ zs, Lib.splitB ⟨List.toArray x.2.1⟩ 0 (Lib.countB ⟨List.toArray x.1⟩ ⟨List.toArray x.2.1⟩) ⟨List.toArray x.1⟩ = zs := ⟨_, rfl⟩
  rw [hz] at hlen hd
  obtain ⟨n, hcn⟩ : ∃ n, Lib.countB ⟨List.toArray x.1⟩ ⟨List.toArray x.2.1⟩ = n := ⟨_, rfl⟩
  rw [hcn] at hlen hle
  have hn : (Lib.split x.1 x.2.1).length = n + 1 := by rw [← hd, List.length_map, hlen]
  refine (Go.Proofs.Any.strings_Split { L with } L.i9 ⟨List.toArray x.1⟩ ⟨List.toArray x.2.1⟩ m w (by omega) hm (by omega)).mono ?_
  rintro e w' ⟨rfl, rfl⟩
  rw [hz]
  refine ⟨[.slice (some ⟨w.heap.size, 0, none⟩) (n + 1) (n + 1)], [w.heap.size], by rw [hcn]; rfl, ⟨?_, ?_, rfl, rfl, rfl⟩, ?_, by simp, by simp⟩
  ·rw [AG]; simp
  ·intro b hb _
   rw [AG]
   simp [Array.getElem?_push_lt hb, Array.getElem?_eq_getElem hb]
  ·refine ⟨[.slice (some ⟨w.heap.size, 0, none⟩) (n + 1) (n + 1)], [w.heap.size], [], rfl, rfl, ?_, rfl⟩
   show Ub _ (.sl .s) (Lib.split x.1 x.2.1) _ _
   refine ⟨by rw [hn]; unfold Ii; omega, .inr ⟨w.heap.size, 0, n + 1, (zs.map Value.string).toArray, ρ.t 9, List.replicate (n + 1) [], ?_, ?_, by omega, by unfold Ii; omega, ?_, ?_, ?_, ?_⟩⟩
   ·rw [hn]
   ·rw [AG]; simp
   ·simp [Ty.size, hlen]
   ·simp
   ·simp [hn]
   ·intro i hi
    have hi' : i < n + 1 := by omega
    have hiz : i < zs.length := by omega
    refine ⟨?_, by simp [qh, List.getElem?_replicate, hi']⟩
    show Ad _ (0 + i * 1) 1 = _
    apply CZ
    have : (Lib.split x.1 x.2.1)[i]'hi = (zs[i]).data.toList := by simp [← hd]
    show _ = some (Value.string ⟨List.toArray ((Lib.split x.1 x.2.1)[i]'hi)⟩)
    rw [this]
    simp [hiz]
open Go Go.WideShapes Go.ChangeShapes
def A4 : DataW Unit → List Value
 | .lit (.int k n) => [.int k n]
 | .lit (.bool b) => [.bool b]
 | .agg l => cellsDs l
 | _ => []
where cellsDs : List (DataW Unit) → List Value
 | [] => []
 | d :: r => A4 d ++ cellsDs r
def Dae (d : DataW Unit) : Obj → Obj
 | .cells _ t frozen => .cells (A4 d).toArray t frozen
 | o => o
def Eae (P : Program) (h : Array Obj) (x : String × DataW Unit) : Array Obj :=
 match P.globalNamed x.1 with
 | some g => h.modify g (Dae x.2)
 | none => h
noncomputable def Hac (P : Program) (os : Os) (laid : List (String × DataW Unit)) : World :=
 let w := World.holding P os ⟨#[], #[], []⟩
 { w with heap := laid.foldl (Eae P) w.heap }
def D9 (g : Nat) : Cg := ⟨g + 1, fun w => ∃ m, w.cell? ⟨g, 0, none⟩ = some (.int .i64 m), fun w w' hb h => by
 obtain ⟨m, hm⟩ := h
 refine ⟨m, ?_⟩
 unfold World.cell? at hm ⊢
 rw [hb g (Nat.lt_succ_self g)]
 exact hm⟩
theorem W4 {g : Nat} {w : World} (h : (D9 g).p w) : (D9 g).base ≤ w.heap.size := by
 obtain ⟨m, hm⟩ := h
 unfold World.cell? at hm
 have : g < w.heap.size := by
  apply Classical.byContradiction
  intro hn
  simp only [Array.getElem?_eq_none (show w.heap.size ≤ g by omega)] at hm
  simp at hm
 exact this
theorem LH {P : Program} {l : List (String × DataW Unit)} {w : World} (h : (l.filter fun x => x.2.handleName?.isSome) = []) : laidMetH P l w = laidMet P l w := by
 unfold laidMetH
 rw [h]
section
variable {H : Type} {enc : TypeId × Value → H}
theorem XK {a : Assume} {C : Checked} {os : Os} {f : FuncId} {fn : Func} {s : ChangeSpec} {conds : List PathCond} {apart fresh handsOn again : Bool} {X : World → Array Value → Prop}
 (hX : ∀ (w w' : World) (args : Array Value), w.heap = w'.heap → X w args → X w' args)
 (own : ownKnob C.prog.godebug = none) (started : os.Started) (noInit : C.prog.inits.idxOf? f = none) (hfn : C.prog.funcs[f]? = some fn)
 (witness : ∃ (w : World) (tape : Tape) (i : Input), w.os = os ∧ (w.forCall tape i).Shaped C.prog ∧ i.vars = [] ∧ Input.okWide C.prog (w.forCall tape i) .any w.heap.size f i ∧
  ((s.pre enc C.prog fn conds apart (w.forCall tape i).memory i.args ∧ X (w.forCall tape i).memory i.args) ∧ sizedMet enc C.prog fn (OpenSpec.ofChange s) apart (w.forCall tape i).memory i.args) ∧ a.holds C.prog (lone (Frame.enter C.prog f i.args .normal) [] (w.forCall tape i)))
 (contract : ∀ (W : World) (base : Nat) (args : Array Value) (ds gs : List (DataW H)) (before : List MemPlace),
  (∀ (j : Nat) t v, fn.params[j]? = some t → args[j]? = some v → Value.okWide C.prog W .any base t v) →
  DataW.Whole enc C.prog fn.params.toList s.vars apart W args.toList ds gs before →
  conds.all (PathCond.test C.prog ⟨fn.params.toList, ds, s.plain.varTypes C.prog, gs⟩) = true →
  (DataW.weightsEach C.prog (fn.params.toList ++ s.plain.varTypes C.prog) (ds ++ gs)).all (· ≤ reachBytes) = true → W.ShapedOpen C.prog → X W args →
  a.holds C.prog (lone (Frame.enter C.prog f args .normal) [] W) →
  Calls C.prog f args W fun e W' => ∃ v, e = .returned v ∧ s.post enc C.prog fn apart fresh handsOn again W args v W') :
 ReturnsInHanded a C os f .any (fun w args => (s.pre enc C.prog fn conds apart w args ∧ X w args) ∧ sizedMet enc C.prog fn (OpenSpec.ofChange s) apart w args) (s.post enc C.prog fn apart fresh handsOn again) := by
 refine returnsInHanded_of_calls own started noInit witness ?_
 intro w tape i _ hsh _ hok hpre hholds
 obtain ⟨_, _, _, fn', hfn', _, _, _, _, hval⟩ := hok
 have e : fn' = fn := Option.some.inj (hfn'.symm.trans hfn)
 subst e
 obtain ⟨⟨⟨ds, gs, before, hw, hc⟩, hx⟩, hz⟩ := hpre
 have hw' := DataW.Whole.of_heap (w' := w.forCall tape i) (by rfl) hw
 refine (contract (w.forCall tape i) w.heap.size i.args ds gs before hval hw' hc (hz.weights hw) hsh (hX _ _ _ (by rfl) hx) hholds).mono fun e W' ⟨v, he, hp⟩ => ?_
 subst he
 exact ChangeSpec.post_blind hp
theorem MV {C : Checked} {os : Os} {f : FuncId} {fn : Func} {s : ChangeSpec} {apart fresh handsOn again : Bool} {pt : Ty} {fl : Bool} {F : T pt → Option (Bool × Unit)} {tb : TypeId} {I : Cg} {laid : List (String × DataW Unit)}
 (own : ownKnob C.prog.godebug = none) (started : os.Started) (noInit : C.prog.inits.idxOf? f = none) (hfn : C.prog.funcs[f]? = some fn)
 (witness : ∃ (w : World) (tape : Tape) (i : Input), w.os = os ∧ (w.forCall tape i).Shaped C.prog ∧ i.vars = [] ∧ Input.okWide C.prog (w.forCall tape i) .any w.heap.size f i ∧
  ((s.pre enc C.prog fn [] apart (w.forCall tape i).memory i.args ∧ laidMetH C.prog laid (w.forCall tape i).memory) ∧ sizedMet enc C.prog fn (OpenSpec.ofChange s) apart (w.forCall tape i).memory i.args) ∧ ({} : Assume).holds C.prog (lone (Frame.enter C.prog f i.args .normal) [] (w.forCall tape i)))
 (hvars : s.vars = []) (hs : ∀ ds : List (DataW H), ds.length = fn.params.toList.length → s.fn H ds = { results := [.lit (.bool true)], args := ds })
 (hp : Hk C.prog pt fn.params.toList = true) (hr : fn.resultTypes = #[tb]) (htb : C.prog.underlying tb = some .bool)
 (hsound : Mh C.prog I f (.pu pt (.p .b .u) [fl] F)) (hF : ∀ x, Ew pt x → F x = some (true, ()))
 (hI : ∀ W : World, W.ShapedOpen C.prog → laidMetH C.prog laid W → I.p W ∧ I.base ≤ W.heap.size) (hnh : (laid.filter fun x => x.2.handleName?.isSome) = []) :
 ReturnsInHanded {} C os f .any (fun w args => (s.pre enc C.prog fn [] apart w args ∧ laidMetH C.prog laid w) ∧ sizedMet enc C.prog fn (OpenSpec.ofChange s) apart w args) (s.post enc C.prog fn apart fresh handsOn again) := by
 refine XK (X := fun w _ => laidMetH C.prog laid w) (fun _ _ _ hh h => by
  rw [LH hnh] at h ⊢
  exact h.of_heap hh) own started noInit hfn witness ?_
 intro W b0 args ds gs before hval hW _ _ hsh hX _
 have hW0 := hW
 obtain ⟨p, q, hA, hV, hps, hfz, hnd⟩ := hW
 rw [hvars] at hV
 have hgs : gs = [] ∧ q = [] := by
  cases gs with
  | nil => exact ⟨rfl, hV⟩
  | cons _ _ => exact hV.elim
 obtain ⟨rfl, rfl⟩ := hgs
 simp only [List.append_nil] at hps
 subst hps
 obtain ⟨x, hx, hrx⟩ := TJ (base := b0) hp hA fun j t v h1 h2 => hval j t v (by simpa using h1) (by simpa using h2)
 have hcall := hsound.2 (fun _ => False) W x (true, ()) args.toList (hF x hrx) hx (fun _ h => h.elim) (hI W hsh hX).1 (hI W hsh hX).2
 refine hcall.mono fun e W' hret => ?_
 cases e with
 | returned v =>
  obtain ⟨vs, Fr, hv, hk, hR, _, _⟩ := hret
  have hvt : v = .bool true := by
   cases vs with
   | nil => simp [Vc] at hR
   | cons a r =>
    obtain ⟨cs, F1, F2, ha, _, hown, hrest⟩ := hR
    cases r with
    | cons _ _ => simp [Vc] at hrest
    | nil =>
     have hcs : cs = [.bool true] := by
      cases fl with
      | true => exact hown.1
      | false => exact hown.1
     rw [hv, VC, ha, hcs]
     rfl
  subst hvt
  refine ⟨_, rfl, ?_⟩
  have hsp := hs ds (UL hA)
  have hlt : ∀ z ∈ before, z.block < W.heap.size := hW0.lt
  have hsame : ∀ z ∈ before, W.sameAt W' z := by
   intro z hz
   have hb := hk.block z.block (hlt z hz) (fun h => h)
   cases z with
   | cell b off =>
    show W'.cell? _ = W.cell? _
    simp only [World.cell?]
    rw [show W'.heap[b]? = W.heap[b]? from hb]
   | map b => exact hb
  have hargs : ∀ sp : Nat → Bool, (∀ z ∈ before, sp z.block = true) → DataW.TrodAll enc C.prog W' 0 sp true fn.params.toList args.toList ds before :=
   fun sp h => NH (RL hp) hA hsame h
  have hres : ∀ (b : Nat) (sp : Nat → Bool) (hd : Bool), DataW.TrodAll enc C.prog W' b sp hd fn.resultTypes.toList ((Value.bool true).resultList fn.resultTypes.size) [.lit (.bool true)] [] := by
   intro b sp hd
   rw [hr]
   exact trodAll_mk1 (Go.RowKit.shut_bool htb true)
  have hold : ∀ z ∈ before, (fun b => decide (b < W.heap.size)) z.block = true := fun z hz => by simpa using hlt z hz
  refine ⟨ds, [], before, [], before, [], hW0, ?_, ?_, ?_, hk.but _, fun _ => ⟨?_, ds.cons (.lit (.bool true)), [], before, ⟨before, [], ?_, ?_, by simp, ?_, ?_⟩, fun z hz _ => hz⟩⟩
  ·rw [List.append_nil, hsp]; exact hres _ _ _
  ·rw [List.append_nil, hsp]; exact hargs _ hold
  ·rw [List.append_nil, hsp, hvars]; rfl
  ·intro j t r hj hv
   rw [hr] at hj hv
   match j, hj, hv with
   | 0, hj, hv =>
    simp only [List.getElem?_toArray, List.getElem?_cons_zero, jc] at hj
    simp [Value.resultList] at hv
    subst hj; subst hv
    exact Go.RowKit.okWide_bool_mk htb true
  ·exact trodAll_append (hargs _ (fun _ _ => rfl)) (hres _ _ _)
  ·rw [hvars]; rfl
  ·intro b off hz
   have := hfz b off hz
   unfold World.frozen? at this ⊢
   rw [show W'.heap[b]? = W.heap[b]? from hk.block b (hlt _ hz) (fun h => h)]
   exact this
  ·exact hnd
 | _ => exact hret.elim
end
def Oc {α S R : Type} (g : Nat → S → α → S ⊕ R) : Nat → S → List α → S ⊕ R
 | _, s, [] => .inl s
 | k, s, x :: xs => match g k s x with
  | .inl s' => Oc g (k + 1) s' xs
  | .inr r => .inr r
section
variable {X R : Type} {step : X → Option (X ⊕ R)}
theorem Hc {x : X} {z : Option (X ⊕ R)} (h : step x = z) : Za step x = z.bind (j6 (Za step) some) := by
 rw [Gv, h]
theorem YW {α S R' : Type} (xs : List α) (g : Nat → S → α → S ⊕ R') (I : Nat → S → X) (out : S → R) (ex : R' → R) (Cg : Nat → S → Prop)
 (h : ∀ k (hk : k < xs.length) s, Cg k s → step (I k s) = some (match g k s xs[k] with | .inl s' => .inl (I (k + 1) s') | .inr r => .inr (ex r)) ∧ ∀ s', g k s xs[k] = .inl s' → Cg (k + 1) s')
 (he : ∀ s, Cg xs.length s → step (I xs.length s) = some (.inr (out s))) (s0 : S) (h0 : Cg 0 s0) :
 Za step (I 0 s0) = some (match Oc g 0 s0 xs with | .inl s => out s | .inr r => ex r) := by
 have key : ∀ (ys : List α) (k : Nat) (s : S), xs.drop k = ys → k ≤ xs.length → Cg k s → Za step (I k s) = some (match Oc g k s ys with | .inl s => out s | .inr r => ex r) := by
  intro ys
  induction ys with
  | nil =>
   intro k s hd hle hi
   have : k = xs.length := by
    have := congrArg ja hd
    simp at this
    omega
   subst this
   rw [Hc (he s hi)]
   rfl
  | cons y ys ih =>
   intro k s hd hle hi
   have hk : k < xs.length := by
    have := congrArg ja hd
    simp at this
    omega
   have hy : xs[k] = y := by
    have := congrArg (·[0]?) hd
    simp [List.getElem?_drop, je hk] at this
    exact this
   obtain ⟨h1, h2⟩ := h k hk s hi
   rw [Hc h1]
   rw [hy] at h2 ⊢
   simp only [Oc]
   cases hg : g k s y with
   | inl s' =>
    simp only [jb, qi]
    refine ih (k + 1) s' ?_ hk (h2 s' hg)
    rw [← List.drop_drop, hd]
    rfl
   | inr r => rfl
 exact key xs 0 s0 rfl (Nat.zero_le _) h0
theorem BE (I : Nat → X) (n : Nat) (out : R) (h : ∀ k, k < n → step (I k) = some (.inl (I (k + 1)))) (he : step (I n) = some (.inr out)) : Za step (I 0) = some out := by
 have key : ∀ m k, m + k = n → Za step (I k) = some out := by
  intro m
  induction m with
  | zero =>
   intro k hk
   have : k = n := by omega
   subst this
   rw [Hc he]; rfl
  | succ m ih =>
   intro k hk
   rw [Hc (h k (by omega))]
   exact ih (k + 1) (by omega)
 exact key n 0 (by omega)
end
theorem Uh {n : Int} (h1 : -9223372036854775808 ≤ n) (h2 : n ≤ 9223372036854775807) : j4 .i64 n = n := IntWalk.i64_in n ⟨h1, h2⟩
theorem Df {k : Nat} (h : k < 9223372036854775807) : j4 .i64 ((k : Int) + 1) = ((k + 1 : Nat) : Int) := by
 rw [Uh (by omega) (by omega)]; omega
section
variable {α : Type}
theorem Yac (xs : List α) (k : Nat) : Sb xs (k : Int) = xs[k]? := by simp [Sb]
theorem Qb {xs : List α} {k : Nat} (h : k < xs.length) : Sb xs (k : Int) = some xs[k] := by rw [Yac, je h]
theorem Tr (n k : Nat) : Ql n (k : Int) = decide (k < n) := by
 simp [Ql]
theorem Ba {p : Prop} [Decidable p] (h : p) : decide p = true := decide_eq_true h
theorem Ca {p : Prop} [Decidable p] (h : ¬ p) : decide p = false := decide_eq_false h
theorem F7 {xs : List α} {k : Nat} (h : k < xs.length) : xs.take (k + 1) = xs.take k ++ [xs[k]] := by
 rw [List.take_succ_eq_append_getElem h]
end
theorem Iaa {α : Type} {xs : List α} {z : α} {k : Nat} (h : k < xs.length) : (xs.take k ++ List.replicate (xs.length - k) z).set k xs[k] = xs.take (k + 1) ++ List.replicate (xs.length - (k + 1)) z := by
 have h1 : (xs.take k).length = k := by simp; omega
 rw [List.set_append_right _ _ (by omega), h1, Nat.sub_self, show xs.length - k = (xs.length - (k + 1)) + 1 by omega, List.replicate_succ, List.set_cons_zero, F7 h, List.append_assoc]
 rfl
theorem X8 {α : Type} {xs : List α} {z : α} {k : Nat} (h : k ≤ xs.length) : (xs.take k ++ List.replicate (xs.length - k) z).length = xs.length := by
 simp; omega
theorem K4 {α R : Type} {X : Type} {step : X → Option (X ⊕ R)} (xs : List α) (z : α) (I : List α → Int → X) (out : List α → R)
 (h : ∀ k (hk : k < xs.length) (o : List α), o.length = xs.length → step (I o (k : Int)) = some (.inl (I (o.set k xs[k]) (j4 .i64 ((k : Int) + 1)))))
 (he : ∀ o, step (I o (xs.length : Int)) = some (.inr (out o))) (hn : xs.length < 9223372036854775807) :
 Za step (I (List.replicate xs.length z) 0) = some (out xs) := by
 have := BE (step := step) (fun k => I (xs.take k ++ List.replicate (xs.length - k) z) (k : Int)) xs.length (out xs) (fun k hk => by
  rw [h k hk _ (X8 (by omega)), Iaa hk, Df (by omega)]) (by
  rw [List.take_length, Nat.sub_self]
  simpa using he xs)
 simpa using this
theorem Gae {n : Nat} (h : n ≤ Ab) : (((n : Int) == (n : Int)) && (decide ((0 : Int) ≤ (n : Int)) && decide ((n : Int) ≤ ((Ab : Nat) : Int)))) = true := by
 simp only [beq_self_eq_true, jk, jd, decide_eq_true_eq]
 omega
theorem Td : Ab = 1073741824 := rfl
def Wa : (τ : Ty) → T τ → Nat
 | .i _, _ => 0
 | .b, _ => 0
 | .o, _ => 0
 | .s, x => ja x
 | .sl e, xs => ja xs + (List.map (Wa e) xs).sum
 | .u, _ => 0
 | .p a c, v => Wa a v.1 + Wa c v.2
def Ty.hasS : Ty → Bool
 | .s => true
 | .sl e => e.hasS
 | .p x y => x.hasS || y.hasS
 | _ => false
def Da : Nat := 1048576
theorem Cn {α : Type} {f : α → Nat} {xs : List α} {k : Nat} (hk : k < xs.length) : f xs[k] ≤ (xs.map f).sum := by
 induction xs generalizing k with
 | nil => simp at hk
 | cons x xs ih =>
  cases k with
  | zero => simp
  | succ k =>
   have := ih (k := k) (by simpa using hk)
   simp only [List.getElem_cons_succ, List.map_cons, List.sum_cons]
   omega
def ES (n l : Nat) : Int := if n ≤ l then ((l - n : Nat) : Int) else -1
theorem SF {n l : Nat} (h : n ≤ l) : ES n l = ((l - n : Nat) : Int) := if_pos h
theorem GD {n l : Nat} (h : ¬ n ≤ l) : ES n l = -1 := if_neg h
theorem Tae {α X R : Type} {step : X → Option (X ⊕ R)} (xs : List α) (n : α → Nat) (I : Int → Int → X) (yes : Int → R) (no : R)
 (h : ∀ k (hk : k < xs.length) (l : Nat), l ≤ Da → step (I (l : Int) (k : Int)) = some (if n xs[k] ≤ l then .inl (I ((l - n xs[k] : Nat) : Int) (j4 .i64 ((k : Int) + 1))) else .inr no))
 (he : ∀ l : Nat, step (I (l : Int) (xs.length : Int)) = some (.inr (yes (l : Int)))) (hn : xs.length < 9223372036854775807) (l : Nat) (hl : l ≤ Da) :
 Za step (I (l : Int) 0) = some (if (xs.map n).sum ≤ l then yes ((l - (xs.map n).sum : Nat) : Int) else no) := by
 have key : ∀ (ys : List α) (k l : Nat), xs.drop k = ys → k ≤ xs.length → l ≤ Da → Za step (I (l : Int) (k : Int)) = some (if (ys.map n).sum ≤ l then yes ((l - (ys.map n).sum : Nat) : Int) else no) := by
  intro ys
  induction ys with
  | nil =>
   intro k l hd hle hi
   have : k = xs.length := by
    have := congrArg ja hd
    simp at this
    omega
   subst this
   rw [Hc (he l)]
   simp
  | cons y ys ih =>
   intro k l hd hle hi
   have hk : k < xs.length := by
    have := congrArg ja hd
    simp at this
    omega
   have hy : xs[k] = y := by
    have := congrArg (·[0]?) hd
    simp [List.getElem?_drop, je hk] at this
    exact this
   have hd' : xs.drop (k + 1) = ys := by rw [← List.drop_drop, hd]; rfl
   rw [Hc (h k hk l hi), hy]
   simp only [List.map_cons, List.sum_cons]
   by_cases hc : n y ≤ l
   ·simp only [hc, if_true, jb, qi]
    rw [Df (by omega), ih (k + 1) (l - n y) hd' hk (by omega)]
    by_cases hc2 : (ys.map n).sum ≤ l - n y
    ·rw [if_pos hc2, if_pos (by omega)]
     congr 3
     omega
    ·rw [if_neg hc2, if_neg (by omega)]
   ·rw [if_neg hc, if_neg (by omega)]
    rfl
 have := key xs 0 l rfl (Nat.zero_le _) hl
 simpa using this
theorem DH : ∀ {τ : Ty} (_ : (τ.flat && !τ.hasS) = true) {x : T τ}, Wa τ x = 0
 | .i _, _, _ => rfl
 | .b, _, _ => rfl
 | .o, _, _ => rfl
 | .s, h, _ => by simp [Ty.hasS] at h
 | .sl _, h, _ => by simp [Ty.flat] at h
 | .u, _, _ => rfl
 | .p a c, h, x => by
  simp only [Ty.flat, Ty.hasS, jd, Bool.not_eq_true', Bool.or_eq_false_iff] at h
  simp only [Wa]
  rw [DH (τ := a) (by simp [h.1.1, h.2.1]), DH (τ := c) (by simp [h.1.2, h.2.2])]
theorem Wu {e : Ty} (h : (e.flat && !e.hasS) = true) (xs : List (T e)) : Wa (.sl e) xs = ja xs := by
 simp only [Wa]
 have : List.map (Wa e) xs = List.replicate xs.length 0 := by
  apply List.ext_getElem
  ·simp
  ·intro i h1 h2
   simp [DH h]
 rw [this]
 simp
theorem Xh {α : Type} (b : Bool) (x y : α) : cond b (some x) (some y) = some (cond b x y) := by cases b <;> rfl
theorem Yh {α : Type} (b : Bool) (x y : α) : cond b (x, ()) (y, ()) = (cond b x y, ()) := by cases b <;> rfl
theorem Sc (b x y : Bool) : (cond b x y = true) ↔ ((b = true ∧ x = true) ∨ (¬ b = true ∧ y = true)) := by cases b <;> simp
theorem KX {a b : Bool} (h : a = true ↔ b = true) : a = b := qu.2 h
theorem Bc {a b : Bool} (h : a = true ↔ b = true) : some (a, ()) = some (b, ()) := by rw [KX h]
theorem CG (a b : Int) : ((a == b) = true) ↔ a = b := by simp
theorem DG (a b : Int) : ((a != b) = true) ↔ ¬ a = b := by simp
def Pd {α : Type} (p : Nat → α → Bool) : Nat → List α → Bool
 | _, [] => true
 | k, x :: xs => p k x && Pd p (k + 1) xs
theorem Xf {X R : Type} {step : X → Option (X ⊕ R)} {α : Type} (xs : List α) (p : Nat → α → Bool) (I : Int → X) (yes no : R)
 (h : ∀ k (hk : k < xs.length), step (I (k : Int)) = some (cond (p k xs[k]) (.inl (I (j4 .i64 ((k : Int) + 1)))) (.inr no)))
 (he : step (I (xs.length : Int)) = some (.inr yes)) (hn : xs.length < 9223372036854775807) :
 Za step (I 0) = some (cond (Pd p 0 xs) yes no) := by
 have key : ∀ (ys : List α) (k : Nat), xs.drop k = ys → k ≤ xs.length → Za step (I (k : Int)) = some (cond (Pd p k ys) yes no) := by
  intro ys
  induction ys with
  | nil =>
   intro k hd hle
   have : k = xs.length := by
    have := congrArg ja hd
    simp at this
    omega
   subst this
   rw [Hc he]
   rfl
  | cons y ys ih =>
   intro k hd hle
   have hk : k < xs.length := by
    have := congrArg ja hd
    simp at this
    omega
   have hy : xs[k] = y := by
    have := congrArg (·[0]?) hd
    simp [List.getElem?_drop, je hk] at this
    exact this
   have hd' : xs.drop (k + 1) = ys := by rw [← List.drop_drop, hd]; rfl
   rw [Hc (h k hk), hy]
   simp only [Pd]
   cases hc : p k y with
   | true =>
    simp only [cond_true, jk, jb, qi]
    rw [← ih (k + 1) hd' hk, Df (by omega)]
   | false => rfl
 have := key xs 0 rfl (Nat.zero_le _)
 simpa using this
theorem Rp {α : Type} {p : Nat → α → Bool} : ∀ {xs : List α} {k : Nat}, Pd p k xs = true ↔ ∀ j (hj : j < xs.length), p (k + j) xs[j] = true
 | [], _ => by simp [Pd]
 | x :: xs, k => by
  simp only [Pd, jd, Rp (xs := xs)]
  constructor
  ·rintro ⟨h1, h2⟩ j hj
   cases j with
   | zero => exact h1
   | succ j => simpa [jt, Nat.add_comm 1 j] using h2 j (by simpa using hj)
  ·intro h
   refine ⟨h 0 (by simp), fun j hj => ?_⟩
   have := h (j + 1) (by simpa using hj)
   rw [jt, Nat.add_comm 1 j]
   exact this
theorem LR {α β γ : Type} (b : Bool) (x : α) (y : β) (f : α → γ) (g : β → γ) : j6 f g (cond b (.inl x) (.inr y)) = cond b (f x) (g y) := by cases b <;> rfl
def Tc {α S : Type} (g : Nat → S → α → S) : Nat → S → List α → S
 | _, s, [] => s
 | k, s, x :: xs => Tc g (k + 1) (g k s x) xs
theorem GI {α : Type} {xs ys : List α} {y : α} {k : Nat} (hd : xs.drop k = y :: ys) : ∃ hk : k < xs.length, xs[k] = y ∧ xs.drop (k + 1) = ys := by
 have hk : k < xs.length := by
  have := congrArg ja hd
  simp at this
  omega
 refine ⟨hk, ?_, by rw [← List.drop_drop, hd]; rfl⟩
 have := congrArg (·[0]?) hd
 simp [List.getElem?_drop, je hk] at this
 exact this
theorem MM {α : Type} {xs : List α} {k : Nat} (hd : xs.drop k = []) (hk : k ≤ xs.length) : k = xs.length := by
 have := congrArg ja hd
 simp at this
 omega
theorem Qd {X R : Type} {step : X → Option (X ⊕ R)} {α S : Type} (xs : List α) (g : Nat → S → α → S) (I : S → Int → X) (out : S → R) (Cg : Nat → S → Prop)
 (h : ∀ k (hk : k < xs.length) s, Cg k s → step (I s (k : Int)) = some (.inl (I (g k s xs[k]) (j4 .i64 ((k : Int) + 1)))) ∧ Cg (k + 1) (g k s xs[k]))
 (he : ∀ s, Cg xs.length s → step (I s (xs.length : Int)) = some (.inr (out s))) (hn : xs.length < 9223372036854775807) (s0 : S) (h0 : Cg 0 s0) :
 Za step (I s0 0) = some (out (Tc g 0 s0 xs)) ∧ Cg xs.length (Tc g 0 s0 xs) := by
 have key : ∀ (ys : List α) (k : Nat) (s : S), xs.drop k = ys → k ≤ xs.length → Cg k s → Za step (I s (k : Int)) = some (out (Tc g k s ys)) ∧ Cg xs.length (Tc g k s ys) := by
  intro ys
  induction ys with
  | nil =>
   intro k s hd hle hi
   have := MM hd hle
   subst this
   rw [Hc (he s hi)]
   exact ⟨rfl, hi⟩
  | cons y ys ih =>
   intro k s hd hle hi
   obtain ⟨hk, hy, hd'⟩ := GI hd
   obtain ⟨h1, h2⟩ := h k hk s hi
   rw [Hc h1, hy, Df (by omega)]
   rw [hy] at h2
   exact ih (k + 1) _ hd' hk h2
 have := key xs 0 s0 rfl (Nat.zero_le _) h0
 simpa using this
theorem Tf {X R : Type} {step : X → Option (X ⊕ R)} {α S R' : Type} (xs : List α) (g : Nat → S → α → S ⊕ R') (I : S → Int → X) (out : S → R) (ex : R' → R) (Cg : Nat → S → Prop)
 (h : ∀ k (hk : k < xs.length) s, Cg k s → step (I s (k : Int)) = some (match g k s xs[k] with | .inl s' => .inl (I s' (j4 .i64 ((k : Int) + 1))) | .inr r => .inr (ex r)) ∧ ∀ s', g k s xs[k] = .inl s' → Cg (k + 1) s')
 (he : ∀ s, Cg xs.length s → step (I s (xs.length : Int)) = some (.inr (out s))) (hn : xs.length < 9223372036854775807) (s0 : S) (h0 : Cg 0 s0) :
 Za step (I s0 0) = some (match Oc g 0 s0 xs with | .inl s => out s | .inr r => ex r) := by
 have := YW (step := step) xs g (fun k s => I s (k : Int)) out ex Cg (fun k hk s hi => by
  obtain ⟨h1, h2⟩ := h k hk s hi
  refine ⟨?_, h2⟩
  rw [h1, Df (by omega)]) he s0 h0
 simpa using this
def Wz : Nat := 1099511627776
theorem z3 : ((3 : Int) == 0) = false := rfl
theorem NA {n lo hi : Nat} (h1 : lo ≤ hi) (h2 : hi ≤ n) : Jd n (lo : Int) (hi : Int) = true := by
 simp [Jd]; omega
section
variable {α β : Type}
def toR (f : α → Option (α × Unit)) (t0 t3 : List α) (t4 : Int) : Option (((List α × (List α × (Int × Unit))) × Unit) ⊕ (((List α × Unit) × Unit) ⊕ β)) :=
 cond (decide (t4 < ((ja t0 : Nat) : Int))) (jz (Sb t0 t4) fun x7 => jz (f x7) fun r8 => cond (Ql (ja t3) t4)
  (jz t3[(jy t4)]? fun x9 => some (.inl ((t0, j5 t3 (jy t4) r8.1, j4 .i64 (t4 + 1), ()), ()))) none) (some (.inr (.inl ((t3, ()), ()))))
noncomputable def toG (β : Type) (z : α) (f : α → Option (α × Unit)) (a0 : List α) : Option (List α × Unit) :=
 cond ((((ja a0 : Nat) : Int) == ((ja a0 : Nat) : Int)) && (decide ((0 : Int) ≤ ((ja a0 : Nat) : Int)) && decide (((ja a0 : Nat) : Int) ≤ ((Ab : Nat) : Int))))
  (jz (Za (fun x : (List α × (List α × (Int × Unit))) × Unit => toR (β := β) f x.1.1 x.1.2.1 x.1.2.2.1) ((a0, List.replicate (jy ((ja a0 : Nat) : Int)) z, (0 : Int), ()), ())) (j6 (fun y10 => some (y10.1.1, ())) (fun _ => none))) none
theorem Maj (z : α) (f : α → Option (α × Unit)) (a : List α) (hn : a.length ≤ Da) (hf : ∀ k (h : k < a.length), f a[k] = some (a[k], ())) : toG β z f a = some (a, ()) := by
 have h20 : Da = 1048576 := rfl
 have hl := K4 (step := fun x : (List α × (List α × (Int × Unit))) × Unit => toR (β := β) f x.1.1 x.1.2.1 x.1.2.2.1) a z (fun o i => ((a, o, i, ()), ())) (fun o => .inl ((o, ()), ())) (by
  intro k hk o ho
  simp only [toR]
  rw [Ba (show (k : Int) < (ja a : Int) by omega), Qb hk]
  simp only [cond_true, jb]
  rw [hf k hk]
  simp only [cond_true, jb]
  rw [Tr, Ba (show k < ja o by omega)]
  simp [je (show k < ja o by omega)]) (by
  intro o
  simp [toR]) (by omega)
 unfold toG
 rw [Gae (by rw [Td]; omega)]
 simp only [cond_true]
 rw [show jy ((ja a : Nat) : Int) = ja a by simp]
 erw [hl]
 rfl
theorem toS {e : Ty} (β : Type) (z : T e) {f : T e → Option (T e × Unit)} {F : List (T e) → Option (List (T e) × Unit)} (a : List (T e)) (hz : Wa (.sl e) a ≤ Da) (hf : ∀ x, Wa e x ≤ Da → f x = some (x, ())) (h : F a = toG β z f a) : F a = some (a, ()) := by
 have hz' : ja a + (List.map (Wa e) a).sum ≤ Da := hz
 rw [h]
 exact Maj z f a (by omega) fun k hk => hf _ (by have := Cn (f := Wa e) hk; omega)
def eqR (f : α → α → Option (Bool × Unit)) (t0 t1 : List α) (t5 : Int) : Option (((List α × (List α × (Int × Unit))) × Unit) ⊕ ((Unit × Unit) ⊕ ((Bool × Unit) × Unit))) :=
 cond (decide (t5 < ((ja t0 : Nat) : Int))) (jz (Sb t0 t5) fun x7 => jz (Sb t1 t5) fun x8 => jz (f x7 x8) fun r9 => cond (!r9.1) (some (.inr (.inr ((false, ()), ()))))
  (some (.inl ((t0, t1, j4 .i64 (t5 + 1), ()), ())))) (some (.inr (.inl ((), ()))))
noncomputable def eqG (f : α → α → Option (Bool × Unit)) (a0 a1 : List α) : Option (Bool × Unit) :=
 cond (((ja a0 : Nat) : Int) != ((ja a1 : Nat) : Int)) (some (false, ()))
  (jz (Za (fun x : (List α × (List α × (Int × Unit))) × Unit => eqR f x.1.1 x.1.2.1 x.1.2.2.1) ((a0, a1, (0 : Int), ()), ())) (j6 (fun _ => some (true, ())) (fun z11 => some (z11.1.1, ()))))
theorem Xag (f : α → α → Option (Bool × Unit)) (a : List α) (hn : a.length ≤ Wz) (hf : ∀ k (h : k < a.length), f a[k] a[k] = some (true, ())) : eqG f a a = some (true, ()) := by
 have h40 : Wz = 1099511627776 := rfl
 have hl := BE (step := fun x : (List α × (List α × (Int × Unit))) × Unit => eqR f x.1.1 x.1.2.1 x.1.2.2.1) (fun k => ((a, a, (k : Int), ()), ())) (ja a) (.inl ((), ())) (by
  intro k hk
  simp only [eqR]
  rw [Ba (show (k : Int) < (ja a : Int) by omega), Qb hk]
  simp only [cond_true, jb]
  rw [hf k hk]
  simp only [jb, jg, cond_false]
  rw [Df (by omega)]) (by
  simp [eqR])
 unfold eqG
 rw [bne_self_eq_false']
 simp only [cond_false]
 erw [hl]
 rfl
theorem eqS {e : Ty} {f : T e → T e → Option (Bool × Unit)} {F : List (T e) → List (T e) → Option (Bool × Unit)} (a : List (T e)) (hz : Wa (.sl e) a ≤ Wz) (hf : ∀ x, Wa e x ≤ Wz → f x x = some (true, ())) (h : F a a = eqG f a a) : F a a = some (true, ()) := by
 have hz' : ja a + (List.map (Wa e) a).sum ≤ Wz := hz
 rw [h]
 exact Xag f a (by omega) fun k hk => hf _ (by have := Cn (f := Wa e) hk; omega)
def I3 (f : α → Int → Option (Int × Unit)) (t0 : List α) (t1 t5 : Int) : Option (((List α × (Int × (Int × Unit))) × Unit) ⊕ (((Int × Unit) × Unit) ⊕ ((Int × Unit) × Unit))) :=
 cond (decide (t5 < ((ja t0 : Nat) : Int))) (jz (Sb t0 t5) fun x5 => jz (f x5 t1) fun r6 => cond (decide (r6.1 < (0 : Int))) (some (.inr (.inr (((-1 : Int), ()), ()))))
  (some (.inl ((t0, r6.1, j4 .i64 (t5 + 1), ()), ())))) (some (.inr (.inl ((t1, ()), ()))))
noncomputable def szG (f : α → Int → Option (Int × Unit)) (a0 : List α) (a1 : Int) : Option (Int × Unit) :=
 cond (decide ((j4 .i64 (a1 - ((ja a0 : Nat) : Int))) < (0 : Int))) (some ((-1 : Int), ()))
  (jz (Za (fun x : (List α × (Int × (Int × Unit))) × Unit => I3 f x.1.1 x.1.2.1 x.1.2.2.1) ((a0, j4 .i64 (a1 - ((ja a0 : Nat) : Int)), (0 : Int), ()), ())) (j6 (fun y7 => some (y7.1.1, ())) (fun z8 => some (z8.1.1, ()))))
theorem szS {e : Ty} {f : T e → Int → Option (Int × Unit)} {F : List (T e) → Int → Option (Int × Unit)} (a : List (T e)) (hr : Ew (.sl e) a) (l : Nat) (hl : l ≤ Da)
 (hf : ∀ x, Ew e x → ∀ l : Nat, l ≤ Da → f x (l : Int) = some (ES (Wa e x) l, ())) (hF : F a (l : Int) = szG f a (l : Int)) : F a (l : Int) = some (ES (Wa (.sl e) a) l, ()) := by
 have h20 : Da = 1048576 := rfl
 have hlen : ja a ≤ 9223372036854775807 := hr.1
 rw [hF]
 unfold szG
 rw [Uh (by omega) (by omega)]
 by_cases h : ja a ≤ l
 ·rw [Ca (by omega), show (l : Int) - (ja a : Int) = ((l - ja a : Nat) : Int) by omega]
  simp only [cond_false]
  have hx := Tae (step := fun x : (List (T e) × (Int × (Int × Unit))) × Unit => I3 f x.1.1 x.1.2.1 x.1.2.2.1) a (Wa e) (fun l i => ((a, l, i, ()), ())) (fun l => .inl ((l, ()), ())) (.inr (((-1 : Int), ()), ())) (by
   intro k hk l hl
   simp only [I3]
   rw [Ba (show (k : Int) < (ja a : Int) by omega), Qb hk]
   simp only [cond_true, jb]
   rw [hf a[k] (hr.2 k hk) l hl]
   simp only [jb]
   by_cases hc : Wa e a[k] ≤ l
   ·rw [SF hc, Ca (by omega), if_pos hc]; rfl
   ·rw [GD hc, if_neg hc]; rfl) (by
   intro l
   simp [I3]) (by omega) (l - ja a) (by omega)
  rw [hx]
  simp only [jb]
  have hs : Wa (.sl e) a = ja a + (List.map (Wa e) a).sum := rfl
  rw [hs]
  by_cases h2 : (List.map (Wa e) a).sum ≤ l - ja a
  ·rw [if_pos h2, SF (by omega)]; simp only [qi]; rw [show l - ja a - (List.map (Wa e) a).sum = l - (ja a + (List.map (Wa e) a).sum) by omega]
  ·rw [if_neg h2, GD (by omega)]; rfl
 ·rw [GD (show ¬ Wa (.sl e) a ≤ l by have hs : Wa (.sl e) a = ja a + (List.map (Wa e) a).sum := rfl; omega), Ba (by omega)]; rfl
def Haj (a0 : List α) (a1 : Int) : Option (Int × Unit) :=
 cond (decide ((j4 .i64 (a1 - ((ja a0 : Nat) : Int))) < (0 : Int))) (some ((-1 : Int), ())) (some ((j4 .i64 (a1 - ((ja a0 : Nat) : Int))), ()))
theorem Kaw {e : Ty} {F : List (T e) → Int → Option (Int × Unit)} (a : List (T e)) (hr : Ew (.sl e) a) (l : Nat) (hl : l ≤ Da) (he : (e.flat && !e.hasS) = true) (hF : F a (l : Int) = Haj a (l : Int)) : F a (l : Int) = some (ES (Wa (.sl e) a) l, ()) := by
 have h20 : Da = 1048576 := rfl
 have hlen : ja a ≤ 9223372036854775807 := hr.1
 rw [hF]
 unfold Haj
 rw [Uh (by omega) (by omega), Wu he a]
 by_cases h : ja a ≤ l
 ·rw [SF h, Ca (by omega), show (l : Int) - (ja a : Int) = ((l - ja a : Nat) : Int) by omega]; rfl
 ·rw [GD h, Ba (by omega)]; rfl
end
end KF
