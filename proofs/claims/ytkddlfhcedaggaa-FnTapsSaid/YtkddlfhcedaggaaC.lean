/- An evaluator of Go functions on plain data, its soundness, and plain laws on what the functions compute, part 3 (conditions: as each lemma tells). -/
import Derived.Test.YtkddlfhcedaggaaB
import Derived.LoopN
import Derived.ChangeArms
import Derived.ChangeStays
import Derived.ChangeSame
import Derived.WideShapes
import Derived.RowKit
import Derived.Handed
import Derived.JoinedOf
import Derived.Shelf.Sort.Plain
import Derived.Shelf.Slices.In.SortNone2
import Derived.IntWalk
set_option linter.unusedSimpArgs false
set_option linter.unusedVariables false
namespace KF
open Go
open List renaming length → ja, getElem?_eq_getElem → je, append → jf, mem_append → jl, mem_cons → jp, mem_cons_of_mem → jr, length_cons → jw, set → j6, length_nil → j7, length_set → j8, mem_singleton → qd, length_append → qe, getElem?_append_left → qg, getElem?_append_right → qh, getD_eq_getElem?_getD → qi, getElem_mem → qn, mem_of_mem_drop → qo, getElem_of_mem → qp, mem_map → qq, length_drop → qr, mem_cons_self → qt
open Option renaming bind_some → jb, bind → jz, map_some → qc, bind_eq_some_iff → qf
open Option.some renaming injEq → jc
open Bool renaming and_eq_true → jd, not_true → jg, true_and → jk, false_eq_true → jq, not_false → j9, not_eq_true → qa, eq_iff_iff → qs
open Prod.mk renaming injEq → jh
open Nat renaming ble_eq_true_of_le → ji, mul_le_mul_right → jm, le_refl → jo, zero_add → js, add_assoc → jt, eq_of_beq_eq_true → ju, ble → jx, le_trans → qb, lt_of_lt_of_le → qk, testBit_two_pow → ql, xor_lt_two_pow → qm
open Int renaming toNat_natCast → jn, eq_ofNat_of_zero_le → jv, toNat → jy
open Go.IntKind renaming wrap → j4, wrap → j5
open Sum renaming elim_inl → qj
open Result renaming andThen_ok → qu
open Sem renaming run_bind → qv
theorem VP {s : AS} : ∀ {td : TD} {d : D} {x : T td.ty} {m : Xg}, Fd s td d = some (x, m) → (Yl td x).isAgg = d.isAgg := by
 intro td
 cases td with
 | data τ =>
  intro d x m h
  simp only [Fd] at h
  split at h
  ·rename_i y hy
   simp only [jc, jh] at h
   obtain ⟨rfl, _⟩ := h
   have hs := (Ff (w := default) (σ := fun _ => undef) (O := fun _ => False) (hp := fun _ => none) hy).1
   rw [hs.isAgg]
   cases τ <;> rfl
  ·simp at h
 | own id e dp =>
  intro d x m h
  cases d <;> simp [Fd] at h <;> rfl
 | ptr id p =>
  intro d x m h
  cases d <;> simp [Fd] at h <;> rfl
 | hol id e p τ td =>
  intro d x m h
  cases d <;> simp [Fd] at h <;> rfl
 | arr id e =>
  intro d x m h
  cases d <;> first | rfl | (simp [Fd] at h; done)
 | mov id e =>
  intro d x m h
  cases d <;> simp [Fd] at h <;> rfl
 | pr a b =>
  intro d x m h
  simp only [Fd] at h
  cases d with
  | t τ v => cases τ <;> simp [D.fst] at h <;> rfl
  | pr u v => rfl
  | _ => simp [D.fst] at h
 | un =>
  intro d x m h
  simp only [Fd] at h
  split at h
  ·rename_i y hy
   have hs := (Ff (w := default) (σ := fun _ => undef) (O := fun _ => False) (hp := fun _ => none) hy).1
   rw [hs.isAgg]
   rfl
  ·simp at h
def Vy (m m' : Xg) : Prop := ∀ p, p ∈ m → p ∈ m'
section
variable {w : World} {s : AS} {σ σ' : Nat → Value} {O O' : Nat → Prop} {hp' : Nat → Option Ha} {m : Xg}
structure SZ (s : AS) (σ σ' : Nat → Value) (hp' : Nat → Option Ha) (m : Xg) : Prop where
 isS : ∀ j i, (j, some i) ∈ m → σ' j = σ i
 isN : ∀ j, (j, none) ∈ m → σ' j = .slice none 0 0
 isB : ∀ j i ρ d, (j, some i) ∈ m → hp' j = some (.box ρ d) → ∃ d', s.heap i = some (.box ρ d')
 isR : ∀ j i Ca r, (j, some i) ∈ m → hp' j = some Ca → Ca.rowN = some r → ∃ blk', s.heap i = some blk' ∧ blk'.rowN = some r
theorem WA (hT : SZ s σ σ' hp' m) (hO : ∀ b, b < w.heap.size → ¬ O b → ¬ O' b) : ∀ {td : TD} {d : D} {x : T td.ty} {m0 : Xg} {cs : List Value}, Fd s td d = some (x, m0) → Vy m0 m → Qa w O s.heap σ d cs →
 Qa w O' hp' σ' (Yl td x) cs := by
 intro td
 induction td with
 | data τ =>
  intro d x m0 cs h hm hr
  simp only [Fd] at h
  split at h
  ·rename_i y hy
   simp only [jc, jh] at h
   obtain ⟨rfl, _⟩ := h
   exact Ma.stable (fun _ _ _ => rfl) hO ((Ff hy).2 _ hr)
  ·simp at h
 | own id' e dp =>
  intro d x m0 cs h hm hr
  cases d with
  | own id =>
   simp only [Fd] at h
   split at h
   ·rename_i e' dp' xs hb
    split at h
    ·rename_i q hq
     subst q
     simp only [Ba] at h
     obtain ⟨_, h⟩ := h
     simp only [jc, jh] at h
     obtain ⟨rfl, rfl⟩ := h
     obtain ⟨v, hcs, h1, hv⟩ := hr
     refine ⟨v, hcs, h1, fun _ _ _ _ => ?_⟩
     rw [hT.isS id' id (hm _ (by simp))]
     exact hv _ _ hb rfl
    ·simp at h
   ·simp at h
  | nil =>
   simp only [Fd, jc, jh] at h
   obtain ⟨rfl, rfl⟩ := h
   simp only [Qa] at hr
   exact ⟨_, hr, rfl, fun _ _ _ _ => (hT.isN id' (hm _ (by simp))).symm⟩
  | _ => simp [Fd] at h
 | hol id' e p τ td _ =>
  intro d x m0 cs h hm hr
  cases d with
  | own id =>
   simp only [Fd] at h
   split at h
   ·rename_i e' xs i x1 p' τ' d' hb
    split at h
    ·simp only [Ba] at h
     obtain ⟨_, h⟩ := h
     split at h
     ·rename_i y m1 h1
      simp only [Ba] at h
      obtain ⟨_, h⟩ := h
      simp only [jc, jh] at h
      obtain ⟨rfl, rfl⟩ := h
      obtain ⟨v, hcs, h1, hv⟩ := hr
      refine ⟨v, hcs, h1, fun _ _ _ _ => ?_⟩
      rw [hT.isS id' id (hm _ (by simp))]
      exact hv _ _ hb rfl
     ·simp at h
    ·simp at h
   ·simp at h
  | _ => simp [Fd] at h
 | arr id' e =>
  intro d x m0 cs h hm hr
  cases d with
  | eptr id i q =>
   cases i with
   | succ i => simp [Fd] at h
   | zero =>
    cases q with
    | cons _ _ => simp [Fd] at h
    | nil =>
     simp only [Fd] at h
     split at h
     ·rename_i e' xs hb
      split at h
      ·rename_i q hq
       subst q
       simp only [jc, jh] at h
       obtain ⟨rfl, rfl⟩ := h
       obtain ⟨v, hcs, h1, hv⟩ := hr
       refine ⟨v, hcs, h1, fun blk' e2 n2 hb' hr' => ?_⟩
       obtain ⟨blk0, hb0, hr0⟩ := hT.isR id' id blk' _ (hm _ (by simp)) hb' hr'
       rw [hT.isS id' id (hm _ (by simp))]
       exact hv _ _ _ hb0 hr0
      ·simp at h
     ·simp at h
  | _ => simp [Fd] at h
 | mov id' e =>
  intro d x m0 cs h hm hr
  cases d with
  | own id =>
   simp only [Fd] at h
   split at h
   ·rename_i e' xs hb
    split at h
    ·rename_i q hq
     subst q
     simp only [jc, jh] at h
     obtain ⟨rfl, rfl⟩ := h
     obtain ⟨v, hcs, h1, hv⟩ := hr
     refine ⟨v, hcs, h1, fun _ _ _ _ => ?_⟩
     rw [hT.isS id' id (hm _ (by simp))]
     exact hv _ _ hb rfl
    ·simp at h
   ·rename_i e' xs k hb
    split at h
    ·rename_i q hq
     subst q
     simp only [jc, jh] at h
     obtain ⟨rfl, rfl⟩ := h
     obtain ⟨v, hcs, h1, hv⟩ := hr
     refine ⟨v, hcs, h1, fun _ _ _ _ => ?_⟩
     rw [hT.isS id' id (hm _ (by simp))]
     exact hv _ _ hb rfl
    ·simp at h
   ·simp at h
  | _ => simp [Fd] at h
 | ptr id' p =>
  intro d x m0 cs h hm hr
  cases d with
  | ptr id q =>
   simp only [Fd, Ba] at h
   obtain ⟨hpq, h⟩ := h
   simp only [jc, jh] at h
   obtain ⟨_, rfl⟩ := h
   have hpq' : p = q := by simpa using hpq
   subst hpq'
   obtain ⟨v, hcs, h1, hv⟩ := hr
   refine ⟨v, hcs, h1, fun ρ d hb => ?_⟩
   obtain ⟨d', hd'⟩ := hT.isB id' id ρ d (hm _ (by simp)) hb
   rw [hT.isS id' id (hm _ (by simp))]
   exact hv ρ d' hd'
  | _ => simp [Fd] at h
 | pr a b iha ihb =>
  intro d x m0 cs h hm hr
  simp only [Fd] at h
  split at h
  ·rename_i d1 d2 h1 h2
   split at h
   ·rename_i u l v l' h3 h4
    simp only [jc, jh] at h
    obtain ⟨rfl, rfl⟩ := h
    have key : ∃ c1 c2, cs = c1 ++ c2 ∧ Qa w O s.heap σ d1 c1 ∧ Qa w O s.heap σ d2 c2 := by
     cases d with
     | t τ v =>
      cases τ with
      | p t1 t2 =>
       simp only [D.fst, D.snd, jc] at h1 h2
       subst h1; subst h2
       exact hr
      | _ => simp [D.fst] at h1
     | pr d1' d2' =>
      simp only [D.fst, D.snd, jc] at h1 h2
      subst h1; subst h2
      exact hr
     | _ => simp [D.fst] at h1
    obtain ⟨c1, c2, hc, r1, r2⟩ := key
    exact ⟨c1, c2, hc, iha h3 (fun p hp => hm p (List.mem_append_left _ hp)) r1, ihb h4 (fun p hp => hm p (List.mem_append_right _ hp)) r2⟩
   ·simp at h
  ·simp at h
 | un =>
  intro d x m0 cs h hm hr
  simp only [Fd] at h
  split at h
  ·rename_i y hy
   exact (Ff hy).2 _ hr
  ·simp at h
theorem TT (hT : SZ s σ σ' hp' m) (hO : ∀ b, b < w.heap.size → ¬ O b → ¬ O' b) {td : TD} {d : D} {x : T td.ty} {m0 : Xg} {v : Value} (h : Fd s td d = some (x, m0)) (hm : Vy m0 m) (hr : Ic w O s.heap σ d v) :
 Ic w O' hp' σ' (Yl td x) v := by
 have hne : Jd w O s.heap σ d v := by
  cases d with
  | und => cases td <;> simp [Fd, Vg, D.fst] at h
  | anyv => cases td <;> simp [Fd, Vg, D.fst] at h
  | tup ds => cases td <;> simp [Fd, Vg, D.fst] at h
  | _ => exact hr
 refine Gr ?_
 unfold Jd at hne ⊢
 rw [VP h]
 split
 ·rename_i ha
  rw [if_pos ha] at hne
  obtain ⟨cs, h1, h2⟩ := hne
  exact ⟨cs, h1, WA hT hO h hm h2⟩
 ·rename_i ha
  rw [if_neg ha] at hne
  exact WA hT hO h hm hne
def YH (s : AS) (m : Xg) (j : Nat) (Ca : Ha) : Prop :=
 ((j, none) ∈ m ∧ ∃ e dp, Ca = .row e dp ([] : List (T e))) ∨
 ∃ i, (j, some i) ∈ m ∧ ((∃ e dp dp' xs, Ca = .row e dp xs ∧ s.heap i = some (.row e dp' xs) ∧ (dp' = dp ∨ e.flat = true)) ∨
  (∃ ρ d td x m0, Ca = .box ρ (Yl td x) ∧ s.heap i = some (.box ρ d) ∧ Fd s td d = some (x, m0) ∧ Vy m0 m ∧ Sa ρ (Yl td x)) ∨
  (∃ e xs k x p τ d td y m0, Ca = .hol e xs k x p τ (Yl td y) ∧ s.heap i = some (.hol e xs k x p τ d) ∧ Fd s td d = some (y, m0) ∧ Vy m0 m ∧ Sa τ (Yl td y)) ∨
  ∃ e xs k, Ca = .mov e xs k ∧ (s.heap i = some (.mov e xs k) ∨ (s.heap i = some (.row e true xs) ∧ k = 0)))
theorem UB : ∀ {td : TD} {d : D} {x : T td.ty} {m0 : Xg}, Fd s td d = some (x, m0) → Vy m0 m → ∀ p, p ∈ Bq td x → ∃ Ca, p.2 = some Ca ∧ YH s m p.1 Ca := by
 intro td
 induction td with
 | own id' e dp =>
  intro d x m0 h hm p hp
  simp only [Bq, qd] at hp
  subst hp
  cases d with
  | own id =>
   simp only [Fd] at h
   split at h
   ·rename_i e' dp' xs hb
    split at h
    ·rename_i q hq
     subst q
     simp only [Ba] at h
     obtain ⟨hc, h⟩ := h
     simp only [jc, jh] at h
     obtain ⟨rfl, rfl⟩ := h
     refine ⟨_, rfl, .inr ⟨id, hm _ (by simp), .inl ⟨_, dp, dp', _, rfl, hb, ?_⟩⟩⟩
     simpa using hc
    ·simp at h
   ·simp at h
  | nil =>
   simp only [Fd, jc, jh] at h
   obtain ⟨rfl, rfl⟩ := h
   exact ⟨_, rfl, .inl ⟨hm _ (by simp), e, dp, rfl⟩⟩
  | _ => simp [Fd] at h
 | hol id' e pth τ td ih =>
  intro d x m0 h hm p hp
  cases d with
  | own id =>
   simp only [Fd] at h
   split at h
   ·rename_i e' xs i x1 p' τ' d' hb
    split at h
    ·rename_i q1 q2 hq1 hq2
     subst q1
     obtain rfl := Hd hq2
     simp only [Ba] at h
     obtain ⟨hpp, h⟩ := h
     have hpp : pth = p' := by simpa using hpp
     subst hpp
     split at h
     ·rename_i y m1 h1
      simp only [Ba] at h
      obtain ⟨hsh, h⟩ := h
      simp only [jc, jh] at h
      obtain ⟨rfl, rfl⟩ := h
      simp only [Bq] at hp
      rcases jp.1 hp with rfl | hp
      ·exact ⟨_, rfl, .inr ⟨id, hm _ (by simp), .inr (.inr (.inl ⟨_, _, i, _, _, _, d', td, y, m1, by simp only [jn], hb, h1, fun p hp => hm p (jr _ hp), Bi hsh⟩))⟩⟩
      ·exact ih h1 (fun p hp => hm p (jr _ hp)) p hp
     ·simp at h
    ·simp at h
   ·simp at h
  | _ => simp [Fd] at h
 | pr a b iha ihb =>
  intro d x m0 h hm p hp
  simp only [Fd] at h
  split at h
  ·split at h
   ·rename_i u l v l' h3 h4
    simp only [jc, jh] at h
    obtain ⟨rfl, rfl⟩ := h
    simp only [Bq] at hp
    rcases jl.1 hp with hp | hp
    ·exact iha h3 (fun p hp => hm p (List.mem_append_left _ hp)) p hp
    ·exact ihb h4 (fun p hp => hm p (List.mem_append_right _ hp)) p hp
   ·simp at h
  ·simp at h
 | arr id' e =>
  intro d x m0 h hm p hp
  simp only [Bq, qd] at hp
  subst hp
  cases d with
  | eptr id i q =>
   cases i with
   | succ i => simp [Fd] at h
   | zero =>
    cases q with
    | cons _ _ => simp [Fd] at h
    | nil =>
     simp only [Fd] at h
     split at h
     ·rename_i e' xs hb
      split at h
      ·rename_i q hq
       subst q
       simp only [jc, jh] at h
       obtain ⟨rfl, rfl⟩ := h
       exact ⟨_, rfl, .inr ⟨id, hm _ (by simp), .inl ⟨_, true, true, _, rfl, hb, .inl rfl⟩⟩⟩
      ·simp at h
     ·simp at h
  | _ => simp [Fd] at h
 | mov id' e =>
  intro d x m0 h hm p hp
  simp only [Bq, qd] at hp
  subst hp
  cases d with
  | own id =>
   simp only [Fd] at h
   split at h
   ·rename_i e' xs hb
    split at h
    ·rename_i q hq
     subst q
     simp only [jc, jh] at h
     obtain ⟨rfl, rfl⟩ := h
     exact ⟨_, rfl, .inr ⟨id, hm _ (by simp), .inr (.inr (.inr ⟨_, _, 0, rfl, .inr ⟨hb, rfl⟩⟩))⟩⟩
    ·simp at h
   ·rename_i e' xs k hb
    split at h
    ·rename_i q hq
     subst q
     simp only [jc, jh] at h
     obtain ⟨rfl, rfl⟩ := h
     exact ⟨_, rfl, .inr ⟨id, hm _ (by simp), .inr (.inr (.inr ⟨_, _, k, by simp only [jn], .inl hb⟩))⟩⟩
    ·simp at h
   ·simp at h
  | _ => simp [Fd] at h
 | _ => intro d x m0 h hm p hp; simp [Bq] at hp
theorem NL : ∀ {l : List (Tmp × TD)} {x : T (Hp.tyT l)} {m0 : Xg}, QN s l = some (x, m0) → Vy m0 m →
 (∀ t d', Va (OE l x) t = some d' → ∃ td d y m1, Va s.tm t = some d ∧ Fd s td d = some (y, m1) ∧ Vy m1 m ∧ d' = Yl td y) ∧ (∀ p, p ∈ BF l x → ∃ Ca, p.2 = some Ca ∧ YH s m p.1 Ca)
 | [], x, m0, h, hm => ⟨by simp [OE, Va], by simp [BF]⟩
 | (t0, td) :: r, x, m0, h, hm => by
  simp only [QN] at h
  split at h
  ·rename_i d hd
   split at h
   ·rename_i y m1 z m2 h1 h2
    simp only [jc, jh] at h
    obtain ⟨rfl, rfl⟩ := h
    have hm1 : Vy m1 m := fun p hp => hm p (List.mem_append_left _ hp)
    obtain ⟨i1, i2⟩ := NL h2 (fun p hp => hm p (List.mem_append_right _ hp))
    refine ⟨fun t d' ht => ?_, fun p hp => ?_⟩
    ·simp only [OE] at ht
     rw [Bc] at ht
     split at ht
     ·rename_i e
      subst e
      simp only [jc] at ht
      exact ⟨td, d, y, m1, hd, h1, hm1, ht.symm⟩
     ·exact i1 t d' ht
    ·simp only [BF] at hp
     rcases jl.1 hp with hp | hp
     ·exact UB h1 hm1 p hp
     ·exact i2 p hp
   ·simp at h
  ·simp at h
theorem ML : ∀ {l : List (Nat × Ty × TD)} {x : T (Hp.tyB l)} {m0 m' : Xg}, YI s l m0 = some (x, m') → Vy m' m →
 Vy m0 m ∧ ∀ p, p ∈ NE l x → ∃ Ca, p.2 = some Ca ∧ YH s m p.1 Ca
 | [], x, m0, m', h, hm => by
  simp only [YI, jc, jh] at h
  obtain ⟨_, rfl⟩ := h
  exact ⟨hm, by simp [NE]⟩
 | (id', ρ, td) :: r, x, m0, m', h, hm => by
  simp only [YI] at h
  split at h
  ·rename_i id hid
   split at h
   ·rename_i ρ' d hb
    split at h
    ·rename_i q hq
     obtain rfl := q.down
     split at h
     ·rename_i y m1 h1
      simp only [Ba] at h
      obtain ⟨hsh, h⟩ := h
      split at h
      ·rename_i z m2 h2
       simp only [jc, jh] at h
       obtain ⟨rfl, rfl⟩ := h
       obtain ⟨i1, i2⟩ := ML h2 hm
       have hm0 : Vy m0 m := fun p hp => i1 p (List.mem_append_left _ hp)
       have hm1 : Vy m1 m := fun p hp => i1 p (List.mem_append_right _ hp)
       refine ⟨hm0, fun p hp => ?_⟩
       simp only [NE] at hp
       rcases jp.1 hp with rfl | hp
       ·exact ⟨_, rfl, .inr ⟨id, hm0 _ (Vn hid), .inr (.inl ⟨_, d, td, y, m1, rfl, hb, h1, hm1, Bi hsh⟩)⟩⟩
       ·rcases jl.1 hp with hp | hp
        ·exact UB h1 hm1 p hp
        ·exact i2 p hp
      ·simp at h
     ·simp at h
    ·simp at h
   ·simp at h
  ·simp at h
end
theorem Ly : ∀ {m : Xg}, Ju m = true → ∀ j i, (j, some i) ∈ m → (j < 500000 ∧ i < 500000) ∨ j = i
 | [], _, _, _, h => by simp at h
 | (j0, some i0) :: r, hp, j, i, h => by
  simp only [Ju, jd, Bool.or_eq_true] at hp
  rcases jp.1 h with e | h
  ·simp only [jh, jc] at e
   obtain ⟨rfl, rfl⟩ := e
   rcases hp.1 with h1 | h1
   ·rw [Nat.blt_eq, Nat.blt_eq] at h1; exact .inl h1
   ·exact .inr (ju h1)
  ·exact Ly hp.2 j i h
 | (j0, none) :: r, hp, j, i, h => by
  simp only [Ju, jd] at hp
  rcases jp.1 h with e | h
  ·simp at e
  ·exact Ly hp.2 j i h
theorem Ky : ∀ {m : Xg}, Ju m = true → ∀ j, (j, none) ∈ m → j < 500000
 | [], _, _, h => by simp at h
 | (j0, some i0) :: r, hp, j, h => by
  simp only [Ju, jd] at hp
  rcases jp.1 h with e | h
  ·simp at e
  ·exact Ky hp.2 j h
 | (j0, none) :: r, hp, j, h => by
  simp only [Ju, jd] at hp
  rcases jp.1 h with e | h
  ·simp only [jh, and_true] at e
   subst e
   have := hp.1
   rwa [Nat.blt_eq] at this
  ·exact Ky hp.2 j h
theorem AM {m : Xg} (h : (m.all fun x => m.all fun y => Ot x y) = true) {x y : Nat × Option Nat} (hx : x ∈ m) (hy : y ∈ m) : Ot x y = true :=
 List.all_eq_true.1 (List.all_eq_true.1 h x hx) y hy
theorem WU {m : Xg} (h : (m.all fun x => m.all fun y => Ot x y) = true) {j : Nat} {a c : Option Nat} (hx : (j, a) ∈ m) (hy : (j, c) ∈ m) : a = c := by
 have := AM h hx hy
 unfold Ot at this
 cases a with
 | none => cases c with
  | none => rfl
  | some c => simp at this
 | some a => cases c with
  | none => simp at this
  | some c => simpa [Nat.beq_eq] using this
theorem XU {m : Xg} (h : (m.all fun x => m.all fun y => Ot x y) = true) {j j' i : Nat} (hx : (j, some i) ∈ m) (hy : (j', some i) ∈ m) : j = j' := by
 have := AM h hx hy
 unfold Ot at this
 simpa using this
theorem JG {α : Type} {j : Nat} {a : α} : ∀ {m : List (Nat × α)}, (j, a) ∈ m → ∃ c, Va m j = some c ∧ (j, c) ∈ m
 | [], h => by simp at h
 | (j0, a0) :: r, h => by
  rw [Bc]
  by_cases hj : j0 = j
  ·subst hj; exact ⟨a0, by simp, by simp⟩
  ·rw [if_neg hj]
   rcases jp.1 h with e | h
   ·simp only [jh] at e
    exact absurd e.1.symm hj
   ·obtain ⟨c, h1, h2⟩ := JG h
    exact ⟨c, h1, jr _ h2⟩
theorem Wn {m : Xg} (h : (m.all fun x => m.all fun y => Ot x y) = true) {j : Nat} {a : Option Nat} (hx : (j, a) ∈ m) : Va m j = some a := by
 obtain ⟨c, h1, h2⟩ := JG hx
 rw [h1, WU h hx h2]
section
variable {n0 : Nat} {A : Fx} {O0 : Nat → Prop} {w0 w : World} {s : AS} {σ : Nat → Value} {φ : Nat → List Nat} {a : Act}
theorem YA (h : Pa n0 A O0 w0 s σ φ a w) {p : Hp} {x : p.X} (he : ext p s = some x) : ∃ σ' φ', Pa n0 A O0 w0 (Fv p x s.n) σ' φ' a w := by
 unfold ext at he
 split at he
 ·rename_i x1 m1 h1
  split at he
  ·rename_i x2 m h2
   simp only [Ba] at he
   obtain ⟨hmo, he⟩ := he
   simp only [jc] at he
   subst he
   simp only [GW, jd] at hmo
   obtain ⟨hn1, hpo⟩ := hmo
   obtain ⟨hm1, hB⟩ := ML h2 (fun p hp => hp)
   obtain ⟨hT1, hT2⟩ := NL h1 hm1
   let σ' : Nat → Value := fun j => match Va m j with
    | some (some i) => σ i
    | some none => .slice none 0 0
    | none => σ j
   let φ' : Nat → List Nat := fun j => match Va m j with
    | some (some i) => φ i
    | _ => []
   have hσs : ∀ j i, (j, some i) ∈ m → σ' j = σ i ∧ φ' j = φ i := fun j i hj => by
    have := Wn hn1 hj
    simp only [σ', φ', this, and_self]
   have hσn : ∀ j, (j, none) ∈ m → σ' j = .slice none 0 0 ∧ φ' j = [] := fun j hj => by
    have := Wn hn1 hj
    simp only [σ', φ', this, and_self]
   have hent : ∀ j Ca, (Fv p (x1, x2) s.n).heap j = some Ca → YH s m j Ca := by
    intro j Ca hj
    have hmem := AS.heap_mem hj
    simp only [Fv] at hmem
    rcases jl.1 hmem with hmem | hmem
    ·obtain ⟨blk', e, hE⟩ := hT2 _ hmem
     simp only [jc] at e
     subst e
     exact hE
    ·obtain ⟨blk', e, hE⟩ := hB _ hmem
     simp only [jc] at e
     subst e
     exact hE
   have hlive : ∀ j Ca, (Fv p (x1, x2) s.n).heap j = some Ca → φ' j = [] ∨ ∃ i blk0, (j, some i) ∈ m ∧ s.heap i = some blk0 ∧ φ' j = φ i := by
    intro j Ca hj
    rcases hent j Ca hj with ⟨hn, _⟩ | ⟨i, hi, ⟨e, dp, dp', xs, _, hb, _⟩ | ⟨ρ, d, td, y, m0, _, hb, _⟩ | ⟨e, xs, k, x, p, τ, d, td, y, m0, _, hb, _⟩ | ⟨e, xs, k, _, hb | ⟨hb, _⟩⟩⟩
    ·exact .inl (hσn j hn).2
    ·exact .inr ⟨i, _, hi, hb, (hσs j i hi).2⟩
    ·exact .inr ⟨i, _, hi, hb, (hσs j i hi).2⟩
    ·exact .inr ⟨i, _, hi, hb, (hσs j i hi).2⟩
    ·exact .inr ⟨i, _, hi, hb, (hσs j i hi).2⟩
    ·exact .inr ⟨i, _, hi, hb, (hσs j i hi).2⟩
   have hOO : ∀ b, b < w.heap.size → ¬ OO O0 s φ b → ¬ OO O0 (Fv p (x1, x2) s.n) φ' b := by
    rintro b _ hno (ho | ⟨j, Ca, hj, hm⟩)
    ·exact hno (.inl ho)
    ·rcases hlive j Ca hj with hφ | ⟨i, blk0, _, hb, hφ⟩
     ·rw [hφ] at hm; simp at hm
     ·rw [hφ] at hm; exact hno (.inr ⟨i, blk0, hb, hm⟩)
   have hTOk : SZ s σ σ' (Fv p (x1, x2) s.n).heap m := by
    refine ⟨fun j i hj => (hσs j i hj).1, fun j hj => (hσn j hj).1, fun j i ρ d hj hb => ?_, fun j i Ca r hj hb hr => ?_⟩
    rcases hent j _ hb with ⟨hn, e, dp, hh⟩ | ⟨i', hi', ⟨e, dp, dp', xs, hh, _⟩ | ⟨ρ', d', td, y, m0, hh, hb', _⟩ | ⟨e, xs, k, x, p, τ, d', td, y, m0, hh, _⟩ | ⟨e, xs, k, hh, _⟩⟩
    ·simp at hh
    ·simp at hh
    ·simp only [Ha.box.injEq] at hh
     have e1 := Wn hn1 hj
     have e2 := Wn hn1 hi'
     rw [e1] at e2
     simp only [jc] at e2
     subst e2
     exact ⟨d', by rw [hb', hh.1]⟩
    ·simp at hh
    ·simp at hh
    ·have e1 := Wn hn1 hj
     rcases hent j _ hb with ⟨hn, _⟩ | ⟨i', hi', hx⟩
     ·have e2 := Wn hn1 hn
      rw [e1] at e2
      simp at e2
     ·have e2 := Wn hn1 hi'
      rw [e1] at e2
      simp only [jc] at e2
      subst e2
      rcases hx with ⟨e, dp, dp', xs, rfl, hb', _⟩ | ⟨ρ', d', td, y, m0, rfl, _⟩ | ⟨e, xs, k, x, p, τ, d', td, y, m0, rfl, hb', _⟩ | ⟨e, xs, k, rfl, hb' | ⟨hb', _⟩⟩
      ·exact ⟨_, hb', hr⟩
      ·simp [Ha.rowN] at hr
      ·exact ⟨_, hb', hr⟩
      ·exact ⟨_, hb', hr⟩
      ·exact ⟨_, hb', hr⟩
   refine ⟨σ', φ', h.sz, h.df, ?_, ?_, ?_, ?_, ?_, h.o0, h.fr, ?_, h.iv0, h.ivw⟩
   ·intro t d' hd
    obtain ⟨td, d, y, m0, g1, g2, g3, g4⟩ := hT1 t d' hd
    obtain ⟨v, hv, hr⟩ := h.tm t d g1
    rw [g4]
    exact ⟨v, hv, TT hTOk hOO g2 g3 hr⟩
   ·intro j Ca hj
    rcases hent j Ca hj with ⟨hn, e, dp, rfl⟩ | ⟨i, hi, ⟨e, dp, dp', xs, rfl, hb, hd⟩ | ⟨ρ, d, td, y, m0, rfl, hb, hex, hsub, hsh⟩ | ⟨e, xs, k, x, p, τ, d, td, y, m0, rfl, hb, hex, hsub, hsh⟩ | ⟨e, xs, k, rfl, hb⟩⟩
    ·rw [Oh, (hσn j hn).1, (hσn j hn).2]
     exact ⟨by simp, .inl ⟨rfl, rfl, rfl⟩⟩
    ·rw [Oh, (hσs j i hi).1, (hσs j i hi).2]
     have hrow := Oh.1 (h.hp i _ hb)
     have hst : ∀ dq, Hg w (OO O0 s φ) dq e xs (σ i) (φ i) → Hg w (OO O0 (Fv p (x1, x2) s.n) φ') dq e xs (σ i) (φ i) := by
      rintro dq ⟨hm, g | ⟨bl, off, cap, cur, et, Fs, g1, hh, g2, g3, g4, hF, hel⟩⟩
      ·exact ⟨hm, .inl g⟩
      ·exact ⟨hm, .inr ⟨bl, off, cap, cur, et, Fs, g1, hh, g2, g3, g4, hF, hel.stable (fun _ _ _ => rfl) hOO (fun _ _ => rfl)⟩⟩
     rcases hd with rfl | hf
     ·exact hst _ hrow
     ·have hup := hrow.up
      rw [hf, Bool.or_true] at hup
      cases dp with
      | true => exact hst _ hup
      | false =>
       cases dp' with
       | false => exact hst _ hrow
       | true =>
        have hown := DB (h.hp i _ hb) (.inl rfl)
        exact hst _ (Oh.1 (CG (O := OO O0 s φ) (hp := s.heap) hown hf))
    ·rw [(hσs j i hi).2]
     obtain ⟨_, b, cur, et, g1, hh, hF, hr, hsz⟩ := h.hp i _ hb
     exact ⟨hsh, b, cur, et, by rw [(hσs j i hi).1]; exact g1, hh, hF, WA hTOk hOO hex hsub hr, hsz⟩
    ·rw [(hσs j i hi).2]
     obtain ⟨_, g1, g2, g3, bl, off, cap, cur, et, g4, g5, g6, g7, hr, hw⟩ := h.hp i _ hb
     refine ⟨hsh, g1, g2, g3, bl, off, cap, cur, et, by rw [(hσs j i hi).1]; exact g4, g5, g6, g7, WA hTOk hOO hex hsub hr, fun w' c' h1 h2 h3 y Fy x' h4 h5 => ?_⟩
     rw [(hσs j i hi).1]
     exact hw w' c' h1 h2 h3 y Fy x' h4 h5
    ·rw [(hσs j i hi).2]
     have hm0 : Yb w (OO O0 s φ) s.heap σ i (.mov e xs k) (φ i) := by
      rcases hb with hb | ⟨hb, rfl⟩
      ·exact h.hp i _ hb
      ·exact DK (h.hp i _ hb)
     obtain ⟨hlen, ⟨g1, g2, g3⟩ | ⟨bl, off, cap, cur, et, Fs, g1, g⟩⟩ := hm0
     ·exact ⟨hlen, .inl ⟨by rw [(hσs j i hi).1]; exact g1, g2, g3⟩⟩
     ·exact ⟨hlen, .inr ⟨bl, off, cap, cur, et, Fs, by rw [(hσs j i hi).1]; exact g1, g⟩⟩
   ·intro j Ca hj
    rcases hlive j Ca hj with hφ | ⟨i, blk0, _, hb, hφ⟩
    ·rw [hφ]; exact List.nodup_nil
    ·rw [hφ]; exact h.nodup i blk0 hb
   ·intro j j' Ca blk' hne hj hj' b hb hb'
    rcases hlive j Ca hj with hφ | ⟨i, blk0, hi, hbi, hφ⟩
    ·rw [hφ] at hb; simp at hb
    ·rcases hlive j' blk' hj' with hφ' | ⟨i', blk0', hi', hbi', hφ'⟩
     ·rw [hφ'] at hb'; simp at hb'
     ·rw [hφ] at hb
      rw [hφ'] at hb'
      by_cases hii : i = i'
      ·subst hii
       exact hne (XU hn1 hi hi')
      ·exact h.disj i i' blk0 blk0' hii hbi hbi' b hb hb'
   ·intro j Ca hj b hb
    rcases hlive j Ca hj with hφ | ⟨i, blk0, _, hbi, hφ⟩
    ·rw [hφ] at hb; simp at hb
    ·rw [hφ] at hb; exact h.fresh i blk0 hbi b hb
   ·intro j v hv
    have hlow := A.low j v hv
    show σ' j = v
    simp only [σ']
    split
    ·rename_i i hg
     rcases Ly hpo j i (Vn hg) with ⟨hj, _⟩ | rfl
     ·omega
     ·exact h.pin _ v hv
    ·rename_i hg
     have := Ky hpo j (Vn hg)
     omega
    ·exact h.pin j v hv
  ·simp at he
 ·simp at he
end
def C0 : Ex → Exit
 | .normal => .normal
 | .exit id => .exit id
 | .ret => .ret
def Tt {X R : Type} (step : X → Option (X ⊕ R)) : Nat → X → R → Prop
 | 0, _, _ => False
 | n + 1, x, r => step x = some (.inr r) ∨ ∃ x', step x = some (.inl x') ∧ Tt step n x' r
def Wc : Code → List Code
 | .seq a b => Wc a ++ Wc b
 | .cond _ a b => Wc a ++ Wc b
 | .block _ c => Wc c
 | .loop c => c :: Wc c
 | _ => []
def Rb (G : Od) (L : List (Nat × Eb)) (b : Code) : Prop :=
 ∀ r ls, Bh b = some r → Va L r = some ls → ∀ x y, ls.F x = some y → ∃ m, Tt (Fw G L ls b) m x y
section
variable {P : Program} {n0 : Nat} {A : Fx} {O0 : Nat → Prop} {w0 : World} {G : Od} {L : List (Nat × Eb)}
theorem AE (hG : Wg P A.I G) (hfz : G.fz = true → ∀ b, ¬ A.A b) (hm : P.follows .mixedOrders = true) : ∀ (c : Code), (∀ b, b ∈ Wc c → Rb G L b) → ∀ {Out : Type} {k : Ex → AS → Option Out} {out : Out} {s : AS} {σ : Nat → Value} {φ : Nat → List Nat} {a : Act} {w : World} {Q : Exit → Act → World → Prop},
 Km G L c s k = some out → Pa n0 A O0 w0 s σ φ a w → (∀ e s σ φ a w, k e s = some out → Pa n0 A O0 w0 s σ φ a w → Q (C0 e) a w) → c.wp P Q a w := by
 intro c
 induction c with
 | skip =>
  intro _ Out k out s σ φ a w Q he h hQ
  simp only [Km] at he
  exact wp_skip (hQ .normal s σ φ a w he h)
 | region id ops draw =>
  intro _ Out k out s σ φ a w Q he h hQ
  simp only [Km] at he
  split at he
  ·rename_i s1 h1
   obtain ⟨φ1, hc⟩ := Lu hfz h h1
   refine PR (k := fun s' => match Lw G.fz G.att (1000 * id + 999) s' with
    | some s' => k .normal s'
    | none => none) hG hfz hm hc he fun a w ⟨s', σ', φ', h2, h3⟩ => ?_
   simp only at h2
   split at h2
   ·rename_i s2 h4
    obtain ⟨φ2, hc2⟩ := Lu hfz h3 h4
    exact hQ .normal _ σ' φ2 a w h2 hc2
   ·simp at h2
  ·simp at he
 | seq x y ihx ihy =>
  intro hL Out k out s σ φ a w Q he h hQ
  simp only [Km] at he
  refine wp_seq (ihx (fun b hb => hL b (by simp [Wc, hb])) he h fun e s' σ' φ' a' w' hk h' => ?_)
  cases e with
  | normal => exact ihy (fun b hb => hL b (by simp [Wc, hb])) hk h' hQ
  | exit j => exact hQ (.exit j) s' σ' φ' a' w' hk h'
  | ret => exact hQ .ret s' σ' φ' a' w' hk h'
 | cond x y z ihy ihz =>
  intro hL Out k out s σ φ a w Q he h hQ
  cases x with
  | tmp t =>
   simp only [Km] at he
   split at he
   ·rename_i β hd
    have hs := h.same hd
    obtain ⟨v, hv, hr⟩ := h.tm t _ hd
    rw [Zf] at hr
    subst hr
    have hev : a.eval (.tmp t) = .bool β := by
     simp only [Act.eval]
     rw [Array.getD_eq_getD_getElem?, hv]
     rfl
    refine wp_cond_split hev (fun hb => ?_) (fun hb => ?_)
    ·subst hb
     simp only [cond_true] at he
     exact ihy (fun b hb => hL b (by simp [Wc, hb])) he hs hQ
    ·subst hb
     simp only [cond_false] at he
     exact ihz (fun b hb => hL b (by simp [Wc, hb])) he hs hQ
   ·simp at he
  | const cv =>
   cases cv with
   | bool β =>
    simp only [Km] at he
    refine wp_cond_split (show a.eval (.const (.bool β)) = .bool β from rfl) (fun hb => ?_) (fun hb => ?_)
    ·subst hb
     simp only [cond_true] at he
     exact ihy (fun b hb => hL b (by simp [Wc, hb])) he h hQ
    ·subst hb
     simp only [cond_false] at he
     exact ihz (fun b hb => hL b (by simp [Wc, hb])) he h hQ
   | _ => simp [Km] at he
  | _ => simp [Km] at he
 | block id c ih =>
  intro hL Out k out s σ φ a w Q he h hQ
  simp only [Km] at he
  refine wp_block (ih (fun b hb => hL b (by simpa [Wc] using hb)) he h fun e s' σ' φ' a' w' hk h' => ?_)
  cases e with
  | normal => exact hQ .normal s' σ' φ' a' w' hk h'
  | exit j =>
   simp only [C0, Exit.inBlock]
   cases hb : Nat.beq j id with
   | true =>
    rw [if_pos (ju hb)]
    simp only [hb, cond_true] at hk
    exact hQ .normal s' σ' φ' a' w' hk h'
   | false =>
    rw [if_neg (fun e => by rw [e, Nat.beq_refl] at hb; simp at hb)]
    simp only [hb, cond_false] at hk
    exact hQ (.exit j) s' σ' φ' a' w' hk h'
  | ret => exact hQ .ret s' σ' φ' a' w' hk h'
 | exit id =>
  intro _ Out k out s σ φ a w Q he h hQ
  simp only [Km] at he
  exact wp_exit (hQ (.exit id) s σ φ a w he h)
 | ret =>
  intro _ Out k out s σ φ a w Q he h hQ
  simp only [Km] at he
  exact wp_ret (hQ .ret s σ φ a w he h)
 | loop c ih =>
  intro hL Out k out s σ φ a w Q he h hQ
  simp only [Km] at he
  split at he
  ·rename_i r hr
   split at he
   ·rename_i ls hls
    split at he
    ·rename_i x hx
     simp only [Ba] at he
     obtain ⟨hn, he⟩ := he
     have hn := ju hn
     rw [qf] at he
     obtain ⟨y, hy, he⟩ := he
     obtain ⟨m, hit⟩ := hL c (by simp [Wc]) r ls hr hls x y hy
     obtain ⟨σ1, φ1, h1⟩ := YA h hx
     rw [hn] at h1 he
     refine wp_loop_rounds m ?_
     have key : ∀ (m : Nat) (x : ls.inT.X) (σ : Nat → Value) (φ : Nat → List Nat) (a : Act) (w : World), Tt (Fw G L ls c) m x y → Pa n0 A O0 w0 (Fv ls.inT x ls.n) σ φ a w → Code.rounds P c Q m a w := by
      intro m
      induction m with
      | zero => intro x σ φ a w hit _; exact hit.elim
      | succ m ihm =>
       intro x σ φ a w hit h
       rw [rounds_succ]
       have body : ∀ z, Fw G L ls c x = some z → (z = .inr y ∨ ∃ x', z = .inl x' ∧ Tt (Fw G L ls c) m x' y) → c.wp P (Exit.then (Code.rounds P c Q m) Q) a w := by
        intro z hz hzy
        unfold Fw at hz
        refine ih (fun b hb => hL b (by simp [Wc, hb])) hz h fun e s' σ' φ' a' w' hk h' => ?_
        simp only [Ba] at hk
        obtain ⟨hn', hk⟩ := hk
        have hn' := ju hn'
        cases e with
        | normal =>
         simp only at hk
         split at hk
         ·rename_i x' hx'
          simp only [jc] at hk
          obtain ⟨σ2, φ2, h2⟩ := YA h' hx'
          rw [hn'] at h2
          rcases hzy with hzy | ⟨x'', hzy, hit'⟩
          ·rw [hzy] at hk; simp at hk
          ·rw [hzy] at hk
           simp only [Sum.inl.injEq] at hk
           subst hk
           exact ihm x' σ2 φ2 a' w' hit' h2
         ·simp at hk
        | exit j =>
         simp only [Ba] at hk
         obtain ⟨hj, hk⟩ := hk
         have hj := ju hj
         split at hk
         ·rename_i y' hy'
          simp only [jc] at hk
          obtain ⟨σ2, φ2, h2⟩ := YA h' hy'
          rw [hn'] at h2
          rcases hzy with hzy | ⟨x'', hzy, _⟩
          ·rw [hzy] at hk
           simp only [Sum.inr.injEq] at hk
           subst hk
           simp only [qj] at he
           show Q (.exit j) a' w'
           rw [hj]
           exact hQ (.exit ls.exitId) _ σ2 φ2 a' w' he h2
          ·rw [hzy] at hk; simp at hk
         ·simp at hk
        | ret =>
         simp only at hk
         split at hk
         ·rename_i y' hy'
          simp only [jc] at hk
          obtain ⟨σ2, φ2, h2⟩ := YA h' hy'
          rw [hn'] at h2
          rcases hzy with hzy | ⟨x'', hzy, _⟩
          ·rw [hzy] at hk
           simp only [Sum.inr.injEq] at hk
           subst hk
           simp only [Sum.elim_inr] at he
           exact hQ .ret _ σ2 φ2 a' w' he h2
          ·rw [hzy] at hk; simp at hk
         ·simp at hk
       rcases hit with hit | ⟨x', hit, hit'⟩
       ·exact body _ hit (.inl rfl)
       ·exact body _ hit (.inr ⟨x', rfl, hit'⟩)
     exact key m x σ1 φ1 a w hit h1
    ·simp at he
   ·simp at he
  ·simp at he
 | _ => intros; rename_i he _ _; simp [Km] at he
end
theorem Gc.mono {w : World} {O O' : Nat → Prop} (hO : ∀ b, O' b → O b) : ∀ {rt : Ty} {r : T rt} {fr : List Bool} {vs : List Value} {F : List Nat}, Gc w O rt r fr vs F → Gc w O' rt r fr vs F
 | .u, _, [], [], _, h => h
 | .p x y, r, f :: fr, v :: vs, F, h => by
  obtain ⟨cs, F1, F2, hv, hF, h1, h2⟩ := h
  refine ⟨cs, F1, F2, hv, hF, ?_, Gc.mono hO h2⟩
  cases f with
  | true => exact h1
  | false =>
   simp only [jq, if_false] at h1 ⊢
   exact ⟨h1.1.weaken hO, h1.2⟩
 | .u, _, _ :: _, _, _, h => by simp [Gc] at h
 | .u, _, [], _ :: _, _, h => by simp [Gc] at h
 | .p _ _, _, [], _, _, h => by simp [Gc] at h
 | .p _ _, _, _ :: _, [], _, h => by simp [Gc] at h
 | .i _, _, fr, vs, _, h => by simp [Gc] at h
 | .b, _, fr, vs, _, h => by simp [Gc] at h
 | .o, _, fr, vs, _, h => by simp [Gc] at h
 | .s, _, fr, vs, _, h => by simp [Gc] at h
 | .sl _, _, fr, vs, _, h => by simp [Gc] at h
section
variable {P : Program} {n0 : Nat} {A : Fx} {O0 : Nat → Prop} {w0 w : World} {s : AS} {σ : Nat → Value} {φ : Nat → List Nat} {a : Act} {G : Od} {L : List (Nat × Eb)}
def RU (w : World) (O : Nat → Prop) (hp : Nat → Option Ha) (σ : Nat → Value) : D → List Value → Prop
 | .pr a b, v :: vs => Ic w O hp σ a v ∧ RU w O hp σ b vs
 | .un, [] => True
 | _, _ => False
def EA (tmps : Array Value) : ResultVar → Sem Value
 | .tmp t => pure (tmps.getD t undef)
 | .cell a t => do loadVar t (← asAddr (tmps.getD a undef))
theorem Cs (hG : EnvTy P G) (h : Pa n0 A O0 w0 s σ φ a w) : ∀ {rs : List ResultVar} {d : D}, Qn G s rs = some d → ∃ vs, (rs.mapM (EA a.tmps)).run P w = .ok vs w ∧ RU w (OO O0 s φ) s.heap σ d vs
 | [], d, he => by
  simp only [Qn, jc] at he
  subst he
  exact ⟨[], by simp, trivial⟩
 | .tmp t :: r, d, he => by
  simp only [Qn] at he
  split at he
  ·rename_i d1 d2 h1 h2
   simp only [jc] at he
   subst he
   obtain ⟨vs, hvs, hr⟩ := Cs hG h h2
   obtain ⟨v, hv, hru⟩ := h.tm t d1 h1
   have hg : a.tmps.getD t undef = v := by rw [Array.getD_eq_getD_getElem?, hv]; rfl
   refine ⟨v :: vs, ?_, hru, hr⟩
   rw [List.mapM_cons]
   simp only [EA, qv, Sem.run_pure, qu, hvs, hg]
  ·simp at he
 | .cell t ty :: r, d, he => by
  simp only [Qn] at he
  split at he
  ·rename_i id d2 h1 h2
   split at he
   ·rename_i ρ d1 τ hb hty
    split at he
    ·rename_i q hq
     obtain rfl := q.down
     simp only [jc] at he
     subst he
     obtain ⟨vs, hvs, hr⟩ := Cs hG h h2
     obtain ⟨v, hv, hru⟩ := h.tm t _ h1
     have hg : a.tmps.getD t undef = v := by rw [Array.getD_eq_getD_getElem?, hv]; rfl
     rw [Vj] at hru
     obtain ⟨b, hσ, hv'⟩ := hru.2 _ _ hb
     obtain ⟨hs, b', cur, et, hσ', hh, hF, hrep, hsz⟩ := h.hp id _ hb
     rw [hσ] at hσ'
     simp at hσ'
     subst hσ'
     have hl := Cl (P := P) (hG.ty _ _ hty) (off := 0) hh (by omega)
     have hseg : Kc cur 0 ρ.size = cur.toList := by rw [← hsz]; exact QX cur
     rw [hseg] at hl
     refine ⟨Oc ρ cur.toList :: vs, ?_, Wj hs hrep, hr⟩
     rw [List.mapM_cons]
     have hoff : Ta ρ [] = 0 := rfl
     rw [hoff] at hv'
     subst hv'
     simp only [EA, qv, Sem.run_pure, qu, hvs, hg, asAddr, hl]
    ·simp at he
   ·simp at he
  ·simp at he
theorem CB (h : Pa n0 A O0 w0 s σ φ a w) : ∀ {rt : Ty} {fr : List Bool} {d : D} {r : T rt} {l : List Nat} {vs : List Value}, We s rt fr d = some (r, l) → RU w (OO O0 s φ) s.heap σ d vs →
 Gc w (OO O0 s φ) rt r fr vs (Aa φ l) ∧ ∀ j, j ∈ l → ∃ b, s.heap j = some b
 | .u, [], .un, r, l, vs, he, hr => by
  simp only [We, jc, jh] at he
  obtain ⟨_, rfl⟩ := he
  cases vs with
  | nil => exact ⟨by simp [Gc, Aa], by simp⟩
  | cons v vs => simp [RU] at hr
 | .p x y, f :: fr, .pr d1 d2, r, l, vs, he, hr => by
  cases vs with
  | nil => simp [RU] at hr
  | cons v vs =>
   simp only [We] at he
   split at he
   ·rename_i u l1 z l2 h1 h2
    simp only [jc, jh] at he
    obtain ⟨rfl, rfl⟩ := he
    obtain ⟨g1, g2⟩ := CB h h2 hr.2
    cases f with
    | true =>
     simp only [cond_true] at h1
     obtain ⟨hrep, hv⟩ := Id (Dh h1) hr.1
     obtain ⟨ho, hl⟩ := Dj h h1 hrep
     refine ⟨⟨_, Aa φ l1, Aa φ l2, hv, Tc, ?_, g1⟩, ?_⟩
     ·simpa using ho
     ·intro j hj
      rcases jl.1 hj with hj | hj
      ·exact hl j hj
      ·exact g2 j hj
    | false =>
     simp only [cond_false] at h1
     split at h1
     ·rename_i u' hu
      simp only [jc, jh] at h1
      obtain ⟨rfl, rfl⟩ := h1
      obtain ⟨hs, hvw⟩ := Ff (w := w) (O := OO O0 s φ) (hp := s.heap) (σ := σ) hu
      obtain ⟨hrep, hv⟩ := Id hs hr.1
      refine ⟨⟨_, [], Aa φ l2, hv, by simp [Aa], ?_, g1⟩, by simpa using g2⟩
      simpa using hvw _ hrep
     ·simp at h1
   ·simp at he
 | .u, _ :: _, d, _, _, _, he, _ => by cases d <;> simp [We] at he
 | .u, [], .und, _, _, _, he, _ => by simp [We] at he
 | .u, [], .anyv, _, _, _, he, _ => by simp [We] at he
 | .u, [], .t _ _, _, _, _, he, _ => by simp [We] at he
 | .u, [], .nil, _, _, _, he, _ => by simp [We] at he
 | .u, [], .own _, _, _, _, he, _ => by simp [We] at he
 | .u, [], .ptr _ _, _, _, _, he, _ => by simp [We] at he
 | .u, [], .eptr _ _ _, _, _, _, he, _ => by simp [We] at he
 | .u, [], .rp _ _, _, _, _, he, _ => by simp [We] at he
 | .u, [], .pr _ _, _, _, _, he, _ => by simp [We] at he
 | .u, [], .tup _, _, _, _, he, _ => by simp [We] at he
 | .p _ _, [], d, _, _, _, he, _ => by cases d <;> simp [We] at he
 | .p _ _, _ :: _, .und, _, _, _, he, _ => by simp [We] at he
 | .p _ _, _ :: _, .anyv, _, _, _, he, _ => by simp [We] at he
 | .p _ _, _ :: _, .t _ _, _, _, _, he, _ => by simp [We] at he
 | .p _ _, _ :: _, .nil, _, _, _, he, _ => by simp [We] at he
 | .p _ _, _ :: _, .own _, _, _, _, he, _ => by simp [We] at he
 | .p _ _, _ :: _, .ptr _ _, _, _, _, he, _ => by simp [We] at he
 | .p _ _, _ :: _, .eptr _ _ _, _, _, _, he, _ => by simp [We] at he
 | .p _ _, _ :: _, .rp _ _, _, _, _, he, _ => by simp [We] at he
 | .p _ _, _ :: _, .un, _, _, _, he, _ => by simp [We] at he
 | .p _ _, _ :: _, .tup _, _, _, _, he, _ => by simp [We] at he
 | .i _, fr, d, _, _, _, he, _ => by cases fr <;> cases d <;> simp [We] at he
 | .b, fr, d, _, _, _, he, _ => by cases fr <;> cases d <;> simp [We] at he
 | .o, fr, d, _, _, _, he, _ => by cases fr <;> cases d <;> simp [We] at he
 | .s, fr, d, _, _, _, he, _ => by cases fr <;> cases d <;> simp [We] at he
 | .sl _, fr, d, _, _, _, he, _ => by cases fr <;> cases d <;> simp [We] at he
theorem Vs {fn : Func} {vs : List Value} (h : (fn.results.toList.mapM (EA a.tmps)).run P w = .ok vs w) : (results fn a.tmps).run P w = .ok (Xt vs) w := by
 unfold results
 rw [Array.mapM_eq_mapM_toList]
 simp only [map_eq_pure_bind, bind_assoc, pure_bind, qv, Sem.run_pure]
 show (Sem.run P (List.mapM (EA a.tmps) fn.results.toList) w).andThen (fun vs w' => Result.ok (if h : vs.toArray.size = 1 then vs.toArray[0] else Value.tuple vs.toArray) w') = _
 rw [h]
 simp only [qu]
 congr 1
 cases vs with
 | nil => rfl
 | cons v vs => cases vs <;> rfl
end
def Ty.npar : Ty → Nat
 | .p _ y => y.npar + 1
 | _ => 0
theorem Hw {w : World} {O : Nat → Prop} : ∀ {pt : Ty} {x : T pt} {args : List Value}, Af w O pt x args → args.length = pt.npar
 | .u, _, [], _ => rfl
 | .p x y, v, a :: r, h => by simp [Ty.npar, Hw h.2]
 | .u, _, _ :: _, h => by simp [Af] at h
 | .p _ _, _, [], h => by simp [Af] at h
 | .i _, _, l, h => by simp [Af] at h
 | .b, _, l, h => by simp [Af] at h
 | .o, _, l, h => by simp [Af] at h
 | .s, _, l, h => by simp [Af] at h
 | .sl _, _, l, h => by simp [Af] at h
theorem Jy {w : World} {O : Nat → Prop} {hp : Nat → Option Ha} {σ : Nat → Value} : ∀ {pt : Ty} {x : T pt} {args : List Value} {n t : Nat} {d : D}, Af w O pt x args → Va (Pn pt x n) t = some d →
 ∃ j v, t = n + j ∧ args[j]? = some v ∧ Ic w O hp σ d v
 | .p x y, v, a :: r, n, t, d, h, hd => by
  simp only [Pn] at hd
  rw [Bc] at hd
  split at hd
  ·rename_i e
   simp only [jc] at hd
   subst hd
   obtain ⟨⟨cs, ha, hv⟩, _⟩ := h
   refine ⟨0, a, by omega, rfl, ?_⟩
   rw [ha]
   exact Wj (τ := x) (by simp [Sa]) hv
  ·obtain ⟨j, v', h1, h2, h3⟩ := Jy (hp := hp) (σ := σ) h.2 hd
   exact ⟨j + 1, v', by omega, by simpa using h2, h3⟩
 | .p _ _, _, [], _, _, _, h, _ => by simp [Af] at h
 | .u, _, _, _, _, _, _, hd => by simp [Pn, Va] at hd
 | .i _, _, _, _, _, _, h, _ => by simp [Af] at h
 | .b, _, _, _, _, _, h, _ => by simp [Af] at h
 | .o, _, _, _, _, _, h, _ => by simp [Af] at h
 | .s, _, _, _, _, _, h, _ => by simp [Af] at h
 | .sl _, _, _, _, _, _, h, _ => by simp [Af] at h
section
variable {P : Program} {G : Od} {L : List (Nat × Eb)}
variable {I : Of}
def AG (I : Of) : Fx := ⟨fun _ => False, fun _ => none, fun _ _ h => by simp at h, I, fun _ h => h.elim⟩
theorem LV (hG : Wg P I G) (hm : P.follows .mixedOrders = true) {f : FuncId} {fn : Func} {c : Code} (hf : P.funcs[f]? = some fn) (hb : fn.body = some c) (hname : (fn.name == "runtime.NumGoroutine") = false)
 (hL : ∀ b, b ∈ Wc c → Rb G L b) {pt rt : Ty} {fr : List Bool} {F : T pt → Option (T rt)} (hn : pt.npar ≤ fn.ntmps) (hF : ∀ x r, F x = some r → QP G L fn pt rt fr x = some r) : Cg P I f (.pu pt rt fr F) := by
 refine ⟨⟨fn, hf, hname, by rw [hb]; rfl⟩, ?_⟩
 intro O w x r args hx hargs hO hI hB
 have he := hF x r hx
 unfold QP at he
 rw [hb] at he
 simp only at he
 refine calls_of_wp hf hb ?_
 have hlen := Hw hargs
 have hc : Pa w.heap.size (AG I) O w ⟨fn.ntmps, Pn pt x 0, []⟩ (fun _ => undef) (fun _ => []) { tmps := args.toArray ++ Array.replicate (fn.ntmps - args.toArray.size) undef, defers := [] } w := by
  have hh : ∀ id, AS.heap ⟨fn.ntmps, Pn pt x 0, []⟩ id = none := fun id => rfl
  refine ⟨?_, rfl, ?_, ?_, ?_, ?_, ?_, hO, ⟨rfl, rfl, rfl, jo _, fun _ _ _ => rfl⟩, ?_, hB, hI⟩
  ·simp; omega
  ·intro t d hd
   have hOO : OO O ⟨fn.ntmps, Pn pt x 0, []⟩ (fun _ => []) = O := by
    funext b
    simp [OO, hh]
   rw [hOO]
   obtain ⟨j, v, h1, h2, h3⟩ := Jy hargs hd
   refine ⟨v, ?_, h3⟩
   have hj : j < args.length := (List.getElem?_eq_some_iff.1 h2).1
   have : t = j := by omega
   subst this
   rw [Array.getElem?_append_left (by simpa using hj)]
   simpa using h2
  ·intro id Ca hb; rw [hh] at hb; simp at hb
  ·intro id Ca hb; rw [hh] at hb; simp at hb
  ·intro id id' Ca blk' _ hb; rw [hh] at hb; simp at hb
  ·intro id Ca hb; rw [hh] at hb; simp at hb
  ·intro id v hv; simp [AG] at hv
 refine AE (A := AG I) hG (fun _ _ h => h) hm c hL he hc ?_
 intro e s σ φ a w' hk h
 have Kf : (match Qn G s fn.results.toList with
  | some d => match We s rt fr d with
   | some (r, l) => bif Je l then some r else none
   | none => none
  | none => none) = some r → a.defers = [] ∧ ∃ v, (results fn a.tmps).run P w' = .ok v w' ∧ Om (fun v w' => ∃ vs Fr, v = Xt vs ∧ Qq w w' (fun _ => False) ∧ Gc w' (fun b => O b ∨ b ∈ Fr) rt r fr vs Fr ∧ Fr.Nodup ∧ ∀ b ∈ Fr, w.heap.size ≤ b) (.returned v) w' := by
  intro hk
  split at hk
  ·rename_i d hd
   split at hk
   ·rename_i r' l hr
    simp only [Ba] at hk
    obtain ⟨hnd, hk⟩ := hk
    simp only [jc] at hk
    subst hk
    have hnd := Yf hnd
    obtain ⟨vs, hvs, hru⟩ := Cs hG.toEnvTy h hd
    obtain ⟨hR, hlive⟩ := CB h hr hru
    refine ⟨h.df, _, Vs hvs, vs, Aa φ l, rfl, ⟨h.fr.size, fun b hb _ => h.fr.block b hb (fun h => h), h.fr.os, h.fr.tape, h.fr.output⟩, hR.mono ?_, Pe h hnd hlive, ?_⟩
    ·rintro b (hb | hb)
     ·exact .inl hb
     ·obtain ⟨j, hj, hm'⟩ := Ua.1 hb
      obtain ⟨Ca, hbj⟩ := hlive j hj
      exact .inr ⟨j, Ca, hbj, hm'⟩
    ·intro b hb
     obtain ⟨j, hj, hm'⟩ := Ua.1 hb
     obtain ⟨Ca, hbj⟩ := hlive j hj
     exact (h.fresh j Ca hbj b hm').resolve_right (fun h => h)
   ·simp at hk
  ·simp at hk
 cases e with
 | normal => exact Kf hk
 | ret => exact Kf hk
 | exit j => simp at hk
end
theorem Wu {φ : Nat → List Nat} : ∀ {L : List Nat}, (Aa φ L).Nodup → ∀ {i j b : Nat}, i ∈ L → j ∈ L → i ≠ j → b ∈ φ i → b ∉ φ j
 | [], _, _, _, _, h, _, _, _ => by simp at h
 | x :: L, hn, i, j, b, hi, hj, hne, hb => by
  intro hb'
  have hx : Aa φ (x :: L) = φ x ++ Aa φ L := by simp [Aa]
  rw [hx, List.nodup_append] at hn
  rcases jp.1 hi with e1 | q1
  ·rcases jp.1 hj with e2 | q2
   ·exact hne (e1.trans e2.symm)
   ·exact hn.2.2 b (e1 ▸ hb) b (Ua.2 ⟨j, q2, hb'⟩) rfl
  ·rcases jp.1 hj with e2 | q2
   ·exact hn.2.2 b (e2 ▸ hb') b (Ua.2 ⟨i, q1, hb⟩) rfl
   ·exact Wu hn.2.1 q1 q2 hne hb hb'
section
variable {P : Program} {G : Od} {L : List (Nat × Eb)} {I : Of}
end
def Iu : (pt : Ty) → T pt → Nat → Nat → List (Nat × D) × List (Nat × Option Ha) × Nat
 | .p x y, v, t, n => match Ad x v.1 n with
  | (d, l, m) => match Iu y v.2 (t + 1) m with
   | (tm, l', m') => ((t, d) :: tm, l ++ l', m')
 | _, _, _, n => ([], [], n)
def FI (G : Od) (L : List (Nat × Eb)) (fn : Func) (pt rt : Ty) (fr : List Bool) (x : T pt) : Option (T rt) :=
 match fn.body with
 | some c => match Iu pt x 0 400000 with
  | (tm, rows, _) => Km G L c ⟨fn.ntmps, tm, rows⟩ fun e s => match e with
   | .exit _ => none
   | _ => match Qn G s fn.results.toList with
    | some d => match We s rt fr d with
     | some (r, l) => bif Je l then some r else none
     | none => none
    | none => none
 | none => none
def EI (G : Od) (L : List (Nat × Eb)) (fn : Func) (vw cv : Bool) (τ pt rt : Ty) (fr : List Bool) (x0 : T τ) (x : T pt) : Option (T τ × T rt) :=
 match fn.body with
 | some c => match (bif vw then (D.t τ x0, [], 400000) else Ad τ x0 400000) with
  | (d0, rows, m) => match (bif cv then Iu pt x 1 m else (Pn pt x 1, [], m)) with
   | (tm, rows2, m2) => bif jx m2 500000 then Km G L c ⟨fn.ntmps, (0, .ptr 500000 []) :: tm, (500000, some (.box τ d0)) :: (rows ++ rows2)⟩ fun e s => match e with
    | .exit _ => none
    | _ => match s.heap 500000, Qn G s fn.results.toList with
     | some (.box τ' d1), some d => match Ty.dec τ' τ, (bif vw then (match Vg d1 τ with
      | some y => some (y, [])
      | none => none) else Qb s d1 τ), We s rt fr d with
      | some _, some (x', l0), some (r, l) => bif Je (500000 :: (l0 ++ l)) then some (x', r) else none
      | _, _, _ => none
     | _, _ => none
    else none
 | none => none
theorem Zz {w : World} : ∀ {pt : Ty} {x : T pt} {args : List Value} {F : List Nat}, Be w pt x args F → args.length = pt.npar
 | .u, _, [], _, _ => rfl
 | .p x y, v, a :: r, F, h => by
  obtain ⟨cs, F1, F2, _, _, _, h⟩ := h
  simp [Ty.npar, Zz h]
 | .u, _, _ :: _, _, h => by simp [Be] at h
 | .p _ _, _, [], _, h => by simp [Be] at h
 | .i _, _, l, _, h => by simp [Be] at h
 | .b, _, l, _, h => by simp [Be] at h
 | .o, _, l, _, h => by simp [Be] at h
 | .s, _, l, _, h => by simp [Be] at h
 | .sl _, _, l, _, h => by simp [Be] at h
theorem Be.lt {w : World} : ∀ {pt : Ty} {x : T pt} {args : List Value} {F : List Nat}, Be w pt x args F → ∀ b, b ∈ F → b < w.heap.size
 | .u, _, [], F, h, b, hb => by simp only [Be] at h; subst h; simp at hb
 | .p x y, v, a :: r, F, h, b, hb => by
  obtain ⟨cs, F1, F2, _, rfl, ho, h⟩ := h
  rcases jl.1 hb with hb | hb
  ·exact ho.lt b hb
  ·exact Be.lt h b hb
 | .u, _, _ :: _, _, h, _, _ => by simp [Be] at h
 | .p _ _, _, [], _, h, _, _ => by simp [Be] at h
 | .i _, _, l, _, h, _, _ => by simp [Be] at h
 | .b, _, l, _, h, _, _ => by simp [Be] at h
 | .o, _, l, _, h, _, _ => by simp [Be] at h
 | .s, _, l, _, h, _, _ => by simp [Be] at h
 | .sl _, _, l, _, h, _, _ => by simp [Be] at h
theorem VC {w : World} : ∀ {pt : Ty} {x : T pt} {args : List Value} {F : List Nat} {t n m : Nat} {tm : List (Nat × D)} {l : List (Nat × Option Ha)}, Iu pt x t n = (tm, l, m) → Be w pt x args F →
 n ≤ m ∧ (∀ p, p ∈ l → n ≤ p.1 ∧ p.1 < m) ∧ ∃ (ψ : Nat → List Nat) (ν : Nat → Value), Aa ψ (l.map (·.1)) = F ∧ (∀ p, p ∈ l → ∃ e xs, p.2 = some (.row e true xs) ∧ Gb w (.sl e) xs [ν p.1] (ψ p.1)) ∧
  ∀ (hp' : Nat → Option Ha) (σ' : Nat → Value) (O' : Nat → Prop), (∀ p, p ∈ l → σ' p.1 = ν p.1) → ∀ t' d, Va tm t' = some d → ∃ j v, t' = t + j ∧ args[j]? = some v ∧ Ic w O' hp' σ' d v
 | .u, x, [], F, t, n, m, tm, l, he, h => by
  simp only [Iu, jh] at he
  obtain ⟨rfl, rfl, rfl⟩ := he
  simp only [Be] at h
  exact ⟨jo _, by simp, fun _ => [], fun _ => undef, by simp [Aa, h], by simp, fun _ _ _ _ t' d hd => by simp [Va] at hd⟩
 | .p t1 t2, x, a :: r, F, t, n, m, tm, l, he, h => by
  obtain ⟨cs, F1, F2, ha, hF, ho, hr⟩ := h
  simp only [Iu] at he
  rcases ho1 : Ad t1 x.1 n with ⟨d1, l1, m1⟩
  rcases ho2 : Iu t2 x.2 (t + 1) m1 with ⟨tm2, l2, m2⟩
  rw [ho1] at he
  simp only at he
  rw [ho2] at he
  simp only [jh] at he
  obtain ⟨rfl, rfl, rfl⟩ := he
  obtain ⟨a1, a2, a3, ψ1, ν1, a4, a5, a6⟩ := Ko ho1 ho
  obtain ⟨b1, b2, ψ2, ν2, b4, b5, b6⟩ := VC ho2 hr
  refine ⟨by omega, ?_, fun id => if id < m1 then ψ1 id else ψ2 id, fun id => if id < m1 then ν1 id else ν2 id, ?_, ?_, ?_⟩
  ·intro p hp
   rcases jl.1 hp with hp | hp
   ·have := a2 p hp; omega
   ·have := b2 p hp; omega
  ·rw [List.map_append, Tc, hF, ← a4, ← b4]
   congr 1
   ·exact Fh fun id hid => by
     obtain ⟨p, hp, rfl⟩ := qq.1 hid
     rw [if_pos (a2 p hp).2]
   ·exact Fh fun id hid => by
     obtain ⟨p, hp, rfl⟩ := qq.1 hid
     rw [if_neg (by have := b2 p hp; omega)]
  ·intro p hp
   rcases jl.1 hp with hp | hp
   ·simp only [if_pos (a2 p hp).2]; exact a5 p hp
   ·have : ¬ p.1 < m1 := by have := b2 p hp; omega
    simp only [if_neg this]; exact b5 p hp
  ·intro hp' σ' O' hσ t' d hd
   rw [Bc] at hd
   split at hd
   ·rename_i e
    simp only [jc] at hd
    subst hd
    refine ⟨0, a, by omega, rfl, ?_⟩
    rw [ha]
    refine Wj a3 (a6 w hp' σ' O' fun p hp => ?_)
    have h1 := hσ p (List.mem_append_left _ hp)
    simp only [if_pos (a2 p hp).2] at h1
    exact h1
   ·obtain ⟨j, v, h1, h2, h3⟩ := b6 hp' σ' O' (fun p hp => by
     have h1 := hσ p (List.mem_append_right _ hp)
     have h2 : ¬ p.1 < m1 := by have := b2 p hp; omega
     simp only [if_neg h2] at h1
     exact h1) t' d hd
    exact ⟨j + 1, v, by omega, by simpa using h2, h3⟩
 | .u, _, _ :: _, _, _, _, _, _, _, _, h => by simp [Be] at h
 | .p _ _, _, [], _, _, _, _, _, _, _, h => by simp [Be] at h
 | .i _, _, l, _, _, _, _, _, _, _, h => by simp [Be] at h
 | .b, _, l, _, _, _, _, _, _, _, h => by simp [Be] at h
 | .o, _, l, _, _, _, _, _, _, _, h => by simp [Be] at h
 | .s, _, l, _, _, _, _, _, _, _, h => by simp [Be] at h
 | .sl _, _, l, _, _, _, _, _, _, _, h => by simp [Be] at h
section
variable {P : Program} {G : Od} {L : List (Nat × Eb)} {I : Of}
theorem JV (hG : Wg P I G) (hfz : G.fz = false) (hm : P.follows .mixedOrders = true) {f : FuncId} {fn : Func} {c : Code} (hf : P.funcs[f]? = some fn) (hb : fn.body = some c) (hname : (fn.name == "runtime.NumGoroutine") = false)
 (hL : ∀ b, b ∈ Wc c → Rb G L b) {pt rt : Ty} {fr : List Bool} {F : T pt → Option (T rt)} (hn : pt.npar ≤ fn.ntmps) (hF : ∀ x r, F x = some r → FI G L fn pt rt fr x = some r) :
 Cg P I f (.co pt rt fr F) := by
 refine ⟨⟨fn, hf, hname, by rw [hb]; rfl⟩, ?_⟩
 intro O w x r F0 args hx hargs hF0 hO hI hB hFB
 have he := hF x r hx
 unfold FI at he
 rw [hb] at he
 simp only at he
 rcases hop : Iu pt x 0 400000 with ⟨tm, rows, m⟩
 rw [hop] at he
 simp only at he
 obtain ⟨_, hids, ψ, ν, hbl, hrows, hrep⟩ := VC hop hargs
 refine calls_of_wp hf hb ?_
 have hlen := Zz hargs
 have hmem : ∀ id Ca, AS.heap ⟨fn.ntmps, tm, rows⟩ id = some Ca → id ∈ rows.map (·.1) ∧ ∃ e xs, Ca = .row e true xs ∧ Gb w (.sl e) xs [ν id] (ψ id) := by
  intro id Ca hb
  have hm := AS.heap_mem hb
  obtain ⟨e, xs, h1, h2⟩ := hrows _ hm
  simp only [jc] at h1
  exact ⟨List.mem_map_of_mem (f := (·.1)) hm, e, xs, h1, h2⟩
 have hF0' : (Aa ψ (rows.map (·.1))).Nodup := by rw [hbl]; exact hF0
 let A : Fx := ⟨(· ∈ F0), fun _ => none, fun _ _ h => by simp at h, I, hFB⟩
 have hOO : OO (fun b => O b ∨ b ∈ F0) ⟨fn.ntmps, tm, rows⟩ ψ = (fun b => O b ∨ b ∈ F0) := by
  funext b
  refine propext ⟨fun h => ?_, .inl⟩
  rcases h with h | ⟨id, Ca, hb, hm⟩
  ·exact h
  ·refine .inr ?_
   rw [← hbl]
   exact Ua.2 ⟨id, (hmem id Ca hb).1, hm⟩
 have hc : Pa w.heap.size A (fun b => O b ∨ b ∈ F0) w ⟨fn.ntmps, tm, rows⟩ ν ψ { tmps := args.toArray ++ Array.replicate (fn.ntmps - args.toArray.size) undef, defers := [] } w := by
  refine ⟨?_, rfl, ?_, ?_, ?_, ?_, ?_, ?_, ⟨rfl, rfl, rfl, jo _, fun _ _ _ => rfl⟩, ?_, hB, hI⟩
  ·simp; omega
  ·intro t d hd
   rw [hOO]
   obtain ⟨j, v, h1, h2, h3⟩ := hrep (AS.heap ⟨fn.ntmps, tm, rows⟩) ν (fun b => O b ∨ b ∈ F0) (fun _ _ => rfl) t d hd
   refine ⟨v, ?_, h3⟩
   have hj : j < args.length := (List.getElem?_eq_some_iff.1 h2).1
   have : t = j := by omega
   subst this
   rw [Array.getElem?_append_left (by simpa using hj)]
   simpa using h2
  ·intro id Ca hb
   obtain ⟨_, e, xs, rfl, h2⟩ := hmem id Ca hb
   exact h2
  ·intro id Ca hb
   have hi := (hmem id Ca hb).1
   have : (ψ id).Sublist (Aa ψ (rows.map (·.1))) := by
    unfold Aa
    exact List.sublist_flatten_of_mem (List.mem_map_of_mem hi)
   exact this.nodup hF0'
  ·intro id id' Ca blk' hne hb hb' b hm
   exact Wu hF0' (hmem id Ca hb).1 (hmem id' blk' hb').1 hne hm
  ·intro id Ca hb b hm
   refine .inr ?_
   show b ∈ F0
   rw [← hbl]
   exact Ua.2 ⟨id, (hmem id Ca hb).1, hm⟩
  ·rintro b (hb | hb)
   ·exact hO b hb
   ·exact hargs.lt b hb
  ·intro id v hv; simp [A] at hv
 refine AE (A := A) hG (fun h => by rw [hfz] at h; simp at h) hm c hL he hc ?_
 intro e s σ φ a w' hk h
 have Kf : (match Qn G s fn.results.toList with
  | some d => match We s rt fr d with
   | some (r, l) => bif Je l then some r else none
   | none => none
  | none => none) = some r → a.defers = [] ∧ ∃ v, (results fn a.tmps).run P w' = .ok v w' ∧ Om (fun v w' => ∃ vs Fr, v = Xt vs ∧ Qq w w' (· ∈ F0) ∧
  Gc w' (fun b => O b ∨ b ∈ F0 ∨ b ∈ Fr) rt r fr vs Fr ∧ Fr.Nodup ∧ ∀ b ∈ Fr, w.heap.size ≤ b ∨ b ∈ F0) (.returned v) w' := by
  intro hk
  split at hk
  ·rename_i d hd
   split at hk
   ·rename_i r' l hr
    simp only [Ba] at hk
    obtain ⟨hnd, hk⟩ := hk
    simp only [jc] at hk
    subst hk
    have hnd := Yf hnd
    obtain ⟨vs, hvs, hru⟩ := Cs hG.toEnvTy h hd
    obtain ⟨hR, hlive⟩ := CB h hr hru
    refine ⟨h.df, _, Vs hvs, vs, Aa φ l, rfl, ⟨h.fr.size, fun b hb hno => h.fr.block b hb hno, h.fr.os, h.fr.tape, h.fr.output⟩, hR.mono ?_, Pe h hnd hlive, ?_⟩
    ·rintro b (hb | hb | hb)
     ·exact .inl (.inl hb)
     ·exact .inl (.inr hb)
     ·obtain ⟨j, hj, hm'⟩ := Ua.1 hb
      obtain ⟨Ca, hbj⟩ := hlive j hj
      exact .inr ⟨j, Ca, hbj, hm'⟩
    ·intro b hb
     obtain ⟨j, hj, hm'⟩ := Ua.1 hb
     obtain ⟨Ca, hbj⟩ := hlive j hj
     exact h.fresh j Ca hbj b hm'
   ·simp at hk
  ·simp at hk
 cases e with
 | normal => exact Kf hk
 | ret => exact Kf hk
 | exit j => simp at hk
theorem IV (hG : Wg P I G) (hfz : G.fz = false) (hm : P.follows .mixedOrders = true) {f : FuncId} {fn : Func} {c : Code} (hf : P.funcs[f]? = some fn) (hb : fn.body = some c) (hname : (fn.name == "runtime.NumGoroutine") = false)
 (hL : ∀ b, b ∈ Wc c → Rb G L b) {vw cv : Bool} {τ pt rt : Ty} {fr : List Bool} {F : T τ → T pt → Option (T τ × T rt)} (hn : pt.npar + 1 ≤ fn.ntmps) (hF : ∀ x0 x r, F x0 x = some r → EI G L fn vw cv τ pt rt fr x0 x = some r) :
 Cg P I f (.bx vw cv τ pt rt fr F) := by
 refine ⟨⟨fn, hf, hname, by rw [hb]; rfl⟩, ?_⟩
 intro O w x0 x r b cur et F0 F2 args hx hh hsz hcont hargs hnd hO hI hB hFB
 have he := hF x0 x r hx
 unfold EI at he
 rw [hb] at he
 simp only at he
 rcases hop : (bif vw then (D.t τ x0, [], 400000) else Ad τ x0 400000) with ⟨d0, rows, m⟩
 rw [hop] at he
 simp only at he
 rcases hop2 : (bif cv then Iu pt x 1 m else (Pn pt x 1, [], m)) with ⟨tm, rows2, m2⟩
 rw [hop2] at he
 simp only [Ba] at he
 obtain ⟨hm2, he⟩ := he
 have hm2 := Nat.le_of_ble_eq_true hm2
 have hlt : b < w.heap.size := (Array.getElem?_eq_some_iff.1 hh).1
 have k1 : 400000 ≤ m ∧ (∀ p, p ∈ rows → 400000 ≤ p.1 ∧ p.1 < m) ∧ Sa τ d0 ∧ (∀ c, c ∈ F0 → c < w.heap.size) ∧ ∃ (ψ : Nat → List Nat) (ν : Nat → Value), Aa ψ (rows.map (·.1)) = F0 ∧ (∀ p, p ∈ rows → ∃ e xs, p.2 = some (.row e true xs) ∧ Gb w (.sl e) xs [ν p.1] (ψ p.1)) ∧
  ∀ (hp' : Nat → Option Ha) (σ' : Nat → Value), (∀ p, p ∈ rows → σ' p.1 = ν p.1) → Qa w (fun c => O c ∨ c ∈ b :: (F0 ++ F2)) hp' σ' d0 cur.toList := by
  cases vw with
  | true =>
   simp only [cond_true, jh] at hop
   obtain ⟨rfl, rfl, rfl⟩ := hop
   simp only [if_true] at hcont
   obtain ⟨hv, rfl⟩ := hcont
   refine ⟨jo _, by simp, by simp [Sa], by simp, fun _ => [], fun _ => undef, by simp [Aa], by simp, fun hp' σ' _ => Ma.weaken (fun c hc => ?_) hv⟩
   rcases hc with hc | hc
   ·exact .inl hc
   ·rcases jp.1 hc with rfl | hc
    ·exact .inr (.inl rfl)
    ·exact .inr (.inr (by simpa using hc))
  | false =>
   simp only [cond_false] at hop
   simp only [jq, if_false] at hcont
   obtain ⟨a1, a2, a3, ψ1, ν1, a4, a5, a6⟩ := Ko hop hcont
   exact ⟨a1, a2, a3, fun c hc => hcont.lt c hc, ψ1, ν1, a4, a5, fun hp' σ' h => a6 w hp' σ' _ h⟩
 obtain ⟨hnm, hids, hsh, hF0lt, ψ1, ν1, hbl1, hrows1, hrep1⟩ := k1
 have k2 : m ≤ m2 ∧ (∀ p, p ∈ rows2 → m ≤ p.1 ∧ p.1 < m2) ∧ args.length = pt.npar ∧ (∀ c, c ∈ F2 → c < w.heap.size) ∧ ∃ (ψ : Nat → List Nat) (ν : Nat → Value), Aa ψ (rows2.map (·.1)) = F2 ∧ (∀ p, p ∈ rows2 → ∃ e xs, p.2 = some (.row e true xs) ∧ Gb w (.sl e) xs [ν p.1] (ψ p.1)) ∧
  ∀ (hp' : Nat → Option Ha) (σ' : Nat → Value), (∀ p, p ∈ rows2 → σ' p.1 = ν p.1) → ∀ t' d, Va tm t' = some d → ∃ j v, t' = 1 + j ∧ args[j]? = some v ∧ Ic w (fun c => O c ∨ c ∈ b :: (F0 ++ F2)) hp' σ' d v := by
  cases cv with
  | true =>
   simp only [cond_true] at hop2
   simp only [if_true] at hargs
   obtain ⟨a1, a2, ψ2, ν2, a4, a5, a6⟩ := VC hop2 hargs
   exact ⟨a1, a2, Zz hargs, hargs.lt, ψ2, ν2, a4, a5, fun hp' σ' h => a6 hp' σ' _ h⟩
  | false =>
   simp only [cond_false, jh] at hop2
   obtain ⟨rfl, rfl, rfl⟩ := hop2
   simp only [jq, if_false] at hargs
   obtain ⟨hv, rfl⟩ := hargs
   refine ⟨jo _, by simp, Hw hv, by simp, fun _ => [], fun _ => undef, by simp [Aa], by simp, fun hp' σ' _ t' d hd => ?_⟩
   have : (fun c => O c ∨ c ∈ b :: (F0 ++ [])) = (fun c => O c ∨ c = b ∨ c ∈ F0) := by
    funext c; simp
   rw [this]
   exact Jy hv hd
 obtain ⟨hmm, hids2, hlen, hF2lt, ψ2, ν2, hbl2, hrows2, hrep2⟩ := k2
 refine calls_of_wp hf hb ?_
 let ψ : Nat → List Nat := fun id => if id = 500000 then [b] else if id < m then ψ1 id else ψ2 id
 let ν : Nat → Value := fun id => if id = 500000 then .pointer (some ⟨b, 0, none⟩) else if id < m then ν1 id else ν2 id
 have hψ0 : ψ 500000 = [b] := if_pos rfl
 have hν0 : ν 500000 = .pointer (some ⟨b, 0, none⟩) := if_pos rfl
 have hψ1 : ∀ p, p ∈ rows → ψ p.1 = ψ1 p.1 ∧ ν p.1 = ν1 p.1 := fun p hp => by
  have h1 := hids p hp
  have h2 : ¬ p.1 = 500000 := by omega
  simp only [ψ, ν, if_neg h2, if_pos h1.2, and_self]
 have hψ2 : ∀ p, p ∈ rows2 → ψ p.1 = ψ2 p.1 ∧ ν p.1 = ν2 p.1 := fun p hp => by
  have h1 := hids2 p hp
  have h2 : ¬ p.1 = 500000 := by omega
  have h3 : ¬ p.1 < m := by omega
  simp only [ψ, ν, if_neg h2, if_neg h3, and_self]
 let s0 : AS := ⟨fn.ntmps, (0, .ptr 500000 []) :: tm, (500000, some (.box τ d0)) :: (rows ++ rows2)⟩
 have hbx : s0.heap 500000 = some (.box τ d0) := by simp [s0, AS.heap, Bc]
 have hmem : ∀ id Ca, s0.heap id = some Ca → (id = 500000 ∧ Ca = .box τ d0) ∨ (id ≠ 500000 ∧ id ∈ (rows ++ rows2).map (·.1) ∧ ∃ e xs, Ca = .row e true xs ∧ Gb w (.sl e) xs [ν id] (ψ id)) := by
  intro id Ca hb
  by_cases hid : id = 500000
  ·subst hid
   rw [hbx] at hb
   simp only [jc] at hb
   exact .inl ⟨rfl, hb.symm⟩
  ·have hm := AS.heap_mem hb
   simp only [s0, jp, jh, hid, false_and, false_or] at hm
   refine .inr ⟨hid, List.mem_map_of_mem (f := (·.1)) hm, ?_⟩
   rcases jl.1 hm with hm | hm
   ·obtain ⟨e, xs, h1, h2⟩ := hrows1 _ hm
    simp only [jc] at h1
    exact ⟨e, xs, h1, by rw [(hψ1 _ hm).1, (hψ1 _ hm).2]; exact h2⟩
   ·obtain ⟨e, xs, h1, h2⟩ := hrows2 _ hm
    simp only [jc] at h1
    exact ⟨e, xs, h1, by rw [(hψ2 _ hm).1, (hψ2 _ hm).2]; exact h2⟩
 have hblr : Aa ψ ((rows ++ rows2).map (·.1)) = F0 ++ F2 := by
  rw [List.map_append, Tc, ← hbl1, ← hbl2]
  congr 1
  ·exact Fh fun id hid => by
    obtain ⟨p, hp, rfl⟩ := qq.1 hid
    exact (hψ1 p hp).1
  ·exact Fh fun id hid => by
    obtain ⟨p, hp, rfl⟩ := qq.1 hid
    exact (hψ2 p hp).1
 have hbl : Aa ψ (500000 :: (rows ++ rows2).map (·.1)) = b :: (F0 ++ F2) := by
  have : Aa ψ (500000 :: (rows ++ rows2).map (·.1)) = ψ 500000 ++ Aa ψ ((rows ++ rows2).map (·.1)) := by simp only [Aa, List.map_cons, List.flatten_cons]
  rw [this, hψ0, hblr]; rfl
 have hndB : (Aa ψ (500000 :: (rows ++ rows2).map (·.1))).Nodup := by rw [hbl]; exact hnd
 have hidin : ∀ id Ca, s0.heap id = some Ca → id ∈ 500000 :: (rows ++ rows2).map (·.1) := by
  intro id Ca hb
  rcases hmem id Ca hb with ⟨rfl, _⟩ | ⟨_, h, _⟩
  ·exact qt
  ·exact jr _ h
 let A : Fx := ⟨(· ∈ b :: (F0 ++ F2)), fun id => if id = 500000 then some (.pointer (some ⟨b, 0, none⟩)) else none, fun id v h => by
  split at h
  ·omega
  ·simp at h, I, hFB⟩
 have hOO : OO (fun c => O c ∨ c ∈ b :: (F0 ++ F2)) s0 ψ = (fun c => O c ∨ c ∈ b :: (F0 ++ F2)) := by
  funext c
  refine propext ⟨fun h => ?_, .inl⟩
  rcases h with h | ⟨id, Ca, hb, hm⟩
  ·exact h
  ·refine .inr ?_
   rw [← hbl]
   exact Ua.2 ⟨id, hidin id Ca hb, hm⟩
 have hc : Pa w.heap.size A (fun c => O c ∨ c ∈ b :: (F0 ++ F2)) w s0 ν ψ { tmps := (.pointer (some ⟨b, 0, none⟩) :: args).toArray ++ Array.replicate (fn.ntmps - (Value.pointer (some ⟨b, 0, none⟩) :: args).toArray.size) undef, defers := [] } w := by
  refine ⟨?_, rfl, ?_, ?_, ?_, ?_, ?_, ?_, ⟨rfl, rfl, rfl, jo _, fun _ _ _ => rfl⟩, ?_, hB, hI⟩
  ·simp [s0]; omega
  ·intro t d hd
   rw [hOO]
   simp only [s0] at hd
   rw [Bc] at hd
   split at hd
   ·rename_i e
    subst e
    simp only [jc] at hd
    subst hd
    refine ⟨.pointer (some ⟨b, 0, none⟩), by rw [Array.getElem?_append_left (by simp)]; simp, ?_⟩
    rw [Vj]
    exact ⟨rfl, fun ρ d _ => ⟨b, hν0, by simp [Ta]⟩⟩
   ·obtain ⟨j, v, h1, h2, h3⟩ := hrep2 s0.heap ν (fun p hp => (hψ2 p hp).2) t d hd
    refine ⟨v, ?_, h3⟩
    have hj : j < args.length := (List.getElem?_eq_some_iff.1 h2).1
    have : t = j + 1 := by omega
    subst this
    rw [Array.getElem?_append_left (by simpa using hj)]
    simpa using h2
  ·intro id Ca hb
   rw [hOO]
   rcases hmem id Ca hb with ⟨rfl, rfl⟩ | ⟨_, _, e, xs, rfl, h2⟩
   ·exact ⟨hsh, b, cur, et, hν0, hh, hψ0, hrep1 _ _ fun p hp => (hψ1 p hp).2, hsz⟩
   ·exact h2
  ·intro id Ca hb
   have hi := hidin id Ca hb
   have : (ψ id).Sublist (Aa ψ (500000 :: (rows ++ rows2).map (·.1))) := by
    unfold Aa
    exact List.sublist_flatten_of_mem (List.mem_map_of_mem hi)
   exact this.nodup hndB
  ·intro id id' Ca blk' hne hb hb' c hm
   exact Wu hndB (hidin id Ca hb) (hidin id' blk' hb') hne hm
  ·intro id Ca hb c hm
   refine .inr ?_
   show c ∈ b :: (F0 ++ F2)
   rw [← hbl]
   exact Ua.2 ⟨id, hidin id Ca hb, hm⟩
  ·rintro c (hc | hc)
   ·exact hO c hc
   ·rcases jp.1 hc with rfl | hc
    ·exact hlt
    ·rcases jl.1 hc with hc | hc
     ·exact hF0lt c hc
     ·exact hF2lt c hc
  ·intro id v hv
   simp only [A] at hv
   split at hv
   ·rename_i e
    subst e
    simp only [jc] at hv
    exact hν0.trans hv
   ·simp at hv
 refine AE (A := A) hG (fun h => by rw [hfz] at h; simp at h) hm c hL he hc ?_
 intro e s σ φ a w' hk h
 have Kf : (match s.heap 500000, Qn G s fn.results.toList with
  | some (.box τ' d1), some d => match Ty.dec τ' τ, (bif vw then (match Vg d1 τ with
   | some y => some (y, [])
   | none => none) else Qb s d1 τ), We s rt fr d with
   | some _, some (x', l0), some (r, l) => bif Je (500000 :: (l0 ++ l)) then some (x', r) else none
   | _, _, _ => none
  | _, _ => none) = some r → a.defers = [] ∧ ∃ v, (results fn a.tmps).run P w' = .ok v w' ∧ Om (fun v w' => ∃ vs cur' et' F1 Fr, v = Xt vs ∧ Qq w w' (· ∈ b :: (F0 ++ F2)) ∧ w'.heap[b]? = some (.cells cur' et' (0, 0)) ∧ cur'.size = τ.size ∧
  (if vw then Ma w' (fun c => O c ∨ c ∈ b :: (F0 ++ F2) ∨ c ∈ Fr) τ r.1 cur'.toList ∧ F1 = [] else Gb w' τ r.1 cur'.toList F1) ∧
  Gc w' (fun c => O c ∨ c ∈ b :: (F0 ++ F2) ∨ c ∈ F1 ∨ c ∈ Fr) rt r.2 fr vs Fr ∧ (b :: (F1 ++ Fr)).Nodup ∧ ∀ c ∈ F1 ++ Fr, w.heap.size ≤ c ∨ c ∈ F0 ++ F2) (.returned v) w' := by
  intro hk
  split at hk
  ·rename_i τ' d1 d hbx' hd
   split at hk
   ·rename_i q x' l0 r' l hq hx' hr
    obtain rfl := Hd hq
    simp only [Ba] at hk
    obtain ⟨hnd', hk⟩ := hk
    simp only [jc] at hk
    subst hk
    have hnd' := Yf hnd'
    obtain ⟨hsh', b', cur', et', hσ', hh', hF', hr0, hsz'⟩ := h.hp 500000 _ hbx'
    have hpin : σ 500000 = .pointer (some ⟨b, 0, none⟩) := h.pin 500000 _ (show (if (500000 : Nat) = 500000 then some (Value.pointer (some ⟨b, 0, none⟩)) else none) = _ from if_pos rfl)
    rw [hpin] at hσ'
    simp only [Value.pointer.injEq, jc, Addr.mk.injEq, and_true] at hσ'
    subst hσ'
    have hkl : (∀ j, j ∈ l0 → ∃ Ca, s.heap j = some Ca) ∧ (if vw then Ma w' (OO (fun c => O c ∨ c ∈ b :: (F0 ++ F2)) s φ) τ' x' cur'.toList ∧ l0 = [] else Gb w' τ' x' cur'.toList (Aa φ l0)) := by
     cases vw with
     | true =>
      simp only [cond_true] at hx'
      split at hx'
      ·rename_i y hy
       simp only [jc, jh] at hx'
       obtain ⟨rfl, rfl⟩ := hx'
       exact ⟨by simp, by simp only [if_true]; exact ⟨(Ff hy).2 _ hr0, trivial⟩⟩
      ·simp at hx'
     | false =>
      simp only [cond_false] at hx'
      obtain ⟨g1, g2⟩ := Dj h hx' hr0
      exact ⟨g2, by simpa using g1⟩
    obtain ⟨hlive0, hx1⟩ := hkl
    obtain ⟨vs, hvs, hru⟩ := Cs hG.toEnvTy h hd
    obtain ⟨hR, hlive⟩ := CB h hr hru
    have hall : ∀ j, j ∈ 500000 :: (l0 ++ l) → ∃ Ca, s.heap j = some Ca := by
     intro j hj
     rcases jp.1 hj with rfl | hj
     ·exact ⟨_, hbx'⟩
     ·rcases jl.1 hj with hj | hj
      ·exact hlive0 j hj
      ·exact hlive j hj
    have hbk : Aa φ (500000 :: (l0 ++ l)) = b :: (Aa φ l0 ++ Aa φ l) := by
     have : Aa φ (500000 :: (l0 ++ l)) = φ 500000 ++ Aa φ (l0 ++ l) := by simp only [Aa, List.map_cons, List.flatten_cons]
     rw [this, hF', Tc]; rfl
    have hbn := Pe h hnd' hall
    rw [hbk] at hbn
    have hinOO : ∀ c, c ∈ Aa φ l0 ++ Aa φ l → OO (fun c => O c ∨ c ∈ b :: (F0 ++ F2)) s φ c := by
     intro c hc
     rw [← Tc] at hc
     obtain ⟨j, hj, hm'⟩ := Ua.1 hc
     obtain ⟨Ca, hbj⟩ := hall j (jr _ hj)
     exact .inr ⟨j, Ca, hbj, hm'⟩
    refine ⟨h.df, _, Vs hvs, vs, cur', et', Aa φ l0, Aa φ l, rfl, ⟨h.fr.size, fun c hc hno => h.fr.block c hc hno, h.fr.os, h.fr.tape, h.fr.output⟩, hh', hsz', ?_, hR.mono ?_, hbn, ?_⟩
    ·cases vw with
     | true =>
      simp only [if_true] at hx1 ⊢
      refine ⟨hx1.1.weaken ?_, by rw [hx1.2]; simp [Aa]⟩
      rintro c (hc | hc | hc)
      ·exact .inl (.inl hc)
      ·exact .inl (.inr hc)
      ·exact hinOO c (List.mem_append_right _ hc)
     | false => simpa using hx1
    ·rintro c (hc | hc | hc | hc)
     ·exact .inl (.inl hc)
     ·exact .inl (.inr hc)
     ·exact hinOO c (List.mem_append_left _ hc)
     ·exact hinOO c (List.mem_append_right _ hc)
    ·intro c hcm
     have hcb : c ≠ b := by
      rintro rfl
      exact (List.nodup_cons.1 hbn).1 hcm
     rw [← Tc] at hcm
     obtain ⟨j, hj, hm'⟩ := Ua.1 hcm
     obtain ⟨Ca, hbj⟩ := hall j (jr _ hj)
     rcases h.fresh j Ca hbj c hm' with h1 | h1
     ·exact .inl h1
     ·have h1 : c ∈ b :: (F0 ++ F2) := h1
      rcases jp.1 h1 with h1 | h1
      ·exact absurd h1 hcb
      ·exact .inr h1
   ·simp at hk
  ·simp at hk
 cases e with
 | normal => exact Kf hk
 | ret => exact Kf hk
 | exit j => simp at hk
def GI (G : Od) (L : List (Nat × Eb)) (fn : Func) (pt τ : Ty) (x : T pt) : Option (T τ) :=
 match fn.body with
 | some c => Km G L c ⟨fn.ntmps, Pn pt x 0, []⟩ fun e s => match e with
  | .exit _ => none
  | _ => match Qn G s fn.results.toList with
   | some (.pr (.ptr id []) .un) => match s.heap id with
    | some (.box τ' d) => match Ty.dec τ' τ, Vg d τ with
     | some _, some y => some y
     | _, _ => none
    | _ => none
   | _ => none
 | none => none
theorem KV (hG : Wg P I G) (hm : P.follows .mixedOrders = true) {f : FuncId} {fn : Func} {c : Code} (hf : P.funcs[f]? = some fn) (hb : fn.body = some c) (hname : (fn.name == "runtime.NumGoroutine") = false)
 (hL : ∀ b, b ∈ Wc c → Rb G L b) {pt τ : Ty} {F : T pt → Option (T τ)} (hn : pt.npar ≤ fn.ntmps) (hF : ∀ x r, F x = some r → GI G L fn pt τ x = some r) : Cg P I f (.nw pt τ F) := by
 refine ⟨⟨fn, hf, hname, by rw [hb]; rfl⟩, ?_⟩
 intro O w x r args hx hargs hO hI hB
 have he := hF x r hx
 unfold GI at he
 rw [hb] at he
 simp only at he
 refine calls_of_wp hf hb ?_
 have hlen := Hw hargs
 have hc : Pa w.heap.size (AG I) O w ⟨fn.ntmps, Pn pt x 0, []⟩ (fun _ => undef) (fun _ => []) { tmps := args.toArray ++ Array.replicate (fn.ntmps - args.toArray.size) undef, defers := [] } w := by
  have hh : ∀ id, AS.heap ⟨fn.ntmps, Pn pt x 0, []⟩ id = none := fun id => rfl
  refine ⟨?_, rfl, ?_, ?_, ?_, ?_, ?_, hO, ⟨rfl, rfl, rfl, jo _, fun _ _ _ => rfl⟩, ?_, hB, hI⟩
  ·simp; omega
  ·intro t d hd
   have hOO : OO O ⟨fn.ntmps, Pn pt x 0, []⟩ (fun _ => []) = O := by
    funext b
    simp [OO, hh]
   rw [hOO]
   obtain ⟨j, v, h1, h2, h3⟩ := Jy hargs hd
   refine ⟨v, ?_, h3⟩
   have hj : j < args.length := (List.getElem?_eq_some_iff.1 h2).1
   have : t = j := by omega
   subst this
   rw [Array.getElem?_append_left (by simpa using hj)]
   simpa using h2
  ·intro id Ca hb; rw [hh] at hb; simp at hb
  ·intro id Ca hb; rw [hh] at hb; simp at hb
  ·intro id id' Ca blk' _ hb; rw [hh] at hb; simp at hb
  ·intro id Ca hb; rw [hh] at hb; simp at hb
  ·intro id v hv; simp [AG] at hv
 refine AE (A := AG I) hG (fun _ _ h => h) hm c hL he hc ?_
 intro e s σ φ a w' hk h
 have Kf : (match Qn G s fn.results.toList with
  | some (.pr (.ptr id []) .un) => match s.heap id with
   | some (.box τ' d) => match Ty.dec τ' τ, Vg d τ with
    | some _, some y => some y
    | _, _ => none
   | _ => none
  | _ => none) = some r → a.defers = [] ∧ ∃ v, (results fn a.tmps).run P w' = .ok v w' ∧ Om (fun v w' => ∃ b cur et, v = .pointer (some ⟨b, 0, none⟩) ∧ Qq w w' (fun _ => False) ∧ w.heap.size ≤ b ∧ w'.heap[b]? = some (.cells cur et (0, 0)) ∧ cur.size = τ.size ∧ Ma w' (fun c => O c ∨ c = b) τ r cur.toList) (.returned v) w' := by
  intro hk
  split at hk
  ·rename_i id hd
   split at hk
   ·rename_i τ' d hbx
    split at hk
    ·rename_i q y hq hy
     obtain rfl := Hd hq
     simp only [jc] at hk
     subst hk
     obtain ⟨vs, hvs, hru⟩ := Cs hG.toEnvTy h hd
     cases vs with
     | nil => simp [RU] at hru
     | cons v vs =>
      obtain ⟨h1, h2⟩ := hru
      cases vs with
      | cons _ _ => simp [RU] at h2
      | nil =>
       obtain ⟨_, b, cur, et, hσ, hh, hφ, hr0, hsz⟩ := h.hp id _ hbx
       rw [Vj] at h1
       obtain ⟨b', hσ', hv⟩ := h1.2 _ _ hbx
       rw [hσ] at hσ'
       simp only [Value.pointer.injEq, jc, Addr.mk.injEq, and_true] at hσ'
       subst hσ'
       have hmem : b ∈ φ id := by rw [hφ]; simp
       refine ⟨h.df, _, Vs hvs, b, cur, et, by simp only [Xt, hv, Ta], ⟨h.fr.size, fun b hb _ => h.fr.block b hb (fun h => h), h.fr.os, h.fr.tape, h.fr.output⟩, (h.fresh id _ hbx b hmem).resolve_right (fun h => h), hh, hsz, ?_⟩
       refine Ma.weaken ?_ ((Ff hy).2 _ hr0)
       rintro c (hc | rfl)
       ·exact .inl hc
       ·exact .inr ⟨id, _, hbx, hmem⟩
    ·simp at hk
   ·simp at hk
  ·simp at hk
 cases e with
 | normal => exact Kf hk
 | ret => exact Kf hk
 | exit j => simp at hk
end
open Go Go.WideShapes
def JD : (τ : Ty) → T τ → Prop
 | .i k, n => k.has n
 | .b, _ => True
 | .o, _ => True
 | .s, x => ja x ≤ Hh
 | .sl e, xs => ja xs ≤ Hh ∧ ∀ i (h : i < ja xs), JD e (List.get xs ⟨i, h⟩)
 | .u, _ => True
 | .p x y, v => JD x v.1 ∧ JD y v.2
def Ty.pos : Ty → Bool
 | .sl e => e.pos && Nat.blt 0 e.size
 | .p x y => x.pos && y.pos
 | .o => false
 | _ => true
section
variable {H : Type} {enc : TypeId × Value → H} {P : Program} {w : World} {base : Nat} {spare : Nat → Bool} {held : Bool}
theorem Rj {τ : Ty} {t : TypeId} (h : Yc P τ t = true) : P.cellsOf t = τ.size := by
 obtain ⟨i, h1, h2, _⟩ := Tok.size h
 simp [Program.cellsOf, h1, h2]
theorem DX {k : IntKind} {n : Int} (h : (Lit.int k n).wf = true) : k.has n := by
 simpa [Lit.wf, IntKind.has] using h
theorem UZ {a : Addr} {n : Nat} (h : n ≠ 0) : a.add n = ⟨a.block, a.off + n, none⟩ := by
 simp [Addr.add, h]
theorem Gz {a : Addr} {n : Nat} {cs : List Value} (h : w.cells? base a n = some cs) (hn : 0 < n) :
 ∃ cur et fr, a = ⟨a.block, a.off, none⟩ ∧ w.heap[a.block]? = some (.cells cur et fr) ∧ a.off + n ≤ cur.size ∧ cs = Kc cur a.off n := by
 unfold World.cells? at h
 split at h
 ·have hlen : cs.length = n := by simpa using mapM_some_length h
  have hget : ∀ i, i < n → w.cell? (a.add i) = cs[i]? := fun i hi => mapM_some_get h i i (by simp [hi])
  have h0 := hget 0 hn
  have ha : a.add 0 = a := by simp [Addr.add]
  rw [ha] at h0
  have hc0 : cs[0]? = some (cs[0]'(by omega)) := je (by omega)
  rw [hc0] at h0
  unfold World.cell? at h0
  split at h0
  ·rename_i cur et fr hb
   have hsp : a.spot = none := by
    cases hs : a.spot with
    | none => rfl
    | some x => simp [hs] at h0
   have hcell : ∀ i, i < n → cur[a.off + i]? = cs[i]? := by
    intro i hi
    have := hget i hi
    by_cases hi0 : i = 0
    ·subst hi0
     rw [ha] at this
     unfold World.cell? at this
     rw [hb] at this
     simpa [hsp] using this
    ·rw [UZ hi0] at this
     unfold World.cell? at this
     simp only at this
     rw [hb] at this
     simpa using this
   refine ⟨cur, et, fr, by cases a; simp_all, hb, ?_, ?_⟩
   ·have h1 := hcell (n - 1) (by omega)
    rw [je (by omega)] at h1
    have := (Array.getElem?_eq_some_iff.1 h1).1
    omega
   ·apply List.ext_getElem?
    intro i
    by_cases hi : i < n
    ·rw [Gd _ _ _ _ hi, hcell i hi]
    ·rw [List.getElem?_eq_none (by omega), List.getElem?_eq_none]
     simp [Kc]; omega
  ·simp at h0
 ·simp at h
theorem VW {fs : List Field} {o : Nat} (h : Fe P .u fs o = true) : fs = [] := by
 cases fs <;> simp_all [Fe]
theorem EJ {x y : Ty} {fs : List Field} {o : Nat} (h : Fe P (.p x y) fs o = true) : ∃ f r, fs = f :: r ∧ f.offset = o ∧ Yc P x f.type = true ∧ Fe P y r (o + x.size) = true := by
 cases fs with
 | nil => simp [Fe] at h
 | cons f r =>
  simp only [Fe, jd] at h
  exact ⟨f, r, rfl, ju h.1.1.1, h.1.2, h.2⟩
theorem HI {x y : Ty} {t : TypeId} (h : Yc P (.p x y) t = true) : ∃ fs, P.underlying t = some (.struct fs) ∧ Fe P (.p x y) fs.toList 0 = true := by
 simp only [Yc, jd] at h
 obtain ⟨_, h⟩ := h
 split at h
 ·rename_i fs hfs
  refine ⟨fs, hfs, ?_⟩
  split at h
  ·rename_i f r hr
   rw [hr]
   simpa [Fe] using h
  ·simp at h
 ·simp at h
theorem JI {t : TypeId} (h : Yc P .u t = true) : ∃ fs, P.underlying t = some (.struct fs) ∧ fs.size = 0 := by
 simp only [Yc, jd] at h
 obtain ⟨_, h⟩ := h
 split at h
 ·rename_i fs hfs
  exact ⟨fs, hfs, ju h⟩
 ·simp at h
mutual
theorem KA (hO : ∀ b, ¬ (fun _ : Nat => False) b) : ∀ (τ : Ty) (t : TypeId) (n : Nat) (cs : List Value) (x : DataW H × List MemPlace), Yc P τ t = true → τ.pos = true →
 DataW.trod enc P w base spare held n t cs = some x → ∃ y : T τ, Ma w (fun _ => False) τ y cs ∧ JD τ y
 | .i k, t, n, cs, x, ht, _, h => by
  obtain ⟨m, h1, _, h2⟩ := DataW.trod_int (Tok.i ht) h
  exact ⟨m, h1, DX h2⟩
 | .b, t, n, cs, x, ht, _, h => by
  obtain ⟨m, h1, _⟩ := DataW.trod_bool (Tok.b ht) h
  exact ⟨m, h1, trivial⟩
 | .o, t, n, cs, x, ht, hp, h => by simp [Ty.pos] at hp
 | .s, t, n, cs, x, ht, _, h => by
  obtain ⟨m, h1, _, h2⟩ := DataW.trod_string (Tok.s ht) h
  refine ⟨m.data.toList, ?_, ?_⟩
  ·show cs = [.string ⟨List.toArray m.data.toList⟩]
   rw [h1]
  ·show m.data.toList.length ≤ Hh
   have : m.size = m.data.toList.length := Array.length_toList.symm
   unfold maxLen at h2
   unfold Hh
   omega
 | .sl e, t, n, cs, x, ht, hp, h => by
  obtain ⟨et, hu, he⟩ := Tok.sl ht
  simp only [Ty.pos, jd] at hp
  have hpos : 0 < e.size := by simpa using hp.2
  rcases DataW.trod_slice hu h with ⟨h1, _⟩ | ⟨a, len, cap, elems, rest, m, _, h1, _, _, h2, h3, h4, h5, _, _⟩
  ·exact ⟨([] : List (T e)), ⟨none, 0, h1, jo _, Nat.zero_le _, .inl rfl⟩, ⟨Nat.zero_le _, fun i hi => absurd hi (Nat.not_lt_zero i)⟩⟩
  ·rw [Rj he] at h5
   have hone : ∀ i, i < len → ∃ y : T e, ∃ cs', w.cells? base (a.add (i * e.size)) e.size = some cs' ∧ Ma w (fun _ => False) e y cs' ∧ JD e y := by
    intro i hi
    have := h5 i hi
    rw [je (by omega), qf] at this
    obtain ⟨cs', hc, hy⟩ := this
    obtain ⟨y, hv, hr⟩ := KA hO e et m cs' _ he hp.1 hy
    exact ⟨y, cs', hc, hv, hr⟩
   let ys : List (T e) := List.ofFn fun i : Fin len => Classical.choose (hone i.1 i.2)
   have hlen : ys.length = len := by simp [ys]
   have hy : ∀ i (h : i < ys.length), ∃ cs', w.cells? base (a.add (i * e.size)) e.size = some cs' ∧ Ma w (fun _ => False) e (ys.get ⟨i, h⟩) cs' ∧ JD e (ys.get ⟨i, h⟩) := by
    intro i hi
    have := Classical.choose_spec (hone i (by omega))
    simpa [ys] using this
   have hmax : len ≤ Hh := by unfold maxLen at h3; unfold Hh; omega
   refine ⟨ys, ⟨some a, cap, by rw [h1, hlen], by rw [hlen]; exact h2, by rw [hlen]; exact hmax, ?_⟩, by rw [hlen]; exact hmax, fun i hi => (hy i hi).choose_spec.2.2⟩
   by_cases hl0 : len = 0
   ·left
    exact List.eq_nil_of_length_eq_zero (by omega)
   ·right
    obtain ⟨cs0, hc0, _⟩ := hy 0 (by omega)
    have ha0 : a.add (0 * e.size) = a := by simp [Addr.add]
    rw [ha0] at hc0
    obtain ⟨cur, et', fr, ha, hb, _, _⟩ := Gz hc0 hpos
    have hadd : ∀ i, (a.add (i * e.size)).block = a.block ∧ (a.add (i * e.size)).off = a.off + i * e.size := by
     intro i
     unfold Addr.add
     split
     ·rename_i hz; simp [hz]
     ·exact ⟨rfl, rfl⟩
    refine ⟨a.block, a.off, cur, et', fr, by rw [← ha], fun h => h, hb, ?_, ?_⟩
    ·obtain ⟨cs1, hc1, _⟩ := hy (len - 1) (by omega)
     obtain ⟨cur1, et1, fr1, _, hb1, hs1, _⟩ := Gz hc1 hpos
     rw [(hadd _).1, hb] at hb1
     simp only [jc, Obj.cells.injEq] at hb1
     rw [(hadd _).2, ← hb1.1] at hs1
     have : len * e.size = (len - 1) * e.size + e.size := by
      rw [← Nat.succ_mul]; congr 1; omega
     show a.off + ys.length * e.size ≤ cur.size
     rw [hlen]
     omega
    ·intro i hi
     obtain ⟨cs1, hc1, hv, _⟩ := hy i hi
     obtain ⟨cur1, et1, fr1, _, hb1, _, hs1⟩ := Gz hc1 hpos
     rw [(hadd _).1, hb] at hb1
     simp only [jc, Obj.cells.injEq] at hb1
     rw [(hadd _).2, ← hb1.1] at hs1
     rw [← hs1]
     exact hv
 | .u, t, n, cs, x, ht, _, h => by
  obtain ⟨fs, hu, hz⟩ := JI ht
  obtain ⟨xs, m, _, _, hl, _⟩ := DataW.trod_struct hu h
  rw [Rj ht] at hl
  exact ⟨(), List.eq_nil_of_length_eq_zero hl, trivial⟩
 | .p a c2, t, n, cs, x, ht, hp, h => by
  obtain ⟨fs, hu, hf⟩ := HI ht
  obtain ⟨xs, m, _, _, hl, _, hget⟩ := DataW.trod_struct hu h
  rw [Rj ht] at hl
  have := LB hO (.p a c2) fs.toList 0 m cs hf hp (by simpa using hl) (by
   intro i f hi
   have := hget i f (by simpa using hi)
   have hlt : i < xs.length := by
    have : i < fs.toList.length := (List.getElem?_eq_some_iff.1 hi).1
    simp at this; omega
   exact ⟨_, this.trans (je hlt)⟩)
  simpa using this
termination_by τ => (sizeOf τ, 1)
theorem LB (hO : ∀ b, ¬ (fun _ : Nat => False) b) : ∀ (τ : Ty) (fs : List Field) (o m : Nat) (cs : List Value), Fe P τ fs o = true → τ.pos = true → cs.length = o + τ.size →
 (∀ (i : Nat) (f : Field), fs[i]? = some f → ∃ x, DataW.trod enc P w base spare held m f.type ((cs.drop f.offset).take (P.cellsOf f.type)) = some x) →
 ∃ y : T τ, Ma w (fun _ => False) τ y (cs.drop o) ∧ JD τ y
 | .p a c2, fs, o, m, cs, hf, hp, hl, hx => by
  obtain ⟨f, r, rfl, ho, ht, hr⟩ := EJ hf
  simp only [Ty.pos, jd] at hp
  simp only [Ty.size] at hl
  obtain ⟨z, hz⟩ := hx 0 f rfl
  rw [Rj ht, ho] at hz
  obtain ⟨y1, hv1, hr1⟩ := KA hO a f.type m _ z ht hp.1 hz
  obtain ⟨y2, hv2, hr2⟩ := LB hO c2 r (o + a.size) m cs hr hp.2 (by omega) (fun i f' hi => hx (i + 1) f' (by simpa using hi))
  refine ⟨(y1, y2), ⟨(cs.drop o).take a.size, cs.drop (o + a.size), ?_, hv1, hv2⟩, hr1, hr2⟩
  rw [← List.drop_drop, List.take_append_drop]
 | .u, fs, o, m, cs, _, _, hl, _ => ⟨(), by simp only [Ma, Ty.size] at hl ⊢; exact List.drop_of_length_le (by omega), trivial⟩
 | .i _, fs, o, m, cs, hf, _, _, _ => by simp [Fe] at hf
 | .b, fs, o, m, cs, hf, _, _, _ => by simp [Fe] at hf
 | .o, fs, o, m, cs, hf, _, _, _ => by simp [Fe] at hf
 | .s, fs, o, m, cs, hf, _, _, _ => by simp [Fe] at hf
 | .sl _, fs, o, m, cs, hf, _, _, _ => by simp [Fe] at hf
termination_by τ => (sizeOf τ, 0)
end
end
open Go Go.WideShapes Go.ChangeShapes
def Xh (P : Program) : Ty → List TypeId → Bool
 | .p x y, t :: ts => Yc P x t && x.pos && Xh P y ts
 | .u, [] => true
 | _, _ => false
section
variable {H : Type} {enc : TypeId × Value → H} {P : Program} {w : World} {base : Nat} {spare : Nat → Bool} {held : Bool}
theorem JP {τ : Ty} {t : TypeId} {v : Value} {r : Reach} {b0 : Nat} (ht : Yc P τ t = true) (h : Value.okWide P w r b0 t v) : v = Oc τ v.cells.toList := by
 have key : ∀ {τ : Ty}, τ.isAgg = false → v.cells = #[v] → v = Oc τ v.cells.toList := by
  intro τ h1 h2
  rw [h2]; simp [Oc, h1]
 cases τ with
 | i k =>
  obtain ⟨n, rfl⟩ := okWide_int (Tok.i ht) h
  exact key rfl rfl
 | b =>
  obtain ⟨n, rfl⟩ := okWide_bool (Tok.b ht) h
  exact key rfl rfl
 | o =>
  refine key rfl ?_
  obtain ⟨et, hu⟩ := Tok.o ht
  unfold Value.okWide at h
  rw [hu] at h
  cases v with
  | agg cs => simp [Cell.okWide, Cell.ok, hu] at h
  | _ => rfl
 | s =>
  refine key rfl ?_
  have hu := Tok.s ht
  unfold Value.okWide at h
  rw [hu] at h
  cases v with
  | agg cs => simp [Cell.okWide, Cell.ok, hu] at h
  | _ => rfl
 | sl e =>
  refine key rfl ?_
  obtain ⟨et, hu, _⟩ := Tok.sl ht
  unfold Value.okWide at h
  rw [hu] at h
  cases v with
  | agg cs => simp [Cell.okWide, Cell.ok, hu] at h
  | _ => rfl
 | u =>
  obtain ⟨fs, hu, _⟩ := JI ht
  obtain ⟨cs, rfl, _⟩ := okWide_struct hu h
  simp [Oc, Ty.isAgg, Value.cells]
 | p x y =>
  obtain ⟨fs, hu, _⟩ := HI ht
  obtain ⟨cs, rfl, _⟩ := okWide_struct hu h
  simp [Oc, Ty.isAgg, Value.cells]
theorem JA : ∀ {pt : Ty} {ts : List TypeId} {vs : List Value} {ds : List (DataW H)} {ps : List MemPlace}, Xh P pt ts = true → DataW.TrodAll enc P w 0 spare held ts vs ds ps →
 (∀ (j : Nat) t v, ts[j]? = some t → vs[j]? = some v → Value.okWide P w .any base t v) → ∃ x : T pt, Af w (fun _ => False) pt x vs ∧ JD pt x
 | .p x y, t :: ts, v :: vs, d :: ds, ps, hp, h, hv => by
  simp only [Xh, jd] at hp
  obtain ⟨p, q, ⟨n, h1⟩, h2, _⟩ := h
  obtain ⟨a, ha, hra⟩ := KA (fun _ h => h) x t n _ _ hp.1.1 hp.1.2 h1
  obtain ⟨b, hb, hrb⟩ := JA hp.2 h2 fun j t' v' h1 h2 => hv (j + 1) t' v' (by simpa using h1) (by simpa using h2)
  exact ⟨(a, b), ⟨⟨_, JP hp.1.1 (hv 0 t v rfl rfl), ha⟩, hb⟩, hra, hrb⟩
 | .u, [], [], [], _, _, _, _ => ⟨(), trivial, trivial⟩
 | .p _ _, [], _, _, _, hp, _, _ => by simp [Xh] at hp
 | .u, _ :: _, _, _, _, hp, _, _ => by simp [Xh] at hp
 | .i _, _, _, _, _, hp, _, _ => by simp [Xh] at hp
 | .b, _, _, _, _, hp, _, _ => by simp [Xh] at hp
 | .o, _, _, _, _, hp, _, _ => by simp [Xh] at hp
 | .s, _, _, _, _, hp, _, _ => by simp [Xh] at hp
 | .sl _, _, _, _, _, hp, _, _ => by simp [Xh] at hp
 | .p _ _, _ :: _, [], _, _, _, h, _ => by simp [DataW.TrodAll] at h
 | .p _ _, _ :: _, _ :: _, [], _, _, h, _ => by simp [DataW.TrodAll] at h
 | .u, [], _ :: _, _, _, _, h, _ => by simp [DataW.TrodAll] at h
 | .u, [], [], _ :: _, _, _, h, _ => by simp [DataW.TrodAll] at h
def NA (P : Program) (t : TypeId) : Prop := ∃ τ : Ty, Yc P τ t = true ∧ τ.pos = true
theorem FJ : ∀ {τ : Ty} {fs : List Field} {o : Nat}, Fe P τ fs o = true → τ.pos = true →
 (∀ f ∈ fs, NA P f.type) ∧ τ.size = (fs.map fun f => P.cellsOf f.type).sum ∧ ∀ (j : Nat) f, fs[j]? = some f → f.offset = o + ((fs.take j).map fun f => P.cellsOf f.type).sum
 | .u, fs, o, h, _ => by
  rw [VW h]
  simp [Ty.size]
 | .p x y, fs, o, h, hp => by
  obtain ⟨f, r, rfl, ho, ht, hr⟩ := EJ h
  simp only [Ty.pos, jd] at hp
  obtain ⟨h1, h2, h3⟩ := FJ hr hp.2
  refine ⟨?_, ?_, ?_⟩
  ·intro g hg
   rcases jp.1 hg with rfl | hg
   ·exact ⟨x, ht, hp.1⟩
   ·exact h1 g hg
  ·simp [Ty.size, Rj ht, h2]
  ·intro j g hj
   cases j with
   | zero => simp at hj; subst hj; simp [ho]
   | succ j =>
    have := h3 j g (by simpa using hj)
    simp [this, Rj ht, jt]
 | .i _, fs, o, h, _ => by simp [Fe] at h
 | .b, fs, o, h, _ => by simp [Fe] at h
 | .o, fs, o, h, _ => by simp [Fe] at h
 | .s, fs, o, h, _ => by simp [Fe] at h
 | .sl _, fs, o, h, _ => by simp [Fe] at h
theorem Pt {t : TypeId} {u : TypeDesc} (h : NA P t) (hu : P.underlying t = some u) : (∃ k, u = .int k) ∨ u = .bool ∨ u = .string ∨ (∃ e, u = .slice e ∧ NA P e ∧ 0 < P.cellsOf e) ∨ ∃ fs, u = .struct fs := by
 obtain ⟨τ, ht, hp⟩ := h
 cases τ with
 | i k => rw [Tok.i ht] at hu; exact .inl ⟨k, (Option.some.inj hu).symm⟩
 | b => rw [Tok.b ht] at hu; exact .inr (.inl (Option.some.inj hu).symm)
 | o => simp [Ty.pos] at hp
 | s => rw [Tok.s ht] at hu; exact .inr (.inr (.inl (Option.some.inj hu).symm))
 | sl e =>
  obtain ⟨et, h1, h2⟩ := Tok.sl ht
  rw [h1] at hu
  simp only [Ty.pos, jd] at hp
  exact .inr (.inr (.inr (.inl ⟨et, (Option.some.inj hu).symm, ⟨e, h2, hp.1⟩, by rw [Rj h2]; simpa using hp.2⟩)))
 | u => obtain ⟨fs, h1, _⟩ := JI ht; rw [h1] at hu; exact .inr (.inr (.inr (.inr ⟨fs, (Option.some.inj hu).symm⟩)))
 | p x y => obtain ⟨fs, h1, _⟩ := HI ht; rw [h1] at hu; exact .inr (.inr (.inr (.inr ⟨fs, (Option.some.inj hu).symm⟩)))
theorem ZN : Kids P (NA P) := by
 refine ⟨?_, ?_, ?_, ?_, ?_⟩
 ·intro t e ht hu
  rcases Pt ht hu with ⟨k, h⟩ | h | h | ⟨e', h, _⟩ | ⟨fs, h⟩ <;> simp at h
 ·intro t e ht hu
  rcases Pt ht hu with ⟨k, h⟩ | h | h | ⟨e', h, h2, _⟩ | ⟨fs, h⟩ <;> simp at h
  rw [h]; exact h2
 ·intro t e n ht hu
  rcases Pt ht hu with ⟨k, h⟩ | h | h | ⟨e', h, _⟩ | ⟨fs, h⟩ <;> simp at h
 ·intro t fs ht hu
  obtain ⟨τ, ht, hp⟩ := ht
  cases τ with
  | i k => rw [Tok.i ht] at hu; simp at hu
  | b => rw [Tok.b ht] at hu; simp at hu
  | o => simp [Ty.pos] at hp
  | s => rw [Tok.s ht] at hu; simp at hu
  | sl e => obtain ⟨et, h1, _⟩ := Tok.sl ht; rw [h1] at hu; simp at hu
  | u =>
   obtain ⟨fs', h1, h2⟩ := JI ht
   rw [h1] at hu
   simp only [jc, TypeDesc.struct.injEq] at hu
   subst hu
   have : fs'.toList = [] := by simpa using h2
   rw [Rj ht, this]
   simp [Ty.size]
  | p x y =>
   obtain ⟨fs', h1, h2⟩ := HI ht
   rw [h1] at hu
   simp only [jc, TypeDesc.struct.injEq] at hu
   subst hu
   obtain ⟨a, b, c⟩ := FJ h2 hp
   exact ⟨a, by rw [Rj ht, b], fun j f hj => by simpa using c j f hj⟩
 ·intro t k e ht hu
  rcases Pt ht hu with ⟨k, h⟩ | h | h | ⟨e', h, _⟩ | ⟨fs, h⟩ <;> simp at h
theorem TB : ∀ {pt : Ty} {ts : List TypeId}, Xh P pt ts = true → ∀ t ∈ ts, NA P t
 | .p x y, t :: ts, h, t', ht => by
  simp only [Xh, jd] at h
  rcases jp.1 ht with rfl | ht
  ·exact ⟨x, h.1.1, h.1.2⟩
  ·exact TB h.2 t' ht
 | .u, [], _, _, ht => by simp at ht
 | .p _ _, [], _, _, ht => by simp at ht
 | .u, _ :: _, h, _, _ => by simp [Xh] at h
 | .i _, _, h, _, _ => by simp [Xh] at h
 | .b, _, h, _, _ => by simp [Xh] at h
 | .o, _, h, _, _ => by simp [Xh] at h
 | .s, _, h, _, _ => by simp [Xh] at h
 | .sl _, _, h, _, _ => by simp [Xh] at h
theorem Zy {w' : World} {sp' : Nat → Bool} : ∀ {ts : List TypeId} {vs : List Value} {ds : List (DataW H)} {ps : List MemPlace}, (∀ t ∈ ts, NA P t) →
 DataW.TrodAll enc P w 0 (fun _ => true) true ts vs ds ps → (∀ p ∈ ps, w.sameAt w' p) → (∀ p ∈ ps, sp' p.block = true) → DataW.TrodAll enc P w' 0 sp' true ts vs ds ps
 | [], [], [], _, _, h, _, _ => h
 | t :: ts, v :: vs, d :: ds, ps, hp, h, h1, h2 => by
  obtain ⟨p, q, ⟨n, ha⟩, hb, rfl⟩ := h
  refine ⟨p, q, ⟨n, DataW.trod_stays ZN ?_ (fun h => by simp at h) (hp t (by simp)) ha (fun z hz => h1 z (List.mem_append_left _ hz)) (fun z hz => h2 z (List.mem_append_left _ hz))⟩,
   Zy (fun t ht => hp t (by simp [ht])) hb (fun z hz => h1 z (List.mem_append_right _ hz)) (fun z hz => h2 z (List.mem_append_right _ hz)), rfl⟩
  intro t e ht hu
  rcases Pt ht hu with ⟨k, h⟩ | h | h | ⟨e', h, _, h2⟩ | ⟨fs, h⟩ <;> simp at h
  rw [h]; exact h2
 | [], _ :: _, _, _, _, h, _, _ => by simp [DataW.TrodAll] at h
 | [], [], _ :: _, _, _, h, _, _ => by simp [DataW.TrodAll] at h
 | _ :: _, [], _, _, _, h, _, _ => by simp [DataW.TrodAll] at h
 | _ :: _, _ :: _, [], _, _, h, _, _ => by simp [DataW.TrodAll] at h
theorem VB : ∀ {ts : List TypeId} {vs : List Value} {ds : List (DataW H)} {ps : List MemPlace}, DataW.TrodAll enc P w base spare held ts vs ds ps → ds.length = ts.length
 | [], [], [], _, _ => rfl
 | _ :: _, _ :: _, _ :: _, _, h => by
  obtain ⟨_, _, _, h, _⟩ := h
  simp [VB h]
 | [], _ :: _, _, _, h => by simp [DataW.TrodAll] at h
 | [], [], _ :: _, _, h => by simp [DataW.TrodAll] at h
 | _ :: _, [], _, _, h => by simp [DataW.TrodAll] at h
 | _ :: _, _ :: _, [], _, h => by simp [DataW.TrodAll] at h
theorem Qq.but {w w' : World} (h : Qq w w' fun _ => False) (may : MemPlace → Prop) : w.keptBut w' may := by
 refine ⟨h.os, h.output, fun i hi => ?_⟩
 rw [h.block i hi (fun h => h)]
 cases w.heap[i]? with
 | none => rfl
 | some o =>
  cases o with
  | cells c t fr => exact ⟨rfl, rfl, rfl, fun _ _ => rfl⟩
  | map es clock => exact .inr ⟨rfl, rfl⟩
  | _ => rfl
def TJ : Of := ⟨0, fun _ => True, fun _ _ _ h => h⟩
theorem CO {C : Checked} {os : Os} {f : FuncId} {fn : Func} {s : ChangeSpec} {apart fresh handsOn again : Bool} {pt : Ty} {fl : Bool} {F : T pt → Option (Bool × Unit)} {tb : TypeId}
 (own : ownKnob C.prog.godebug = none) (started : os.Started) (noInit : C.prog.inits.idxOf? f = none) (hfn : C.prog.funcs[f]? = some fn)
 (witness : ∃ (w : World) (tape : Tape) (i : Input), w.os = os ∧ (w.forCall tape i).Shaped C.prog ∧ i.vars = [] ∧ Input.okWide C.prog (w.forCall tape i) .any w.heap.size f i ∧
  s.pre6 enc C.prog fn [] apart (w.forCall tape i).memory i.args ∧ ({} : Assume).holds C.prog (lone (Frame.enter C.prog f i.args .normal) [] (w.forCall tape i)))
 (hvars : s.vars = []) (hs : ∀ ds : List (DataW H), ds.length = fn.params.toList.length → s.fn H ds = { results := [.lit (.bool true)], args := ds })
 (hp : Xh C.prog pt fn.params.toList = true) (hr : fn.resultTypes = #[tb]) (htb : C.prog.underlying tb = some .bool)
 (hsound : Cg C.prog TJ f (.pu pt (.p .b .u) [fl] F)) (hF : ∀ x, JD pt x → F x = some (true, ())) :
 ReturnsInHanded {} C os f .any (s.pre6 enc C.prog fn [] apart) (s.post enc C.prog fn apart fresh handsOn again) := by
 refine returnsInHanded_of_change own started noInit hfn witness ?_
 intro W b0 args ds gs before hval hW _ _
 have hW0 := hW
 obtain ⟨p, q, hA, hV, hps, hfz, hnd⟩ := hW
 rw [hvars] at hV
 have hgs : gs = [] ∧ q = [] := by
  cases gs with
  | nil => exact ⟨rfl, hV⟩
  | cons _ _ => exact hV.elim
 obtain ⟨rfl, rfl⟩ := hgs
 simp only [List.append_nil] at hps
 subst hps
 obtain ⟨x, hx, hrx⟩ := JA (base := b0) hp hA fun j t v h1 h2 => hval j t v (by simpa using h1) (by simpa using h2)
 have hcall := hsound.2 (fun _ => False) W x (true, ()) args.toList (hF x hrx) hx (fun _ h => h.elim) trivial (Nat.zero_le _)
 refine hcall.mono fun e W' hret => ?_
 cases e with
 | returned v =>
  obtain ⟨vs, Fr, hv, hk, hR, _, _⟩ := hret
  have hvt : v = .bool true := by
   cases vs with
   | nil => simp [Gc] at hR
   | cons a r =>
    obtain ⟨cs, F1, F2, ha, _, hown, hrest⟩ := hR
    cases r with
    | cons _ _ => simp [Gc] at hrest
    | nil =>
     have hcs : cs = [.bool true] := by
      cases fl with
      | true => exact hown.1
      | false => exact hown.1
     rw [hv, Xt, ha, hcs]
     rfl
  subst hvt
  refine ⟨_, rfl, ?_⟩
  have hsp := hs ds (VB hA)
  have hlt : ∀ z ∈ before, z.block < W.heap.size := hW0.lt
  have hsame : ∀ z ∈ before, W.sameAt W' z := by
   intro z hz
   have hb := hk.block z.block (hlt z hz) (fun h => h)
   cases z with
   | cell b off =>
    show W'.cell? _ = W.cell? _
    simp only [World.cell?]
    rw [show W'.heap[b]? = W.heap[b]? from hb]
   | map b => exact hb
  have hargs : ∀ sp : Nat → Bool, (∀ z ∈ before, sp z.block = true) → DataW.TrodAll enc C.prog W' 0 sp true fn.params.toList args.toList ds before :=
   fun sp h => Zy (TB hp) hA hsame h
  have hres : ∀ (b : Nat) (sp : Nat → Bool) (hd : Bool), DataW.TrodAll enc C.prog W' b sp hd fn.resultTypes.toList ((Value.bool true).resultList fn.resultTypes.size) [.lit (.bool true)] [] := by
   intro b sp hd
   rw [hr]
   exact trodAll_mk1 (Go.RowKit.shut_bool htb true)
  have hold : ∀ z ∈ before, (fun b => decide (b < W.heap.size)) z.block = true := fun z hz => by simpa using hlt z hz
  refine ⟨ds, [], before, [], before, [], hW0, ?_, ?_, ?_, hk.but _, fun _ => ⟨?_, ds.cons (.lit (.bool true)), [], before, ⟨before, [], ?_, ?_, by simp, ?_, ?_⟩, fun z hz _ => hz⟩⟩
  ·rw [List.append_nil, hsp]; exact hres _ _ _
  ·rw [List.append_nil, hsp]; exact hargs _ hold
  ·rw [List.append_nil, hsp, hvars]; rfl
  ·intro j t r hj hv
   rw [hr] at hj hv
   match j, hj, hv with
   | 0, hj, hv =>
    simp only [List.getElem?_toArray, List.getElem?_cons_zero, jc] at hj
    simp [Value.resultList] at hv
    subst hj; subst hv
    exact Go.RowKit.okWide_bool_mk htb true
  ·exact trodAll_append (hargs _ (fun _ _ => rfl)) (hres _ _ _)
  ·rw [hvars]; rfl
  ·intro b off hz
   have := hfz b off hz
   unfold World.frozen? at this ⊢
   rw [show W'.heap[b]? = W.heap[b]? from hk.block b (hlt _ hz) (fun h => h)]
   exact this
  ·exact hnd
 | _ => exact hret.elim
end
noncomputable def Cc {X R : Type} (step : X → Option (X ⊕ R)) (x : X) : Option R :=
 open Classical in if h : ∃ m y, Tt step m x y then some h.choose_spec.choose else none
theorem Tt.det {X R : Type} {step : X → Option (X ⊕ R)} : ∀ {m n : Nat} {x : X} {y z : R}, Tt step m x y → Tt step n x z → y = z
 | 0, _, _, _, _, h, _ => h.elim
 | _ + 1, 0, _, _, _, _, h => h.elim
 | m + 1, n + 1, x, y, z, h, h' => by
  rcases h with h | ⟨x1, h, h1⟩ <;> rcases h' with h' | ⟨x2, h', h2⟩
  ·rw [h] at h'; simpa using h'
  ·rw [h] at h'; simp at h'
  ·rw [h] at h'; simp at h'
  ·rw [h] at h'
   simp only [jc, Sum.inl.injEq] at h'
   subst h'
   exact Tt.det h1 h2
theorem Bw {X R : Type} {step : X → Option (X ⊕ R)} {x : X} {y : R} : Cc step x = some y ↔ ∃ m, Tt step m x y := by
 unfold Cc
 constructor
 ·intro h
  split at h
  ·rename_i hh
   simp only [jc] at h
   exact ⟨_, h ▸ hh.choose_spec.choose_spec⟩
  ·simp at h
 ·rintro ⟨m, h⟩
  have hh : ∃ m y, Tt step m x y := ⟨m, y, h⟩
  rw [dif_pos hh]
  exact congrArg some (Tt.det hh.choose_spec.choose_spec h)
theorem Ey {X R : Type} {step : X → Option (X ⊕ R)} (x : X) : Cc step x = (step x).bind (Sum.elim (Cc step) some) := by
 apply Option.ext
 intro y
 rw [Bw]
 constructor
 ·rintro ⟨m, h⟩
  cases m with
  | zero => exact h.elim
  | succ m =>
   rcases h with h | ⟨x', h, h'⟩
   ·simp [h]
   ·simp [h, Bw.2 ⟨m, h'⟩]
 ·intro h
  rw [qf] at h
  obtain ⟨z, hz, h⟩ := h
  cases z with
  | inl x' =>
   obtain ⟨m, hm⟩ := Bw.1 h
   exact ⟨m + 1, .inr ⟨x', hz, hm⟩⟩
  | inr z =>
   simp only [Sum.elim_inr, jc] at h
   subst h
   exact ⟨1, .inl hz⟩
def lp (fn : Func) (i : Nat) : Code := (Wc (fn.body.getD .skip)).getD i .skip
theorem AH {G : Od} {L : List (Nat × Eb)} {fn : Func} {i r : Nat} {ls : Eb} {R : ls.inT.X → Option (ls.inT.X ⊕ (ls.outT.X ⊕ ls.retT.X))}
 (h1 : Bh (lp fn i) = some r) (h2 : (Va L r) = some ls) (h3 : ls.F = Cc R) (h4 : ∀ x, Fw G L ls (lp fn i) x = R x) : Rb G L (lp fn i) := by
 intro r' ls' hr hl x y hy
 rw [h1] at hr
 simp only [jc] at hr
 subst hr
 rw [h2] at hl
 simp only [jc] at hl
 subst hl
 rw [h3] at hy
 obtain ⟨m, hm⟩ := Bw.1 hy
 have : Fw G L ls (lp fn i) = R := funext h4
 rw [this]
 exact ⟨m, hm⟩
theorem Cw {G : Od} {L : List (Nat × Eb)} {fn : Func} {k : Nat} (hk : Nat.beq (Wc (fn.body.getD .skip)).length k = true) (h : ∀ i, i < k → Rb G L (lp fn i)) :
 ∀ b, b ∈ Wc (fn.body.getD .skip) → Rb G L b := by
 intro b hb
 obtain ⟨i, hi, rfl⟩ := List.mem_iff_getElem.1 hb
 have := h i (by rw [← ju hk]; exact hi)
 unfold lp at this
 rwa [qi, je hi] at this
theorem Za {p : Nat → Prop} : ∀ i, i < 0 → p i := fun i h => absurd h (Nat.not_lt_zero i)
theorem Jb {p : Nat → Prop} {k : Nat} (h : p k) (hr : ∀ i, i < k → p i) : ∀ i, i < k + 1 → p i := by
 intro i hi
 rcases Nat.lt_or_eq_of_le (Nat.lt_succ_iff.1 hi) with hi | rfl
 ·exact hr i hi
 ·exact h
section
variable {P : Program}
theorem RT {l : List (Nat × Ty)} {fs : List (Nat × Bb)} {m : List (Nat × Nat)} {z : Bool} {ar : List (Nat × Ty × Nat)} {mv ml : List Nat}
 (h : ((l.all fun x => Yc P x.2 x.1) && (ar.all fun x => CC P x.1 x.2.1 x.2.2)) = true) : EnvTy P ⟨l, fs, m, z, ar, mv, ml⟩ := by
 simp only [jd] at h
 exact ⟨fun t τ ht => List.all_eq_true.1 h.1 (t, τ) (Vn ht), fun t e n ht => List.all_eq_true.1 h.2 (t, e, n) (Vn ht)⟩
theorem RG {I : Of} {l : List (Nat × Ty)} {m : List (Nat × Nat)} {z : Bool} {ar : List (Nat × Ty × Nat)} {mv ml : List Nat}
 (h : ((l.all fun x => Yc P x.2 x.1) && (ar.all fun x => CC P x.1 x.2.1 x.2.2)) = true) : Wg P I ⟨l, [], m, z, ar, mv, ml⟩ :=
 { toEnvTy := RT h, fn := fun f sem h => by simp [Va] at h }
theorem Wg.cons {I : Of} {l : List (Nat × Ty)} {fs : List (Nat × Bb)} {m : List (Nat × Nat)} {z : Bool} {ar : List (Nat × Ty × Nat)} {mv ml : List Nat} {f : Nat} {sem : Bb} (hs : Cg P I f sem)
 (h : Wg P I ⟨l, fs, m, z, ar, mv, ml⟩) : Wg P I ⟨l, (f, sem) :: fs, m, z, ar, mv, ml⟩ :=
 { toEnvTy := ⟨h.ty, h.ar⟩, fn := fun g s hg => by
    simp only [Bc] at hg
    split at hg
    ·rename_i e
     simp only [jc] at hg
     subst e; subst hg
     exact hs
    ·exact h.fn g s hg }
theorem Sv {fn : Func} (h : fn.body.isSome = true) : fn.body = some (fn.body.getD .skip) := by
 cases hb : fn.body with
 | none => rw [hb] at h; simp at h
 | some c => rfl
variable {I : Of} {G : Od} {L : List (Nat × Eb)}
theorem HA (hG : Wg P I G) (hm : P.follows .mixedOrders = true) {f : FuncId} {fn : Func} {k : Nat} {pt rt : Ty} {fr : List Bool} {F : T pt → Option (T rt)} (hf : P.funcs[f]? = some fn)
 (hb : (fn.body.isSome && !(fn.name == "runtime.NumGoroutine") && jx pt.npar fn.ntmps && Nat.beq (Wc (fn.body.getD .skip)).length k) = true)
 (hL : ∀ i, i < k → Rb G L (lp fn i)) (hF : ∀ x, QP G L fn pt rt fr x = F x) : Cg P I f (.pu pt rt fr F) := by
 simp only [jd, Bool.not_eq_true'] at hb
 exact LV hG hm hf (Sv hb.1.1.1) hb.1.1.2 (Cw hb.2 hL) (Nat.le_of_ble_eq_true hb.1.2) fun x r h => (hF x).trans h
theorem WR (hG : Wg P I G) (hfz : G.fz = false) (hm : P.follows .mixedOrders = true) {f : FuncId} {fn : Func} {k : Nat} {pt rt : Ty} {fr : List Bool} {F : T pt → Option (T rt)} (hf : P.funcs[f]? = some fn)
 (hb : (fn.body.isSome && !(fn.name == "runtime.NumGoroutine") && jx pt.npar fn.ntmps && Nat.beq (Wc (fn.body.getD .skip)).length k) = true)
 (hL : ∀ i, i < k → Rb G L (lp fn i)) (hF : ∀ x, FI G L fn pt rt fr x = F x) : Cg P I f (.co pt rt fr F) := by
 simp only [jd, Bool.not_eq_true'] at hb
 exact JV hG hfz hm hf (Sv hb.1.1.1) hb.1.1.2 (Cw hb.2 hL) (Nat.le_of_ble_eq_true hb.1.2) fun x r h => (hF x).trans h
theorem UR (hG : Wg P I G) (hfz : G.fz = false) (hm : P.follows .mixedOrders = true) {f : FuncId} {fn : Func} {k : Nat} {vw cv : Bool} {τ pt rt : Ty} {fr : List Bool} {F : T τ → T pt → Option (T τ × T rt)} (hf : P.funcs[f]? = some fn)
 (hb : (fn.body.isSome && !(fn.name == "runtime.NumGoroutine") && jx (pt.npar + 1) fn.ntmps && Nat.beq (Wc (fn.body.getD .skip)).length k) = true)
 (hL : ∀ i, i < k → Rb G L (lp fn i)) (hF : ∀ x0 x, EI G L fn vw cv τ pt rt fr x0 x = F x0 x) : Cg P I f (.bx vw cv τ pt rt fr F) := by
 simp only [jd, Bool.not_eq_true'] at hb
 exact IV hG hfz hm hf (Sv hb.1.1.1) hb.1.1.2 (Cw hb.2 hL) (Nat.le_of_ble_eq_true hb.1.2) fun x0 x r h => (hF x0 x).trans h
theorem XR (hG : Wg P I G) (hm : P.follows .mixedOrders = true) {f : FuncId} {fn : Func} {k : Nat} {pt τ : Ty} {F : T pt → Option (T τ)} (hf : P.funcs[f]? = some fn)
 (hb : (fn.body.isSome && !(fn.name == "runtime.NumGoroutine") && jx pt.npar fn.ntmps && Nat.beq (Wc (fn.body.getD .skip)).length k) = true)
 (hL : ∀ i, i < k → Rb G L (lp fn i)) (hF : ∀ x, GI G L fn pt τ x = F x) : Cg P I f (.nw pt τ F) := by
 simp only [jd, Bool.not_eq_true'] at hb
 exact KV hG hm hf (Sv hb.1.1.1) hb.1.1.2 (Cw hb.2 hL) (Nat.le_of_ble_eq_true hb.1.2) fun x r h => (hF x).trans h
end
abbrev Yd : Ty := .p (.i .i64) (.p (.sl (.i .i64)) .u)
abbrev Vc : Ty := .p (.i .i64) (.p .o .u)
def hd (h : T .o) : Value := .slice h.1 h.2.1 h.2.2
section
variable {P : Program} {w w' : World}
theorem OR {x : T Yd} {cs : List Value} {F : List Nat} (h : Gb w Yd x cs F) : ∃ h : T .o, cs = [.int .i64 x.1, hd h] ∧ Gb w (.sl (.i .i64)) x.2.1 [hd h] F := by
 obtain ⟨c1, c2, F1, F2, rfl, rfl, ⟨rfl, rfl⟩, c3, c4, F3, F4, rfl, rfl, h3, rfl, rfl⟩ := h
 have h3' := h3
 obtain ⟨_, ⟨e1, _, _⟩ | ⟨bl, off, cap, cur, et, Fs, e1, _⟩⟩ := h3
 ·subst e1
  exact ⟨(none, 0, 0), rfl, by simpa [hd] using h3'⟩
 ·subst e1
  exact ⟨(some ⟨bl, off, none⟩, ja x.2.1, cap), rfl, by simpa [hd] using h3'⟩
theorem D0 {x : T Yd} {h : T .o} {F : List Nat} (ho : Gb w (.sl (.i .i64)) x.2.1 [hd h] F) : Gb w Yd x [.int .i64 x.1, hd h] F :=
 ⟨[.int .i64 x.1], [hd h], [], F, rfl, rfl, ⟨rfl, rfl⟩, [hd h], [], F, [], by simp, by simp, ho, rfl, rfl⟩
theorem MM (x : T Vc) (O : Nat → Prop) : Ma w O Vc x [.int .i64 x.1, hd x.2.1] :=
 ⟨[.int .i64 x.1], [hd x.2.1], rfl, rfl, [hd x.2.1], [], by simp, rfl, rfl⟩
theorem TF {x : T Vc} {O : Nat → Prop} {cs : List Value} (h : Ma w O Vc x cs) : cs = [.int .i64 x.1, hd x.2.1] := by
 obtain ⟨c1, c2, rfl, rfl, c3, c4, rfl, rfl, rfl⟩ := h
 rfl
abbrev KD := T Yd × T Vc × List Nat
def WM (w : World) (p : KD) : Prop := p.2.1.1 = p.1.1 ∧ Gb w (.sl (.i .i64)) p.1.2.1 [hd p.2.1.2.1] p.2.2
theorem CV {l : List (T Yd)} {cs : List Value} {F : List Nat} (h : Gb w (.sl Yd) l cs F) :
 ∃ Q : List KD, Q.map (·.1) = l ∧ Ma w (fun _ => False) (.sl Vc) (Q.map (·.2.1)) cs ∧ (∀ p ∈ Q, WM w p) ∧ (Q.map (·.2.2)).flatten.Sublist F := by
 obtain ⟨hm, ⟨rfl, rfl, rfl⟩ | ⟨bl, off, cap, cur, et, Fs, rfl, hh, h1, h2, h3, rfl, hl, hv⟩⟩ := h
 ·exact ⟨[], rfl, ⟨none, 0, rfl, jo _, hm, .inl rfl⟩, by simp, by simp⟩
 ·have key : ∀ i : Fin (ja l), ∃ h : T .o, Kc cur (off + i.val * Yd.size) Yd.size = [.int .i64 (List.get l i).1, hd h] ∧ Gb w (.sl (.i .i64)) (List.get l i).2.1 [hd h] (Fs.getD i.val []) :=
   fun i => OR (hv i.val i.isLt)
  have ⟨g, hg⟩ := Classical.axiomOfChoice key
  let Q : List KD := List.ofFn fun i : Fin (ja l) => (List.get l i, ((List.get l i).1, g i, ()), Fs.getD i.val [])
  have hQ : ∀ i (hi : i < ja l), Q[i]'(by simp [Q]; exact hi) = (List.get l ⟨i, hi⟩, ((List.get l ⟨i, hi⟩).1, g ⟨i, hi⟩, ()), Fs.getD i []) := fun i hi => by simp [Q]
  have hQl : Q.length = ja l := by simp [Q]
  refine ⟨Q, ?_, ?_, ?_, ?_⟩
  ·apply List.ext_getElem
   ·simp [hQl]
   ·intro i h1 h2
    rw [List.getElem_map, hQ i h2]; rfl
  ·have hlen : ja (Q.map (·.2.1)) = ja l := by simp [hQl]
   refine ⟨_, cap, by rw [hlen], by rw [hlen]; exact h1, by rw [hlen]; exact hm, .inr ⟨bl, off, cur, et, _, rfl, fun h => h, hh, ?_, fun i hi => ?_⟩⟩
   ·rw [hlen]
    have := jm Yd.size h1
    exact qb (Nat.add_le_add_left this _) h3
   ·have hi' : i < ja l := by rw [← hlen]; exact hi
    have e : List.get (Q.map (·.2.1)) ⟨i, hi⟩ = ((List.get l ⟨i, hi'⟩).1, g ⟨i, hi'⟩, ()) := by
     show (Q.map (·.2.1))[i] = _
     rw [List.getElem_map, hQ i hi']
    rw [e]
    have := (hg ⟨i, hi'⟩).1
    show Ma w _ Vc _ (Kc cur (off + i * Yd.size) Yd.size)
    rw [this]
    exact MM (((List.get l ⟨i, hi'⟩).1, g ⟨i, hi'⟩, ()) : T Vc) _
  ·intro p hp
   obtain ⟨i, hi, rfl⟩ := qp hp
   have hi' : i < ja l := by rw [← hQl]; exact hi
   rw [hQ i hi']
   exact ⟨rfl, (hg ⟨i, hi'⟩).2⟩
  ·have e : Q.map (·.2.2) = Fs := by
    apply List.ext_getElem
    ·simp [hQl, hl]
    ·intro i h1 h2
     have hi' : i < ja l := by rw [← hl]; exact h2
     rw [List.getElem_map, hQ i hi']
     simp [List.getD, je h2]
   rw [e]
   exact List.sublist_cons_self _ _
theorem OV {Q : List KD} {cs : List Value} {F : List Nat} (h : Gb w (.sl Vc) (Q.map (·.2.1)) cs F) (hQ : ∀ p ∈ Q, WM w p) :
 ∃ F', Gb w (.sl Yd) (Q.map (·.1)) cs F' ∧ (∀ b, b ∈ F' → b ∈ F ∨ b ∈ (Q.map (·.2.2)).flatten) ∧ ((∀ b, b ∈ F → b ∉ (Q.map (·.2.2)).flatten) → F.Nodup → (Q.map (·.2.2)).flatten.Nodup → F'.Nodup) := by
 obtain ⟨hm, ⟨rfl, hn, rfl⟩ | ⟨bl, off, cap, cur, et, Fs, rfl, hh, h1, h2, h3, rfl, hl, hv⟩⟩ := h
 ·have : Q = [] := List.map_eq_nil_iff.1 hn
  subst this
  exact ⟨[], ⟨hm, .inl ⟨rfl, rfl, rfl⟩⟩, by simp, by simp⟩
 ·have hlen : ja (Q.map (·.2.1)) = Q.length := by simp
  have hlen1 : ja (Q.map (·.1)) = Q.length := by simp
  rw [hlen] at hm h1 hl
  refine ⟨bl :: (Q.map (·.2.2)).flatten, ⟨by rw [hlen1]; exact hm, .inr ⟨bl, off, cap, cur, et, Q.map (·.2.2), by rw [hlen1]; simp, hh, by rw [hlen1]; exact h1, h2, h3, rfl, by simp, fun i hi => ?_⟩⟩, ?_, ?_⟩
  ·have hi' : i < Q.length := by rw [← hlen1]; exact hi
   have hv' := hv i (by rw [hlen]; exact hi')
   have e0 : List.get (Q.map (·.2.1)) ⟨i, by rw [hlen]; exact hi'⟩ = Q[i].2.1 := by
    show (Q.map (·.2.1))[i]'_ = _
    rw [List.getElem_map]
   have e1 : List.get (Q.map (·.1)) ⟨i, hi⟩ = Q[i].1 := by
    show (Q.map (·.1))[i]'_ = _
    rw [List.getElem_map]
   rw [e0] at hv'
   rw [e1]
   have hF0 : ∀ b, b ∈ Fs.getD i [] → False := by
    intro b hb
    obtain ⟨c1, c2, F1, F2, _, hF, ⟨_, rfl⟩, c3, c4, F3, F4, _, rfl, ⟨_, rfl⟩, _, rfl⟩ := hv'
    rw [hF] at hb; simp at hb
   have hcs := TF (Gb.view (O := fun _ => False) hv' (fun b hb h => h))
   have hok := hQ Q[i] (qn hi')
   have e2 : (Q.map (·.2.2)).getD i [] = Q[i].2.2 := by
    simp [List.getD, je hi']
   rw [e2]
   show Gb w Yd _ (Kc cur (off + i * Vc.size) Vc.size) _
   rw [hcs, hok.1]
   exact D0 hok.2
  ·intro b hb
   rcases jp.1 hb with rfl | hb
   ·exact .inl (by simp)
   ·exact .inr hb
  ·intro hdj _ hnd
   exact List.nodup_cons.2 ⟨hdj bl (by simp), hnd⟩
end
def Xn (same : T Yd → T Yd → Bool) : T Yd → List (T Yd) → List (T Yd)
 | _, [] => []
 | a, x :: r => cond (same a x) (Xn same x r) (x :: Xn same x r)
def Yu (same : T Yd → T Yd → Bool) : T Yd → List KD → List KD
 | _, [] => []
 | a, x :: r => cond (same a x.1) (Yu same x.1 r) (x :: Yu same x.1 r)
def Xx (c : T Vc → T Vc → Option Bool) : T Vc → List (T Vc) → Option (List (T Vc))
 | _, [] => some []
 | a, x :: r => jz (c a x) fun b => jz (Xx c x r) fun q => some (cond b q (x :: q))
theorem EC (same : T Yd → T Yd → Bool) : ∀ (Q : List KD) (a : T Yd), (Yu same a Q).map (·.1) = Xn same a (Q.map (·.1))
 | [], _ => rfl
 | x :: r, a => by
  simp only [Yu, Xn, List.map_cons]
  cases same a x.1 with
  | true => simp only [cond_true]; exact EC same r x.1
  | false => simp only [cond_false, List.map_cons]; rw [EC same r x.1]
theorem FC (same : T Yd → T Yd → Bool) : ∀ (Q : List KD) (a : T Yd), (Yu same a Q).Sublist Q
 | [], _ => .slnil
 | x :: r, a => by
  simp only [Yu]
  cases same a x.1 with
  | true => exact (FC same r x.1).cons x
  | false => exact (FC same r x.1).cons_cons x
theorem GL {same : T Yd → T Yd → Bool} {c : T Vc → T Vc → Option Bool} {R : T Yd → T Vc → Prop} (hc : ∀ a ao b bo, R a ao → R b bo → c ao bo = some (same a b)) :
 ∀ (Q : List KD) (a : T Yd) (ao : T Vc), R a ao → (∀ p ∈ Q, R p.1 p.2.1) → Xx c ao (Q.map (·.2.1)) = some ((Yu same a Q).map (·.2.1))
 | [], _, _, _, _ => rfl
 | x :: r, a, ao, h, hq => by
  have hx := hq x (by simp)
  simp only [List.map_cons, Xx, Yu, hc _ _ _ _ h hx, jb]
  rw [GL hc r x.1 x.2.1 hx (fun p hp => hq p (by simp [hp]))]
  simp only [jb]
  cases same a x.1 <;> rfl
theorem AL {α : Type} {a b : List (List α)} (h : a.Sublist b) : a.flatten.Sublist b.flatten := by
 induction h with
 | slnil => simp
 | cons x _ ih => rw [List.flatten_cons]; exact ih.trans (List.sublist_append_right _ _)
 | cons_cons x _ ih => rw [List.flatten_cons, List.flatten_cons]; exact (List.Sublist.refl x).append ih
def Mv (x : T Yd) : Bool := jx (ja x.2.1) Cb
noncomputable def JN (same : T Yd → T Yd → Bool) (a : T Yd) (l : List (T Yd)) : Option (List (T Yd) × Unit) :=
 bif jx (ja l) Cb && (Mv a && l.all Mv) then some (Xn same a l, ()) else none
theorem AX {w : World} {O O' : Nat → Prop} {xs ys : List Int} {v : Value} (h1 : Ma w O (.sl (.i .i64)) xs [v]) (h2 : Ma w O' (.sl (.i .i64)) ys [v]) : xs = ys := by
 obtain ⟨a, cap, e1, _, _, h1⟩ := h1
 obtain ⟨a', cap', e2, _, _, h2⟩ := h2
 rw [e1] at e2
 simp only [List.cons.injEq, Value.slice.injEq, and_true] at e2
 obtain ⟨rfl, hlen, rfl⟩ := e2
 have hlen' : xs.length = ys.length := hlen
 rcases h1 with h1 | ⟨bl, off, cur, et, fr, ha, _, hh, hs, hv⟩
 ·have h1' : xs = [] := h1
  subst h1'
  exact (List.eq_nil_of_length_eq_zero (by simpa using hlen'.symm)).symm
 ·rcases h2 with h2 | ⟨bl', off', cur', et', fr', ha', _, hh', hs', hv'⟩
  ·have h2' : ys = [] := h2
   subst h2'
   exact List.eq_nil_of_length_eq_zero (by simpa using hlen')
  ·rw [ha] at ha'
   simp only [jc, Addr.mk.injEq, and_true] at ha'
   obtain ⟨rfl, rfl⟩ := ha'
   rw [hh] at hh'
   simp only [jc] at hh'
   injection hh' with e3 _ _
   subst e3
   apply List.ext_getElem hlen'
   intro i h1 h2
   have p1 := hv i h1
   have p2 := hv' i h2
   have p1' : Kc cur (off + i * 1) 1 = [Value.int .i64 xs[i]] := p1
   have p2' : Kc cur (off + i * 1) 1 = [Value.int .i64 ys[i]] := p2
   rw [p1'] at p2'
   simpa using p2'
open Classical in
noncomputable def Jz (w : World) (h : T .o) : Option (List Int) :=
 if hx : ∃ xs : List Int, Ma w (fun _ => False) (.sl (.i .i64)) xs [hd h] ∧ ja xs ≤ Cb then some hx.choose else none
theorem NG {w : World} {h : T .o} {xs : List Int} (hc : Jz w h = some xs) : Ma w (fun _ => False) (.sl (.i .i64)) xs [hd h] ∧ ja xs ≤ Cb := by
 unfold Jz at hc
 split at hc
 ·rename_i hx
  simp only [jc] at hc
  rw [← hc]; exact hx.choose_spec
 ·simp at hc
theorem HL {w : World} {h : T .o} {xs : List Int} (hv : Ma w (fun _ => False) (.sl (.i .i64)) xs [hd h]) (hl : ja xs ≤ Cb) : Jz w h = some xs := by
 unfold Jz
 have hx : ∃ xs : List Int, Ma w (fun _ => False) (.sl (.i .i64)) xs [hd h] ∧ ja xs ≤ Cb := ⟨xs, hv, hl⟩
 rw [dif_pos hx]
 rw [AX hx.choose_spec.1 hv]
noncomputable def UI (w : World) (same : T Yd → T Yd → Bool) (a b : T Vc) : Option Bool :=
 jz (Jz w a.2.1) fun u => jz (Jz w b.2.1) fun v => some (same (a.1, u, ()) (b.1, v, ()))
@[reducible] noncomputable def FG (c : T Vc → T Vc → Option Bool) : Bb := .pu (.p Vc (.p Vc .u)) (.p .b .u) [true] (fun x => jz (c x.1 x.2.1) fun b => some (b, ()))
theorem YO {w w2 : World} (h : ∀ b, b < w.heap.size → w2.heap[b]? = w.heap[b]?) {τ : Ty} {x : T τ} {cs : List Value} {O : Nat → Prop} (hv : Ma w O τ x cs) : Ma w2 O τ x cs :=
 Ma.stable (fun b _ hb => h b hb) (fun _ _ h => h) hv
theorem VR {P : Program} {f f2 : FuncId} {SR : T (.p Yd (.p Yd .u)) → Option (T (.p .b .u))} {same : T Yd → T Yd → Bool}
 (hSR : ∀ a b : T Yd, ja a.2.1 ≤ Cb → ja b.2.1 ≤ Cb → SR (a, b, ()) = some (same a b, ()))
 (h2 : Cg P TJ f2 (.pu (.p Yd (.p Yd .u)) (.p .b .u) [true] SR))
 (h : ∀ (I : Of) (c : T Vc → T Vc → Option Bool), Cg P I f2 (FG c) → ∃ FO, Cg P I f (.pu (.p Vc (.p (.sl Vc) .u)) (.p (.sl Vc) .u) [true] FO) ∧
  ∀ (a : T Vc) (l r : List (T Vc)), ja l ≤ Cb → Xx c a l = some r → FO (a, l, ()) = some (r, ())) :
 Cg P TJ f (.co (.p Yd (.p (.sl Yd) .u)) (.p (.sl Yd) .u) [true] (fun x => JN same x.1 x.2.1)) := by
 have hE : Lr P f := by
  have hS0 : Cg P TJ f2 (FG fun _ _ => none) := ⟨h2.1, fun O w x r args hF => by simp at hF⟩
  obtain ⟨FO, hs, _⟩ := h TJ _ hS0
  exact hs.1
 refine ⟨hE, ?_⟩
 intro O w x r F0 args hF hA hnd hO hI hbase hF0
 obtain ⟨a, l, u⟩ := x
 match args, hA with
 | [a1, a2], hA =>
 obtain ⟨cs1, F1, F2', rfl, rfl, ho1, cs2, F2, F3, rfl, rfl, ho2, hF3⟩ := hA
 have hF3' : F3 = [] := hF3
 subst hF3'
 rw [List.append_nil] at *
 simp only [JN] at hF
 cases hsm : (jx (ja l) Cb && (Mv a && l.all Mv)) with
 | false => rw [hsm] at hF; simp at hF
 | true =>
 rw [hsm] at hF
 simp only [cond_true, jc] at hF
 subst hF
 simp only [jd, List.all_eq_true, Mv] at hsm
 have hl1 : ja l ≤ Cb := Nat.le_of_ble_eq_true hsm.1
 have hl2 : ja a.2.1 ≤ Cb := Nat.le_of_ble_eq_true hsm.2.1
 have hl3 : ∀ x ∈ l, ja x.2.1 ≤ Cb := fun x hx => Nat.le_of_ble_eq_true (hsm.2.2 x hx)
 obtain ⟨ah, rfl, hoa⟩ := OR ho1
 obtain ⟨Q, rfl, hvQ, hokQ, hsub⟩ := CV ho2
 let I : Of := ⟨w.heap.size, fun w2 => w.heap.size ≤ w2.heap.size ∧ ∀ b, b < w.heap.size → w2.heap[b]? = w.heap[b]?, fun w1 w2 hb h1 => by
  refine ⟨?_, fun b hlt => (hb b hlt).trans (h1.2 b hlt)⟩
  rcases Nat.eq_zero_or_pos w.heap.size with h0 | h0
  ·omega
  ·have e := (hb (w.heap.size - 1) (by omega)).trans (h1.2 (w.heap.size - 1) (by omega))
   rw [Array.getElem?_eq_getElem (show w.heap.size - 1 < w.heap.size by omega)] at e
   have := (Array.getElem?_eq_some_iff.1 e).1
   omega⟩
 have hS : Cg P I f2 (FG (UI w same)) := by
  refine ⟨h2.1, ?_⟩
  intro O2 w2 x2 r2 args2 hF2 hA2 hO2 hI2 hb2
  obtain ⟨p, q, u2⟩ := x2
  match args2, hA2 with
  | [b1, b2], hA2 =>
  obtain ⟨⟨c1, rfl, hv1⟩, ⟨c2, rfl, hv2⟩, _⟩ := hA2
  simp only [UI] at hF2
  cases hu : Jz w p.2.1 with
  | none => rw [hu] at hF2; simp at hF2
  | some xu =>
   cases hv : Jz w q.2.1 with
   | none => rw [hu, hv] at hF2; simp at hF2
   | some xv =>
    rw [hu, hv] at hF2
    simp only [jb, jc] at hF2
    subst hF2
    obtain ⟨hxu, lxu⟩ := NG hu
    obtain ⟨hxv, lxv⟩ := NG hv
    have e1 := TF hv1
    have e2 := TF hv2
    subst e1; subst e2
    have mk : ∀ (p : T Vc) (xs : List Int), Ma w (fun _ => False) (.sl (.i .i64)) xs [hd p.2.1] → Ma w2 (fun _ => False) Yd (p.1, xs, ()) [.int .i64 p.1, hd p.2.1] := fun p xs hx =>
     ⟨[.int .i64 p.1], [hd p.2.1], rfl, rfl, [hd p.2.1], [], by simp, YO hI2.2 hx, rfl⟩
    have hc := h2.2 (fun _ => False) w2 ((p.1, xu, ()), (q.1, xv, ()), ()) (same (p.1, xu, ()) (q.1, xv, ()), ()) [Oc Vc [.int .i64 p.1, hd p.2.1], Oc Vc [.int .i64 q.1, hd q.2.1]]
     (hSR _ _ lxu lxv) ⟨⟨_, rfl, mk p xu hxu⟩, ⟨_, rfl, mk q xv hxv⟩, trivial⟩ (fun b h => h.elim) trivial (Nat.zero_le _)
    refine hc.mono ?_
    intro e w3 hR
    cases e with
    | returned v =>
     obtain ⟨vs, Fr, hvs, hK, hR, hn, hfr⟩ := hR
     exact ⟨vs, Fr, hvs, hK, hR.all rfl, hn, hfr⟩
    | panicked _ => exact hR
    | outgrown => exact hR
 obtain ⟨FO, hs, hFO⟩ := h I (UI w same) hS
 have hrel : ∀ a ao b bo, (fun (x : T Yd) (y : T Vc) => y.1 = x.1 ∧ Ma w (fun _ => False) (.sl (.i .i64)) x.2.1 [hd y.2.1] ∧ ja x.2.1 ≤ Cb) a ao →
  (fun (x : T Yd) (y : T Vc) => y.1 = x.1 ∧ Ma w (fun _ => False) (.sl (.i .i64)) x.2.1 [hd y.2.1] ∧ ja x.2.1 ≤ Cb) b bo → UI w same ao bo = some (same a b) := by
  rintro a ao b bo ⟨e1, v1, l1⟩ ⟨e2, v2, l2⟩
  simp only [UI, HL v1 l1, HL v2 l2, jb, e1, e2]
 have hch := GL (R := fun (x : T Yd) (y : T Vc) => y.1 = x.1 ∧ Ma w (fun _ => False) (.sl (.i .i64)) x.2.1 [hd y.2.1] ∧ ja x.2.1 ≤ Cb) hrel Q a (a.1, ah, ())
  ⟨rfl, Gb.view hoa fun b _ h => h, hl2⟩ (fun p hp => ⟨(hokQ p hp).1, Gb.view (hokQ p hp).2 fun b _ h => h, hl3 p.1 (List.mem_map_of_mem hp)⟩)
 have hFO' := hFO (a.1, ah, ()) (Q.map (·.2.1)) _ (by simpa using hl1) hch
 have hc := hs.2 (fun _ => False) w ((a.1, ah, ()), Q.map (·.2.1), ()) ((Yu same a Q).map (·.2.1), ()) [Oc Vc [.int .i64 a.1, hd ah], Oc (.sl Vc) cs2] hFO'
  ⟨⟨_, rfl, MM ((a.1, ah, ()) : T Vc) _⟩, ⟨_, rfl, hvQ⟩, trivial⟩ (fun b h => h.elim) ⟨jo _, fun _ _ => rfl⟩ (jo _)
 refine hc.mono ?_
 intro e w3 hR
 cases e with
 | panicked _ => exact hR
 | outgrown => exact hR
 | returned v =>
  obtain ⟨vs, Fr, hvs, hK, hR, hn, hfr⟩ := hR
  match vs, hR with
  | [v1], hR =>
  obtain ⟨cs, G1, G2, rfl, rfl, hown, hG2⟩ := hR
  have hG2' : G2 = [] := hG2
  subst hG2'
  rw [List.append_nil] at *
  simp only [if_true] at hown
  have hlt : ∀ b, b ∈ F2 → b < w.heap.size := fun b hb => ho2.lt b hb
  have hsubQ := FC same Q a
  have hok3 : ∀ p ∈ Yu same a Q, WM w3 p := fun p hp => by
   have h0 := hokQ p (hsubQ.mem hp)
   exact ⟨h0.1, Gb.stable h0.2 fun b hb => hK.block b (h0.2.lt b hb) (fun h => h)⟩
  obtain ⟨F', ho', hm', hnd'⟩ := OV hown hok3
  have hsub2 : ((Yu same a Q).map (·.2.2)).flatten.Sublist F2 := by
   refine List.Sublist.trans ?_ hsub
   exact AL (hsubQ.map _)
  have hndF2 : F2.Nodup := (List.nodup_append.1 hnd).2.1
  have hnF' : F'.Nodup := hnd' (fun b hb hb2 => by
   have h3 := hfr b hb
   have h4 := hlt b (hsub2.mem hb2)
   omega) hn (hsub2.nodup hndF2)
  refine ⟨[Oc (.sl Vc) cs], F', hvs, ⟨hK.size, fun b hb _ => hK.block b hb (fun h => h), hK.os, hK.tape, hK.output⟩, ⟨cs, F', [], rfl, by simp, ?_, rfl⟩, hnF', ?_⟩
  ·simp only [if_true]
   rw [← EC]
   exact ho'
  ·intro b hb
   rcases hm' b hb with hb | hb
   ·exact .inl (hfr b hb)
   ·exact .inr (List.mem_append_right _ (hsub2.mem hb))
noncomputable def KW (xs : List Int) : Option (List Int × Unit) := bif jx (ja xs) Cb then some (List.mergeSort xs (fun x y => decide (x ≤ y)), ()) else none
theorem RX {cur : Array Value} {k : Nat} {v : Value} (h : Kc cur k 1 = [v]) : cur[k]? = some v := by
 have := congrArg (·[0]?) h
 simp only [Gd cur k 1 0 (by omega)] at this
 simpa using this
theorem GX {cur : Array Value} {k : Nat} {v : Value} (h : cur[k]? = some v) : Kc cur k 1 = [v] := by
 apply List.ext_getElem?
 intro j
 by_cases hj : j = 0
 ·subst hj; rw [Gd cur k 1 0 (by omega)]; simpa using h
 ·have hk : k < cur.size := (Array.getElem?_eq_some_iff.1 h).1
  have hl : (Kc cur k 1).length = 1 := Mc (by omega)
  rw [List.getElem?_eq_none (by omega), List.getElem?_eq_none (by simp; omega)]
theorem UO {P : Program} {ρ : Go.Shelf.Ren} {f : FuncId} (L : Go.Proofs.Lays.n191 P ρ) (hf : ρ.f 191 = f) : Cg P TJ f (.io (.sl (.i .i64)) .u .u [] (fun x0 _ => KW x0)) := by
 subst hf
 refine ⟨⟨_, L.f191, rfl, rfl⟩, ?_⟩
 intro O w x0 x r cs0 F0 args hF ho hnd hA hO _ _ _
 match args, hA with
 | [], _ =>
 simp only [KW] at hF
 cases hl : jx (ja x0) Cb with
 | false => rw [hl] at hF; simp at hF
 | true =>
 rw [hl] at hF
 simp only [cond_true, jc] at hF
 subst hF
 have hlim : Cb = 1073741824 := rfl
 have hx : ja x0 ≤ Cb := Nat.le_of_ble_eq_true hl
 have ho0 := ho
 obtain ⟨hm, ⟨rfl, hn, rfl⟩ | ⟨bl, off, cap, cur, et, Fs, rfl, hh, h1, h2, h3, rfl, hlen, hv⟩⟩ := ho
 ·have hn' : x0 = [] := hn
  subst hn'
  refine (Go.Proofs.Any.sort_Ints_none L none 0 w).mono ?_
  rintro e w' ⟨rfl, rfl⟩
  refine ⟨[], [], [], rfl, ⟨jo _, fun _ _ _ => rfl, rfl, rfl, rfl⟩, ?_, by simp, rfl, List.nodup_nil, by simp⟩
  show Gb w' (.sl (.i .i64)) (List.mergeSort ([] : List Int) _) _ _
  simpa using ho0
 ·have hcell : ∀ i (hi : i < x0.length), cur[off + i]? = some (.int .i64 x0[i]) := by
   intro i hi
   have := (hv i hi).1
   have e : Kc cur (off + i * 1) 1 = [Value.int .i64 x0[i]] := this
   rw [Nat.mul_one] at e
   exact RX e
  have hFs : ∀ b, b ∈ Fs.flatten → False := by
   intro b hb
   obtain ⟨l, hl, hb⟩ := List.mem_flatten.1 hb
   obtain ⟨i, hi, rfl⟩ := qp hl
   have := (hv i (by rw [← hlen]; exact hi)).2
   rw [qi, je hi] at this
   simp only [Option.getD_some] at this
   rw [this] at hb; simp at hb
  have hH : Go.Sort.Holds (Value.int .i64) w bl off x0.toArray := by
   intro j hj
   have hj' : j < x0.length := by simpa using hj
   refine ⟨?_, ?_⟩
   ·unfold World.cell?
    simp only [hh]
    rw [hcell j hj']
    simp [getElem!_pos, hj']
   ·unfold World.frozen?
    simp [hh]
  have hbl : bl < w.heap.size := (Array.getElem?_eq_some_iff.1 hh).1
  refine (Go.Proofs.Any.sort_Ints L bl off cap x0 w hH hbl (by omega)).mono ?_
  rintro e w' ⟨rfl, n, os, rfl⟩
  generalize hzs : (x0.mergeSort fun x y => decide (x ≤ y)) = zs
  have hzl : zs.length = x0.length := by rw [← hzs]; exact List.length_mergeSort _
  have hheap : ∀ b, b < w.heap.size → (Go.Sort.grow (Go.Sort.putRow (Value.int .i64) (Go.Sort.ahead w n) bl off zs.toArray) os).heap[b]? = if bl = b then (w.heap[b]?).map (Go.Sort.onCells (Go.Sort.putCells (Value.int .i64) off zs.toArray)) else w.heap[b]? := by
   intro b hb
   simp only [Go.Sort.grow, Go.Sort.putRow, Go.Sort.mapBlock, Go.Sort.ahead]
   rw [Array.getElem?_append_left (by simpa using hb), Array.getElem?_modify]
  refine ⟨[], bl :: Fs.flatten, [], rfl, ⟨?_, ?_, rfl, rfl, rfl⟩, ?_, fun b hb => .inr hb, rfl, by simpa using hnd, by simp⟩
  ·simp only [Go.Sort.grow, Array.size_append, Go.Sort.size_putRow, Go.Sort.ahead]
   omega
  ·intro b hb hno
   have hne : bl ≠ b := fun e => hno (by rw [e]; simp)
   rw [hheap b hb, if_neg hne]
  ·have hcs : ([.slice (some ⟨bl, off, none⟩) (ja x0) cap] : List Value) = [.slice (some ⟨bl, off, none⟩) (ja (zs : List Int)) cap] := by rw [hzl]
   show Gb _ (.sl (.i .i64)) (zs : List Int) _ _
   rw [hcs]
   refine ⟨by show zs.length ≤ Hh; rw [hzl]; exact hm, .inr ⟨bl, off, cap, _, et, Fs, rfl, (hheap bl hbl).trans (by rw [if_pos rfl, hh]; rfl), by show zs.length ≤ cap; rw [hzl]; exact h1, h2, by simpa [Go.Sort.putCells] using h3, rfl, by show Fs.length = zs.length; rw [hzl]; exact hlen, fun i hi => ?_⟩⟩
   have hi' : i < zs.length := hi
   have hi2 : i < x0.length := by omega
   refine ⟨?_, ?_⟩
   ·show Kc _ (off + i * 1) 1 = [Value.int .i64 zs[i]]
    rw [Nat.mul_one]
    apply GX
    simp only [Go.Sort.putCells, Array.getElem?_mapIdx, hcell i hi2, qc]
    rw [if_pos ⟨by omega, by simp; omega⟩, show off + i - off = i by omega]
    simp [getElem!_pos, hi']
   ·exact (hv i hi2).2
def Jc {α S R : Type} (g : Nat → S → α → S ⊕ R) : Nat → S → List α → S ⊕ R
 | _, s, [] => .inl s
 | k, s, x :: xs => match g k s x with
  | .inl s' => Jc g (k + 1) s' xs
  | .inr r => .inr r
section
variable {X R : Type} {step : X → Option (X ⊕ R)}
theorem Lf {x : X} {z : Option (X ⊕ R)} (h : step x = z) : Cc step x = z.bind (Sum.elim (Cc step) some) := by
 rw [Ey, h]
theorem TK {α S R' : Type} (xs : List α) (g : Nat → S → α → S ⊕ R') (I : Nat → S → X) (out : S → R) (ex : R' → R) (Of : Nat → S → Prop)
 (h : ∀ k (hk : k < xs.length) s, Of k s → step (I k s) = some (match g k s xs[k] with | .inl s' => .inl (I (k + 1) s') | .inr r => .inr (ex r)) ∧ ∀ s', g k s xs[k] = .inl s' → Of (k + 1) s')
 (he : ∀ s, Of xs.length s → step (I xs.length s) = some (.inr (out s))) (s0 : S) (h0 : Of 0 s0) :
 Cc step (I 0 s0) = some (match Jc g 0 s0 xs with | .inl s => out s | .inr r => ex r) := by
 have key : ∀ (ys : List α) (k : Nat) (s : S), xs.drop k = ys → k ≤ xs.length → Of k s → Cc step (I k s) = some (match Jc g k s ys with | .inl s => out s | .inr r => ex r) := by
  intro ys
  induction ys with
  | nil =>
   intro k s hd hle hi
   have : k = xs.length := by
    have := congrArg ja hd
    simp at this
    omega
   subst this
   rw [Lf (he s hi)]
   rfl
  | cons y ys ih =>
   intro k s hd hle hi
   have hk : k < xs.length := by
    have := congrArg ja hd
    simp at this
    omega
   have hy : xs[k] = y := by
    have := congrArg (·[0]?) hd
    simp [List.getElem?_drop, je hk] at this
    exact this
   obtain ⟨h1, h2⟩ := h k hk s hi
   rw [Lf h1]
   rw [hy] at h2 ⊢
   simp only [Jc]
   cases hg : g k s y with
   | inl s' =>
    simp only [jb, qj]
    refine ih (k + 1) s' ?_ hk (h2 s' hg)
    rw [← List.drop_drop, hd]
    rfl
   | inr r => rfl
 exact key xs 0 s0 rfl (Nat.zero_le _) h0
end
theorem Vd {n : Int} (h1 : -9223372036854775808 ≤ n) (h2 : n ≤ 9223372036854775807) : j5 .i64 n = n := IntWalk.i64_in n ⟨h1, h2⟩
theorem Bg {k : Nat} (h : k < 9223372036854775807) : j5 .i64 ((k : Int) + 1) = ((k + 1 : Nat) : Int) := by
 rw [Vd (by omega) (by omega)]; omega
section
variable {α : Type}
theorem ZW (xs : List α) (k : Nat) : Cd xs (k : Int) = xs[k]? := by simp [Cd]
theorem Uc {xs : List α} {k : Nat} (h : k < xs.length) : Cd xs (k : Int) = some xs[k] := by rw [ZW, je h]
theorem Mu (n k : Nat) : Vi n (k : Int) = decide (k < n) := by
 simp [Vi]
theorem Da {p : Prop} [Decidable p] (h : p) : decide p = true := decide_eq_true h
theorem Ea {p : Prop} [Decidable p] (h : ¬ p) : decide p = false := decide_eq_false h
end
theorem Xf : Cb = 1073741824 := rfl
def Dc : (τ : Ty) → T τ → Nat
 | .i _, _ => 0
 | .b, _ => 0
 | .o, _ => 0
 | .s, x => ja x
 | .sl e, xs => ja xs + (List.map (Dc e) xs).sum
 | .u, _ => 0
 | .p a c, v => Dc a v.1 + Dc c v.2
def Ty.hasS : Ty → Bool
 | .s => true
 | .sl e => e.hasS
 | .p x y => x.hasS || y.hasS
 | _ => false
def La : Nat := 1048576
theorem Kr {α : Type} {f : α → Nat} {xs : List α} {k : Nat} (hk : k < xs.length) : f xs[k] ≤ (xs.map f).sum := by
 induction xs generalizing k with
 | nil => simp at hk
 | cons x xs ih =>
  cases k with
  | zero => simp
  | succ k =>
   have := ih (k := k) (by simpa using hk)
   simp only [List.getElem_cons_succ, List.map_cons, List.sum_cons]
   omega
theorem GD : ∀ {τ : Ty} (_ : (τ.flat && !τ.hasS) = true) {x : T τ}, Dc τ x = 0
 | .i _, _, _ => rfl
 | .b, _, _ => rfl
 | .o, _, _ => rfl
 | .s, h, _ => by simp [Ty.hasS] at h
 | .sl _, h, _ => by simp [Ty.flat] at h
 | .u, _, _ => rfl
 | .p a c, h, x => by
  simp only [Ty.flat, Ty.hasS, jd, Bool.not_eq_true', Bool.or_eq_false_iff] at h
  simp only [Dc]
  rw [GD (τ := a) (by simp [h.1.1, h.2.1]), GD (τ := c) (by simp [h.1.2, h.2.2])]
theorem Is {e : Ty} (h : (e.flat && !e.hasS) = true) (xs : List (T e)) : Dc (.sl e) xs = ja xs := by
 simp only [Dc]
 have : List.map (Dc e) xs = List.replicate xs.length 0 := by
  apply List.ext_getElem
  ·simp
  ·intro i h1 h2
   simp [GD h]
 rw [this]
 simp
theorem Il {α : Type} (b : Bool) (x y : α) : cond b (some x) (some y) = some (cond b x y) := by cases b <;> rfl
theorem Jl {α : Type} (b : Bool) (x y : α) : cond b (x, ()) (y, ()) = (cond b x y, ()) := by cases b <;> rfl
theorem Le (b x y : Bool) : (cond b x y = true) ↔ ((b = true ∧ x = true) ∨ (¬ b = true ∧ y = true)) := by cases b <;> simp
theorem PW {a b : Bool} (h : a = true ↔ b = true) : a = b := qs.2 h
theorem Rd {a b : Bool} (h : a = true ↔ b = true) : some (a, ()) = some (b, ()) := by rw [PW h]
theorem Ux (a b : Int) : ((a == b) = true) ↔ a = b := by simp
theorem Wx (a b : Int) : ((a != b) = true) ↔ ¬ a = b := by simp
def Zd {α : Type} (p : Nat → α → Bool) : Nat → List α → Bool
 | _, [] => true
 | k, x :: xs => p k x && Zd p (k + 1) xs
theorem Tg {X R : Type} {step : X → Option (X ⊕ R)} {α : Type} (xs : List α) (p : Nat → α → Bool) (I : Int → X) (yes no : R)
 (h : ∀ k (hk : k < xs.length), step (I (k : Int)) = some (cond (p k xs[k]) (.inl (I (j5 .i64 ((k : Int) + 1)))) (.inr no)))
 (he : step (I (xs.length : Int)) = some (.inr yes)) (hn : xs.length < 9223372036854775807) :
 Cc step (I 0) = some (cond (Zd p 0 xs) yes no) := by
 have key : ∀ (ys : List α) (k : Nat), xs.drop k = ys → k ≤ xs.length → Cc step (I (k : Int)) = some (cond (Zd p k ys) yes no) := by
  intro ys
  induction ys with
  | nil =>
   intro k hd hle
   have : k = xs.length := by
    have := congrArg ja hd
    simp at this
    omega
   subst this
   rw [Lf he]
   rfl
  | cons y ys ih =>
   intro k hd hle
   have hk : k < xs.length := by
    have := congrArg ja hd
    simp at this
    omega
   have hy : xs[k] = y := by
    have := congrArg (·[0]?) hd
    simp [List.getElem?_drop, je hk] at this
    exact this
   have hd' : xs.drop (k + 1) = ys := by rw [← List.drop_drop, hd]; rfl
   rw [Lf (h k hk), hy]
   simp only [Zd]
   cases hc : p k y with
   | true =>
    simp only [cond_true, jk, jb, qj]
    rw [← ih (k + 1) hd' hk, Bg (by omega)]
   | false => rfl
 have := key xs 0 rfl (Nat.zero_le _)
 simpa using this
theorem Yh {α : Type} {p : Nat → α → Bool} : ∀ {xs : List α} {k : Nat}, Zd p k xs = true ↔ ∀ j (hj : j < xs.length), p (k + j) xs[j] = true
 | [], _ => by simp [Zd]
 | x :: xs, k => by
  simp only [Zd, jd, Yh (xs := xs)]
  constructor
  ·rintro ⟨h1, h2⟩ j hj
   cases j with
   | zero => exact h1
   | succ j => simpa [jt, Nat.add_comm 1 j] using h2 j (by simpa using hj)
  ·intro h
   refine ⟨h 0 (by simp), fun j hj => ?_⟩
   have := h (j + 1) (by simpa using hj)
   rw [jt, Nat.add_comm 1 j]
   exact this
theorem PP {α β γ : Type} (b : Bool) (x : α) (y : β) (f : α → γ) (g : β → γ) : Sum.elim f g (cond b (.inl x) (.inr y)) = cond b (f x) (g y) := by cases b <;> rfl
def Ce {α S : Type} (g : Nat → S → α → S) : Nat → S → List α → S
 | _, s, [] => s
 | k, s, x :: xs => Ce g (k + 1) (g k s x) xs
theorem Mz {α : Type} {xs ys : List α} {y : α} {k : Nat} (hd : xs.drop k = y :: ys) : ∃ hk : k < xs.length, xs[k] = y ∧ xs.drop (k + 1) = ys := by
 have hk : k < xs.length := by
  have := congrArg ja hd
  simp at this
  omega
 refine ⟨hk, ?_, by rw [← List.drop_drop, hd]; rfl⟩
 have := congrArg (·[0]?) hd
 simp [List.getElem?_drop, je hk] at this
 exact this
theorem HC {α : Type} {xs : List α} {k : Nat} (hd : xs.drop k = []) (hk : k ≤ xs.length) : k = xs.length := by
 have := congrArg ja hd
 simp at this
 omega
theorem Fm {X R : Type} {step : X → Option (X ⊕ R)} {α S : Type} (xs : List α) (g : Nat → S → α → S) (I : S → Int → X) (out : S → R) (Of : Nat → S → Prop)
 (h : ∀ k (hk : k < xs.length) s, Of k s → step (I s (k : Int)) = some (.inl (I (g k s xs[k]) (j5 .i64 ((k : Int) + 1)))) ∧ Of (k + 1) (g k s xs[k]))
 (he : ∀ s, Of xs.length s → step (I s (xs.length : Int)) = some (.inr (out s))) (hn : xs.length < 9223372036854775807) (s0 : S) (h0 : Of 0 s0) :
 Cc step (I s0 0) = some (out (Ce g 0 s0 xs)) ∧ Of xs.length (Ce g 0 s0 xs) := by
 have key : ∀ (ys : List α) (k : Nat) (s : S), xs.drop k = ys → k ≤ xs.length → Of k s → Cc step (I s (k : Int)) = some (out (Ce g k s ys)) ∧ Of xs.length (Ce g k s ys) := by
  intro ys
  induction ys with
  | nil =>
   intro k s hd hle hi
   have := HC hd hle
   subst this
   rw [Lf (he s hi)]
   exact ⟨rfl, hi⟩
  | cons y ys ih =>
   intro k s hd hle hi
   obtain ⟨hk, hy, hd'⟩ := Mz hd
   obtain ⟨h1, h2⟩ := h k hk s hi
   rw [Lf h1, hy, Bg (by omega)]
   rw [hy] at h2
   exact ih (k + 1) _ hd' hk h2
 have := key xs 0 s0 rfl (Nat.zero_le _) h0
 simpa using this
theorem Rm {X R : Type} {step : X → Option (X ⊕ R)} {α S R' : Type} (xs : List α) (g : Nat → S → α → S ⊕ R') (I : S → Int → X) (out : S → R) (ex : R' → R) (Of : Nat → S → Prop)
 (h : ∀ k (hk : k < xs.length) s, Of k s → step (I s (k : Int)) = some (match g k s xs[k] with | .inl s' => .inl (I s' (j5 .i64 ((k : Int) + 1))) | .inr r => .inr (ex r)) ∧ ∀ s', g k s xs[k] = .inl s' → Of (k + 1) s')
 (he : ∀ s, Of xs.length s → step (I s (xs.length : Int)) = some (.inr (out s))) (hn : xs.length < 9223372036854775807) (s0 : S) (h0 : Of 0 s0) :
 Cc step (I s0 0) = some (match Jc g 0 s0 xs with | .inl s => out s | .inr r => ex r) := by
 have := TK (step := step) xs g (fun k s => I s (k : Int)) out ex Of (fun k hk s hi => by
  obtain ⟨h1, h2⟩ := h k hk s hi
  refine ⟨?_, h2⟩
  rw [h1, Bg (by omega)]) he s0 h0
 simpa using this
theorem z3 : ((3 : Int) == 0) = false := rfl
theorem Kz {n lo hi : Nat} (h1 : lo ≤ hi) (h2 : hi ≤ n) : Te n (lo : Int) (hi : Int) = true := by
 simp [Te]; omega
section
variable {α β : Type}
end
abbrev int : Ty := .i .i64
abbrev Ut : Ty := .i .u8
abbrev Ke : Ty := (.p int (.p int .u))
abbrev Mb : Type := (Int × (Int × Unit))
abbrev Md : Ty := (.p int (.p (.sl int) .u))
abbrev Ga : Type := (Int × ((List Int) × Unit))
abbrev Fl : Ty := (.p int (.p int (.p .b .u)))
abbrev Ra : Type := (Int × (Int × (Bool × Unit)))
abbrev Hc : Ty := (.p int Ke)
abbrev Zb : Type := (Int × Mb)
abbrev Pd : Type := ((List (List Int)) × ((List Int) × Unit))
abbrev Re : Ty := (.p (.sl Ut) Ke)
abbrev Hb : Type := ((List Int) × Mb)
abbrev Xc : Ty := (.p int Hc)
abbrev Ia : Type := (Int × Zb)
abbrev Yg : Type := (Bool × Zb)
abbrev Eh : Ty := (.p int (.p Md .u))
abbrev Dg : Type := (Int × (Ga × Unit))
abbrev Yo : Ty := (.p int (.p Xc .u))
abbrev Ka : Type := (Int × (Ia × Unit))
abbrev VM : Type := (Int × (Int × (Int × (Int × Ga))))
abbrev Kb : Ty := (.p int (.p (.sl (.sl Xc)) .u))
abbrev Na : Type := (Int × ((List (List Ia)) × Unit))
abbrev IG : Type := ((List Mb) × (Int × ((List Ra) × (Int × (Int × (Int × ((List Ra) × Unit)))))))
abbrev Tb : Ty := (.p Kb (.p (.sl (.sl Hc)) (.p int (.p (.sl Yo) (.p int (.p .b .u))))))
abbrev Wa : Type := (Na × ((List (List Zb)) × (Int × ((List Ka) × (Int × (Bool × Unit))))))
abbrev Me : Ty := (.p Tb (.p Hc (.p (.sl Fl) Xc)))
abbrev Nb : Type := (Wa × (Zb × ((List Ra) × Ia)))
abbrev RZ : Type := (Ra × (VM × (IG × (Nb × Mb))))
abbrev Uw : Type := Zb
noncomputable section
open Option renaming bind → ob
open Go.IntKind renaming wrap → wr
open Int renaming toNat → tn
open List renaming length → ln, append → ap, set → ls
open Sum renaming elim → se
open Nat renaming ble → bl
abbrev Ye : Type := Bool × Unit
abbrev Xi : Type := Int × Unit
abbrev Lk : Type := Unit × Unit
abbrev Ee : Type := List Int
abbrev Tu : Type := Na × Unit
abbrev Lh : Type := List Ga
abbrev Mk : Type := List Ka
abbrev Rx : Type := List Mb
abbrev Qh : Type := List Ra
abbrev Du : Type := Wa × Unit
abbrev SV : Type := Unit × Mb
abbrev Dn : Type := List Ia
abbrev Qo : Type := List Dg
abbrev XM : Type := Unit × Xi
abbrev Px : Type := Ye × Unit
abbrev TV : Type := (Xi × Unit) ⊕ Lk
abbrev OA : Type := Ee × Mb
abbrev PA : Type := Int × (Qh × Mb)
abbrev Ov : Type := List Zb
abbrev Eu : Type := Na × Tu
abbrev LD : Type := Ee × Unit
abbrev ZH : Type := Rx × Mb
abbrev AI : Type := Nb × Unit
abbrev QA : Type := Ga × Unit
abbrev LI : Type := Ga × QA
abbrev UV : Type := Int × ((List Dn) × (Int × (Int × (Dn × Mb))))
abbrev VV : Type := Unit × Lk
abbrev YM : Type := Lk ⊕ (Xi × Unit)
abbrev MD : Type := Unit × XM
abbrev Qv : Type := Lk ⊕ Px
abbrev ND : Type := Ia × Unit
abbrev XV : Type := Int × Ye
abbrev OD : Type := Zb × Unit
abbrev PD : Type := (List Dn) × Mb
abbrev BI : Type := Ee × Xi
abbrev Qx : Type := Lh × Unit
abbrev T2 : Type := Unit × (Qo × Unit)
abbrev ZM : Type := Mb × Unit
abbrev AN : Type := Wa × Du
abbrev YV : Type := (Ee × (Unit × (Bool × (Unit × (Unit × (Bool × (Qh × OA))))))) × (Wa × (Zb × AI))
abbrev Ro : Type := List Ov
abbrev Rv : Type := Hb × Eu
abbrev ZV : Type := Wa × (Lh × Ye)
abbrev AW : Type := (Qx × Unit) ⊕ Lk
abbrev BW : Type := ((Unit × (Unit × LD)) × LI) ⊕ Lk
abbrev QD : Type := Mk × Mb
abbrev Pv : Type := (Int × QD) × Unit
abbrev BN : Type := Int × XM
abbrev WV : Type := (Int × BN) × Tu
abbrev CW : Type := (Unit × (Int × (Unit × (Int × (Unit × (Int × (Dn × Xi))))))) × Rv
abbrev U2 : Type := Nb × (Qo × Ye)
abbrev CN : Type := (Unit × T2) × (Nb × AI)
abbrev CI : Type := Rx × (Ov × Mb)
abbrev DW : Type := Unit × VV
abbrev DI : Type := (Ee × OA) × Unit
abbrev Ig : Nb := (((0, [], ()), [], 0, [], 0, false, ()), (0, 0, 0, ()), [], 0, 0, 0, 0, ())
abbrev Hl : Wa := ((0, [], ()), [], 0, [], 0, false, ())
def GH (a0 : Int) (a1 : Int) (a2 : Int) : Option Ye :=
 (cond (decide (a0 ≥ a1))
 (some ((decide (a0 ≤ a2)), ()))
 (some (false, ())))
def Bj (a0 : Ee) : Option LD :=
 (cond (bl (ln ([] : List Int) + ln a0) Cb)
 (some ((ap [] a0), ()))
 none)
def Ln (a0 : Ga) : Option QA :=
 (ob (Bj a0.2.1) fun r1 =>
 (some ((a0.1, r1.1, ()), ())))
def Hj (t3 : Lh) (t6 : Qo) (t7 : Int) (t8 : Int) : Option (((Lh × (Qo × Mb)) × Unit) ⊕ AW) :=
 (cond (decide (t8 < t7))
 (ob (Cd t6 t8) fun x7 =>
 (ob (Ln x7.2.1) fun r8 =>
 (cond (bl (ln t3 + ln ([r8.1] : List Ga)) Cb)
 (some (.inl (((ap t3 ([r8.1] : List Ga)), t6, t7, (wr .i64 (t8 + 1)), ()), ())))
 none)))
 (some (.inr (.inl ((t3, ()), ())))))
def Uk := Cc fun x : ((Lh × (Qo × Mb)) × Unit) => Hj x.1.1 x.1.2.1 x.1.2.2.1 x.1.2.2.2.1
def To (a0 : Qo) : Option Qx :=
 (ob (Uk (([], a0, ((ln a0 : Nat) : Int), 0, ()), ())) (se (fun y9 => (some (y9.1.1, ()))) (fun z10 => none)))
def Qm (a0 : Int) : Option Ye :=
 (cond (decide (a0 ≥ 1))
 (some ((decide (a0 ≤ 56)), ()))
 (some (false, ())))
def Uj (a0 : Int) : Option Ye :=
 (cond (decide (a0 ≥ 1))
 (some ((decide (a0 ≤ 15)), ()))
 (some (false, ())))
def Wk (a0 : Int) : Option Ye :=
 (cond (decide (a0 ≥ 1))
 (some ((decide (a0 ≤ 3)), ()))
 (some (false, ())))
def Qg (a0 : Ia) : Option Ye :=
 (cond (a0.1 == 0)
 (cond (a0.2.1 == 0)
 (cond (a0.2.2.1 == 0)
 (some ((a0.2.2.2.1 == 0), ()))
 (some (false, ())))
 (some (false, ())))
 (cond (a0.1 == 1)
 (cond (a0.2.1 == 0)
 (cond (a0.2.2.1 == 0)
 (some ((a0.2.2.2.1 == 0), ()))
 (some (false, ())))
 (some (false, ())))
 (cond (a0.1 == 10)
 (cond (a0.2.1 == 0)
 (cond (a0.2.2.1 == 0)
 (some ((a0.2.2.2.1 == 0), ()))
 (some (false, ())))
 (some (false, ())))
 (cond (a0.1 == 2)
 (cond (a0.2.2.2.1 == 0)
 (cond (a0.2.1 == 0)
 (cond (a0.2.2.1 == 0)
 (cond (a0.2.1 != 0)
 (some (true, ()))
 (some ((a0.2.2.1 != 0), ())))
 (ob (Uj a0.2.2.1) fun r1 =>
 (cond r1.1
 (cond (a0.2.1 != 0)
 (some (true, ()))
 (some ((a0.2.2.1 != 0), ())))
 (some (false, ())))))
 (ob (Qm a0.2.1) fun r2 =>
 (cond r2.1
 (cond (a0.2.2.1 == 0)
 (cond (a0.2.1 != 0)
 (some (true, ()))
 (some ((a0.2.2.1 != 0), ())))
 (ob (Uj a0.2.2.1) fun r3 =>
 (cond r3.1
 (cond (a0.2.1 != 0)
 (some (true, ()))
 (some ((a0.2.2.1 != 0), ())))
 (some (false, ())))))
 (some (false, ())))))
 (some (false, ())))
 (cond (a0.1 == 3)
 (cond (a0.2.1 == 0)
 (cond (a0.2.2.1 == 0)
 (ob (Wk a0.2.2.2.1) fun r4 =>
 (some (r4.1, ())))
 (some (false, ())))
 (some (false, ())))
 (cond (a0.1 == 4)
 (cond (a0.2.1 == 0)
 (cond (a0.2.2.1 == 0)
 (ob (Wk a0.2.2.2.1) fun r5 =>
 (some (r5.1, ())))
 (some (false, ())))
 (some (false, ())))
 (cond (a0.1 == 5)
 (cond (a0.2.1 == 0)
 (cond (a0.2.2.1 == 0)
 (cond (decide (a0.2.2.2.1 ≥ 0))
 (some ((decide (a0.2.2.2.1 ≤ 3)), ()))
 (some (false, ())))
 (some (false, ())))
 (some (false, ())))
 (cond (a0.1 == 9)
 (cond (a0.2.1 == 0)
 (cond (a0.2.2.1 == 0)
 (cond (decide (a0.2.2.2.1 ≥ 0))
 (some ((decide (a0.2.2.2.1 ≤ 3)), ()))
 (some (false, ())))
 (some (false, ())))
 (some (false, ())))
 (cond (a0.1 == 6)
 (ob (Qm a0.2.1) fun r6 =>
 (cond r6.1
 (ob (Uj a0.2.2.1) fun r7 =>
 (cond r7.1
 (some ((a0.2.2.2.1 == 0), ()))
 (some (false, ()))))
 (some (false, ()))))
 (cond (a0.1 == 7)
 (ob (Qm a0.2.1) fun r8 =>
 (cond r8.1
 (cond (a0.2.2.1 == 0)
 (ob (Wk a0.2.2.2.1) fun r9 =>
 (some (r9.1, ())))
 (some (false, ())))
 (some (false, ()))))
 (cond (a0.1 == 8)
 (cond (a0.2.1 == 0)
 (ob (Uj a0.2.2.1) fun r10 =>
 (cond r10.1
 (some ((a0.2.2.2.1 == 0), ()))
 (some (false, ()))))
 (some (false, ())))
 (some (false, ())))))))))))))
def Dp (t1 : Unit) (t3 : Int) (t28 : (List Dn)) (t29 : Int) (t30 : Int) (t40 : Dn) (t41 : Int) (t42 : Int) (b1 : Na) : Option (((Unit × UV) × Tu) ⊕ (((Unit × PD) × Tu) ⊕ Px)) :=
 (cond (decide (t42 < t41))
 (ob (Cd t40 t42) fun x24 =>
 (ob (Qg x24) fun r25 =>
 (cond (!r25.1)
 (some (.inr (.inr ((false, ()), ()))))
 (cond (t3 == 0)
 (cond (x24.1 == 1)
 (some (.inr (.inr ((false, ()), ()))))
 (cond (x24.1 != 9)
 (cond (decide (x24.2.2.2.1 ≥ ((ln b1.2.1 : Nat) : Int)))
 (some (.inr (.inr ((false, ()), ()))))
 (some (.inl (((), t3, t28, t29, t30, t40, t41, (wr .i64 (t42 + 1)), ()), (b1, ())))))
 (some (.inl (((), t3, t28, t29, t30, t40, t41, (wr .i64 (t42 + 1)), ()), (b1, ()))))))
 (cond (x24.1 != 9)
 (cond (decide (x24.2.2.2.1 ≥ ((ln b1.2.1 : Nat) : Int)))
 (some (.inr (.inr ((false, ()), ()))))
 (some (.inl (((), t3, t28, t29, t30, t40, t41, (wr .i64 (t42 + 1)), ()), (b1, ())))))
 (some (.inl (((), t3, t28, t29, t30, t40, t41, (wr .i64 (t42 + 1)), ()), (b1, ())))))))))
 (some (.inr (.inl (((), t28, t29, t30, ()), (b1, ()))))))
def Uh := Cc fun x : ((Unit × UV) × Tu) => Dp x.1.1 x.1.2.1 x.1.2.2.1 x.1.2.2.2.1 x.1.2.2.2.2.1 x.1.2.2.2.2.2.1 x.1.2.2.2.2.2.2.1 x.1.2.2.2.2.2.2.2.1 x.2.1
def Bp (t1 : Unit) (t28 : (List Dn)) (t29 : Int) (t30 : Int) (b1 : Na) : Option (((Unit × PD) × Tu) ⊕ Qv) :=
 (cond (decide (t30 < t29))
 (ob (Cd t28 t30) fun x19 =>
 (cond (((ln x19 : Nat) : Int) != b1.1)
 (some (.inr (.inr ((false, ()), ()))))
 (ob (Uh (((), t30, t28, t29, t30, x19, ((ln x19 : Nat) : Int), 0, ()), (b1, ()))) (se (fun y26 => (some (.inl (((), y26.1.2.1, y26.1.2.2.1, (wr .i64 (y26.1.2.2.2.1 + 1)), ()), (y26.2.1, ()))))) (fun z27 => (some (.inr (.inr ((z27.1.1, ()), ())))))))))
 (some (.inr (.inl ((), ())))))
def Th := Cc fun x : ((Unit × PD) × Tu) => Bp x.1.1 x.1.2.1 x.1.2.2.1 x.1.2.2.2.1 x.2.1
def Mm (a0 : Na) : Option Ye :=
 (cond (decide (a0.1 < 1))
 (some (false, ()))
 (cond (decide (a0.1 > 32))
 (some (false, ()))
 (cond (decide (((ln a0.2.1 : Nat) : Int) < 1))
 (some (false, ()))
 (cond (decide (((ln a0.2.1 : Nat) : Int) > 4))
 (some (false, ()))
 (ob (Th (((), a0.2.1, ((ln a0.2.1 : Nat) : Int), 0, ()), (a0, ()))) (se (fun y28 => (some (true, ()))) (fun z29 => (some (z29.1.1, ())))))))))
def Zr (a0 : Ee) : Option Ye :=
 (some ((decide (((ln a0 : Nat) : Int) > 1048576)), ()))
def Es (t0 : Ee) (t3 : Int) (t4 : Int) : Option ((Hb × Unit) ⊕ ((BI × Unit) ⊕ Lk)) :=
 (cond (decide (t4 < ((ln t0 : Nat) : Int)))
 (cond (decide (t4 < 4000))
 (ob (Cd t0 t4) fun x3 =>
 (some (.inl ((t0, (Zn .i64 (wr .i64 ((wr .i64 ((wr .i64 (t3 * 131)) + (wr .i64 x3))) + 7)) 1073741823), (wr .i64 (t4 + 1)), ()), ()))))
 (some (.inr (.inl ((t0, t3, ()), ())))))
 (some (.inr (.inl ((t0, t3, ()), ())))))
def Fp := Cc fun x : (Hb × Unit) => Es x.1.1 x.1.2.1 x.1.2.2.1
def Ku (a0 : Ee) : Option Hb :=
 (ob (Fp ((a0, (wr .i64 (10729 + ((ln a0 : Nat) : Int))), 0, ()), ())) (se (fun y4 => (some (y4.1.1, 0, y4.1.2.1, ()))) (fun z5 => none)))
def Vm (a0 : Ee) (a1 : Int) : Option Hb :=
 (ob (Ku a0) fun r1 =>
 (some (r1.1, r1.2.1, (wr .i64 (r1.2.2.1 + (wr .i64 (7919 * a1)))), r1.2.2.2)))
def Ci (a0 : Hb) : Option (Hb × Xi) :=
 (cond (decide ((0 : Int) ≤ 33))
 (cond (decide ((0 : Int) ≤ 45))
 (cond (decide (a0.2.1 < ((ln a0.1 : Nat) : Int)))
 (ob (Cd a0.1 a0.2.1) fun x1 =>
 (some ((a0.1, (wr .i64 (a0.2.1 + 1)), (wr .i64 ((wr .i64 (a0.2.2.1 * 6364136223846793005)) + 1442695040888963407)), a0.2.2.2), ((Zn .i64 (wr .i64 ((Zn .i64 (Zl .i64 (Ow .i64 (wr .i64 ((wr .i64 (a0.2.2.1 * 6364136223846793005)) + 1442695040888963407)) 33) (Ow .i64 (wr .i64 ((wr .i64 (a0.2.2.1 * 6364136223846793005)) + 1442695040888963407)) 45)) 255) + (wr .i64 x1))) 255), ()))))
 (some ((a0.1, a0.2.1, (wr .i64 ((wr .i64 (a0.2.2.1 * 6364136223846793005)) + 1442695040888963407)), a0.2.2.2), ((Zn .i64 (Zl .i64 (Ow .i64 (wr .i64 ((wr .i64 (a0.2.2.1 * 6364136223846793005)) + 1442695040888963407)) 33) (Ow .i64 (wr .i64 ((wr .i64 (a0.2.2.1 * 6364136223846793005)) + 1442695040888963407)) 45)) 255), ()))))
 none)
 none)
def Xa (a0 : Hb) (a1 : Int) : Option (Hb × Xi) :=
 (cond (decide (a1 ≤ 0))
 (some (a0, (0, ())))
 (cond (decide (a1 ≤ 256))
 (ob (Ci a0) fun r1 =>
 (cond (a1 == 0)
 none
 (some (r1.1, ((Int.tmod r1.2.1 a1), ())))))
 (ob (Ci a0) fun r2 =>
 (ob (Ci r2.1) fun r3 =>
 (ob (Ci r3.1) fun r4 =>
 (ob (Ci r4.1) fun r5 =>
 (cond (a1 == 0)
 none
 (some (r5.1, ((Int.tmod (wr .i64 ((wr .i64 ((wr .i64 ((wr .i64 (r2.2.1 * 16777216)) + (wr .i64 (r3.2.1 * 65536)))) + (wr .i64 (r4.2.1 * 256)))) + r5.2.1)) a1), ()))))))))))
def Um (a0 : Hb) (a1 : Int) : Option (Hb × Ye) :=
 (ob (Xa a0 a1) fun r1 =>
 (some (r1.1, ((r1.2.1 == 0), ()))))
def Dl (a0 : Hb) (a1 : Ee) : Option (Hb × Xi) :=
 (ob (Xa a0 ((ln a1 : Nat) : Int)) fun r1 =>
 (cond (Vi (ln a1) r1.2.1)
 (ob a1[(tn r1.2.1)]? fun x2 =>
 (some (r1.1, (x2, ()))))
 none))
def Ds (a0 : Hb) : Option (Hb × OD) :=
 (ob (Xa a0 9) fun r1 =>
 (ob (Dl r1.1 ([0, 0, 3, 6] : List Int)) fun r2 =>
 (ob (Xa r2.1 3) fun r3 =>
 (some (r3.1, (((wr .i64 (1 + r1.2.1)), r2.2.1, r3.2.1, ()), ()))))))
def Sn (a0 : Ee) : Option OD :=
 (ob (Vm a0 9) fun r1 =>
 (ob (Ds r1) fun r2 =>
 (some (r2.2.1, ()))))
def Fi (a0 : Ia) : Option Ye :=
 (ob (Qg a0) fun r1 =>
 (cond r1.1
 (cond (a0.1 == 6)
 (some (true, ()))
 (some ((a0.1 == 7), ())))
 (some (false, ()))))
def Gu (a0 : Ia) : Option ND :=
 (ob (Fi a0) fun r1 =>
 (cond (!r1.1)
 (some (a0, ()))
 (some ((2, a0.2.1, 0, 0, ()), ()))))
def Qi (t2 : Unit) (t3 : Unit) (t10 : (List Dn)) (t11 : Int) (t12 : Int) (b2 : Na) (b3 : Na) : Option (((Unit × (Unit × PD)) × Eu) ⊕ ((VV × Eu) ⊕ Lk)) :=
 (cond (decide (t12 < t11))
 (ob (Cd t10 t12) fun x4 =>
 (cond (bl (ln ([] : List Ia) + ln x4) Cb)
 (cond (bl (ln b3.2.1 + ln ([(ap [] x4)] : List Dn)) Cb)
 (some (.inl (((), (), t10, t11, (wr .i64 (t12 + 1)), ()), (b2, (b3.1, (ap b3.2.1 ([(ap [] x4)] : List Dn)), ()), ()))))
 none)
 none))
 (some (.inr (.inl (((), (), ()), (b2, b3, ()))))))
def Sj := Cc fun x : ((Unit × (Unit × PD)) × Eu) => Qi x.1.1 x.1.2.1 x.1.2.2.1 x.1.2.2.2.1 x.1.2.2.2.2.1 x.2.1 x.2.2.1
def Jj (a0 : Na) : Option Tu :=
 (ob (Sj (((), (), a0.2.1, ((ln a0.2.1 : Nat) : Int), 0, ()), ((0, [], ()), (a0.1, [], ()), ()))) (se (fun y5 => (some (y5.2.2.1, ()))) (fun z6 => none)))
def Ri (t3 : Ro) (t6 : Ro) (t7 : Int) (t8 : Int) : Option (((Ro × (Ro × Mb)) × Unit) ⊕ (((Ro × Unit) × Unit) ⊕ Lk)) :=
 (cond (decide (t8 < t7))
 (ob (Cd t6 t8) fun x4 =>
 (cond (bl (ln ([] : List Zb) + ln x4) Cb)
 (cond (bl (ln t3 + ln ([(ap [] x4)] : List Ov)) Cb)
 (some (.inl (((ap t3 ([(ap [] x4)] : List Ov)), t6, t7, (wr .i64 (t8 + 1)), ()), ())))
 none)
 none))
 (some (.inr (.inl ((t3, ()), ())))))
def Tj := Cc fun x : ((Ro × (Ro × Mb)) × Unit) => Ri x.1.1 x.1.2.1 x.1.2.2.1 x.1.2.2.2.1
def Kj (a0 : Ro) : Option (Ro × Unit) :=
 (ob (Tj (([], a0, ((ln a0 : Nat) : Int), 0, ()), ())) (se (fun y5 => (some (y5.1.1, ()))) (fun z6 => none)))
def Ul (a0 : Int) (a1 : Int) : Option Xi :=
 (cond (decide (0 ≤ a1))
 (some ((Zn .i64 (Ow .i64 a0 a1) 1), ()))
 none)
def Hn (t3 : Int) (t6 : Mk) (t7 : Int) (t8 : Int) : Option (Pv ⊕ Qv) :=
 (cond (decide (t8 < t7))
 (ob (Cd t6 t8) fun x7 =>
 (cond (decide (x7.1 < 0))
 (some (.inr (.inr ((false, ()), ()))))
 (cond (decide (x7.1 > 31))
 (some (.inr (.inr ((false, ()), ()))))
 (ob (Ul t3 x7.1) fun r8 =>
 (cond (r8.1 == 1)
 (some (.inr (.inr ((false, ()), ()))))
 (ob (Qg x7.2.1) fun r9 =>
 (cond (!r9.1)
 (some (.inr (.inr ((false, ()), ()))))
 (cond (x7.2.1.1 == 1)
 (some (.inr (.inr ((false, ()), ()))))
 (cond (x7.2.1.1 == 6)
 (some (.inr (.inr ((false, ()), ()))))
 (cond (x7.2.1.1 == 7)
 (some (.inr (.inr ((false, ()), ()))))
 (cond (decide (0 ≤ x7.1))
 (some (.inl (((Ud .i64 t3 (Ve .i64 1 x7.1)), t6, t7, (wr .i64 (t8 + 1)), ()), ())))
 none)))))))))))
 (some (.inr (.inl ((), ())))))
def Co := Cc fun x : Pv => Hn x.1.1 x.1.2.1 x.1.2.2.1 x.1.2.2.2.1
def Ch (a0 : Mk) : Option Ye :=
 (ob (Co ((0, a0, ((ln a0 : Nat) : Int), 0, ()), ())) (se (fun y10 => (some (true, ()))) (fun z11 => (some (z11.1.1, ())))))
def On (t3 : Unit) (t7 : Rx) (t8 : Int) (t9 : Int) (b3 : Mb) : Option (((Unit × ZH) × ZM) ⊕ YM) :=
 (cond (decide (t9 < t8))
 (ob (Cd t7 t9) fun x3 =>
 (cond (Ui Ke x3 b3)
 (some (.inr (.inr ((t9, ()), ()))))
 (some (.inl (((), t7, t8, (wr .i64 (t9 + 1)), ()), (b3, ()))))))
 (some (.inr (.inl ((), ())))))
def Jo := Cc fun x : ((Unit × ZH) × ZM) => On x.1.1 x.1.2.1 x.1.2.2.1 x.1.2.2.2.1 x.2.1
def Mp (a0 : Rx) (a1 : Mb) : Option Xi :=
 (ob (Jo (((), a0, ((ln a0 : Nat) : Int), 0, ()), (a1, ()))) (se (fun y4 => (some ((-1), ()))) (fun z5 => (some (z5.1.1, ())))))
def Ni (t3 : Rx) (t11 : Ov) (t12 : Int) (t13 : Int) : Option ((CI × Unit) ⊕ (((Rx × Unit) × Unit) ⊕ Px)) :=
 (cond (decide (t13 < t12))
 (ob (Cd t11 t13) fun x10 =>
 (ob (Mp t3 x10.2) fun r11 =>
 (ob (Qg (2, x10.2.1, x10.2.2.1, 0, ())) fun r12 =>
 (cond (!r12.1)
 (some (.inr (.inr ((false, ()), ()))))
 (cond (x10.1 == 0)
 (cond (decide (r11.1 ≥ 0))
 (some (.inr (.inr ((false, ()), ()))))
 (cond (x10.1 == 1)
 (cond (bl (ln t3 + ln ([x10.2] : List Mb)) Cb)
 (some (.inl (((ap t3 ([x10.2] : List Mb)), t11, t12, (wr .i64 (t13 + 1)), ()), ())))
 none)
 (some (.inl ((t3, t11, t12, (wr .i64 (t13 + 1)), ()), ())))))
 (cond (x10.1 == 1)
 (cond (decide (r11.1 ≥ 0))
 (some (.inr (.inr ((false, ()), ()))))
 (cond (x10.1 == 1)
 (cond (bl (ln t3 + ln ([x10.2] : List Mb)) Cb)
 (some (.inl (((ap t3 ([x10.2] : List Mb)), t11, t12, (wr .i64 (t13 + 1)), ()), ())))
 none)
 (some (.inl ((t3, t11, t12, (wr .i64 (t13 + 1)), ()), ())))))
 (cond (x10.1 == 2)
 (cond (decide (r11.1 < 0))
 (some (.inr (.inr ((false, ()), ()))))
 (cond (Te (ln t3) 0 r11.1)
 (cond (Te (ln t3) (wr .i64 (r11.1 + 1)) ((ln t3 : Nat) : Int))
 (cond (bl (ln (Ob t3 (tn 0) (tn r11.1)) + ln (Ob t3 (tn (wr .i64 (r11.1 + 1))) (tn ((ln t3 : Nat) : Int)))) Cb)
 (some (.inl (((ap (Ob t3 (tn 0) (tn r11.1)) (Ob t3 (tn (wr .i64 (r11.1 + 1))) (tn ((ln t3 : Nat) : Int)))), t11, t12, (wr .i64 (t13 + 1)), ()), ())))
 none)
 none)
 none))
 (some (.inr (.inr ((false, ()), ())))))))))))
 (some (.inr (.inl ((t3, ()), ())))))
def Ym := Cc fun x : (CI × Unit) => Ni x.1.1 x.1.2.1 x.1.2.2.1 x.1.2.2.2.1
def Eo (a0 : Ov) : Option Ye :=
 (cond (decide (((ln a0 : Nat) : Int) > 8))
 (some (false, ()))
 (ob (Ym (([], a0, ((ln a0 : Nat) : Int), 0, ()), ())) (se (fun y13 => (some ((((ln y13.1.1 : Nat) : Int) == 0), ()))) (fun z14 => (some (z14.1.1, ()))))))
def Dk (t1 : Unit) (t35 : Ro) (t36 : Int) (t37 : Int) (b1 : Wa) : Option (((Unit × (Ro × Mb)) × Du) ⊕ ((Lk × Du) ⊕ Px)) :=
 (cond (decide (t37 < t36))
 (ob (Cd t35 t37) fun x7 =>
 (ob (Eo x7) fun r8 =>
 (cond (!r8.1)
 (some (.inr (.inr ((false, ()), ()))))
 (some (.inl (((), t35, t36, (wr .i64 (t37 + 1)), ()), (b1, ())))))))
 (some (.inr (.inl (((), ()), (b1, ()))))))
def Sh := Cc fun x : ((Unit × (Ro × Mb)) × Du) => Dk x.1.1 x.1.2.1 x.1.2.2.1 x.1.2.2.2.1 x.2.1
def Fj (t1 : Unit) (t5 : Int) (t50 : Mk) (t51 : Int) (t52 : Int) (b1 : Wa) : Option (((Unit × (Int × QD)) × Du) ⊕ ((XM × Du) ⊕ Px)) :=
 (cond (decide (t52 < t51))
 (ob (Cd t50 t52) fun x13 =>
 (cond (decide (x13.1 ≥ b1.1.1))
 (some (.inr (.inr ((false, ()), ()))))
 (cond (x13.2.1.1 != 9)
 (cond (decide (x13.2.1.2.2.2.1 ≥ t5))
 (some (.inr (.inr ((false, ()), ()))))
 (some (.inl (((), t5, t50, t51, (wr .i64 (t52 + 1)), ()), (b1, ())))))
 (some (.inl (((), t5, t50, t51, (wr .i64 (t52 + 1)), ()), (b1, ())))))))
 (some (.inr (.inl (((), t5, ()), (b1, ()))))))
def Ih := Cc fun x : ((Unit × (Int × QD)) × Du) => Fj x.1.1 x.1.2.1 x.1.2.2.1 x.1.2.2.2.1 x.1.2.2.2.2.1 x.2.1
def Rg (a0 : Wa) : Option Ye :=
 (ob (Mm a0.1) fun r1 =>
 (cond (!r1.1)
 (some (false, ()))
 (cond (decide (((ln a0.2.1 : Nat) : Int) > 4))
 (some (false, ()))
 (ob (Ch a0.2.2.2.1) fun r2 =>
 (cond (!r2.1)
 (some (false, ()))
 (cond (decide (a0.2.2.2.2.1 < 0))
 (some (false, ()))
 (cond (decide (a0.2.2.2.2.1 > 15))
 (some (false, ()))
 (ob (Sh (((), a0.2.1, ((ln a0.2.1 : Nat) : Int), 0, ()), (a0, ()))) (se (fun y9 => (ob (Ih (((), ((ln y9.2.1.1.2.1 : Nat) : Int), y9.2.1.2.2.2.1, ((ln y9.2.1.2.2.2.1 : Nat) : Int), 0, ()), (y9.2.1, ()))) (se (fun y14 => (cond (decide (y14.2.1.2.2.1 ≥ 0))
 (cond ((2 : Int) == 0)
 none
 (cond ((Int.tmod y14.2.1.2.2.1 2) == 0)
 (cond (decide (0 ≤ y14.1.2.1))
 (some ((decide (y14.2.1.2.2.1 < (Ve .i64 1 y14.1.2.1))), ()))
 none)
 (some (false, ()))))
 (some (false, ())))) (fun z15 => (some (z15.1.1, ())))))) (fun z10 => (some (z10.1.1, ()))))))))))))
def So (a0 : Na) (a1 : Ro) : Option (Wa × Ye) :=
 (ob (Jj a0) fun r1 =>
 (ob (Kj a1) fun r2 =>
 (ob (Rg (r1.1, r2.1, 0, [], 0, false, ())) fun r3 =>
 (cond (!r3.1)
 (some (Hl, false, ()))
 (some ((r1.1, r2.1, 0, [], 0, false, ()), true, ()))))))
def Pf (a0 : Wa) : Option Du :=
 (ob (Jj a0.1) fun r1 =>
 (ob (Kj a0.2.1) fun r2 =>
 (cond (bl (ln ([] : List Ka) + ln a0.2.2.2.1) Cb)
 (some ((r1.1, r2.1, a0.2.2.1, (ap [] a0.2.2.2.1), a0.2.2.2.2), ()))
 none)))
def Nm (a0 : Zb) : Option Ye :=
 (cond (decide (a0.1 ≥ 1))
 (cond (decide (a0.1 ≤ 1000))
 (cond (decide (a0.2.1 ≥ 0))
 (cond (decide (a0.2.1 ≤ 1000))
 (cond (decide (a0.2.2.1 ≥ 0))
 (some ((decide (a0.2.2.1 ≤ 2)), ()))
 (some (false, ())))
 (some (false, ())))
 (some (false, ())))
 (some (false, ())))
 (some (false, ())))
def Fk (t3 : Int) (t6 : Mk) (t7 : Int) (t8 : Int) : Option (Pv ⊕ TV) :=
 (cond (decide (t8 < t7))
 (ob (Cd t6 t8) fun x3 =>
 (cond (decide (0 ≤ x3.1))
 (some (.inl (((Ud .i64 t3 (Ve .i64 1 x3.1)), t6, t7, (wr .i64 (t8 + 1)), ()), ())))
 none))
 (some (.inr (.inl ((t3, ()), ())))))
def Wl := Cc fun x : Pv => Fk x.1.1 x.1.2.1 x.1.2.2.1 x.1.2.2.2.1
def Cj (a0 : Mk) : Option Xi :=
 (ob (Wl ((0, a0, ((ln a0 : Nat) : Int), 0, ()), ())) (se (fun y4 => (some (y4.1.1, ()))) (fun z5 => none)))
def Bo (a0 : Ra) : Option Ye :=
 (cond (decide (a0.1 ≥ 0))
 (cond (decide (a0.1 ≤ 1000000))
 (cond (decide (a0.2.1 ≥ 0))
 (some ((decide (a0.2.1 ≤ 31)), ()))
 (some (false, ())))
 (some (false, ())))
 (some (false, ())))
def Mn (t0 : Qh) (t1 : Int) (t11 : Qh) (t12 : Int) (t13 : Int) : Option (((Qh × PA) × Unit) ⊕ ((Xi × Unit) ⊕ (XV × Unit))) :=
 (cond (decide (t13 < t12))
 (ob (Cd t11 t13) fun x11 =>
 (ob (Bo x11) fun r12 =>
 (cond (!r12.1)
 (some (.inr (.inr ((0, false, ()), ()))))
 (cond (decide (t13 > 0))
 (ob (Cd t0 (wr .i64 (t13 - 1))) fun x13 =>
 (cond (decide (x13.1 > x11.1))
 (some (.inr (.inr ((0, false, ()), ()))))
 (ob (Ul t1 x11.2.1) fun r14 =>
 (cond (x11.2.2.1 == (r14.1 == 1))
 (some (.inr (.inr ((0, false, ()), ()))))
 (cond (decide (0 ≤ x11.2.1))
 (some (.inl ((t0, (Zl .i64 t1 (Ve .i64 1 x11.2.1)), t11, t12, (wr .i64 (t13 + 1)), ()), ())))
 none)))))
 (ob (Ul t1 x11.2.1) fun r15 =>
 (cond (x11.2.2.1 == (r15.1 == 1))
 (some (.inr (.inr ((0, false, ()), ()))))
 (cond (decide (0 ≤ x11.2.1))
 (some (.inl ((t0, (Zl .i64 t1 (Ve .i64 1 x11.2.1)), t11, t12, (wr .i64 (t13 + 1)), ()), ())))
 none)))))))
 (some (.inr (.inl ((t1, ()), ())))))
def Ho := Cc fun x : ((Qh × PA) × Unit) => Mn x.1.1 x.1.2.1 x.1.2.2.1 x.1.2.2.2.1 x.1.2.2.2.2.1
def Ss (a0 : Qh) (a1 : Int) : Option XV :=
 (cond (decide (((ln a0 : Nat) : Int) > 64))
 (some (0, false, ()))
 (ob (Ho ((a0, a1, a0, ((ln a0 : Nat) : Int), 0, ()), ())) (se (fun y16 => (some (y16.1.1, true, ()))) (fun z17 => (some z17.1)))))
def Lj (t0 : Qh) (t1 : Int) (t2 : Int) (t11 : Qh) (t12 : Int) (t13 : Int) : Option (((Qh × (Int × PA)) × Unit) ⊕ (((Qh × Xi) × Unit) ⊕ Px)) :=
 (cond (decide (t13 < t12))
 (ob (Cd t11 t13) fun x3 =>
 (cond (decide (x3.2.1 ≥ t2))
 (some (.inr (.inr ((false, ()), ()))))
 (some (.inl ((t0, t1, t2, t11, t12, (wr .i64 (t13 + 1)), ()), ())))))
 (some (.inr (.inl ((t0, t1, ()), ())))))
def Yk := Cc fun x : ((Qh × (Int × PA)) × Unit) => Lj x.1.1 x.1.2.1 x.1.2.2.1 x.1.2.2.2.1 x.1.2.2.2.2.1 x.1.2.2.2.2.2.1
def Hi (a0 : Qh) (a1 : Int) (a2 : Int) : Option Ye :=
 (ob (Yk ((a0, a1, a2, a0, ((ln a0 : Nat) : Int), 0, ()), ())) (se (fun y4 => (ob (Ss y4.1.1 y4.1.2.1) fun r6 =>
 (some (r6.2.1, ())))) (fun z5 => (some (z5.1.1, ())))))
def Gi (a0 : Qh) (a1 : Int) : Option Ye :=
 (cond (((ln a0 : Nat) : Int) == 0)
 (some (true, ()))
 (ob (Cd a0 (wr .i64 (((ln a0 : Nat) : Int) - 1))) fun x1 =>
 (some ((decide (x1.1 ≤ a1)), ()))))
def Ei (a0 : Nb) : Option Ye :=
 (ob (Rg a0.1) fun r1 =>
 (cond (!r1.1)
 (some (false, ()))
 (ob (Nm a0.2.1) fun r2 =>
 (cond (!r2.1)
 (some (false, ()))
 (cond (decide (a0.2.2.2.1 < 0))
 (some (false, ()))
 (cond (decide (a0.2.2.2.1 > 1000000))
 (some (false, ()))
 (cond (decide (a0.2.2.2.2.1 < 0))
 (some (false, ()))
 (cond (decide (a0.2.2.2.2.1 > a0.2.2.2.1))
 (some (false, ()))
 (ob (Cj a0.1.2.2.2.1) fun r3 =>
 (ob (Hi a0.2.2.1 r3.1 a0.1.1.1) fun r4 =>
 (cond (!r4.1)
 (some (false, ()))
 (ob (Gi a0.2.2.1 a0.2.2.2.1) fun r5 =>
 (cond (!r5.1)
 (some (false, ()))
 (cond (decide (a0.2.2.2.2.2.1 ≥ 0))
 (cond (decide (a0.2.2.2.2.2.1 ≤ a0.1.1.1))
 (cond (decide (a0.2.2.2.2.2.2.1 ≥ 0))
 (some ((decide (a0.2.2.2.2.2.2.1 ≤ a0.2.2.2.1)), ()))
 (some (false, ())))
 (some (false, ())))
 (some (false, ()))))))))))))))))
def Kn (a0 : Wa) (a1 : Zb) : Option (Nb × Ye) :=
 (ob (Pf a0) fun r1 =>
 (ob (Ei (r1.1, a1, [], 0, 0, 0, 0, ())) fun r2 =>
 (cond (!r2.1)
 (some (Ig, false, ()))
 (some ((r1.1, a1, [], 0, 0, 0, 0, ()), true, ())))))
def Pi (a0 : Nb) : Option AI :=
 (ob (Pf a0.1) fun r1 =>
 (cond (bl (ln ([] : List Ra) + ln a0.2.2.1) Cb)
 (some ((r1.1, a0.2.1, (ap [] a0.2.2.1), a0.2.2.2), ()))
 none))
def Gn (t1 : Int) (t8 : Mk) (t9 : Int) (t10 : Int) : Option (Pv ⊕ YM) :=
 (cond (decide (t10 < t9))
 (ob (Cd t8 t10) fun x3 =>
 (cond (x3.1 == t1)
 (some (.inr (.inr ((t10, ()), ()))))
 (some (.inl ((t1, t8, t9, (wr .i64 (t10 + 1)), ()), ())))))
 (some (.inr (.inl ((), ())))))
def Ao := Cc fun x : Pv => Gn x.1.1 x.1.2.1 x.1.2.2.1 x.1.2.2.2.1
def Lp (a0 : Wa) (a1 : Int) : Option Xi :=
 (ob (Ao ((a1, a0.2.2.2.1, ((ln a0.2.2.2.1 : Nat) : Int), 0, ()), ())) (se (fun y4 => (some ((-1), ()))) (fun z5 => (some (z5.1.1, ())))))
def sort_Ints (x0 : Ee) : Option LD := KW x0
def Nn (t1 : Int) (t7 : Ee) (t8 : Int) (t9 : Int) : Option (((Int × OA) × Unit) ⊕ Qv) :=
 (cond (decide (t9 < t8))
 (ob (Cd t7 t9) fun x3 =>
 (cond (x3 == t1)
 (some (.inr (.inr ((true, ()), ()))))
 (some (.inl ((t1, t7, t8, (wr .i64 (t9 + 1)), ()), ())))))
 (some (.inr (.inl ((), ())))))
def Io := Cc fun x : ((Int × OA) × Unit) => Nn x.1.1 x.1.2.1 x.1.2.2.1 x.1.2.2.2.1
def Ts (a0 : Ee) (a1 : Int) : Option Ye :=
 (ob (Io ((a1, a0, ((ln a0 : Nat) : Int), 0, ()), ())) (se (fun y4 => (some (false, ()))) (fun z5 => (some (z5.1.1, ())))))
def Vl (t4 : Ee) (t11 : Ee) (t12 : Int) (t13 : Int) : Option (DI ⊕ ((LD × Unit) ⊕ Lk)) :=
 (cond (decide (t13 < t12))
 (cond (Vi (ln t11) t13)
 (ob t11[(tn t13)]? fun x9 =>
 (cond (x9 != 0)
 (ob (Ts t4 x9) fun r10 =>
 (cond (!r10.1)
 (cond (bl (ln t4 + ln ([x9] : List Int)) Cb)
 (some (.inl (((ap t4 ([x9] : List Int)), t11, t12, (wr .i64 (t13 + 1)), ()), ())))
 none)
 (some (.inl ((t4, t11, t12, (wr .i64 (t13 + 1)), ()), ())))))
 (some (.inl ((t4, t11, t12, (wr .i64 (t13 + 1)), ()), ())))))
 none)
 (some (.inr (.inl ((t4, ()), ())))))
def An := Cc fun x : DI => Vl x.1.1 x.1.2.1 x.1.2.2.1 x.1.2.2.2.1
def Vk (a0 : Ee) : Option LD :=
 (ob (Bj a0) fun r1 =>
 (ob (sort_Ints r1.1) fun r2 =>
 (ob (An (([], r2.1, ((ln r2.1 : Nat) : Int), 0, ()), ())) (se (fun y11 => (some (y11.1.1, ()))) (fun z12 => none)))))
def Ek (t2 : Unit) (t3 : Unit) (t4 : Ee) (t11 : Mk) (t12 : Int) (t13 : Int) (b2 : Ga) (b3 : Ga) : Option (((Unit × (Unit × (Ee × QD))) × LI) ⊕ BW) :=
 (cond (decide (t13 < t12))
 (ob (Cd t11 t13) fun x5 =>
 (cond (x5.2.1.1 == 2)
 (cond (bl (ln t4 + ln ([x5.2.1.2.1] : List Int)) Cb)
 (some (.inl (((), (), (ap t4 ([x5.2.1.2.1] : List Int)), t11, t12, (wr .i64 (t13 + 1)), ()), (b2, ((Ud .i64 b3.1 x5.2.1.2.2.1), b3.2.1, ()), ()))))
 none)
 (cond (x5.2.1.1 == 8)
 (cond (bl (ln t4 + ln ([x5.2.1.2.1] : List Int)) Cb)
 (some (.inl (((), (), (ap t4 ([x5.2.1.2.1] : List Int)), t11, t12, (wr .i64 (t13 + 1)), ()), (b2, ((Ud .i64 b3.1 x5.2.1.2.2.1), b3.2.1, ()), ()))))
 none)
 (cond (bl (ln t4 + ln ([x5.2.1.2.1] : List Int)) Cb)
 (some (.inl (((), (), (ap t4 ([x5.2.1.2.1] : List Int)), t11, t12, (wr .i64 (t13 + 1)), ()), (b2, b3, ()))))
 none))))
 (some (.inr (.inl (((), (), t4, ()), (b2, b3, ()))))))
def Sl := Cc fun x : ((Unit × (Unit × (Ee × QD))) × LI) => Ek x.1.1 x.1.2.1 x.1.2.2.1 x.1.2.2.2.1 x.1.2.2.2.2.1 x.1.2.2.2.2.2.1 x.2.1 x.2.2.1
def Lb (a0 : Mk) : Option QA :=
 (ob (Ch a0) fun r1 =>
 (cond (!r1.1)
 (some ((0, [], ()), ()))
 (ob (Sl (((), (), [], a0, ((ln a0 : Nat) : Int), 0, ()), ((0, [], ()), (0, [], ()), ()))) (se (fun y6 => (ob (Vk y6.1.2.2.1) fun r8 =>
 (some ((y6.2.2.1.1, r8.1, ()), ())))) (fun z7 => none)))))
def Gk (t0 : Ee) (t1 : Ee) (t12 : Int) (t13 : Int) : Option (DI ⊕ Qv) :=
 (cond (decide (t13 < t12))
 (ob (Cd t0 t13) fun x5 =>
 (ob (Cd t1 t13) fun x6 =>
 (cond (x5 != x6)
 (some (.inr (.inr ((false, ()), ()))))
 (some (.inl ((t0, t1, t12, (wr .i64 (t13 + 1)), ()), ()))))))
 (some (.inr (.inl ((), ())))))
def Xl := Cc fun x : DI => Gk x.1.1 x.1.2.1 x.1.2.2.1 x.1.2.2.2.1
def Xp (a0 : Ee) (a1 : Ee) : Option Ye :=
 (cond (((ln a0 : Nat) : Int) != ((ln a1 : Nat) : Int))
 (some (false, ()))
 (ob (Xl ((a0, a1, ((ln a0 : Nat) : Int), 0, ()), ())) (se (fun y7 => (some (true, ()))) (fun z8 => (some (z8.1.1, ()))))))
def Ij (a0 : Ga) (a1 : Ga) : Option Ye :=
 (cond (a0.1 == a1.1)
 (ob (Xp a0.2.1 a1.2.1) fun r1 =>
 (some (r1.1, ())))
 (some (false, ())))
def Rn (a b : Ga) : Bool := (a.1 == b.1) && (a.2.1 == b.2.1)
def RV (c : T Vc → T Vc → Option Bool) (a b : T Vc) : Option Ye := ob (c a b) fun x => some (x, ())
def Qr (c : T Vc → T Vc → Option Bool) (t2 : Unit) (t5 : (List (Int × ((T .o) × Unit)))) (t8 : (List (Int × ((T .o) × Unit)))) (t9 : Int) (t10 : Int) (b2 : (Int × ((T .o) × Unit))) : Option (((Unit × ((List (Int × ((T .o) × Unit))) × ((List (Int × ((T .o) × Unit))) × Mb))) × ((Int × ((T .o) × Unit)) × Unit)) ⊕ ((((List (Int × ((T .o) × Unit))) × Unit) × Unit) ⊕ Lk)) :=
 (cond (decide (t10 < t9))
 (ob (Cd t8 t10) fun x7 =>
 (ob (RV c b2 x7) fun r8 =>
 (cond (!r8.1)
 (cond (bl (ln t5 + ln ([x7] : List (Int × ((T .o) × Unit)))) Cb)
 (some (.inl (((), (ap t5 ([x7] : List (Int × ((T .o) × Unit)))), t8, t9, (wr .i64 (t10 + 1)), ()), (x7, ()))))
 none)
 (some (.inl (((), t5, t8, t9, (wr .i64 (t10 + 1)), ()), (x7, ())))))))
 (some (.inr (.inl ((t5, ()), ())))))
def Pm (c : T Vc → T Vc → Option Bool) (x : ((Unit × ((List (Int × ((T .o) × Unit))) × ((List (Int × ((T .o) × Unit))) × Mb))) × ((Int × ((T .o) × Unit)) × Unit))) : Option ((((List (Int × ((T .o) × Unit))) × Unit) × Unit) ⊕ Lk) := Cc (fun x : ((Unit × ((List (Int × ((T .o) × Unit))) × ((List (Int × ((T .o) × Unit))) × Mb))) × ((Int × ((T .o) × Unit)) × Unit)) => Qr c x.1.1 x.1.2.1 x.1.2.2.1 x.1.2.2.2.1 x.1.2.2.2.2.1 x.2.1) x
def KN (c : T Vc → T Vc → Option Bool) (a0 : (Int × ((T .o) × Unit))) (a1 : (List (Int × ((T .o) × Unit)))) : Option ((List (Int × ((T .o) × Unit))) × Unit) :=
 (ob (Pm c (((), ([] : List (Int × ((T .o) × Unit))), a1, ((ln a1 : Nat) : Int), 0, ()), (a0, ()))) (se (fun y9 => (some (y9.1.1, ()))) (fun z10 => none)))
def Wb (a0 : Ga) (a1 : List Ga) : Option Qx := JN Rn a0 a1
def Gh (a0 : Wa) (a1 : Int) : Option (Wa × Qx) :=
 (ob (Pf a0) fun r1 =>
 (ob (Lp a0 a1) fun r2 =>
 (cond (Te (ln r1.1.2.2.2.1) 0 r2.1)
 (cond (Te (ln r1.1.2.2.2.1) (wr .i64 (r2.1 + 1)) ((ln r1.1.2.2.2.1 : Nat) : Int))
 (cond (bl (ln (Ob r1.1.2.2.2.1 (tn 0) (tn r2.1)) + ln (Ob r1.1.2.2.2.1 (tn (wr .i64 (r2.1 + 1))) (tn ((ln r1.1.2.2.2.1 : Nat) : Int)))) Cb)
 (ob (Lb a0.2.2.2.1) fun r3 =>
 (ob (Lb (ap (Ob r1.1.2.2.2.1 (tn 0) (tn r2.1)) (Ob r1.1.2.2.2.1 (tn (wr .i64 (r2.1 + 1))) (tn ((ln r1.1.2.2.2.1 : Nat) : Int))))) fun r4 =>
 (ob (Wb r3.1 ([r4.1] : List Ga)) fun r5 =>
 (some ((r1.1.1, r1.1.2.1, r1.1.2.2.1, (ap (Ob r1.1.2.2.2.1 (tn 0) (tn r2.1)) (Ob r1.1.2.2.2.1 (tn (wr .i64 (r2.1 + 1))) (tn ((ln r1.1.2.2.2.1 : Nat) : Int)))), r1.1.2.2.2.2), r5.1, ())))))
 none)
 none)
 none)))
def Ph (t5 : Int) (t21 : Mk) (t22 : Int) (t23 : Int) : Option (Pv ⊕ TV) :=
 (cond (decide (t23 < t22))
 (ob (Cd t21 t23) fun x16 =>
 (cond (x16.2.1.1 == 3)
 (cond (decide (0 ≤ x16.2.1.2.2.2.1))
 (some (.inl (((Ud .i64 t5 (Ve .i64 1 x16.2.1.2.2.2.1)), t21, t22, (wr .i64 (t23 + 1)), ()), ())))
 none)
 (some (.inl ((t5, t21, t22, (wr .i64 (t23 + 1)), ()), ())))))
 (some (.inr (.inl ((t5, ()), ())))))
def Jf := Cc fun x : Pv => Ph x.1.1 x.1.2.1 x.1.2.2.1 x.1.2.2.2.1
def Sg (a0 : Int) (a1 : Mk) : Option Xi :=
 (cond (decide (a0 ≥ 0))
 (cond (decide (a0 ≤ 15))
 (ob (Ch a1) fun r1 =>
 (cond (!r1.1)
 (some ((Ud .i64 1 a0), ()))
 (ob (Jf (((Ud .i64 1 a0), a1, ((ln a1 : Nat) : Int), 0, ()), ())) (se (fun y5 => (some (y5.1.1, ()))) (fun z6 => none)))))
 (ob (Ch a1) fun r7 =>
 (cond (!r7.1)
 (some (1, ()))
 (ob (Jf ((1, a1, ((ln a1 : Nat) : Int), 0, ()), ())) (se (fun y11 => (some (y11.1.1, ()))) (fun z12 => none))))))
 (ob (Ch a1) fun r13 =>
 (cond (!r13.1)
 (some (1, ()))
 (ob (Jf ((1, a1, ((ln a1 : Nat) : Int), 0, ()), ())) (se (fun y17 => (some (y17.1.1, ()))) (fun z18 => none))))))
def Ev (t1 : Int) (t2 : Int) (t3 : Unit) (t7 : Int) (b3 : Na) : Option (WV ⊕ YM) :=
 (cond (decide (t7 > 0))
 (ob (Ul t1 t7) fun r7 =>
 (cond (r7.1 == 1)
 (ob (Cd b3.2.1 t7) fun x8 =>
 (ob (Cd x8 t2) fun x9 =>
 (cond (x9.1 != 1)
 (some (.inr (.inr ((t7, ()), ()))))
 (some (.inl ((t1, t2, (), (wr .i64 (t7 - 1)), ()), (b3, ())))))))
 (some (.inl ((t1, t2, (), (wr .i64 (t7 - 1)), ()), (b3, ()))))))
 (some (.inr (.inl ((), ())))))
def Tf := Cc fun x : WV => Ev x.1.1 x.1.2.1 x.1.2.2.1 x.1.2.2.2.1 x.2.1
def Xk (a0 : Na) (a1 : Int) (a2 : Int) : Option Xi :=
 (ob (Tf ((a1, a2, (), (wr .i64 (((ln a0.2.1 : Nat) : Int) - 1)), ()), (a0, ()))) (se (fun y10 => (some (0, ()))) (fun z11 => (some (z11.1.1, ())))))
def Cv (a0 : Na) (a1 : Int) (a2 : Int) : Option Xi :=
 (ob (Mm a0) fun r1 =>
 (cond (!r1.1)
 (some ((-1), ()))
 (cond (decide (a2 < 0))
 (some ((-1), ()))
 (cond (decide (a2 ≥ a0.1))
 (some ((-1), ()))
 (ob (Xk a0 a1 a2) fun r2 =>
 (some (r2.1, ())))))))
def Wp (a0 : Na) (a1 : Int) (a2 : Int) : Option ND :=
 (ob (Cv a0 a1 a2) fun r1 =>
 (cond (decide (r1.1 < 0))
 (some ((0, 0, 0, 0, ()), ()))
 (ob (Cd a0.2.1 r1.1) fun x2 =>
 (ob (Cd x2 a2) fun x3 =>
 (some (x3, ()))))))
def Ck (t1 : Int) (t2 : Int) (t4 : Int) (t5 : Unit) (t12 : Int) (t26 : Qh) (t27 : Int) (t28 : Int) (b5 : Zb) : Option (((Int × (Int × (Int × (Unit × PA)))) × OD) ⊕ (((Int × (Int × Lk)) × OD) ⊕ ZM)) :=
 (cond (decide (t28 < t27))
 (ob (Cd t26 t28) fun x10 =>
 (ob (Bo x10) fun r11 =>
 (cond (!r11.1)
 (some (.inr (.inr ((0, 0, ()), ()))))
 (cond (decide (x10.1 ≥ (wr .i64 (t2 + b5.1))))
 (some (.inr (.inr ((2, (wr .i64 (t2 + b5.1)), ()), ()))))
 (cond (x10.2.1 == t1)
 (cond (!x10.2.2.1)
 (some (.inr (.inr ((1, x10.1, ()), ()))))
 (cond (x10.2.1 == t1)
 (some (.inl ((t1, t2, t4, (), t12, t26, t27, (wr .i64 (t28 + 1)), ()), (b5, ()))))
 (cond x10.2.2.1
 (cond (b5.2.2.1 == 1)
 (some (.inr (.inr ((2, x10.1, ()), ()))))
 (cond (decide (0 ≤ x10.2.1))
 (some (.inl ((t1, t2, t4, (), (Ud .i64 t12 (Ve .i64 1 x10.2.1)), t26, t27, (wr .i64 (t28 + 1)), ()), (b5, ()))))
 none))
 (cond (b5.2.2.1 == 2)
 (ob (Ul t12 x10.2.1) fun r12 =>
 (cond (r12.1 == 1)
 (some (.inr (.inr ((2, x10.1, ()), ()))))
 (some (.inl ((t1, t2, t4, (), t12, t26, t27, (wr .i64 (t28 + 1)), ()), (b5, ()))))))
 (some (.inl ((t1, t2, t4, (), t12, t26, t27, (wr .i64 (t28 + 1)), ()), (b5, ()))))))))
 (cond (x10.2.1 == t1)
 (some (.inl ((t1, t2, t4, (), t12, t26, t27, (wr .i64 (t28 + 1)), ()), (b5, ()))))
 (cond x10.2.2.1
 (cond (b5.2.2.1 == 1)
 (some (.inr (.inr ((2, x10.1, ()), ()))))
 (cond (decide (0 ≤ x10.2.1))
 (some (.inl ((t1, t2, t4, (), (Ud .i64 t12 (Ve .i64 1 x10.2.1)), t26, t27, (wr .i64 (t28 + 1)), ()), (b5, ()))))
 none))
 (cond (b5.2.2.1 == 2)
 (ob (Ul t12 x10.2.1) fun r13 =>
 (cond (r13.1 == 1)
 (some (.inr (.inr ((2, x10.1, ()), ()))))
 (some (.inl ((t1, t2, t4, (), t12, t26, t27, (wr .i64 (t28 + 1)), ()), (b5, ()))))))
 (some (.inl ((t1, t2, t4, (), t12, t26, t27, (wr .i64 (t28 + 1)), ()), (b5, ()))))))))))))
 (some (.inr (.inl ((t2, t4, (), ()), (b5, ()))))))
def Pl := Cc fun x : ((Int × (Int × (Int × (Unit × PA)))) × OD) => Ck x.1.1 x.1.2.1 x.1.2.2.1 x.1.2.2.2.1 x.1.2.2.2.2.1 x.1.2.2.2.2.2.1 x.1.2.2.2.2.2.2.1 x.1.2.2.2.2.2.2.2.1 x.2.1
def Lm (a0 : Zb) (a1 : Int) (a2 : Int) (a3 : Qh) (a4 : Int) : Option Mb :=
 (ob (Nm a0) fun r1 =>
 (cond (!r1.1)
 (some (0, 0, ()))
 (cond (decide (a2 < 0))
 (some (0, 0, ()))
 (cond (decide (a2 > 1000000))
 (some (0, 0, ()))
 (ob (Pl ((a1, a2, a4, (), 0, a3, ((ln a3 : Nat) : Int), 0, ()), (a0, ()))) (se (fun y14 => (cond (decide (y14.1.2.1 ≥ (wr .i64 (y14.1.1 + y14.2.1.1))))
 (some (2, (wr .i64 (y14.1.1 + y14.2.1.1)), ()))
 (some (0, 0, ())))) (fun z15 => (some z15.1))))))))
def Qs (a0 : Ia) : Option ND :=
 (ob (Fi a0) fun r1 =>
 (cond (!r1.1)
 (some (a0, ()))
 (cond (a0.1 == 6)
 (some ((2, 0, a0.2.2.1, 0, ()), ()))
 (some ((3, 0, 0, a0.2.2.2.1, ()), ())))))
def Jn (a0 : Int) : Option Ye :=
 (cond (decide (a0 ≥ 1))
 (cond (decide (a0 ≤ 36))
 (some (true, ()))
 (cond (a0 == 39)
 (some (true, ()))
 (some ((a0 == 42), ()))))
 (cond (a0 == 39)
 (some (true, ()))
 (some ((a0 == 42), ()))))
def Zh (a0 : Wa) (a1 : Ia) : Option (Wa × ND) :=
 (cond (a1.1 == 2)
 (cond (a1.2.1 == 0)
 (some (a0, (a1, ())))
 (cond a0.2.2.2.2.2.1
 (ob (Jn a1.2.1) fun r1 =>
 (cond r1.1
 (cond (decide (a1.2.1 ≤ 26))
 (cond ((Ej .i64 (Ud .i64 a1.2.2.1 a0.2.2.2.2.1) 2) == 0)
 (some ((a0.1, a0.2.1, a0.2.2.1, a0.2.2.2.1, 0, r1.1, a0.2.2.2.2.2.2), ((a1.1, a1.2.1, 2, a1.2.2.2), ())))
 (some ((a0.1, a0.2.1, a0.2.2.1, a0.2.2.2.1, 0, r1.1, a0.2.2.2.2.2.2), ((a1.1, a1.2.1, (Ud .i64 a1.2.2.1 a0.2.2.2.2.1), a1.2.2.2), ()))))
 (some ((a0.1, a0.2.1, a0.2.2.1, a0.2.2.2.1, 0, r1.1, a0.2.2.2.2.2.2), ((a1.1, a1.2.1, (Ud .i64 a1.2.2.1 a0.2.2.2.2.1), a1.2.2.2), ()))))
 (some ((a0.1, a0.2.1, a0.2.2.1, a0.2.2.2.1, 0, r1.1, a0.2.2.2.2.2.2), ((a1.1, a1.2.1, (Ud .i64 a1.2.2.1 a0.2.2.2.2.1), a1.2.2.2), ())))))
 (some ((a0.1, a0.2.1, a0.2.2.1, a0.2.2.2.1, 0, false, a0.2.2.2.2.2.2), ((a1.1, a1.2.1, (Ud .i64 a1.2.2.1 a0.2.2.2.2.1), a1.2.2.2), ())))))
 (cond (a1.1 == 4)
 (cond (decide (0 ≤ a1.2.2.2.1))
 (some ((a0.1, a0.2.1, (Zl .i64 a0.2.2.1 (Ve .i64 1 a1.2.2.2.1)), a0.2.2.2), (a1, ())))
 none)
 (cond (a1.1 == 5)
 (cond (decide (0 ≤ a1.2.2.2.1))
 (some ((a0.1, a0.2.1, (Ej .i64 (Ve .i64 1 a1.2.2.2.1) 1), a0.2.2.2), (a1, ())))
 none)
 (cond (a1.1 == 8)
 (cond ((Zn .i64 a0.2.2.2.2.1 a1.2.2.1) == a1.2.2.1)
 (some ((a0.1, a0.2.1, a0.2.2.1, a0.2.2.2.1, (Ej .i64 a0.2.2.2.2.1 a1.2.2.1), a0.2.2.2.2.2), (a1, ())))
 (some ((a0.1, a0.2.1, a0.2.2.1, a0.2.2.2.1, (Ud .i64 a0.2.2.2.2.1 a1.2.2.1), a0.2.2.2.2.2), (a1, ()))))
 (cond (a1.1 == 10)
 (some ((a0.1, a0.2.1, a0.2.2.1, a0.2.2.2.1, a0.2.2.2.2.1, (!a0.2.2.2.2.2.1), a0.2.2.2.2.2.2), (a1, ())))
 (some (a0, (a1, ()))))))))
def Mj (t4 : Unit) (t5 : Unit) (t6 : Ee) (t15 : Rx) (t16 : Int) (t17 : Int) (b4 : Ga) (b5 : Ga) : Option (((Unit × (Unit × (Ee × ZH))) × LI) ⊕ BW) :=
 (cond (decide (t17 < t16))
 (ob (Cd t15 t17) fun x4 =>
 (cond (bl (ln t6 + ln ([x4.1] : List Int)) Cb)
 (some (.inl (((), (), (ap t6 ([x4.1] : List Int)), t15, t16, (wr .i64 (t17 + 1)), ()), (b4, ((Ud .i64 b5.1 x4.2.1), b5.2.1, ()), ()))))
 none))
 (some (.inr (.inl (((), (), t6, ()), (b4, b5, ()))))))
def Zk := Cc fun x : ((Unit × (Unit × (Ee × ZH))) × LI) => Mj x.1.1 x.1.2.1 x.1.2.2.1 x.1.2.2.2.1 x.1.2.2.2.2.1 x.1.2.2.2.2.2.1 x.2.1 x.2.2.1
def Kd (a0 : Ga) (a1 : Rx) : Option QA :=
 (ob (Bj a0.2.1) fun r1 =>
 (ob (Zk (((), (), r1.1, a1, ((ln a1 : Nat) : Int), 0, ()), ((0, [], ()), (a0.1, [], ()), ()))) (se (fun y5 => (ob (Vk y5.1.2.2.1) fun r7 =>
 (some ((y5.2.2.1.1, r7.1, ()), ())))) (fun z6 => none))))
def Jh (t5 : Unit) (t6 : Lh) (t7 : Rx) (t22 : Ov) (t23 : Int) (t24 : Int) (b5 : Ga) : Option (((Unit × (Lh × CI)) × QA) ⊕ AW) :=
 (cond (decide (t24 < t23))
 (ob (Cd t22 t24) fun x25 =>
 (cond (x25.1 == 0)
 (cond (bl (ln ([] : List Mb) + ln t7) Cb)
 (cond (bl (ln (ap [] t7) + ln ([x25.2] : List Mb)) Cb)
 (ob (Kd b5 (ap (ap [] t7) ([x25.2] : List Mb))) fun r26 =>
 (cond (bl (ln t6 + ln ([r26.1] : List Ga)) Cb)
 (ob (Kd b5 t7) fun r27 =>
 (cond (bl (ln (ap t6 ([r26.1] : List Ga)) + ln ([r27.1] : List Ga)) Cb)
 (some (.inl (((), (ap (ap t6 ([r26.1] : List Ga)) ([r27.1] : List Ga)), t7, t22, t23, (wr .i64 (t24 + 1)), ()), (b5, ()))))
 none))
 none))
 none)
 none)
 (cond (x25.1 == 1)
 (cond (bl (ln t7 + ln ([x25.2] : List Mb)) Cb)
 (ob (Kd b5 (ap t7 ([x25.2] : List Mb))) fun r28 =>
 (cond (bl (ln t6 + ln ([r28.1] : List Ga)) Cb)
 (some (.inl (((), (ap t6 ([r28.1] : List Ga)), (ap t7 ([x25.2] : List Mb)), t22, t23, (wr .i64 (t24 + 1)), ()), (b5, ()))))
 none))
 none)
 (cond (x25.1 == 2)
 (ob (Mp t7 x25.2) fun r29 =>
 (cond (Te (ln t7) 0 r29.1)
 (cond (Te (ln t7) (wr .i64 (r29.1 + 1)) ((ln t7 : Nat) : Int))
 (cond (bl (ln (Ob t7 (tn 0) (tn r29.1)) + ln (Ob t7 (tn (wr .i64 (r29.1 + 1))) (tn ((ln t7 : Nat) : Int)))) Cb)
 (ob (Kd b5 (ap (Ob t7 (tn 0) (tn r29.1)) (Ob t7 (tn (wr .i64 (r29.1 + 1))) (tn ((ln t7 : Nat) : Int))))) fun r30 =>
 (cond (bl (ln t6 + ln ([r30.1] : List Ga)) Cb)
 (some (.inl (((), (ap t6 ([r30.1] : List Ga)), (ap (Ob t7 (tn 0) (tn r29.1)) (Ob t7 (tn (wr .i64 (r29.1 + 1))) (tn ((ln t7 : Nat) : Int)))), t22, t23, (wr .i64 (t24 + 1)), ()), (b5, ()))))
 none))
 none)
 none)
 none))
 (ob (Kd b5 t7) fun r31 =>
 (cond (bl (ln t6 + ln ([r31.1] : List Ga)) Cb)
 (some (.inl (((), (ap t6 ([r31.1] : List Ga)), t7, t22, t23, (wr .i64 (t24 + 1)), ()), (b5, ()))))
 none))))))
 (some (.inr (.inl ((t6, ()), ())))))
def Oi := Cc fun x : ((Unit × (Lh × CI)) × QA) => Jh x.1.1 x.1.2.1 x.1.2.2.1 x.1.2.2.2.1 x.1.2.2.2.2.1 x.1.2.2.2.2.2.1 x.2.1
def Og (a0 : Mk) (a1 : Ov) : Option Qx :=
 (ob (Ch a0) fun r1 =>
 (cond (!r1.1)
 (some ([], ()))
 (ob (Eo a1) fun r2 =>
 (cond (!r2.1)
 (some ([], ()))
 (ob (Lb a0) fun r3 =>
 (ob (Oi (((), [], [], a1, ((ln a1 : Nat) : Int), 0, ()), (r3.1, ()))) (se (fun y32 => (some (y32.1.1, ()))) (fun z33 => none))))))))
def De (a0 : Wa) (a1 : Int) (a2 : Bool) : Option (Wa × Qx) :=
 (ob (Pf a0) fun r1 =>
 (ob (Sg a0.2.2.1 a0.2.2.2.1) fun r2 =>
 (ob (Xk a0.1 r2.1 a1) fun r3 =>
 (ob (Cd a0.1.2.1 r3.1) fun x4 =>
 (ob (Cd x4 a1) fun x5 =>
 (cond a2
 (ob (Qs x5) fun r6 =>
 (ob (Zh r1.1 r6.1) fun r7 =>
 (cond (bl (ln r7.1.2.2.2.1 + ln ([(a1, r7.2.1, ())] : List Ka)) Cb)
 (cond (r7.2.1.1 == 9)
 (cond (decide (r7.2.1.2.2.2.1 < ((ln a0.2.1 : Nat) : Int)))
 (ob (Cd a0.2.1 r7.2.1.2.2.2.1) fun x8 =>
 (ob (Og (ap r7.1.2.2.2.1 ([(a1, r7.2.1, ())] : List Ka)) x8) fun r9 =>
 (ob (Lb (ap r7.1.2.2.2.1 ([(a1, r7.2.1, ())] : List Ka))) fun r10 =>
 (cond (bl (ln r9.1 + ln ([r10.1] : List Ga)) Cb)
 (ob (Lb a0.2.2.2.1) fun r11 =>
 (ob (Wb r11.1 (ap r9.1 ([r10.1] : List Ga))) fun r12 =>
 (some ((r7.1.1, r7.1.2.1, r7.1.2.2.1, (ap r7.1.2.2.2.1 ([(a1, r7.2.1, ())] : List Ka)), r7.1.2.2.2.2), r12.1, ()))))
 none))))
 (ob (Lb (ap r7.1.2.2.2.1 ([(a1, r7.2.1, ())] : List Ka))) fun r13 =>
 (cond (bl (ln ([] : List Ga) + ln ([r13.1] : List Ga)) Cb)
 (ob (Lb a0.2.2.2.1) fun r14 =>
 (ob (Wb r14.1 (ap [] ([r13.1] : List Ga))) fun r15 =>
 (some ((r7.1.1, r7.1.2.1, r7.1.2.2.1, (ap r7.1.2.2.2.1 ([(a1, r7.2.1, ())] : List Ka)), r7.1.2.2.2.2), r15.1, ()))))
 none)))
 (ob (Lb (ap r7.1.2.2.2.1 ([(a1, r7.2.1, ())] : List Ka))) fun r16 =>
 (cond (bl (ln ([] : List Ga) + ln ([r16.1] : List Ga)) Cb)
 (ob (Lb a0.2.2.2.1) fun r17 =>
 (ob (Wb r17.1 (ap [] ([r16.1] : List Ga))) fun r18 =>
 (some ((r7.1.1, r7.1.2.1, r7.1.2.2.1, (ap r7.1.2.2.2.1 ([(a1, r7.2.1, ())] : List Ka)), r7.1.2.2.2.2), r18.1, ()))))
 none)))
 none)))
 (ob (Gu x5) fun r19 =>
 (ob (Zh r1.1 r19.1) fun r20 =>
 (cond (bl (ln r20.1.2.2.2.1 + ln ([(a1, r20.2.1, ())] : List Ka)) Cb)
 (cond (r20.2.1.1 == 9)
 (cond (decide (r20.2.1.2.2.2.1 < ((ln a0.2.1 : Nat) : Int)))
 (ob (Cd a0.2.1 r20.2.1.2.2.2.1) fun x21 =>
 (ob (Og (ap r20.1.2.2.2.1 ([(a1, r20.2.1, ())] : List Ka)) x21) fun r22 =>
 (ob (Lb (ap r20.1.2.2.2.1 ([(a1, r20.2.1, ())] : List Ka))) fun r23 =>
 (cond (bl (ln r22.1 + ln ([r23.1] : List Ga)) Cb)
 (ob (Lb a0.2.2.2.1) fun r24 =>
 (ob (Wb r24.1 (ap r22.1 ([r23.1] : List Ga))) fun r25 =>
 (some ((r20.1.1, r20.1.2.1, r20.1.2.2.1, (ap r20.1.2.2.2.1 ([(a1, r20.2.1, ())] : List Ka)), r20.1.2.2.2.2), r25.1, ()))))
 none))))
 (ob (Lb (ap r20.1.2.2.2.1 ([(a1, r20.2.1, ())] : List Ka))) fun r26 =>
 (cond (bl (ln ([] : List Ga) + ln ([r26.1] : List Ga)) Cb)
 (ob (Lb a0.2.2.2.1) fun r27 =>
 (ob (Wb r27.1 (ap [] ([r26.1] : List Ga))) fun r28 =>
 (some ((r20.1.1, r20.1.2.1, r20.1.2.2.1, (ap r20.1.2.2.2.1 ([(a1, r20.2.1, ())] : List Ka)), r20.1.2.2.2.2), r28.1, ()))))
 none)))
 (ob (Lb (ap r20.1.2.2.2.1 ([(a1, r20.2.1, ())] : List Ka))) fun r29 =>
 (cond (bl (ln ([] : List Ga) + ln ([r29.1] : List Ga)) Cb)
 (ob (Lb a0.2.2.2.1) fun r30 =>
 (ob (Wb r30.1 (ap [] ([r29.1] : List Ga))) fun r31 =>
 (some ((r20.1.1, r20.1.2.1, r20.1.2.2.1, (ap r20.1.2.2.2.1 ([(a1, r20.2.1, ())] : List Ka)), r20.1.2.2.2.2), r31.1, ()))))
 none)))
 none)))))))))
def Hf (a0 : Nb) : Option (Nb × (Lh × Ye)) :=
 (cond (Vi (ln a0.2.2.1) 0)
 (ob a0.2.2.1[(tn 0)]? fun x1 =>
 (cond (Te (ln a0.2.2.1) 1 ((ln a0.2.2.1 : Nat) : Int))
 (cond (!x1.2.2.1)
 (cond (a0.2.2.2.2.2.1 == (wr .i64 (x1.2.1 + 1)))
 (ob (Gh a0.1 x1.2.1) fun r2 =>
 (cond (bl (ln ([] : List Ra) + ln (Ob a0.2.2.1 (tn 1) (tn ((ln a0.2.2.1 : Nat) : Int)))) Cb)
 (some ((r2.1, a0.2.1, (ap [] (Ob a0.2.2.1 (tn 1) (tn ((ln a0.2.2.1 : Nat) : Int)))), a0.2.2.2.1, (max a0.2.2.2.2.1 x1.1), a0.2.2.2.2.2.1, x1.1, a0.2.2.2.2.2.2.2), (r2.2.1, true, ())))
 none))
 (ob (Gh a0.1 x1.2.1) fun r3 =>
 (cond (bl (ln ([] : List Ra) + ln (Ob a0.2.2.1 (tn 1) (tn ((ln a0.2.2.1 : Nat) : Int)))) Cb)
 (some ((r3.1, a0.2.1, (ap [] (Ob a0.2.2.1 (tn 1) (tn ((ln a0.2.2.1 : Nat) : Int)))), a0.2.2.2.1, (max a0.2.2.2.2.1 x1.1), a0.2.2.2.2.2), (r3.2.1, true, ())))
 none)))
 (ob (Sg a0.1.2.2.1 a0.1.2.2.2.1) fun r4 =>
 (ob (Wp a0.1.1 r4.1 x1.2.1) fun r5 =>
 (ob (Fi r5.1) fun r6 =>
 (cond r6.1
 (cond (a0.2.2.2.2.2.1 != (wr .i64 (x1.2.1 + 1)))
 (ob (Lm a0.2.1 x1.2.1 x1.1 (Ob a0.2.2.1 (tn 1) (tn ((ln a0.2.2.1 : Nat) : Int))) a0.2.2.2.1) fun r7 =>
 (cond (r7.1 == 0)
 (some (a0, ([], false, ())))
 (cond (r7.1 == 1)
 (ob (De a0.1 x1.2.1 false) fun r8 =>
 (cond (bl (ln ([] : List Ra) + ln (Ob a0.2.2.1 (tn 1) (tn ((ln a0.2.2.1 : Nat) : Int)))) Cb)
 (some ((r8.1, a0.2.1, (ap [] (Ob a0.2.2.1 (tn 1) (tn ((ln a0.2.2.1 : Nat) : Int)))), a0.2.2.2.1, (max (max a0.2.2.2.2.1 x1.1) r7.2.1), (wr .i64 (x1.2.1 + 1)), x1.1, a0.2.2.2.2.2.2.2), (r8.2.1, true, ())))
 none))
 (cond (r7.1 == 2)
 (ob (De a0.1 x1.2.1 true) fun r9 =>
 (cond (bl (ln ([] : List Ra) + ln (Ob a0.2.2.1 (tn 1) (tn ((ln a0.2.2.1 : Nat) : Int)))) Cb)
 (some ((r9.1, a0.2.1, (ap [] (Ob a0.2.2.1 (tn 1) (tn ((ln a0.2.2.1 : Nat) : Int)))), a0.2.2.2.1, (max (max a0.2.2.2.2.1 x1.1) r7.2.1), 0, a0.2.2.2.2.2.2), (r9.2.1, true, ())))
 none))
 (ob (De a0.1 x1.2.1 false) fun r10 =>
 (cond (bl (ln ([] : List Ra) + ln (Ob a0.2.2.1 (tn 1) (tn ((ln a0.2.2.1 : Nat) : Int)))) Cb)
 (some ((r10.1, a0.2.1, (ap [] (Ob a0.2.2.1 (tn 1) (tn ((ln a0.2.2.1 : Nat) : Int)))), a0.2.2.2.1, (max (max a0.2.2.2.2.1 x1.1) r7.2.1), a0.2.2.2.2.2), (r10.2.1, true, ())))
 none))))))
 (cond (decide ((wr .i64 (x1.1 - a0.2.2.2.2.2.2.1)) ≥ a0.2.1.2.1))
 (ob (Lm a0.2.1 x1.2.1 x1.1 (Ob a0.2.2.1 (tn 1) (tn ((ln a0.2.2.1 : Nat) : Int))) a0.2.2.2.1) fun r11 =>
 (cond (r11.1 == 0)
 (some (a0, ([], false, ())))
 (cond (r11.1 == 1)
 (ob (De a0.1 x1.2.1 false) fun r12 =>
 (cond (bl (ln ([] : List Ra) + ln (Ob a0.2.2.1 (tn 1) (tn ((ln a0.2.2.1 : Nat) : Int)))) Cb)
 (some ((r12.1, a0.2.1, (ap [] (Ob a0.2.2.1 (tn 1) (tn ((ln a0.2.2.1 : Nat) : Int)))), a0.2.2.2.1, (max (max a0.2.2.2.2.1 x1.1) r11.2.1), (wr .i64 (x1.2.1 + 1)), x1.1, a0.2.2.2.2.2.2.2), (r12.2.1, true, ())))
 none))
 (cond (r11.1 == 2)
 (ob (De a0.1 x1.2.1 true) fun r13 =>
 (cond (bl (ln ([] : List Ra) + ln (Ob a0.2.2.1 (tn 1) (tn ((ln a0.2.2.1 : Nat) : Int)))) Cb)
 (some ((r13.1, a0.2.1, (ap [] (Ob a0.2.2.1 (tn 1) (tn ((ln a0.2.2.1 : Nat) : Int)))), a0.2.2.2.1, (max (max a0.2.2.2.2.1 x1.1) r11.2.1), 0, a0.2.2.2.2.2.2), (r13.2.1, true, ())))
 none))
 (ob (De a0.1 x1.2.1 false) fun r14 =>
 (cond (bl (ln ([] : List Ra) + ln (Ob a0.2.2.1 (tn 1) (tn ((ln a0.2.2.1 : Nat) : Int)))) Cb)
 (some ((r14.1, a0.2.1, (ap [] (Ob a0.2.2.1 (tn 1) (tn ((ln a0.2.2.1 : Nat) : Int)))), a0.2.2.2.1, (max (max a0.2.2.2.2.1 x1.1) r11.2.1), a0.2.2.2.2.2), (r14.2.1, true, ())))
 none))))))
 (cond ((1 : Int) == 0)
 (some (a0, ([], false, ())))
 (cond ((1 : Int) == 1)
 (ob (De a0.1 x1.2.1 false) fun r15 =>
 (cond (bl (ln ([] : List Ra) + ln (Ob a0.2.2.1 (tn 1) (tn ((ln a0.2.2.1 : Nat) : Int)))) Cb)
 (some ((r15.1, a0.2.1, (ap [] (Ob a0.2.2.1 (tn 1) (tn ((ln a0.2.2.1 : Nat) : Int)))), a0.2.2.2.1, (max (max a0.2.2.2.2.1 x1.1) x1.1), (wr .i64 (x1.2.1 + 1)), x1.1, a0.2.2.2.2.2.2.2), (r15.2.1, true, ())))
 none))
 (cond ((1 : Int) == 2)
 (ob (De a0.1 x1.2.1 true) fun r16 =>
 (cond (bl (ln ([] : List Ra) + ln (Ob a0.2.2.1 (tn 1) (tn ((ln a0.2.2.1 : Nat) : Int)))) Cb)
 (some ((r16.1, a0.2.1, (ap [] (Ob a0.2.2.1 (tn 1) (tn ((ln a0.2.2.1 : Nat) : Int)))), a0.2.2.2.1, (max (max a0.2.2.2.2.1 x1.1) x1.1), 0, a0.2.2.2.2.2.2), (r16.2.1, true, ())))
 none))
 (ob (De a0.1 x1.2.1 false) fun r17 =>
 (cond (bl (ln ([] : List Ra) + ln (Ob a0.2.2.1 (tn 1) (tn ((ln a0.2.2.1 : Nat) : Int)))) Cb)
 (some ((r17.1, a0.2.1, (ap [] (Ob a0.2.2.1 (tn 1) (tn ((ln a0.2.2.1 : Nat) : Int)))), a0.2.2.2.1, (max (max a0.2.2.2.2.1 x1.1) x1.1), a0.2.2.2.2.2), (r17.2.1, true, ())))
 none)))))))
 (ob (De a0.1 x1.2.1 false) fun r18 =>
 (cond (bl (ln ([] : List Ra) + ln (Ob a0.2.2.1 (tn 1) (tn ((ln a0.2.2.1 : Nat) : Int)))) Cb)
 (some ((r18.1, a0.2.1, (ap [] (Ob a0.2.2.1 (tn 1) (tn ((ln a0.2.2.1 : Nat) : Int)))), a0.2.2.2.1, (max a0.2.2.2.2.1 x1.1), a0.2.2.2.2.2), (r18.2.1, true, ())))
 none)))))))
 none))
 none)
def Yp (t0 : Qo) (t1 : Int) (t9 : (Lh × Int)) (t10 : Int) (t11 : Int) : Option (((Qo × (Int × ((Lh × Int) × Mb))) × Unit) ⊕ (((Qo × Unit) × Unit) ⊕ Lk)) :=
 (cond (decide (t11 < t10))
 (cond (Vi (ln t9.1) t11)
 (cond (Nat.beq (tn t11) (tn t9.2))
 (ob t9.1[(tn t11)]? fun x4 =>
 (cond (bl (ln t0 + ln ([(t1, x4, ())] : List Dg)) Cb)
 (some (.inl (((ap t0 ([(t1, x4, ())] : List Dg)), t1, (t9.1, ((((tn t11) + 1) : Nat) : Int)), t10, (wr .i64 (t11 + 1)), ()), ())))
 none))
 none)
 none)
 (some (.inr (.inl ((t0, ()), ())))))
def Iq := Cc fun x : ((Qo × (Int × ((Lh × Int) × Mb))) × Unit) => Yp x.1.1 x.1.2.1 x.1.2.2.1 x.1.2.2.2.1 x.1.2.2.2.2.1
def It (a0 : Qo) (a1 : Int) (a2 : Lh) : Option (Qo × Unit) :=
 (ob (Iq ((a0, a1, (a2, 0), ((ln a2 : Nat) : Int), 0, ()), ())) (se (fun y5 => (some (y5.1.1, ()))) (fun z6 => none)))
def Ue (t6 : Unit) (t9 : Unit) (t10 : Qo) (b6 : Nb) (b9 : Nb) : Option (CN ⊕ (CN ⊕ Lk)) :=
 (cond (decide (((ln b9.2.2.1 : Nat) : Int) > 0))
 (ob (Hf b9) fun r25 =>
 (cond (!r25.2.2.1)
 (some (.inr (.inl (((), (), t10, ()), (b6, r25.1, ())))))
 (ob (It t10 r25.1.2.2.2.2.1 r25.2.1) fun r26 =>
 (some (.inl (((), (), r26.1, ()), (b6, r25.1, ())))))))
 (some (.inr (.inl (((), (), t10, ()), (b6, b9, ()))))))
def Xd := Cc fun x : CN => Ue x.1.1 x.1.2.1 x.1.2.2.1 x.2.1 x.2.2.1
def Gj (a0 : Nb) (a1 : Qh) (a2 : Int) : Option U2 :=
 (ob (Ei a0) fun r1 =>
 (cond (!r1.1)
 (some (Ig, [], false, ()))
 (cond (decide (a2 < a0.2.2.2.1))
 (some (Ig, [], false, ()))
 (cond (decide (a2 > 1000000))
 (some (Ig, [], false, ()))
 (cond (decide (((ln a1 : Nat) : Int) > 0))
 (ob (Cd a1 0) fun x2 =>
 (cond (decide (x2.1 < a0.2.2.2.1))
 (some (Ig, [], false, ()))
 (ob (Gi a1 a2) fun r3 =>
 (cond (!r3.1)
 (some (Ig, [], false, ()))
 (ob (Pi a0) fun r4 =>
 (cond (bl (ln r4.1.2.2.1 + ln a1) Cb)
 (ob (Cj a0.1.2.2.2.1) fun r5 =>
 (ob (Hi (ap r4.1.2.2.1 a1) r5.1 a0.1.1.1) fun r6 =>
 (cond (!r6.1)
 (some (Ig, [], false, ()))
 (ob (Xd (((), (), [], ()), (Ig, (r4.1.1, r4.1.2.1, (ap r4.1.2.2.1 a1), a2, r4.1.2.2.2.2), ()))) (se (fun y15 => (some (y15.2.2.1, y15.1.2.2.1, true, ()))) (fun z16 => none))))))
 none))))))
 (ob (Gi a1 a2) fun r17 =>
 (cond (!r17.1)
 (some (Ig, [], false, ()))
 (ob (Pi a0) fun r18 =>
 (cond (bl (ln r18.1.2.2.1 + ln a1) Cb)
 (ob (Cj a0.1.2.2.2.1) fun r19 =>
 (ob (Hi (ap r18.1.2.2.1 a1) r19.1 a0.1.1.1) fun r20 =>
 (cond (!r20.1)
 (some (Ig, [], false, ()))
 (ob (Xd (((), (), [], ()), (Ig, (r18.1.1, r18.1.2.1, (ap r18.1.2.2.1 a1), a2, r18.1.2.2.2.2), ()))) (se (fun y27 => (some (y27.2.2.1, y27.1.2.2.1, true, ()))) (fun z28 => none))))))
 none)))))))))
def Ws (a0 : Hb) (a1 : Int) : Option (Hb × ND) :=
 (ob (Xa a0 56) fun r1 =>
 (ob (Xa r1.1 15) fun r2 =>
 (ob (Um r2.1 2) fun r3 =>
 (cond r3.2.1
 (ob (Xa r3.1 (max 1 (wr .i64 (a1 - 1)))) fun r4 =>
 (ob (Xa r4.1 16) fun r5 =>
 (cond (r5.2.1 == 0)
 (some (r5.1, ((2, (wr .i64 (1 + r1.2.1)), 2, 0, ()), ())))
 (cond (r5.2.1 == 1)
 (some (r5.1, ((2, 0, 2, 0, ()), ())))
 (cond (r5.2.1 == 2)
 (some (r5.1, ((6, (wr .i64 (1 + r1.2.1)), 2, 0, ()), ())))
 (cond (r5.2.1 == 3)
 (some (r5.1, ((6, (wr .i64 (1 + r1.2.1)), 2, 0, ()), ())))
 (cond (r5.2.1 == 4)
 (some (r5.1, ((8, 0, 2, 0, ()), ())))
 (cond (r5.2.1 == 5)
 (ob (Xa r5.1 4) fun r6 =>
 (some (r6.1, ((9, 0, 0, r6.2.1, ()), ()))))
 (cond (r5.2.1 == 6)
 (some (r5.1, ((10, 0, 0, 0, ()), ())))
 (cond (r5.2.1 == 7)
 (ob (Xa r5.1 (max 1 a1)) fun r7 =>
 (some (r7.1, ((5, 0, 0, r7.2.1, ()), ()))))
 (cond (r5.2.1 == 8)
 (cond (decide (a1 > 1))
 (ob (Xa r5.1 3) fun r8 =>
 (cond (Vi (ln ([(3, 0, 0, (wr .i64 (1 + r4.2.1)), ()), (4, 0, 0, (wr .i64 (1 + r4.2.1)), ()), (7, (wr .i64 (1 + r1.2.1)), 0, (wr .i64 (1 + r4.2.1)), ())] : List Ia)) r8.2.1)
 (ob ([(3, 0, 0, (wr .i64 (1 + r4.2.1)), ()), (4, 0, 0, (wr .i64 (1 + r4.2.1)), ()), (7, (wr .i64 (1 + r1.2.1)), 0, (wr .i64 (1 + r4.2.1)), ())] : List Ia)[(tn r8.2.1)]? fun x9 =>
 (some (r8.1, (x9, ()))))
 none))
 (some (r5.1, ((2, (wr .i64 (1 + r1.2.1)), 0, 0, ()), ()))))
 (cond (r5.2.1 == 9)
 (cond (decide (a1 > 1))
 (ob (Xa r5.1 3) fun r10 =>
 (cond (Vi (ln ([(3, 0, 0, (wr .i64 (1 + r4.2.1)), ()), (4, 0, 0, (wr .i64 (1 + r4.2.1)), ()), (7, (wr .i64 (1 + r1.2.1)), 0, (wr .i64 (1 + r4.2.1)), ())] : List Ia)) r10.2.1)
 (ob ([(3, 0, 0, (wr .i64 (1 + r4.2.1)), ()), (4, 0, 0, (wr .i64 (1 + r4.2.1)), ()), (7, (wr .i64 (1 + r1.2.1)), 0, (wr .i64 (1 + r4.2.1)), ())] : List Ia)[(tn r10.2.1)]? fun x11 =>
 (some (r10.1, (x11, ()))))
 none))
 (some (r5.1, ((2, (wr .i64 (1 + r1.2.1)), 0, 0, ()), ()))))
 (cond (r5.2.1 == 10)
 (cond (decide (a1 > 1))
 (ob (Xa r5.1 3) fun r12 =>
 (cond (Vi (ln ([(3, 0, 0, (wr .i64 (1 + r4.2.1)), ()), (4, 0, 0, (wr .i64 (1 + r4.2.1)), ()), (7, (wr .i64 (1 + r1.2.1)), 0, (wr .i64 (1 + r4.2.1)), ())] : List Ia)) r12.2.1)
 (ob ([(3, 0, 0, (wr .i64 (1 + r4.2.1)), ()), (4, 0, 0, (wr .i64 (1 + r4.2.1)), ()), (7, (wr .i64 (1 + r1.2.1)), 0, (wr .i64 (1 + r4.2.1)), ())] : List Ia)[(tn r12.2.1)]? fun x13 =>
 (some (r12.1, (x13, ()))))
 none))
 (some (r5.1, ((2, (wr .i64 (1 + r1.2.1)), 0, 0, ()), ()))))
 (some (r5.1, ((2, (wr .i64 (1 + r1.2.1)), 0, 0, ()), ()))))))))))))))))
 (ob (Xa r3.1 (max 1 (wr .i64 (a1 - 1)))) fun r14 =>
 (ob (Xa r14.1 16) fun r15 =>
 (cond (r15.2.1 == 0)
 (some (r15.1, ((2, (wr .i64 (1 + r1.2.1)), (wr .i64 (1 + r2.2.1)), 0, ()), ())))
 (cond (r15.2.1 == 1)
 (some (r15.1, ((2, 0, (wr .i64 (1 + r2.2.1)), 0, ()), ())))
 (cond (r15.2.1 == 2)
 (some (r15.1, ((6, (wr .i64 (1 + r1.2.1)), (wr .i64 (1 + r2.2.1)), 0, ()), ())))
 (cond (r15.2.1 == 3)
 (some (r15.1, ((6, (wr .i64 (1 + r1.2.1)), (wr .i64 (1 + r2.2.1)), 0, ()), ())))
 (cond (r15.2.1 == 4)
 (some (r15.1, ((8, 0, (wr .i64 (1 + r2.2.1)), 0, ()), ())))
 (cond (r15.2.1 == 5)
 (ob (Xa r15.1 4) fun r16 =>
 (some (r16.1, ((9, 0, 0, r16.2.1, ()), ()))))
 (cond (r15.2.1 == 6)
 (some (r15.1, ((10, 0, 0, 0, ()), ())))
 (cond (r15.2.1 == 7)
 (ob (Xa r15.1 (max 1 a1)) fun r17 =>
 (some (r17.1, ((5, 0, 0, r17.2.1, ()), ()))))
 (cond (r15.2.1 == 8)
 (cond (decide (a1 > 1))
 (ob (Xa r15.1 3) fun r18 =>
 (cond (Vi (ln ([(3, 0, 0, (wr .i64 (1 + r14.2.1)), ()), (4, 0, 0, (wr .i64 (1 + r14.2.1)), ()), (7, (wr .i64 (1 + r1.2.1)), 0, (wr .i64 (1 + r14.2.1)), ())] : List Ia)) r18.2.1)
 (ob ([(3, 0, 0, (wr .i64 (1 + r14.2.1)), ()), (4, 0, 0, (wr .i64 (1 + r14.2.1)), ()), (7, (wr .i64 (1 + r1.2.1)), 0, (wr .i64 (1 + r14.2.1)), ())] : List Ia)[(tn r18.2.1)]? fun x19 =>
 (some (r18.1, (x19, ()))))
 none))
 (some (r15.1, ((2, (wr .i64 (1 + r1.2.1)), 0, 0, ()), ()))))
 (cond (r15.2.1 == 9)
 (cond (decide (a1 > 1))
 (ob (Xa r15.1 3) fun r20 =>
 (cond (Vi (ln ([(3, 0, 0, (wr .i64 (1 + r14.2.1)), ()), (4, 0, 0, (wr .i64 (1 + r14.2.1)), ()), (7, (wr .i64 (1 + r1.2.1)), 0, (wr .i64 (1 + r14.2.1)), ())] : List Ia)) r20.2.1)
 (ob ([(3, 0, 0, (wr .i64 (1 + r14.2.1)), ()), (4, 0, 0, (wr .i64 (1 + r14.2.1)), ()), (7, (wr .i64 (1 + r1.2.1)), 0, (wr .i64 (1 + r14.2.1)), ())] : List Ia)[(tn r20.2.1)]? fun x21 =>
 (some (r20.1, (x21, ()))))
 none))
 (some (r15.1, ((2, (wr .i64 (1 + r1.2.1)), 0, 0, ()), ()))))
 (cond (r15.2.1 == 10)
 (cond (decide (a1 > 1))
 (ob (Xa r15.1 3) fun r22 =>
 (cond (Vi (ln ([(3, 0, 0, (wr .i64 (1 + r14.2.1)), ()), (4, 0, 0, (wr .i64 (1 + r14.2.1)), ()), (7, (wr .i64 (1 + r1.2.1)), 0, (wr .i64 (1 + r14.2.1)), ())] : List Ia)) r22.2.1)
 (ob ([(3, 0, 0, (wr .i64 (1 + r14.2.1)), ()), (4, 0, 0, (wr .i64 (1 + r14.2.1)), ()), (7, (wr .i64 (1 + r1.2.1)), 0, (wr .i64 (1 + r14.2.1)), ())] : List Ia)[(tn r22.2.1)]? fun x23 =>
 (some (r22.1, (x23, ()))))
 none))
 (some (r15.1, ((2, (wr .i64 (1 + r1.2.1)), 0, 0, ()), ()))))
 (some (r15.1, ((2, (wr .i64 (1 + r1.2.1)), 0, 0, ()), ()))))))))))))))))))))
def Jr (t0 : Unit) (t1 : Int) (t4 : Unit) (t5 : Int) (t6 : Unit) (t7 : Int) (t8 : Dn) (t9 : Int) (b500000 : Hb) (b4 : Na) (b6 : Na) : Option (CW ⊕ (((Unit × (Int × (Unit × (Int × (Unit × (Int × (Dn × Unit))))))) × Rv) ⊕ Lk)) :=
 (cond (decide (t9 < t1))
 (ob (Ws b500000 t5) fun r30 =>
 (cond (decide (t7 > 0))
 (ob (Um r30.1 3) fun r31 =>
 (cond r31.2.1
 (cond (bl (ln t8 + ln ([(1, 0, 0, 0, ())] : List Ia)) Cb)
 (some (.inl (((), t1, (), t5, (), t7, (ap t8 ([(1, 0, 0, 0, ())] : List Ia)), (wr .i64 (t9 + 1)), ()), (r31.1, b4, b6, ()))))
 none)
 (cond (bl (ln t8 + ln ([r30.2.1] : List Ia)) Cb)
 (some (.inl (((), t1, (), t5, (), t7, (ap t8 ([r30.2.1] : List Ia)), (wr .i64 (t9 + 1)), ()), (r31.1, b4, b6, ()))))
 none)))
 (cond (bl (ln t8 + ln ([r30.2.1] : List Ia)) Cb)
 (some (.inl (((), t1, (), t5, (), t7, (ap t8 ([r30.2.1] : List Ia)), (wr .i64 (t9 + 1)), ()), (r30.1, b4, b6, ()))))
 none)))
 (some (.inr (.inl (((), t1, (), t5, (), t7, t8, ()), (b500000, b4, b6, ()))))))
def Oo := Cc fun x : CW => Jr x.1.1 x.1.2.1 x.1.2.2.1 x.1.2.2.2.1 x.1.2.2.2.2.1 x.1.2.2.2.2.2.1 x.1.2.2.2.2.2.2.1 x.1.2.2.2.2.2.2.2.1 x.2.1 x.2.2.1 x.2.2.2.1
def Ir (t0 : Unit) (t1 : Int) (t4 : Unit) (t5 : Int) (t6 : Unit) (t7 : Int) (b500000 : Hb) (b4 : Na) (b6 : Na) : Option (((Unit × (Int × (Unit × BN))) × Rv) ⊕ ((DW × Rv) ⊕ Lk)) :=
 (cond (decide (t7 < t5))
 (ob (Oo (((), t1, (), t5, (), t7, [], 0, ()), (b500000, b4, b6, ()))) (se (fun y32 => (cond (bl (ln y32.2.2.2.1.2.1 + ln ([y32.1.2.2.2.2.2.2.1] : List Dn)) Cb)
 (some (.inl (((), y32.1.2.1, (), y32.1.2.2.2.1, (), (wr .i64 (y32.1.2.2.2.2.2.1 + 1)), ()), (y32.2.1, y32.2.2.1, (y32.2.2.2.1.1, (ap y32.2.2.2.1.2.1 ([y32.1.2.2.2.2.2.2.1] : List Dn)), ()), ()))))
 none)) (fun z33 => (some (.inr (.inr ((), ())))))))
 (some (.inr (.inl (((), (), (), ()), (b500000, b4, b6, ()))))))
def No := Cc fun x : ((Unit × (Int × (Unit × BN))) × Rv) => Ir x.1.1 x.1.2.1 x.1.2.2.1 x.1.2.2.2.1 x.1.2.2.2.2.1 x.1.2.2.2.2.2.1 x.2.1 x.2.2.1 x.2.2.2.1
def Xs (a0 : Hb) (a1 : Int) : Option (Hb × Tu) :=
 (ob (Xa a0 4) fun r1 =>
 (ob (No (((), a1, (), (wr .i64 (1 + r1.2.1)), (), 0, ()), (r1.1, (0, [], ()), (a1, [], ()), ()))) (se (fun y34 => (some (y34.2.1, (y34.2.2.2.1, ())))) (fun z35 => none))))
def Lq (t0 : Unit) (t1 : Int) (t4 : Unit) (t5 : Unit) (t6 : Int) (b500000 : Hb) (b4 : Na) (b5 : Na) : Option (((Unit × (Int × MD)) × Rv) ⊕ ((DW × Rv) ⊕ Lk)) :=
 (cond (decide (t6 > 0))
 (ob (Xa b500000 ((ln b5.2.1 : Nat) : Int)) fun r15 =>
 (ob (Xa r15.1 t1) fun r16 =>
 (cond (decide (((ln b5.2.1 : Nat) : Int) > 1))
 (cond (Vi (ln b5.2.1) r15.2.1)
 (ob b5.2.1[(tn r15.2.1)]? fun x17 =>
 (ob (Dl r16.1 ([4, 5, 3] : List Int)) fun r18 =>
 (ob (Xa r18.1 (wr .i64 (((ln b5.2.1 : Nat) : Int) - 1))) fun r19 =>
 (cond (Vi (ln x17) r16.2.1)
 (ob x17[(tn r16.2.1)]? fun x20 =>
 (some (.inl (((), t1, (), (), (wr .i64 (t6 - 1)), ()), (r19.1, b4, (b5.1, (ls b5.2.1 (tn r15.2.1) (ls x17 (tn r16.2.1) (r18.2.1, 0, 0, (wr .i64 (1 + r19.2.1)), ()))), ()), ())))))
 none))))
 none)
 (some (.inl (((), t1, (), (), (wr .i64 (t6 - 1)), ()), (r16.1, b4, b5, ())))))))
 (some (.inr (.inl (((), (), (), ()), (b500000, b4, b5, ()))))))
def Cn := Cc fun x : ((Unit × (Int × MD)) × Rv) => Lq x.1.1 x.1.2.1 x.1.2.2.1 x.1.2.2.2.1 x.1.2.2.2.2.1 x.2.1 x.2.2.1 x.2.2.2.1
def Hr (a0 : Hb) (a1 : Int) : Option (Hb × Tu) :=
 (ob (Xs a0 a1) fun r1 =>
 (ob (Xa r1.1 6) fun r2 =>
 (ob (Cn (((), a1, (), (), r2.2.1, ()), (r2.1, (0, [], ()), r1.2.1, ()))) (se (fun y21 => (some (y21.2.1, (y21.2.2.2.1, ())))) (fun z22 => none)))))
def Xq (a0 : Wa) (a1 : Int) (a2 : Bool) : Option ZV :=
 (ob (Rg a0) fun r1 =>
 (cond (!r1.1)
 (some (Hl, [], false, ()))
 (cond (decide (a1 < 0))
 (some (Hl, [], false, ()))
 (cond (decide (a1 ≥ a0.1.1))
 (some (Hl, [], false, ()))
 (ob (Lp a0 a1) fun r2 =>
 (cond (decide (r2.1 ≥ 0))
 (some (Hl, [], false, ()))
 (ob (De a0 a1 a2) fun r3 =>
 (some (r3.1, r3.2.1, true, ())))))))))
def Tl (t4 : Unit) (t7 : Unit) (t8 : Lh) (t20 : Ee) (t21 : Int) (t22 : Int) (b4 : Wa) (b7 : Wa) : Option (((Unit × (Unit × (Lh × OA))) × AN) ⊕ (((Unit × (Unit × Qx)) × AN) ⊕ ((Unit × (Lh × Ye)) × Du))) :=
 (cond (decide (t22 < t21))
 (ob (Cd t20 t22) fun x12 =>
 (ob (Xq b7 x12 false) fun r13 =>
 (cond (!r13.2.2.1)
 (some (.inr (.inr (((), [], false, ()), (Hl, ())))))
 (cond (bl (ln t8 + ln r13.2.1) Cb)
 (ob (Gh r13.1 x12) fun r14 =>
 (cond (bl (ln (ap t8 r13.2.1) + ln r14.2.1) Cb)
 (some (.inl (((), (), (ap (ap t8 r13.2.1) r14.2.1), t20, t21, (wr .i64 (t22 + 1)), ()), (b4, r14.1, ()))))
 none))
 none))))
 (some (.inr (.inl (((), (), t8, ()), (b4, b7, ()))))))
def Zm := Cc fun x : ((Unit × (Unit × (Lh × OA))) × AN) => Tl x.1.1 x.1.2.1 x.1.2.2.1 x.1.2.2.2.1 x.1.2.2.2.2.1 x.1.2.2.2.2.2.1 x.2.1 x.2.2.1
def Fo (a0 : Wa) (a1 : Ee) : Option ZV :=
 (ob (Rg a0) fun r1 =>
 (cond (!r1.1)
 (some (Hl, [], false, ()))
 (ob (Pf a0) fun r2 =>
 (ob (Zm (((), (), [], a1, ((ln a1 : Nat) : Int), 0, ()), (Hl, r2.1, ()))) (se (fun y15 => (some (y15.2.2.1, y15.1.2.2.1, true, ()))) (fun z16 => (some (z16.2.1, z16.1.2.1, z16.1.2.2.1, ()))))))))
def Ik (t0 : Ee) (t1 : Ee) (t5 : Int) : Option (((Ee × BI) × Unit) ⊕ Qv) :=
 (cond (decide (t5 < ((ln t0 : Nat) : Int)))
 (ob (Cd t0 t5) fun x5 =>
 (ob (Cd t1 t5) fun x6 =>
 (cond (x5 != x6)
 (some (.inr (.inr ((false, ()), ()))))
 (some (.inl ((t0, t1, (wr .i64 (t5 + 1)), ()), ()))))))
 (some (.inr (.inl ((), ())))))
def Bm := Cc fun x : ((Ee × BI) × Unit) => Ik x.1.1 x.1.2.1 x.1.2.2.1
def Aq (a0 : Ee) (a1 : Ee) : Option Ye :=
 (cond (((ln a0 : Nat) : Int) != ((ln a1 : Nat) : Int))
 (some (false, ()))
 (ob (Bm ((a0, a1, 0, ()), ())) (se (fun y7 => (some (true, ()))) (fun z8 => (some (z8.1.1, ()))))))
def Vh (t0 : Lh) (t1 : Lh) (t5 : Int) : Option (((Lh × (Lh × Xi)) × Unit) ⊕ Qv) :=
 (cond (decide (t5 < ((ln t0 : Nat) : Int)))
 (ob (Cd t0 t5) fun x11 =>
 (ob (Cd t1 t5) fun x12 =>
 (cond (x11.1 != x12.1)
 (some (.inr (.inr ((false, ()), ()))))
 (ob (Cd t0 t5) fun x13 =>
 (ob (Cd t1 t5) fun x14 =>
 (ob (Aq x13.2.1 x14.2.1) fun r15 =>
 (cond (!r15.1)
 (some (.inr (.inr ((false, ()), ()))))
 (some (.inl ((t0, t1, (wr .i64 (t5 + 1)), ()), ()))))))))))
 (some (.inr (.inl ((), ())))))
def Yi := Cc fun x : ((Lh × (Lh × Xi)) × Unit) => Vh x.1.1 x.1.2.1 x.1.2.2.1
def Em (a0 : Lh) (a1 : Lh) : Option Ye :=
 (cond (((ln a0 : Nat) : Int) != ((ln a1 : Nat) : Int))
 (some (false, ()))
 (ob (Yi ((a0, a1, 0, ()), ())) (se (fun y16 => (some (true, ()))) (fun z17 => (some (z17.1.1, ()))))))
def Mg (a0 : Ee) (a1 : Int) (a2 : Int) : Option Xi :=
 (ob (Vm a0 a1) fun r1 =>
 (ob (Xa r1 a2) fun r2 =>
 (some (r2.2.1, ()))))
def Pj (a0 : Ee) (a1 : Int) (a2 : Int) : Option Tu :=
 (ob (Vm a0 a1) fun r1 =>
 (ob (Hr r1 a2) fun r2 =>
 (some (r2.2.1, ()))))
def Dm (t2 : Unit) (t3 : Unit) (t5 : Int) (t6 : Int) (b2 : Na) (b3 : Na) : Option (((Unit × SV) × Eu) ⊕ ((MD × Eu) ⊕ Px)) :=
 (ob (Cd b2.2.1 t5) fun x51 =>
 (cond (decide (t6 < ((ln x51 : Nat) : Int)))
 (ob (Cd b2.2.1 t5) fun x52 =>
 (ob (Cd x52 t6) fun x53 =>
 (ob (Cd b3.2.1 t5) fun x54 =>
 (ob (Cd x54 t6) fun x55 =>
 (cond (!(Ui Xc x53 x55))
 (some (.inr (.inr ((false, ()), ()))))
 (some (.inl (((), (), t5, (wr .i64 (t6 + 1)), ()), (b2, b3, ())))))))))
 (some (.inr (.inl (((), (), t5, ()), (b2, b3, ())))))))
def Ti := Cc fun x : ((Unit × SV) × Eu) => Dm x.1.1 x.1.2.1 x.1.2.2.1 x.1.2.2.2.1 x.2.1 x.2.2.1
def Cm (t2 : Unit) (t3 : Unit) (t5 : Int) (b2 : Na) (b3 : Na) : Option ((MD × Eu) ⊕ Qv) :=
 (cond (decide (t5 < ((ln b2.2.1 : Nat) : Int)))
 (ob (Cd b2.2.1 t5) fun x39 =>
 (ob (Cd b3.2.1 t5) fun x40 =>
 (cond (((ln x39 : Nat) : Int) != ((ln x40 : Nat) : Int))
 (some (.inr (.inr ((false, ()), ()))))
 (ob (Ti (((), (), t5, 0, ()), (b2, b3, ()))) (se (fun y56 => (some (.inl (((), (), (wr .i64 (y56.1.2.2.1 + 1)), ()), y56.2)))) (fun z57 => (some (.inr (.inr ((z57.1.1, ()), ()))))))))))
 (some (.inr (.inl ((), ())))))
def Bn := Cc fun x : (MD × Eu) => Cm x.1.1 x.1.2.1 x.1.2.2.1 x.2.1 x.2.2.1
def Ar (a0 : Na) (a1 : Na) : Option Ye :=
 (cond (a0.1 != a1.1)
 (some (false, ()))
 (cond (((ln a0.2.1 : Nat) : Int) != ((ln a1.2.1 : Nat) : Int))
 (some (false, ()))
 (ob (Bn (((), (), 0, ()), (a0, a1, ()))) (se (fun y58 => (some (true, ()))) (fun z59 => (some (z59.1.1, ())))))))
def Hk (t0 : Mk) (t1 : Mk) (t5 : Int) : Option (((Mk × (Mk × Xi)) × Unit) ⊕ Qv) :=
 (cond (decide (t5 < ((ln t0 : Nat) : Int)))
 (ob (Cd t0 t5) fun x5 =>
 (ob (Cd t1 t5) fun x6 =>
 (cond (!(Ui Yo x5 x6))
 (some (.inr (.inr ((false, ()), ()))))
 (some (.inl ((t0, t1, (wr .i64 (t5 + 1)), ()), ()))))))
 (some (.inr (.inl ((), ())))))
def Am := Cc fun x : ((Mk × (Mk × Xi)) × Unit) => Hk x.1.1 x.1.2.1 x.1.2.2.1
def Zp (a0 : Mk) (a1 : Mk) : Option Ye :=
 (cond (((ln a0 : Nat) : Int) != ((ln a1 : Nat) : Int))
 (some (false, ()))
 (ob (Am ((a0, a1, 0, ()), ())) (se (fun y7 => (some (true, ()))) (fun z8 => (some (z8.1.1, ()))))))
def Nj (a0 : Wa) (a1 : Wa) : Option Ye :=
 (ob (Ar a0.1 a1.1) fun r1 =>
 (cond r1.1
 (cond (((ln a0.2.1 : Nat) : Int) == ((ln a1.2.1 : Nat) : Int))
 (cond (a0.2.2.1 == a1.2.2.1)
 (cond (a0.2.2.2.2.1 == a1.2.2.2.2.1)
 (cond (a0.2.2.2.2.2.1 == a1.2.2.2.2.2.1)
 (ob (Zp a0.2.2.2.1 a1.2.2.2.1) fun r2 =>
 (some (r2.1, ())))
 (some (false, ())))
 (some (false, ())))
 (some (false, ())))
 (some (false, ())))
 (some (false, ()))))
def Jq (t0 : Ee) (t4 : Unit) (t5 : Bool) (t6 : Unit) (t7 : Unit) (t8 : Bool) (t9 : Qh) (t10 : Ee) (t11 : Int) (t12 : Int) (b4 : Wa) (b6 : Zb) (b7 : Nb) : Option (YV ⊕ (((Unit × (Bool × (Unit × (Bool × (Qh × BI))))) × (Wa × AI)) ⊕ Lk)) :=
 (cond (decide (t12 > 0))
 (ob (Mg t0 (wr .i64 (44 + t12)) 4) fun r13 =>
 (ob (Mg t0 (wr .i64 (52 + t12)) 5) fun r14 =>
 (ob (Mg t0 (wr .i64 (60 + t12)) b6.1) fun r15 =>
 (cond (bl (ln t9 + ln ([((wr .i64 (t11 + r14.1)), r13.1, true, ()), ((wr .i64 ((wr .i64 (t11 + r14.1)) + r15.1)), r13.1, false, ())] : List Ra)) Cb)
 (cond (bl (ln t10 + ln ([r13.1] : List Int)) Cb)
 (some (.inl ((t0, (), t5, (), (), t8, (ap t9 ([((wr .i64 (t11 + r14.1)), r13.1, true, ()), ((wr .i64 ((wr .i64 (t11 + r14.1)) + r15.1)), r13.1, false, ())] : List Ra)), (ap t10 ([r13.1] : List Int)), (wr .i64 ((wr .i64 (t11 + r14.1)) + r15.1)), (wr .i64 (t12 - 1)), ()), (b4, b6, b7, ()))))
 none)
 none))))
 (some (.inr (.inl (((), t5, (), t8, t9, t10, t11, ()), (b4, b7, ()))))))
def Si := Cc fun x : YV => Jq x.1.1 x.1.2.1 x.1.2.2.1 x.1.2.2.2.1 x.1.2.2.2.2.1 x.1.2.2.2.2.2.1 x.1.2.2.2.2.2.2.1 x.1.2.2.2.2.2.2.2.1 x.1.2.2.2.2.2.2.2.2.1 x.1.2.2.2.2.2.2.2.2.2.1 x.2.1 x.2.2.1 x.2.2.2.1
def Pp (a0 : Ee) : Option Ye :=
 (ob (Zr a0) fun r1 =>
 (cond r1.1
 (some (true, ()))
 (ob (Pj a0 42 4) fun r2 =>
 (ob (So r2.1 []) fun r3 =>
 (ob (Sn a0) fun r4 =>
 (ob (Kn r3.1 r4.1) fun r5 =>
 (ob (Mg a0 43 8) fun r6 =>
 (ob (Si ((a0, (), r3.2.1, (), (), r5.2.1, [], [], 0, r6.1, ()), (r3.1, r4.1, r5.1, ()))) (se (fun y16 => (ob (Gj y16.2.2.1 y16.1.2.2.2.2.1 y16.1.2.2.2.2.2.2.1) fun r18 =>
 (ob (Fo y16.2.1 y16.1.2.2.2.2.2.1) fun r19 =>
 (cond y16.1.2.1
 (cond y16.1.2.2.2.1
 (cond r18.2.2.1
 (cond r19.2.2.1
 (ob (To r18.2.1) fun r20 =>
 (ob (Em r20.1 r19.2.1) fun r21 =>
 (cond r21.1
 (ob (Nj r18.1.1 r19.1) fun r22 =>
 (cond r22.1
 (some ((((ln r18.1.2.2.1 : Nat) : Int) == 0), ()))
 (some (false, ()))))
 (some (false, ())))))
 (some (false, ())))
 (some (false, ())))
 (some (false, ())))
 (some (false, ())))))) (fun z17 => none))))))))))
end

def Ub (k c m n : Int) : Prop :=
 ((k = 0 ∨ k = 1 ∨ k = 10) ∧ c = 0 ∧ m = 0 ∧ n = 0) ∨
 (k = 2 ∧ n = 0 ∧ (c = 0 ∨ 1 ≤ c ∧ c ≤ 56) ∧ (m = 0 ∨ 1 ≤ m ∧ m ≤ 15) ∧ (c ≠ 0 ∨ m ≠ 0)) ∨
 ((k = 3 ∨ k = 4) ∧ c = 0 ∧ m = 0 ∧ 1 ≤ n ∧ n ≤ 3) ∨
 ((k = 5 ∨ k = 9) ∧ c = 0 ∧ m = 0 ∧ 0 ≤ n ∧ n ≤ 3) ∨
 (k = 6 ∧ 1 ≤ c ∧ c ≤ 56 ∧ 1 ≤ m ∧ m ≤ 15 ∧ n = 0) ∨
 (k = 7 ∧ 1 ≤ c ∧ c ≤ 56 ∧ m = 0 ∧ 1 ≤ n ∧ n ≤ 3) ∨
 (k = 8 ∧ c = 0 ∧ 1 ≤ m ∧ m ≤ 15 ∧ n = 0)
noncomputable def Zc (a : Ia) : Bool := open Classical in decide (Ub a.1 a.2.1 a.2.2.1 a.2.2.2.1)
theorem Vb (a : Ia) : Zc a = true ↔ Ub a.1 a.2.1 a.2.2.1 a.2.2.2.1 := by simp [Zc]
theorem YF (c : Int) : Qm c = some (decide (1 ≤ c ∧ c ≤ 56), ()) := by
 simp only [Qm, Il, Jl]
 apply Rd; simp only [Le, decide_eq_true_eq, Ux, Wx, jq, and_false, false_and, or_false, false_or, and_true, true_and, not_true_eq_false, not_false_eq_true]; try omega
theorem ZF (c : Int) : Uj c = some (decide (1 ≤ c ∧ c ≤ 15), ()) := by
 simp only [Uj, Il, Jl]
 apply Rd; simp only [Le, decide_eq_true_eq, Ux, Wx, jq, and_false, false_and, or_false, false_or, and_true, true_and, not_true_eq_false, not_false_eq_true]; try omega
theorem JE (c : Int) : Wk c = some (decide (1 ≤ c ∧ c ≤ 3), ()) := by
 simp only [Wk, Il, Jl]
 apply Rd; simp only [Le, decide_eq_true_eq, Ux, Wx, jq, and_false, false_and, or_false, false_or, and_true, true_and, not_true_eq_false, not_false_eq_true]; try omega
theorem IK (c a b : Int) : GH c a b = some (decide (a ≤ c ∧ c ≤ b), ()) := by
 simp only [GH, Il, Jl]
 apply Rd; simp only [Le, decide_eq_true_eq, Ux, Wx, jq, and_false, false_and, or_false, false_or, and_true, true_and, not_true_eq_false, not_false_eq_true]; try omega
theorem Ql (a : Ia) : Qg a = some (Zc a, ()) := by
 obtain ⟨k, c, m, n, u⟩ := a
 have key : ∀ k c m n : Int, Qg (k, c, m, n, u) = some (Zc (k, c, m, n, u), ()) := by
  intro k c m n
  simp only [Qg, YF, ZF, JE, IK, jb, Il, Jl]
  by_cases h0 : k = 0
  ·subst h0; apply Rd; rw [Vb]; simp [Ub, Le]; try omega
  by_cases h1 : k = 1
  ·subst h1; apply Rd; rw [Vb]; simp [Ub, Le]; try omega
  by_cases h2 : k = 2
  ·subst h2; apply Rd; rw [Vb]; simp [Ub, Le]; intro hn; (repeat' split) <;> omega
  by_cases h3 : k = 3
  ·subst h3; apply Rd; rw [Vb]; simp [Ub, Le]; try omega
  by_cases h4 : k = 4
  ·subst h4; apply Rd; rw [Vb]; simp [Ub, Le]; try omega
  by_cases h5 : k = 5
  ·subst h5; apply Rd; rw [Vb]; simp [Ub, Le]; try omega
  by_cases h6 : k = 6
  ·subst h6; apply Rd; rw [Vb]; simp [Ub, Le]; try omega
  by_cases h7 : k = 7
  ·subst h7; apply Rd; rw [Vb]; simp [Ub, Le]; try omega
  by_cases h8 : k = 8
  ·subst h8; apply Rd; rw [Vb]; simp [Ub, Le]; try omega
  by_cases h9 : k = 9
  ·subst h9; apply Rd; rw [Vb]; simp [Ub, Le]; try omega
  by_cases h10 : k = 10
  ·subst h10; apply Rd; rw [Vb]; simp [Ub, Le]; try omega
  have g : ∀ j : Int, (k == j) = decide (k = j) := fun j => by rw [qs]; simp
  apply Rd; rw [Vb]; simp [Ub, Le, h0, h1, h2, h3, h4, h5, h6, h7, h8, h9, h10]
 exact key k c m n
noncomputable def Xe (nl : Nat) (i : Nat) (a : Ia) : Bool := Zc a && !(((i : Int) == 0) && (a.1 == 1)) && !((a.1 != 9) && decide (a.2.2.2.1 ≥ (nl : Int)))
noncomputable def Mf (keys : Int) (nl : Nat) (i : Nat) (l : List Ia) : Bool := ((ja l : Int) == keys) && Zd (fun _ a => Xe nl i a) 0 l
noncomputable def Bd (m : Na) : Bool :=
 decide (1 ≤ m.1 ∧ m.1 ≤ 32) && decide (1 ≤ m.2.1.length ∧ m.2.1.length ≤ 4) && Zd (fun i l => Mf m.1 m.2.1.length i l) 0 m.2.1
theorem PC (m : Na) (i : Nat) (l : List Ia) (L : List (List Ia)) (n : Int) (t : Int) (hl : l.length < 9223372036854775807) :
 Uh (((), (i : Int), L, n, t, l, (l.length : Int), (0 : Int), ()), (m, ())) =
  some (cond (Zd (fun _ a => Xe m.2.1.length i a) 0 l) (.inl (((), L, n, t, ()), (m, ()))) (.inr ((false, ()), ()))) := by
 unfold Uh
 refine Tg (step := _) l (fun _ a => Xe m.2.1.length i a) (fun j => (((), (i : Int), L, n, t, l, (l.length : Int), j, ()), (m, ()))) _ _ ?_ ?_ hl
 ·intro k hk
  simp only [Dp]
  rw [Da (show (k : Int) < (l.length : Int) by omega), Uc hk]
  simp only [cond_true, jb, Xe, Ql]
  cases Zc l[k] <;> cases ((i : Int) == 0) <;> cases (l[k].1 == 1) <;> cases (l[k].1 != 9) <;> cases decide (l[k].2.2.2.1 ≥ (m.2.1.length : Int)) <;> rfl
 ·simp [Dp]
theorem Bv (m : Na) (hz : Dc Kb m ≤ La) : Mm m = some (Bd m, ()) := by
 have h20 : La = 1048576 := rfl
 have hz' : m.2.1.length + (List.map (Dc (.sl Xc)) m.2.1).sum ≤ La := by
  have : Dc Kb m = Dc (.sl (.sl Xc)) m.2.1 := by simp only [Dc, Nat.add_zero, js]
  rw [this] at hz; exact hz
 have hl : ∀ k (hk : k < m.2.1.length), m.2.1[k].length ≤ La := by
  intro k hk
  have := Kr (f := Dc (.sl Xc)) hk
  have h2 : m.2.1[k].length ≤ Dc (.sl Xc) m.2.1[k] := Nat.le_add_right _ _
  omega
 have hloop : Th (((), m.2.1, ((ja m.2.1 : Nat) : Int), (0 : Int), ()), (m, ())) =
  some (cond (Zd (fun i l => Mf m.1 m.2.1.length i l) 0 m.2.1) (.inl ((), ())) (.inr ((false, ()), ()))) := by
  unfold Th
  refine Tg (step := _) m.2.1 (fun i l => Mf m.1 m.2.1.length i l) (fun j => (((), m.2.1, ((ja m.2.1 : Nat) : Int), j, ()), (m, ()))) _ _ ?_ ?_ (by omega)
  ·intro k hk
   have := hl k hk
   simp only [Bp]
   rw [Da (show (k : Int) < (m.2.1.length : Int) by omega), Uc hk]
   simp only [cond_true, jb, Mf]
   rw [PC m k _ _ _ _ (by omega)]
   show (cond (!((m.2.1[k].length : Int) == m.1)) _ _) = _
   cases ((m.2.1[k].length : Int) == m.1) <;> cases Zd (fun _ a => Xe m.2.1.length k a) 0 m.2.1[k] <;> rfl
  ·simp [Bp]
 unfold Mm
 rw [hloop]
 simp only [jb, PP, Il, Jl]
 apply Rd
 simp only [Le, Bd, jd, decide_eq_true_eq, jq, and_false, false_or, and_true, or_false]
 generalize Zd (fun i l => Mf m.1 m.2.1.length i l) 0 m.2.1 = b
 constructor
 ·rintro ⟨h1, h2, h3, h4, h5⟩; exact ⟨⟨by omega, by omega⟩, h5⟩
 ·rintro ⟨⟨h1, h2⟩, h5⟩; exact ⟨by omega, by omega, by omega, by omega, h5⟩
theorem EB {n : Nat} (h : n ≤ 62) : Ve .i64 1 (n : Int) = ((2 ^ n : Nat) : Int) := by
 unfold Ve
 have h1 : min (jy (n : Int)) (IntKind.bits .i64) = n := by
  show min (jy (n : Int)) 64 = n
  rw [jn]; omega
 rw [h1, Int.one_mul]
 have h2 : (2 : Int) ^ n = ((2 ^ n : Nat) : Int) := by simp
 have h3 : 2 ^ n ≤ 2 ^ 62 := Nat.pow_le_pow_right (by omega) h
 rw [h2]
 clear h1 h2
 generalize 2 ^ n = z at h3
 rw [Vd (by omega) (by omega)]
structure Qu (m : Na) : Prop where
 k1 : 1 ≤ m.1
 k2 : m.1 ≤ 32
 l1 : 1 ≤ m.2.1.length
 l2 : m.2.1.length ≤ 4
 row : ∀ i (h : i < m.2.1.length), (m.2.1[i].length : Int) = m.1
 act : ∀ i (h : i < m.2.1.length) k (hk : k < m.2.1[i].length), Xe m.2.1.length i m.2.1[i][k] = true
theorem Qf {m : Na} (h : Bd m = true) : Qu m := by
 simp only [Bd, jd, decide_eq_true_eq] at h
 obtain ⟨⟨h1, h2⟩, h3⟩ := h
 rw [Yh] at h3
 refine ⟨h1.1, h1.2, h2.1, h2.2, fun i hi => ?_, fun i hi k hk => ?_⟩
 ·have := h3 i hi
  simp only [js, Mf, jd, beq_iff_eq] at this
  exact this.1
 ·have := h3 i hi
  simp only [js, Mf, jd, beq_iff_eq] at this
  have := Yh.1 this.2 k hk
  simpa using this
theorem AA {nl i : Nat} {a : Ia} (h : Xe nl i a = true) : Zc a = true := by
 simp only [Xe, jd] at h
 exact h.1.1
theorem BB {nl i : Nat} {a : Ia} (h : Xe nl i a = true) (hk : a.1 ≠ 9) : a.2.2.2.1 < (nl : Int) := by
 simp only [Xe, jd, Bool.not_eq_true', Bool.and_eq_false_iff] at h
 rcases h.2 with h | h
 ·simp at h; exact absurd h hk
 ·simpa using h
def Nl (m k : Int) : Int := Zn .i64 (Ow .i64 m k) 1
theorem Rs (m : Int) {k : Int} (h : 0 ≤ k) : Ul m k = some (Nl m k, ()) := by
 unfold Ul
 rw [Da h]; rfl
def Faa : Ia := (0, 0, 0, 0, ())
def Rh (L : List (List Ia)) (i k : Nat) : Ia := (L.getD i []).getD k Faa
theorem ZB {L : List (List Ia)} {i k : Nat} (hi : i < L.length) (hk : k < L[i].length) : Rh L i k = L[i][k] := by
 simp [Rh, qi, hi, hk]
theorem WN {α : Type} {L : List (List Ia)} {i k : Nat} (hi : i < L.length) (hk : k < L[i].length) (K : Ia → Option α) :
 (jz (Cd L (i : Int)) fun x => jz (Cd x (k : Int)) K) = K (Rh L i k) := by
 rw [Uc hi]
 simp only [jb]
 rw [Uc hk, ZB hi hk]
 rfl
def Rf (L : List (List Ia)) (on : Int) (k : Nat) : Nat → Nat
 | 0 => 0
 | n + 1 => cond ((Nl on ((n + 1 : Nat) : Int) == 1) && ((Rh L (n + 1) k).1 != 1)) (n + 1) (Rf L on k n)
theorem Uz {L : List (List Ia)} {on : Int} {k : Nat} : ∀ n, Rf L on k n ≤ n
 | 0 => jo _
 | n + 1 => by
  simp only [Rf]
  cases ((Nl on ((n + 1 : Nat) : Int) == 1) && ((Rh L (n + 1) k).1 != 1)) with
  | true => exact jo _
  | false => exact Nat.le_succ_of_le (Uz n)
theorem Yv {m : Na} (hm : Qu m) (on : Int) {k : Nat} (hk : (k : Int) < m.1) : ∀ n : Nat, n < m.2.1.length →
 Tf ((on, (k : Int), (), (n : Int), ()), (m, ())) = some (cond (Rf m.2.1 on k n == 0) (.inl ((), ())) (.inr ((((Rf m.2.1 on k n : Nat) : Int), ()), ())))
 | 0, _ => by
  unfold Tf
  rw [Ey]
  rfl
 | n + 1, h => by
  have hrow := hm.row (n + 1) h
  unfold Tf
  rw [Ey]
  simp only [Ev]
  rw [Da (show (((n + 1 : Nat) : Int)) > 0 by omega), Rs on (show (0 : Int) ≤ ((n + 1 : Nat) : Int) by omega)]
  simp only [cond_true, jb]
  rw [WN h (by omega), Vd (by have := hm.l2; omega) (by have := hm.l2; omega), show (((n + 1 : Nat) : Int) - 1) = (n : Int) by omega]
  have ih := Yv hm on hk n (by omega)
  unfold Tf at ih
  simp only [Rf]
  cases h1 : (Nl on ((n + 1 : Nat) : Int) == 1) with
  | false =>
   simp only [Bool.false_and, cond_false, jb, qj]
   exact ih
  | true =>
   cases h2 : ((Rh m.2.1 (n + 1) k).1 != 1) with
   | true => rfl
   | false =>
    simp only [Bool.and_false, cond_true, cond_false, jb, qj]
    exact ih
theorem Yq {m : Na} (hm : Qu m) (on : Int) {k : Nat} (hk : (k : Int) < m.1) :
 Xk m on (k : Int) = some (((Rf m.2.1 on k (m.2.1.length - 1) : Nat) : Int), ()) := by
 have h1 := hm.l1
 have h2 := hm.l2
 unfold Xk
 rw [Vd (by omega) (by omega), show ((m.2.1.length : Int) - 1) = ((m.2.1.length - 1 : Nat) : Int) by omega, Yv hm on hk _ (by omega)]
 cases h : (Rf m.2.1 on k (m.2.1.length - 1) == 0) with
 | false => rfl
 | true =>
  have h' : Rf m.2.1 on k (m.2.1.length - 1) = 0 := by simpa using h
  rw [h']; rfl
def Lg (m : Na) (on : Int) (k : Nat) : Nat := Rf m.2.1 on k (m.2.1.length - 1)
theorem Zv {m : Na} (hm : Qu m) (on : Int) (k : Nat) : Lg m on k < m.2.1.length := by
 have := Uz (L := m.2.1) (on := on) (k := k) (m.2.1.length - 1)
 have := hm.l1
 unfold Lg
 omega
noncomputable def Vf (a : Ia) : Bool := Zc a && ((a.1 == 6) || (a.1 == 7))
noncomputable def Mx (a : Ia) : Ia := cond (Vf a) (2, a.2.1, 0, 0, ()) a
noncomputable def Cx (a : Ia) : Ia := cond (Vf a) (cond (a.1 == 6) (2, 0, a.2.2.1, 0, ()) (3, 0, 0, a.2.2.2.1, ())) a
theorem Ep (a : Ia) : Fi a = some (Vf a, ()) := by
 unfold Fi Vf
 rw [Ql]
 cases Zc a <;> cases (a.1 == 6) <;> rfl
theorem Xy (a : Ia) : Gu a = some (Mx a, ()) := by
 unfold Gu Mx
 rw [Ep]
 cases Vf a <;> rfl
def Pc {α : Type} (p : α → Bool) : Nat → List α → Int
 | _, [] => -1
 | k, x :: xs => cond (p x) (k : Int) (Pc p (k + 1) xs)
theorem Lt {X R : Type} {s : X → Option (X ⊕ R)} (I : Nat → X → Prop) (Q : R → Prop)
 (h : ∀ n x, I n x → (∃ r, s x = some (.inr r) ∧ Q r) ∨ (∃ y m, m < n ∧ s x = some (.inl y) ∧ I m y)) : ∀ n x, I n x → ∃ r, Cc s x = some r ∧ Q r := by
 intro n
 induction n using Nat.strongRecOn with
 | _ n ih =>
  intro x hi
  rcases h n x hi with ⟨r, h1, hq⟩ | ⟨y, m, hm, h1, hi'⟩
  ·exact ⟨r, by rw [Lf h1]; rfl, hq⟩
  ·obtain ⟨r, g1, hq⟩ := ih m hm y hi'
   exact ⟨r, by rw [Lf h1]; exact g1, hq⟩
def Gv {α β : Type} : α ⊕ β → Bool
 | .inl _ => true
 | .inr _ => false
noncomputable def Sm (s : Int) (x : Ka) : Bool := decide (0 ≤ x.1 ∧ x.1 ≤ 31) && (!(Nl s x.1 == 1) && (Zc x.2.1 && (!(x.2.1.1 == 1) && (!(x.2.1.1 == 6) && !(x.2.1.1 == 7)))))
noncomputable def Vp (s : Int) (x : Ka) : Int ⊕ Unit := cond (Sm s x) (.inl (Ud .i64 s (Ve .i64 1 x.1))) (.inr ())
noncomputable def VN (l : List Ka) : Int ⊕ Unit := Jc (fun _ s x => Vp s x) 0 0 l
noncomputable def Ld (l : List Ka) : Bool := Gv (VN l)
theorem Tk (l : List Ka) (hn : l.length ≤ La) : Ch l = some (Ld l, ()) := by
 have h20 : La = 1048576 := rfl
 have hl := Rm (step := fun x => Hn x.1.1 x.1.2.1 x.1.2.2.1 x.1.2.2.2.1) l (fun _ s x => Vp s x) (fun s i => ((s, l, ((ja l : Nat) : Int), i, ()), ()))
  (fun _ => .inl ((), ())) (fun _ => .inr ((false, ()), ())) (fun _ _ => True) (by
   intro k hk s _
   refine ⟨?_, fun _ _ => trivial⟩
   simp only [Hn]
   rw [Da (show (k : Int) < (ja l : Int) by omega), Uc hk]
   simp only [cond_true, jb]
   generalize l[k] = x
   simp only [Vp, Sm, Ql, jb]
   by_cases h1 : 0 ≤ x.1
   ·rw [Ea (show ¬ x.1 < 0 by omega), Rs s h1]
    by_cases h2 : x.1 ≤ 31
    ·rw [Ea (show ¬ x.1 > 31 by omega), Da (show 0 ≤ x.1 ∧ x.1 ≤ 31 from ⟨h1, h2⟩), Da h1]
     simp only [jb, cond_false]
     cases Nl s x.1 == 1 <;> cases Zc x.2.1 <;> cases x.2.1.1 == 1 <;> cases x.2.1.1 == 6 <;> cases x.2.1.1 == 7 <;> rfl
    ·rw [Da (show x.1 > 31 by omega), Ea (show ¬ (0 ≤ x.1 ∧ x.1 ≤ 31) by omega)]; rfl
   ·rw [Da (show x.1 < 0 by omega), Ea (show ¬ (0 ≤ x.1 ∧ x.1 ≤ 31) by omega)]; rfl)
  (by
   intro s _
   simp only [Hn]
   rw [Ea (by omega)]; rfl) (by omega) 0 trivial
 unfold Ch Co
 erw [hl]
 show jz (some _) _ = _
 simp only [jb, Ld, VN]
 cases Jc (fun x s x => Vp s x) 0 0 l <;> rfl
structure Gp (x : Ka) : Prop where
 lo : 0 ≤ x.1
 hi : x.1 ≤ 31
 act : Zc x.2.1 = true
 n1 : x.2.1.1 ≠ 1
 n6 : x.2.1.1 ≠ 6
 n7 : x.2.1.1 ≠ 7
theorem KR {s : Int} {x : Ka} (h : Sm s x = true) : Gp x ∧ Nl s x.1 ≠ 1 := by
 simp only [Sm, jd, decide_eq_true_eq, Bool.not_eq_true', beq_eq_false_iff_ne] at h
 exact ⟨⟨h.1.1, h.1.2, h.2.2.1, h.2.2.2.1, h.2.2.2.2.1, h.2.2.2.2.2⟩, h.2.1⟩
theorem IJ : ∀ {l : List Ka} {k : Nat} {s : Int}, Gv (Jc (fun _ s x => Vp s x) k s l) = true → ∀ x ∈ l, Gp x
 | [], _, _, _, x, hx => by simp at hx
 | y :: l, k, s, h, x, hx => by
  simp only [Jc, Vp] at h
  cases hc : Sm s y with
  | false => rw [hc] at h; simp [Gv] at h
  | true =>
   rw [hc] at h
   simp only [cond_true] at h
   rcases jp.1 hx with rfl | hx
   ·exact (KR hc).1
   ·exact IJ h x hx
theorem Jt {l : List Ka} (h : Ld l = true) : ∀ x ∈ l, Gp x := IJ h
def Cr (l : List Ka) : Int := Ce (fun _ s (x : Ka) => Ud .i64 s (Ve .i64 1 x.1)) 0 0 l
theorem Dv (l : List Ka) (hn : l.length ≤ La) (hx : ∀ x ∈ l, Gp x) : Cj l = some (Cr l, ()) := by
 have h20 : La = 1048576 := rfl
 have hl := (Fm (step := fun x => Fk x.1.1 x.1.2.1 x.1.2.2.1 x.1.2.2.2.1) l (fun _ s (x : Ka) => Ud .i64 s (Ve .i64 1 x.1)) (fun s i => ((s, l, ((ja l : Nat) : Int), i, ()), ()))
  (fun s => .inl ((s, ()), ())) (fun _ _ => True) (by
   intro k hk s _
   refine ⟨?_, trivial⟩
   simp only [Fk]
   rw [Da (show (k : Int) < (ja l : Int) by omega), Uc hk]
   simp only [cond_true, jb]
   rw [Da (hx _ (qn hk)).lo]; rfl)
  (by
   intro s _
   simp only [Fk]
   rw [Ea (by omega)]; rfl) (by omega) 0 trivial).1
 unfold Cj Wl
 erw [hl]
 rfl
theorem BE {α β : Type} (p : β → Bool) (f : α → β) : ∀ (xs : List α) (k : Nat), Pc p k (xs.map f) = Pc (fun x => p (f x)) k xs
 | [], _ => rfl
 | x :: xs, k => by simp only [List.map_cons, Pc, BE p f xs]
theorem Et {α : Type} (p : α → Bool) : ∀ (xs : List α) (k : Nat), Pc p k xs = -1 ∨ ∃ j : Nat, j < xs.length ∧ Pc p k xs = ((k + j : Nat) : Int)
 | [], _ => .inl rfl
 | x :: xs, k => by
  simp only [Pc]
  cases p x with
  | true => exact .inr ⟨0, by simp, by simp⟩
  | false =>
   rcases Et p xs (k + 1) with h | ⟨j, h1, h2⟩
   ·exact .inl h
   ·exact .inr ⟨j + 1, by simp; omega, by simp only [cond_false]; rw [h2]; omega⟩
theorem Oz {α : Type} (p : α → Bool) : ∀ (xs : List α) (k : Nat), (Jc (fun k (_ : Unit) x => cond (p x) (.inr (k : Int)) (.inl ())) k () xs : Unit ⊕ Int) = if Pc p k xs = -1 then .inl () else .inr (Pc p k xs)
 | [], _ => rfl
 | x :: xs, k => by
  rcases Bool.eq_false_or_eq_true (p x) with hp | hp
  ·simp only [Jc, Pc, hp, cond_true]; rw [if_neg (by omega)]
  ·simp only [Jc, Pc, hp, cond_false]; exact Oz p xs (k + 1)
theorem RB {X R α : Type} {step : X → Option (X ⊕ R)} (xs : List α) (p : α → Bool) (I : Int → X) (no : R) (yes : Int → R)
 (h : ∀ k (hk : k < xs.length), step (I (k : Int)) = some (cond (p xs[k]) (.inr (yes (k : Int))) (.inl (I (j5 .i64 ((k : Int) + 1))))))
 (he : step (I (xs.length : Int)) = some (.inr no)) (hn : xs.length < 9223372036854775807) :
 Cc step (I 0) = some (if Pc p 0 xs = -1 then no else yes (Pc p 0 xs)) := by
 have := Rm (step := step) xs (fun k (_ : Unit) x => cond (p x) (.inr (k : Int)) (.inl ())) (fun _ i => I i) (fun _ => no) yes (fun _ _ => True) (fun k hk s _ => by
  refine ⟨?_, fun _ _ => trivial⟩
  rw [h k hk]
  cases p xs[k] <;> rfl) (fun _ _ => he) hn () trivial
 rw [this, Oz]
 by_cases hc : Pc p 0 xs = -1
 ·rw [if_pos hc, if_pos hc]
 ·rw [if_neg hc, if_neg hc]
def Nc (h : Ka) : Mb := (h.2.1.2.1, h.2.1.2.2.1, ())
def Np (c m : Int) (h : Ka) : Bool := (h.2.1.2.1 == c) && (h.2.1.2.2.1 == m)
theorem Gx (l : List Mb) (c : Mb) (hn : l.length ≤ La) : Mp l c = some (Pc (fun x => Ui Ke x c) 0 l, ()) := by
 have h20 : La = 1048576 := rfl
 have hl := RB (step := fun x => On x.1.1 x.1.2.1 x.1.2.2.1 x.1.2.2.2.1 x.2.1) l (fun x => Ui Ke x c) (fun i => (((), l, ((ja l : Nat) : Int), i, ()), (c, ())))
  (.inl ((), ())) (fun i => .inr ((i, ()), ())) (by
   intro k hk
   simp only [On]
   rw [Da (show (k : Int) < (ja l : Int) by omega), Uc hk]
   simp only [cond_true, jb]
   cases Ui Ke l[k] c <;> rfl) (by
   simp only [On]
   rw [Ea (by omega)]; rfl) (by omega)
 unfold Mp Jo
 erw [hl]
 simp only [jb]
 by_cases hc : Pc (fun x => Ui Ke x c) 0 l = -1
 ·rw [if_pos hc, hc]; rfl
 ·rw [if_neg hc]; rfl
theorem YE (L : List Ka) (c m : Int) : Pc (fun x => Ui Ke x (c, m, ())) 0 (L.map Nc) = Pc (Np c m) 0 L := by
 rw [BE]
 congr 1
 funext h
 simp only [Nc, Ui, Np, Bool.and_true]
def Pg {α : Type} (l : List α) (r : Nat) : List α := jf (Ob l 0 r) (Ob l (r + 1) l.length)
theorem BL {α : Type} {l : List α} {r : Nat} (h : r < l.length) : (Pg l r).length = l.length - 1 := by
 simp [Pg, Ob]; omega
theorem XB {α β : Type} (f : α → β) (l : List α) (r : Nat) : Pg (l.map f) r = (Pg l r).map f := by
 simp [Pg, Ob, List.map_take, List.map_drop]
 rw [List.take_of_length_le (by simp)]
theorem OG {α : Type} {l : List α} {r : Nat} (h : r < l.length) : Te (ja l) 0 (r : Int) = true ∧ Te (ja l) ((r + 1 : Nat) : Int) ((ja l : Nat) : Int) = true := by
 simp only [Te, jd, decide_eq_true_eq]
 omega
noncomputable def Xo (x : Zb) (r : Int) : Bool := Zc (2, x.2.1, x.2.2.1, 0, ()) && (((x.1 == 0) && !decide (r ≥ 0)) || (((x.1 == 1) && !decide (r ≥ 0)) || ((x.1 == 2) && decide (r ≥ 0))))
def Wq (x : Zb) : Ka := (0, (2, x.2.1, x.2.2.1, 0, ()), ())
def Pw (x : Zb) (L : List Ka) (r : Int) : List Ka := cond (x.1 == 1) (jf L [Wq x]) (cond (x.1 == 2) (Pg L r.toNat) L)
noncomputable def Br (L : List Ka) (x : Zb) : List Ka ⊕ Unit := cond (Xo x (Pc (Np x.2.1 x.2.2.1) 0 L)) (.inl (Pw x L (Pc (Np x.2.1 x.2.2.1) 0 L))) (.inr ())
theorem SL {L L' : List Ka} {x : Zb} (h : Br L x = .inl L') : L'.length ≤ L.length + 1 := by
 unfold Br at h
 cases hc : Xo x (Pc (Np x.2.1 x.2.2.1) 0 L) with
 | false => rw [hc] at h; simp at h
 | true =>
  rw [hc] at h
  simp only [cond_true, Sum.inl.injEq] at h
  rw [← h]
  unfold Pw
  cases x.1 == 1 with
  | true => simp
  | false =>
   cases x.1 == 2 with
   | true => simp [Pg, Ob]; omega
   | false => simp
theorem RH (l : List Zb) (k : Nat) (hk : k < l.length) (L : List Ka) (hL : L.length ≤ k) (hn : l.length ≤ La) :
 Ni (L.map Nc) l ((ja l : Nat) : Int) (k : Int) =
  some (match Br L l[k] with | .inl L' => .inl ((L'.map Nc, l, ((ja l : Nat) : Int), j5 .i64 ((k : Int) + 1), ()), ()) | .inr _ => .inr (.inr ((false, ()), ()))) := by
 have h20 : La = 1048576 := rfl
 simp only [Ni]
 rw [Da (show (k : Int) < (ja l : Int) by omega), Uc hk]
 simp only [cond_true, jb]
 rw [Gx (L.map Nc) _ (by simp; omega), YE]
 simp only [jb, Ql, Br, Xo, Pw, Wq]
 generalize hx : l[k] = x
 generalize hr : Pc (Np x.2.1 x.2.2.1) 0 L = r
 have hble : jx (ja (L.map Nc) + ja ([(x.2.1, x.2.2.1, ())] : List Mb)) Cb = true := ji (by simp [Xf]; omega)
 have happ : jf (L.map Nc) ([(x.2.1, x.2.2.1, ())] : List Mb) = (jf L [((0 : Int), ((2 : Int), x.2.1, x.2.2.1, (0 : Int), ()), ())]).map Nc := by
  show _ ++ _ = List.map Nc (_ ++ _)
  rw [List.map_append]; rfl
 by_cases k0 : x.1 = 0
 ·simp only [k0]
  cases Zc ((2 : Int), x.2.1, x.2.2.1, (0 : Int), ()) <;> cases decide (r ≥ 0) <;> rfl
 by_cases k1 : x.1 = 1
 ·simp only [k1]
  rw [hble, happ]
  cases Zc ((2 : Int), x.2.1, x.2.2.1, (0 : Int), ()) <;> cases decide (r ≥ 0) <;> rfl
 by_cases k2 : x.1 = 2
 ·simp only [k2]
  rcases Et (Np x.2.1 x.2.2.1) L 0 with h1 | ⟨j, h1, h2⟩
  ·rw [hr] at h1
   rw [h1]
   cases Zc ((2 : Int), x.2.1, x.2.2.1, (0 : Int), ()) <;> rfl
  ·rw [hr] at h2
   have hrj : r = (j : Int) := by omega
   rw [hrj]
   have hj : j < (L.map Nc).length := by simpa using h1
   have hc := OG hj
   rw [Bg (k := j) (by omega), hc.1, hc.2, Ea (show ¬ (j : Int) < 0 by omega), Da (show (j : Int) ≥ 0 by omega)]
   have e1 : jx (ja (Ob (L.map Nc) (jy 0) (jy (j : Int))) + ja (Ob (L.map Nc) (jy ((j + 1 : Nat) : Int)) (jy ((ja (L.map Nc) : Nat) : Int)))) Cb = true :=
    ji (by simp [Ob]; rw [Xf]; omega)
   have e2 : jf (Ob (L.map Nc) (jy 0) (jy (j : Int))) (Ob (L.map Nc) (jy ((j + 1 : Nat) : Int)) (jy ((ja (L.map Nc) : Nat) : Int))) = (Pg L (jy (j : Int))).map Nc := by
    rw [← XB]
    simp [Pg]
   rw [e1, e2]
   cases Zc ((2 : Int), x.2.1, x.2.2.1, (0 : Int), ()) <;> rfl
 ·have e0 : (x.1 == 0) = false := by simpa using k0
  have e1 : (x.1 == 1) = false := by simpa using k1
  have e2 : (x.1 == 2) = false := by simpa using k2
  rw [e0, e1, e2]
  cases Zc ((2 : Int), x.2.1, x.2.2.1, (0 : Int), ()) <;> rfl
noncomputable def KU (l : List Zb) : List Ka ⊕ Unit := Jc (fun _ L x => Br L x) 0 [] l
noncomputable def Kg (l : List Zb) : Bool := decide (l.length ≤ 8) && (match KU l with | .inl L => ((L.length : Int) == 0) | .inr _ => false)
theorem Wv (l : List Zb) (hn : l.length ≤ La) : Eo l = some (Kg l, ()) := by
 have h20 : La = 1048576 := rfl
 unfold Eo Kg
 by_cases h : l.length ≤ 8
 ·rw [Ea (show ¬ ((ja l : Nat) : Int) > 8 by omega), Da h]
  have hl := Rm (step := fun x => Ni x.1.1 x.1.2.1 x.1.2.2.1 x.1.2.2.2.1) l (fun _ L x => Br L x) (fun L i => ((L.map Nc, l, ((ja l : Nat) : Int), i, ()), ()))
   (fun L => .inl ((L.map Nc, ()), ())) (fun _ => .inr ((false, ()), ())) (fun k L => L.length ≤ k) (by
    intro k hk L hL
    refine ⟨?_, fun L' h => by have := SL h; omega⟩
    rw [RH l k hk L hL hn]
    cases Br L l[k] <;> rfl) (by
    intro s _
    simp only [Ni]
    rw [Ea (by omega)]; rfl) (by omega) [] (by simp)
  unfold Ym
  erw [hl]
  simp only [KU]
  cases Jc (fun x L x => Br L x) 0 [] l with
  | inl L =>
   show some _ = some _
   simp only [List.length_map]
   rfl
  | inr u => rfl
 ·rw [Da (show ((ja l : Nat) : Int) > 8 by omega), Ea h]; rfl
noncomputable def Di (keys : Int) (nl : Nat) (x : Ka) : Bool := !decide (x.1 ≥ keys) && !((x.2.1.1 != 9) && decide (x.2.1.2.2.2.1 ≥ (nl : Int)))
noncomputable def Ai (e : Wa) : Bool :=
 Bd e.1 && (decide (e.2.1.length ≤ 4) && (Ld e.2.2.2.1 && (Zd (fun _ m => Kg m) 0 e.2.1 && (Zd (fun _ x => Di e.1.1 e.1.2.1.length x) 0 e.2.2.2.1 &&
  (decide (0 ≤ e.2.2.1 ∧ e.2.2.1 < ((2 ^ e.1.2.1.length : Nat) : Int)) && ((Int.tmod e.2.2.1 2 == 0) && decide (0 ≤ e.2.2.2.2.1 ∧ e.2.2.2.2.1 ≤ 15)))))))
theorem Ct (e : Wa) : Dc Tb e = Dc Kb e.1 + (Dc (.sl (.sl Hc)) e.2.1 + Dc (.sl Yo) e.2.2.2.1) := by
 simp only [Dc, Nat.add_zero, js]
theorem Hs (l : List Ka) : Dc (.sl Yo) l = l.length := Is (e := Yo) rfl l
theorem IM (l : List Zb) : Dc (.sl Hc) l = l.length := Is (e := Hc) rfl l
theorem SX {e : Ty} (l : List (T e)) : ja l ≤ Dc (.sl e) l := Nat.le_add_right _ _
theorem K2 {e : Ty} {l : List (T e)} {k : Nat} (hk : k < ja l) : Dc e (List.get l ⟨k, hk⟩) ≤ Dc (.sl e) l :=
 qb (Kr (f := Dc e) hk) (Nat.le_add_left _ _)
theorem IE (e : Wa) (hz : Dc Tb e ≤ La) : Sh (((), e.2.1, ((ja e.2.1 : Nat) : Int), (0 : Int), ()), (e, ())) =
 some (cond (Zd (fun _ m => Kg m) 0 e.2.1) (.inl (((), ()), (e, ()))) (.inr ((false, ()), ()))) := by
 have h20 : La = 1048576 := rfl
 rw [Ct] at hz
 have hl := SX (e := .sl Hc) e.2.1
 unfold Sh
 refine Tg (step := fun x => Dk x.1.1 x.1.2.1 x.1.2.2.1 x.1.2.2.2.1 x.2.1) e.2.1 (fun _ m => Kg m) (fun i => (((), e.2.1, ((ja e.2.1 : Nat) : Int), i, ()), (e, ()))) _ _ ?_ ?_ (by omega)
 ·intro k hk
  simp only [Dk]
  have hk2 : (k : Int) < ((ja e.2.1 : Nat) : Int) := by omega
  rw [Da hk2, Uc hk]
  simp only [cond_true, jb]
  have he := K2 (e := .sl Hc) hk
  rw [IM] at he
  rw [Wv e.2.1[k] (by have : (List.get e.2.1 ⟨k, hk⟩) = e.2.1[k] := rfl; rw [this] at he; omega)]
  simp only [jb]
  cases Kg e.2.1[k] <;> rfl
 ·simp only [Dk]
  rw [Ea (by omega)]; rfl
theorem QH (e : Wa) (hz : Dc Tb e ≤ La) : Ih (((), ((ja e.1.2.1 : Nat) : Int), e.2.2.2.1, ((ja e.2.2.2.1 : Nat) : Int), (0 : Int), ()), (e, ())) =
 some (cond (Zd (fun _ x => Di e.1.1 e.1.2.1.length x) 0 e.2.2.2.1) (.inl (((), ((ja e.1.2.1 : Nat) : Int), ()), (e, ()))) (.inr ((false, ()), ()))) := by
 have h20 : La = 1048576 := rfl
 rw [Ct, Hs] at hz
 unfold Ih
 refine Tg (step := fun x => Fj x.1.1 x.1.2.1 x.1.2.2.1 x.1.2.2.2.1 x.1.2.2.2.2.1 x.2.1) e.2.2.2.1 (fun _ x => Di e.1.1 e.1.2.1.length x)
  (fun i => (((), ((ja e.1.2.1 : Nat) : Int), e.2.2.2.1, ((ja e.2.2.2.1 : Nat) : Int), i, ()), (e, ()))) _ _ ?_ ?_ (by omega)
 ·intro k hk
  simp only [Fj]
  have hk2 : (k : Int) < ((ja e.2.2.2.1 : Nat) : Int) := by omega
  rw [Da hk2, Uc hk]
  simp only [cond_true, jb, Di]
  cases decide (e.2.2.2.1[k].1 ≥ e.1.1) <;> cases (e.2.2.2.1[k].2.1.1 != 9) <;> cases decide (e.2.2.2.1[k].2.1.2.2.2.1 ≥ ((ja e.1.2.1 : Nat) : Int)) <;> rfl
 ·simp only [Fj]
  rw [Ea (by omega)]; rfl
theorem Rl (e : Wa) (hz : Dc Tb e ≤ La) : Rg e = some (Ai e, ()) := by
 have h20 : La = 1048576 := rfl
 have hz' := hz
 rw [Ct, Hs] at hz'
 unfold Rg Ai
 rw [Bv e.1 (by omega)]
 cases hk : Bd e.1 with
 | false => rfl
 | true =>
  simp only [jb, jg, cond_false, jk]
  by_cases h4 : e.2.1.length ≤ 4
  ·rw [Ea (show ¬ ((ja e.2.1 : Nat) : Int) > 4 by omega), Da h4, Tk _ (by omega)]
   simp only [jb, cond_false, jk]
   cases hh : Ld e.2.2.2.1 with
   | false => rfl
   | true =>
    simp only [jg, cond_false, jk]
    rw [IE e hz]
    have hl := (Qf hk).l2
    by_cases ho : 0 ≤ e.2.2.2.2.1 ∧ e.2.2.2.2.1 ≤ 15
    ·rw [Ea (show ¬ e.2.2.2.2.1 < 0 by omega), Ea (show ¬ e.2.2.2.2.1 > 15 by omega), Da ho]
     simp only [cond_false, jb, Bool.and_true]
     cases Zd (fun _ m => Kg m) 0 e.2.1 with
     | false => rfl
     | true =>
      simp only [cond_true, qj, jk]
      rw [QH e hz]
      cases Zd (fun _ x => Di e.1.1 e.1.2.1.length x) 0 e.2.2.2.1 with
      | false => rfl
      | true =>
       simp only [cond_true, jb, qj, jk]
       rw [EB (by omega), Da (show (0 : Int) ≤ ((ja e.1.2.1 : Nat) : Int) by omega)]
       have e2 : ((2 : Int) == 0) = false := rfl
       rw [e2]
       simp only [cond_false, cond_true]
       by_cases hf : 0 ≤ e.2.2.1
       ·rw [Da (show e.2.2.1 ≥ 0 from hf)]
        by_cases hf2 : e.2.2.1 < ((2 ^ e.1.2.1.length : Nat) : Int)
        ·rw [Da hf2, Da (show 0 ≤ e.2.2.1 ∧ e.2.2.1 < ((2 ^ e.1.2.1.length : Nat) : Int) from ⟨hf, hf2⟩)]
         cases Int.tmod e.2.2.1 2 == 0 <;> rfl
        ·rw [Ea hf2, Ea (show ¬ (0 ≤ e.2.2.1 ∧ e.2.2.1 < ((2 ^ e.1.2.1.length : Nat) : Int)) from fun h => hf2 h.2)]
         cases Int.tmod e.2.2.1 2 == 0 <;> rfl
       ·rw [Ea (show ¬ e.2.2.1 ≥ 0 from hf), Ea (show ¬ (0 ≤ e.2.2.1 ∧ e.2.2.1 < ((2 ^ e.1.2.1.length : Nat) : Int)) from fun h => hf h.1)]
        rfl
    ·have hr : (Zd (fun _ m => Kg m) 0 e.2.1 && (Zd (fun _ x => Di e.1.1 e.1.2.1.length x) 0 e.2.2.2.1 && (decide (0 ≤ e.2.2.1 ∧ e.2.2.1 < ((2 ^ e.1.2.1.length : Nat) : Int)) && ((Int.tmod e.2.2.1 2 == 0) && decide (0 ≤ e.2.2.2.2.1 ∧ e.2.2.2.2.1 ≤ 15))))) = false := by
      rw [Ea ho]; simp
     rw [hr]
     by_cases h1 : e.2.2.2.2.1 < 0
     ·rw [Da h1]; rfl
     ·rw [Ea h1, Da (show e.2.2.2.2.1 > 15 by omega)]; rfl
  ·rw [Da (show ((ja e.2.1 : Nat) : Int) > 4 by omega), Ea h4]; rfl
def Zg (x : Ra) : Bool := decide (0 ≤ x.1 ∧ x.1 ≤ 1000000) && decide (0 ≤ x.2.1 ∧ x.2.1 ≤ 31)
theorem Vv (x : Ra) : Bo x = some (Zg x, ()) := by
 unfold Bo Zg
 simp only [Il, Jl]
 apply Rd
 simp only [Le, decide_eq_true_eq, jq, and_false, or_false, jd]
 omega
def Ft (s : Int × Int) (x : Ra) : Bool := Zg x && (!decide (s.1 > x.1) && !(x.2.2.1 == (Nl s.2 x.2.1 == 1)))
def Xm (s : Int × Int) (x : Ra) : (Int × Int) ⊕ Unit := cond (Ft s x) (.inl (x.1, Zl .i64 s.2 (Ve .i64 1 x.2.1))) (.inr ())
def SN (l : List Ra) (d : Int) : (Int × Int) ⊕ Unit := Jc (fun _ s x => Xm s x) 0 (0, d) l
def Sr (l : List Ra) (d : Int) : Int × Bool := cond (decide (l.length ≤ 64)) (match SN l d with | .inl s => (s.2, true) | .inr _ => (0, false)) (0, false)
theorem Dt {x : Ra} (h : Zg x = true) : 0 ≤ x.1 ∧ x.1 ≤ 1000000 ∧ 0 ≤ x.2.1 ∧ x.2.1 ≤ 31 := by
 simp only [Zg, jd, decide_eq_true_eq] at h
 omega
theorem VF (l : List Ra) (d : Int) (hn : l.length ≤ La) : Ss l d = some ((Sr l d).1, (Sr l d).2, ()) := by
 have h20 : La = 1048576 := rfl
 unfold Ss Sr
 by_cases h64 : l.length ≤ 64
 ·rw [Ea (show ¬ ((ja l : Nat) : Int) > 64 by omega), Da h64]
  have hl := Rm (step := fun x => Mn x.1.1 x.1.2.1 x.1.2.2.1 x.1.2.2.2.1 x.1.2.2.2.2.1) l (fun _ s x => Xm s x) (fun s i => ((l, s.2, l, ((ja l : Nat) : Int), i, ()), ()))
   (fun s => .inl ((s.2, ()), ())) (fun _ => .inr (((0 : Int), false, ()), ())) (fun k s => (k = 0 → s.1 = 0) ∧ ∀ hk : k - 1 < l.length, 0 < k → s.1 = l[k - 1].1) (by
    intro k hk s ⟨hs0, hs1⟩
    refine ⟨?_, ?_⟩
    ·simp only [Mn]
     rw [Da (show (k : Int) < ((ja l : Nat) : Int) by omega), Uc hk]
     simp only [cond_true, jb, Vv, Xm, Ft]
     generalize hx : l[k] = x
     cases hev : Zg x with
     | false => rfl
     | true =>
      have hkey := Dt hev
      simp only [jg, cond_false, jk]
      rw [Rs s.2 hkey.2.2.1, Da hkey.2.2.1]
      simp only [jb, cond_true]
      by_cases h0 : k = 0
      ·subst h0
       rw [Ea (show ¬ ((0 : Nat) : Int) > 0 by omega), Ea (show ¬ s.1 > x.1 by rw [hs0 rfl]; omega)]
       cases (x.2.2.1 == (Nl s.2 x.2.1 == 1)) <;> rfl
      ·rw [Da (show (k : Int) > 0 by omega), Vd (by omega) (by omega), show (k : Int) - 1 = ((k - 1 : Nat) : Int) by omega, Uc (show k - 1 < l.length by omega)]
       rw [hs1 (by omega) (by omega)]
       simp only [jb, cond_true]
       cases decide (l[k - 1].1 > x.1) <;> cases (x.2.2.1 == (Nl s.2 x.2.1 == 1)) <;> rfl
    ·intro s' h
     unfold Xm at h
     cases hc : Ft s l[k] with
     | false => rw [hc] at h; simp at h
     | true =>
      rw [hc] at h
      simp only [cond_true, Sum.inl.injEq] at h
      refine ⟨by omega, fun _ _ => ?_⟩
      rw [← h]
      simp only [Nat.add_sub_cancel])
   (by
    intro s _
    simp only [Mn]
    rw [Ea (by omega)]; rfl) (by omega) (0, d) ⟨fun _ => rfl, fun _ h => absurd h (by omega)⟩
  unfold Ho
  erw [hl]
  simp only [cond_false, jb, SN, cond_true]
  cases Jc (fun x s x => Xm s x) 0 (0, d) l <;> rfl
 ·rw [Da (show ((ja l : Nat) : Int) > 64 by omega), Ea h64]; rfl
def PE (keys : Int) (l : List Ra) : Bool := Zd (fun _ (x : Ra) => !decide (x.2.1 ≥ keys)) 0 l
def Ed (q : List Ra) (d keys : Int) : Bool := PE keys q && (Sr q d).2
theorem Cu (q : List Ra) (d keys : Int) (hn : q.length ≤ La) : Hi q d keys = some (Ed q d keys, ()) := by
 have h20 : La = 1048576 := rfl
 have hl := Tg (step := fun x => Lj x.1.1 x.1.2.1 x.1.2.2.1 x.1.2.2.2.1 x.1.2.2.2.2.1 x.1.2.2.2.2.2.1) q (fun _ (x : Ra) => !decide (x.2.1 ≥ keys)) (fun i => ((q, d, keys, q, ((ja q : Nat) : Int), i, ()), ()))
  (.inl ((q, d, ()), ())) (.inr ((false, ()), ())) (by
   intro k hk
   simp only [Lj]
   rw [Da (show (k : Int) < ((ja q : Nat) : Int) by omega), Uc hk]
   simp only [cond_true, jb]
   cases decide (q[k].2.1 ≥ keys) <;> rfl) (by
   simp only [Lj]
   rw [Ea (by omega)]; rfl) (by omega)
 unfold Hi Yk Ed PE
 erw [hl]
 simp only [jb]
 cases Zd (fun _ (x : Ra) => !decide (x.2.1 ≥ keys)) 0 q with
 | false => rfl
 | true => simp only [cond_true, qj, VF q d hn, jb]; rfl
def Ie (t : Uw) : Bool := decide (1 ≤ t.1 ∧ t.1 ≤ 1000) && (decide (0 ≤ t.2.1 ∧ t.2.1 ≤ 1000) && decide (0 ≤ t.2.2.1 ∧ t.2.2.1 ≤ 2))
theorem Au (t : Uw) : Nm t = some (Ie t, ()) := by
 unfold Nm Ie
 simp only [Il, Jl]
 apply Rd
 simp only [Le, decide_eq_true_eq, jq, and_false, or_false, jd]
 omega
def QE (l : List Ra) : Int := (l.getD (l.length - 1) (0, 0, false, ())).1
def Wh (l : List Ra) (t : Int) : Bool := ((l.length : Int) == 0) || decide (QE l ≤ t)
theorem DU {l : List Ra} (h : 0 < l.length) (hn : l.length ≤ La) : ∃ x, Cd l (j5 .i64 (((ja l : Nat) : Int) - 1)) = some x ∧ x.1 = QE l := by
 have h20 : La = 1048576 := rfl
 refine ⟨l[l.length - 1], ?_, ?_⟩
 ·rw [Vd (by omega) (by omega), show ((ja l : Nat) : Int) - 1 = ((l.length - 1 : Nat) : Int) by omega, Uc (by omega)]
 ·simp [QE, List.getD, je (show l.length - 1 < l.length by omega)]
theorem Bu (l : List Ra) (t : Int) (hn : l.length ≤ La) : Gi l t = some (Wh l t, ()) := by
 unfold Gi Wh
 by_cases h0 : l.length = 0
 ·simp [h0]
 ·obtain ⟨x, h1, h2⟩ := DU (l := l) (by omega) hn
  rw [h1, show (((l.length : Nat) : Int) == 0) = false by simp; intro h; rw [h] at h0; simp at h0]
  simp only [cond_false, jb, h2, Bool.false_or]
noncomputable def Jg (d : Nb) : Bool :=
 Ai d.1 && (Ie d.2.1 && (decide (0 ≤ d.2.2.2.1 ∧ d.2.2.2.1 ≤ 1000000) && (decide (0 ≤ d.2.2.2.2.1 ∧ d.2.2.2.2.1 ≤ d.2.2.2.1) && (Ed d.2.2.1 (Cr d.1.2.2.2.1) d.1.1.1 && (Wh d.2.2.1 d.2.2.2.1 &&
  (decide (0 ≤ d.2.2.2.2.2.1 ∧ d.2.2.2.2.2.1 ≤ d.1.1.1) && decide (0 ≤ d.2.2.2.2.2.2.1 ∧ d.2.2.2.2.2.2.1 ≤ d.2.2.2.1)))))))
theorem Lz (d : Nb) : Dc Me d = Dc Tb d.1 + Dc (.sl Fl) d.2.2.1 := by
 simp only [Dc, Nat.add_zero, js]
theorem Nv (l : List Ra) : Dc (.sl Fl) l = l.length := Is (e := Fl) rfl l
theorem KB {e : Wa} (h : Ai e = true) : Ld e.2.2.2.1 = true := by
 simp only [Ai, jd] at h
 exact h.2.2.1
theorem Zt (d : Nb) (hz : Dc Me d ≤ La) : Ei d = some (Jg d, ()) := by
 have hz' := hz
 rw [Lz, Nv] at hz'
 have hz2 := hz'
 rw [Ct, Hs] at hz2
 unfold Ei Jg
 rw [Rl _ (by omega)]
 cases he : Ai d.1 with
 | false => rfl
 | true =>
  have hh := Jt (KB he)
  simp only [jb, jg, cond_false, jk, Au]
  cases Ie d.2.1 with
  | false => rfl
  | true =>
   rw [Dv _ (by omega) hh]
   simp only [jb, jg, cond_false, jk]
   rw [Cu _ _ _ (by omega), Bu _ _ (by omega)]
   simp only [jb]
   have key : ∀ a b c e f g h i j k : Bool, cond a (some (false, ())) (cond b (some (false, ())) (cond c (some (false, ())) (cond e (some (false, ())) (cond (!f) (some (false, ())) (cond (!g) (some (false, ())) (cond h (cond i (cond j (some (k, ())) (some (false, ()))) (some (false, ()))) (some (false, ())))))))) =
    some ((((!a && !b) && ((!c && !e) && (f && (g && ((h && i) && (j && k)))))), ()) : Bool × Unit) := by
    intro a b c e f g h i j k
    cases a <;> cases b <;> cases c <;> cases e <;> cases f <;> cases g <;> cases h <;> cases i <;> cases j <;> cases k <;> rfl
   erw [key]
   apply Rd
   simp only [jd, Bool.not_eq_true', decide_eq_true_eq, decide_eq_false_iff_not]
   constructor
   ·rintro ⟨⟨h1, h2⟩, ⟨h3, h4⟩, h5, h6, ⟨h7, h8⟩, h9, h10⟩
    exact ⟨⟨by omega, by omega⟩, ⟨by omega, by omega⟩, h5, h6, ⟨h7, h8⟩, h9, h10⟩
   ·rintro ⟨⟨h1, h2⟩, ⟨h3, h4⟩, h5, h6, ⟨h7, h8⟩, h9, h10⟩
    exact ⟨⟨by omega, by omega⟩, ⟨by omega, by omega⟩, h5, h6, ⟨h7, h8⟩, h9, h10⟩

def YN {S : Type} (g : Nat → S → S) : Nat → S → S
 | 0, s => s
 | n + 1, s => g n (YN g n s)
theorem GF {e : Ty} {c : Nat} : ∀ {w : List (T e)}, (∀ x ∈ w, Dc e x ≤ c) → Dc (.sl e) w ≤ (c + 1) * w.length
 | [], _ => by simp [Dc]
 | x :: r, h => by
  have h1 := h x (by simp)
  have h2 : Dc (.sl e) r ≤ (c + 1) * r.length := GF fun y hy => h y (by simp [hy])
  have h3 : Dc (.sl e) r = ja r + (List.map (Dc e) r).sum := rfl
  have h4 : Dc (.sl e) (x :: r) = (ja r + 1) + (Dc e x + (List.map (Dc e) r).sum) := by simp [Dc]
  rw [h4, jw, Nat.mul_add]
  omega
theorem Kt {n : Nat} (h : n ≤ 1073741824) : jx n Cb = true := ji h
theorem DE {α β : Type} (f : α → β) : ∀ (xs : List α) (k : Nat) (o : List β), Ce (fun _ o x => jf o [f x]) k o xs = o ++ xs.map f
 | [], _, o => by simp [Ce]
 | x :: r, k, o => by
  simp only [Ce]
  rw [DE f r]
  simp
theorem Wz {X R α β : Type} {step : X → Option (X ⊕ R)} (xs : List α) (f : α → β) (I : List β → Int → X) (out : List β → R) (hn : xs.length ≤ 1073741824)
 (h : ∀ k (hk : k < xs.length) (o : List β), ja o = k → step (I o (k : Int)) = some (.inl (I (jf o [f xs[k]]) (j5 .i64 ((k : Int) + 1)))))
 (he : ∀ o : List β, step (I o (xs.length : Int)) = some (.inr (out o))) : Cc step (I [] 0) = some (out (xs.map f)) := by
 have := (Fm (step := step) xs (fun _ o x => jf o [f x]) I out (fun k o => ja o = k) (fun k hk o ho => ⟨h k hk o ho, by simp [ho]⟩) (fun o _ => he o) (by omega) [] rfl).1
 rw [this, DE]
 rfl
theorem J2 (a : List Int) : Dc (.sl int) a = a.length := Is (e := int) rfl a
theorem JK (a : List Ia) : Dc (.sl Xc) a = a.length := Is (e := Xc) rfl a
theorem KK (r : Ga) : Dc Md r = r.2.1.length := by
 show 0 + (Dc (.sl int) r.2.1 + 0) = _
 rw [J2]; omega
theorem Hq (l : List Int) (h : l.length ≤ La) : Bj l = some (l, ()) := by
 have h20 : La = 1048576 := rfl
 unfold Bj
 rw [Kt (by simp; omega)]
 rfl
theorem Sz (r : Ga) (h : r.2.1.length ≤ La) : Ln r = some (r, ()) := by
 unfold Ln
 rw [Hq _ h]
 rfl
theorem HV {a : List Dg} (hz : Dc (.sl Eh) a ≤ La) {k : Nat} (hk : k < a.length) : a[k].2.1.2.1.length ≤ La := by
 have h1 : Dc (.sl Eh) a = ja a + (List.map (Dc Eh) a).sum := rfl
 have h2 := Kr (f := Dc Eh) hk
 have h3 : Dc Eh a[k] = Dc Md a[k].2.1 := by
  show 0 + (Dc Md a[k].2.1 + 0) = _
  omega
 rw [KK] at h3
 omega
theorem GB (a : List Dg) (hz : Dc (.sl Eh) a ≤ La) : To a = some (a.map (fun x => x.2.1), ()) := by
 have h20 : La = 1048576 := rfl
 have h1 : Dc (.sl Eh) a = ja a + (List.map (Dc Eh) a).sum := rfl
 have hl := Wz (step := fun x : (List Ga × List Dg × Int × Int × Unit) × Unit => Hj x.1.1 x.1.2.1 x.1.2.2.1 x.1.2.2.2.1) a (fun x => x.2.1)
  (fun o k => ((o, a, (a.length : Int), k, ()), ())) (fun o => .inl ((o, ()), ())) (by omega) (fun k hk o ho => by
   simp only [Hj]
   rw [Da (by omega), Uc hk]
   simp only [cond_true, jb]
   rw [Sz _ (HV hz hk)]
   simp only [jb]
   rw [Kt (by simp only [jw, j7]; omega)]
   rfl) (fun o => by
   simp only [Hj]
   rw [Ea (by omega)]
   rfl)
 unfold To Uk
 erw [hl]
 rfl

theorem IW : (2 : Nat) ^ 63 = 9223372036854775808 := rfl
theorem Ww {a : Nat} (ha : a < 2 ^ 63) : (BitVec.ofInt 64 (a : Int)).toNat = a := by
 rw [BitVec.ofInt_natCast, BitVec.toNat_ofNat, Nat.mod_eq_of_lt (by omega)]
theorem BU {a b : Nat} (ha : a < 2 ^ 63) (hb : b < 2 ^ 63) : Zn .i64 (a : Int) (b : Int) = ((a &&& b : Nat) : Int) := by
 have h : (BitVec.ofInt (IntKind.bits .i64) (a : Int) &&& BitVec.ofInt (IntKind.bits .i64) (b : Int)).toNat = a &&& b := by
  rw [BitVec.toNat_and]; erw [Ww ha, Ww hb]
 unfold Zn
 rw [h]
 have h2 : a &&& b ≤ a := Nat.and_le_left
 have h3 := IW
 exact Vd (by omega) (by omega)
theorem OL {a b : Nat} (ha : a < 2 ^ 63) (hb : b < 2 ^ 63) : Ud .i64 (a : Int) (b : Int) = ((a ||| b : Nat) : Int) := by
 have h : (BitVec.ofInt (IntKind.bits .i64) (a : Int) ||| BitVec.ofInt (IntKind.bits .i64) (b : Int)).toNat = a ||| b := by
  rw [BitVec.toNat_or]; erw [Ww ha, Ww hb]
 unfold Ud
 rw [h]
 have h2 : a ||| b < 2 ^ 63 := Nat.or_lt_two_pow ha hb
 have h3 := IW
 exact Vd (by omega) (by omega)
theorem HU {a b : Nat} (ha : a < 2 ^ 63) (hb : b < 2 ^ 63) : Zl .i64 (a : Int) (b : Int) = ((a ^^^ b : Nat) : Int) := by
 have h : (BitVec.ofInt (IntKind.bits .i64) (a : Int) ^^^ BitVec.ofInt (IntKind.bits .i64) (b : Int)).toNat = a ^^^ b := by
  rw [BitVec.toNat_xor]; erw [Ww ha, Ww hb]
 unfold Zl
 rw [h]
 have h2 : a ^^^ b < 2 ^ 63 := qm ha hb
 have h3 := IW
 exact Vd (by omega) (by omega)
theorem GU (a : Nat) {k : Nat} (hk : k ≤ 64) : Ow .i64 (a : Int) (k : Int) = ((a >>> k : Nat) : Int) := by
 unfold Ow
 have h1 : min (jy (k : Int)) (IntKind.bits .i64) = k := by
  show min (jy (k : Int)) 64 = k
  rw [jn]; omega
 rw [h1, Nat.shiftRight_eq_div_pow]
 have h2 : (2 : Int) ^ k = ((2 ^ k : Nat) : Int) := by simp
 rw [h2]
 exact (Int.fdiv_eq_ediv_of_nonneg _ (Int.natCast_nonneg _)).trans (by simp)
theorem Vx {a k : Nat} (ha : a < 2 ^ 63) (hk : k ≤ 64) : (Nl (a : Int) (k : Int) == 1) = a.testBit k := by
 unfold Nl
 have h1 : a >>> k ≤ a := by rw [Nat.shiftRight_eq_div_pow]; exact Nat.div_le_self _ _
 have h3 := IW
 rw [GU a hk]
 show (Zn .i64 ((a >>> k : Nat) : Int) ((1 : Nat) : Int) == 1) = _
 rw [BU (by omega) (by omega), Nat.and_one_is_mod, Nat.testBit_eq_decide_div_mod_eq, Nat.shiftRight_eq_div_pow]
 have : a / 2 ^ k % 2 = 0 ∨ a / 2 ^ k % 2 = 1 := by omega
 rcases this with h | h <;> rw [h] <;> rfl
theorem Hv {k : Nat} (hk : k ≤ 62) : (2 : Nat) ^ k < 2 ^ 63 := Nat.pow_lt_pow_right (by omega) (by omega)
def cnt : Nat → Nat → Nat
 | 0, _ => 0
 | k + 1, n => n % 2 + cnt k (n / 2)
def u1 (a : Nat) : Nat := ((a / 2) &&& 85) + (a &&& 85)
def u2 (a : Nat) : Nat := ((a / 4) &&& 51) + (a &&& 51)
def M5 : Nat := 6148914691236517205
def M3 : Nat := 3689348814741910323
def MF : Nat := 1085102592571150095
def s1 (n : Nat) : Nat := (n / 2 &&& M5) + (n &&& M5)
def s2 (n : Nat) : Nat := (n / 4 &&& M3) + (n &&& M3)
def s3 (n : Nat) : Nat := (n / 16 + n) &&& MF


structure NM (c : IG) : Prop where
 a : c.1.length ≤ La
 q : c.2.2.1.length ≤ La
 e : c.2.2.2.2.2.2.1.length ≤ La
 r : ∀ x ∈ c.2.2.2.2.2.2.1, x.2.1 ≤ 9223372036854775807
theorem XT {q : List Ra} {d keys : Int} (h : Ed q d keys = true) : Gv (Jc (fun _ s x => Xm s x) 0 (0, d) q) = true := by
 simp only [Ed, Sr, SN, jd] at h
 have h2 := h.2
 cases hf : Jc (fun _ s x => Xm s x) 0 (0, d) q with
 | inl s => rfl
 | inr u => rw [hf] at h2; cases hd : decide (q.length ≤ 64) <;> rw [hd] at h2 <;> simp at h2
structure Raa (x : Ra) : Prop where
 lo : 0 ≤ x.1
 hi : x.1 ≤ 31
 left : 0 ≤ x.2.1
structure Gaa (b : RZ) : Prop where
 d : b.2.1.2.2.2.2.2.1.length ≤ La
 c : NM b.2.2.1
 x : Dc Me b.2.2.2.1 ≤ La
theorem IU {m : Na} (hz : Dc Kb m ≤ La) : ja m.2.1 ≤ La ∧ ∀ k (hk : k < m.2.1.length), m.2.1[k].length ≤ La := by
 have h0 : Dc Kb m = 0 + (Dc (.sl (.sl Xc)) m.2.1 + 0) := rfl
 have h1 : Dc (.sl (.sl Xc)) m.2.1 = ja m.2.1 + (List.map (Dc (.sl Xc)) m.2.1).sum := rfl
 refine ⟨by omega, fun k hk => ?_⟩
 have h2 := Kr (f := Dc (.sl Xc)) hk
 rw [JK] at h2
 omega
theorem Gt (m : Na) (hz : Dc Kb m ≤ La) : Jj m = some (m, ()) := by
 have h20 : La = 1048576 := rfl
 obtain ⟨h1, h2⟩ := IU hz
 have hl := Wz (step := fun x : (Unit × Unit × List (List Ia) × Int × Int × Unit) × Na × Na × Unit => Qi x.1.1 x.1.2.1 x.1.2.2.1 x.1.2.2.2.1 x.1.2.2.2.2.1 x.2.1 x.2.2.1) m.2.1 (fun x => x)
  (fun o k => (((), (), m.2.1, (m.2.1.length : Int), k, ()), ((0, [], ()), (m.1, o, ()), ()))) (fun o => .inl (((), (), ()), ((0, [], ()), (m.1, o, ()), ()))) (by omega) (fun k hk o ho => by
   have := h2 k hk
   simp only [Qi]
   rw [Da (by omega), Uc hk]
   simp only [cond_true, jb]
   rw [Kt (by simp; omega), Kt (by simp only [jw, j7]; omega)]
   rfl) (fun o => by
   simp only [Qi]
   rw [Ea (by omega)]
   rfl)
 unfold Jj Sj
 erw [hl]
 rw [List.map_id']
 rfl
theorem YR {L : List (List Zb)} (hz : Dc (.sl (.sl Hc)) L ≤ La) : ja L ≤ La ∧ ∀ k (hk : k < L.length), L[k].length ≤ La := by
 have h1 : Dc (.sl (.sl Hc)) L = ja L + (List.map (Dc (.sl Hc)) L).sum := rfl
 refine ⟨by omega, fun k hk => ?_⟩
 have h2 := Kr (f := Dc (.sl Hc)) hk
 rw [IM] at h2
 omega
theorem Ht (L : List (List Zb)) (hz : Dc (.sl (.sl Hc)) L ≤ La) : Kj L = some (L, ()) := by
 have h20 : La = 1048576 := rfl
 obtain ⟨h1, h2⟩ := YR hz
 have hl := Wz (step := fun x => Ri x.1.1 x.1.2.1 x.1.2.2.1 x.1.2.2.2.1) L (fun x => x)
  (fun o k => ((o, L, ((ja L : Nat) : Int), k, ()), ())) (fun o => .inl ((o, ()), ())) (by omega) (fun k hk o ho => by
   have := h2 k hk
   simp only [Ri]
   rw [Da (by omega), Uc hk]
   simp only [cond_true, jb]
   rw [Kt (by simp; omega), Kt (by simp only [jw, j7]; omega)]
   rfl) (fun o => by
   simp only [Ri]
   rw [Ea (by omega)]
   rfl)
 unfold Kj Tj
 erw [hl]
 rw [List.map_id']
 rfl
theorem Cf (e : Wa) (hz : Dc Tb e ≤ La) : Pf e = some (e, ()) := by
 have h20 : La = 1048576 := rfl
 rw [Ct, Hs] at hz
 unfold Pf
 rw [Gt _ (by omega), Ht _ (by omega), Kt (by simp; omega)]
 rfl
theorem Az (d : Nb) (hz : Dc Me d ≤ La) : Pi d = some (d, ()) := by
 have h20 : La = 1048576 := rfl
 rw [Lz, Nv] at hz
 unfold Pi
 rw [Cf _ (by omega), Kt (by simp; omega)]
 rfl
theorem EU : ∀ (a b : List Int), a.length = b.length → Zd (fun k x => b.getD k 0 == x) 0 a = (b == a)
 | a, b, h => by
  rw [qs, Yh, beq_iff_eq]
  constructor
  ·intro hj
   apply List.ext_getElem h.symm
   intro i h1 h2
   have := hj i h2
   rw [js, beq_iff_eq, qi, je h1] at this
   exact this
  ·rintro rfl i hi
   rw [js, beq_iff_eq, qi, je hi]; rfl
theorem SC (a b : List Int) (hn : a.length ≤ Cb) : Xp a b = some (a == b, ()) := by
 have hlim := Xf
 unfold Xp
 by_cases h : a.length = b.length
 ·have hl := Tg (step := fun x => Gk x.1.1 x.1.2.1 x.1.2.2.1 x.1.2.2.2.1) a (fun k x => b.getD k 0 == x) (fun i => ((a, b, ((ja a : Nat) : Int), i, ()), ()))
   (.inl ((), ())) (.inr ((false, ()), ())) (by
    intro k hk
    simp only [Gk]
    rw [Da (show (k : Int) < ((ja a : Nat) : Int) by omega), Uc hk, Uc (show k < b.length by omega), qi, je (show k < b.length by omega)]
    simp only [cond_true, jb, Option.getD_some, bne]
    rw [show (a[k] == b[k]) = (b[k] == a[k]) by rw [qs, beq_iff_eq, beq_iff_eq]; exact eq_comm]
    cases b[k] == a[k] <;> rfl) (by
    simp only [Gk]
    rw [Ea (by omega)]; rfl) (by omega)
  have e : (((ja a : Nat) : Int) != ((ja b : Nat) : Int)) = false := by simp [h]
  rw [e]
  simp only [cond_false]
  unfold Xl
  erw [hl]
  rw [EU a b h, show (b == a) = (a == b) by rw [qs, beq_iff_eq, beq_iff_eq]; exact eq_comm]
  cases a == b <;> rfl
 ·have e : (((ja a : Nat) : Int) != ((ja b : Nat) : Int)) = true := by simp; omega
  have e2 : (a == b) = false := by rw [beq_eq_false_iff_ne]; intro hh; exact h (by rw [hh])
  rw [e, e2]; rfl
theorem EV (a b : T Yd) (h1 : ja a.2.1 ≤ Cb) (_ : ja b.2.1 ≤ Cb) : (fun x : T (.p Yd (.p Yd .u)) => Ij x.1 x.2.1) (a, b, ()) = some (Rn a b, ()) := by
 show Ij a b = _
 unfold Ij
 rw [SC _ _ h1]
 simp only [jb, Rn]
 cases (show Int from a.1) == (show Int from b.1) <;> rfl
theorem NP (c : T Vc → T Vc → Option Bool) (l : List (T Vc)) (hl : ja l ≤ Cb) : ∀ (ys : List (T Vc)) (k : Nat) (out q : List (T Vc)) (a : T Vc), l.drop k = ys → k ≤ ja l → ja out + ja ys ≤ Cb →
 Xx c a ys = some q → Pm c (((), out, l, ((ja l : Nat) : Int), (k : Int), ()), (a, ())) = some (.inl ((jf out q, ()), ())) := by
 have hlim := Xf
 intro ys
 induction ys with
 | nil =>
  intro k out q a hd hk _ hq
  have := HC hd hk
  subst this
  simp only [Xx, jc] at hq
  subst hq
  have hs : Qr c () out l ((ja l : Nat) : Int) ((ja l : Nat) : Int) a = some (.inr (.inl ((out, ()), ()))) := by
   unfold Qr
   rw [Ea (by omega)]; rfl
  unfold Pm
  rw [Lf hs]
  simp
 | cons y ys ih =>
  intro k out q a hd hk hlen hq
  obtain ⟨hk', hy, hd'⟩ := Mz hd
  simp only [Xx] at hq
  cases hc : c a y with
  | none => rw [hc] at hq; simp at hq
  | some b =>
   rw [hc] at hq
   simp only [jb] at hq
   cases hq2 : Xx c y ys with
   | none => rw [hq2] at hq; simp at hq
   | some q2 =>
    rw [hq2] at hq
    simp only [jb, jc] at hq
    have hlc : ja (y :: ys) = ja ys + 1 := rfl
    have hs : Qr c () out l ((ja l : Nat) : Int) (k : Int) a = some (.inl (((), cond b out (jf out [y]), l, ((ja l : Nat) : Int), ((k + 1 : Nat) : Int), ()), (y, ()))) := by
     unfold Qr RV
     rw [Da (show (k : Int) < ((ja l : Nat) : Int) by omega), Uc hk', hy]
     simp only [cond_true, jb, hc]
     rw [Bg (by omega)]
     cases b with
     | true => rfl
     | false =>
      rw [show jx (ja out + ja ([y] : List (Int × ((T .o) × Unit)))) Cb = true from ji (by simp only [jw, j7]; omega)]
      rfl
    unfold Pm
    rw [Lf hs]
    simp only [jb, qj]
    have := ih (k + 1) (cond b out (jf out [y])) q2 y hd' hk' (by cases b with
     | true => simp only [cond_true]; omega
     | false => simp only [cond_false, List.append_eq, qe, jw, j7]; omega) hq2
    unfold Pm at this
    rw [this, ← hq]
    cases b with
    | true => rfl
    | false => simp
theorem QW (c : T Vc → T Vc → Option Bool) : ∀ (a : T Vc) (l r : List (T Vc)), ja l ≤ Cb → Xx c a l = some r → (fun x : T (.p Vc (.p (.sl Vc) .u)) => KN c x.1 x.2.1) (a, l, ()) = some (r, ()) := by
 intro a l r hl hq
 show KN c a l = _
 unfold KN
 have := NP c l hl l 0 [] r a rfl (Nat.zero_le _) (by simpa using hl) hq
 erw [this]
 rfl
theorem IH : ∀ {a b : List Int}, a.Pairwise (· < ·) → b.Pairwise (· < ·) → (∀ x, x ∈ a ↔ x ∈ b) → a = b
 | [], [], _, _, _ => rfl
 | [], y :: b, _, _, h => by have := (h y).2 (by simp); simp at this
 | x :: a, [], _, _, h => by have := (h x).1 (by simp); simp at this
 | x :: a, y :: b, ha, hb, h => by
  rw [List.pairwise_cons] at ha hb
  have hxy : x = y := by
   rcases jp.1 ((h x).1 (by simp)) with h1 | h1
   ·exact h1
   ·rcases jp.1 ((h y).2 (by simp)) with h2 | h2
    ·exact h2.symm
    ·have := hb.1 x h1; have := ha.1 y h2; omega
  subst hxy
  congr 1
  refine IH ha.2 hb.2 fun z => ⟨fun hz => ?_, fun hz => ?_⟩
  ·rcases jp.1 ((h z).1 (by simp [hz])) with h1 | h1
   ·have := ha.1 z hz; omega
   ·exact h1
  ·rcases jp.1 ((h z).2 (by simp [hz])) with h1 | h1
   ·have := hb.1 z hz; omega
   ·exact h1
def Wy (o : List Int) (x : Int) : List Int := cond ((x != 0) && !o.any (fun y => y == x)) (jf o [x]) o
def VI (k : Nat) (o l : List Int) : List Int := Ce (fun _ o x => Wy o x) k o l
theorem OP : ∀ (l : List Int) (k : Nat) (o : List Int) (y : Int), y ∈ VI k o l ↔ y ∈ o ∨ (y ∈ l ∧ y ≠ 0)
 | [], _, o, y => by simp [VI, Ce]
 | x :: l, k, o, y => by
  have := OP l (k + 1) (Wy o x) y
  simp only [VI, Ce] at this ⊢
  rw [this]
  unfold Wy
  by_cases h0 : x = 0
  ·subst h0
   simp only [bne_self_eq_false, Bool.false_and, cond_false, jp]
   constructor
   ·rintro (h | ⟨h1, h2⟩)
    ·exact .inl h
    ·exact .inr ⟨.inr h1, h2⟩
   ·rintro (h | ⟨h1 | h1, h2⟩)
    ·exact .inl h
    ·exact absurd h1 h2
    ·exact .inr ⟨h1, h2⟩
  ·by_cases h1 : o.any (fun y => y == x) = true
   ·rw [h1]
    simp only [jg, Bool.and_false, cond_false, jp]
    have hx : x ∈ o := by
     obtain ⟨z, hz, e⟩ := List.any_eq_true.1 h1
     rw [beq_iff_eq] at e; rw [← e]; exact hz
    constructor
    ·rintro (h | ⟨h1, h2⟩)
     ·exact .inl h
     ·exact .inr ⟨.inr h1, h2⟩
    ·rintro (h | ⟨h1 | h1, h2⟩)
     ·exact .inl h
     ·exact .inl (h1 ▸ hx)
     ·exact .inr ⟨h1, h2⟩
   ·have e : ((x != 0) && !o.any (fun y => y == x)) = true := by
     simp only [qa] at h1
     rw [h1]; simp [h0]
    rw [e]
    simp only [cond_true, List.append_eq, jl, jp, List.not_mem_nil, or_false]
    constructor
    ·rintro ((h | h) | ⟨h1, h2⟩)
     ·exact .inl h
     ·exact .inr ⟨.inl h, by rw [h]; exact h0⟩
     ·exact .inr ⟨.inr h1, h2⟩
    ·rintro (h | ⟨h1 | h1, h2⟩)
     ·exact .inl (.inl h)
     ·exact .inl (.inr h1)
     ·exact .inr ⟨h1, h2⟩
theorem PG : ∀ (l : List Int) (k : Nat) (o : List Int), o.Pairwise (· < ·) → l.Pairwise (· ≤ ·) → (∀ y ∈ o, ∀ x ∈ l, y ≤ x) → (VI k o l).Pairwise (· < ·)
 | [], _, o, ho, _, _ => by simpa [VI, Ce] using ho
 | x :: l, k, o, ho, hl, h => by
  rw [List.pairwise_cons] at hl
  have key : (Wy o x).Pairwise (· < ·) ∧ ∀ y ∈ Wy o x, ∀ z ∈ l, y ≤ z := by
   unfold Wy
   cases hc : (x != 0) && !o.any (fun y => y == x) with
   | false => exact ⟨ho, fun y hy z hz => h y hy z (by simp [hz])⟩
   | true =>
    simp only [jd, Bool.not_eq_true', List.any_eq_false, beq_iff_eq] at hc
    simp only [cond_true, List.append_eq]
    refine ⟨?_, ?_⟩
    ·rw [List.pairwise_append]
     refine ⟨ho, by simp, fun y hy z hz => ?_⟩
     simp only [jp, List.not_mem_nil, or_false] at hz
     subst hz
     have h1 := h y hy z (by simp)
     have h2 := hc.2 y hy
     omega
    ·intro y hy z hz
     rcases jl.1 hy with hy | hy
     ·exact h y hy z (by simp [hz])
     ·simp only [jp, List.not_mem_nil, or_false] at hy
      subst hy
      exact hl.1 z hz
  have := PG l (k + 1) (Wy o x) key.1 hl.2 key.2
  simpa [VI, Ce] using this
def Mi (l : List Ka) : Nat → List Int
 | 0 => []
 | n + 1 => cond (l.any fun h => h.2.1.2.1 == ((n + 1 : Nat) : Int)) (Mi l n ++ [((n + 1 : Nat) : Int)]) (Mi l n)
theorem Uq (l : List Ka) : ∀ (n : Nat) (x : Int), x ∈ Mi l n ↔ (1 ≤ x ∧ x ≤ (n : Int)) ∧ ∃ h ∈ l, h.2.1.2.1 = x
 | 0, x => by simp [Mi]; intro h1 h2; omega
 | n + 1, x => by
  simp only [Mi]
  cases hc : (l.any fun h => h.2.1.2.1 == ((n + 1 : Nat) : Int)) with
  | true =>
   simp only [cond_true, jl, Uq l n x, jp, List.not_mem_nil, or_false]
   obtain ⟨h, hh, e⟩ := List.any_eq_true.1 hc
   rw [beq_iff_eq] at e
   constructor
   ·rintro (⟨h1, h2⟩ | rfl)
    ·exact ⟨by omega, h2⟩
    ·exact ⟨by omega, h, hh, e⟩
   ·rintro ⟨h1, h2⟩
    by_cases hx : x = ((n + 1 : Nat) : Int)
    ·exact .inr hx
    ·exact .inl ⟨by omega, h2⟩
  | false =>
   simp only [cond_false, Uq l n x]
   rw [List.any_eq_false] at hc
   constructor
   ·rintro ⟨h1, h2⟩; exact ⟨by omega, h2⟩
   ·rintro ⟨h1, h, hh, e⟩
    refine ⟨?_, h, hh, e⟩
    have := hc h hh
    rw [beq_iff_eq] at this
    omega
theorem Wt (l : List Ka) : ∀ n, (Mi l n).Pairwise (· < ·)
 | 0 => by simp [Mi]
 | n + 1 => by
  simp only [Mi]
  cases (l.any fun h => h.2.1.2.1 == ((n + 1 : Nat) : Int)) with
  | true =>
   simp only [cond_true]
   rw [List.pairwise_append]
   refine ⟨Wt l n, by simp, fun y hy z hz => ?_⟩
   simp only [jp, List.not_mem_nil, or_false] at hz
   have := (Uq l n y).1 hy
   omega
  | false => exact Wt l n
theorem XD (l : List Ka) : ∀ n, (Mi l n).length ≤ n
 | 0 => by simp [Mi]
 | n + 1 => by
  have := XD l n
  simp only [Mi]
  cases (l.any fun h => h.2.1.2.1 == ((n + 1 : Nat) : Int)) <;> simp <;> omega
def W2 (l : List Ka) : Int := Ce (fun _ s (h : Ka) => cond (h.2.1.1 == 2 || h.2.1.1 == 8) (Ud .i64 s h.2.1.2.2.1) s) 0 0 l
def Sb (l : List Ka) : Ga := (W2 l, Mi l 56, ())
theorem Kw {a : Ia} (h : Zc a = true) : 0 ≤ a.2.1 ∧ a.2.1 ≤ 56 := by
 rw [Vb] at h
 unfold Ub at h
 omega
theorem XF (l : List Int) (x : Int) (hn : l.length ≤ Cb) : Ts l x = some (l.any (fun y => y == x), ()) := by
 have hlim := Xf
 have hl := Tg (step := fun y => Nn y.1.1 y.1.2.1 y.1.2.2.1 y.1.2.2.2.1) l (fun _ y => !(y == x)) (fun i => ((x, l, ((ja l : Nat) : Int), i, ()), ()))
  (.inl ((), ())) (.inr ((true, ()), ())) (by
   intro k hk
   simp only [Nn]
   rw [Da (show (k : Int) < ((ja l : Nat) : Int) by omega), Uc hk]
   simp only [cond_true, jb]
   cases l[k] == x <;> rfl) (by
   simp only [Nn]
   rw [Ea (by omega)]; rfl) (by omega)
 unfold Ts Io
 erw [hl]
 have : ∀ (l : List Int) (k : Nat), Zd (fun _ y => !(y == x)) k l = !l.any (fun y => y == x) := by
  intro l
  induction l with
  | nil => intro k; rfl
  | cons y l ih => intro k; simp only [Zd, List.any_cons, ih, Bool.not_or]
 rw [this]
 cases l.any (fun y => y == x) <;> rfl
theorem Xv (l : List Ka) (hn : l.length ≤ La) (hx : ∀ h ∈ l, 0 ≤ h.2.1.2.1 ∧ h.2.1.2.1 ≤ 56) : Vk (l.map fun h => h.2.1.2.1) = some (Mi l 56, ()) := by
 have h20 : La = 1048576 := rfl
 have hlim := Xf
 generalize hcs : (l.map fun h => h.2.1.2.1) = cs
 have hcl : cs.length = l.length := by rw [← hcs]; simp
 unfold Vk
 rw [Hq _ (by omega)]
 simp only [jb, sort_Ints, KW]
 rw [show jx (ja cs) Cb = true from ji (by omega)]
 simp only [cond_true, jb]
 generalize hss : (List.mergeSort cs fun x y => decide (x ≤ y)) = ss
 have hsl : ss.length = cs.length := by rw [← hss]; exact List.length_mergeSort _
 have hsm : ∀ x, x ∈ ss ↔ x ∈ cs := fun x => by rw [← hss]; exact List.mem_mergeSort
 have hsp : ss.Pairwise (· ≤ ·) := by
  rw [← hss]
  have := List.pairwise_mergeSort (le := fun x y : Int => decide (x ≤ y)) (by intro a b c; simp; omega) (by intro a b; simp; omega) cs
  exact this.imp (by intro a b h; simpa using h)
 have hl := (Fm (step := fun x => Vl x.1.1 x.1.2.1 x.1.2.2.1 x.1.2.2.2.1) ss (fun _ o x => Wy o x) (fun o i => ((o, ss, ((ja ss : Nat) : Int), i, ()), ())) (fun o => .inl ((o, ()), ())) (fun k o => o.length ≤ k) (by
  intro k hk o ho
  have hd : (Wy o ss[k]).length ≤ k + 1 := by
   unfold Wy
   cases (ss[k] != 0) && !o.any (fun y => y == ss[k]) <;> simp <;> omega
  refine ⟨?_, hd⟩
  simp only [Vl]
  rw [Da (show (k : Int) < ((ja ss : Nat) : Int) by omega), show Vi (ja ss) (k : Int) = true by rw [Mu]; exact Da hk, jn, je hk]
  simp only [cond_true, jb]
  rw [XF _ _ (by omega), show jx (ja o + ja ([ss[k]] : List Int)) Cb = true from ji (by simp only [jw, j7]; omega)]
  simp only [jb, Wy]
  cases ss[k] != 0 <;> cases o.any (fun y => y == ss[k]) <;> rfl)
  (by
   intro o _
   simp only [Vl]
   rw [Ea (by omega)]; rfl) (by omega) [] (jo _)).1
 unfold An
 erw [hl]
 simp only [jb, qj]
 congr 2
 refine IH (PG ss 0 [] (by simp) hsp (by simp)) (Wt l 56) fun x => ?_
 rw [show Ce (fun _ o x => Wy o x) 0 [] ss = VI 0 [] ss from rfl, OP, Uq, hsm, ← hcs]
 simp only [List.not_mem_nil, false_or, qq]
 constructor
 ·rintro ⟨⟨h, hh, rfl⟩, h0⟩
  have := hx h hh
  exact ⟨by omega, h, hh, rfl⟩
 ·rintro ⟨h1, h, hh, rfl⟩
  exact ⟨⟨h, hh, rfl⟩, by omega⟩
theorem Bf (l : List Ka) (hn : l.length ≤ La) (hv : Ld l = true) : Lb l = some (Sb l, ()) := by
 have h20 : La = 1048576 := rfl
 have hlim := Xf
 have hh := Jt hv
 have hl := (Fm (step := fun x => Ek x.1.1 x.1.2.1 x.1.2.2.1 x.1.2.2.2.1 x.1.2.2.2.2.1 x.1.2.2.2.2.2.1 x.2.1 x.2.2.1) l
  (fun _ (s : Int × List Int) (h : Ka) => (cond (h.2.1.1 == 2 || h.2.1.1 == 8) (Ud .i64 s.1 h.2.1.2.2.1) s.1, jf s.2 [h.2.1.2.1])) (fun s i => (((), (), s.2, l, ((ja l : Nat) : Int), i, ()), (((0 : Int), ([] : List Int), ()), (s.1, ([] : List Int), ()), ())))
  (fun s => .inl (((), (), s.2, ()), (((0 : Int), ([] : List Int), ()), (s.1, ([] : List Int), ()), ()))) (fun k s => s.2.length = k) (by
   intro k hk s hs
   refine ⟨?_, by simp [hs]⟩
   simp only [Ek]
   rw [Da (show (k : Int) < ((ja l : Nat) : Int) by omega), Uc hk]
   simp only [cond_true, jb]
   rw [show jx (ja s.2 + ja ([l[k].2.1.2.1] : List Int)) Cb = true from ji (by simp only [jw, j7]; omega)]
   cases l[k].2.1.1 == 2 <;> cases l[k].2.1.1 == 8 <;> rfl)
  (by
   intro s _
   simp only [Ek]
   rw [Ea (by omega)]; rfl) (by omega) (0, []) rfl).1
 have key : ∀ (l : List Ka) (k : Nat) (s : Int × List Int), Ce (fun _ (s : Int × List Int) (h : Ka) => (cond (h.2.1.1 == 2 || h.2.1.1 == 8) (Ud .i64 s.1 h.2.1.2.2.1) s.1, jf s.2 [h.2.1.2.1])) k s l =
  (Ce (fun _ s (h : Ka) => cond (h.2.1.1 == 2 || h.2.1.1 == 8) (Ud .i64 s h.2.1.2.2.1) s) k s.1 l, s.2 ++ l.map fun h => h.2.1.2.1) := by
  intro l
  induction l with
  | nil => intro k s; simp [Ce]
  | cons x l ih => intro k s; simp only [Ce]; rw [ih]; simp
 unfold Lb Sl
 rw [Tk _ hn, hv]
 simp only [jb, jg, cond_false]
 erw [hl]
 rw [key]
 simp only [jb, qj, List.nil_append]
 rw [Xv l hn (fun h hm => Kw (hh h hm).act)]
 rfl
def Nu (c : Int) : Bool := decide (1 ≤ c ∧ c ≤ 36) || ((c == 39) || (c == 42))
theorem Qz (c : Int) : Jn c = some (Nu c, ()) := by
 unfold Jn Nu
 by_cases h1 : c ≥ 1
 ·by_cases h2 : c ≤ 36
  ·rw [Da h1, Da h2, Da (show 1 ≤ c ∧ c ≤ 36 by omega)]; rfl
  ·rw [Da h1, Ea h2, Ea (show ¬ (1 ≤ c ∧ c ≤ 36) by omega)]
   cases c == 39 <;> rfl
 ·rw [Ea h1, Ea (show ¬ (1 ≤ c ∧ c ≤ 36) by omega)]
  cases c == 39 <;> rfl
def Lv (f o : Int) (c : Bool) (a : Ia) : Int × Int × Bool × Ia :=
 cond (a.1 == 2) (cond (a.2.1 == 0) (f, o, c, a) (f, 0, c && Nu a.2.1, a.1, a.2.1, cond ((c && Nu a.2.1) && (decide (a.2.1 ≤ 26) && (Ej .i64 (Ud .i64 a.2.2.1 o) 2 == 0))) 2 (Ud .i64 a.2.2.1 o), a.2.2.2))
  (cond (a.1 == 4) (Zl .i64 f (Ve .i64 1 a.2.2.2.1), o, c, a) (cond (a.1 == 5) (Ej .i64 (Ve .i64 1 a.2.2.2.1) 1, o, c, a)
   (cond (a.1 == 8) (f, cond (Zn .i64 o a.2.2.1 == a.2.2.1) (Ej .i64 o a.2.2.1) (Ud .i64 o a.2.2.1), c, a) (cond (a.1 == 10) (f, o, !c, a) (f, o, c, a)))))
theorem Uu {a : Ia} (h : Zc a = true) : 0 ≤ a.2.2.2.1 := by
 rw [Vb] at h
 unfold Ub at h
 omega
theorem Xr (m : Na) (M : List (List Zb)) (f o : Int) (h : List Ka) (c : Bool) (a : Ia) (ha : Zc a = true) :
 Zh (m, M, f, h, o, c, ()) a = some ((m, M, (Lv f o c a).1, h, (Lv f o c a).2.1, (Lv f o c a).2.2.1, ()), (Lv f o c a).2.2.2, ()) := by
 have hn := Uu ha
 unfold Zh Lv
 rw [Da hn]
 cases a.1 == 2 with
 | true =>
  cases a.2.1 == 0 with
  | true => rfl
  | false =>
   simp only [cond_true, cond_false, Qz, jb]
   cases c with
   | false => rfl
   | true =>
    cases Nu a.2.1 with
    | false => rfl
    | true => cases decide (a.2.1 ≤ 26) <;> cases Ej .i64 (Ud .i64 a.2.2.1 o) 2 == 0 <;> rfl
 | false =>
  cases a.1 == 4 with
  | true => rfl
  | false =>
   cases a.1 == 5 with
   | true => rfl
   | false =>
    cases a.1 == 8 with
    | true => cases Zn .i64 o a.2.2.1 == a.2.2.1 <;> rfl
    | false => cases a.1 == 10 <;> rfl
theorem WW : ∀ f : Fin 16, ∀ n : Fin 4, ∀ l : Fin 5, 1 ≤ n.val → n.val < l.val → f.val < 2 ^ l.val → f.val % 2 = 0 →
 0 ≤ Zl .i64 (f.val : Int) (Ve .i64 1 (n.val : Int)) ∧ Zl .i64 (f.val : Int) (Ve .i64 1 (n.val : Int)) < ((2 ^ l.val : Nat) : Int) ∧ (Zl .i64 (f.val : Int) (Ve .i64 1 (n.val : Int))).tmod 2 = 0 := by decide +kernel
theorem TX : ∀ n : Fin 4, ∀ l : Fin 5, n.val < l.val →
 0 ≤ Ej .i64 (Ve .i64 1 (n.val : Int)) 1 ∧ Ej .i64 (Ve .i64 1 (n.val : Int)) 1 < ((2 ^ l.val : Nat) : Int) ∧ (Ej .i64 (Ve .i64 1 (n.val : Int)) 1).tmod 2 = 0 := by decide +kernel
theorem VL : ∀ o m : Fin 16, (0 ≤ Ej .i64 (o.val : Int) (m.val : Int) ∧ Ej .i64 (o.val : Int) (m.val : Int) ≤ 15) ∧ (0 ≤ Ud .i64 (o.val : Int) (m.val : Int) ∧ Ud .i64 (o.val : Int) (m.val : Int) ≤ 15) := by decide +kernel
structure Zo (nl : Nat) (f o : Int) : Prop where
 f0 : 0 ≤ f
 f1 : f < ((2 ^ nl : Nat) : Int)
 f2 : f.tmod 2 = 0
 o0 : 0 ≤ o
 o1 : o ≤ 15
structure Jw (nl : Nat) (a : Ia) : Prop where
 act : Zc a = true
 n1 : a.1 ≠ 1
 n6 : a.1 ≠ 6
 n7 : a.1 ≠ 7
 n : a.1 ≠ 9 → a.2.2.2.1 < (nl : Int)
theorem C2 {a b : Int} (ha : 0 ≤ a ∧ a ≤ 15) (hb : 0 ≤ b ∧ b ≤ 15) : 0 ≤ Ud .i64 a b ∧ Ud .i64 a b ≤ 15 := by
 obtain ⟨n, rfl⟩ := jv ha.1
 obtain ⟨m, rfl⟩ := jv hb.1
 exact (VL ⟨n, by omega⟩ ⟨m, by omega⟩).2
theorem VZ {a b : Int} (ha : 0 ≤ a ∧ a ≤ 15) (hb : 0 ≤ b ∧ b ≤ 15) : 0 ≤ Ej .i64 a b ∧ Ej .i64 a b ≤ 15 := by
 obtain ⟨n, rfl⟩ := jv ha.1
 obtain ⟨m, rfl⟩ := jv hb.1
 exact (VL ⟨n, by omega⟩ ⟨m, by omega⟩).1
theorem D2 {nl : Nat} (h : nl ≤ 4) : 2 ^ nl ≤ 16 := Nat.pow_le_pow_right (n := 2) (by omega) h
theorem TR {nl : Nat} (hnl : nl ≤ 4) {f o : Int} {c : Bool} {a : Ia} (hs : Zo nl f o) (ha : Jw nl a) :
 Zo nl (Lv f o c a).1 (Lv f o c a).2.1 ∧ Jw nl (Lv f o c a).2.2.2 := by
 have hP := ha.act
 rw [Vb] at hP
 unfold Ub at hP
 have h16 := D2 hnl
 obtain ⟨k, code, mods, n, u⟩ := a
 have hn1 := ha.n1; have hn6 := ha.n6; have hn7 := ha.n7; have hnn := ha.n
 simp only at hP hn1 hn6 hn7 hnn
 have hf1 := hs.f1
 unfold Lv
 simp only
 by_cases h2 : k = 2
 ·subst h2
  by_cases h0 : code = 0
  ·subst h0; exact ⟨hs, ha⟩
  ·rw [show ((2 : Int) == 2) = true from rfl, show (code == 0) = false by simp [h0]]
   simp only [cond_true, cond_false]
   refine ⟨⟨hs.f0, hs.f1, hs.f2, by decide, by decide⟩, ?_⟩
   have hm := C2 (a := mods) (b := o) (by omega) ⟨hs.o0, hs.o1⟩
   refine ⟨?_, hn1, hn6, hn7, hnn⟩
   have hn0 : n = 0 := by omega
   have hcd : 1 ≤ code ∧ code ≤ 56 := by omega
   rw [Vb]
   cases ((c && Nu code) && (decide (code ≤ 26) && (Ej .i64 (Ud .i64 mods o) 2 == 0))) with
   | true => exact .inr (.inl ⟨rfl, hn0, .inr hcd, .inr ⟨by show (1 : Int) ≤ 2; decide, by show (2 : Int) ≤ 15; decide⟩, .inl (by show code ≠ 0; omega)⟩)
   | false =>
    refine .inr (.inl ⟨rfl, hn0, .inr hcd, ?_, .inl (by show code ≠ 0; omega)⟩)
    show Ud .i64 mods o = 0 ∨ 1 ≤ Ud .i64 mods o ∧ Ud .i64 mods o ≤ 15
    omega
 ·rw [show (k == 2) = false by simp [h2]]
  simp only [cond_false]
  by_cases h4 : k = 4
  ·subst h4
   have hr : 1 ≤ n ∧ n ≤ 3 := by omega
   have hlt := hnn (by omega)
   obtain ⟨fn, hfn⟩ := jv hs.f0
   obtain ⟨nn, hnn'⟩ := jv (show 0 ≤ n by omega)
   have hf2 := hs.f2
   rw [hfn] at hf1 hf2
   have hfl : fn < 2 ^ nl := Int.ofNat_lt.1 hf1
   have := WW ⟨fn, by omega⟩ ⟨nn, by omega⟩ ⟨nl, by omega⟩ (by show 1 ≤ nn; omega) (by show nn < nl; omega) hfl (by
    rw [Int.tmod_eq_emod_of_nonneg (by omega)] at hf2; show fn % 2 = 0; omega)
   simp only [show ((4 : Int) == 4) = true from rfl, cond_true]
   rw [hfn, hnn']
   exact ⟨⟨this.1, this.2.1, this.2.2, hs.o0, hs.o1⟩, by rw [← hnn']; exact ha⟩
  ·rw [show (k == 4) = false by simp [h4]]
   simp only [cond_false]
   by_cases h5 : k = 5
   ·subst h5
    have hr : 0 ≤ n ∧ n ≤ 3 := by omega
    have hlt := hnn (by omega)
    obtain ⟨nn, hnn'⟩ := jv (show 0 ≤ n by omega)
    have := TX ⟨nn, by omega⟩ ⟨nl, by omega⟩ (by show nn < nl; omega)
    simp only [show ((5 : Int) == 5) = true from rfl, cond_true]
    rw [hnn']
    exact ⟨⟨this.1, this.2.1, this.2.2, hs.o0, hs.o1⟩, by rw [← hnn']; exact ha⟩
   ·rw [show (k == 5) = false by simp [h5]]
    simp only [cond_false]
    by_cases h8 : k = 8
    ·subst h8
     have hm : 0 ≤ mods ∧ mods ≤ 15 := by omega
     simp only [show ((8 : Int) == 8) = true from rfl, cond_true]
     cases Zn .i64 o mods == mods with
     | true => have := VZ ⟨hs.o0, hs.o1⟩ hm; exact ⟨⟨hs.f0, hs.f1, hs.f2, this.1, this.2⟩, ha⟩
     | false => have := C2 ⟨hs.o0, hs.o1⟩ hm; exact ⟨⟨hs.f0, hs.f1, hs.f2, this.1, this.2⟩, ha⟩
    ·rw [show (k == 8) = false by simp [h8]]
     simp only [cond_false]
     cases k == 10 <;> exact ⟨hs, ha⟩
end KF
